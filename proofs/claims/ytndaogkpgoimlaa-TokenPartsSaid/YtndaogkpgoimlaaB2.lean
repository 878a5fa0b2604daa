/- Walks through the given program's functions, printed op by op by this session's own program; what each computes is told by the plain functions of the texts S... -/
import Derived.Test.YtndaogkpgoimlaaB1
import Derived.Test.YtndaogkpgoimlaaS2
import Derived.KernelRfl
namespace Go.Proofs.Ytndaogkpgoimlaa
open Go Go.RowKit K
set_option linter.unusedVariables false
theorem cb_30 : callable Try.prog 30 = true := by kernel_rfl
theorem cb_32 : callable Try.prog 32 = true := by kernel_rfl
theorem cb_40 : callable Try.prog 40 = true := by kernel_rfl
theorem cb_41 : callable Try.prog 41 = true := by kernel_rfl
theorem cb_42 : callable Try.prog 42 = true := by kernel_rfl
theorem cb_43 : callable Try.prog 43 = true := by kernel_rfl
theorem cb_44 : callable Try.prog 44 = true := by kernel_rfl
theorem cb_45 : callable Try.prog 45 = true := by kernel_rfl
theorem cb_46 : callable Try.prog 46 = true := by kernel_rfl
theorem cb_52 : callable Try.prog 52 = true := by kernel_rfl
theorem cb_53 : callable Try.prog 53 = true := by kernel_rfl
theorem cb_54 : callable Try.prog 54 = true := by kernel_rfl
theorem cb_55 : callable Try.prog 55 = true := by kernel_rfl
theorem cb_58 : callable Try.prog 58 = true := by kernel_rfl
theorem fo_28_0 : fieldOff Try.prog 28 0 = some 0 := by kernel_rfl
theorem fo_28_1 : fieldOff Try.prog 28 1 = some 1 := by kernel_rfl
theorem fo_28_2 : fieldOff Try.prog 28 2 = some 2 := by kernel_rfl
theorem fo_83_0 : fieldOff Try.prog 83 0 = some 0 := by kernel_rfl
theorem fo_83_1 : fieldOff Try.prog 83 1 = some 1 := by kernel_rfl
theorem fo_83_2 : fieldOff Try.prog 83 2 = some 2 := by kernel_rfl
theorem fo_83_3 : fieldOff Try.prog 83 3 = some 3 := by kernel_rfl
theorem rb_21 : isRowB Try.prog 21 = some false := by kernel_rfl
theorem rb_23 : isRowB Try.prog 23 = some false := by kernel_rfl
theorem rb_28 : isRowB Try.prog 28 = some true := by kernel_rfl
theorem rb_4 : isRowB Try.prog 4 = some false := by kernel_rfl
theorem rb_44 : isRowB Try.prog 44 = some false := by kernel_rfl
theorem rb_83 : isRowB Try.prog 83 = some true := by kernel_rfl
theorem ti_23 : TI Try.prog 23 (.slice none 0 0) 1 24 := ⟨by kernel_rfl, rfl⟩
theorem ti_28 : TI Try.prog 28 (.agg #[.slice none 0 0, .bool false, .bool false]) 3 32 := ⟨by kernel_rfl, rfl⟩
theorem ti_4 : TI Try.prog 4 (.bool false) 1 1 := ⟨by kernel_rfl, rfl⟩
theorem ti_44 : TI Try.prog 44 (.slice none 0 0) 1 24 := ⟨by kernel_rfl, rfl⟩
theorem ti_83 : TI Try.prog 83 (.agg #[.int .i32 0, .int .i32 0, .int .i32 0, .int .i32 0]) 4 16 := ⟨by kernel_rfl, rfl⟩
theorem ts_84 : TS Try.prog 84 83 (.agg #[.int .i32 0, .int .i32 0, .int .i32 0, .int .i32 0]) 4 16 := ⟨Try.underlying84, ⟨by kernel_rfl, rfl⟩, by decide, by decide⟩
theorem span_has (I : Snap) (L : List Ch) (W : World) (lo : Int) (hi : Int) (st : Int) (bb : Int) (c : Int) (hh : Hp I L W)  (h0 : 0 ≤ lo) (h1 : hi ≤ 1114111) (h2 : 0 < st) :
    Calls Try.prog 54 #[.agg #[.int .i32 lo, .int .i32 hi, .int .i32 st, .int .i32 bb], .int .i32 c] W (Ret fun v W => v = .bool (spanHas lo hi st c) ∧ Hp I (L) W) := by
  refine enter Try.func54 rfl Try.ntmps54 rfl fun a he => ?_
  refine sq ?_
  refine rg ?_
  refine bx #[.int .i32 lo, .int .i32 hi, .int .i32 st, .int .i32 bb] rfl rfl rfl he hh fun bb1 a W he hh => ?_
  replace hh : Hp I (.obj bb1 (.cells [.int .i32 lo, .int .i32 hi, .int .i32 st, .int .i32 bb].toArray 83) :: _) W := hh
  refine asg rfl rfl he fun a he => ?_
  refine en ?_
  refine sq ?_
  refine rg ?_
  refine mv rfl rfl he fun a he => ?_
  refine fa fo_83_0 rfl rfl he fun a he => ?_
  refine ld rb_21 rfl (ocell hh.at0 rfl) rfl he fun a he => ?_
  refine ge rfl rfl rfl he fun a he => ?_
  refine mv rfl rfl he fun a he => ?_
  refine sd he (t := 9) rfl (fun g1 he => ?_) (fun g1 he => ?_)
  · refine gy rfl he rfl ?_
    refine mv rfl rfl he fun a he => ?_
    refine gy rfl he rfl ?_
    refine fa fo_83_1 rfl rfl he fun a he => ?_
    refine gy rfl he rfl ?_
    refine ld rb_21 rfl (ocell hh.at0 rfl) rfl he fun a he => ?_
    refine gy rfl he rfl ?_
    refine le rfl rfl rfl he fun a he => ?_
    refine pkt rfl rfl rfl he fun a he => ?_
    refine mv rfl rfl he fun a he => ?_
    refine sd he (t := 15) rfl (fun g2 he => ?_) (fun g2 he => ?_)
    · refine gy rfl he rfl ?_
      refine mv rfl rfl he fun a he => ?_
      refine gy rfl he rfl ?_
      refine fa fo_83_0 rfl rfl he fun a he => ?_
      refine gy rfl he rfl ?_
      refine ld rb_21 rfl (ocell hh.at0 rfl) rfl he fun a he => ?_
      refine gy rfl he rfl ?_
      refine su (c - lo) rfl rfl (w32 (by omega) (by omega)) rfl he fun a he => ?_
      refine gy rfl he rfl ?_
      refine fa fo_83_2 rfl rfl he fun a he => ?_
      refine gy rfl he rfl ?_
      refine ld rb_21 rfl (ocell hh.at0 rfl) rfl he fun a he => ?_
      refine gy rfl he rfl ?_
      refine rm ((c - lo).tmod st) rfl rfl (by omega) (rfl) rfl he fun a he => ?_
      refine gy rfl he rfl ?_
      refine eq rfl rfl rfl he fun a he => ?_
      refine pkt rfl rfl rfl he fun a he => ?_
      refine asg rfl rfl he fun a he => ?_
      refine en ?_
      refine rt ?_
      refine rets1 Try.results54 he rfl (Ret.mk ?_)
      replace hh := hh.drop
      exact ⟨by simp only [spanHas]; simp [*], hh⟩
    · refine gn rfl rfl he rfl rfl fun a he => ?_
      refine gn rfl rfl he rfl rfl fun a he => ?_
      refine gn rfl rfl he rfl rfl fun a he => ?_
      refine gn rfl rfl he rfl rfl fun a he => ?_
      refine gn rfl rfl he rfl rfl fun a he => ?_
      refine gn rfl rfl he rfl rfl fun a he => ?_
      refine gn rfl rfl he rfl rfl fun a he => ?_
      refine gn rfl rfl he rfl rfl fun a he => ?_
      refine pkf rfl rfl rfl he fun a he => ?_
      refine asg rfl rfl he fun a he => ?_
      refine en ?_
      refine rt ?_
      refine rets1 Try.results54 he rfl (Ret.mk ?_)
      replace hh := hh.drop
      exact ⟨by simp only [spanHas]; simp [*], hh⟩
  · refine gn rfl rfl he rfl rfl fun a he => ?_
    refine gn rfl rfl he rfl rfl fun a he => ?_
    refine gn rfl rfl he rfl rfl fun a he => ?_
    refine gn rfl rfl he rfl rfl fun a he => ?_
    refine pkf rfl rfl rfl he fun a he => ?_
    refine mv rfl rfl he fun a he => ?_
    refine gn rfl rfl he rfl rfl fun a he => ?_
    refine gn rfl rfl he rfl rfl fun a he => ?_
    refine gn rfl rfl he rfl rfl fun a he => ?_
    refine gn rfl rfl he rfl rfl fun a he => ?_
    refine gn rfl rfl he rfl rfl fun a he => ?_
    refine gn rfl rfl he rfl rfl fun a he => ?_
    refine gn rfl rfl he rfl rfl fun a he => ?_
    refine gn rfl rfl he rfl rfl fun a he => ?_
    refine pkf rfl rfl rfl he fun a he => ?_
    refine asg rfl rfl he fun a he => ?_
    refine en ?_
    refine rt ?_
    refine rets1 Try.results54 he rfl (Ret.mk ?_)
    replace hh := hh.drop
    exact ⟨by simp only [spanHas]; simp [*], hh⟩

theorem fold_Fold (I : Snap) (L : List Ch) (W : World) (c : Int) (hh : Hp I L W)  :
    Calls Try.prog 55 #[.int .i32 c] W (Ret fun v W => v = .int .i32 (foldN c) ∧ Hp I (L) W) := by
  refine enter Try.func55 rfl Try.ntmps55 rfl fun a he => ?_
  refine sq ?_
  refine rg ?_
  refine asg rfl rfl he fun a he => ?_
  refine en ?_
  refine sq ?_
  refine sq ?_
  refine rg ?_
  refine bld #[.int .i32 65, .int .i32 90, .int .i32 1, .int .i32 32] rfl (by kernel_rfl) rfl he fun a he => ?_
  refine bld #[.int .i32 192, .int .i32 214, .int .i32 1, .int .i32 32] rfl (by kernel_rfl) rfl he fun a he => ?_
  refine bld #[.int .i32 216, .int .i32 222, .int .i32 1, .int .i32 32] rfl (by kernel_rfl) rfl he fun a he => ?_
  refine bld #[.int .i32 256, .int .i32 302, .int .i32 2, .int .i32 1] rfl (by kernel_rfl) rfl he fun a he => ?_
  refine bld #[.int .i32 306, .int .i32 310, .int .i32 2, .int .i32 1] rfl (by kernel_rfl) rfl he fun a he => ?_
  refine bld #[.int .i32 313, .int .i32 327, .int .i32 2, .int .i32 1] rfl (by kernel_rfl) rfl he fun a he => ?_
  refine bld #[.int .i32 330, .int .i32 374, .int .i32 2, .int .i32 1] rfl (by kernel_rfl) rfl he fun a he => ?_
  refine bld #[.int .i32 376, .int .i32 376, .int .i32 1, .int .i32 (-121)] rfl (by kernel_rfl) rfl he fun a he => ?_
  refine bld #[.int .i32 377, .int .i32 381, .int .i32 2, .int .i32 1] rfl (by kernel_rfl) rfl he fun a he => ?_
  refine bld #[.int .i32 913, .int .i32 929, .int .i32 1, .int .i32 32] rfl (by kernel_rfl) rfl he fun a he => ?_
  refine bld #[.int .i32 931, .int .i32 939, .int .i32 1, .int .i32 32] rfl (by kernel_rfl) rfl he fun a he => ?_
  refine bld #[.int .i32 962, .int .i32 962, .int .i32 1, .int .i32 1] rfl (by kernel_rfl) rfl he fun a he => ?_
  refine bld #[.int .i32 1024, .int .i32 1039, .int .i32 1, .int .i32 80] rfl (by kernel_rfl) rfl he fun a he => ?_
  refine bld #[.int .i32 1040, .int .i32 1071, .int .i32 1, .int .i32 32] rfl (by kernel_rfl) rfl he fun a he => ?_
  refine bsl [(0, .agg #[.int .i32 65, .int .i32 90, .int .i32 1, .int .i32 32]), (1, .agg #[.int .i32 192, .int .i32 214, .int .i32 1, .int .i32 32]), (2, .agg #[.int .i32 216, .int .i32 222, .int .i32 1, .int .i32 32]), (3, .agg #[.int .i32 256, .int .i32 302, .int .i32 2, .int .i32 1]), (4, .agg #[.int .i32 306, .int .i32 310, .int .i32 2, .int .i32 1]), (5, .agg #[.int .i32 313, .int .i32 327, .int .i32 2, .int .i32 1]), (6, .agg #[.int .i32 330, .int .i32 374, .int .i32 2, .int .i32 1]), (7, .agg #[.int .i32 376, .int .i32 376, .int .i32 1, .int .i32 (-121)]), (8, .agg #[.int .i32 377, .int .i32 381, .int .i32 2, .int .i32 1]), (9, .agg #[.int .i32 913, .int .i32 929, .int .i32 1, .int .i32 32]), (10, .agg #[.int .i32 931, .int .i32 939, .int .i32 1, .int .i32 32]), (11, .agg #[.int .i32 962, .int .i32 962, .int .i32 1, .int .i32 1]), (12, .agg #[.int .i32 1024, .int .i32 1039, .int .i32 1, .int .i32 80]), (13, .agg #[.int .i32 1040, .int .i32 1071, .int .i32 1, .int .i32 32])] [.int .i32 65, .int .i32 90, .int .i32 1, .int .i32 32, .int .i32 192, .int .i32 214, .int .i32 1, .int .i32 32, .int .i32 216, .int .i32 222, .int .i32 1, .int .i32 32, .int .i32 256, .int .i32 302, .int .i32 2, .int .i32 1, .int .i32 306, .int .i32 310, .int .i32 2, .int .i32 1, .int .i32 313, .int .i32 327, .int .i32 2, .int .i32 1, .int .i32 330, .int .i32 374, .int .i32 2, .int .i32 1, .int .i32 376, .int .i32 376, .int .i32 1, .int .i32 (-121), .int .i32 377, .int .i32 381, .int .i32 2, .int .i32 1, .int .i32 913, .int .i32 929, .int .i32 1, .int .i32 32, .int .i32 931, .int .i32 939, .int .i32 1, .int .i32 32, .int .i32 962, .int .i32 962, .int .i32 1, .int .i32 1, .int .i32 1024, .int .i32 1039, .int .i32 1, .int .i32 80, .int .i32 1040, .int .i32 1071, .int .i32 1, .int .i32 32] ts_84 rfl rfl rfl rfl rfl rfl rfl he hh fun bb1 a W he hh => ?_
  replace hh := hh.re (n' := spansF.length) (cs' := spansF.flatMap spanc) rfl rfl
  replace he := he.be (t := 19) (v' := .slice (some ⟨bb1, 0, none⟩) spansF.length 14) rfl rfl
  have h14 : spansF.length = 14 := rfl
  refine ln Try.underlying84 rfl rfl he fun a he => ?_
  refine mv rfl rfl he fun a he => ?_
  refine en ?_
  refine bk ?_
  refine lp (fun (i : Nat) a w => Env 34 [(0, .int .i32 c), (19, .slice (some ⟨bb1, 0, none⟩) spansF.length 14), (20, .int .i64 ((spansF.length : Nat) : Int)), (21, .int .i64 ((i : Nat) : Int))] a ∧ Hp I (.row (some ⟨bb1, 0, none⟩) spansF.length 14 83 4 (spansF.flatMap spanc) :: L) w ∧ i ≤ 14 ∧ ((∀ j, j < i → ∀ y, spansF[j]? = some y → y.has c = false)))
      (fun i => 14 - i) 0 ⟨he.keep [0, 19, 20, 21] rfl, hh, Nat.zero_le _, fun j hj => absurd hj (Nat.not_lt_zero _)⟩ fun i a W hinv => ?_
  obtain ⟨he, hh, hi, hno⟩ := hinv
  refine sq ?_
  refine rg ?_
  refine lt rfl rfl rfl he fun a he => ?_
  refine en ?_
  refine sq ?_
  refine cnd he rfl (fun h2 => ?_) (fun h2 => ?_)
  · replace h2 : i < spansF.length := by omega
    refine sk ?_
    refine nm_then ?_
    refine sq ?_
    refine bk ?_
    refine sq ?_
    refine rg ?_
    obtain ⟨x, hx⟩ := idx_some (xs := spansF) (i := i) (by omega)
    refine ian (xs := spansF) (enc := spanc) (i) ts_84 (by decide) (spanc_len) rfl rfl (Ch.rd hh.at0) hx rfl he fun bb3 oo4 a hc5 he => ?_
    refine ldA [.int .i32 x.lo, .int .i32 x.hi, .int .i32 x.step, .int .i32 x.by_] rb_83 ti_83 rfl hc5 rfl rfl he fun a he => ?_
    have hok := spansF_ok x (List.mem_of_getElem? hx)
    unfold Span.ok at hok
    refine al ti_83 rfl he hh fun bb6 a W he hh => ?_
    replace hh : Hp I (.obj bb6 (.cells [.int .i32 0, .int .i32 0, .int .i32 0, .int .i32 0].toArray 83) :: _) W := hh
    refine st #[.int .i32 x.lo, .int .i32 x.hi, .int .i32 x.step, .int .i32 x.by_] ti_83 rfl rfl rfl rfl (by simp [Value.oneCell']) (by simp) he hh fun W hh => ?_
    replace hh : Hp I (.obj bb6 (.cells [.int .i32 x.lo, .int .i32 x.hi, .int .i32 x.step, .int .i32 x.by_].toArray 83) :: _) W := hh
    refine en ?_
    refine sq ?_
    refine rg ?_
    refine ldA [.int .i32 x.lo, .int .i32 x.hi, .int .i32 x.step, .int .i32 x.by_] rb_83 ti_83 rfl ((Rd.obj hh.at0 0).take 4) rfl rfl he fun a he => ?_
    refine mv rfl rfl he fun a he => ?_
    refine cal cb_54 rfl (span_has _ _ _ x.lo x.hi x.step x.by_ c hh (by omega) (by omega) (by omega)) rfl he fun v a W hp he => ?_
    obtain ⟨rfl, hh⟩ := hp
    refine en ?_
    refine cnb he rfl (fun hq => ?_) (fun hq => ?_)
    · have hbd := has_bounds (x := x) hq
      refine sq ?_
      refine rg ?_
      refine mv rfl rfl he fun a he => ?_
      refine fa fo_83_3 rfl rfl he fun a he => ?_
      refine ld rb_21 rfl (ocell hh.at0 rfl) rfl he fun a he => ?_
      refine ad (c + x.by_) rfl rfl (w32 (by omega) (by omega)) rfl he fun a he => ?_
      refine asg rfl rfl he fun a he => ?_
      refine en ?_
      refine rt ?_
      refine rets1 Try.results55 he rfl (Ret.mk ?_)
      rw [foldN_at hno hx hq]
      replace hh := hh.drop
      replace hh := hh.drop
      exact ⟨rfl, hh⟩
    · refine sk ?_
      refine nm_blk ?_
      refine nm_then ?_
      refine rg ?_
      refine ad (((i + 1) : Nat) : Int) rfl rfl (w64 (by omega) (by omega)) rfl he fun a he => ?_
      refine mv rfl rfl he fun a he => ?_
      refine en ?_
      replace hh := hh.drop
      exact ⟨i + 1, ⟨he.keep [0, 19, 20, 21] rfl, hh, by omega, no_next hno hx hq⟩, by show 14 - (i + 1) < 14 - i; omega⟩
  · replace h2 : ¬ (i < spansF.length) := by omega
    refine ext ?_
    refine ex_then ?_
    refine ex_then ?_
    refine ex_in ?_
    refine nm_then ?_
    refine sq ?_
    refine rg ?_
    refine mv rfl rfl he fun a he => ?_
    refine asg rfl rfl he fun a he => ?_
    refine en ?_
    refine rt ?_
    refine rets1 Try.results55 he rfl (Ret.mk ?_)
    rw [foldN_no hno (by have : spansF.length = 14 := rfl; omega)]
    replace hh := hh.drop
    exact ⟨rfl, hh⟩

theorem letter_1 (I : Snap) (L : List Ch) (W : World) (lo : Int) (hi : Int) (st : Int) (bb : Int) (b_q : Nat) (c : Int) (hh : Hp I L W) (r_q : I.blk b_q = some (.cells #[.int .i32 c] 21)) (h0 : 0 ≤ lo) (h1 : hi ≤ 1114111) (h2 : 0 < st) :
    Calls Try.prog 53 #[.agg #[.int .i32 lo, .int .i32 hi, .int .i32 st, .int .i32 bb], .pointer (some ⟨b_q, 0, none⟩)] W (Ret fun v W => v = .bool (spanHas lo hi st c) ∧ Hp I (L) W) := by
  refine enter Try.func53 rfl Try.ntmps53 rfl fun a he => ?_
  refine sq ?_
  refine rg ?_
  refine bx #[.int .i32 lo, .int .i32 hi, .int .i32 st, .int .i32 bb] rfl rfl rfl he hh fun bb1 a W he hh => ?_
  replace hh : Hp I (.obj bb1 (.cells [.int .i32 lo, .int .i32 hi, .int .i32 st, .int .i32 bb].toArray 83) :: _) W := hh
  refine asg rfl rfl he fun a he => ?_
  refine en ?_
  refine sq ?_
  refine rg ?_
  refine ldA [.int .i32 lo, .int .i32 hi, .int .i32 st, .int .i32 bb] rb_83 ti_83 rfl ((Rd.obj hh.at0 0).take 4) rfl rfl he fun a he => ?_
  refine ld rb_21 rfl (hh.icell r_q rfl) rfl he fun a he => ?_
  refine cal cb_54 rfl (span_has _ _ _ lo hi st bb c hh h0 h1 h2) rfl he fun v a W hp he => ?_
  obtain ⟨rfl, hh⟩ := hp
  refine asg rfl rfl he fun a he => ?_
  refine en ?_
  refine rt ?_
  refine rets1 Try.results53 he rfl (Ret.mk ?_)
  replace hh := hh.drop
  exact ⟨rfl, hh⟩

theorem idx_span (I : Snap) (L : List Ch) (W : World) (A_xs : Option Addr) (c_xs : Nat) (xs : List Span) (b_q : Nat) (c : Int) (hh : Hp I L W) (h_xs : Fz I A_xs (xs.flatMap spanc)) (k_xs : xs.length ≤ c_xs) (r_q : I.blk b_q = some (.cells #[.int .i32 c] 21)) (hall : ∀ x ∈ xs, Span.ok x) (hlen : xs.length ≤ 1000) :
    Calls Try.prog 58 #[.slice A_xs xs.length c_xs, .func (.func 53) #[] #[.pointer (some ⟨b_q, 0, none⟩)]] W (Ret fun v W => v = .int .i64 (idxSpan xs c) ∧ Hp I (L) W) := by
  refine enter Try.func58 rfl Try.ntmps58 rfl fun a he => ?_
  refine sq ?_
  refine rg ?_
  refine asg rfl rfl he fun a he => ?_
  refine en ?_
  refine sq ?_
  refine sq ?_
  refine rg ?_
  refine mv rfl rfl he fun a he => ?_
  refine ln Try.underlying84 rfl rfl he fun a he => ?_
  refine mv rfl rfl he fun a he => ?_
  refine en ?_
  refine bk ?_
  refine lp (fun (i : Nat) a w => Env 19 [(0, .slice A_xs xs.length c_xs), (1, .func (.func 53) #[] #[.pointer (some ⟨b_q, 0, none⟩)]), (7, .int .i64 ((xs.length : Nat) : Int)), (8, .int .i64 ((i : Nat) : Int))] a ∧ Hp I (L) w ∧ i ≤ xs.length ∧ ((∀ j, j < i → ∀ y, xs[j]? = some y → y.has c = false)))
      (fun i => xs.length - i) 0 ⟨he.keep [0, 1, 7, 8] rfl, hh, Nat.zero_le _, fun j hj => absurd hj (Nat.not_lt_zero _)⟩ fun i a W hinv => ?_
  obtain ⟨he, hh, hi, hno⟩ := hinv
  refine sq ?_
  refine rg ?_
  refine lt rfl rfl rfl he fun a he => ?_
  refine en ?_
  refine sq ?_
  refine cnd he rfl (fun h1 => ?_) (fun h1 => ?_)
  · replace h1 : i < xs.length := by omega
    refine sk ?_
    refine nm_then ?_
    refine sq ?_
    refine bk ?_
    refine sq ?_
    refine rg ?_
    refine mv rfl rfl he fun a he => ?_
    refine asg rfl rfl he fun a he => ?_
    refine en ?_
    refine sq ?_
    refine rg ?_
    refine mv rfl rfl he fun a he => ?_
    refine mv rfl rfl he fun a he => ?_
    refine mv rfl rfl he fun a he => ?_
    obtain ⟨x, hx⟩ := idx_some (xs := xs) (i := i) (by omega)
    refine ian (xs := xs) (enc := spanc) (i) ts_84 (by decide) (spanc_len) rfl rfl (h_xs.rd hh) hx rfl he fun bb2 oo3 a hc4 he => ?_
    refine ldA [.int .i32 x.lo, .int .i32 x.hi, .int .i32 x.step, .int .i32 x.by_] rb_83 ti_83 rfl hc4 rfl rfl he fun a he => ?_
    have hok := hall x (List.mem_of_getElem? hx)
    unfold Span.ok at hok
    refine calc' (us := [.agg #[.int .i32 x.lo, .int .i32 x.hi, .int .i32 x.step, .int .i32 x.by_], .pointer (some ⟨b_q, 0, none⟩)]) cb_53 rfl rfl (by simp) (letter_1 _ _ _ x.lo x.hi x.step x.by_ b_q c hh r_q (by omega) (by omega) (by omega)) rfl he fun v a W hp he => ?_
    obtain ⟨rfl, hh⟩ := hp
    refine en ?_
    refine cnb he rfl (fun hq => ?_) (fun hq => ?_)
    · refine sq ?_
      refine rg ?_
      refine mv rfl rfl he fun a he => ?_
      refine asg rfl rfl he fun a he => ?_
      refine en ?_
      refine rt ?_
      refine rets1 Try.results58 he rfl (Ret.mk ?_)
      rw [idx_at hno hx hq]
      exact ⟨rfl, hh⟩
    · refine sk ?_
      refine nm_blk ?_
      refine nm_then ?_
      refine rg ?_
      refine ad (((i + 1) : Nat) : Int) rfl rfl (w64 (by omega) (by omega)) rfl he fun a he => ?_
      refine mv rfl rfl he fun a he => ?_
      refine en ?_
      exact ⟨i + 1, ⟨he.keep [0, 1, 7, 8] rfl, hh, by omega, no_next hno hx hq⟩, by show xs.length - (i + 1) < xs.length - i; omega⟩
  · replace h1 : ¬ (i < xs.length) := by omega
    refine ext ?_
    refine ex_then ?_
    refine ex_then ?_
    refine ex_in ?_
    refine nm_then ?_
    refine sq ?_
    refine rg ?_
    refine asg rfl rfl he fun a he => ?_
    refine en ?_
    refine rt ?_
    refine rets1 Try.results58 he rfl (Ret.mk ?_)
    rw [idx_no hno (by omega)]
    exact ⟨rfl, hh⟩

theorem contains_span (I : Snap) (L : List Ch) (W : World) (A_xs : Option Addr) (c_xs : Nat) (xs : List Span) (b_q : Nat) (c : Int) (hh : Hp I L W) (h_xs : Fz I A_xs (xs.flatMap spanc)) (k_xs : xs.length ≤ c_xs) (r_q : I.blk b_q = some (.cells #[.int .i32 c] 21)) (hall : ∀ x ∈ xs, Span.ok x) (hlen : xs.length ≤ 1000) :
    Calls Try.prog 52 #[.slice A_xs xs.length c_xs, .func (.func 53) #[] #[.pointer (some ⟨b_q, 0, none⟩)]] W (Ret fun v W => v = .bool (decide (0 ≤ idxSpan xs c)) ∧ Hp I (L) W) := by
  refine enter Try.func52 rfl Try.ntmps52 rfl fun a he => ?_
  refine sq ?_
  refine rg ?_
  refine asg rfl rfl he fun a he => ?_
  refine en ?_
  refine sq ?_
  refine rg ?_
  refine mv rfl rfl he fun a he => ?_
  refine mv rfl rfl he fun a he => ?_
  refine cal cb_58 rfl (idx_span _ _ _ A_xs c_xs xs b_q c hh h_xs k_xs r_q hall hlen) rfl he fun v a W hp he => ?_
  obtain ⟨rfl, hh⟩ := hp
  refine ge rfl rfl rfl he fun a he => ?_
  refine asg rfl rfl he fun a he => ?_
  refine en ?_
  refine rt ?_
  refine rets1 Try.results52 he rfl (Ret.mk ?_)
  exact ⟨rfl, hh⟩

theorem fold_Letter (I : Snap) (L : List Ch) (W : World) (c : Int) (hh : Hp I L W)  :
    Calls Try.prog 43 #[.int .i32 c] W (Ret fun v W => ∃ (I' : Snap), v = .bool (letterN c) ∧ I.le I' ∧ Hp I' (L) W) := by
  refine enter Try.func43 rfl Try.ntmps43 rfl fun a he => ?_
  refine sq ?_
  refine rg ?_
  refine bx #[.int .i32 c] rfl rfl rfl he hh fun bb1 a W he hh => ?_
  replace hh : Hp I (.obj bb1 (.cells [.int .i32 c].toArray 21) :: _) W := hh
  refine asg rfl rfl he fun a he => ?_
  refine en ?_
  refine sq ?_
  refine rg ?_
  refine bld #[.int .i32 65, .int .i32 90, .int .i32 1, .int .i32 0] rfl (by kernel_rfl) rfl he fun a he => ?_
  refine bld #[.int .i32 97, .int .i32 122, .int .i32 1, .int .i32 0] rfl (by kernel_rfl) rfl he fun a he => ?_
  refine bld #[.int .i32 192, .int .i32 214, .int .i32 1, .int .i32 0] rfl (by kernel_rfl) rfl he fun a he => ?_
  refine bld #[.int .i32 216, .int .i32 246, .int .i32 1, .int .i32 0] rfl (by kernel_rfl) rfl he fun a he => ?_
  refine bld #[.int .i32 248, .int .i32 383, .int .i32 1, .int .i32 0] rfl (by kernel_rfl) rfl he fun a he => ?_
  refine bld #[.int .i32 913, .int .i32 929, .int .i32 1, .int .i32 0] rfl (by kernel_rfl) rfl he fun a he => ?_
  refine bld #[.int .i32 931, .int .i32 974, .int .i32 1, .int .i32 0] rfl (by kernel_rfl) rfl he fun a he => ?_
  refine bld #[.int .i32 1024, .int .i32 1119, .int .i32 1, .int .i32 0] rfl (by kernel_rfl) rfl he fun a he => ?_
  refine bsl [(0, .agg #[.int .i32 65, .int .i32 90, .int .i32 1, .int .i32 0]), (1, .agg #[.int .i32 97, .int .i32 122, .int .i32 1, .int .i32 0]), (2, .agg #[.int .i32 192, .int .i32 214, .int .i32 1, .int .i32 0]), (3, .agg #[.int .i32 216, .int .i32 246, .int .i32 1, .int .i32 0]), (4, .agg #[.int .i32 248, .int .i32 383, .int .i32 1, .int .i32 0]), (5, .agg #[.int .i32 913, .int .i32 929, .int .i32 1, .int .i32 0]), (6, .agg #[.int .i32 931, .int .i32 974, .int .i32 1, .int .i32 0]), (7, .agg #[.int .i32 1024, .int .i32 1119, .int .i32 1, .int .i32 0])] [.int .i32 65, .int .i32 90, .int .i32 1, .int .i32 0, .int .i32 97, .int .i32 122, .int .i32 1, .int .i32 0, .int .i32 192, .int .i32 214, .int .i32 1, .int .i32 0, .int .i32 216, .int .i32 246, .int .i32 1, .int .i32 0, .int .i32 248, .int .i32 383, .int .i32 1, .int .i32 0, .int .i32 913, .int .i32 929, .int .i32 1, .int .i32 0, .int .i32 931, .int .i32 974, .int .i32 1, .int .i32 0, .int .i32 1024, .int .i32 1119, .int .i32 1, .int .i32 0] ts_84 rfl rfl rfl rfl rfl rfl rfl he hh fun bb2 a W he hh => ?_
  replace hh := hh.re (n' := spansL.length) (cs' := spansL.flatMap spanc) rfl rfl
  replace he := he.be (t := 12) (v' := .slice (some ⟨bb2, 0, none⟩) spansL.length 8) rfl rfl
  refine asg rfl rfl he fun a he => ?_
  refine en ?_
  refine sq ?_
  refine rg ?_
  refine mv rfl rfl he fun a he => ?_
  refine mkf (vs := []) (ws := [.pointer (some ⟨bb1, 0, none⟩)]) rfl rfl rfl he fun a he => ?_
  replace hh := hh.up1
  obtain ⟨I3, hl4, hh, hb5⟩ := hh.freezeObj
  have hc9 := (Ch.rowcap hh.at0).1
  obtain ⟨I6, hl7, hh, hf8⟩ := hh.freezeRow
  refine cal cb_52 rfl (contains_span _ _ _ (some ⟨bb2, 0, none⟩) 8 spansL bb1 c hh hf8 hc9 (hl7.blk _ _ hb5) spansL_ok (by decide)) rfl he fun v a W hp he => ?_
  obtain ⟨rfl, hh⟩ := hp
  refine asg rfl rfl he fun a he => ?_
  refine en ?_
  refine rt ?_
  refine rets1 Try.results43 he rfl (Ret.mk ?_)
  exact ⟨I6, rfl, (hl4.trans hl7), hh⟩

theorem fold_Mark (I : Snap) (L : List Ch) (W : World) (c : Int) (hh : Hp I L W)  :
    Calls Try.prog 45 #[.int .i32 c] W (Ret fun v W => v = .bool (markN c) ∧ Hp I (L) W) := by
  refine enter Try.func45 rfl Try.ntmps45 rfl fun a he => ?_
  refine sq ?_
  refine rg ?_
  refine asg rfl rfl he fun a he => ?_
  refine en ?_
  refine sq ?_
  refine rg ?_
  refine mv rfl rfl he fun a he => ?_
  refine eq rfl rfl rfl he fun a he => ?_
  refine mv rfl rfl he fun a he => ?_
  refine sd he (t := 5) rfl (fun h1 he => ?_) (fun h1 he => ?_)
  · refine gn rfl rfl he rfl rfl fun a he => ?_
    refine gn rfl rfl he rfl rfl fun a he => ?_
    refine pkt rfl rfl rfl he fun a he => ?_
    refine asg rfl rfl he fun a he => ?_
    refine en ?_
    refine rt ?_
    refine rets1 Try.results45 he rfl (Ret.mk ?_)
    exact ⟨by simp only [markN]; simp [*], hh⟩
  · refine gy rfl he rfl ?_
    refine mv rfl rfl he fun a he => ?_
    refine gy rfl he rfl ?_
    refine eq rfl rfl rfl he fun a he => ?_
    refine pkf rfl rfl rfl he fun a he => ?_
    refine asg rfl rfl he fun a he => ?_
    refine en ?_
    refine rt ?_
    refine rets1 Try.results45 he rfl (Ret.mk ?_)
    exact ⟨by simp only [markN]; simp [*], hh⟩

theorem words_on (I : Snap) (L : List Ch) (W : World) (A_wd : Option Addr) (c_wd : Nat) (wd : List Int) (mk : Bool) (lg : Bool) (hh : Hp I L W) (h_wd : Fz I A_wd (wd.map r32)) (k_wd : wd.length ≤ c_wd) :
    Calls Try.prog 46 #[.agg #[.slice A_wd wd.length c_wd, .bool mk, .bool lg]] W (Ret fun v W => v = .bool (onW wd lg) ∧ Hp I (L) W) := by
  refine enter Try.func46 rfl Try.ntmps46 rfl fun a he => ?_
  refine sq ?_
  refine rg ?_
  refine bx #[.slice A_wd wd.length c_wd, .bool mk, .bool lg] rfl rfl rfl he hh fun bb1 a W he hh => ?_
  replace hh : Hp I (.obj bb1 (.cells [.slice A_wd wd.length c_wd, .bool mk, .bool lg].toArray 28) :: _) W := hh
  refine asg rfl rfl he fun a he => ?_
  refine en ?_
  refine sq ?_
  refine rg ?_
  refine fa fo_28_0 rfl rfl he fun a he => ?_
  refine ld rb_23 rfl (ocell hh.at0 rfl) rfl he fun a he => ?_
  refine ln Try.underlying23 rfl rfl he fun a he => ?_
  refine gt rfl rfl rfl he fun a he => ?_
  refine mv rfl rfl he fun a he => ?_
  refine sd he (t := 7) rfl (fun h2 he => ?_) (fun h2 he => ?_)
  · replace h2 : 0 < wd.length := by omega
    refine gn rfl rfl he rfl rfl fun a he => ?_
    refine gn rfl rfl he rfl rfl fun a he => ?_
    refine pkt rfl rfl rfl he fun a he => ?_
    refine asg rfl rfl he fun a he => ?_
    refine en ?_
    refine rt ?_
    refine rets1 Try.results46 he rfl (Ret.mk ?_)
    replace hh := hh.drop
    exact ⟨by simp only [onW]; simp [*], hh⟩
  · replace h2 : ¬ (0 < wd.length) := by omega
    refine gy rfl he rfl ?_
    refine fa fo_28_2 rfl rfl he fun a he => ?_
    refine gy rfl he rfl ?_
    refine ld rb_4 rfl (ocell hh.at0 rfl) rfl he fun a he => ?_
    refine pkf rfl rfl rfl he fun a he => ?_
    refine asg rfl rfl he fun a he => ?_
    refine en ?_
    refine rt ?_
    refine rets1 Try.results46 he rfl (Ret.mk ?_)
    replace hh := hh.drop
    exact ⟨by simp only [onW]; simp [*], hh⟩

theorem words_word (I : Snap) (L : List Ch) (W : World) (A_wd : Option Addr) (c_wd : Nat) (wd : List Int) (mk : Bool) (lg : Bool) (hh : Hp I L W) (h_wd : Fz I A_wd (wd.map r32)) (k_wd : wd.length ≤ c_wd) :
    Calls Try.prog 41 #[.agg #[.slice A_wd wd.length c_wd, .bool mk, .bool lg]] W (Ret fun v W => v = .tuple #[.string (runesBytes wd), .bool (decide (0 < wd.length) && !lg)] ∧ Hp I (L) W) := by
  refine enter Try.func41 rfl Try.ntmps41 rfl fun a he => ?_
  refine sq ?_
  refine rg ?_
  refine bx #[.slice A_wd wd.length c_wd, .bool mk, .bool lg] rfl rfl rfl he hh fun bb1 a W he hh => ?_
  replace hh : Hp I (.obj bb1 (.cells [.slice A_wd wd.length c_wd, .bool mk, .bool lg].toArray 28) :: _) W := hh
  refine asg rfl rfl he fun a he => ?_
  refine asg rfl rfl he fun a he => ?_
  refine en ?_
  refine sq ?_
  refine rgd (SH I [.obj bb1 (.cells ([.slice A_wd wd.length c_wd, .bool mk, .bool lg]).toArray 28)]) 14 mixo rfl hh fun W hh => ?_
  refine ahp (d := 4) (v := .pointer (some ⟨bb1, 0, none⟩)) 0 rfl (by kernel_rfl) (by kernel_rfl) (by kernel_rfl) rfl rfl rfl he ⟨_, _, (Snap.le.refl _), hh⟩ (fun W hS => by
      refine fa fo_28_0 rfl rfl he fun a he => ?_
      exact aqe he) fun a he => ?_
  refine ahp (d := 5) (v := .slice A_wd wd.length c_wd) 1 rfl (by kernel_rfl) (by kernel_rfl) (by kernel_rfl) rfl rfl rfl he ⟨_, _, (Snap.le.refl _), hh⟩ (fun W hS => by
      obtain ⟨I2, _, hleI2, hh⟩ := hS
      refine ld rb_23 rfl (ocell hh.at0 rfl) rfl he fun a he => ?_
      exact aqe he) fun a he => ?_
  refine ahp (d := 6) (v := .string (runesBytes wd)) 2 rfl (by kernel_rfl) (by kernel_rfl) (by kernel_rfl) rfl rfl rfl he ⟨_, _, (Snap.le.refl _), hh⟩ (fun W hS => by
      obtain ⟨I3, _, hleI3, hh⟩ := hS
      refine cvrs wd Try.underlying23 Try.underlying21 Try.underlying9 rfl ((h_wd.up hleI3).rd hh) (by simp) rfl he fun a he => ?_
      exact aqe he) fun a he => ?_
  refine ahp (d := 7) (v := .pointer (some ⟨bb1, 0, none⟩)) 3 rfl (by kernel_rfl) (by kernel_rfl) (by kernel_rfl) rfl rfl rfl he ⟨_, _, (Snap.le.refl _), hh⟩ (fun W hS => by
      refine fa fo_28_0 rfl rfl he fun a he => ?_
      exact aqe he) fun a he => ?_
  refine ahp (d := 8) (v := .slice A_wd wd.length c_wd) 4 rfl (by kernel_rfl) (by kernel_rfl) (by kernel_rfl) rfl rfl rfl he ⟨_, _, (Snap.le.refl _), hh⟩ (fun W hS => by
      obtain ⟨I4, _, hleI4, hh⟩ := hS
      refine ld rb_23 rfl (ocell hh.at0 rfl) rfl he fun a he => ?_
      exact aqe he) fun a he => ?_
  refine ahp (d := 9) (v := .int .i64 ((wd.length : Nat) : Int)) 5 rfl (by kernel_rfl) (by kernel_rfl) (by kernel_rfl) rfl rfl rfl he ⟨_, _, (Snap.le.refl _), hh⟩ (fun W hS => by
      refine ln Try.underlying23 rfl rfl he fun a he => ?_
      exact aqe he) fun a he => ?_
  refine ahp (d := 10) (v := .bool (decide ((0 : Int) < ((wd.length : Nat) : Int)))) 6 rfl (by kernel_rfl) (by kernel_rfl) (by kernel_rfl) rfl rfl rfl he ⟨_, _, (Snap.le.refl _), hh⟩ (fun W hS => by
      refine gt rfl rfl rfl he fun a he => ?_
      exact aqe he) fun a he => ?_
  refine ahp (d := 11) (v := .bool (decide ((0 : Int) < ((wd.length : Nat) : Int)))) 7 rfl (by kernel_rfl) (by kernel_rfl) (by kernel_rfl) rfl rfl rfl he ⟨_, _, (Snap.le.refl _), hh⟩ (fun W hS => by
      refine mv rfl rfl he fun a he => ?_
      exact aqe he) fun a he => ?_
  by_cases h5 : (0 : Int) < ((wd.length : Nat) : Int)
  · replace he := he.be (t := 11) (v' := .bool true) rfl (by rw [decide_eq_true h5])
    replace h5 : 0 < wd.length := by omega
    refine ahp (d := 12) (v := .pointer (some ⟨bb1, 2, none⟩)) 8 rfl (by kernel_rfl) (by kernel_rfl) (by kernel_rfl) rfl rfl rfl he ⟨_, _, (Snap.le.refl _), hh⟩ (fun W hS => by
        refine gy rfl he rfl ?_
        refine fa fo_28_2 rfl rfl he fun a he => ?_
        exact aqe he) fun a he => ?_
    refine ahp (d := 13) (v := .bool lg) 9 rfl (by kernel_rfl) (by kernel_rfl) (by kernel_rfl) rfl rfl rfl he ⟨_, _, (Snap.le.refl _), hh⟩ (fun W hS => by
        obtain ⟨I6, _, hleI6, hh⟩ := hS
        refine gy rfl he rfl ?_
        refine ld rb_4 rfl (ocell hh.at0 rfl) rfl he fun a he => ?_
        exact aqe he) fun a he => ?_
    refine ahp (d := 14) (v := .bool (!lg)) 10 rfl (by kernel_rfl) (by kernel_rfl) (by kernel_rfl) rfl rfl rfl he ⟨_, _, (Snap.le.refl _), hh⟩ (fun W hS => by
        refine gy rfl he rfl ?_
        refine nt rfl rfl he fun a he => ?_
        exact aqe he) fun a he => ?_
    refine ahp (d := 15) (v := .bool (!lg)) 11 rfl (by kernel_rfl) (by kernel_rfl) (by kernel_rfl) rfl rfl rfl he ⟨_, _, (Snap.le.refl _), hh⟩ (fun W hS => by
        refine pkt rfl rfl rfl he fun a he => ?_
        exact aqe he) fun a he => ?_
    refine ahp (d := 2) (v := .string (runesBytes wd)) 12 rfl (by kernel_rfl) (by kernel_rfl) (by kernel_rfl) rfl rfl rfl he ⟨_, _, (Snap.le.refl _), hh⟩ (fun W hS => by
        refine asg rfl rfl he fun a he => ?_
        exact aqe he) fun a he => ?_
    refine ahp (d := 3) (v := .bool (!lg)) 13 rfl (by kernel_rfl) (by kernel_rfl) (by kernel_rfl) rfl rfl rfl he ⟨_, _, (Snap.le.refl _), hh⟩ (fun W hS => by
        refine asg rfl rfl he fun a he => ?_
        exact aqe he) fun a he => ?_
    refine ahd (by kernel_rfl) ?_
    refine en ?_
    refine rt ?_
    refine rets2 Try.results41 he rfl rfl (Ret.mk ?_)
    replace hh := hh.drop
    exact ⟨by simp [*], hh⟩
  · replace he := he.be (t := 11) (v' := .bool false) rfl (by rw [decide_eq_false h5])
    replace h5 : ¬ (0 < wd.length) := by omega
    refine ahn 8 rfl (by kernel_rfl) (by kernel_rfl) (by kernel_rfl) rfl rfl he rfl rfl ⟨_, _, (Snap.le.refl _), hh⟩ fun a he => ?_
    refine ahn 9 rfl (by kernel_rfl) (by kernel_rfl) (by kernel_rfl) rfl rfl he rfl rfl ⟨_, _, (Snap.le.refl _), hh⟩ fun a he => ?_
    refine ahn 10 rfl (by kernel_rfl) (by kernel_rfl) (by kernel_rfl) rfl rfl he rfl rfl ⟨_, _, (Snap.le.refl _), hh⟩ fun a he => ?_
    refine ahp (d := 15) (v := .bool false) 11 rfl (by kernel_rfl) (by kernel_rfl) (by kernel_rfl) rfl rfl rfl he ⟨_, _, (Snap.le.refl _), hh⟩ (fun W hS => by
        refine pkf rfl rfl rfl he fun a he => ?_
        exact aqe he) fun a he => ?_
    refine ahp (d := 2) (v := .string (runesBytes wd)) 12 rfl (by kernel_rfl) (by kernel_rfl) (by kernel_rfl) rfl rfl rfl he ⟨_, _, (Snap.le.refl _), hh⟩ (fun W hS => by
        refine asg rfl rfl he fun a he => ?_
        exact aqe he) fun a he => ?_
    refine ahp (d := 3) (v := .bool false) 13 rfl (by kernel_rfl) (by kernel_rfl) (by kernel_rfl) rfl rfl rfl he ⟨_, _, (Snap.le.refl _), hh⟩ (fun W hS => by
        refine asg rfl rfl he fun a he => ?_
        exact aqe he) fun a he => ?_
    refine ahd (by kernel_rfl) ?_
    refine en ?_
    refine rt ?_
    refine rets2 Try.results41 he rfl rfl (Ret.mk ?_)
    replace hh := hh.drop
    exact ⟨by simp [*], hh⟩

theorem words_letter (I : Snap) (L : List Ch) (W : World) (A_wd : Option Addr) (c_wd : Nat) (wd : List Int) (mk : Bool) (lg : Bool) (c : Int) (hh : Hp I L W) (h_wd : Fz I A_wd (wd.map r32)) (k_wd : wd.length ≤ c_wd) (hb : wd.length ≤ 1000000000000) :
    Calls Try.prog 44 #[.agg #[.slice A_wd wd.length c_wd, .bool mk, .bool lg], .int .i32 c] W (Ret fun v W => ∃ (I' : Snap) (A1 : Option Addr) (c1 : Nat), v = .agg #[.slice A1 ((letterW wd mk lg c).1).length c1, .bool ((letterW wd mk lg c).2.1), .bool ((letterW wd mk lg c).2.2)] ∧ I.le I' ∧ Fz I' A1 (((letterW wd mk lg c).1).map r32) ∧ ((letterW wd mk lg c).1).length ≤ c1 ∧ Hp I' (L) W) := by
  refine enter Try.func44 rfl Try.ntmps44 rfl fun a he => ?_
  refine sq ?_
  refine rg ?_
  refine bx #[.slice A_wd wd.length c_wd, .bool mk, .bool lg] rfl rfl rfl he hh fun bb1 a W he hh => ?_
  replace hh : Hp I (.obj bb1 (.cells [.slice A_wd wd.length c_wd, .bool mk, .bool lg].toArray 28) :: _) W := hh
  refine al ti_28 rfl he hh fun bb2 a W he hh => ?_
  replace hh : Hp I (.obj bb2 (.cells [.slice none 0 0, .bool false, .bool false].toArray 28) :: _) W := hh
  refine en ?_
  refine sq ?_
  refine sq ?_
  refine rg ?_
  refine fa fo_28_2 rfl rfl he fun a he => ?_
  refine ld rb_4 rfl (ocell hh.at1 rfl) rfl he fun a he => ?_
  refine en ?_
  refine cnb he rfl (fun h7 => ?_) (fun h7 => ?_)
  · refine sq ?_
    refine rg ?_
    refine bld #[.slice none 0 0, .bool false, .bool true] rfl (by kernel_rfl) rfl he fun a he => ?_
    refine st #[.slice none 0 0, .bool false, .bool true] ti_28 rfl rfl rfl rfl (by simp [Value.oneCell']) (by simp) he hh fun W hh => ?_
    replace hh : Hp I (.obj bb2 (.cells [.slice none 0 0, .bool false, .bool true].toArray 28) :: _) W := hh
    refine en ?_
    refine rt ?_
    refine retsC Try.results44 he rfl (loadVar_run rb_28 ti_28 ((Rd.obj hh.at0 0).take 3) rfl) (Ret.mk ?_)
    subst h7
    rw [letterW_long]
    replace hh := hh.drop
    replace hh := hh.drop
    exact ⟨I, none, 0, rfl, (Snap.le.refl _), Fz.nil _ _, Nat.le_refl _, hh⟩
  · refine sk ?_
    refine nm_then ?_
    refine sq ?_
    refine rg ?_
    refine fa fo_28_0 rfl rfl he fun a he => ?_
    refine ld rb_23 rfl (ocell hh.at1 rfl) rfl he fun a he => ?_
    refine cal cb_42 rfl (runes_Clone _ _ _ A_wd c_wd wd hh h_wd k_wd hb) rfl he fun v a W hp he => ?_
    obtain ⟨A3, cc4, rfl, hh⟩ := hp
    refine asg rfl rfl he fun a he => ?_
    refine en ?_
    refine sq ?_
    refine sq ?_
    refine rg ?_
    refine fa fo_28_1 rfl rfl he fun a he => ?_
    refine ld rb_4 rfl (ocell hh.at2 rfl) rfl he fun a he => ?_
    refine en ?_
    refine cnb he rfl (fun hm => ?_) (fun hm => ?_)
    · refine rg ?_
      refine mv rfl rfl he fun a he => ?_
      refine bsl [(0, .int .i32 39)] [.int .i32 39] ts_23 rfl rfl rfl rfl rfl rfl rfl he hh fun bb6 a W he hh => ?_
      replace hh := hh.up1
      refine ap ts_23 rfl rfl (Ch.rd hh.at1) (by simp) (by simp [Value.oneCell']) (by first | omega | (simp; omega)) rfl he hh fun A7 cc8 a W he hh => ?_
      replace hh := hh.re (n' := ((wd ++ [39])).length) (cs' := ((wd ++ [39])).map r32) (by simp) (by simp [r32])
      replace he := he.be (t := 16) (v' := .slice A7 ((wd ++ [39])).length cc8) rfl (by congr 1; simp)
      replace hh := hh.up1
      replace hh := hh.drop
      refine asg rfl rfl he fun a he => ?_
      refine en ?_
      refine sq ?_
      refine rg ?_
      refine mv rfl rfl he fun a he => ?_
      refine mv rfl rfl he fun a he => ?_
      refine cal cb_55 rfl (fold_Fold _ _ _ c hh ) rfl he fun v a W hp he => ?_
      obtain ⟨rfl, hh⟩ := hp
      refine bsl [(0, .int .i32 (foldN c))] [.int .i32 (foldN c)] ts_23 rfl rfl rfl rfl rfl rfl rfl he hh fun bb10 a W he hh => ?_
      replace hh := hh.up1
      refine ap ts_23 rfl rfl (Ch.rd hh.at1) (by simp) (by simp [Value.oneCell']) (by first | omega | (simp; omega)) rfl he hh fun A11 cc12 a W he hh => ?_
      replace hh := hh.re (n' := (((wd ++ [39]) ++ [(foldN c)])).length) (cs' := (((wd ++ [39]) ++ [(foldN c)])).map r32) (by simp) (by simp [r32])
      replace he := he.be (t := 21) (v' := .slice A11 (((wd ++ [39]) ++ [(foldN c)])).length cc12) rfl (by congr 1; simp)
      replace hh := hh.up1
      replace hh := hh.drop
      refine asg rfl rfl he fun a he => ?_
      refine en ?_
      refine sq ?_
      refine sq ?_
      refine rg ?_
      refine mv rfl rfl he fun a he => ?_
      refine ln Try.underlying23 rfl rfl he fun a he => ?_
      refine gt rfl rfl rfl he fun a he => ?_
      refine en ?_
      refine cnd he rfl (fun h24 => ?_) (fun h24 => ?_)
      · replace h24 : 32 < ((((wd ++ [39]) ++ [(foldN c)])).length) := by omega
        refine sq ?_
        refine rg ?_
        refine bld #[.slice none 0 0, .bool false, .bool true] rfl (by kernel_rfl) rfl he fun a he => ?_
        replace hh := hh.up1
        refine st #[.slice none 0 0, .bool false, .bool true] ti_28 rfl rfl rfl rfl (by simp [Value.oneCell']) (by simp) he hh fun W hh => ?_
        replace hh : Hp I (.obj bb2 (.cells [.slice none 0 0, .bool false, .bool true].toArray 28) :: _) W := hh
        refine en ?_
        refine rt ?_
        refine retsC Try.results44 he rfl (loadVar_run rb_28 ti_28 ((Rd.obj hh.at0 0).take 3) rfl) (Ret.mk ?_)
        subst h7
        have e5 : ((wd ++ [39]) ++ [(foldN c)]) = (wd ++ if mk then [39] else []) ++ [foldN c] := by simp [hm]
        rw [letterW_over (by rw [← e5]; exact h24)]
        try rw [← e5]
        replace hh := hh.drop
        replace hh := hh.drop
        replace hh := hh.drop
        exact ⟨I, none, 0, rfl, (Snap.le.refl _), Fz.nil _ _, Nat.le_refl _, hh⟩
      · replace h24 : ¬ (32 < ((((wd ++ [39]) ++ [(foldN c)])).length)) := by omega
        refine sk ?_
        refine nm_then ?_
        refine sq ?_
        refine rg ?_
        refine mv rfl rfl he fun a he => ?_
        refine bld #[.slice A11 ((((wd ++ [39]) ++ [(foldN c)])).length) cc12, .bool false, .bool false] rfl (by kernel_rfl) rfl he fun a he => ?_
        replace hh := hh.up1
        refine st #[.slice A11 ((((wd ++ [39]) ++ [(foldN c)])).length) cc12, .bool false, .bool false] ti_28 rfl rfl rfl rfl (by simp [Value.oneCell']) (by simp) he hh fun W hh => ?_
        replace hh : Hp I (.obj bb2 (.cells [.slice A11 ((((wd ++ [39]) ++ [(foldN c)])).length) cc12, .bool false, .bool false].toArray 28) :: _) W := hh
        refine en ?_
        refine rt ?_
        refine retsC Try.results44 he rfl (loadVar_run rb_28 ti_28 ((Rd.obj hh.at0 0).take 3) rfl) (Ret.mk ?_)
        subst h7
        have e5 : ((wd ++ [39]) ++ [(foldN c)]) = (wd ++ if mk then [39] else []) ++ [foldN c] := by simp [hm]
        rw [letterW_in (by rw [← e5]; exact h24)]
        try rw [← e5]
        replace hh := hh.up1
        have hc17 := (Ch.rowcap hh.at0).1
        obtain ⟨I14, hl15, hh, hf16⟩ := hh.freezeRow
        replace hh := hh.drop
        replace hh := hh.drop
        exact ⟨I14, A11, cc12, rfl, hl15, hf16, hc17, hh⟩
    · refine sk ?_
      refine nm_then ?_
      refine sq ?_
      refine rg ?_
      refine mv rfl rfl he fun a he => ?_
      refine mv rfl rfl he fun a he => ?_
      refine cal cb_55 rfl (fold_Fold _ _ _ c hh ) rfl he fun v a W hp he => ?_
      obtain ⟨rfl, hh⟩ := hp
      refine bsl [(0, .int .i32 (foldN c))] [.int .i32 (foldN c)] ts_23 rfl rfl rfl rfl rfl rfl rfl he hh fun bb18 a W he hh => ?_
      replace hh := hh.up1
      refine ap ts_23 rfl rfl (Ch.rd hh.at1) (by simp) (by simp [Value.oneCell']) (by first | omega | (simp; omega)) rfl he hh fun A19 cc20 a W he hh => ?_
      replace hh := hh.re (n' := ((wd ++ [(foldN c)])).length) (cs' := ((wd ++ [(foldN c)])).map r32) (by simp) (by simp [r32])
      replace he := he.be (t := 21) (v' := .slice A19 ((wd ++ [(foldN c)])).length cc20) rfl (by congr 1; simp)
      replace hh := hh.up1
      replace hh := hh.drop
      refine asg rfl rfl he fun a he => ?_
      refine en ?_
      refine sq ?_
      refine sq ?_
      refine rg ?_
      refine mv rfl rfl he fun a he => ?_
      refine ln Try.underlying23 rfl rfl he fun a he => ?_
      refine gt rfl rfl rfl he fun a he => ?_
      refine en ?_
      refine cnd he rfl (fun h24 => ?_) (fun h24 => ?_)
      · replace h24 : 32 < (((wd ++ [(foldN c)])).length) := by omega
        refine sq ?_
        refine rg ?_
        refine bld #[.slice none 0 0, .bool false, .bool true] rfl (by kernel_rfl) rfl he fun a he => ?_
        replace hh := hh.up1
        refine st #[.slice none 0 0, .bool false, .bool true] ti_28 rfl rfl rfl rfl (by simp [Value.oneCell']) (by simp) he hh fun W hh => ?_
        replace hh : Hp I (.obj bb2 (.cells [.slice none 0 0, .bool false, .bool true].toArray 28) :: _) W := hh
        refine en ?_
        refine rt ?_
        refine retsC Try.results44 he rfl (loadVar_run rb_28 ti_28 ((Rd.obj hh.at0 0).take 3) rfl) (Ret.mk ?_)
        subst h7
        have e5 : (wd ++ [(foldN c)]) = (wd ++ if mk then [39] else []) ++ [foldN c] := by simp [hm]
        rw [letterW_over (by rw [← e5]; exact h24)]
        try rw [← e5]
        replace hh := hh.drop
        replace hh := hh.drop
        replace hh := hh.drop
        exact ⟨I, none, 0, rfl, (Snap.le.refl _), Fz.nil _ _, Nat.le_refl _, hh⟩
      · replace h24 : ¬ (32 < (((wd ++ [(foldN c)])).length)) := by omega
        refine sk ?_
        refine nm_then ?_
        refine sq ?_
        refine rg ?_
        refine mv rfl rfl he fun a he => ?_
        refine bld #[.slice A19 (((wd ++ [(foldN c)])).length) cc20, .bool false, .bool false] rfl (by kernel_rfl) rfl he fun a he => ?_
        replace hh := hh.up1
        refine st #[.slice A19 (((wd ++ [(foldN c)])).length) cc20, .bool false, .bool false] ti_28 rfl rfl rfl rfl (by simp [Value.oneCell']) (by simp) he hh fun W hh => ?_
        replace hh : Hp I (.obj bb2 (.cells [.slice A19 (((wd ++ [(foldN c)])).length) cc20, .bool false, .bool false].toArray 28) :: _) W := hh
        refine en ?_
        refine rt ?_
        refine retsC Try.results44 he rfl (loadVar_run rb_28 ti_28 ((Rd.obj hh.at0 0).take 3) rfl) (Ret.mk ?_)
        subst h7
        have e5 : (wd ++ [(foldN c)]) = (wd ++ if mk then [39] else []) ++ [foldN c] := by simp [hm]
        rw [letterW_in (by rw [← e5]; exact h24)]
        try rw [← e5]
        replace hh := hh.up1
        have hc25 := (Ch.rowcap hh.at0).1
        obtain ⟨I22, hl23, hh, hf24⟩ := hh.freezeRow
        replace hh := hh.drop
        replace hh := hh.drop
        exact ⟨I22, A19, cc20, rfl, hl23, hf24, hc25, hh⟩

theorem feed_1 (I : Snap) (L : List Ch) (W : World) (b_s : Nat) (A_wd : Option Addr) (c_wd : Nat) (wd : List Int) (mk : Bool) (lg : Bool) (b_q : Nat) (A_o : Option Addr) (c_o : Nat) (o : List ByteArray) (hh : Hp I (.obj b_s (.cells #[.slice A_wd wd.length c_wd, .bool mk, .bool lg] 28) :: .obj b_q (.cells #[.slice A_o o.length c_o] 44) :: .row A_o o.length c_o 9 1 (o.map str1) :: L) W) (h_wd : Fz I A_wd (wd.map r32)) (k_wd : wd.length ≤ c_wd) (hb : o.length ≤ 1000000000000) :
    Calls Try.prog 40 #[.pointer (some ⟨b_s, 0, none⟩), .pointer (some ⟨b_q, 0, none⟩)] W (Ret fun v W => ∃ (A1 : Option Addr) (c1 : Nat) (A2 : Option Addr) (c2 : Nat), v = .tuple #[] ∧ Fz I A1 ((([] : List Int)).map r32) ∧ (([] : List Int)).length ≤ c1 ∧ Hp I (.row A2 (o ++ flushW wd lg).length c2 9 1 ((o ++ flushW wd lg).map str1) :: .obj b_s (.cells #[.slice A1 (([] : List Int)).length c1, .bool false, .bool false] 28) :: .obj b_q (.cells #[.slice A2 (o ++ flushW wd lg).length c2] 44) :: L) W) := by
  refine enter Try.func40 rfl Try.ntmps40 rfl fun a he => ?_
  refine sq ?_
  refine sq ?_
  refine rg ?_
  refine ldA [.slice A_wd wd.length c_wd, .bool mk, .bool lg] rb_28 ti_28 rfl ((Rd.obj hh.at0 0).take 3) rfl rfl he fun a he => ?_
  refine cal cb_41 rfl (words_word _ _ _ A_wd c_wd wd mk lg hh h_wd k_wd) rfl he fun v a W hp he => ?_
  obtain ⟨rfl, hh⟩ := hp
  refine mv rfl rfl he fun a he => ?_
  refine xt rfl rfl rfl he fun a he => ?_
  refine xt rfl rfl rfl he fun a he => ?_
  refine asg rfl rfl he fun a he => ?_
  refine asg rfl rfl he fun a he => ?_
  refine en ?_
  refine sq ?_
  refine rg ?_
  refine mv rfl rfl he fun a he => ?_
  refine en ?_
  refine cnb he rfl (fun h9 => ?_) (fun h9 => ?_)
  · refine rg ?_
    refine ld rb_44 rfl (ocell hh.at1 rfl) rfl he fun a he => ?_
    refine mv rfl rfl he fun a he => ?_
    refine bsl [(0, .string (runesBytes wd))] [.string (runesBytes wd)] ts_44 rfl rfl rfl rfl rfl rfl rfl he hh fun bb1 a W he hh => ?_
    replace hh := hh.up3
    refine ap ts_44 rfl rfl (Ch.rd hh.at1) (by simp) (by simp [Value.oneCell']) (by first | omega | (simp; omega)) rfl he hh fun A2 cc3 a W he hh => ?_
    replace hh := hh.re (n' := ((o ++ [runesBytes wd])).length) (cs' := ((o ++ [runesBytes wd])).map str1) (by simp) (by simp [str1])
    replace he := he.be (t := 13) (v' := .slice A2 ((o ++ [runesBytes wd])).length cc3) rfl (by congr 1; simp)
    replace hh := hh.up1
    replace hh := hh.drop
    replace hh := hh.up2
    refine st #[.slice A2 (((o ++ [runesBytes wd])).length) cc3] ti_44 rfl rfl rfl rfl (by simp [Value.oneCell']) (by simp) he hh fun W hh => ?_
    replace hh : Hp I (.obj b_q (.cells [.slice A2 (((o ++ [runesBytes wd])).length) cc3].toArray 44) :: _) W := hh
    refine en ?_
    refine rg ?_
    refine bld #[.slice none 0 0, .bool false, .bool false] rfl (by kernel_rfl) rfl he fun a he => ?_
    replace hh := hh.up2
    refine st #[.slice none 0 0, .bool false, .bool false] ti_28 rfl rfl rfl rfl (by simp [Value.oneCell']) (by simp) he hh fun W hh => ?_
    replace hh : Hp I (.obj b_s (.cells [.slice none 0 0, .bool false, .bool false].toArray 28) :: _) W := hh
    refine rets0' Try.results40 he (Ret.mk ?_)
    rw [flush_yes h9]
    replace hh := hh.up1
    replace hh := hh.up1
    replace hh := hh.up2
    exact ⟨none, 0, A2, cc3, rfl, Fz.nil _ _, Nat.le_refl _, hh⟩
  · refine sk ?_
    refine nm_then ?_
    refine rg ?_
    refine bld #[.slice none 0 0, .bool false, .bool false] rfl (by kernel_rfl) rfl he fun a he => ?_
    refine st #[.slice none 0 0, .bool false, .bool false] ti_28 rfl rfl rfl rfl (by simp [Value.oneCell']) (by simp) he hh fun W hh => ?_
    replace hh : Hp I (.obj b_s (.cells [.slice none 0 0, .bool false, .bool false].toArray 28) :: _) W := hh
    refine rets0' Try.results40 he (Ret.mk ?_)
    rw [flush_no h9, List.append_nil]
    replace hh := hh.up1
    replace hh := hh.up1
    replace hh := hh.up2
    exact ⟨none, 0, A_o, c_o, rfl, Fz.nil _ _, Nat.le_refl _, hh⟩

theorem words_Feed (I : Snap) (L : List Ch) (W : World) (A_wd : Option Addr) (c_wd : Nat) (wd : List Int) (mk : Bool) (lg : Bool) (A_xs : Option Addr) (c_xs : Nat) (xs : List Int) (hh : Hp I L W) (h_wd : Fz I A_wd (wd.map r32)) (k_wd : wd.length ≤ c_wd) (h_xs : Fz I A_xs (xs.map r32)) (k_xs : xs.length ≤ c_xs) (hb : wd.length ≤ 1000000000000) (hx1 : xs.length ≤ 1000000000000) :
    Calls Try.prog 30 #[.agg #[.slice A_wd wd.length c_wd, .bool mk, .bool lg], .slice A_xs xs.length c_xs] W (Ret fun v W => ∃ (I' : Snap) (A1 : Option Addr) (c1 : Nat) (A2 : Option Addr) (c2 : Nat), v = .tuple #[.slice A1 ((feedW (wd, mk, lg) xs).1).length c1, .agg #[.slice A2 ((feedW (wd, mk, lg) xs).2.1).length c2, .bool ((feedW (wd, mk, lg) xs).2.2.1), .bool ((feedW (wd, mk, lg) xs).2.2.2)]] ∧ I.le I' ∧ Fz I' A2 (((feedW (wd, mk, lg) xs).2.1).map r32) ∧ ((feedW (wd, mk, lg) xs).2.1).length ≤ c2 ∧ Hp I' (.row A1 ((feedW (wd, mk, lg) xs).1).length c1 9 1 (((feedW (wd, mk, lg) xs).1).map str1) :: L) W) := by
  refine enter Try.func30 rfl Try.ntmps30 rfl fun a he => ?_
  refine sq ?_
  refine rg ?_
  refine bx #[.slice A_wd wd.length c_wd, .bool mk, .bool lg] rfl rfl rfl he hh fun bb1 a W he hh => ?_
  replace hh : Hp I (.obj bb1 (.cells [.slice A_wd wd.length c_wd, .bool mk, .bool lg].toArray 28) :: _) W := hh
  refine asg rfl rfl he fun a he => ?_
  refine al ti_28 rfl he hh fun bb2 a W he hh => ?_
  replace hh : Hp I (.obj bb2 (.cells [.slice none 0 0, .bool false, .bool false].toArray 28) :: _) W := hh
  refine en ?_
  refine sq ?_
  refine rg ?_
  refine al ti_44 rfl he hh fun bb3 a W he hh => ?_
  replace hh : Hp I (.obj bb3 (.cells [.slice none 0 0].toArray 44) :: _) W := hh
  refine en ?_
  refine sq ?_
  refine rg ?_
  refine mkf (vs := []) (ws := [.pointer (some ⟨bb1, 0, none⟩), .pointer (some ⟨bb3, 0, none⟩)]) rfl rfl rfl he fun a he => ?_
  refine asg rfl rfl he fun a he => ?_
  refine en ?_
  refine sq ?_
  refine rg ?_
  refine fa fo_28_0 rfl rfl he fun a he => ?_
  refine ld rb_23 rfl (ocell hh.at2 rfl) rfl he fun a he => ?_
  refine cal cb_42 rfl (runes_Clone _ _ _ A_wd c_wd wd hh h_wd k_wd hb) rfl he fun v a W hp he => ?_
  obtain ⟨A4, cc5, rfl, hh⟩ := hp
  refine fa fo_28_0 rfl rfl he fun a he => ?_
  replace hh := hh.up3
  refine st #[.slice A4 ((wd).length) cc5] ti_23 rfl rfl rfl rfl (by simp [Value.oneCell']) (by simp) he hh fun W hh => ?_
  replace hh : Hp I (.obj bb1 (.cells [.slice A4 ((wd).length) cc5, .bool mk, .bool lg].toArray 28) :: _) W := hh
  refine en ?_
  refine sq ?_
  refine sq ?_
  refine rg ?_
  refine mv rfl rfl he fun a he => ?_
  refine ln Try.underlying23 rfl rfl he fun a he => ?_
  refine mv rfl rfl he fun a he => ?_
  refine en ?_
  refine bk ?_
  replace hh := hh.nilrow 9 1
  replace hh := hh.up2
  have hc11 := (Ch.rowcap hh.at0).1
  obtain ⟨I8, hl9, hh, hf10⟩ := hh.freezeRow
  replace hh := hh.up3
  replace hh := hh.up3
  replace hh := hh.up3
  replace hh := hh.up3
  refine lp (fun (s : Nat × List ByteArray × List Int × Bool × Bool) a w => match s with | (i, pre, u, m, g) => ∃ (I12 : Snap) (A_6_0 : Option Addr) (A_u : Option Addr) (c_6_0 : Nat) (c_u : Nat), I8.le I12 ∧ Env 45 [(2, .pointer (some ⟨bb1, 0, none⟩)), (5, .pointer (some ⟨bb2, 0, none⟩)), (6, .pointer (some ⟨bb3, 0, none⟩)), (7, .func (.func 40) #[] #[.pointer (some ⟨bb1, 0, none⟩), .pointer (some ⟨bb3, 0, none⟩)]), (15, .slice A_xs xs.length c_xs), (16, .int .i64 ((xs.length : Nat) : Int)), (17, .int .i64 ((i : Nat) : Int))] a ∧ Hp I12 (.row A_6_0 pre.length c_6_0 9 1 (pre.map str1) :: .obj bb1 (.cells ([.slice A_u u.length c_u, .bool m, .bool g]).toArray 28) :: .obj bb3 (.cells ([.slice A_6_0 pre.length c_6_0]).toArray 44) :: .obj bb2 (.cells ([.slice none 0 0, .bool false, .bool false]).toArray 28) :: L) w ∧ Fz I12 A_u (u.map r32) ∧ u.length ≤ c_u ∧ i ≤ xs.length ∧ u.length ≤ 1000000000000 ∧ pre.length ≤ i ∧ (pre ++ (feedW (u, m, g) (xs.drop i)).1, (feedW (u, m, g) (xs.drop i)).2) = feedW (wd, mk, lg) xs)
      (fun s => xs.length - s.1) (0, [], wd, mk, lg) ⟨I8, none, A4, 0, cc5, Snap.le.refl _, he.keep [2, 5, 6, 7, 15, 16, 17] rfl, hh, hf10, hc11, Nat.zero_le _, hb, Nat.le_refl _, by simp⟩ fun s a W hinv => ?_
  obtain ⟨i, pre, u, m, g⟩ := s
  obtain ⟨I12, A_6_0, A_u, c_6_0, c_u, hleI12, he, hh, h_u, k_u, hi, hu, hp, hinv⟩ := hinv
  refine sq ?_
  refine rg ?_
  refine lt rfl rfl rfl he fun a he => ?_
  refine en ?_
  refine sq ?_
  refine cnd he rfl (fun h13 => ?_) (fun h13 => ?_)
  · replace h13 : i < xs.length := by omega
    refine sk ?_
    refine nm_then ?_
    refine sq ?_
    refine bk ?_
    refine sq ?_
    refine rg ?_
    obtain ⟨x, hx⟩ := idx_some (xs := xs) (i := i) (by omega)
    refine ia1 (xs := xs) (i) ts_23 rfl rfl ((h_xs.up (hl9.trans hleI12)).rd hh) hx rfl he fun bb14 oo15 a hc16 he => ?_
    refine ld rb_21 rfl hc16 rfl he fun a he => ?_
    refine asg rfl rfl he fun a he => ?_
    refine en ?_
    refine bk ?_
    refine sq ?_
    refine rg ?_
    refine mv rfl rfl he fun a he => ?_
    refine cal cb_43 rfl (fold_Letter _ _ _ x hh ) rfl he fun v a W hp he => ?_
    obtain ⟨I17, rfl, hl18, hh⟩ := hp
    refine asg rfl rfl he fun a he => ?_
    refine en ?_
    refine cnb he rfl (fun hlt => ?_) (fun hlt => ?_)
    · refine rg ?_
      refine ldA [.slice A_u u.length c_u, .bool m, .bool g] rb_28 ti_28 rfl ((Rd.obj hh.at1 0).take 3) rfl rfl he fun a he => ?_
      refine mv rfl rfl he fun a he => ?_
      refine cal cb_44 rfl (words_letter _ _ _ A_u c_u u m g x hh (h_u.up hl18) k_u hu) rfl he fun v a W hp he => ?_
      obtain ⟨I19, A21, cc22, rfl, hl20, hf23, hc24, hh⟩ := hp
      replace hh := hh.up1
      refine st #[.slice A21 (((letterW u m g x).1).length) cc22, .bool ((letterW u m g x).2.1), .bool ((letterW u m g x).2.2)] ti_28 rfl rfl rfl rfl (by simp [Value.oneCell']) (by simp) he hh fun W hh => ?_
      replace hh : Hp I19 (.obj bb1 (.cells [.slice A21 (((letterW u m g x).1).length) cc22, .bool ((letterW u m g x).2.1), .bool ((letterW u m g x).2.2)].toArray 28) :: _) W := hh
      refine en_blk ?_
      refine nm_blk ?_
      refine nm_then ?_
      refine rg ?_
      refine ad (((i + 1) : Nat) : Int) rfl rfl (w64 (by omega) (by omega)) rfl he fun a he => ?_
      refine mv rfl rfl he fun a he => ?_
      refine en ?_
      replace hh := hh.up3
      replace hh := hh.up3
      replace hh := hh.up2
      replace hh := hh.up3
      exact ⟨(i + 1, pre, (letterW u m g x).1, ((letterW u m g x).2.1), ((letterW u m g x).2.2)), ⟨I19, A_6_0, A21, c_6_0, cc22, ((hleI12.trans hl18).trans hl20), he.keep [2, 5, 6, 7, 15, 16, 17] rfl, hh, hf23, hc24, by omega, by have := letterW_len u m g x; omega, by first | omega | (have := flush_len u g; simp; omega), by have := feed_next hinv hx (by simp [stepW, hlt] : stepW (u, m, g) x = ([], letterW u m g x)); simpa using this⟩, by show xs.length - (i + 1) < xs.length - i; omega⟩
    · refine sq ?_
      refine rg ?_
      refine mv rfl rfl he fun a he => ?_
      refine cal cb_45 rfl (fold_Mark _ _ _ x hh ) rfl he fun v a W hp he => ?_
      obtain ⟨rfl, hh⟩ := hp
      refine mv rfl rfl he fun a he => ?_
      refine sb he (t := 32) rfl (fun h25 he => ?_) (fun h25 he => ?_)
      · refine gy rfl he rfl ?_
        refine ldA [.slice A_u u.length c_u, .bool m, .bool g] rb_28 ti_28 rfl ((Rd.obj hh.at1 0).take 3) rfl rfl he fun a he => ?_
        refine gy rfl he rfl ?_
        refine cal cb_46 rfl (words_on _ _ _ A_u c_u u m g hh (h_u.up hl18) k_u) rfl he fun v a W hp he => ?_
        obtain ⟨rfl, hh⟩ := hp
        refine pkt rfl rfl rfl he fun a he => ?_
        refine mv rfl rfl he fun a he => ?_
        refine sb he (t := 36) rfl (fun h26 he => ?_) (fun h26 he => ?_)
        · refine gy rfl he rfl ?_
          refine fa fo_28_1 rfl rfl he fun a he => ?_
          refine gy rfl he rfl ?_
          refine ld rb_4 rfl (ocell hh.at1 rfl) rfl he fun a he => ?_
          refine gy rfl he rfl ?_
          refine nt rfl rfl he fun a he => ?_
          refine pkt rfl rfl rfl he fun a he => ?_
          refine asg rfl rfl he fun a he => ?_
          refine en ?_
          refine cnb he rfl (fun h27 => ?_) (fun h27 => ?_)
          · refine rg ?_
            refine fa fo_28_1 rfl rfl he fun a he => ?_
            replace hh := hh.up1
            refine st #[.bool true] ti_4 rfl rfl rfl rfl (by simp [Value.oneCell']) (by simp) he hh fun W hh => ?_
            replace hh : Hp I17 (.obj bb1 (.cells [.slice A_u u.length c_u, .bool true, .bool g].toArray 28) :: _) W := hh
            refine en_blk ?_
            refine nm_blk ?_
            refine nm_then ?_
            refine rg ?_
            refine ad (((i + 1) : Nat) : Int) rfl rfl (w64 (by omega) (by omega)) rfl he fun a he => ?_
            refine mv rfl rfl he fun a he => ?_
            refine en ?_
            replace hh := hh.up3
            replace hh := hh.up3
            replace hh := hh.up2
            replace hh := hh.up3
            exact ⟨(i + 1, pre, u, true, g), ⟨I17, A_6_0, A_u, c_6_0, c_u, (hleI12.trans hl18), he.keep [2, 5, 6, 7, 15, 16, 17] rfl, hh, (h_u.up hl18), k_u, by omega, hu, by first | omega | (have := flush_len u g; simp; omega), by have := feed_next hinv hx (by simp [stepW, *] : stepW (u, m, g) x = ([], (u, true, g))); simpa using this⟩, by show xs.length - (i + 1) < xs.length - i; omega⟩
          · refine rg ?_
            refine mv rfl rfl he fun a he => ?_
            replace hh := hh.up2
            replace hh := hh.up2
            refine calc' (us := [.pointer (some ⟨bb1, 0, none⟩), .pointer (some ⟨bb3, 0, none⟩)]) cb_40 rfl rfl (by simp) (feed_1 _ _ _ bb1 A_u c_u u m g bb3 A_6_0 c_6_0 pre hh (h_u.up hl18) k_u (by omega)) rfl he fun v a W hp he => ?_
            obtain ⟨A28, cc29, A30, cc31, rfl, hf32, hc33, hh⟩ := hp
            refine en_blk ?_
            refine nm_blk ?_
            refine nm_then ?_
            refine rg ?_
            refine ad (((i + 1) : Nat) : Int) rfl rfl (w64 (by omega) (by omega)) rfl he fun a he => ?_
            refine mv rfl rfl he fun a he => ?_
            refine en ?_
            replace hh := hh.up3
            replace hh := hh.up3
            replace hh := hh.up3
            replace hh := hh.up3
            exact ⟨(i + 1, pre ++ flushW u g, [], false, false), ⟨I17, A30, A28, cc31, cc29, (hleI12.trans hl18), he.keep [2, 5, 6, 7, 15, 16, 17] rfl, hh, hf32, hc33, by omega, by simp, by first | omega | (have := flush_len u g; simp; omega), feed_next hinv hx (by simp [stepW, *] : stepW (u, m, g) x = (flushW u g, ([], false, false)))⟩, by show xs.length - (i + 1) < xs.length - i; omega⟩
        · refine gn rfl rfl he rfl rfl fun a he => ?_
          refine gn rfl rfl he rfl rfl fun a he => ?_
          refine gn rfl rfl he rfl rfl fun a he => ?_
          refine pkf rfl rfl rfl he fun a he => ?_
          refine asg rfl rfl he fun a he => ?_
          refine en ?_
          refine cnf he rfl ?_
          refine rg ?_
          refine mv rfl rfl he fun a he => ?_
          replace hh := hh.up2
          replace hh := hh.up2
          refine calc' (us := [.pointer (some ⟨bb1, 0, none⟩), .pointer (some ⟨bb3, 0, none⟩)]) cb_40 rfl rfl (by simp) (feed_1 _ _ _ bb1 A_u c_u u m g bb3 A_6_0 c_6_0 pre hh (h_u.up hl18) k_u (by omega)) rfl he fun v a W hp he => ?_
          obtain ⟨A35, cc36, A37, cc38, rfl, hf39, hc40, hh⟩ := hp
          refine en_blk ?_
          refine nm_blk ?_
          refine nm_then ?_
          refine rg ?_
          refine ad (((i + 1) : Nat) : Int) rfl rfl (w64 (by omega) (by omega)) rfl he fun a he => ?_
          refine mv rfl rfl he fun a he => ?_
          refine en ?_
          replace hh := hh.up3
          replace hh := hh.up3
          replace hh := hh.up3
          replace hh := hh.up3
          exact ⟨(i + 1, pre ++ flushW u g, [], false, false), ⟨I17, A37, A35, cc38, cc36, (hleI12.trans hl18), he.keep [2, 5, 6, 7, 15, 16, 17] rfl, hh, hf39, hc40, by omega, by simp, by first | omega | (have := flush_len u g; simp; omega), feed_next hinv hx (by simp [stepW, *] : stepW (u, m, g) x = (flushW u g, ([], false, false)))⟩, by show xs.length - (i + 1) < xs.length - i; omega⟩
      · refine gn rfl rfl he rfl rfl fun a he => ?_
        refine gn rfl rfl he rfl rfl fun a he => ?_
        refine pkf rfl rfl rfl he fun a he => ?_
        refine mv rfl rfl he fun a he => ?_
        refine gn rfl rfl he rfl rfl fun a he => ?_
        refine gn rfl rfl he rfl rfl fun a he => ?_
        refine gn rfl rfl he rfl rfl fun a he => ?_
        refine pkf rfl rfl rfl he fun a he => ?_
        refine asg rfl rfl he fun a he => ?_
        refine en ?_
        refine cnf he rfl ?_
        refine rg ?_
        refine mv rfl rfl he fun a he => ?_
        replace hh := hh.up2
        replace hh := hh.up2
        refine calc' (us := [.pointer (some ⟨bb1, 0, none⟩), .pointer (some ⟨bb3, 0, none⟩)]) cb_40 rfl rfl (by simp) (feed_1 _ _ _ bb1 A_u c_u u m g bb3 A_6_0 c_6_0 pre hh (h_u.up hl18) k_u (by omega)) rfl he fun v a W hp he => ?_
        obtain ⟨A42, cc43, A44, cc45, rfl, hf46, hc47, hh⟩ := hp
        refine en_blk ?_
        refine nm_blk ?_
        refine nm_then ?_
        refine rg ?_
        refine ad (((i + 1) : Nat) : Int) rfl rfl (w64 (by omega) (by omega)) rfl he fun a he => ?_
        refine mv rfl rfl he fun a he => ?_
        refine en ?_
        replace hh := hh.up3
        replace hh := hh.up3
        replace hh := hh.up3
        replace hh := hh.up3
        exact ⟨(i + 1, pre ++ flushW u g, [], false, false), ⟨I17, A44, A42, cc45, cc43, (hleI12.trans hl18), he.keep [2, 5, 6, 7, 15, 16, 17] rfl, hh, hf46, hc47, by omega, by simp, by first | omega | (have := flush_len u g; simp; omega), feed_next hinv hx (by simp [stepW, *] : stepW (u, m, g) x = (flushW u g, ([], false, false)))⟩, by show xs.length - (i + 1) < xs.length - i; omega⟩
  · replace h13 : ¬ (i < xs.length) := by omega
    refine ext ?_
    refine ex_then ?_
    refine ex_then ?_
    refine ex_in ?_
    refine nm_then ?_
    refine sq ?_
    replace hh := hh.up2
    replace hh := hh.up2
    refine rgd (SH I12 [.obj bb1 (.cells ([.slice A_u u.length c_u, .bool m, .bool g]).toArray 28), .obj bb3 (.cells ([.slice A_6_0 pre.length c_6_0]).toArray 44)]) 4 mixo rfl hh fun W hh => ?_
    replace hh := hh.up1
    replace hh := hh.up1
    refine ahp (d := 43) (v := .slice A_6_0 pre.length c_6_0) 0 rfl (by kernel_rfl) (by kernel_rfl) (by kernel_rfl) rfl rfl rfl he ⟨_, _, (Snap.le.refl _), hh⟩ (fun W hS => by
        obtain ⟨I49, _, hleI49, hh⟩ := hS
        refine ld rb_44 rfl (ocell hh.at1 rfl) rfl he fun a he => ?_
        exact aqe he) fun a he => ?_
    replace hh := hh.up1
    replace hh := hh.up1
    refine ahp (d := 44) (v := .agg #[.slice A_u u.length c_u, .bool m, .bool g]) 1 rfl (by kernel_rfl) (by kernel_rfl) (by kernel_rfl) rfl rfl rfl he ⟨_, _, (Snap.le.refl _), hh⟩ (fun W hS => by
        obtain ⟨I50, _, hleI50, hh⟩ := hS
        refine ldA [.slice A_u u.length c_u, .bool m, .bool g] rb_28 ti_28 rfl ((Rd.obj hh.at0 0).take 3) rfl rfl he fun a he => ?_
        exact aqe he) fun a he => ?_
    replace hh := hh.up1
    replace hh := hh.up1
    refine ahp (d := 4) (v := .slice A_6_0 pre.length c_6_0) 2 rfl (by kernel_rfl) (by kernel_rfl) (by kernel_rfl) rfl rfl rfl he ⟨_, _, (Snap.le.refl _), hh⟩ (fun W hS => by
        refine asg rfl rfl he fun a he => ?_
        exact aqe he) fun a he => ?_
    refine aha1 (i := 3) (by kernel_rfl) ?_
    refine aop rfl ?_
    replace hh := hh.up3
    refine st #[.slice A_u u.length c_u, .bool m, .bool g] ti_28 rfl rfl rfl rfl (by simp [Value.oneCell']) (by simp) he hh fun W hh => ?_
    replace hh : Hp I12 (.obj bb2 (.cells [.slice A_u u.length c_u, .bool m, .bool g].toArray 28) :: _) W := hh
    replace hh := hh.up2
    replace hh := hh.up2
    refine aen ⟨_, _, (Snap.le.refl _), hh⟩ ?_
    refine ahd (by kernel_rfl) ?_
    refine en ?_
    refine rt ?_
    refine retsTC Try.results30 he rfl (loadVar_run rb_28 ti_28 ((Rd.obj hh.at2 0).take 3) rfl) rfl (Ret.mk ?_)
    rw [← feedW_end hinv (by omega)]
    replace hh := hh.drop
    replace hh := hh.drop
    replace hh := hh.drop
    exact ⟨I12, A_6_0, c_6_0, A_u, c_u, rfl, (hl9.trans hleI12), h_u, k_u, hh⟩

theorem words_End (I : Snap) (L : List Ch) (W : World) (A_wd : Option Addr) (c_wd : Nat) (wd : List Int) (mk : Bool) (lg : Bool) (hh : Hp I L W) (h_wd : Fz I A_wd (wd.map r32)) (k_wd : wd.length ≤ c_wd) :
    Calls Try.prog 32 #[.agg #[.slice A_wd wd.length c_wd, .bool mk, .bool lg]] W (Ret fun v W => ∃ (A1 : Option Addr) (c1 : Nat), v = .slice A1 (flushW wd lg).length c1 ∧ Hp I (.row A1 (flushW wd lg).length c1 9 1 ((flushW wd lg).map str1) :: L) W) := by
  refine enter Try.func32 rfl Try.ntmps32 rfl fun a he => ?_
  refine sq ?_
  refine rg ?_
  refine bx #[.slice A_wd wd.length c_wd, .bool mk, .bool lg] rfl rfl rfl he hh fun bb1 a W he hh => ?_
  replace hh : Hp I (.obj bb1 (.cells [.slice A_wd wd.length c_wd, .bool mk, .bool lg].toArray 28) :: _) W := hh
  refine asg rfl rfl he fun a he => ?_
  refine en ?_
  refine sq ?_
  refine sq ?_
  refine rg ?_
  refine ldA [.slice A_wd wd.length c_wd, .bool mk, .bool lg] rb_28 ti_28 rfl ((Rd.obj hh.at0 0).take 3) rfl rfl he fun a he => ?_
  refine cal cb_41 rfl (words_word _ _ _ A_wd c_wd wd mk lg hh h_wd k_wd) rfl he fun v a W hp he => ?_
  obtain ⟨rfl, hh⟩ := hp
  refine mv rfl rfl he fun a he => ?_
  refine xt rfl rfl rfl he fun a he => ?_
  refine xt rfl rfl rfl he fun a he => ?_
  refine asg rfl rfl he fun a he => ?_
  refine asg rfl rfl he fun a he => ?_
  refine en ?_
  refine sq ?_
  refine rg ?_
  refine mv rfl rfl he fun a he => ?_
  refine en ?_
  refine cnb he rfl (fun h10 => ?_) (fun h10 => ?_)
  · refine sq ?_
    refine rg ?_
    refine mv rfl rfl he fun a he => ?_
    refine bsl [(0, .string (runesBytes wd))] [.string (runesBytes wd)] ts_44 rfl rfl rfl rfl rfl rfl rfl he hh fun bb2 a W he hh => ?_
    refine asg rfl rfl he fun a he => ?_
    refine en ?_
    refine rt ?_
    refine rets1 Try.results32 he rfl (Ret.mk ?_)
    rw [flush_yes h10]
    replace hh := hh.up1
    replace hh := hh.drop
    exact ⟨(some ⟨bb2, 0, none⟩), 1, rfl, hh⟩
  · refine sk ?_
    refine nm_then ?_
    refine sq ?_
    refine rg ?_
    refine asg rfl rfl he fun a he => ?_
    refine en ?_
    refine rt ?_
    refine rets1 Try.results32 he rfl (Ret.mk ?_)
    rw [flush_no h10]
    replace hh := hh.nilrow 9 1
    replace hh := hh.up1
    replace hh := hh.drop
    exact ⟨none, 0, rfl, hh⟩

theorem words_All (I : Snap) (L : List Ch) (W : World) (A_xs : Option Addr) (c_xs : Nat) (xs : List Int) (hh : Hp I L W) (h_xs : Fz I A_xs (xs.map r32)) (k_xs : xs.length ≤ c_xs) (hb : xs.length ≤ 1000000000000) :
    Calls Try.prog 33 #[.slice A_xs xs.length c_xs] W (Ret fun v W => ∃ (I' : Snap) (A1 : Option Addr) (c1 : Nat), v = .slice A1 (allW xs).length c1 ∧ I.le I' ∧ Hp I' (.row A1 (allW xs).length c1 9 1 ((allW xs).map str1) :: L) W) := by
  refine enter Try.func33 rfl Try.ntmps33 rfl fun a he => ?_
  refine sq ?_
  refine rg ?_
  refine asg rfl rfl he fun a he => ?_
  refine en ?_
  refine sq ?_
  refine rg ?_
  refine bld #[.slice none 0 0, .bool false, .bool false] rfl (by kernel_rfl) rfl he fun a he => ?_
  refine mv rfl rfl he fun a he => ?_
  refine cal cb_30 rfl (words_Feed _ _ _ none 0 [] false false A_xs c_xs xs hh (Fz.nil _ _) (Nat.le_refl _) h_xs k_xs (by simp) hb) rfl he fun v a W hp he => ?_
  obtain ⟨I1, A3, cc4, A5, cc6, rfl, hl2, hf7, hc8, hh⟩ := hp
  refine mv rfl rfl he fun a he => ?_
  refine xt rfl rfl rfl he fun a he => ?_
  refine xt rfl rfl rfl he fun a he => ?_
  refine al ti_28 rfl he hh fun bb10 a W he hh => ?_
  replace hh : Hp I1 (.obj bb10 (.cells [.slice none 0 0, .bool false, .bool false].toArray 28) :: _) W := hh
  refine asg rfl rfl he fun a he => ?_
  refine st #[.slice A5 (((feedW (([]), false, false) xs).2.1).length) cc6, .bool ((feedW (([]), false, false) xs).2.2.1), .bool ((feedW (([]), false, false) xs).2.2.2)] ti_28 rfl rfl rfl rfl (by simp [Value.oneCell']) (by simp) he hh fun W hh => ?_
  replace hh : Hp I1 (.obj bb10 (.cells [.slice A5 (((feedW (([]), false, false) xs).2.1).length) cc6, .bool ((feedW (([]), false, false) xs).2.2.1), .bool ((feedW (([]), false, false) xs).2.2.2)].toArray 28) :: _) W := hh
  refine en ?_
  refine sq ?_
  refine rg ?_
  refine mv rfl rfl he fun a he => ?_
  refine ldA [.slice A5 (((feedW (([]), false, false) xs).2.1).length) cc6, .bool ((feedW (([]), false, false) xs).2.2.1), .bool ((feedW (([]), false, false) xs).2.2.2)] rb_28 ti_28 rfl ((Rd.obj hh.at0 0).take 3) rfl rfl he fun a he => ?_
  refine cal cb_32 rfl (words_End _ _ _ A5 cc6 ((feedW (([]), false, false) xs).2.1) ((feedW (([]), false, false) xs).2.2.1) ((feedW (([]), false, false) xs).2.2.2) hh hf7 hc8) rfl he fun v a W hp he => ?_
  obtain ⟨A11, cc12, rfl, hh⟩ := hp
  replace hh := hh.up2
  refine ap ts_44 rfl rfl (Ch.rd hh.at1) (by simp) (one_map (fun _ => rfl) _) (by have h1 := feedW_len ([], false, false) xs; have h2 := flush_len (feedW ([], false, false) xs).2.1 (feedW ([], false, false) xs).2.2.2; omega) rfl he hh fun A14 cc15 a W he hh => ?_
  replace hh := hh.re (n' := (((feedW (([]), false, false) xs).1 ++ flushW ((feedW (([]), false, false) xs).2.1) ((feedW (([]), false, false) xs).2.2.2))).length) (cs' := (((feedW (([]), false, false) xs).1 ++ flushW ((feedW (([]), false, false) xs).2.1) ((feedW (([]), false, false) xs).2.2.2))).map str1) (by simp) (by simp [str1])
  replace he := he.be (t := 14) (v' := .slice A14 (((feedW (([]), false, false) xs).1 ++ flushW ((feedW (([]), false, false) xs).2.1) ((feedW (([]), false, false) xs).2.2.2))).length cc15) rfl (by congr 1; simp)
  refine asg rfl rfl he fun a he => ?_
  refine en ?_
  refine rt ?_
  refine rets1 Try.results33 he rfl (Ret.mk ?_)
  replace hh := hh.up1
  replace hh := hh.drop
  replace hh := hh.up1
  replace hh := hh.drop
  exact ⟨I1, A14, cc15, rfl, hl2, hh⟩

end Go.Proofs.Ytndaogkpgoimlaa

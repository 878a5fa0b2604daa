/- Walks through the given program's functions, printed op by op by this session's own program; what each computes is told by the plain functions of the texts S... -/
import Derived.Test.YtndaogkpgoimlaaProg
import Derived.Test.YtndaogkpgoimlaaK7
import Derived.Test.YtndaogkpgoimlaaS1
import Derived.KernelRfl
namespace Go.Proofs.Ytndaogkpgoimlaa
open Go Go.RowKit K
set_option linter.unusedVariables false
theorem cb_22 : callable Try.prog 22 = true := by kernel_rfl
theorem cb_34 : callable Try.prog 34 = true := by kernel_rfl
theorem cb_37 : callable Try.prog 37 = true := by kernel_rfl
theorem mixo : Try.prog.follows .mixedOrders = true := by kernel_rfl
theorem rb_5 : isRowB Try.prog 5 = some false := by kernel_rfl
theorem rb_9 : isRowB Try.prog 9 = some false := by kernel_rfl
theorem ts_22 : TS Try.prog 22 5 (.int .u8 0) 1 1 := ⟨Try.underlying22, ⟨by kernel_rfl, rfl⟩, by decide, by decide⟩
theorem ts_23 : TS Try.prog 23 21 (.int .i32 0) 1 4 := ⟨Try.underlying23, ⟨by kernel_rfl, rfl⟩, by decide, by decide⟩
theorem ts_44 : TS Try.prog 44 9 (.string ByteArray.empty) 1 16 := ⟨Try.underlying44, ⟨by kernel_rfl, rfl⟩, by decide, by decide⟩
theorem ud_21 : (Try.prog.underlying 21).isSome = true := by kernel_rfl
theorem ud_5 : (Try.prog.underlying 5).isSome = true := by kernel_rfl
theorem ud_51 : (Try.prog.underlying 51).isSome = true := by kernel_rfl
theorem utf_well (I : Snap) (L : List Ch) (W : World) (s : ByteArray) (hh : Hp I L W)  :
    Calls Try.prog 37 #[.string s] W (Ret fun v W => v = .bool (utfWell s) ∧ Hp I (L) W) := by
  refine enter Try.func37 rfl Try.ntmps37 rfl fun a he => ?_
  refine sq ?_
  refine rg ?_
  refine asg rfl rfl he fun a he => ?_
  refine en ?_
  refine sq ?_
  refine sq ?_
  refine rg ?_
  refine mv rfl rfl he fun a he => ?_
  refine rgs Try.underlying9 rfl rfl he hh fun bb1 a W he hh => ?_
  refine en ?_
  refine bk ?_
  refine lp (fun (_u : Unit) a w => Env 34 [(0, .string s), (5, .string s), (6, .pointer (some ⟨bb1, 0, none⟩))] a ∧ Hp I (.obj bb1 (.stringIter s 0) :: L) w)
      (fun _ => 0) () ⟨he.keep [0, 5, 6] rfl, hh⟩ fun _u a W hinv => ?_
  obtain ⟨he, hh⟩ := hinv
  refine sq ?_
  refine rg ?_
  by_cases hp7 : 0 < (s : ByteArray).size
  · refine nxs rfl hp7 rfl he hh fun a W he hh => ?_
    refine xt rfl rfl rfl he fun a he => ?_
    refine en ?_
    refine sq ?_
    refine cnt he rfl ?_
    refine sk ?_
    refine nm_then ?_
    refine bk ?_
    refine sq ?_
    refine rg ?_
    refine xt rfl rfl rfl he fun a he => ?_
    refine xt rfl rfl rfl he fun a he => ?_
    refine asg rfl rfl he fun a he => ?_
    refine asg rfl rfl he fun a he => ?_
    refine en ?_
    refine sq ?_
    refine rg ?_
    refine mv rfl rfl he fun a he => ?_
    refine eq rfl rfl rfl he fun a he => ?_
    replace he := he.be (t := 12) (v' := .bool true) rfl rfl
    refine mv rfl rfl he fun a he => ?_
    refine gy rfl he rfl ?_
    refine mv rfl rfl he fun a he => ?_
    refine gy rfl he rfl ?_
    refine slen Try.underlying9 rfl rfl he fun a he => ?_
    refine gy rfl he rfl ?_
    refine mv rfl rfl he fun a he => ?_
    refine gy rfl he rfl ?_
    refine cvis ud_21 Try.underlying9 rfl rfl he fun a he => ?_
    refine gy rfl he rfl ?_
    refine slen Try.underlying9 rfl rfl he fun a he => ?_
    refine gy rfl he rfl ?_
    refine eq rfl rfl rfl he fun a he => ?_
    refine pkt rfl rfl rfl he fun a he => ?_
    refine mv rfl rfl he fun a he => ?_
    refine sd he (t := 21) rfl (fun h2 he => ?_) (fun h2 he => ?_)
    · replace h2 : s.size = ((Utf8.encode (((Utf8.decode s 0).1 : Nat) : Int)).size) := by omega
      refine gy rfl he rfl ?_
      refine mv rfl rfl he fun a he => ?_
      refine gy rfl he rfl ?_
      refine slen Try.underlying9 rfl rfl he fun a he => ?_
      refine gy rfl he rfl ?_
      refine gt rfl rfl rfl he fun a he => ?_
      refine pkt rfl rfl rfl he fun a he => ?_
      refine mv rfl rfl he fun a he => ?_
      refine sd he (t := 26) rfl (fun h3 he => ?_) (fun h3 he => ?_)
      · replace h3 : 1 < s.size := by omega
        refine gy rfl he rfl ?_
        refine mv rfl rfl he fun a he => ?_
        refine gy rfl he rfl ?_
        refine ne rfl rfl rfl he fun a he => ?_
        refine gy rfl he rfl ?_
        refine mv rfl rfl he fun a he => ?_
        refine sd he (t := 29) rfl (fun h4 he => ?_) (fun h4 he => ?_)
        · replace h4 : ((Utf8.decode s 0).1) ≠ 65533 := by omega
          refine gn rfl rfl he rfl rfl fun a he => ?_
          refine gn rfl rfl he rfl rfl fun a he => ?_
          refine gy rfl he rfl ?_
          refine pkt rfl rfl rfl he fun a he => ?_
          refine pkt rfl rfl rfl he fun a he => ?_
          refine asg rfl rfl he fun a he => ?_
          refine en ?_
          refine rt ?_
          refine rets1 Try.results37 he rfl (Ret.mk ?_)
          replace hh := hh.drop
          exact ⟨by simp only [utfWell, decide_eq_true h2, decide_eq_true h3, decide_eq_true h4, decide_eq_true hp7]; simp, hh⟩
        · replace h4 : ¬ (((Utf8.decode s 0).1) ≠ 65533) := by omega
          refine gy rfl he rfl ?_
          refine mv rfl rfl he fun a he => ?_
          refine gy rfl he rfl ?_
          refine seq' rfl rfl rfl he fun a he => ?_
          refine gy rfl he rfl ?_
          refine pkf rfl rfl rfl he fun a he => ?_
          refine pkt rfl rfl rfl he fun a he => ?_
          refine asg rfl rfl he fun a he => ?_
          refine en ?_
          refine rt ?_
          refine rets1 Try.results37 he rfl (Ret.mk ?_)
          replace hh := hh.drop
          exact ⟨by simp only [utfWell, decide_eq_true h2, decide_eq_true h3, decide_eq_false h4, decide_eq_true hp7]; simp, hh⟩
      · replace h3 : ¬ (1 < s.size) := by omega
        refine gn rfl rfl he rfl rfl fun a he => ?_
        refine gn rfl rfl he rfl rfl fun a he => ?_
        refine gn rfl rfl he rfl rfl fun a he => ?_
        refine gnu rfl rfl he rfl fun a he => ?_
        refine gnu rfl rfl he rfl fun a he => ?_
        refine gn rfl rfl he rfl rfl fun a he => ?_
        refine pkf rfl rfl rfl he fun a he => ?_
        refine asg rfl rfl he fun a he => ?_
        refine en ?_
        refine rt ?_
        refine rets1 Try.results37 he rfl (Ret.mk ?_)
        replace hh := hh.drop
        exact ⟨by simp only [utfWell, decide_eq_true h2, decide_eq_false h3, decide_eq_true hp7]; simp, hh⟩
    · replace h2 : ¬ (s.size = ((Utf8.encode (((Utf8.decode s 0).1 : Nat) : Int)).size)) := by omega
      refine gn rfl rfl he rfl rfl fun a he => ?_
      refine gn rfl rfl he rfl rfl fun a he => ?_
      refine gn rfl rfl he rfl rfl fun a he => ?_
      refine pkf rfl rfl rfl he fun a he => ?_
      refine mv rfl rfl he fun a he => ?_
      refine gn rfl rfl he rfl rfl fun a he => ?_
      refine gn rfl rfl he rfl rfl fun a he => ?_
      refine gn rfl rfl he rfl rfl fun a he => ?_
      refine gnu rfl rfl he rfl fun a he => ?_
      refine gnu rfl rfl he rfl fun a he => ?_
      refine gn rfl rfl he rfl rfl fun a he => ?_
      refine pkf rfl rfl rfl he fun a he => ?_
      refine asg rfl rfl he fun a he => ?_
      refine en ?_
      refine rt ?_
      refine rets1 Try.results37 he rfl (Ret.mk ?_)
      replace hh := hh.drop
      exact ⟨by simp only [utfWell, decide_eq_false h2, decide_eq_true hp7]; simp, hh⟩
  · refine nxe rfl hp7 rfl he hh fun a he => ?_
    refine xt rfl rfl rfl he fun a he => ?_
    refine en ?_
    refine sq ?_
    refine cnf he rfl ?_
    refine ext ?_
    refine ex_then ?_
    refine ex_then ?_
    refine ex_in ?_
    refine nm_then ?_
    refine sq ?_
    refine rg ?_
    refine asg rfl rfl he fun a he => ?_
    refine en ?_
    refine rt ?_
    refine rets1 Try.results37 he rfl (Ret.mk ?_)
    replace hh := hh.drop
    exact ⟨by simp only [utfWell, decide_eq_false hp7]; simp, hh⟩

theorem utf_Pending (I : Snap) (L : List Ch) (W : World) (A_l : Option Addr) (c_l : Nat) (l : List UInt8) (hh : Hp I L W) (h_l : Fz I A_l (l.map b8)) (k_l : l.length ≤ c_l) :
    Calls Try.prog 22 #[.slice A_l l.length c_l] W (Ret fun v W => v = .bool (utfPending l) ∧ Hp I (L) W) := by
  refine enter Try.func22 rfl Try.ntmps22 rfl fun a he => ?_
  refine sq ?_
  refine rg ?_
  refine asg rfl rfl he fun a he => ?_
  refine en ?_
  refine sq ?_
  refine sq ?_
  refine rg ?_
  refine mv rfl rfl he fun a he => ?_
  refine ln Try.underlying22 rfl rfl he fun a he => ?_
  refine lt rfl rfl rfl he fun a he => ?_
  refine mv rfl rfl he fun a he => ?_
  refine sd he (t := 8) rfl (fun h1 he => ?_) (fun h1 he => ?_)
  · replace h1 : l.length < 1 := by omega
    refine gn rfl rfl he rfl rfl fun a he => ?_
    refine gn rfl rfl he rfl rfl fun a he => ?_
    refine gn rfl rfl he rfl rfl fun a he => ?_
    refine pkt rfl rfl rfl he fun a he => ?_
    refine en ?_
    refine cnt he rfl ?_
    refine sq ?_
    refine rg ?_
    refine asg rfl rfl he fun a he => ?_
    refine en ?_
    refine rt ?_
    refine rets1 Try.results22 he rfl (Ret.mk ?_)
    exact ⟨by rw [pending_short h1], hh⟩
  · replace h1 : ¬ (l.length < 1) := by omega
    refine gy rfl he rfl ?_
    refine mv rfl rfl he fun a he => ?_
    refine gy rfl he rfl ?_
    refine ln Try.underlying22 rfl rfl he fun a he => ?_
    refine gy rfl he rfl ?_
    refine gt rfl rfl rfl he fun a he => ?_
    refine pkf rfl rfl rfl he fun a he => ?_
    refine en ?_
    refine cnd he rfl (fun h2 => ?_) (fun h2 => ?_)
    · replace h2 : 3 < l.length := by omega
      refine sq ?_
      refine rg ?_
      refine asg rfl rfl he fun a he => ?_
      refine en ?_
      refine rt ?_
      refine rets1 Try.results22 he rfl (Ret.mk ?_)
      exact ⟨by rw [pending_long h2], hh⟩
    · replace h2 : ¬ (3 < l.length) := by omega
      refine sk ?_
      refine nm_then ?_
      refine sq ?_
      refine sq ?_
      refine rg ?_
      refine bsl [(0, .string (⟨#[128]⟩)), (1, .string (⟨#[128, 128]⟩)), (2, .string (⟨#[128, 128, 128]⟩)), (3, .string (⟨#[144, 128, 128]⟩)), (4, .string (⟨#[160, 128]⟩)), (5, .string (⟨#[144, 128]⟩))] [.string (⟨#[128]⟩), .string (⟨#[128, 128]⟩), .string (⟨#[128, 128, 128]⟩), .string (⟨#[144, 128, 128]⟩), .string (⟨#[160, 128]⟩), .string (⟨#[144, 128]⟩)] ts_44 rfl rfl rfl rfl rfl rfl rfl he hh fun bb1 a W he hh => ?_
      refine ln Try.underlying44 rfl rfl he fun a he => ?_
      refine mv rfl rfl he fun a he => ?_
      refine en ?_
      refine bk ?_
      refine lp (fun (i : Nat) a w => Env 25 [(0, .slice A_l l.length c_l), (13, .slice (some ⟨bb1, 0, none⟩) 6 6), (14, .int .i64 6), (15, .int .i64 ((i : Nat) : Int))] a ∧ Hp I (.row (some ⟨bb1, 0, none⟩) 6 6 9 1 ([.string (⟨#[128]⟩), .string (⟨#[128, 128]⟩), .string (⟨#[128, 128, 128]⟩), .string (⟨#[144, 128, 128]⟩), .string (⟨#[160, 128]⟩), .string (⟨#[144, 128]⟩)]) :: L) w ∧ i ≤ 6 ∧ (∀ j, j < i → ∀ t, tailsS[j]? = some t → utfWell (⟨l.toArray⟩ ++ t) = false))
          (fun i => 6 - i) 0 ⟨he.keep [0, 13, 14, 15] rfl, hh, Nat.zero_le _, fun j hj => absurd hj (Nat.not_lt_zero _)⟩ fun i a W hinv => ?_
      obtain ⟨he, hh, hi6, hno⟩ := hinv
      refine sq ?_
      refine rg ?_
      refine lt rfl rfl rfl he fun a he => ?_
      refine en ?_
      refine sq ?_
      refine cnd he rfl (fun h3 => ?_) (fun h3 => ?_)
      · replace h3 : i < 6 := by omega
        refine sk ?_
        refine nm_then ?_
        refine sq ?_
        refine bk ?_
        refine sq ?_
        refine rg ?_
        obtain ⟨x, hx⟩ := idx_some (xs := tailsS) (i := i) (by show _ < 6; omega)
        refine ia1 (xs := tailsS) (i) ts_44 rfl rfl (Ch.rd hh.at0) hx rfl he fun bb2 oo3 a hc4 he => ?_
        refine ld rb_9 rfl hc4 rfl he fun a he => ?_
        refine asg rfl rfl he fun a he => ?_
        refine en ?_
        refine sq ?_
        refine rg ?_
        refine mv rfl rfl he fun a he => ?_
        refine cvbs l Try.underlying22 Try.underlying5 Try.underlying9 rfl (h_l.rd hh) (by simp) rfl he fun a he => ?_
        refine mv rfl rfl he fun a he => ?_
        refine sad rfl rfl (by have := tails_size hx; rw [sz_mk]; omega) rfl he fun a he => ?_
        refine cal cb_37 rfl (utf_well _ _ _ ((⟨l.toArray⟩ : ByteArray) ++ x) hh ) rfl he fun v a W hp he => ?_
        obtain ⟨rfl, hh⟩ := hp
        refine en ?_
        refine cnb he rfl (fun hw => ?_) (fun hw => ?_)
        · refine sq ?_
          refine rg ?_
          refine asg rfl rfl he fun a he => ?_
          refine en ?_
          refine rt ?_
          refine rets1 Try.results22 he rfl (Ret.mk ?_)
          replace hh := hh.drop
          exact ⟨by rw [pending_yes h1 h2 hx hw], hh⟩
        · refine sk ?_
          refine nm_blk ?_
          refine nm_then ?_
          refine rg ?_
          refine ad (((i + 1) : Nat) : Int) rfl rfl (w64 (by omega) (by omega)) rfl he fun a he => ?_
          refine mv rfl rfl he fun a he => ?_
          refine en ?_
          exact ⟨i + 1, ⟨he.keep [0, 13, 14, 15] rfl, hh, by omega, fun j hj t ht => by
              by_cases e : j = i
              · subst e; rw [hx] at ht; cases ht; exact hw
              · exact hno j (by omega) t ht⟩, by omega⟩
      · replace h3 : ¬ (i < 6) := by omega
        refine ext ?_
        refine ex_then ?_
        refine ex_then ?_
        refine ex_in ?_
        refine nm_then ?_
        refine sq ?_
        refine rg ?_
        refine asg rfl rfl he fun a he => ?_
        refine en ?_
        refine rt ?_
        refine rets1 Try.results22 he rfl (Ret.mk ?_)
        replace hh := hh.drop
        exact ⟨by rw [pending_no fun j hj => hno j (by omega)], hh⟩

theorem utf_All (I : Snap) (L : List Ch) (W : World) (A_l : Option Addr) (c_l : Nat) (l : List UInt8) (hh : Hp I L W) (h_l : Fz I A_l (l.map b8)) (k_l : l.length ≤ c_l) (hb : l.length ≤ 1000000000000) :
    Calls Try.prog 34 #[.slice A_l l.length c_l] W (Ret fun v W => ∃ (A1 : Option Addr) (c1 : Nat), v = .slice A1 (utfAll l).length c1 ∧ Hp I (.row A1 (utfAll l).length c1 21 1 ((utfAll l).map r32) :: L) W) := by
  refine enter Try.func34 rfl Try.ntmps34 rfl fun a he => ?_
  refine sq ?_
  refine rg ?_
  refine asg rfl rfl he fun a he => ?_
  refine en ?_
  refine sq ?_
  refine rg ?_
  refine asg rfl rfl he fun a he => ?_
  refine en ?_
  refine sq ?_
  refine sq ?_
  refine rg ?_
  refine mv rfl rfl he fun a he => ?_
  refine cvbs l Try.underlying22 Try.underlying5 Try.underlying9 rfl (h_l.rd hh) (by simp) rfl he fun a he => ?_
  refine rgs Try.underlying9 rfl rfl he hh fun bb1 a W he hh => ?_
  refine en ?_
  refine bk ?_
  replace hh := hh.nilrow 21 1
  replace hh := hh.up1
  replace hh := hh.up1
  refine lp (fun (s : Nat × List Int × Nat) a w => match s with | (p, pre, f) => ∃ (A_3 : Option Addr) (c_3 : Nat), Env 17 [(0, .slice A_l l.length c_l), (3, .slice A_3 pre.length c_3), (7, .string (⟨l.toArray⟩)), (8, .pointer (some ⟨bb1, 0, none⟩))] a ∧ Hp I (.row A_3 pre.length c_3 21 1 (pre.map r32) :: .obj bb1 (.stringIter (⟨l.toArray⟩) p) :: L) w ∧ pre ++ runesAt ⟨l.toArray⟩ f p = utfAll l ∧ (⟨l.toArray⟩ : ByteArray).size ≤ p + f ∧ pre.length ≤ p)
      (fun s => l.length - s.1) (0, [], l.length) ⟨none, 0, he.keep [0, 3, 7, 8] rfl, hh, rfl, by rw [sz_mk]; omega, Nat.le_refl _⟩ fun s a W hinv => ?_
  obtain ⟨p, pre, f⟩ := s
  obtain ⟨A_3, c_3, he, hh, hpre, hf, hpp⟩ := hinv
  refine sq ?_
  refine rg ?_
  replace hh := hh.up1
  by_cases hp9 : p < (⟨l.toArray⟩ : ByteArray).size
  · refine nxs rfl hp9 rfl he hh fun a W he hh => ?_
    refine xt rfl rfl rfl he fun a he => ?_
    refine en ?_
    refine sq ?_
    refine cnt he rfl ?_
    refine sk ?_
    refine nm_then ?_
    refine bk ?_
    refine sq ?_
    refine rg ?_
    refine xt rfl rfl rfl he fun a he => ?_
    refine asg rfl rfl he fun a he => ?_
    refine en ?_
    refine rg ?_
    refine mv rfl rfl he fun a he => ?_
    refine mv rfl rfl he fun a he => ?_
    refine bsl [(0, .int .i32 (((Utf8.decode (⟨l.toArray⟩) p).1 : Nat) : Int))] [.int .i32 (((Utf8.decode (⟨l.toArray⟩) p).1 : Nat) : Int)] ts_23 rfl rfl rfl rfl rfl rfl rfl he hh fun bb3 a W he hh => ?_
    replace hh := hh.up2
    refine ap ts_23 rfl rfl (Ch.rd hh.at1) (by simp) (by simp [Value.oneCell']) (by have h3 := hp9; rw [sz_mk] at h3; omega) rfl he hh fun A4 cc5 a W he hh => ?_
    replace hh := hh.re (n' := ((pre ++ [(((Utf8.decode (⟨l.toArray⟩) p).1 : Nat) : Int)])).length) (cs' := ((pre ++ [(((Utf8.decode (⟨l.toArray⟩) p).1 : Nat) : Int)])).map r32) (by simp) (by simp [r32])
    replace he := he.be (t := 15) (v' := .slice A4 ((pre ++ [(((Utf8.decode (⟨l.toArray⟩) p).1 : Nat) : Int)])).length cc5) rfl (by congr 1; simp)
    replace hh := hh.up1
    replace hh := hh.drop
    refine asg rfl rfl he fun a he => ?_
    refine en_blk ?_
    refine nm_then ?_
    replace hh := hh.up1
    replace hh := hh.up1
    exact ⟨(p + (Utf8.decode ⟨l.toArray⟩ p).2, pre ++ [(((Utf8.decode ⟨l.toArray⟩ p).1 : Nat) : Int)], f - 1), ⟨A4, cc5, he.keep [0, 3, 7, 8] rfl, hh, (all_step hpre hf hp9).1, (all_step hpre hf hp9).2, by have := decode_wd ⟨l.toArray⟩ p hp9; simp; omega⟩, by have := decode_wd ⟨l.toArray⟩ p hp9; have h3 := hp9; rw [sz_mk] at h3; show l.length - (p + _) < l.length - p; omega⟩
  · refine nxe rfl hp9 rfl he hh fun a he => ?_
    refine xt rfl rfl rfl he fun a he => ?_
    refine en ?_
    refine sq ?_
    refine cnf he rfl ?_
    refine ext ?_
    refine ex_then ?_
    refine ex_then ?_
    refine ex_in ?_
    refine nm_then ?_
    refine sq ?_
    refine rg ?_
    refine mv rfl rfl he fun a he => ?_
    refine asg rfl rfl he fun a he => ?_
    refine en ?_
    refine rt ?_
    refine rets1 Try.results34 he rfl (Ret.mk ?_)
    obtain rfl := all_end hpre hp9
    replace hh := hh.drop
    exact ⟨A_3, c_3, rfl, hh⟩

theorem utf_Feed (I : Snap) (L : List Ch) (W : World) (A_q : Option Addr) (c_q : Nat) (q : List UInt8) (A_k : Option Addr) (c_k : Nat) (k : List UInt8) (hh : Hp I L W) (h_q : Fz I A_q (q.map b8)) (k_q : q.length ≤ c_q) (h_k : Fz I A_k (k.map b8)) (k_k : k.length ≤ c_k) (hb : q.length + k.length ≤ 1000000000000) :
    Calls Try.prog 29 #[.slice A_q q.length c_q, .slice A_k k.length c_k] W (Ret fun v W => ∃ (I' : Snap) (A1 : Option Addr) (c1 : Nat) (A2 : Option Addr) (c2 : Nat), v = .tuple #[.slice A1 ((utfFeed q k).1).length c1, .slice A2 ((utfFeed q k).2).length c2] ∧ I.le I' ∧ Fz I' A2 (((utfFeed q k).2).map b8) ∧ ((utfFeed q k).2).length ≤ c2 ∧ Hp I' (.row A1 ((utfFeed q k).1).length c1 21 1 (((utfFeed q k).1).map r32) :: L) W) := by
  refine enter Try.func29 rfl Try.ntmps29 rfl fun a he => ?_
  refine sq ?_
  refine rg ?_
  refine asg rfl rfl he fun a he => ?_
  refine asg rfl rfl he fun a he => ?_
  refine en ?_
  refine sq ?_
  refine rg ?_
  refine bsl [] [] ts_22 rfl rfl rfl rfl rfl rfl rfl he hh fun bb1 a W he hh => ?_
  refine mv rfl rfl he fun a he => ?_
  refine ap ts_22 rfl rfl (h_q.rd hh) (by simp) (one_map (fun _ => rfl) _) (by first | omega | (simp; omega)) rfl he hh fun A2 cc3 a W he hh => ?_
  replace hh := hh.re (n' := ((q : List UInt8)).length) (cs' := ((q : List UInt8)).map b8) (by simp) (by first | (simp [b8]; done) | (simp [b8]; omega))
  replace he := he.be (t := 12) (v' := .slice A2 ((q : List UInt8)).length cc3) rfl (by congr 1; simp)
  refine mv rfl rfl he fun a he => ?_
  refine ap ts_22 rfl rfl (h_k.rd hh) (by simp) (one_map (fun _ => rfl) _) (by first | omega | (simp; omega)) rfl he hh fun A5 cc6 a W he hh => ?_
  replace hh := hh.re (n' := (((q : List UInt8) ++ k)).length) (cs' := (((q : List UInt8) ++ k)).map b8) (by simp) (by first | (simp [b8]; done) | (simp [b8]; omega))
  replace he := he.be (t := 14) (v' := .slice A5 (((q : List UInt8) ++ k)).length cc6) rfl (by congr 1; simp)
  refine asg rfl rfl he fun a he => ?_
  refine en ?_
  refine sq ?_
  refine rg ?_
  refine asg rfl rfl he fun a he => ?_
  refine en ?_
  refine sq ?_
  refine sq ?_
  have hc11 := (Ch.rowcap hh.at0).1
  obtain ⟨I8, hl9, hh, hf10⟩ := hh.freezeRow
  refine rg ?_
  refine mv rfl rfl he fun a he => ?_
  refine cvbs ((q : List UInt8) ++ k) Try.underlying22 Try.underlying5 Try.underlying9 rfl (hf10.rd hh) (by simp) rfl he fun a he => ?_
  refine rgs Try.underlying9 rfl rfl he hh fun bb12 a W he hh => ?_
  refine en ?_
  refine bk ?_
  replace hh := hh.nilrow 21 1
  replace hh := hh.up1
  replace hh := hh.up1
  refine lp (fun (s : Nat × List Int × Nat) a w => match s with | (p, pre, f) => ∃ (A_7 : Option Addr) (c_7 : Nat), Env 35 [(6, .slice A5 ((((q : List UInt8) ++ k)).length) cc6), (7, .slice A_7 pre.length c_7), (16, .string (⟨((q : List UInt8) ++ k).toArray⟩)), (17, .pointer (some ⟨bb12, 0, none⟩))] a ∧ Hp I8 (.row A_7 pre.length c_7 21 1 (pre.map r32) :: .obj bb12 (.stringIter (⟨((q : List UInt8) ++ k).toArray⟩) p) :: L) w ∧ (pre ++ (feedAt (q ++ k) f p).1, (feedAt (q ++ k) f p).2) = utfFeed q k ∧ (q ++ k).length ≤ p + f ∧ pre.length ≤ p)
      (fun s => (q ++ k).length - s.1) (0, [], (q ++ k).length) ⟨none, 0, he.keep [6, 7, 16, 17] rfl, hh, rfl, by omega, Nat.le_refl _⟩ fun s a W hinv => ?_
  obtain ⟨p, pre, f⟩ := s
  obtain ⟨A_7, c_7, he, hh, hpre, hf, hpp⟩ := hinv
  refine sq ?_
  refine rg ?_
  replace hh := hh.up1
  by_cases hp18 : p < (⟨((q : List UInt8) ++ k).toArray⟩ : ByteArray).size
  · refine nxs rfl hp18 rfl he hh fun a W he hh => ?_
    have h3 : p < (q ++ k).length := by have := hp18; rwa [sz_mk] at this
    refine xt rfl rfl rfl he fun a he => ?_
    refine en ?_
    refine sq ?_
    refine cnt he rfl ?_
    refine sk ?_
    refine nm_then ?_
    refine bk ?_
    refine sq ?_
    refine rg ?_
    refine xt rfl rfl rfl he fun a he => ?_
    refine xt rfl rfl rfl he fun a he => ?_
    refine asg rfl rfl he fun a he => ?_
    refine asg rfl rfl he fun a he => ?_
    refine en ?_
    refine sq ?_
    refine sq ?_
    refine rg ?_
    refine mv rfl rfl he fun a he => ?_
    refine mv rfl rfl he fun a he => ?_
    refine slo1 (xs := ((q : List UInt8) ++ k)) (p) ts_22 rfl rfl hf10 hc11 (by omega) rfl he fun A14 cc15 a hf16 hc17 he => ?_
    refine cal cb_22 rfl (utf_Pending _ _ _ A14 cc15 (((q : List UInt8) ++ k).drop p) hh hf16 hc17) rfl he fun v a W hp he => ?_
    obtain ⟨rfl, hh⟩ := hp
    refine en ?_
    refine cnb he rfl (fun hq => ?_) (fun hq => ?_)
    · refine sq ?_
      refine rgd (SH I8 []) 6 mixo rfl hh fun W hh => ?_
      refine ahp (d := 26) (v := .slice A_7 pre.length c_7) 0 rfl (by kernel_rfl) (by kernel_rfl) (by kernel_rfl) rfl rfl rfl he ⟨_, _, (Snap.le.refl _), hh⟩ (fun W hS => by
          refine mv rfl rfl he fun a he => ?_
          exact aqe he) fun a he => ?_
      refine ahp (d := 27) (v := .slice A5 ((((q : List UInt8) ++ k)).length) cc6) 1 rfl (by kernel_rfl) (by kernel_rfl) (by kernel_rfl) rfl rfl rfl he ⟨_, _, (Snap.le.refl _), hh⟩ (fun W hS => by
          refine mv rfl rfl he fun a he => ?_
          exact aqe he) fun a he => ?_
      refine ahp (d := 28) (v := .int .i64 ((p : Nat) : Int)) 2 rfl (by kernel_rfl) (by kernel_rfl) (by kernel_rfl) rfl rfl rfl he ⟨_, _, (Snap.le.refl _), hh⟩ (fun W hS => by
          refine mv rfl rfl he fun a he => ?_
          exact aqe he) fun a he => ?_
      refine ahp (d := 29) (v := (.slice (if cc6 = p then A5 else A5.map (·.add (p * 1))) (((q : List UInt8) ++ k).length - p) (cc6 - p))) 3 rfl (by kernel_rfl) (by kernel_rfl) (by kernel_rfl) rfl rfl rfl he ⟨_, _, (Snap.le.refl _), hh⟩ (fun W hS => by refine slo (p) ts_22 rfl rfl (by omega) rfl he fun a he => ?_; exact aqe he) fun a he => ?_
      obtain ⟨A18, cc19, eA20, hf21, hc22⟩ := slo_ex (xs := ((q : List UInt8) ++ k)) (l := p) hf10 hc11 (by omega)
      rw [eA20] at he
      refine ahp (d := 4) (v := .slice A_7 pre.length c_7) 4 rfl (by kernel_rfl) (by kernel_rfl) (by kernel_rfl) rfl rfl rfl he ⟨_, _, (Snap.le.refl _), hh⟩ (fun W hS => by
          refine asg rfl rfl he fun a he => ?_
          exact aqe he) fun a he => ?_
      refine ahp (d := 5) (v := .slice A18 ((((q : List UInt8) ++ k).drop p).length) cc19) 5 rfl (by kernel_rfl) (by kernel_rfl) (by kernel_rfl) rfl rfl rfl he ⟨_, _, (Snap.le.refl _), hh⟩ (fun W hS => by
          refine asg rfl rfl he fun a he => ?_
          exact aqe he) fun a he => ?_
      refine ahd (by kernel_rfl) ?_
      refine en ?_
      refine rt ?_
      refine rets2 Try.results29 he rfl rfl (Ret.mk ?_)
      rw [← feed_stop hpre hf h3 hq]
      replace hh := hh.drop
      exact ⟨I8, A_7, c_7, A18, cc19, rfl, hl9, hf21, hc22, hh⟩
    · refine sk ?_
      refine nm_then ?_
      refine rg ?_
      refine mv rfl rfl he fun a he => ?_
      refine mv rfl rfl he fun a he => ?_
      refine bsl [(0, .int .i32 (((Utf8.decode (⟨((q : List UInt8) ++ k).toArray⟩) p).1 : Nat) : Int))] [.int .i32 (((Utf8.decode (⟨((q : List UInt8) ++ k).toArray⟩) p).1 : Nat) : Int)] ts_23 rfl rfl rfl rfl rfl rfl rfl he hh fun bb23 a W he hh => ?_
      replace hh := hh.up2
      refine ap ts_23 rfl rfl (Ch.rd hh.at1) (by simp) (by simp [Value.oneCell']) (by have := hb; have h5 := h3; rw [List.length_append] at h5; omega) rfl he hh fun A24 cc25 a W he hh => ?_
      replace hh := hh.re (n' := ((pre ++ [(((Utf8.decode (⟨((q : List UInt8) ++ k).toArray⟩) p).1 : Nat) : Int)])).length) (cs' := ((pre ++ [(((Utf8.decode (⟨((q : List UInt8) ++ k).toArray⟩) p).1 : Nat) : Int)])).map r32) (by simp) (by simp [r32])
      replace he := he.be (t := 33) (v' := .slice A24 ((pre ++ [(((Utf8.decode (⟨((q : List UInt8) ++ k).toArray⟩) p).1 : Nat) : Int)])).length cc25) rfl (by congr 1; simp)
      replace hh := hh.up1
      replace hh := hh.drop
      refine asg rfl rfl he fun a he => ?_
      refine en_blk ?_
      refine nm_then ?_
      replace hh := hh.up1
      replace hh := hh.up1
      exact ⟨(p + (Utf8.decode (⟨(q ++ k).toArray⟩ : ByteArray) p).2, pre ++ [(((Utf8.decode (⟨(q ++ k).toArray⟩ : ByteArray) p).1 : Nat) : Int)], f - 1), ⟨A24, cc25, he.keep [6, 7, 16, 17] rfl, hh, (feed_step hpre hf h3 hq).1, (feed_step hpre hf h3 hq).2, by have := decode_wd (⟨(q ++ k).toArray⟩ : ByteArray) p hp18; simp; omega⟩, by have := decode_wd (⟨(q ++ k).toArray⟩ : ByteArray) p hp18; show (q ++ k).length - (p + _) < (q ++ k).length - p; omega⟩
  · refine nxe rfl hp18 rfl he hh fun a he => ?_
    refine xt rfl rfl rfl he fun a he => ?_
    refine en ?_
    refine sq ?_
    refine cnf he rfl ?_
    refine ext ?_
    refine ex_then ?_
    refine ex_then ?_
    refine ex_in ?_
    refine nm_then ?_
    refine sq ?_
    refine rg ?_
    refine mv rfl rfl he fun a he => ?_
    refine asg rfl rfl he fun a he => ?_
    refine asg rfl rfl he fun a he => ?_
    refine en ?_
    refine rt ?_
    refine rets2 Try.results29 he rfl rfl (Ret.mk ?_)
    rw [← feed_end hpre (by have := hp18; rwa [sz_mk] at this)]
    replace hh := hh.drop
    exact ⟨I8, A_7, c_7, none, 0, rfl, hl9, Fz.nil _ _, Nat.le_refl _, hh⟩

theorem utf_End (I : Snap) (L : List Ch) (W : World) (A_l : Option Addr) (c_l : Nat) (l : List UInt8) (hh : Hp I L W) (h_l : Fz I A_l (l.map b8)) (k_l : l.length ≤ c_l) (hb : l.length ≤ 1000000000000) :
    Calls Try.prog 31 #[.slice A_l l.length c_l] W (Ret fun v W => ∃ (A1 : Option Addr) (c1 : Nat), v = .slice A1 (utfAll l).length c1 ∧ Hp I (.row A1 (utfAll l).length c1 21 1 ((utfAll l).map r32) :: L) W) := by
  refine enter Try.func31 rfl Try.ntmps31 rfl fun a he => ?_
  refine sq ?_
  refine rg ?_
  refine asg rfl rfl he fun a he => ?_
  refine en ?_
  refine sq ?_
  refine rg ?_
  refine mv rfl rfl he fun a he => ?_
  refine cal cb_34 rfl (utf_All _ _ _ A_l c_l l hh h_l k_l hb) rfl he fun v a W hp he => ?_
  obtain ⟨A1, cc2, rfl, hh⟩ := hp
  refine asg rfl rfl he fun a he => ?_
  refine en ?_
  refine rt ?_
  refine rets1 Try.results31 he rfl (Ret.mk ?_)
  exact ⟨A1, cc2, rfl, hh⟩

theorem bytes_Clone (I : Snap) (L : List Ch) (W : World) (A_l : Option Addr) (c_l : Nat) (l : List UInt8) (hh : Hp I L W) (h_l : Fz I A_l (l.map b8)) (k_l : l.length ≤ c_l) (hb : l.length ≤ 1000000000000) :
    Calls Try.prog 21 #[.slice A_l l.length c_l] W (Ret fun v W => ∃ (A1 : Option Addr) (c1 : Nat), v = .slice A1 (l).length c1 ∧ Hp I (.row A1 (l).length c1 5 1 ((l).map b8) :: L) W) := by
  refine enter Try.func21 rfl Try.ntmps21 rfl fun a he => ?_
  refine sq ?_
  refine rg ?_
  refine asg rfl rfl he fun a he => ?_
  refine en ?_
  refine sq ?_
  refine sq ?_
  refine rg ?_
  refine mv rfl rfl he fun a he => ?_
  refine sni Try.underlying22 rfl rfl rfl he fun a he => ?_
  refine en ?_
  refine cnb he rfl (fun hn => ?_) (fun hn => ?_)
  · refine sq ?_
    refine rg ?_
    refine asg rfl rfl he fun a he => ?_
    refine en ?_
    refine rt ?_
    refine rets1 Try.results21 he rfl (Ret.mk ?_)
    have hA : A_l = none := by simpa using hn
    subst hA
    obtain rfl := Fz.empty h_l
    replace hh := hh.nilrow 5 1
    exact ⟨none, 0, rfl, hh⟩
  · refine sk ?_
    refine nm_then ?_
    refine sq ?_
    refine rg ?_
    refine bsl [] [] ts_22 rfl rfl rfl rfl rfl rfl rfl he hh fun bb2 a W he hh => ?_
    refine mv rfl rfl he fun a he => ?_
    refine ap ts_22 rfl rfl (h_l.rd hh) (by simp) (one_map (fun _ => rfl) _) (by first | omega | (simp; omega)) rfl he hh fun A3 cc4 a W he hh => ?_
    replace hh := hh.re (n' := ((l : List UInt8)).length) (cs' := ((l : List UInt8)).map b8) (by simp) (by first | (simp [b8]; done) | (simp [b8]; omega))
    replace he := he.be (t := 7) (v' := .slice A3 ((l : List UInt8)).length cc4) rfl (by congr 1; simp)
    refine asg rfl rfl he fun a he => ?_
    refine en ?_
    refine rt ?_
    refine rets1 Try.results21 he rfl (Ret.mk ?_)
    exact ⟨A3, cc4, rfl, hh⟩

theorem runes_Clone (I : Snap) (L : List Ch) (W : World) (A_l : Option Addr) (c_l : Nat) (l : List Int) (hh : Hp I L W) (h_l : Fz I A_l (l.map r32)) (k_l : l.length ≤ c_l) (hb : l.length ≤ 1000000000000) :
    Calls Try.prog 42 #[.slice A_l l.length c_l] W (Ret fun v W => ∃ (A1 : Option Addr) (c1 : Nat), v = .slice A1 (l).length c1 ∧ Hp I (.row A1 (l).length c1 21 1 ((l).map r32) :: L) W) := by
  refine enter Try.func42 rfl Try.ntmps42 rfl fun a he => ?_
  refine sq ?_
  refine rg ?_
  refine asg rfl rfl he fun a he => ?_
  refine en ?_
  refine sq ?_
  refine sq ?_
  refine rg ?_
  refine mv rfl rfl he fun a he => ?_
  refine sni Try.underlying23 rfl rfl rfl he fun a he => ?_
  refine en ?_
  refine cnb he rfl (fun hn => ?_) (fun hn => ?_)
  · refine sq ?_
    refine rg ?_
    refine asg rfl rfl he fun a he => ?_
    refine en ?_
    refine rt ?_
    refine rets1 Try.results42 he rfl (Ret.mk ?_)
    have hA : A_l = none := by simpa using hn
    subst hA
    obtain rfl := Fz.empty h_l
    replace hh := hh.nilrow 21 1
    exact ⟨none, 0, rfl, hh⟩
  · refine sk ?_
    refine nm_then ?_
    refine sq ?_
    refine rg ?_
    refine bsl [] [] ts_23 rfl rfl rfl rfl rfl rfl rfl he hh fun bb2 a W he hh => ?_
    refine mv rfl rfl he fun a he => ?_
    refine ap ts_23 rfl rfl (h_l.rd hh) (by simp) (one_map (fun _ => rfl) _) (by first | omega | (simp; omega)) rfl he hh fun A3 cc4 a W he hh => ?_
    replace hh := hh.re (n' := ((l : List Int)).length) (cs' := ((l : List Int)).map r32) (by simp) (by simp [r32])
    replace he := he.be (t := 7) (v' := .slice A3 ((l : List Int)).length cc4) rfl (by congr 1; simp)
    refine asg rfl rfl he fun a he => ?_
    refine en ?_
    refine rt ?_
    refine rets1 Try.results42 he rfl (Ret.mk ?_)
    exact ⟨A3, cc4, rfl, hh⟩

theorem bytes_Equal (I : Snap) (L : List Ch) (W : World) (A_l : Option Addr) (c_l : Nat) (l : List UInt8) (A_k : Option Addr) (c_k : Nat) (k : List UInt8) (hh : Hp I L W) (h_l : Fz I A_l (l.map b8)) (k_l : l.length ≤ c_l) (h_k : Fz I A_k (k.map b8)) (k_k : k.length ≤ c_k) :
    Calls Try.prog 23 #[.slice A_l l.length c_l, .slice A_k k.length c_k] W (Ret fun v W => v = .bool (decide (l = k)) ∧ Hp I (L) W) := by
  refine enter Try.func23 rfl Try.ntmps23 rfl fun a he => ?_
  refine sq ?_
  refine rg ?_
  refine asg rfl rfl he fun a he => ?_
  refine en ?_
  refine sq ?_
  refine rg ?_
  refine mv rfl rfl he fun a he => ?_
  refine cvbs l Try.underlying22 Try.underlying5 Try.underlying9 rfl (h_l.rd hh) (by simp) rfl he fun a he => ?_
  refine mv rfl rfl he fun a he => ?_
  refine cvbs k Try.underlying22 Try.underlying5 Try.underlying9 rfl (h_k.rd hh) (by simp) rfl he fun a he => ?_
  refine seq' rfl rfl rfl he fun a he => ?_
  refine asg rfl rfl he fun a he => ?_
  refine en ?_
  refine rt ?_
  refine rets1 Try.results23 he rfl (Ret.mk ?_)
  exact ⟨by simp, hh⟩

theorem num_Put (I : Snap) (L : List Ch) (W : World) (A_l : Option Addr) (c_l : Nat) (l : List UInt8) (x : Nat) (hh : Hp I L W) (h_l : Fz I A_l (l.map b8)) (k_l : l.length ≤ c_l) (hb : l.length ≤ 1000000000000) (hx : x < 18446744073709551616) :
    Calls Try.prog 26 #[.slice A_l l.length c_l, .int .u64 ((x : Nat) : Int)] W (Ret fun v W => ∃ (A1 : Option Addr) (c1 : Nat), v = .slice A1 (l ++ putN x).length c1 ∧ Hp I (.row A1 (l ++ putN x).length c1 5 1 ((l ++ putN x).map b8) :: L) W) := by
  refine enter Try.func26 rfl Try.ntmps26 rfl fun a he => ?_
  refine sq ?_
  refine rg ?_
  refine asg rfl rfl he fun a he => ?_
  refine en ?_
  refine sq ?_
  refine rg ?_
  refine bsl [] [] ts_22 rfl rfl rfl rfl rfl rfl rfl he hh fun bb1 a W he hh => ?_
  refine mv rfl rfl he fun a he => ?_
  refine ap ts_22 rfl rfl (h_l.rd hh) (by simp) (one_map (fun _ => rfl) _) (by first | omega | (simp; omega)) rfl he hh fun A2 cc3 a W he hh => ?_
  replace hh := hh.re (n' := ((l : List UInt8)).length) (cs' := ((l : List UInt8)).map b8) (by simp) (by first | (simp [b8]; done) | (simp [b8]; omega))
  replace he := he.be (t := 8) (v' := .slice A2 ((l : List UInt8)).length cc3) rfl (by congr 1; simp)
  refine asg rfl rfl he fun a he => ?_
  refine en ?_
  refine sq ?_
  refine bk ?_
  refine lp (fun (s : List UInt8 × Nat × Nat) a w => match s with | (pre, m, f) => ∃ (A_5 : Option Addr) (c_5 : Nat), Env 24 [(1, .int .u64 ((m : Nat) : Int)), (5, .slice A_5 pre.length c_5)] a ∧ Hp I (.row A_5 pre.length c_5 5 1 (pre.map b8) :: L) w ∧ pre ++ putN m = l ++ putN x ∧ m < 18446744073709551616 ∧ m < 128 ^ f ∧ pre.length + f ≤ l.length + 10)
      (fun s => s.2.1) (l, x, 10) ⟨A2, cc3, he.keep [1, 5] rfl, hh, rfl, hx, put_ten hx, Nat.le_refl _⟩ fun s a W hinv => ?_
  obtain ⟨pre, m, f⟩ := s
  obtain ⟨A_5, c_5, he, hh, hpre, hm, hf, hl⟩ := hinv
  refine sq ?_
  refine sq ?_
  refine rg ?_
  refine mv rfl rfl he fun a he => ?_
  refine ge rfl rfl rfl he fun a he => ?_
  refine en ?_
  refine cnd he rfl (fun h1 => ?_) (fun h1 => ?_)
  · replace h1 : 128 ≤ m := by omega
    refine sk ?_
    refine nm_then ?_
    refine bk ?_
    refine sq ?_
    refine rg ?_
    refine mv rfl rfl he fun a he => ?_
    refine mv rfl rfl he fun a he => ?_
    refine ci (((m % 256) : Nat) : Int) .u8 ud_51 Try.underlying5 rfl (by rw [wu8_mod]; omega) rfl he fun a he => ?_
    refine or (((m % 128 + 128) : Nat) : Int) rfl rfl (by rw [bor8_128 _ (by omega)]; omega) rfl he fun a he => ?_
    refine bsl [(0, .int .u8 (((m % 128 + 128) : Nat) : Int))] [.int .u8 (((m % 128 + 128) : Nat) : Int)] ts_22 rfl rfl rfl rfl rfl rfl rfl he hh fun bb5 a W he hh => ?_
    replace hh := hh.up1
    refine ap ts_22 rfl rfl (Ch.rd hh.at1) (by simp) (by simp [Value.oneCell']) (by first | omega | (simp; omega)) rfl he hh fun A6 cc7 a W he hh => ?_
    replace hh := hh.re (n' := ((pre ++ [UInt8.ofNat (m % 128 + 128)])).length) (cs' := ((pre ++ [UInt8.ofNat (m % 128 + 128)])).map b8) (by simp) (by first | (simp [b8]; done) | (simp [b8]; omega))
    replace he := he.be (t := 16) (v' := .slice A6 ((pre ++ [UInt8.ofNat (m % 128 + 128)])).length cc7) rfl (by congr 1; simp)
    replace hh := hh.up1
    replace hh := hh.drop
    refine asg rfl rfl he fun a he => ?_
    refine en ?_
    refine rg ?_
    refine mv rfl rfl he fun a he => ?_
    refine sr (((m / 128) : Nat) : Int) rfl rfl (by omega) (shr7 m) rfl he fun a he => ?_
    refine asg rfl rfl he fun a he => ?_
    refine en_blk ?_
    refine nm_then ?_
    exact ⟨(pre ++ [UInt8.ofNat (m % 128 + 128)], m / 128, f - 1), ⟨A6, cc7, he.keep [1, 5] rfl, hh, (put_step hpre h1 hf).1, by omega, (put_step hpre h1 hf).2.1, by have := (put_step hpre h1 hf).2.2; simp; omega⟩, by show m / 128 < m; omega⟩
  · replace h1 : ¬ (128 ≤ m) := by omega
    refine ext ?_
    refine ex_then ?_
    refine ex_then ?_
    refine ex_in ?_
    refine nm_then ?_
    refine sq ?_
    refine rg ?_
    refine mv rfl rfl he fun a he => ?_
    refine mv rfl rfl he fun a he => ?_
    refine ci ((m : Nat) : Int) .u8 ud_51 Try.underlying5 rfl (wu8 (by omega) (by omega)) rfl he fun a he => ?_
    refine bsl [(0, .int .u8 ((m : Nat) : Int))] [.int .u8 ((m : Nat) : Int)] ts_22 rfl rfl rfl rfl rfl rfl rfl he hh fun bb9 a W he hh => ?_
    replace hh := hh.up1
    refine ap ts_22 rfl rfl (Ch.rd hh.at1) (by simp) (by simp [Value.oneCell']) (by first | omega | (simp; omega)) rfl he hh fun A10 cc11 a W he hh => ?_
    replace hh := hh.re (n' := ((pre ++ [UInt8.ofNat m])).length) (cs' := ((pre ++ [UInt8.ofNat m])).map b8) (by simp) (by first | (simp [b8]; done) | (simp [b8]; omega))
    replace he := he.be (t := 23) (v' := .slice A10 ((pre ++ [UInt8.ofNat m])).length cc11) rfl (by congr 1; simp)
    replace hh := hh.up1
    replace hh := hh.drop
    refine asg rfl rfl he fun a he => ?_
    refine en ?_
    refine rt ?_
    refine rets1 Try.results26 he rfl (Ret.mk ?_)
    rw [← put_end hpre h1]
    exact ⟨A10, cc11, rfl, hh⟩

theorem num_Get (I : Snap) (L : List Ch) (W : World) (A_l : Option Addr) (c_l : Nat) (l : List UInt8) (hh : Hp I L W) (h_l : Fz I A_l (l.map b8)) (k_l : l.length ≤ c_l) :
    Calls Try.prog 20 #[.slice A_l l.length c_l] W (Ret fun v W => v = .tuple #[.int .u64 (((numGet l).1 : Nat) : Int), .int .i64 (((numGet l).2.1 : Nat) : Int), .int .i64 ((numGet l).2.2)] ∧ Hp I (L) W) := by
  refine enter Try.func20 rfl Try.ntmps20 rfl fun a he => ?_
  refine sq ?_
  refine rg ?_
  refine asg rfl rfl he fun a he => ?_
  refine asg rfl rfl he fun a he => ?_
  refine asg rfl rfl he fun a he => ?_
  refine en ?_
  refine sp ?_
  refine sq ?_
  refine rg ?_
  refine asg rfl rfl he fun a he => ?_
  refine en ?_
  refine sq ?_
  refine wp_label ?_
  refine nm_then ?_
  refine sq ?_
  refine cutr (fun a w => ∃ (i : Nat), Env 64 [(0, .slice A_l l.length c_l), (5, .int .i64 ((i : Nat) : Int))] a ∧ Hp I (L) w ∧ scanTo l 10 0 = some i ∧ i ≤ 10 ∧ (i < 10 → i < l.length)) ?_ fun a W hM => ?_
  · refine bk ?_
    refine lp (fun (s : Nat × Nat) a w => match s with | (i, f) => Env 64 [(0, .slice A_l l.length c_l), (5, .int .i64 ((i : Nat) : Int))] a ∧ Hp I (L) w ∧ scanTo l 10 0 = scanTo l f i ∧ f + i = 10 ∧ i ≤ l.length)
        (fun s => 10 - s.1) (0, 10) ⟨he.keep [0, 5] rfl, hh, rfl, rfl, Nat.zero_le _⟩ fun s a W hinv => ?_
    obtain ⟨i, f⟩ := s
    obtain ⟨he, hh, hs, hf, hi⟩ := hinv
    refine sq ?_
    refine sq ?_
    refine rg ?_
    refine mv rfl rfl he fun a he => ?_
    refine lt rfl rfl rfl he fun a he => ?_
    refine en ?_
    refine cnd he rfl (fun h9 => ?_) (fun h9 => ?_)
    · replace h9 : i < 10 := by omega
      refine sk ?_
      refine nm_then ?_
      refine bk ?_
      refine sq ?_
      refine bk ?_
      refine sq ?_
      refine rg ?_
      refine mv rfl rfl he fun a he => ?_
      refine mv rfl rfl he fun a he => ?_
      refine ln Try.underlying22 rfl rfl he fun a he => ?_
      refine eq rfl rfl rfl he fun a he => ?_
      refine asg rfl rfl he fun a he => ?_
      refine en ?_
      refine cnd he rfl (fun h10 => ?_) (fun h10 => ?_)
      · replace h10 : i = l.length := by omega
        refine sq ?_
        refine rg ?_
        refine asg rfl rfl he fun a he => ?_
        refine asg rfl rfl he fun a he => ?_
        refine asg rfl rfl he fun a he => ?_
        refine en ?_
        refine rt ?_
        refine rets3 Try.results20 he rfl rfl rfl (Ret.mk ?_)
        rw [get_short (scan_short hs hf h9 h10)]
        exact ⟨rfl, hh⟩
      · replace h10 : ¬ (i = l.length) := by omega
        refine sq ?_
        refine rg ?_
        refine mv rfl rfl he fun a he => ?_
        refine mv rfl rfl he fun a he => ?_
        obtain ⟨c, hc⟩ := idx_some (xs := l) (i := i) (by omega)
        refine ia1 (xs := l) (i) ts_22 rfl rfl (h_l.rd hh) hc rfl he fun bb1 oo2 a hc3 he => ?_
        refine ld rb_5 rfl hc3 rfl he fun a he => ?_
        refine lt rfl rfl rfl he fun a he => ?_
        refine asg rfl rfl he fun a he => ?_
        refine en ?_
        refine cnd he rfl (fun h15 => ?_) (fun h15 => ?_)
        · replace h15 : c.toNat < 128 := by omega
          refine ext ?_
          refine ex_by rfl ?_
          refine ex_then ?_
          refine ex_by rfl ?_
          refine ex_then ?_
          refine ex_in ?_
          refine nm_then ?_
          exact ⟨i, he.keep [0, 5] rfl, hh, scan_here hs hf h9 hc h15, by omega, fun _ => by omega⟩
        · replace h15 : ¬ (c.toNat < 128) := by omega
          refine sk ?_
          refine nm_blk ?_
          refine nm_then ?_
          refine rg ?_
          refine mv rfl rfl he fun a he => ?_
          refine ad (((i + 1) : Nat) : Int) rfl rfl (w64 (by omega) (by omega)) rfl he fun a he => ?_
          refine asg rfl rfl he fun a he => ?_
          refine en_blk ?_
          refine nm_then ?_
          exact ⟨(i + 1, f - 1), ⟨he.keep [0, 5] rfl, hh, (scan_on hs hf h9 hc h15).1, (scan_on hs hf h9 hc h15).2, by omega⟩, by show 10 - (i + 1) < 10 - i; omega⟩
    · replace h9 : ¬ (i < 10) := by omega
      refine ext ?_
      refine ex_then ?_
      refine ex_then ?_
      refine ex_in ?_
      refine nm_then ?_
      exact ⟨i, he.keep [0, 5] rfl, hh, (scan_ten hs hf h9 (by omega)).1, by omega, fun h => by omega⟩
  obtain ⟨i, he, hh, hs, hi, hj⟩ := hM
  refine nm_then ?_
  refine sq ?_
  refine sq ?_
  refine cutr (fun a w => Env 64 [(0, .slice A_l l.length c_l), (5, .int .i64 ((i : Nat) : Int)), (46, .bool (decide (i = 10 ∨ (i = 9 ∧ 1 < (l[9]?.getD 0).toNat) ∨ (0 < i ∧ (l[i]?.getD 0).toNat = 0))))] a ∧ Hp I (L) w) ?_ fun a W hM => ?_
  · refine rg ?_
    refine mv rfl rfl he fun a he => ?_
    refine eq rfl rfl rfl he fun a he => ?_
    refine mv rfl rfl he fun a he => ?_
    refine sd he (t := 25) rfl (fun h4 he => ?_) (fun h4 he => ?_)
    · replace h4 : i = 10 := by omega
      refine gn rfl rfl he rfl rfl fun a he => ?_
      refine gn rfl rfl he rfl rfl fun a he => ?_
      refine gn rfl rfl he rfl rfl fun a he => ?_
      refine gnu rfl rfl he rfl fun a he => ?_
      refine gnu rfl rfl he rfl fun a he => ?_
      refine gnu rfl rfl he rfl fun a he => ?_
      refine gnu rfl rfl he rfl fun a he => ?_
      refine gnu rfl rfl he rfl fun a he => ?_
      refine gn rfl rfl he rfl rfl fun a he => ?_
      refine pkt rfl rfl rfl he fun a he => ?_
      refine mv rfl rfl he fun a he => ?_
      refine gn rfl rfl he rfl rfl fun a he => ?_
      refine gn rfl rfl he rfl rfl fun a he => ?_
      refine gn rfl rfl he rfl rfl fun a he => ?_
      refine gnu rfl rfl he rfl fun a he => ?_
      refine gnu rfl rfl he rfl fun a he => ?_
      refine gnu rfl rfl he rfl fun a he => ?_
      refine gnu rfl rfl he rfl fun a he => ?_
      refine gnu rfl rfl he rfl fun a he => ?_
      refine gn rfl rfl he rfl rfl fun a he => ?_
      refine pkt rfl rfl rfl he fun a he => ?_
      refine en ?_
      have e9 : i = 9 → (l[9]?.getD 0).toNat = (l[i]?.getD 0).toNat := fun h => by subst h; rfl
      replace he := he.be (t := 46) (v' := .bool (decide (i = 10 ∨ (i = 9 ∧ 1 < (l[9]?.getD 0).toNat) ∨ (0 < i ∧ (l[i]?.getD 0).toNat = 0)))) rfl (by congr 1; symm; first | (apply decide_eq_true; omega) | (apply decide_eq_false; omega) | (apply decide_eq_decide.2; omega))
      exact ⟨he.keep [0, 5, 46] rfl, hh⟩
    · replace h4 : ¬ (i = 10) := by omega
      refine gy rfl he rfl ?_
      refine mv rfl rfl he fun a he => ?_
      refine gy rfl he rfl ?_
      refine eq rfl rfl rfl he fun a he => ?_
      refine gy rfl he rfl ?_
      refine mv rfl rfl he fun a he => ?_
      refine sd he (t := 28) rfl (fun h5 he => ?_) (fun h5 he => ?_)
      · replace h5 : i = 9 := by omega
        refine gy rfl he rfl ?_
        refine mv rfl rfl he fun a he => ?_
        refine gy rfl he rfl ?_
        refine mv rfl rfl he fun a he => ?_
        refine gy rfl he rfl ?_
        obtain ⟨c31, hx31⟩ := idx_some (xs := l) (i := i) (by omega)
        refine ia1 (xs := l) (i) ts_22 rfl rfl (h_l.rd hh) hx31 rfl he fun bb6 oo7 a hc8 he => ?_
        refine gy rfl he rfl ?_
        refine ld rb_5 rfl hc8 rfl he fun a he => ?_
        refine gy rfl he rfl ?_
        refine gt rfl rfl rfl he fun a he => ?_
        refine gy rfl he rfl ?_
        refine pkt rfl rfl rfl he fun a he => ?_
        refine pkf rfl rfl rfl he fun a he => ?_
        refine mv rfl rfl he fun a he => ?_
        refine sd he (t := 36) rfl (fun h9 he => ?_) (fun h9 he => ?_)
        · replace h9 : 1 < c31.toNat := by omega
          refine gn rfl rfl he rfl rfl fun a he => ?_
          refine gn rfl rfl he rfl rfl fun a he => ?_
          refine gn rfl rfl he rfl rfl fun a he => ?_
          refine gnu rfl rfl he rfl fun a he => ?_
          refine gnu rfl rfl he rfl fun a he => ?_
          refine gnu rfl rfl he rfl fun a he => ?_
          refine gnu rfl rfl he rfl fun a he => ?_
          refine gnu rfl rfl he rfl fun a he => ?_
          refine gn rfl rfl he rfl rfl fun a he => ?_
          refine pkt rfl rfl rfl he fun a he => ?_
          refine en ?_
          have e31 : (l[i]?.getD 0).toNat = c31.toNat := by rw [hx31]; rfl
          have e9 : i = 9 → (l[9]?.getD 0).toNat = (l[i]?.getD 0).toNat := fun h => by subst h; rfl
          replace he := he.be (t := 46) (v' := .bool (decide (i = 10 ∨ (i = 9 ∧ 1 < (l[9]?.getD 0).toNat) ∨ (0 < i ∧ (l[i]?.getD 0).toNat = 0)))) rfl (by congr 1; symm; first | (apply decide_eq_true; omega) | (apply decide_eq_false; omega) | (apply decide_eq_decide.2; omega))
          exact ⟨he.keep [0, 5, 46] rfl, hh⟩
        · replace h9 : ¬ (1 < c31.toNat) := by omega
          refine gy rfl he rfl ?_
          refine mv rfl rfl he fun a he => ?_
          refine gy rfl he rfl ?_
          refine gt rfl rfl rfl he fun a he => ?_
          refine gy rfl he rfl ?_
          refine mv rfl rfl he fun a he => ?_
          refine sd he (t := 39) rfl (fun h10 he => ?_) (fun h10 he => ?_)
          · replace h10 : 0 < i := by omega
            refine gy rfl he rfl ?_
            refine mv rfl rfl he fun a he => ?_
            refine gy rfl he rfl ?_
            refine mv rfl rfl he fun a he => ?_
            refine gy rfl he rfl ?_
            obtain ⟨c42, hx42⟩ := idx_some (xs := l) (i := i) (by omega)
            refine ia1 (xs := l) (i) ts_22 rfl rfl (h_l.rd hh) hx42 rfl he fun bb11 oo12 a hc13 he => ?_
            refine gy rfl he rfl ?_
            refine ld rb_5 rfl hc13 rfl he fun a he => ?_
            refine gy rfl he rfl ?_
            refine eq rfl rfl rfl he fun a he => ?_
            refine gy rfl he rfl ?_
            refine pkt rfl rfl rfl he fun a he => ?_
            refine pkf rfl rfl rfl he fun a he => ?_
            refine en ?_
            have e31 : (l[i]?.getD 0).toNat = c31.toNat := by rw [hx31]; rfl
            have e42 : (l[i]?.getD 0).toNat = c42.toNat := by rw [hx42]; rfl
            have e9 : i = 9 → (l[9]?.getD 0).toNat = (l[i]?.getD 0).toNat := fun h => by subst h; rfl
            replace he := he.be (t := 46) (v' := .bool (decide (i = 10 ∨ (i = 9 ∧ 1 < (l[9]?.getD 0).toNat) ∨ (0 < i ∧ (l[i]?.getD 0).toNat = 0)))) rfl (by congr 1; symm; first | (apply decide_eq_true; omega) | (apply decide_eq_false; omega) | (apply decide_eq_decide.2; omega))
            exact ⟨he.keep [0, 5, 46] rfl, hh⟩
          · replace h10 : ¬ (0 < i) := by omega
            refine gn rfl rfl he rfl rfl fun a he => ?_
            refine gn rfl rfl he rfl rfl fun a he => ?_
            refine gn rfl rfl he rfl rfl fun a he => ?_
            refine gn rfl rfl he rfl rfl fun a he => ?_
            refine gn rfl rfl he rfl rfl fun a he => ?_
            refine gy rfl he rfl ?_
            refine pkf rfl rfl rfl he fun a he => ?_
            refine pkf rfl rfl rfl he fun a he => ?_
            refine en ?_
            have e31 : (l[i]?.getD 0).toNat = c31.toNat := by rw [hx31]; rfl
            have e9 : i = 9 → (l[9]?.getD 0).toNat = (l[i]?.getD 0).toNat := fun h => by subst h; rfl
            replace he := he.be (t := 46) (v' := .bool (decide (i = 10 ∨ (i = 9 ∧ 1 < (l[9]?.getD 0).toNat) ∨ (0 < i ∧ (l[i]?.getD 0).toNat = 0)))) rfl (by congr 1; symm; first | (apply decide_eq_true; omega) | (apply decide_eq_false; omega) | (apply decide_eq_decide.2; omega))
            exact ⟨he.keep [0, 5, 46] rfl, hh⟩
      · replace h5 : ¬ (i = 9) := by omega
        refine gn rfl rfl he rfl rfl fun a he => ?_
        refine gn rfl rfl he rfl rfl fun a he => ?_
        refine gn rfl rfl he rfl rfl fun a he => ?_
        refine gn rfl rfl he rfl rfl fun a he => ?_
        refine gn rfl rfl he rfl rfl fun a he => ?_
        refine gy rfl he rfl ?_
        refine pkf rfl rfl rfl he fun a he => ?_
        refine pkf rfl rfl rfl he fun a he => ?_
        refine mv rfl rfl he fun a he => ?_
        refine gy rfl he rfl ?_
        refine mv rfl rfl he fun a he => ?_
        refine gy rfl he rfl ?_
        refine gt rfl rfl rfl he fun a he => ?_
        refine gy rfl he rfl ?_
        refine mv rfl rfl he fun a he => ?_
        refine sd he (t := 39) rfl (fun h14 he => ?_) (fun h14 he => ?_)
        · replace h14 : 0 < i := by omega
          refine gy rfl he rfl ?_
          refine mv rfl rfl he fun a he => ?_
          refine gy rfl he rfl ?_
          refine mv rfl rfl he fun a he => ?_
          refine gy rfl he rfl ?_
          obtain ⟨c42, hx42⟩ := idx_some (xs := l) (i := i) (by omega)
          refine ia1 (xs := l) (i) ts_22 rfl rfl (h_l.rd hh) hx42 rfl he fun bb15 oo16 a hc17 he => ?_
          refine gy rfl he rfl ?_
          refine ld rb_5 rfl hc17 rfl he fun a he => ?_
          refine gy rfl he rfl ?_
          refine eq rfl rfl rfl he fun a he => ?_
          refine gy rfl he rfl ?_
          refine pkt rfl rfl rfl he fun a he => ?_
          refine pkf rfl rfl rfl he fun a he => ?_
          refine en ?_
          have e42 : (l[i]?.getD 0).toNat = c42.toNat := by rw [hx42]; rfl
          have e9 : i = 9 → (l[9]?.getD 0).toNat = (l[i]?.getD 0).toNat := fun h => by subst h; rfl
          replace he := he.be (t := 46) (v' := .bool (decide (i = 10 ∨ (i = 9 ∧ 1 < (l[9]?.getD 0).toNat) ∨ (0 < i ∧ (l[i]?.getD 0).toNat = 0)))) rfl (by congr 1; symm; first | (apply decide_eq_true; omega) | (apply decide_eq_false; omega) | (apply decide_eq_decide.2; omega))
          exact ⟨he.keep [0, 5, 46] rfl, hh⟩
        · replace h14 : ¬ (0 < i) := by omega
          refine gn rfl rfl he rfl rfl fun a he => ?_
          refine gn rfl rfl he rfl rfl fun a he => ?_
          refine gn rfl rfl he rfl rfl fun a he => ?_
          refine gn rfl rfl he rfl rfl fun a he => ?_
          refine gn rfl rfl he rfl rfl fun a he => ?_
          refine gy rfl he rfl ?_
          refine pkf rfl rfl rfl he fun a he => ?_
          refine pkf rfl rfl rfl he fun a he => ?_
          refine en ?_
          have e9 : i = 9 → (l[9]?.getD 0).toNat = (l[i]?.getD 0).toNat := fun h => by subst h; rfl
          replace he := he.be (t := 46) (v' := .bool (decide (i = 10 ∨ (i = 9 ∧ 1 < (l[9]?.getD 0).toNat) ∨ (0 < i ∧ (l[i]?.getD 0).toNat = 0)))) rfl (by congr 1; symm; first | (apply decide_eq_true; omega) | (apply decide_eq_false; omega) | (apply decide_eq_decide.2; omega))
          exact ⟨he.keep [0, 5, 46] rfl, hh⟩
  obtain ⟨he, hh⟩ := hM
  refine nm_then ?_
  refine cnd he rfl (fun h46 => ?_) (fun h46 => ?_)
  · refine sq ?_
    refine rg ?_
    refine asg rfl rfl he fun a he => ?_
    refine asg rfl rfl he fun a he => ?_
    refine asg rfl rfl he fun a he => ?_
    refine en ?_
    refine rt ?_
    refine rets3 Try.results20 he rfl rfl rfl (Ret.mk ?_)
    rw [get_bad hs h46]
    exact ⟨rfl, hh⟩
  · refine sk ?_
    refine nm_then ?_
    refine sq ?_
    refine rg ?_
    refine asg rfl rfl he fun a he => ?_
    refine en ?_
    refine sq ?_
    refine sq ?_
    refine rg ?_
    refine mv rfl rfl he fun a he => ?_
    refine asg rfl rfl he fun a he => ?_
    refine en ?_
    refine bk ?_
    replace he := he.be (t := 7) (v' := .int .i64 ((i : Int) - ((0 : Nat) : Int))) rfl (by congr 1 <;> omega)
    refine lp (fun (k : Nat) a w => Env 64 [(0, .slice A_l l.length c_l), (5, .int .i64 ((i : Nat) : Int)), (6, .int .u64 (((valN l k (i + 1 - k) % 18446744073709551616) : Nat) : Int)), (7, .int .i64 ((i : Int) - ((k : Nat) : Int)))] a ∧ Hp I (L) w ∧ k ≤ i + 1)
        (fun k => i + 1 - k) 0 ⟨he.keep [0, 5, 6, 7] rfl, hh, Nat.zero_le _⟩ fun k a W hinv => ?_
    obtain ⟨he, hh, hk1⟩ := hinv
    refine sq ?_
    refine sq ?_
    refine rg ?_
    refine mv rfl rfl he fun a he => ?_
    refine ge rfl rfl rfl he fun a he => ?_
    refine en ?_
    refine cnd he rfl (fun h18 => ?_) (fun h18 => ?_)
    · have hk : k ≤ i := by omega
      replace he := he.be (t := 7) (v' := .int .i64 (((i - k : Nat)) : Int)) rfl (by congr 1; omega)
      refine sk ?_
      refine nm_then ?_
      refine sq ?_
      refine bk ?_
      refine rg ?_
      refine mv rfl rfl he fun a he => ?_
      refine sl (((valN l k (i + 1 - k) % 18446744073709551616 * 128 % 18446744073709551616) : Nat) : Int) rfl rfl (by omega) (shl7 _) rfl he fun a he => ?_
      refine mv rfl rfl he fun a he => ?_
      refine mv rfl rfl he fun a he => ?_
      obtain ⟨c, hc⟩ := idx_some (xs := l) (i := (i - k)) (by omega)
      refine ia1 (xs := l) ((i - k)) ts_22 rfl rfl (h_l.rd hh) hc rfl he fun bb19 oo20 a hc21 he => ?_
      refine ld rb_5 rfl hc21 rfl he fun a he => ?_
      refine an (((c.toNat % 128) : Nat) : Int) rfl rfl (by rw [show (127 : Int) = ((127 : Nat) : Int) from rfl, band8 _ _ c.toNat_lt (by decide), and127]) rfl he fun a he => ?_
      refine ci (((c.toNat % 128) : Nat) : Int) .u64 ud_5 Try.underlying51 rfl (wu64 (by omega) (by omega)) rfl he fun a he => ?_
      refine or (((valN l (k + 1) (i + 1 - (k + 1)) % 18446744073709551616) : Nat) : Int) rfl rfl (by rw [bor64 _ _ (by omega) (by omega), shl7or _ _ (by omega), val_step hk hc]) rfl he fun a he => ?_
      refine asg rfl rfl he fun a he => ?_
      refine en_blk ?_
      refine nm_then ?_
      refine rg ?_
      refine mv rfl rfl he fun a he => ?_
      refine su ((((i - k) : Nat) : Int) - 1) rfl rfl (w64 (by omega) (by omega)) rfl he fun a he => ?_
      refine asg rfl rfl he fun a he => ?_
      refine en ?_
      replace he := he.be (t := 7) (v' := .int .i64 ((i : Int) - ((k + 1 : Nat) : Int))) rfl (by congr 1; omega)
      exact ⟨k + 1, ⟨he.keep [0, 5, 6, 7] rfl, hh, by omega⟩, by show i + 1 - (k + 1) < i + 1 - k; omega⟩
    · refine ext ?_
      refine ex_then ?_
      refine ex_then ?_
      refine ex_in ?_
      refine nm_then ?_
      refine sq ?_
      refine rg ?_
      refine mv rfl rfl he fun a he => ?_
      refine mv rfl rfl he fun a he => ?_
      refine ad (((i + 1) : Nat) : Int) rfl rfl (w64 (by omega) (by omega)) rfl he fun a he => ?_
      refine asg rfl rfl he fun a he => ?_
      refine asg rfl rfl he fun a he => ?_
      refine asg rfl rfl he fun a he => ?_
      refine en ?_
      refine rt ?_
      refine rets3 Try.results20 he rfl rfl rfl (Ret.mk ?_)
      obtain rfl : k = i + 1 := by omega
      rw [get_good hs h46]
      replace he := he
      exact ⟨by congr 1; rw [Nat.sub_self, Nat.mod_eq_of_lt (val_fits (by omega) (by omega))], hh⟩

end Go.Proofs.Ytndaogkpgoimlaa

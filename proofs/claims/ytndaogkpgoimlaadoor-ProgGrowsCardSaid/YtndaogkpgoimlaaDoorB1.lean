/- Walks through the given program's functions, printed op by op by this session's own program; what each computes is told by the plain functions of the texts S... -/
import Derived.Test.YtndaogkpgoimlaaDoorProg
import Derived.Test.YtndaogkpgoimlaaDoorK9
import Derived.Test.YtndaogkpgoimlaaDoorS1
import Derived.KernelRfl
namespace Go.Proofs.YtndaogkpgoimlaaDoor
open Go Go.RowKit K
set_option linter.unusedVariables false
theorem cb_48 : callable Tryd.prog 48 = true := by kernel_rfl
theorem rb_5 : isRowB Tryd.prog 5 = some false := by kernel_rfl
theorem rb_9 : isRowB Tryd.prog 9 = some false := by kernel_rfl
theorem ts_23 : TS Tryd.prog 23 5 (.int .u8 0) 1 1 := ⟨Tryd.underlying23, ⟨by kernel_rfl, rfl⟩, by decide, by decide⟩
theorem ts_83 : TS Tryd.prog 83 9 (.string ByteArray.empty) 1 16 := ⟨Tryd.underlying83, ⟨by kernel_rfl, rfl⟩, by decide, by decide⟩
theorem ud_21 : (Tryd.prog.underlying 21).isSome = true := by kernel_rfl
theorem ud_5 : (Tryd.prog.underlying 5).isSome = true := by kernel_rfl
theorem ud_55 : (Tryd.prog.underlying 55).isSome = true := by kernel_rfl
theorem utf_well (I : Snap) (L : List Ch) (W : World) (s : ByteArray) (hh : Hp I L W)  :
    Calls Tryd.prog 48 #[.string s] W (Ret fun v W => v = .bool (utfWell s) ∧ Hp I (L) W) := by
  refine enter Tryd.func48 rfl Tryd.ntmps48 rfl fun a he => ?_
  refine sq ?_
  refine rg ?_
  refine asg rfl rfl he fun a he => ?_
  refine en ?_
  refine sq ?_
  refine sq ?_
  refine rg ?_
  refine mv rfl rfl he fun a he => ?_
  refine rgs Tryd.underlying9 rfl rfl he hh fun bb1 a W he hh => ?_
  refine en ?_
  refine bk ?_
  refine lp (fun (_u : Unit) a w => Env 34 [(0, .string s), (5, .string s), (6, .pointer (some ⟨bb1, 0, none⟩))] a ∧ Hp I (.obj bb1 (.stringIter s 0) :: L) w)
      (fun _ => 0) () ⟨he.keep [0, 5, 6] rfl, hh⟩ fun _u a W hinv => ?_
  obtain ⟨he, hh⟩ := hinv
  refine sq ?_
  refine rg ?_
  by_cases hp7 : 0 < (s : ByteArray).size
  · refine nxs rfl hp7 rfl he hh fun a W he hh => ?_
    refine xt rfl rfl rfl he fun a he => ?_
    refine en ?_
    refine sq ?_
    refine cnt he rfl ?_
    refine sk ?_
    refine nm_then ?_
    refine bk ?_
    refine sq ?_
    refine rg ?_
    refine xt rfl rfl rfl he fun a he => ?_
    refine xt rfl rfl rfl he fun a he => ?_
    refine asg rfl rfl he fun a he => ?_
    refine asg rfl rfl he fun a he => ?_
    refine en ?_
    refine sq ?_
    refine rg ?_
    refine mv rfl rfl he fun a he => ?_
    refine eq rfl rfl rfl he fun a he => ?_
    replace he := he.be (t := 12) (v' := .bool true) rfl rfl
    refine mv rfl rfl he fun a he => ?_
    refine gy rfl he rfl ?_
    refine mv rfl rfl he fun a he => ?_
    refine gy rfl he rfl ?_
    refine slen Tryd.underlying9 rfl rfl he fun a he => ?_
    refine gy rfl he rfl ?_
    refine mv rfl rfl he fun a he => ?_
    refine gy rfl he rfl ?_
    refine cvis ud_21 Tryd.underlying9 rfl rfl he fun a he => ?_
    refine gy rfl he rfl ?_
    refine slen Tryd.underlying9 rfl rfl he fun a he => ?_
    refine gy rfl he rfl ?_
    refine eq rfl rfl rfl he fun a he => ?_
    refine pkt rfl rfl rfl he fun a he => ?_
    refine mv rfl rfl he fun a he => ?_
    refine sd he (t := 21) rfl (fun h2 he => ?_) (fun h2 he => ?_)
    · replace h2 : s.size = ((Utf8.encode (((Utf8.decode s 0).1 : Nat) : Int)).size) := by omega
      refine gy rfl he rfl ?_
      refine mv rfl rfl he fun a he => ?_
      refine gy rfl he rfl ?_
      refine slen Tryd.underlying9 rfl rfl he fun a he => ?_
      refine gy rfl he rfl ?_
      refine gt rfl rfl rfl he fun a he => ?_
      refine pkt rfl rfl rfl he fun a he => ?_
      refine mv rfl rfl he fun a he => ?_
      refine sd he (t := 26) rfl (fun h3 he => ?_) (fun h3 he => ?_)
      · replace h3 : 1 < s.size := by omega
        refine gy rfl he rfl ?_
        refine mv rfl rfl he fun a he => ?_
        refine gy rfl he rfl ?_
        refine ne rfl rfl rfl he fun a he => ?_
        refine gy rfl he rfl ?_
        refine mv rfl rfl he fun a he => ?_
        refine sd he (t := 29) rfl (fun h4 he => ?_) (fun h4 he => ?_)
        · replace h4 : ((Utf8.decode s 0).1) ≠ 65533 := by omega
          refine gn rfl rfl he rfl rfl fun a he => ?_
          refine gn rfl rfl he rfl rfl fun a he => ?_
          refine gy rfl he rfl ?_
          refine pkt rfl rfl rfl he fun a he => ?_
          refine pkt rfl rfl rfl he fun a he => ?_
          refine asg rfl rfl he fun a he => ?_
          refine en ?_
          refine rt ?_
          refine rets1 Tryd.results48 he rfl (Ret.mk ?_)
          replace hh := hh.drop
          exact ⟨by simp only [utfWell, decide_eq_true h2, decide_eq_true h3, decide_eq_true h4, decide_eq_true hp7]; simp, hh⟩
        · replace h4 : ¬ (((Utf8.decode s 0).1) ≠ 65533) := by omega
          refine gy rfl he rfl ?_
          refine mv rfl rfl he fun a he => ?_
          refine gy rfl he rfl ?_
          refine seq' rfl rfl rfl he fun a he => ?_
          refine gy rfl he rfl ?_
          refine pkf rfl rfl rfl he fun a he => ?_
          refine pkt rfl rfl rfl he fun a he => ?_
          refine asg rfl rfl he fun a he => ?_
          refine en ?_
          refine rt ?_
          refine rets1 Tryd.results48 he rfl (Ret.mk ?_)
          replace hh := hh.drop
          exact ⟨by simp only [utfWell, decide_eq_true h2, decide_eq_true h3, decide_eq_false h4, decide_eq_true hp7]; simp, hh⟩
      · replace h3 : ¬ (1 < s.size) := by omega
        refine gn rfl rfl he rfl rfl fun a he => ?_
        refine gn rfl rfl he rfl rfl fun a he => ?_
        refine gn rfl rfl he rfl rfl fun a he => ?_
        refine gnu rfl rfl he rfl fun a he => ?_
        refine gnu rfl rfl he rfl fun a he => ?_
        refine gn rfl rfl he rfl rfl fun a he => ?_
        refine pkf rfl rfl rfl he fun a he => ?_
        refine asg rfl rfl he fun a he => ?_
        refine en ?_
        refine rt ?_
        refine rets1 Tryd.results48 he rfl (Ret.mk ?_)
        replace hh := hh.drop
        exact ⟨by simp only [utfWell, decide_eq_true h2, decide_eq_false h3, decide_eq_true hp7]; simp, hh⟩
    · replace h2 : ¬ (s.size = ((Utf8.encode (((Utf8.decode s 0).1 : Nat) : Int)).size)) := by omega
      refine gn rfl rfl he rfl rfl fun a he => ?_
      refine gn rfl rfl he rfl rfl fun a he => ?_
      refine gn rfl rfl he rfl rfl fun a he => ?_
      refine pkf rfl rfl rfl he fun a he => ?_
      refine mv rfl rfl he fun a he => ?_
      refine gn rfl rfl he rfl rfl fun a he => ?_
      refine gn rfl rfl he rfl rfl fun a he => ?_
      refine gn rfl rfl he rfl rfl fun a he => ?_
      refine gnu rfl rfl he rfl fun a he => ?_
      refine gnu rfl rfl he rfl fun a he => ?_
      refine gn rfl rfl he rfl rfl fun a he => ?_
      refine pkf rfl rfl rfl he fun a he => ?_
      refine asg rfl rfl he fun a he => ?_
      refine en ?_
      refine rt ?_
      refine rets1 Tryd.results48 he rfl (Ret.mk ?_)
      replace hh := hh.drop
      exact ⟨by simp only [utfWell, decide_eq_false h2, decide_eq_true hp7]; simp, hh⟩
  · refine nxe rfl hp7 rfl he hh fun a he => ?_
    refine xt rfl rfl rfl he fun a he => ?_
    refine en ?_
    refine sq ?_
    refine cnf he rfl ?_
    refine ext ?_
    refine ex_then ?_
    refine ex_then ?_
    refine ex_in ?_
    refine nm_then ?_
    refine sq ?_
    refine rg ?_
    refine asg rfl rfl he fun a he => ?_
    refine en ?_
    refine rt ?_
    refine rets1 Tryd.results48 he rfl (Ret.mk ?_)
    replace hh := hh.drop
    exact ⟨by simp only [utfWell, decide_eq_false hp7]; simp, hh⟩

theorem utf_Pending (I : Snap) (L : List Ch) (W : World) (A_l : Option Addr) (c_l : Nat) (l : List UInt8) (hh : Hp I L W) (h_l : Fz I A_l (l.map b8)) (k_l : l.length ≤ c_l) :
    Calls Tryd.prog 42 #[.slice A_l l.length c_l] W (Ret fun v W => v = .bool (utfPending l) ∧ Hp I (L) W) := by
  refine enter Tryd.func42 rfl Tryd.ntmps42 rfl fun a he => ?_
  refine sq ?_
  refine rg ?_
  refine asg rfl rfl he fun a he => ?_
  refine en ?_
  refine sq ?_
  refine sq ?_
  refine rg ?_
  refine mv rfl rfl he fun a he => ?_
  refine ln Tryd.underlying23 rfl rfl he fun a he => ?_
  refine lt rfl rfl rfl he fun a he => ?_
  refine mv rfl rfl he fun a he => ?_
  refine sd he (t := 8) rfl (fun h1 he => ?_) (fun h1 he => ?_)
  · replace h1 : l.length < 1 := by omega
    refine gn rfl rfl he rfl rfl fun a he => ?_
    refine gn rfl rfl he rfl rfl fun a he => ?_
    refine gn rfl rfl he rfl rfl fun a he => ?_
    refine pkt rfl rfl rfl he fun a he => ?_
    refine en ?_
    refine cnt he rfl ?_
    refine sq ?_
    refine rg ?_
    refine asg rfl rfl he fun a he => ?_
    refine en ?_
    refine rt ?_
    refine rets1 Tryd.results42 he rfl (Ret.mk ?_)
    exact ⟨by rw [pending_short h1], hh⟩
  · replace h1 : ¬ (l.length < 1) := by omega
    refine gy rfl he rfl ?_
    refine mv rfl rfl he fun a he => ?_
    refine gy rfl he rfl ?_
    refine ln Tryd.underlying23 rfl rfl he fun a he => ?_
    refine gy rfl he rfl ?_
    refine gt rfl rfl rfl he fun a he => ?_
    refine pkf rfl rfl rfl he fun a he => ?_
    refine en ?_
    refine cnd he rfl (fun h2 => ?_) (fun h2 => ?_)
    · replace h2 : 3 < l.length := by omega
      refine sq ?_
      refine rg ?_
      refine asg rfl rfl he fun a he => ?_
      refine en ?_
      refine rt ?_
      refine rets1 Tryd.results42 he rfl (Ret.mk ?_)
      exact ⟨by rw [pending_long h2], hh⟩
    · replace h2 : ¬ (3 < l.length) := by omega
      refine sk ?_
      refine nm_then ?_
      refine sq ?_
      refine sq ?_
      refine rg ?_
      refine bsl [(0, .string (⟨#[128]⟩)), (1, .string (⟨#[128, 128]⟩)), (2, .string (⟨#[128, 128, 128]⟩)), (3, .string (⟨#[144, 128, 128]⟩)), (4, .string (⟨#[160, 128]⟩)), (5, .string (⟨#[144, 128]⟩))] [.string (⟨#[128]⟩), .string (⟨#[128, 128]⟩), .string (⟨#[128, 128, 128]⟩), .string (⟨#[144, 128, 128]⟩), .string (⟨#[160, 128]⟩), .string (⟨#[144, 128]⟩)] ts_83 rfl rfl rfl rfl rfl rfl rfl he hh fun bb1 a W he hh => ?_
      refine ln Tryd.underlying83 rfl rfl he fun a he => ?_
      refine mv rfl rfl he fun a he => ?_
      refine en ?_
      refine bk ?_
      refine lp (fun (i : Nat) a w => Env 25 [(0, .slice A_l l.length c_l), (13, .slice (some ⟨bb1, 0, none⟩) 6 6), (14, .int .i64 6), (15, .int .i64 ((i : Nat) : Int))] a ∧ Hp I (.row (some ⟨bb1, 0, none⟩) 6 6 9 1 ([.string (⟨#[128]⟩), .string (⟨#[128, 128]⟩), .string (⟨#[128, 128, 128]⟩), .string (⟨#[144, 128, 128]⟩), .string (⟨#[160, 128]⟩), .string (⟨#[144, 128]⟩)]) :: L) w ∧ i ≤ 6 ∧ (∀ j, j < i → ∀ t, tailsS[j]? = some t → utfWell (⟨l.toArray⟩ ++ t) = false))
          (fun i => 6 - i) 0 ⟨he.keep [0, 13, 14, 15] rfl, hh, Nat.zero_le _, fun j hj => absurd hj (Nat.not_lt_zero _)⟩ fun i a W hinv => ?_
      obtain ⟨he, hh, hi6, hno⟩ := hinv
      refine sq ?_
      refine rg ?_
      refine lt rfl rfl rfl he fun a he => ?_
      refine en ?_
      refine sq ?_
      refine cnd he rfl (fun h3 => ?_) (fun h3 => ?_)
      · replace h3 : i < 6 := by omega
        refine sk ?_
        refine nm_then ?_
        refine sq ?_
        refine bk ?_
        refine sq ?_
        refine rg ?_
        obtain ⟨x, hx⟩ := idx_some (xs := tailsS) (i := i) (by show _ < 6; omega)
        refine ia1 (xs := tailsS) (i) ts_83 rfl rfl (Ch.rd hh.at0) hx rfl he fun bb2 oo3 a hc4 he => ?_
        refine ld rb_9 rfl hc4 rfl he fun a he => ?_
        refine asg rfl rfl he fun a he => ?_
        refine en ?_
        refine sq ?_
        refine rg ?_
        refine mv rfl rfl he fun a he => ?_
        refine cvbs l Tryd.underlying23 Tryd.underlying5 Tryd.underlying9 rfl (h_l.rd hh) (by simp) rfl he fun a he => ?_
        refine mv rfl rfl he fun a he => ?_
        refine sad rfl rfl (by have := tails_size hx; rw [sz_mk]; omega) rfl he fun a he => ?_
        refine cal cb_48 rfl (utf_well _ _ _ ((⟨l.toArray⟩ : ByteArray) ++ x) hh ) rfl he fun v a W hp he => ?_
        obtain ⟨rfl, hh⟩ := hp
        refine en ?_
        refine cnb he rfl (fun hw => ?_) (fun hw => ?_)
        · refine sq ?_
          refine rg ?_
          refine asg rfl rfl he fun a he => ?_
          refine en ?_
          refine rt ?_
          refine rets1 Tryd.results42 he rfl (Ret.mk ?_)
          replace hh := hh.drop
          exact ⟨by rw [pending_yes h1 h2 hx hw], hh⟩
        · refine sk ?_
          refine nm_blk ?_
          refine nm_then ?_
          refine rg ?_
          refine ad (((i + 1) : Nat) : Int) rfl rfl (w64 (by omega) (by omega)) rfl he fun a he => ?_
          refine mv rfl rfl he fun a he => ?_
          refine en ?_
          exact ⟨i + 1, ⟨he.keep [0, 13, 14, 15] rfl, hh, by omega, fun j hj t ht => by
              by_cases e : j = i
              · subst e; rw [hx] at ht; cases ht; exact hw
              · exact hno j (by omega) t ht⟩, by omega⟩
      · replace h3 : ¬ (i < 6) := by omega
        refine ext ?_
        refine ex_then ?_
        refine ex_then ?_
        refine ex_in ?_
        refine nm_then ?_
        refine sq ?_
        refine rg ?_
        refine asg rfl rfl he fun a he => ?_
        refine en ?_
        refine rt ?_
        refine rets1 Tryd.results42 he rfl (Ret.mk ?_)
        replace hh := hh.drop
        exact ⟨by rw [pending_no fun j hj => hno j (by omega)], hh⟩

theorem bytes_Clone (I : Snap) (L : List Ch) (W : World) (A_l : Option Addr) (c_l : Nat) (l : List UInt8) (hh : Hp I L W) (h_l : Fz I A_l (l.map b8)) (k_l : l.length ≤ c_l) (hb : l.length ≤ 1000000000000) :
    Calls Tryd.prog 41 #[.slice A_l l.length c_l] W (Ret fun v W => ∃ (A1 : Option Addr) (c1 : Nat), v = .slice A1 (l).length c1 ∧ Hp I (.row A1 (l).length c1 5 1 ((l).map b8) :: L) W) := by
  refine enter Tryd.func41 rfl Tryd.ntmps41 rfl fun a he => ?_
  refine sq ?_
  refine rg ?_
  refine asg rfl rfl he fun a he => ?_
  refine en ?_
  refine sq ?_
  refine sq ?_
  refine rg ?_
  refine mv rfl rfl he fun a he => ?_
  refine sni Tryd.underlying23 rfl rfl rfl he fun a he => ?_
  refine en ?_
  refine cnb he rfl (fun hn => ?_) (fun hn => ?_)
  · refine sq ?_
    refine rg ?_
    refine asg rfl rfl he fun a he => ?_
    refine en ?_
    refine rt ?_
    refine rets1 Tryd.results41 he rfl (Ret.mk ?_)
    have hA : A_l = none := by simpa using hn
    subst hA
    obtain rfl := Fz.empty h_l
    replace hh := hh.nilrow 5 1
    exact ⟨none, 0, rfl, hh⟩
  · refine sk ?_
    refine nm_then ?_
    refine sq ?_
    refine rg ?_
    refine bsl [] [] ts_23 rfl rfl rfl rfl rfl rfl rfl he hh fun bb2 a W he hh => ?_
    refine mv rfl rfl he fun a he => ?_
    refine ap ts_23 rfl rfl (h_l.rd hh) (by first | rfl | (simp; done) | (simp; omega)) (one_map (fun _ => rfl) _) (by first | omega | (simp; omega)) rfl he hh fun A3 cc4 a W he hh => ?_
    replace hh := hh.re (n' := ((l : List UInt8)).length) (cs' := ((l : List UInt8)).map b8) (by first | rfl | (simp; done) | (simp; omega)) (by first | (simp [b8]; done) | (simp [b8]; omega))
    replace he := he.be (t := 7) (v' := .slice A3 ((l : List UInt8)).length cc4) rfl (by congr 1 <;> (first | rfl | (simp; done) | (simp; omega)))
    refine asg rfl rfl he fun a he => ?_
    refine en ?_
    refine rt ?_
    refine rets1 Tryd.results41 he rfl (Ret.mk ?_)
    exact ⟨A3, cc4, rfl, hh⟩

theorem bytes_Equal (I : Snap) (L : List Ch) (W : World) (A_l : Option Addr) (c_l : Nat) (l : List UInt8) (A_k : Option Addr) (c_k : Nat) (k : List UInt8) (hh : Hp I L W) (h_l : Fz I A_l (l.map b8)) (k_l : l.length ≤ c_l) (h_k : Fz I A_k (k.map b8)) (k_k : k.length ≤ c_k) :
    Calls Tryd.prog 27 #[.slice A_l l.length c_l, .slice A_k k.length c_k] W (Ret fun v W => v = .bool (decide (l = k)) ∧ Hp I (L) W) := by
  refine enter Tryd.func27 rfl Tryd.ntmps27 rfl fun a he => ?_
  refine sq ?_
  refine rg ?_
  refine asg rfl rfl he fun a he => ?_
  refine en ?_
  refine sq ?_
  refine rg ?_
  refine mv rfl rfl he fun a he => ?_
  refine cvbs l Tryd.underlying23 Tryd.underlying5 Tryd.underlying9 rfl (h_l.rd hh) (by simp) rfl he fun a he => ?_
  refine mv rfl rfl he fun a he => ?_
  refine cvbs k Tryd.underlying23 Tryd.underlying5 Tryd.underlying9 rfl (h_k.rd hh) (by simp) rfl he fun a he => ?_
  refine seq' rfl rfl rfl he fun a he => ?_
  refine asg rfl rfl he fun a he => ?_
  refine en ?_
  refine rt ?_
  refine rets1 Tryd.results27 he rfl (Ret.mk ?_)
  exact ⟨by simp, hh⟩

theorem num_Put (I : Snap) (L : List Ch) (W : World) (A_l : Option Addr) (c_l : Nat) (l : List UInt8) (x : Nat) (hh : Hp I L W) (h_l : Fz I A_l (l.map b8)) (k_l : l.length ≤ c_l) (hb : l.length ≤ 1000000000000) (hx : x < 18446744073709551616) :
    Calls Tryd.prog 29 #[.slice A_l l.length c_l, .int .u64 ((x : Nat) : Int)] W (Ret fun v W => ∃ (A1 : Option Addr) (c1 : Nat), v = .slice A1 (l ++ putN x).length c1 ∧ Hp I (.row A1 (l ++ putN x).length c1 5 1 ((l ++ putN x).map b8) :: L) W) := by
  refine enter Tryd.func29 rfl Tryd.ntmps29 rfl fun a he => ?_
  refine sq ?_
  refine rg ?_
  refine asg rfl rfl he fun a he => ?_
  refine en ?_
  refine sq ?_
  refine rg ?_
  refine bsl [] [] ts_23 rfl rfl rfl rfl rfl rfl rfl he hh fun bb1 a W he hh => ?_
  refine mv rfl rfl he fun a he => ?_
  refine ap ts_23 rfl rfl (h_l.rd hh) (by first | rfl | (simp; done) | (simp; omega)) (one_map (fun _ => rfl) _) (by first | omega | (simp; omega)) rfl he hh fun A2 cc3 a W he hh => ?_
  replace hh := hh.re (n' := ((l : List UInt8)).length) (cs' := ((l : List UInt8)).map b8) (by first | rfl | (simp; done) | (simp; omega)) (by first | (simp [b8]; done) | (simp [b8]; omega))
  replace he := he.be (t := 8) (v' := .slice A2 ((l : List UInt8)).length cc3) rfl (by congr 1 <;> (first | rfl | (simp; done) | (simp; omega)))
  refine asg rfl rfl he fun a he => ?_
  refine en ?_
  refine sq ?_
  refine bk ?_
  refine lp (fun (s : List UInt8 × Nat × Nat) a w => match s with | (pre, m, f) => ∃ (A_5 : Option Addr) (c_5 : Nat), Env 24 [(1, .int .u64 ((m : Nat) : Int)), (5, .slice A_5 pre.length c_5)] a ∧ Hp I (.row A_5 pre.length c_5 5 1 (pre.map b8) :: L) w ∧ pre ++ putN m = l ++ putN x ∧ m < 18446744073709551616 ∧ m < 128 ^ f ∧ pre.length + f ≤ l.length + 10)
      (fun s => s.2.1) (l, x, 10) ⟨A2, cc3, he.keep [1, 5] rfl, hh, rfl, hx, put_ten hx, Nat.le_refl _⟩ fun s a W hinv => ?_
  obtain ⟨pre, m, f⟩ := s
  obtain ⟨A_5, c_5, he, hh, hpre, hm, hf, hl⟩ := hinv
  refine sq ?_
  refine sq ?_
  refine rg ?_
  refine mv rfl rfl he fun a he => ?_
  refine ge rfl rfl rfl he fun a he => ?_
  refine en ?_
  refine cnd he rfl (fun h1 => ?_) (fun h1 => ?_)
  · replace h1 : 128 ≤ m := by omega
    refine sk ?_
    refine nm_then ?_
    refine bk ?_
    refine sq ?_
    refine rg ?_
    refine mv rfl rfl he fun a he => ?_
    refine mv rfl rfl he fun a he => ?_
    refine ci (((m % 256) : Nat) : Int) .u8 ud_55 Tryd.underlying5 rfl (by rw [wu8_mod]; omega) rfl he fun a he => ?_
    refine or (((m % 128 + 128) : Nat) : Int) rfl rfl (by rw [bor8_128 _ (by omega)]; omega) rfl he fun a he => ?_
    refine bsl [(0, .int .u8 (((m % 128 + 128) : Nat) : Int))] [.int .u8 (((m % 128 + 128) : Nat) : Int)] ts_23 rfl rfl rfl rfl rfl rfl rfl he hh fun bb5 a W he hh => ?_
    replace hh := hh.up1
    refine ap ts_23 rfl rfl (Ch.rd hh.at1) (by first | rfl | (simp; done) | (simp; omega)) (by simp [Value.oneCell']) (by first | omega | (simp; omega)) rfl he hh fun A6 cc7 a W he hh => ?_
    replace hh := hh.re (n' := ((pre ++ [UInt8.ofNat (m % 128 + 128)])).length) (cs' := ((pre ++ [UInt8.ofNat (m % 128 + 128)])).map b8) (by first | rfl | (simp; done) | (simp; omega)) (by first | (simp [b8]; done) | (simp [b8]; omega))
    replace he := he.be (t := 16) (v' := .slice A6 ((pre ++ [UInt8.ofNat (m % 128 + 128)])).length cc7) rfl (by congr 1 <;> (first | rfl | (simp; done) | (simp; omega)))
    replace hh := hh.up1
    replace hh := hh.drop
    refine asg rfl rfl he fun a he => ?_
    refine en ?_
    refine rg ?_
    refine mv rfl rfl he fun a he => ?_
    refine sr (((m / 128) : Nat) : Int) rfl rfl (by omega) (shr7 m) rfl he fun a he => ?_
    refine asg rfl rfl he fun a he => ?_
    refine en_blk ?_
    refine nm_then ?_
    exact ⟨(pre ++ [UInt8.ofNat (m % 128 + 128)], m / 128, f - 1), ⟨A6, cc7, he.keep [1, 5] rfl, hh, (put_step hpre h1 hf).1, by omega, (put_step hpre h1 hf).2.1, by have := (put_step hpre h1 hf).2.2; simp; omega⟩, by show m / 128 < m; omega⟩
  · replace h1 : ¬ (128 ≤ m) := by omega
    refine ext ?_
    refine ex_then ?_
    refine ex_then ?_
    refine ex_in ?_
    refine nm_then ?_
    refine sq ?_
    refine rg ?_
    refine mv rfl rfl he fun a he => ?_
    refine mv rfl rfl he fun a he => ?_
    refine ci ((m : Nat) : Int) .u8 ud_55 Tryd.underlying5 rfl (wu8 (by omega) (by omega)) rfl he fun a he => ?_
    refine bsl [(0, .int .u8 ((m : Nat) : Int))] [.int .u8 ((m : Nat) : Int)] ts_23 rfl rfl rfl rfl rfl rfl rfl he hh fun bb9 a W he hh => ?_
    replace hh := hh.up1
    refine ap ts_23 rfl rfl (Ch.rd hh.at1) (by first | rfl | (simp; done) | (simp; omega)) (by simp [Value.oneCell']) (by first | omega | (simp; omega)) rfl he hh fun A10 cc11 a W he hh => ?_
    replace hh := hh.re (n' := ((pre ++ [UInt8.ofNat m])).length) (cs' := ((pre ++ [UInt8.ofNat m])).map b8) (by first | rfl | (simp; done) | (simp; omega)) (by first | (simp [b8]; done) | (simp [b8]; omega))
    replace he := he.be (t := 23) (v' := .slice A10 ((pre ++ [UInt8.ofNat m])).length cc11) rfl (by congr 1 <;> (first | rfl | (simp; done) | (simp; omega)))
    replace hh := hh.up1
    replace hh := hh.drop
    refine asg rfl rfl he fun a he => ?_
    refine en ?_
    refine rt ?_
    refine rets1 Tryd.results29 he rfl (Ret.mk ?_)
    rw [← put_end hpre h1]
    exact ⟨A10, cc11, rfl, hh⟩

theorem num_Get (I : Snap) (L : List Ch) (W : World) (A_l : Option Addr) (c_l : Nat) (l : List UInt8) (hh : Hp I L W) (h_l : Fz I A_l (l.map b8)) (k_l : l.length ≤ c_l) :
    Calls Tryd.prog 24 #[.slice A_l l.length c_l] W (Ret fun v W => v = .tuple #[.int .u64 (((numGet l).1 : Nat) : Int), .int .i64 (((numGet l).2.1 : Nat) : Int), .int .i64 ((numGet l).2.2)] ∧ Hp I (L) W) := by
  refine enter Tryd.func24 rfl Tryd.ntmps24 rfl fun a he => ?_
  refine sq ?_
  refine rg ?_
  refine asg rfl rfl he fun a he => ?_
  refine asg rfl rfl he fun a he => ?_
  refine asg rfl rfl he fun a he => ?_
  refine en ?_
  refine sp ?_
  refine sq ?_
  refine rg ?_
  refine asg rfl rfl he fun a he => ?_
  refine en ?_
  refine sq ?_
  refine wp_label ?_
  refine nm_then ?_
  refine sq ?_
  refine cutr (fun a w => ∃ (i : Nat), Env 64 [(0, .slice A_l l.length c_l), (5, .int .i64 ((i : Nat) : Int))] a ∧ Hp I (L) w ∧ scanTo l 10 0 = some i ∧ i ≤ 10 ∧ (i < 10 → i < l.length)) ?_ fun a W hM => ?_
  · refine bk ?_
    refine lp (fun (s : Nat × Nat) a w => match s with | (i, f) => Env 64 [(0, .slice A_l l.length c_l), (5, .int .i64 ((i : Nat) : Int))] a ∧ Hp I (L) w ∧ scanTo l 10 0 = scanTo l f i ∧ f + i = 10 ∧ i ≤ l.length)
        (fun s => 10 - s.1) (0, 10) ⟨he.keep [0, 5] rfl, hh, rfl, rfl, Nat.zero_le _⟩ fun s a W hinv => ?_
    obtain ⟨i, f⟩ := s
    obtain ⟨he, hh, hs, hf, hi⟩ := hinv
    refine sq ?_
    refine sq ?_
    refine rg ?_
    refine mv rfl rfl he fun a he => ?_
    refine lt rfl rfl rfl he fun a he => ?_
    refine en ?_
    refine cnd he rfl (fun h9 => ?_) (fun h9 => ?_)
    · replace h9 : i < 10 := by omega
      refine sk ?_
      refine nm_then ?_
      refine bk ?_
      refine sq ?_
      refine bk ?_
      refine sq ?_
      refine rg ?_
      refine mv rfl rfl he fun a he => ?_
      refine mv rfl rfl he fun a he => ?_
      refine ln Tryd.underlying23 rfl rfl he fun a he => ?_
      refine eq rfl rfl rfl he fun a he => ?_
      refine asg rfl rfl he fun a he => ?_
      refine en ?_
      refine cnd he rfl (fun h10 => ?_) (fun h10 => ?_)
      · replace h10 : i = l.length := by omega
        refine sq ?_
        refine rg ?_
        refine asg rfl rfl he fun a he => ?_
        refine asg rfl rfl he fun a he => ?_
        refine asg rfl rfl he fun a he => ?_
        refine en ?_
        refine rt ?_
        refine rets3 Tryd.results24 he rfl rfl rfl (Ret.mk ?_)
        rw [get_short (scan_short hs hf h9 h10)]
        exact ⟨rfl, hh⟩
      · replace h10 : ¬ (i = l.length) := by omega
        refine sq ?_
        refine rg ?_
        refine mv rfl rfl he fun a he => ?_
        refine mv rfl rfl he fun a he => ?_
        obtain ⟨c, hc⟩ := idx_some (xs := l) (i := i) (by omega)
        refine ia1 (xs := l) (i) ts_23 rfl rfl (h_l.rd hh) hc rfl he fun bb1 oo2 a hc3 he => ?_
        refine ld rb_5 rfl hc3 rfl he fun a he => ?_
        refine lt rfl rfl rfl he fun a he => ?_
        refine asg rfl rfl he fun a he => ?_
        refine en ?_
        refine cnd he rfl (fun h15 => ?_) (fun h15 => ?_)
        · replace h15 : c.toNat < 128 := by omega
          refine ext ?_
          refine ex_by rfl ?_
          refine ex_then ?_
          refine ex_by rfl ?_
          refine ex_then ?_
          refine ex_in ?_
          refine nm_then ?_
          exact ⟨i, he.keep [0, 5] rfl, hh, scan_here hs hf h9 hc h15, by omega, fun _ => by omega⟩
        · replace h15 : ¬ (c.toNat < 128) := by omega
          refine sk ?_
          refine nm_blk ?_
          refine nm_then ?_
          refine rg ?_
          refine mv rfl rfl he fun a he => ?_
          refine ad (((i + 1) : Nat) : Int) rfl rfl (w64 (by omega) (by omega)) rfl he fun a he => ?_
          refine asg rfl rfl he fun a he => ?_
          refine en_blk ?_
          refine nm_then ?_
          exact ⟨(i + 1, f - 1), ⟨he.keep [0, 5] rfl, hh, (scan_on hs hf h9 hc h15).1, (scan_on hs hf h9 hc h15).2, by omega⟩, by show 10 - (i + 1) < 10 - i; omega⟩
    · replace h9 : ¬ (i < 10) := by omega
      refine ext ?_
      refine ex_then ?_
      refine ex_then ?_
      refine ex_in ?_
      refine nm_then ?_
      exact ⟨i, he.keep [0, 5] rfl, hh, (scan_ten hs hf h9 (by omega)).1, by omega, fun h => by omega⟩
  obtain ⟨i, he, hh, hs, hi, hj⟩ := hM
  refine nm_then ?_
  refine sq ?_
  refine sq ?_
  refine cutr (fun a w => Env 64 [(0, .slice A_l l.length c_l), (5, .int .i64 ((i : Nat) : Int)), (46, .bool (decide (i = 10 ∨ (i = 9 ∧ 1 < (l[9]?.getD 0).toNat) ∨ (0 < i ∧ (l[i]?.getD 0).toNat = 0))))] a ∧ Hp I (L) w) ?_ fun a W hM => ?_
  · refine rg ?_
    refine mv rfl rfl he fun a he => ?_
    refine eq rfl rfl rfl he fun a he => ?_
    refine mv rfl rfl he fun a he => ?_
    refine sd he (t := 25) rfl (fun h4 he => ?_) (fun h4 he => ?_)
    · replace h4 : i = 10 := by omega
      refine gn rfl rfl he rfl rfl fun a he => ?_
      refine gn rfl rfl he rfl rfl fun a he => ?_
      refine gn rfl rfl he rfl rfl fun a he => ?_
      refine gnu rfl rfl he rfl fun a he => ?_
      refine gnu rfl rfl he rfl fun a he => ?_
      refine gnu rfl rfl he rfl fun a he => ?_
      refine gnu rfl rfl he rfl fun a he => ?_
      refine gnu rfl rfl he rfl fun a he => ?_
      refine gn rfl rfl he rfl rfl fun a he => ?_
      refine pkt rfl rfl rfl he fun a he => ?_
      refine mv rfl rfl he fun a he => ?_
      refine gn rfl rfl he rfl rfl fun a he => ?_
      refine gn rfl rfl he rfl rfl fun a he => ?_
      refine gn rfl rfl he rfl rfl fun a he => ?_
      refine gnu rfl rfl he rfl fun a he => ?_
      refine gnu rfl rfl he rfl fun a he => ?_
      refine gnu rfl rfl he rfl fun a he => ?_
      refine gnu rfl rfl he rfl fun a he => ?_
      refine gnu rfl rfl he rfl fun a he => ?_
      refine gn rfl rfl he rfl rfl fun a he => ?_
      refine pkt rfl rfl rfl he fun a he => ?_
      refine en ?_
      have e9 : i = 9 → (l[9]?.getD 0).toNat = (l[i]?.getD 0).toNat := fun h => by subst h; rfl
      replace he := he.be (t := 46) (v' := .bool (decide (i = 10 ∨ (i = 9 ∧ 1 < (l[9]?.getD 0).toNat) ∨ (0 < i ∧ (l[i]?.getD 0).toNat = 0)))) rfl (by congr 1; symm; first | (apply decide_eq_true; omega) | (apply decide_eq_false; omega) | (apply decide_eq_decide.2; omega))
      exact ⟨he.keep [0, 5, 46] rfl, hh⟩
    · replace h4 : ¬ (i = 10) := by omega
      refine gy rfl he rfl ?_
      refine mv rfl rfl he fun a he => ?_
      refine gy rfl he rfl ?_
      refine eq rfl rfl rfl he fun a he => ?_
      refine gy rfl he rfl ?_
      refine mv rfl rfl he fun a he => ?_
      refine sd he (t := 28) rfl (fun h5 he => ?_) (fun h5 he => ?_)
      · replace h5 : i = 9 := by omega
        refine gy rfl he rfl ?_
        refine mv rfl rfl he fun a he => ?_
        refine gy rfl he rfl ?_
        refine mv rfl rfl he fun a he => ?_
        refine gy rfl he rfl ?_
        obtain ⟨c31, hx31⟩ := idx_some (xs := l) (i := i) (by omega)
        refine ia1 (xs := l) (i) ts_23 rfl rfl (h_l.rd hh) hx31 rfl he fun bb6 oo7 a hc8 he => ?_
        refine gy rfl he rfl ?_
        refine ld rb_5 rfl hc8 rfl he fun a he => ?_
        refine gy rfl he rfl ?_
        refine gt rfl rfl rfl he fun a he => ?_
        refine gy rfl he rfl ?_
        refine pkt rfl rfl rfl he fun a he => ?_
        refine pkf rfl rfl rfl he fun a he => ?_
        refine mv rfl rfl he fun a he => ?_
        refine sd he (t := 36) rfl (fun h9 he => ?_) (fun h9 he => ?_)
        · replace h9 : 1 < c31.toNat := by omega
          refine gn rfl rfl he rfl rfl fun a he => ?_
          refine gn rfl rfl he rfl rfl fun a he => ?_
          refine gn rfl rfl he rfl rfl fun a he => ?_
          refine gnu rfl rfl he rfl fun a he => ?_
          refine gnu rfl rfl he rfl fun a he => ?_
          refine gnu rfl rfl he rfl fun a he => ?_
          refine gnu rfl rfl he rfl fun a he => ?_
          refine gnu rfl rfl he rfl fun a he => ?_
          refine gn rfl rfl he rfl rfl fun a he => ?_
          refine pkt rfl rfl rfl he fun a he => ?_
          refine en ?_
          have e31 : (l[i]?.getD 0).toNat = c31.toNat := by rw [hx31]; rfl
          have e9 : i = 9 → (l[9]?.getD 0).toNat = (l[i]?.getD 0).toNat := fun h => by subst h; rfl
          replace he := he.be (t := 46) (v' := .bool (decide (i = 10 ∨ (i = 9 ∧ 1 < (l[9]?.getD 0).toNat) ∨ (0 < i ∧ (l[i]?.getD 0).toNat = 0)))) rfl (by congr 1; symm; first | (apply decide_eq_true; omega) | (apply decide_eq_false; omega) | (apply decide_eq_decide.2; omega))
          exact ⟨he.keep [0, 5, 46] rfl, hh⟩
        · replace h9 : ¬ (1 < c31.toNat) := by omega
          refine gy rfl he rfl ?_
          refine mv rfl rfl he fun a he => ?_
          refine gy rfl he rfl ?_
          refine gt rfl rfl rfl he fun a he => ?_
          refine gy rfl he rfl ?_
          refine mv rfl rfl he fun a he => ?_
          refine sd he (t := 39) rfl (fun h10 he => ?_) (fun h10 he => ?_)
          · replace h10 : 0 < i := by omega
            refine gy rfl he rfl ?_
            refine mv rfl rfl he fun a he => ?_
            refine gy rfl he rfl ?_
            refine mv rfl rfl he fun a he => ?_
            refine gy rfl he rfl ?_
            obtain ⟨c42, hx42⟩ := idx_some (xs := l) (i := i) (by omega)
            refine ia1 (xs := l) (i) ts_23 rfl rfl (h_l.rd hh) hx42 rfl he fun bb11 oo12 a hc13 he => ?_
            refine gy rfl he rfl ?_
            refine ld rb_5 rfl hc13 rfl he fun a he => ?_
            refine gy rfl he rfl ?_
            refine eq rfl rfl rfl he fun a he => ?_
            refine gy rfl he rfl ?_
            refine pkt rfl rfl rfl he fun a he => ?_
            refine pkf rfl rfl rfl he fun a he => ?_
            refine en ?_
            have e31 : (l[i]?.getD 0).toNat = c31.toNat := by rw [hx31]; rfl
            have e42 : (l[i]?.getD 0).toNat = c42.toNat := by rw [hx42]; rfl
            have e9 : i = 9 → (l[9]?.getD 0).toNat = (l[i]?.getD 0).toNat := fun h => by subst h; rfl
            replace he := he.be (t := 46) (v' := .bool (decide (i = 10 ∨ (i = 9 ∧ 1 < (l[9]?.getD 0).toNat) ∨ (0 < i ∧ (l[i]?.getD 0).toNat = 0)))) rfl (by congr 1; symm; first | (apply decide_eq_true; omega) | (apply decide_eq_false; omega) | (apply decide_eq_decide.2; omega))
            exact ⟨he.keep [0, 5, 46] rfl, hh⟩
          · replace h10 : ¬ (0 < i) := by omega
            refine gn rfl rfl he rfl rfl fun a he => ?_
            refine gn rfl rfl he rfl rfl fun a he => ?_
            refine gn rfl rfl he rfl rfl fun a he => ?_
            refine gn rfl rfl he rfl rfl fun a he => ?_
            refine gn rfl rfl he rfl rfl fun a he => ?_
            refine gy rfl he rfl ?_
            refine pkf rfl rfl rfl he fun a he => ?_
            refine pkf rfl rfl rfl he fun a he => ?_
            refine en ?_
            have e31 : (l[i]?.getD 0).toNat = c31.toNat := by rw [hx31]; rfl
            have e9 : i = 9 → (l[9]?.getD 0).toNat = (l[i]?.getD 0).toNat := fun h => by subst h; rfl
            replace he := he.be (t := 46) (v' := .bool (decide (i = 10 ∨ (i = 9 ∧ 1 < (l[9]?.getD 0).toNat) ∨ (0 < i ∧ (l[i]?.getD 0).toNat = 0)))) rfl (by congr 1; symm; first | (apply decide_eq_true; omega) | (apply decide_eq_false; omega) | (apply decide_eq_decide.2; omega))
            exact ⟨he.keep [0, 5, 46] rfl, hh⟩
      · replace h5 : ¬ (i = 9) := by omega
        refine gn rfl rfl he rfl rfl fun a he => ?_
        refine gn rfl rfl he rfl rfl fun a he => ?_
        refine gn rfl rfl he rfl rfl fun a he => ?_
        refine gn rfl rfl he rfl rfl fun a he => ?_
        refine gn rfl rfl he rfl rfl fun a he => ?_
        refine gy rfl he rfl ?_
        refine pkf rfl rfl rfl he fun a he => ?_
        refine pkf rfl rfl rfl he fun a he => ?_
        refine mv rfl rfl he fun a he => ?_
        refine gy rfl he rfl ?_
        refine mv rfl rfl he fun a he => ?_
        refine gy rfl he rfl ?_
        refine gt rfl rfl rfl he fun a he => ?_
        refine gy rfl he rfl ?_
        refine mv rfl rfl he fun a he => ?_
        refine sd he (t := 39) rfl (fun h14 he => ?_) (fun h14 he => ?_)
        · replace h14 : 0 < i := by omega
          refine gy rfl he rfl ?_
          refine mv rfl rfl he fun a he => ?_
          refine gy rfl he rfl ?_
          refine mv rfl rfl he fun a he => ?_
          refine gy rfl he rfl ?_
          obtain ⟨c42, hx42⟩ := idx_some (xs := l) (i := i) (by omega)
          refine ia1 (xs := l) (i) ts_23 rfl rfl (h_l.rd hh) hx42 rfl he fun bb15 oo16 a hc17 he => ?_
          refine gy rfl he rfl ?_
          refine ld rb_5 rfl hc17 rfl he fun a he => ?_
          refine gy rfl he rfl ?_
          refine eq rfl rfl rfl he fun a he => ?_
          refine gy rfl he rfl ?_
          refine pkt rfl rfl rfl he fun a he => ?_
          refine pkf rfl rfl rfl he fun a he => ?_
          refine en ?_
          have e42 : (l[i]?.getD 0).toNat = c42.toNat := by rw [hx42]; rfl
          have e9 : i = 9 → (l[9]?.getD 0).toNat = (l[i]?.getD 0).toNat := fun h => by subst h; rfl
          replace he := he.be (t := 46) (v' := .bool (decide (i = 10 ∨ (i = 9 ∧ 1 < (l[9]?.getD 0).toNat) ∨ (0 < i ∧ (l[i]?.getD 0).toNat = 0)))) rfl (by congr 1; symm; first | (apply decide_eq_true; omega) | (apply decide_eq_false; omega) | (apply decide_eq_decide.2; omega))
          exact ⟨he.keep [0, 5, 46] rfl, hh⟩
        · replace h14 : ¬ (0 < i) := by omega
          refine gn rfl rfl he rfl rfl fun a he => ?_
          refine gn rfl rfl he rfl rfl fun a he => ?_
          refine gn rfl rfl he rfl rfl fun a he => ?_
          refine gn rfl rfl he rfl rfl fun a he => ?_
          refine gn rfl rfl he rfl rfl fun a he => ?_
          refine gy rfl he rfl ?_
          refine pkf rfl rfl rfl he fun a he => ?_
          refine pkf rfl rfl rfl he fun a he => ?_
          refine en ?_
          have e9 : i = 9 → (l[9]?.getD 0).toNat = (l[i]?.getD 0).toNat := fun h => by subst h; rfl
          replace he := he.be (t := 46) (v' := .bool (decide (i = 10 ∨ (i = 9 ∧ 1 < (l[9]?.getD 0).toNat) ∨ (0 < i ∧ (l[i]?.getD 0).toNat = 0)))) rfl (by congr 1; symm; first | (apply decide_eq_true; omega) | (apply decide_eq_false; omega) | (apply decide_eq_decide.2; omega))
          exact ⟨he.keep [0, 5, 46] rfl, hh⟩
  obtain ⟨he, hh⟩ := hM
  refine nm_then ?_
  refine cnd he rfl (fun h46 => ?_) (fun h46 => ?_)
  · refine sq ?_
    refine rg ?_
    refine asg rfl rfl he fun a he => ?_
    refine asg rfl rfl he fun a he => ?_
    refine asg rfl rfl he fun a he => ?_
    refine en ?_
    refine rt ?_
    refine rets3 Tryd.results24 he rfl rfl rfl (Ret.mk ?_)
    rw [get_bad hs h46]
    exact ⟨rfl, hh⟩
  · refine sk ?_
    refine nm_then ?_
    refine sq ?_
    refine rg ?_
    refine asg rfl rfl he fun a he => ?_
    refine en ?_
    refine sq ?_
    refine sq ?_
    refine rg ?_
    refine mv rfl rfl he fun a he => ?_
    refine asg rfl rfl he fun a he => ?_
    refine en ?_
    refine bk ?_
    replace he := he.be (t := 7) (v' := .int .i64 ((i : Int) - ((0 : Nat) : Int))) rfl (by congr 1 <;> omega)
    refine lp (fun (k : Nat) a w => Env 64 [(0, .slice A_l l.length c_l), (5, .int .i64 ((i : Nat) : Int)), (6, .int .u64 (((valN l k (i + 1 - k) % 18446744073709551616) : Nat) : Int)), (7, .int .i64 ((i : Int) - ((k : Nat) : Int)))] a ∧ Hp I (L) w ∧ k ≤ i + 1)
        (fun k => i + 1 - k) 0 ⟨he.keep [0, 5, 6, 7] rfl, hh, Nat.zero_le _⟩ fun k a W hinv => ?_
    obtain ⟨he, hh, hk1⟩ := hinv
    refine sq ?_
    refine sq ?_
    refine rg ?_
    refine mv rfl rfl he fun a he => ?_
    refine ge rfl rfl rfl he fun a he => ?_
    refine en ?_
    refine cnd he rfl (fun h18 => ?_) (fun h18 => ?_)
    · have hk : k ≤ i := by omega
      replace he := he.be (t := 7) (v' := .int .i64 (((i - k : Nat)) : Int)) rfl (by congr 1; omega)
      refine sk ?_
      refine nm_then ?_
      refine sq ?_
      refine bk ?_
      refine rg ?_
      refine mv rfl rfl he fun a he => ?_
      refine sl (((valN l k (i + 1 - k) % 18446744073709551616 * 128 % 18446744073709551616) : Nat) : Int) rfl rfl (by omega) (shl7 _) rfl he fun a he => ?_
      refine mv rfl rfl he fun a he => ?_
      refine mv rfl rfl he fun a he => ?_
      obtain ⟨c, hc⟩ := idx_some (xs := l) (i := (i - k)) (by omega)
      refine ia1 (xs := l) ((i - k)) ts_23 rfl rfl (h_l.rd hh) hc rfl he fun bb19 oo20 a hc21 he => ?_
      refine ld rb_5 rfl hc21 rfl he fun a he => ?_
      refine an (((c.toNat % 128) : Nat) : Int) rfl rfl (by rw [show (127 : Int) = ((127 : Nat) : Int) from rfl, band8 _ _ c.toNat_lt (by decide), and127]) rfl he fun a he => ?_
      refine ci (((c.toNat % 128) : Nat) : Int) .u64 ud_5 Tryd.underlying55 rfl (wu64 (by omega) (by omega)) rfl he fun a he => ?_
      refine or (((valN l (k + 1) (i + 1 - (k + 1)) % 18446744073709551616) : Nat) : Int) rfl rfl (by rw [bor64 _ _ (by omega) (by omega), shl7or _ _ (by omega), val_step hk hc]) rfl he fun a he => ?_
      refine asg rfl rfl he fun a he => ?_
      refine en_blk ?_
      refine nm_then ?_
      refine rg ?_
      refine mv rfl rfl he fun a he => ?_
      refine su ((((i - k) : Nat) : Int) - 1) rfl rfl (w64 (by omega) (by omega)) rfl he fun a he => ?_
      refine asg rfl rfl he fun a he => ?_
      refine en ?_
      replace he := he.be (t := 7) (v' := .int .i64 ((i : Int) - ((k + 1 : Nat) : Int))) rfl (by congr 1; omega)
      exact ⟨k + 1, ⟨he.keep [0, 5, 6, 7] rfl, hh, by omega⟩, by show i + 1 - (k + 1) < i + 1 - k; omega⟩
    · refine ext ?_
      refine ex_then ?_
      refine ex_then ?_
      refine ex_in ?_
      refine nm_then ?_
      refine sq ?_
      refine rg ?_
      refine mv rfl rfl he fun a he => ?_
      refine mv rfl rfl he fun a he => ?_
      refine ad (((i + 1) : Nat) : Int) rfl rfl (w64 (by omega) (by omega)) rfl he fun a he => ?_
      refine asg rfl rfl he fun a he => ?_
      refine asg rfl rfl he fun a he => ?_
      refine asg rfl rfl he fun a he => ?_
      refine en ?_
      refine rt ?_
      refine rets3 Tryd.results24 he rfl rfl rfl (Ret.mk ?_)
      obtain rfl : k = i + 1 := by omega
      rw [get_good hs h46]
      replace he := he
      exact ⟨by congr 1; rw [Nat.sub_self, Nat.mod_eq_of_lt (val_fits (by omega) (by omega))], hh⟩

end Go.Proofs.YtndaogkpgoimlaaDoor

/- Walks through the given program's functions, printed op by op by this session's own program; what each computes is told by the plain functions of the texts S... -/
import Derived.Test.YtndaogkpgoimlaaB3
import Derived.Test.YtndaogkpgoimlaaS3
import Derived.KernelRfl
namespace Go.Proofs.Ytndaogkpgoimlaa
open Go Go.RowKit K
set_option linter.unusedVariables false
theorem cb_14 : callable Try.prog 14 = true := by kernel_rfl
theorem cb_15 : callable Try.prog 15 = true := by kernel_rfl
theorem cb_16 : callable Try.prog 16 = true := by kernel_rfl
theorem cb_6 : callable Try.prog 6 = true := by kernel_rfl
theorem cb_7 : callable Try.prog 7 = true := by kernel_rfl
theorem fo_25_0 : fieldOff Try.prog 25 0 = some 0 := by kernel_rfl
theorem fo_25_1 : fieldOff Try.prog 25 1 = some 1 := by kernel_rfl
theorem fo_25_2 : fieldOff Try.prog 25 2 = some 2 := by kernel_rfl
theorem fo_25_3 : fieldOff Try.prog 25 3 = some 3 := by kernel_rfl
theorem rb_25 : isRowB Try.prog 25 = some true := by kernel_rfl
theorem ti_25 : TI Try.prog 25 (.agg #[.slice none 0 0, .slice none 0 0, .bool false, .bool false]) 4 56 := ⟨by kernel_rfl, rfl⟩
theorem ref06_Same (I : Snap) (L : List Ch) (W : World) (A_xs : Option Addr) (c_xs : Nat) (xs : List ByteArray) (A_ys : Option Addr) (c_ys : Nat) (ys : List ByteArray) (hh : Hp I L W) (h_xs : Fz I A_xs (xs.map str1)) (k_xs : xs.length ≤ c_xs) (h_ys : Fz I A_ys (ys.map str1)) (k_ys : ys.length ≤ c_ys) (hb : xs.length ≤ 1000000000000) :
    Calls Try.prog 16 #[.slice A_xs xs.length c_xs, .slice A_ys ys.length c_ys] W (Ret fun v W => v = .bool (decide (xs = ys)) ∧ Hp I (L) W) := by
  refine enter Try.func16 rfl Try.ntmps16 rfl fun a he => ?_
  refine sq ?_
  refine rg ?_
  refine asg rfl rfl he fun a he => ?_
  refine en ?_
  refine sq ?_
  refine sq ?_
  refine rg ?_
  refine mv rfl rfl he fun a he => ?_
  refine ln Try.underlying44 rfl rfl he fun a he => ?_
  refine mv rfl rfl he fun a he => ?_
  refine ln Try.underlying44 rfl rfl he fun a he => ?_
  refine ne rfl rfl rfl he fun a he => ?_
  refine en ?_
  refine cnd he rfl (fun h10 => ?_) (fun h10 => ?_)
  · replace h10 : xs.length ≠ ys.length := by omega
    replace h10 : xs.length ≠ ys.length := by omega
    refine sq ?_
    refine rg ?_
    refine asg rfl rfl he fun a he => ?_
    refine en ?_
    refine rt ?_
    refine rets1 Try.results16 he rfl (Ret.mk ?_)
    exact ⟨by rw [decide_eq_false (fun e => h10 (by rw [e]))], hh⟩
  · replace h10 : ¬ (xs.length ≠ ys.length) := by omega
    replace h10 : xs.length = ys.length := by omega
    refine sk ?_
    refine nm_then ?_
    refine sq ?_
    refine sq ?_
    refine rg ?_
    refine asg rfl rfl he fun a he => ?_
    refine en ?_
    refine bk ?_
    refine lp (fun (i : Nat) a w => Env 26 [(0, .slice A_xs xs.length c_xs), (1, .slice A_ys ys.length c_ys), (5, .int .i64 ((i : Nat) : Int))] a ∧ Hp I (L) w ∧ i ≤ xs.length ∧ ((∀ j, j < i → xs[j]? = ys[j]?)))
        (fun i => xs.length - i) 0 ⟨he.keep [0, 1, 5] rfl, hh, Nat.zero_le _, fun j hj => absurd hj (Nat.not_lt_zero _)⟩ fun i a W hinv => ?_
    obtain ⟨he, hh, hi, hs⟩ := hinv
    refine sq ?_
    refine sq ?_
    refine rg ?_
    refine mv rfl rfl he fun a he => ?_
    refine mv rfl rfl he fun a he => ?_
    refine ln Try.underlying44 rfl rfl he fun a he => ?_
    refine lt rfl rfl rfl he fun a he => ?_
    refine en ?_
    refine cnd he rfl (fun h14 => ?_) (fun h14 => ?_)
    · replace h14 : i < xs.length := by omega
      refine sk ?_
      refine nm_then ?_
      refine sq ?_
      refine bk ?_
      refine sq ?_
      refine rgd (SH I []) 9 mixo rfl hh fun W hh => ?_
      refine ahp (d := 17) (v := .slice A_xs xs.length c_xs) 0 rfl (by kernel_rfl) (by kernel_rfl) (by kernel_rfl) rfl rfl rfl he ⟨_, _, (Snap.le.refl _), hh⟩ (fun W hS => by
          refine mv rfl rfl he fun a he => ?_
          exact aqe he) fun a he => ?_
      refine ahp (d := 18) (v := .int .i64 ((i : Nat) : Int)) 1 rfl (by kernel_rfl) (by kernel_rfl) (by kernel_rfl) rfl rfl rfl he ⟨_, _, (Snap.le.refl _), hh⟩ (fun W hS => by
          refine mv rfl rfl he fun a he => ?_
          exact aqe he) fun a he => ?_
      obtain ⟨x, hx⟩ := idx_some (xs := xs) (i := i) (by omega)
      obtain ⟨bb1, oo2, eA3, hc4⟩ := h_xs.adr1 hx
      replace he := he.be (t := 17) (v' := .slice (some ⟨bb1, oo2, none⟩) xs.length c_xs) rfl (by rw [eA3])
      refine ahp (d := 19) (v := .pointer (some ⟨bb1, oo2 + i * 1, none⟩)) 2 rfl (by kernel_rfl) (by kernel_rfl) (by kernel_rfl) rfl rfl rfl he ⟨_, _, (Snap.le.refl _), hh⟩ (fun W hS => by refine ia (i) ts_44 rfl rfl (List.getElem?_eq_some_iff.1 hx).1 rfl he fun a he => ?_; exact aqe he) fun a he => ?_
      refine ahp (d := 20) (v := .string x) 3 rfl (by kernel_rfl) (by kernel_rfl) (by kernel_rfl) rfl rfl rfl he ⟨_, _, (Snap.le.refl _), hh⟩ (fun W hS => by
          obtain ⟨I5, _, hleI5, hh⟩ := hS
          refine ld rb_9 rfl (hc4 _ _ _ hleI5 hh) rfl he fun a he => ?_
          exact aqe he) fun a he => ?_
      refine ahp (d := 21) (v := .slice A_ys ys.length c_ys) 4 rfl (by kernel_rfl) (by kernel_rfl) (by kernel_rfl) rfl rfl rfl he ⟨_, _, (Snap.le.refl _), hh⟩ (fun W hS => by
          refine mv rfl rfl he fun a he => ?_
          exact aqe he) fun a he => ?_
      refine ahp (d := 22) (v := .int .i64 ((i : Nat) : Int)) 5 rfl (by kernel_rfl) (by kernel_rfl) (by kernel_rfl) rfl rfl rfl he ⟨_, _, (Snap.le.refl _), hh⟩ (fun W hS => by
          refine mv rfl rfl he fun a he => ?_
          exact aqe he) fun a he => ?_
      obtain ⟨y, hy⟩ := idx_some (xs := ys) (i := i) (by omega)
      obtain ⟨bb6, oo7, eA8, hc9⟩ := h_ys.adr1 hy
      replace he := he.be (t := 21) (v' := .slice (some ⟨bb6, oo7, none⟩) ys.length c_ys) rfl (by rw [eA8])
      refine ahp (d := 23) (v := .pointer (some ⟨bb6, oo7 + i * 1, none⟩)) 6 rfl (by kernel_rfl) (by kernel_rfl) (by kernel_rfl) rfl rfl rfl he ⟨_, _, (Snap.le.refl _), hh⟩ (fun W hS => by refine ia (i) ts_44 rfl rfl (List.getElem?_eq_some_iff.1 hy).1 rfl he fun a he => ?_; exact aqe he) fun a he => ?_
      refine ahp (d := 24) (v := .string y) 7 rfl (by kernel_rfl) (by kernel_rfl) (by kernel_rfl) rfl rfl rfl he ⟨_, _, (Snap.le.refl _), hh⟩ (fun W hS => by
          obtain ⟨I10, _, hleI10, hh⟩ := hS
          refine ld rb_9 rfl (hc9 _ _ _ hleI10 hh) rfl he fun a he => ?_
          exact aqe he) fun a he => ?_
      refine ahp (d := 25) (v := .bool (decide (x ≠ y))) 8 rfl (by kernel_rfl) (by kernel_rfl) (by kernel_rfl) rfl rfl rfl he ⟨_, _, (Snap.le.refl _), hh⟩ (fun W hS => by
          refine sne' rfl rfl rfl he fun a he => ?_
          exact aqe he) fun a he => ?_
      refine ahd (by kernel_rfl) ?_
      refine en ?_
      refine cnd he rfl (fun h25 => ?_) (fun h25 => ?_)
      · refine sq ?_
        refine rg ?_
        refine asg rfl rfl he fun a he => ?_
        refine en ?_
        refine rt ?_
        refine rets1 Try.results16 he rfl (Ret.mk ?_)
        exact ⟨by rw [decide_eq_false (same_not hx hy h25)], hh⟩
      · refine sk ?_
        refine nm_blk ?_
        refine nm_then ?_
        refine rg ?_
        refine mv rfl rfl he fun a he => ?_
        refine ad (((i + 1) : Nat) : Int) rfl rfl (w64 (by omega) (by omega)) rfl he fun a he => ?_
        refine asg rfl rfl he fun a he => ?_
        refine en ?_
        exact ⟨i + 1, ⟨he.keep [0, 1, 5] rfl, hh, by omega, same_next hs hx hy (by simpa using h25)⟩, by show xs.length - (i + 1) < xs.length - i; omega⟩
    · replace h14 : ¬ (i < xs.length) := by omega
      refine ext ?_
      refine ex_then ?_
      refine ex_then ?_
      refine ex_in ?_
      refine nm_then ?_
      refine sq ?_
      refine rg ?_
      refine asg rfl rfl he fun a he => ?_
      refine en ?_
      refine rt ?_
      refine rets1 Try.results16 he rfl (Ret.mk ?_)
      exact ⟨by rw [decide_eq_true (same_all h10 hs (by omega))], hh⟩

theorem ref04_Same (I : Snap) (L : List Ch) (W : World) (A_xs : Option Addr) (c_xs : Nat) (xs : List Int) (A_ys : Option Addr) (c_ys : Nat) (ys : List Int) (hh : Hp I L W) (h_xs : Fz I A_xs (xs.map r32)) (k_xs : xs.length ≤ c_xs) (h_ys : Fz I A_ys (ys.map r32)) (k_ys : ys.length ≤ c_ys) (hb : xs.length ≤ 1000000000000) :
    Calls Try.prog 28 #[.slice A_xs xs.length c_xs, .slice A_ys ys.length c_ys] W (Ret fun v W => v = .bool (decide (xs = ys)) ∧ Hp I (L) W) := by
  refine enter Try.func28 rfl Try.ntmps28 rfl fun a he => ?_
  refine sq ?_
  refine rg ?_
  refine asg rfl rfl he fun a he => ?_
  refine en ?_
  refine sq ?_
  refine sq ?_
  refine rg ?_
  refine mv rfl rfl he fun a he => ?_
  refine ln Try.underlying23 rfl rfl he fun a he => ?_
  refine mv rfl rfl he fun a he => ?_
  refine ln Try.underlying23 rfl rfl he fun a he => ?_
  refine ne rfl rfl rfl he fun a he => ?_
  refine en ?_
  refine cnd he rfl (fun h10 => ?_) (fun h10 => ?_)
  · replace h10 : xs.length ≠ ys.length := by omega
    replace h10 : xs.length ≠ ys.length := by omega
    refine sq ?_
    refine rg ?_
    refine asg rfl rfl he fun a he => ?_
    refine en ?_
    refine rt ?_
    refine rets1 Try.results28 he rfl (Ret.mk ?_)
    exact ⟨by rw [decide_eq_false (fun e => h10 (by rw [e]))], hh⟩
  · replace h10 : ¬ (xs.length ≠ ys.length) := by omega
    replace h10 : xs.length = ys.length := by omega
    refine sk ?_
    refine nm_then ?_
    refine sq ?_
    refine sq ?_
    refine rg ?_
    refine asg rfl rfl he fun a he => ?_
    refine en ?_
    refine bk ?_
    refine lp (fun (i : Nat) a w => Env 26 [(0, .slice A_xs xs.length c_xs), (1, .slice A_ys ys.length c_ys), (5, .int .i64 ((i : Nat) : Int))] a ∧ Hp I (L) w ∧ i ≤ xs.length ∧ ((∀ j, j < i → xs[j]? = ys[j]?)))
        (fun i => xs.length - i) 0 ⟨he.keep [0, 1, 5] rfl, hh, Nat.zero_le _, fun j hj => absurd hj (Nat.not_lt_zero _)⟩ fun i a W hinv => ?_
    obtain ⟨he, hh, hi, hs⟩ := hinv
    refine sq ?_
    refine sq ?_
    refine rg ?_
    refine mv rfl rfl he fun a he => ?_
    refine mv rfl rfl he fun a he => ?_
    refine ln Try.underlying23 rfl rfl he fun a he => ?_
    refine lt rfl rfl rfl he fun a he => ?_
    refine en ?_
    refine cnd he rfl (fun h14 => ?_) (fun h14 => ?_)
    · replace h14 : i < xs.length := by omega
      refine sk ?_
      refine nm_then ?_
      refine sq ?_
      refine bk ?_
      refine sq ?_
      refine rgd (SH I []) 9 mixo rfl hh fun W hh => ?_
      refine ahp (d := 17) (v := .slice A_xs xs.length c_xs) 0 rfl (by kernel_rfl) (by kernel_rfl) (by kernel_rfl) rfl rfl rfl he ⟨_, _, (Snap.le.refl _), hh⟩ (fun W hS => by
          refine mv rfl rfl he fun a he => ?_
          exact aqe he) fun a he => ?_
      refine ahp (d := 18) (v := .int .i64 ((i : Nat) : Int)) 1 rfl (by kernel_rfl) (by kernel_rfl) (by kernel_rfl) rfl rfl rfl he ⟨_, _, (Snap.le.refl _), hh⟩ (fun W hS => by
          refine mv rfl rfl he fun a he => ?_
          exact aqe he) fun a he => ?_
      obtain ⟨x, hx⟩ := idx_some (xs := xs) (i := i) (by omega)
      obtain ⟨bb1, oo2, eA3, hc4⟩ := h_xs.adr1 hx
      replace he := he.be (t := 17) (v' := .slice (some ⟨bb1, oo2, none⟩) xs.length c_xs) rfl (by rw [eA3])
      refine ahp (d := 19) (v := .pointer (some ⟨bb1, oo2 + i * 1, none⟩)) 2 rfl (by kernel_rfl) (by kernel_rfl) (by kernel_rfl) rfl rfl rfl he ⟨_, _, (Snap.le.refl _), hh⟩ (fun W hS => by refine ia (i) ts_23 rfl rfl (List.getElem?_eq_some_iff.1 hx).1 rfl he fun a he => ?_; exact aqe he) fun a he => ?_
      refine ahp (d := 20) (v := .int .i32 x) 3 rfl (by kernel_rfl) (by kernel_rfl) (by kernel_rfl) rfl rfl rfl he ⟨_, _, (Snap.le.refl _), hh⟩ (fun W hS => by
          obtain ⟨I5, _, hleI5, hh⟩ := hS
          refine ld rb_21 rfl (hc4 _ _ _ hleI5 hh) rfl he fun a he => ?_
          exact aqe he) fun a he => ?_
      refine ahp (d := 21) (v := .slice A_ys ys.length c_ys) 4 rfl (by kernel_rfl) (by kernel_rfl) (by kernel_rfl) rfl rfl rfl he ⟨_, _, (Snap.le.refl _), hh⟩ (fun W hS => by
          refine mv rfl rfl he fun a he => ?_
          exact aqe he) fun a he => ?_
      refine ahp (d := 22) (v := .int .i64 ((i : Nat) : Int)) 5 rfl (by kernel_rfl) (by kernel_rfl) (by kernel_rfl) rfl rfl rfl he ⟨_, _, (Snap.le.refl _), hh⟩ (fun W hS => by
          refine mv rfl rfl he fun a he => ?_
          exact aqe he) fun a he => ?_
      obtain ⟨y, hy⟩ := idx_some (xs := ys) (i := i) (by omega)
      obtain ⟨bb6, oo7, eA8, hc9⟩ := h_ys.adr1 hy
      replace he := he.be (t := 21) (v' := .slice (some ⟨bb6, oo7, none⟩) ys.length c_ys) rfl (by rw [eA8])
      refine ahp (d := 23) (v := .pointer (some ⟨bb6, oo7 + i * 1, none⟩)) 6 rfl (by kernel_rfl) (by kernel_rfl) (by kernel_rfl) rfl rfl rfl he ⟨_, _, (Snap.le.refl _), hh⟩ (fun W hS => by refine ia (i) ts_23 rfl rfl (List.getElem?_eq_some_iff.1 hy).1 rfl he fun a he => ?_; exact aqe he) fun a he => ?_
      refine ahp (d := 24) (v := .int .i32 y) 7 rfl (by kernel_rfl) (by kernel_rfl) (by kernel_rfl) rfl rfl rfl he ⟨_, _, (Snap.le.refl _), hh⟩ (fun W hS => by
          obtain ⟨I10, _, hleI10, hh⟩ := hS
          refine ld rb_21 rfl (hc9 _ _ _ hleI10 hh) rfl he fun a he => ?_
          exact aqe he) fun a he => ?_
      refine ahp (d := 25) (v := .bool (decide (x ≠ y))) 8 rfl (by kernel_rfl) (by kernel_rfl) (by kernel_rfl) rfl rfl rfl he ⟨_, _, (Snap.le.refl _), hh⟩ (fun W hS => by
          refine ne rfl rfl rfl he fun a he => ?_
          exact aqe he) fun a he => ?_
      refine ahd (by kernel_rfl) ?_
      refine en ?_
      refine cnd he rfl (fun h25 => ?_) (fun h25 => ?_)
      · refine sq ?_
        refine rg ?_
        refine asg rfl rfl he fun a he => ?_
        refine en ?_
        refine rt ?_
        refine rets1 Try.results28 he rfl (Ret.mk ?_)
        exact ⟨by rw [decide_eq_false (same_not hx hy h25)], hh⟩
      · refine sk ?_
        refine nm_blk ?_
        refine nm_then ?_
        refine rg ?_
        refine mv rfl rfl he fun a he => ?_
        refine ad (((i + 1) : Nat) : Int) rfl rfl (w64 (by omega) (by omega)) rfl he fun a he => ?_
        refine asg rfl rfl he fun a he => ?_
        refine en ?_
        exact ⟨i + 1, ⟨he.keep [0, 1, 5] rfl, hh, by omega, same_next hs hx hy (by omega)⟩, by show xs.length - (i + 1) < xs.length - i; omega⟩
    · replace h14 : ¬ (i < xs.length) := by omega
      refine ext ?_
      refine ex_then ?_
      refine ex_then ?_
      refine ex_in ?_
      refine nm_then ?_
      refine sq ?_
      refine rg ?_
      refine asg rfl rfl he fun a he => ?_
      refine en ?_
      refine rt ?_
      refine rets1 Try.results28 he rfl (Ret.mk ?_)
      exact ⟨by rw [decide_eq_true (same_all h10 hs (by omega))], hh⟩

theorem law_shown (I : Snap) (L : List Ch) (W : World)  (hh : Hp I L W)  :
    Calls Try.prog 6 #[] W (Ret fun v W => ∃ (I' : Snap), v = .bool true ∧ I.le I' ∧ Hp I' (L) W) := by
  refine enter Try.func6 rfl Try.ntmps6 rfl fun a he => ?_
  refine sq ?_
  refine rg ?_
  refine asg rfl rfl he fun a he => ?_
  refine en ?_
  refine sq ?_
  refine rg ?_
  refine bsl [(0, .int .u8 68), (1, .int .u8 111), (2, .int .u8 110), (3, .int .u8 226), (4, .int .u8 128), (5, .int .u8 153), (6, .int .u8 116)] [.int .u8 68, .int .u8 111, .int .u8 110, .int .u8 226, .int .u8 128, .int .u8 153, .int .u8 116] ts_22 rfl rfl rfl rfl rfl rfl rfl he hh fun bb1 a W he hh => ?_
  refine cvss Try.underlying22 Try.underlying5 rfl rfl he hh fun I2 a W hl3 hf4 hc5 he hh => ?_
  replace hf4 : Fz I2 (some ⟨bb1, 0, none⟩) (dont.map b8) := hf4
  replace he := he.be (t := 9) (v' := .slice (some ⟨bb1, 0, none⟩) dont.length 7) rfl rfl
  replace hc5 : dont.length ≤ 7 := hc5
  refine asg rfl rfl he fun a he => ?_
  refine en ?_
  refine sq ?_
  refine rg ?_
  refine bld #[.slice none 0 0, .slice none 0 0, .bool false, .bool false] rfl (by kernel_rfl) rfl he fun a he => ?_
  refine mv rfl rfl he fun a he => ?_
  refine shi1 (xs := dont) (4) ts_22 rfl rfl hf4 hc5 (by decide) rfl he fun a hf8 hc9 he => ?_
  refine cal cb_14 rfl (token_Feed _ _ _ none 0 [] none 0 [] false false (some ⟨bb1, 0, none⟩) 7 (dont.take 4) hh (Fz.nil _ _) (Nat.le_refl _) (Fz.nil _ _) (Nat.le_refl _) hf8 hc9 (by decide) (by decide)) rfl he fun v a W hp he => ?_
  obtain ⟨I10, A12, cc13, A14, cc15, A16, cc17, rfl, hl11, hf18, hc19, hf20, hc21, hh⟩ := hp
  replace he := he.be (t := 14) (v' := .tuple #[.slice A12 shW1.1.length cc13, .agg #[.slice A14 shU1.2.length cc15, .slice A16 shW1.2.1.length cc17, .bool shW1.2.2.1, .bool shW1.2.2.2]]) rfl rfl
  replace hh : Hp I10 (.row A12 shW1.1.length cc13 9 1 (shW1.1.map str1) :: L) W := hh
  refine mv rfl rfl he fun a he => ?_
  refine xt rfl rfl rfl he fun a he => ?_
  refine xt rfl rfl rfl he fun a he => ?_
  refine al ti_30 rfl he hh fun bb23 a W he hh => ?_
  replace hh : Hp I10 (.obj bb23 (.cells [.slice none 0 0, .slice none 0 0, .bool false, .bool false].toArray 30) :: _) W := hh
  refine asg rfl rfl he fun a he => ?_
  refine st #[.slice A14 shU1.2.length cc15, .slice A16 shW1.2.1.length cc17, .bool shW1.2.2.1, .bool shW1.2.2.2] ti_30 rfl rfl rfl rfl (by simp [Value.oneCell']) (by simp) he hh fun W hh => ?_
  replace hh : Hp I10 (.obj bb23 (.cells [.slice A14 shU1.2.length cc15, .slice A16 shW1.2.1.length cc17, .bool shW1.2.2.1, .bool shW1.2.2.2].toArray 30) :: _) W := hh
  refine en ?_
  refine sq ?_
  refine rgd (SH I10 [.obj bb23 (.cells ([.slice A14 shU1.2.length cc15, .slice A16 shW1.2.1.length cc17, .bool shW1.2.2.1, .bool shW1.2.2.2]).toArray 30)]) 10 mixo rfl hh fun W hh => ?_
  refine ahp (d := 18) (v := .agg #[.slice A14 shU1.2.length cc15, .slice A16 shW1.2.1.length cc17, .bool shW1.2.2.1, .bool shW1.2.2.2]) 0 rfl (by kernel_rfl) (by kernel_rfl) (by kernel_rfl) rfl rfl rfl he ⟨_, _, (Snap.le.refl _), hh⟩ (fun W hS => by
      obtain ⟨I24, _, hleI24, hh⟩ := hS
      refine ldA [.slice A14 shU1.2.length cc15, .slice A16 shW1.2.1.length cc17, .bool shW1.2.2.1, .bool shW1.2.2.2] rb_30 ti_30 rfl ((Rd.obj hh.at0 0).take 4) rfl rfl he fun a he => ?_
      exact aqe he) fun a he => ?_
  refine ahp (d := 19) (v := .slice (some ⟨bb1, 0, none⟩) dont.length 7) 1 rfl (by kernel_rfl) (by kernel_rfl) (by kernel_rfl) rfl rfl rfl he ⟨_, _, (Snap.le.refl _), hh⟩ (fun W hS => by
      refine mv rfl rfl he fun a he => ?_
      exact aqe he) fun a he => ?_
  refine ahp (d := 20) (v := (.slice (if 7 = 4 then (some ⟨bb1, 0, none⟩ : Option Addr) else (some ⟨bb1, 0, none⟩ : Option Addr).map (·.add (4 * 1))) (5 - 4) (7 - 4))) 2 rfl (by kernel_rfl) (by kernel_rfl) (by kernel_rfl) rfl rfl rfl he ⟨_, _, (Snap.le.refl _), hh⟩ (fun W hS => by refine slh (4) (5) ts_22 rfl rfl rfl (by decide) (Nat.le_trans (show 5 ≤ dont.length from by decide) hc5) rfl he fun a he => ?_; exact aqe he) fun a he => ?_
  obtain ⟨A25, cc26, eA27, hf28, hc29⟩ := slh_ex (xs := dont) (l := 4) (h := 5) (hf4.up hl11) hc5 (by decide) (by decide)
  rw [eA27] at he
  refine aha2 (i := 3) (j := 7) (by kernel_rfl) ?_ ?_
  · refine aop rfl ?_
    refine cal cb_14 rfl (token_Feed _ _ _ A14 cc15 shU1.2 A16 cc17 shW1.2.1 shW1.2.2.1 shW1.2.2.2 A25 cc26 ((dont.take 5).drop 4) hh hf18 hc19 hf20 hc21 hf28 hc29 (by decide +kernel) (by decide +kernel)) rfl he fun v a W hp he => ?_
    obtain ⟨I30, A32, cc33, A34, cc35, A36, cc37, rfl, hl31, hf38, hc39, hf40, hc41, hh⟩ := hp
    replace he := he.be (t := 21) (v' := .tuple #[.slice A32 shW2.1.length cc33, .agg #[.slice A34 shU2.2.length cc35, .slice A36 shW2.2.1.length cc37, .bool shW2.2.2.1, .bool shW2.2.2.2]]) rfl rfl
    replace hh : Hp I30 (.row A32 shW2.1.length cc33 9 1 (shW2.1.map str1) :: .obj bb23 (.cells ([.slice A14 shU1.2.length cc15, .slice A16 shW1.2.1.length cc17, .bool shW1.2.2.1, .bool shW1.2.2.2]).toArray 30) :: .row A12 shW1.1.length cc13 9 1 (shW1.1.map str1) :: L) W := hh
    replace hh := hh.up1
    refine aen ⟨_, _, hl31, hh⟩ ?_
    refine ahp (d := 17) (v := .tuple #[.slice A32 shW2.1.length cc33, .agg #[.slice A34 shU2.2.length cc35, .slice A36 shW2.2.1.length cc37, .bool shW2.2.2.1, .bool shW2.2.2.2]]) 4 rfl (by kernel_rfl) (by kernel_rfl) (by kernel_rfl) rfl rfl rfl he ⟨_, _, hl31, hh⟩ (fun W hS => by
        refine mv rfl rfl he fun a he => ?_
        exact aqe he) fun a he => ?_
    refine ahp (d := 22) (v := .slice A32 shW2.1.length cc33) 5 rfl (by kernel_rfl) (by kernel_rfl) (by kernel_rfl) rfl rfl rfl he ⟨_, _, hl31, hh⟩ (fun W hS => by
        refine xt rfl rfl rfl he fun a he => ?_
        exact aqe he) fun a he => ?_
    refine ahp (d := 23) (v := .agg #[.slice A34 shU2.2.length cc35, .slice A36 shW2.2.1.length cc37, .bool shW2.2.2.1, .bool shW2.2.2.2]) 6 rfl (by kernel_rfl) (by kernel_rfl) (by kernel_rfl) rfl rfl rfl he ⟨_, _, hl31, hh⟩ (fun W hS => by
        refine xt rfl rfl rfl he fun a he => ?_
        exact aqe he) fun a he => ?_
    refine aha1 (i := 7) (by kernel_rfl) ?_
    refine aop rfl ?_
    refine al ti_30 rfl he hh fun bb43 a W he hh => ?_
    replace hh : Hp I30 (.obj bb43 (.cells [.slice none 0 0, .slice none 0 0, .bool false, .bool false].toArray 30) :: _) W := hh
    replace hh := hh.up1
    refine aen ⟨_, _, hl31, hh⟩ ?_
    refine ahp (d := 4) (v := .slice A32 shW2.1.length cc33) 8 rfl (by kernel_rfl) (by kernel_rfl) (by kernel_rfl) rfl rfl rfl he ⟨_, _, hl31, hh⟩ (fun W hS => by
        refine asg rfl rfl he fun a he => ?_
        exact aqe he) fun a he => ?_
    refine aha1 (i := 9) (by kernel_rfl) ?_
    refine aop rfl ?_
    replace hh := hh.up1
    refine st #[.slice A34 shU2.2.length cc35, .slice A36 shW2.2.1.length cc37, .bool shW2.2.2.1, .bool shW2.2.2.2] ti_30 rfl rfl rfl rfl (by simp [Value.oneCell']) (by simp) he hh fun W hh => ?_
    replace hh : Hp I30 (.obj bb43 (.cells [.slice A34 shU2.2.length cc35, .slice A36 shW2.2.1.length cc37, .bool shW2.2.2.1, .bool shW2.2.2.2].toArray 30) :: _) W := hh
    replace hh := hh.up1
    refine aen ⟨_, _, hl31, hh⟩ ?_
    refine ahd (by kernel_rfl) ?_
    refine en ?_
    refine sq ?_
    replace hh := hh.up1
    replace hh := hh.up1
    refine rgd (SH I30 [.obj bb23 (.cells ([.slice A14 shU1.2.length cc15, .slice A16 shW1.2.1.length cc17, .bool shW1.2.2.1, .bool shW1.2.2.2]).toArray 30), .obj bb43 (.cells ([.slice A34 shU2.2.length cc35, .slice A36 shW2.2.1.length cc37, .bool shW2.2.2.1, .bool shW2.2.2.2]).toArray 30)]) 10 mixo rfl hh fun W hh => ?_
    replace hh := hh.up1
    replace hh := hh.up1
    refine ahp (d := 25) (v := .agg #[.slice A34 shU2.2.length cc35, .slice A36 shW2.2.1.length cc37, .bool shW2.2.2.1, .bool shW2.2.2.2]) 0 rfl (by kernel_rfl) (by kernel_rfl) (by kernel_rfl) rfl rfl rfl he ⟨_, _, (Snap.le.refl _), hh⟩ (fun W hS => by
        obtain ⟨I44, _, hleI44, hh⟩ := hS
        refine ldA [.slice A34 shU2.2.length cc35, .slice A36 shW2.2.1.length cc37, .bool shW2.2.2.1, .bool shW2.2.2.2] rb_30 ti_30 rfl ((Rd.obj hh.at1 0).take 4) rfl rfl he fun a he => ?_
        exact aqe he) fun a he => ?_
    replace hh := hh.up1
    replace hh := hh.up1
    refine ahp (d := 26) (v := .slice (some ⟨bb1, 0, none⟩) dont.length 7) 1 rfl (by kernel_rfl) (by kernel_rfl) (by kernel_rfl) rfl rfl rfl he ⟨_, _, (Snap.le.refl _), hh⟩ (fun W hS => by
        refine mv rfl rfl he fun a he => ?_
        exact aqe he) fun a he => ?_
    replace hh := hh.up1
    replace hh := hh.up1
    refine ahp (d := 27) (v := (.slice (if 7 = 5 then (some ⟨bb1, 0, none⟩ : Option Addr) else (some ⟨bb1, 0, none⟩ : Option Addr).map (·.add (5 * 1))) (dont.length - 5) (7 - 5))) 2 rfl (by kernel_rfl) (by kernel_rfl) (by kernel_rfl) rfl rfl rfl he ⟨_, _, (Snap.le.refl _), hh⟩ (fun W hS => by refine slo (5) ts_22 rfl rfl (by decide) rfl he fun a he => ?_; exact aqe he) fun a he => ?_
    obtain ⟨A45, cc46, eA47, hf48, hc49⟩ := slo_ex (xs := dont) (l := 5) (hf4.up (hl11.trans hl31)) hc5 (by decide)
    rw [eA47] at he
    refine aha2 (i := 3) (j := 7) (by kernel_rfl) ?_ ?_
    · refine aop rfl ?_
      refine cal cb_14 rfl (token_Feed _ _ _ A34 cc35 shU2.2 A36 cc37 shW2.2.1 shW2.2.2.1 shW2.2.2.2 A45 cc46 (dont.drop 5) hh hf38 hc39 hf40 hc41 hf48 hc49 (by decide +kernel) (by decide +kernel)) rfl he fun v a W hp he => ?_
      obtain ⟨I50, A52, cc53, A54, cc55, A56, cc57, rfl, hl51, hf58, hc59, hf60, hc61, hh⟩ := hp
      replace he := he.be (t := 28) (v' := .tuple #[.slice A52 shW3.1.length cc53, .agg #[.slice A54 shU3.2.length cc55, .slice A56 shW3.2.1.length cc57, .bool shW3.2.2.1, .bool shW3.2.2.2]]) rfl rfl
      replace hh : Hp I50 (.row A52 shW3.1.length cc53 9 1 (shW3.1.map str1) :: .obj bb23 (.cells ([.slice A14 shU1.2.length cc15, .slice A16 shW1.2.1.length cc17, .bool shW1.2.2.1, .bool shW1.2.2.2]).toArray 30) :: .obj bb43 (.cells ([.slice A34 shU2.2.length cc35, .slice A36 shW2.2.1.length cc37, .bool shW2.2.2.1, .bool shW2.2.2.2]).toArray 30) :: .row A32 shW2.1.length cc33 9 1 (shW2.1.map str1) :: .row A12 shW1.1.length cc13 9 1 (shW1.1.map str1) :: L) W := hh
      replace hh := hh.up2
      replace hh := hh.up2
      refine aen ⟨_, _, hl51, hh⟩ ?_
      replace hh := hh.up1
      replace hh := hh.up1
      refine ahp (d := 24) (v := .tuple #[.slice A52 shW3.1.length cc53, .agg #[.slice A54 shU3.2.length cc55, .slice A56 shW3.2.1.length cc57, .bool shW3.2.2.1, .bool shW3.2.2.2]]) 4 rfl (by kernel_rfl) (by kernel_rfl) (by kernel_rfl) rfl rfl rfl he ⟨_, _, hl51, hh⟩ (fun W hS => by
          refine mv rfl rfl he fun a he => ?_
          exact aqe he) fun a he => ?_
      replace hh := hh.up1
      replace hh := hh.up1
      refine ahp (d := 29) (v := .slice A52 shW3.1.length cc53) 5 rfl (by kernel_rfl) (by kernel_rfl) (by kernel_rfl) rfl rfl rfl he ⟨_, _, hl51, hh⟩ (fun W hS => by
          refine xt rfl rfl rfl he fun a he => ?_
          exact aqe he) fun a he => ?_
      replace hh := hh.up1
      replace hh := hh.up1
      refine ahp (d := 30) (v := .agg #[.slice A54 shU3.2.length cc55, .slice A56 shW3.2.1.length cc57, .bool shW3.2.2.1, .bool shW3.2.2.2]) 6 rfl (by kernel_rfl) (by kernel_rfl) (by kernel_rfl) rfl rfl rfl he ⟨_, _, hl51, hh⟩ (fun W hS => by
          refine xt rfl rfl rfl he fun a he => ?_
          exact aqe he) fun a he => ?_
      refine aha1 (i := 7) (by kernel_rfl) ?_
      refine aop rfl ?_
      refine al ti_30 rfl he hh fun bb63 a W he hh => ?_
      replace hh : Hp I50 (.obj bb63 (.cells [.slice none 0 0, .slice none 0 0, .bool false, .bool false].toArray 30) :: _) W := hh
      replace hh := hh.up2
      replace hh := hh.up2
      refine aen ⟨_, _, hl51, hh⟩ ?_
      replace hh := hh.up1
      replace hh := hh.up1
      refine ahp (d := 6) (v := .slice A52 shW3.1.length cc53) 8 rfl (by kernel_rfl) (by kernel_rfl) (by kernel_rfl) rfl rfl rfl he ⟨_, _, hl51, hh⟩ (fun W hS => by
          refine asg rfl rfl he fun a he => ?_
          exact aqe he) fun a he => ?_
      refine aha1 (i := 9) (by kernel_rfl) ?_
      refine aop rfl ?_
      replace hh := hh.up2
      refine st #[.slice A54 shU3.2.length cc55, .slice A56 shW3.2.1.length cc57, .bool shW3.2.2.1, .bool shW3.2.2.2] ti_30 rfl rfl rfl rfl (by simp [Value.oneCell']) (by simp) he hh fun W hh => ?_
      replace hh : Hp I50 (.obj bb63 (.cells [.slice A54 shU3.2.length cc55, .slice A56 shW3.2.1.length cc57, .bool shW3.2.2.1, .bool shW3.2.2.2].toArray 30) :: _) W := hh
      replace hh := hh.up2
      replace hh := hh.up2
      refine aen ⟨_, _, hl51, hh⟩ ?_
      refine ahd (by kernel_rfl) ?_
      refine en ?_
      refine sq ?_
      refine rg ?_
      refine ldA [.slice A54 shU3.2.length cc55, .slice A56 shW3.2.1.length cc57, .bool shW3.2.2.1, .bool shW3.2.2.2] rb_30 ti_30 rfl ((Rd.obj hh.at2 0).take 4) rfl rfl he fun a he => ?_
      refine cal cb_15 rfl (token_End _ _ _ A54 cc55 shU3.2 A56 cc57 shW3.2.1 shW3.2.2.1 shW3.2.2.2 hh hf58 hc59 hf60 hc61 (by decide +kernel) (by decide +kernel)) rfl he fun v a W hp he => ?_
      obtain ⟨I64, A66, cc67, rfl, hl65, hh⟩ := hp
      replace he := he.be (t := 32) (v' := .slice A66 shEnd.length cc67) rfl rfl
      replace hh : Hp I64 (.row A66 shEnd.length cc67 9 1 (shEnd.map str1) :: .obj bb23 (.cells ([.slice A14 shU1.2.length cc15, .slice A16 shW1.2.1.length cc17, .bool shW1.2.2.1, .bool shW1.2.2.2]).toArray 30) :: .obj bb43 (.cells ([.slice A34 shU2.2.length cc35, .slice A36 shW2.2.1.length cc37, .bool shW2.2.2.1, .bool shW2.2.2.2]).toArray 30) :: .obj bb63 (.cells ([.slice A54 shU3.2.length cc55, .slice A56 shW3.2.1.length cc57, .bool shW3.2.2.1, .bool shW3.2.2.2]).toArray 30) :: .row A52 shW3.1.length cc53 9 1 (shW3.1.map str1) :: .row A32 shW2.1.length cc33 9 1 (shW2.1.map str1) :: .row A12 shW1.1.length cc13 9 1 (shW1.1.map str1) :: L) W := hh
      refine bsl [(0, .string (⟨#[100, 111, 110, 39, 116]⟩))] [.string (⟨#[100, 111, 110, 39, 116]⟩)] ts_44 rfl rfl rfl rfl rfl rfl rfl he hh fun bb69 a W he hh => ?_
      replace hh := hh.up1
      have hc73 := (Ch.rowcap hh.at0).1
      obtain ⟨I70, hl71, hh, hf72⟩ := hh.freezeRow
      have hc77 := (Ch.rowcap hh.at0).1
      obtain ⟨I74, hl75, hh, hf76⟩ := hh.freezeRow
      refine cal cb_16 rfl (ref06_Same _ _ _ A66 cc67 shEnd (some ⟨bb69, 0, none⟩) 1 ([⟨#[100, 111, 110, 39, 116]⟩] : List ByteArray) hh (hf72.up hl75) hc73 hf76 hc77 (by decide +kernel)) rfl he fun v a W hp he => ?_
      obtain ⟨rfl, hh⟩ := hp
      refine asg rfl rfl he fun a he => ?_
      refine en ?_
      refine rt ?_
      refine rets1 Try.results6 he rfl (Ret.mk ?_)
      replace hh := hh.drop
      replace hh := hh.drop
      replace hh := hh.drop
      replace hh := hh.drop
      replace hh := hh.drop
      replace hh := hh.drop
      exact ⟨I74, congrArg Value.bool (by decide +kernel), ((((((hl3.trans hl11).trans hl31).trans hl51).trans hl65).trans hl71).trans hl75), hh⟩
    · refine aop rfl ?_
      refine al ti_30 rfl he hh fun bb78 a W he hh => ?_
      replace hh : Hp I30 (.obj bb78 (.cells [.slice none 0 0, .slice none 0 0, .bool false, .bool false].toArray 30) :: _) W := hh
      replace hh := hh.up2
      replace hh := hh.up2
      refine aen ⟨_, _, (Snap.le.refl _), hh⟩ ?_
      refine aha1 (i := 3) (by kernel_rfl) ?_
      refine aop rfl ?_
      refine cal cb_14 rfl (token_Feed _ _ _ A34 cc35 shU2.2 A36 cc37 shW2.2.1 shW2.2.2.1 shW2.2.2.2 A45 cc46 (dont.drop 5) hh hf38 hc39 hf40 hc41 hf48 hc49 (by decide +kernel) (by decide +kernel)) rfl he fun v a W hp he => ?_
      obtain ⟨I79, A81, cc82, A83, cc84, A85, cc86, rfl, hl80, hf87, hc88, hf89, hc90, hh⟩ := hp
      replace he := he.be (t := 28) (v' := .tuple #[.slice A81 shW3.1.length cc82, .agg #[.slice A83 shU3.2.length cc84, .slice A85 shW3.2.1.length cc86, .bool shW3.2.2.1, .bool shW3.2.2.2]]) rfl rfl
      replace hh : Hp I79 (.row A81 shW3.1.length cc82 9 1 (shW3.1.map str1) :: .obj bb23 (.cells ([.slice A14 shU1.2.length cc15, .slice A16 shW1.2.1.length cc17, .bool shW1.2.2.1, .bool shW1.2.2.2]).toArray 30) :: .obj bb43 (.cells ([.slice A34 shU2.2.length cc35, .slice A36 shW2.2.1.length cc37, .bool shW2.2.2.1, .bool shW2.2.2.2]).toArray 30) :: .obj bb78 (.cells ([.slice none 0 0, .slice none 0 0, .bool false, .bool false]).toArray 30) :: .row A32 shW2.1.length cc33 9 1 (shW2.1.map str1) :: .row A12 shW1.1.length cc13 9 1 (shW1.1.map str1) :: L) W := hh
      replace hh := hh.up2
      replace hh := hh.up2
      refine aen ⟨_, _, hl80, hh⟩ ?_
      replace hh := hh.up1
      replace hh := hh.up1
      refine ahp (d := 24) (v := .tuple #[.slice A81 shW3.1.length cc82, .agg #[.slice A83 shU3.2.length cc84, .slice A85 shW3.2.1.length cc86, .bool shW3.2.2.1, .bool shW3.2.2.2]]) 4 rfl (by kernel_rfl) (by kernel_rfl) (by kernel_rfl) rfl rfl rfl he ⟨_, _, hl80, hh⟩ (fun W hS => by
          refine mv rfl rfl he fun a he => ?_
          exact aqe he) fun a he => ?_
      replace hh := hh.up1
      replace hh := hh.up1
      refine ahp (d := 29) (v := .slice A81 shW3.1.length cc82) 5 rfl (by kernel_rfl) (by kernel_rfl) (by kernel_rfl) rfl rfl rfl he ⟨_, _, hl80, hh⟩ (fun W hS => by
          refine xt rfl rfl rfl he fun a he => ?_
          exact aqe he) fun a he => ?_
      replace hh := hh.up1
      replace hh := hh.up1
      refine ahp (d := 30) (v := .agg #[.slice A83 shU3.2.length cc84, .slice A85 shW3.2.1.length cc86, .bool shW3.2.2.1, .bool shW3.2.2.2]) 6 rfl (by kernel_rfl) (by kernel_rfl) (by kernel_rfl) rfl rfl rfl he ⟨_, _, hl80, hh⟩ (fun W hS => by
          refine xt rfl rfl rfl he fun a he => ?_
          exact aqe he) fun a he => ?_
      replace hh := hh.up1
      replace hh := hh.up1
      refine ahp (d := 6) (v := .slice A81 shW3.1.length cc82) 8 rfl (by kernel_rfl) (by kernel_rfl) (by kernel_rfl) rfl rfl rfl he ⟨_, _, hl80, hh⟩ (fun W hS => by
          refine asg rfl rfl he fun a he => ?_
          exact aqe he) fun a he => ?_
      refine aha1 (i := 9) (by kernel_rfl) ?_
      refine aop rfl ?_
      replace hh := hh.up3
      refine st #[.slice A83 shU3.2.length cc84, .slice A85 shW3.2.1.length cc86, .bool shW3.2.2.1, .bool shW3.2.2.2] ti_30 rfl rfl rfl rfl (by simp [Value.oneCell']) (by simp) he hh fun W hh => ?_
      replace hh : Hp I79 (.obj bb78 (.cells [.slice A83 shU3.2.length cc84, .slice A85 shW3.2.1.length cc86, .bool shW3.2.2.1, .bool shW3.2.2.2].toArray 30) :: _) W := hh
      replace hh := hh.up2
      replace hh := hh.up2
      refine aen ⟨_, _, hl80, hh⟩ ?_
      refine ahd (by kernel_rfl) ?_
      refine en ?_
      refine sq ?_
      refine rg ?_
      refine ldA [.slice A83 shU3.2.length cc84, .slice A85 shW3.2.1.length cc86, .bool shW3.2.2.1, .bool shW3.2.2.2] rb_30 ti_30 rfl ((Rd.obj hh.at2 0).take 4) rfl rfl he fun a he => ?_
      refine cal cb_15 rfl (token_End _ _ _ A83 cc84 shU3.2 A85 cc86 shW3.2.1 shW3.2.2.1 shW3.2.2.2 hh hf87 hc88 hf89 hc90 (by decide +kernel) (by decide +kernel)) rfl he fun v a W hp he => ?_
      obtain ⟨I92, A94, cc95, rfl, hl93, hh⟩ := hp
      replace he := he.be (t := 32) (v' := .slice A94 shEnd.length cc95) rfl rfl
      replace hh : Hp I92 (.row A94 shEnd.length cc95 9 1 (shEnd.map str1) :: .obj bb23 (.cells ([.slice A14 shU1.2.length cc15, .slice A16 shW1.2.1.length cc17, .bool shW1.2.2.1, .bool shW1.2.2.2]).toArray 30) :: .obj bb43 (.cells ([.slice A34 shU2.2.length cc35, .slice A36 shW2.2.1.length cc37, .bool shW2.2.2.1, .bool shW2.2.2.2]).toArray 30) :: .obj bb78 (.cells ([.slice A83 shU3.2.length cc84, .slice A85 shW3.2.1.length cc86, .bool shW3.2.2.1, .bool shW3.2.2.2]).toArray 30) :: .row A81 shW3.1.length cc82 9 1 (shW3.1.map str1) :: .row A32 shW2.1.length cc33 9 1 (shW2.1.map str1) :: .row A12 shW1.1.length cc13 9 1 (shW1.1.map str1) :: L) W := hh
      refine bsl [(0, .string (⟨#[100, 111, 110, 39, 116]⟩))] [.string (⟨#[100, 111, 110, 39, 116]⟩)] ts_44 rfl rfl rfl rfl rfl rfl rfl he hh fun bb97 a W he hh => ?_
      replace hh := hh.up1
      have hc101 := (Ch.rowcap hh.at0).1
      obtain ⟨I98, hl99, hh, hf100⟩ := hh.freezeRow
      have hc105 := (Ch.rowcap hh.at0).1
      obtain ⟨I102, hl103, hh, hf104⟩ := hh.freezeRow
      refine cal cb_16 rfl (ref06_Same _ _ _ A94 cc95 shEnd (some ⟨bb97, 0, none⟩) 1 ([⟨#[100, 111, 110, 39, 116]⟩] : List ByteArray) hh (hf100.up hl103) hc101 hf104 hc105 (by decide +kernel)) rfl he fun v a W hp he => ?_
      obtain ⟨rfl, hh⟩ := hp
      refine asg rfl rfl he fun a he => ?_
      refine en ?_
      refine rt ?_
      refine rets1 Try.results6 he rfl (Ret.mk ?_)
      replace hh := hh.drop
      replace hh := hh.drop
      replace hh := hh.drop
      replace hh := hh.drop
      replace hh := hh.drop
      replace hh := hh.drop
      exact ⟨I102, congrArg Value.bool (by decide +kernel), ((((((hl3.trans hl11).trans hl31).trans hl80).trans hl93).trans hl99).trans hl103), hh⟩
  · refine aop rfl ?_
    refine al ti_30 rfl he hh fun bb106 a W he hh => ?_
    replace hh : Hp I10 (.obj bb106 (.cells [.slice none 0 0, .slice none 0 0, .bool false, .bool false].toArray 30) :: _) W := hh
    replace hh := hh.up1
    refine aen ⟨_, _, (Snap.le.refl _), hh⟩ ?_
    refine aha1 (i := 3) (by kernel_rfl) ?_
    refine aop rfl ?_
    refine cal cb_14 rfl (token_Feed _ _ _ A14 cc15 shU1.2 A16 cc17 shW1.2.1 shW1.2.2.1 shW1.2.2.2 A25 cc26 ((dont.take 5).drop 4) hh hf18 hc19 hf20 hc21 hf28 hc29 (by decide +kernel) (by decide +kernel)) rfl he fun v a W hp he => ?_
    obtain ⟨I107, A109, cc110, A111, cc112, A113, cc114, rfl, hl108, hf115, hc116, hf117, hc118, hh⟩ := hp
    replace he := he.be (t := 21) (v' := .tuple #[.slice A109 shW2.1.length cc110, .agg #[.slice A111 shU2.2.length cc112, .slice A113 shW2.2.1.length cc114, .bool shW2.2.2.1, .bool shW2.2.2.2]]) rfl rfl
    replace hh : Hp I107 (.row A109 shW2.1.length cc110 9 1 (shW2.1.map str1) :: .obj bb23 (.cells ([.slice A14 shU1.2.length cc15, .slice A16 shW1.2.1.length cc17, .bool shW1.2.2.1, .bool shW1.2.2.2]).toArray 30) :: .obj bb106 (.cells ([.slice none 0 0, .slice none 0 0, .bool false, .bool false]).toArray 30) :: .row A12 shW1.1.length cc13 9 1 (shW1.1.map str1) :: L) W := hh
    replace hh := hh.up1
    refine aen ⟨_, _, hl108, hh⟩ ?_
    refine ahp (d := 17) (v := .tuple #[.slice A109 shW2.1.length cc110, .agg #[.slice A111 shU2.2.length cc112, .slice A113 shW2.2.1.length cc114, .bool shW2.2.2.1, .bool shW2.2.2.2]]) 4 rfl (by kernel_rfl) (by kernel_rfl) (by kernel_rfl) rfl rfl rfl he ⟨_, _, hl108, hh⟩ (fun W hS => by
        refine mv rfl rfl he fun a he => ?_
        exact aqe he) fun a he => ?_
    refine ahp (d := 22) (v := .slice A109 shW2.1.length cc110) 5 rfl (by kernel_rfl) (by kernel_rfl) (by kernel_rfl) rfl rfl rfl he ⟨_, _, hl108, hh⟩ (fun W hS => by
        refine xt rfl rfl rfl he fun a he => ?_
        exact aqe he) fun a he => ?_
    refine ahp (d := 23) (v := .agg #[.slice A111 shU2.2.length cc112, .slice A113 shW2.2.1.length cc114, .bool shW2.2.2.1, .bool shW2.2.2.2]) 6 rfl (by kernel_rfl) (by kernel_rfl) (by kernel_rfl) rfl rfl rfl he ⟨_, _, hl108, hh⟩ (fun W hS => by
        refine xt rfl rfl rfl he fun a he => ?_
        exact aqe he) fun a he => ?_
    refine ahp (d := 4) (v := .slice A109 shW2.1.length cc110) 8 rfl (by kernel_rfl) (by kernel_rfl) (by kernel_rfl) rfl rfl rfl he ⟨_, _, hl108, hh⟩ (fun W hS => by
        refine asg rfl rfl he fun a he => ?_
        exact aqe he) fun a he => ?_
    refine aha1 (i := 9) (by kernel_rfl) ?_
    refine aop rfl ?_
    replace hh := hh.up2
    refine st #[.slice A111 shU2.2.length cc112, .slice A113 shW2.2.1.length cc114, .bool shW2.2.2.1, .bool shW2.2.2.2] ti_30 rfl rfl rfl rfl (by simp [Value.oneCell']) (by simp) he hh fun W hh => ?_
    replace hh : Hp I107 (.obj bb106 (.cells [.slice A111 shU2.2.length cc112, .slice A113 shW2.2.1.length cc114, .bool shW2.2.2.1, .bool shW2.2.2.2].toArray 30) :: _) W := hh
    replace hh := hh.up1
    refine aen ⟨_, _, hl108, hh⟩ ?_
    refine ahd (by kernel_rfl) ?_
    refine en ?_
    refine sq ?_
    replace hh := hh.up1
    replace hh := hh.up1
    refine rgd (SH I107 [.obj bb23 (.cells ([.slice A14 shU1.2.length cc15, .slice A16 shW1.2.1.length cc17, .bool shW1.2.2.1, .bool shW1.2.2.2]).toArray 30), .obj bb106 (.cells ([.slice A111 shU2.2.length cc112, .slice A113 shW2.2.1.length cc114, .bool shW2.2.2.1, .bool shW2.2.2.2]).toArray 30)]) 10 mixo rfl hh fun W hh => ?_
    replace hh := hh.up1
    replace hh := hh.up1
    refine ahp (d := 25) (v := .agg #[.slice A111 shU2.2.length cc112, .slice A113 shW2.2.1.length cc114, .bool shW2.2.2.1, .bool shW2.2.2.2]) 0 rfl (by kernel_rfl) (by kernel_rfl) (by kernel_rfl) rfl rfl rfl he ⟨_, _, (Snap.le.refl _), hh⟩ (fun W hS => by
        obtain ⟨I120, _, hleI120, hh⟩ := hS
        refine ldA [.slice A111 shU2.2.length cc112, .slice A113 shW2.2.1.length cc114, .bool shW2.2.2.1, .bool shW2.2.2.2] rb_30 ti_30 rfl ((Rd.obj hh.at1 0).take 4) rfl rfl he fun a he => ?_
        exact aqe he) fun a he => ?_
    replace hh := hh.up1
    replace hh := hh.up1
    refine ahp (d := 26) (v := .slice (some ⟨bb1, 0, none⟩) dont.length 7) 1 rfl (by kernel_rfl) (by kernel_rfl) (by kernel_rfl) rfl rfl rfl he ⟨_, _, (Snap.le.refl _), hh⟩ (fun W hS => by
        refine mv rfl rfl he fun a he => ?_
        exact aqe he) fun a he => ?_
    replace hh := hh.up1
    replace hh := hh.up1
    refine ahp (d := 27) (v := (.slice (if 7 = 5 then (some ⟨bb1, 0, none⟩ : Option Addr) else (some ⟨bb1, 0, none⟩ : Option Addr).map (·.add (5 * 1))) (dont.length - 5) (7 - 5))) 2 rfl (by kernel_rfl) (by kernel_rfl) (by kernel_rfl) rfl rfl rfl he ⟨_, _, (Snap.le.refl _), hh⟩ (fun W hS => by refine slo (5) ts_22 rfl rfl (by decide) rfl he fun a he => ?_; exact aqe he) fun a he => ?_
    obtain ⟨A121, cc122, eA123, hf124, hc125⟩ := slo_ex (xs := dont) (l := 5) (hf4.up (hl11.trans hl108)) hc5 (by decide)
    rw [eA123] at he
    refine aha2 (i := 3) (j := 7) (by kernel_rfl) ?_ ?_
    · refine aop rfl ?_
      refine cal cb_14 rfl (token_Feed _ _ _ A111 cc112 shU2.2 A113 cc114 shW2.2.1 shW2.2.2.1 shW2.2.2.2 A121 cc122 (dont.drop 5) hh hf115 hc116 hf117 hc118 hf124 hc125 (by decide +kernel) (by decide +kernel)) rfl he fun v a W hp he => ?_
      obtain ⟨I126, A128, cc129, A130, cc131, A132, cc133, rfl, hl127, hf134, hc135, hf136, hc137, hh⟩ := hp
      replace he := he.be (t := 28) (v' := .tuple #[.slice A128 shW3.1.length cc129, .agg #[.slice A130 shU3.2.length cc131, .slice A132 shW3.2.1.length cc133, .bool shW3.2.2.1, .bool shW3.2.2.2]]) rfl rfl
      replace hh : Hp I126 (.row A128 shW3.1.length cc129 9 1 (shW3.1.map str1) :: .obj bb23 (.cells ([.slice A14 shU1.2.length cc15, .slice A16 shW1.2.1.length cc17, .bool shW1.2.2.1, .bool shW1.2.2.2]).toArray 30) :: .obj bb106 (.cells ([.slice A111 shU2.2.length cc112, .slice A113 shW2.2.1.length cc114, .bool shW2.2.2.1, .bool shW2.2.2.2]).toArray 30) :: .row A109 shW2.1.length cc110 9 1 (shW2.1.map str1) :: .row A12 shW1.1.length cc13 9 1 (shW1.1.map str1) :: L) W := hh
      replace hh := hh.up2
      replace hh := hh.up2
      refine aen ⟨_, _, hl127, hh⟩ ?_
      replace hh := hh.up1
      replace hh := hh.up1
      refine ahp (d := 24) (v := .tuple #[.slice A128 shW3.1.length cc129, .agg #[.slice A130 shU3.2.length cc131, .slice A132 shW3.2.1.length cc133, .bool shW3.2.2.1, .bool shW3.2.2.2]]) 4 rfl (by kernel_rfl) (by kernel_rfl) (by kernel_rfl) rfl rfl rfl he ⟨_, _, hl127, hh⟩ (fun W hS => by
          refine mv rfl rfl he fun a he => ?_
          exact aqe he) fun a he => ?_
      replace hh := hh.up1
      replace hh := hh.up1
      refine ahp (d := 29) (v := .slice A128 shW3.1.length cc129) 5 rfl (by kernel_rfl) (by kernel_rfl) (by kernel_rfl) rfl rfl rfl he ⟨_, _, hl127, hh⟩ (fun W hS => by
          refine xt rfl rfl rfl he fun a he => ?_
          exact aqe he) fun a he => ?_
      replace hh := hh.up1
      replace hh := hh.up1
      refine ahp (d := 30) (v := .agg #[.slice A130 shU3.2.length cc131, .slice A132 shW3.2.1.length cc133, .bool shW3.2.2.1, .bool shW3.2.2.2]) 6 rfl (by kernel_rfl) (by kernel_rfl) (by kernel_rfl) rfl rfl rfl he ⟨_, _, hl127, hh⟩ (fun W hS => by
          refine xt rfl rfl rfl he fun a he => ?_
          exact aqe he) fun a he => ?_
      refine aha1 (i := 7) (by kernel_rfl) ?_
      refine aop rfl ?_
      refine al ti_30 rfl he hh fun bb139 a W he hh => ?_
      replace hh : Hp I126 (.obj bb139 (.cells [.slice none 0 0, .slice none 0 0, .bool false, .bool false].toArray 30) :: _) W := hh
      replace hh := hh.up2
      replace hh := hh.up2
      refine aen ⟨_, _, hl127, hh⟩ ?_
      replace hh := hh.up1
      replace hh := hh.up1
      refine ahp (d := 6) (v := .slice A128 shW3.1.length cc129) 8 rfl (by kernel_rfl) (by kernel_rfl) (by kernel_rfl) rfl rfl rfl he ⟨_, _, hl127, hh⟩ (fun W hS => by
          refine asg rfl rfl he fun a he => ?_
          exact aqe he) fun a he => ?_
      refine aha1 (i := 9) (by kernel_rfl) ?_
      refine aop rfl ?_
      replace hh := hh.up2
      refine st #[.slice A130 shU3.2.length cc131, .slice A132 shW3.2.1.length cc133, .bool shW3.2.2.1, .bool shW3.2.2.2] ti_30 rfl rfl rfl rfl (by simp [Value.oneCell']) (by simp) he hh fun W hh => ?_
      replace hh : Hp I126 (.obj bb139 (.cells [.slice A130 shU3.2.length cc131, .slice A132 shW3.2.1.length cc133, .bool shW3.2.2.1, .bool shW3.2.2.2].toArray 30) :: _) W := hh
      replace hh := hh.up2
      replace hh := hh.up2
      refine aen ⟨_, _, hl127, hh⟩ ?_
      refine ahd (by kernel_rfl) ?_
      refine en ?_
      refine sq ?_
      refine rg ?_
      refine ldA [.slice A130 shU3.2.length cc131, .slice A132 shW3.2.1.length cc133, .bool shW3.2.2.1, .bool shW3.2.2.2] rb_30 ti_30 rfl ((Rd.obj hh.at2 0).take 4) rfl rfl he fun a he => ?_
      refine cal cb_15 rfl (token_End _ _ _ A130 cc131 shU3.2 A132 cc133 shW3.2.1 shW3.2.2.1 shW3.2.2.2 hh hf134 hc135 hf136 hc137 (by decide +kernel) (by decide +kernel)) rfl he fun v a W hp he => ?_
      obtain ⟨I140, A142, cc143, rfl, hl141, hh⟩ := hp
      replace he := he.be (t := 32) (v' := .slice A142 shEnd.length cc143) rfl rfl
      replace hh : Hp I140 (.row A142 shEnd.length cc143 9 1 (shEnd.map str1) :: .obj bb23 (.cells ([.slice A14 shU1.2.length cc15, .slice A16 shW1.2.1.length cc17, .bool shW1.2.2.1, .bool shW1.2.2.2]).toArray 30) :: .obj bb106 (.cells ([.slice A111 shU2.2.length cc112, .slice A113 shW2.2.1.length cc114, .bool shW2.2.2.1, .bool shW2.2.2.2]).toArray 30) :: .obj bb139 (.cells ([.slice A130 shU3.2.length cc131, .slice A132 shW3.2.1.length cc133, .bool shW3.2.2.1, .bool shW3.2.2.2]).toArray 30) :: .row A128 shW3.1.length cc129 9 1 (shW3.1.map str1) :: .row A109 shW2.1.length cc110 9 1 (shW2.1.map str1) :: .row A12 shW1.1.length cc13 9 1 (shW1.1.map str1) :: L) W := hh
      refine bsl [(0, .string (⟨#[100, 111, 110, 39, 116]⟩))] [.string (⟨#[100, 111, 110, 39, 116]⟩)] ts_44 rfl rfl rfl rfl rfl rfl rfl he hh fun bb145 a W he hh => ?_
      replace hh := hh.up1
      have hc149 := (Ch.rowcap hh.at0).1
      obtain ⟨I146, hl147, hh, hf148⟩ := hh.freezeRow
      have hc153 := (Ch.rowcap hh.at0).1
      obtain ⟨I150, hl151, hh, hf152⟩ := hh.freezeRow
      refine cal cb_16 rfl (ref06_Same _ _ _ A142 cc143 shEnd (some ⟨bb145, 0, none⟩) 1 ([⟨#[100, 111, 110, 39, 116]⟩] : List ByteArray) hh (hf148.up hl151) hc149 hf152 hc153 (by decide +kernel)) rfl he fun v a W hp he => ?_
      obtain ⟨rfl, hh⟩ := hp
      refine asg rfl rfl he fun a he => ?_
      refine en ?_
      refine rt ?_
      refine rets1 Try.results6 he rfl (Ret.mk ?_)
      replace hh := hh.drop
      replace hh := hh.drop
      replace hh := hh.drop
      replace hh := hh.drop
      replace hh := hh.drop
      replace hh := hh.drop
      exact ⟨I150, congrArg Value.bool (by decide +kernel), ((((((hl3.trans hl11).trans hl108).trans hl127).trans hl141).trans hl147).trans hl151), hh⟩
    · refine aop rfl ?_
      refine al ti_30 rfl he hh fun bb154 a W he hh => ?_
      replace hh : Hp I107 (.obj bb154 (.cells [.slice none 0 0, .slice none 0 0, .bool false, .bool false].toArray 30) :: _) W := hh
      replace hh := hh.up2
      replace hh := hh.up2
      refine aen ⟨_, _, (Snap.le.refl _), hh⟩ ?_
      refine aha1 (i := 3) (by kernel_rfl) ?_
      refine aop rfl ?_
      refine cal cb_14 rfl (token_Feed _ _ _ A111 cc112 shU2.2 A113 cc114 shW2.2.1 shW2.2.2.1 shW2.2.2.2 A121 cc122 (dont.drop 5) hh hf115 hc116 hf117 hc118 hf124 hc125 (by decide +kernel) (by decide +kernel)) rfl he fun v a W hp he => ?_
      obtain ⟨I155, A157, cc158, A159, cc160, A161, cc162, rfl, hl156, hf163, hc164, hf165, hc166, hh⟩ := hp
      replace he := he.be (t := 28) (v' := .tuple #[.slice A157 shW3.1.length cc158, .agg #[.slice A159 shU3.2.length cc160, .slice A161 shW3.2.1.length cc162, .bool shW3.2.2.1, .bool shW3.2.2.2]]) rfl rfl
      replace hh : Hp I155 (.row A157 shW3.1.length cc158 9 1 (shW3.1.map str1) :: .obj bb23 (.cells ([.slice A14 shU1.2.length cc15, .slice A16 shW1.2.1.length cc17, .bool shW1.2.2.1, .bool shW1.2.2.2]).toArray 30) :: .obj bb106 (.cells ([.slice A111 shU2.2.length cc112, .slice A113 shW2.2.1.length cc114, .bool shW2.2.2.1, .bool shW2.2.2.2]).toArray 30) :: .obj bb154 (.cells ([.slice none 0 0, .slice none 0 0, .bool false, .bool false]).toArray 30) :: .row A109 shW2.1.length cc110 9 1 (shW2.1.map str1) :: .row A12 shW1.1.length cc13 9 1 (shW1.1.map str1) :: L) W := hh
      replace hh := hh.up2
      replace hh := hh.up2
      refine aen ⟨_, _, hl156, hh⟩ ?_
      replace hh := hh.up1
      replace hh := hh.up1
      refine ahp (d := 24) (v := .tuple #[.slice A157 shW3.1.length cc158, .agg #[.slice A159 shU3.2.length cc160, .slice A161 shW3.2.1.length cc162, .bool shW3.2.2.1, .bool shW3.2.2.2]]) 4 rfl (by kernel_rfl) (by kernel_rfl) (by kernel_rfl) rfl rfl rfl he ⟨_, _, hl156, hh⟩ (fun W hS => by
          refine mv rfl rfl he fun a he => ?_
          exact aqe he) fun a he => ?_
      replace hh := hh.up1
      replace hh := hh.up1
      refine ahp (d := 29) (v := .slice A157 shW3.1.length cc158) 5 rfl (by kernel_rfl) (by kernel_rfl) (by kernel_rfl) rfl rfl rfl he ⟨_, _, hl156, hh⟩ (fun W hS => by
          refine xt rfl rfl rfl he fun a he => ?_
          exact aqe he) fun a he => ?_
      replace hh := hh.up1
      replace hh := hh.up1
      refine ahp (d := 30) (v := .agg #[.slice A159 shU3.2.length cc160, .slice A161 shW3.2.1.length cc162, .bool shW3.2.2.1, .bool shW3.2.2.2]) 6 rfl (by kernel_rfl) (by kernel_rfl) (by kernel_rfl) rfl rfl rfl he ⟨_, _, hl156, hh⟩ (fun W hS => by
          refine xt rfl rfl rfl he fun a he => ?_
          exact aqe he) fun a he => ?_
      replace hh := hh.up1
      replace hh := hh.up1
      refine ahp (d := 6) (v := .slice A157 shW3.1.length cc158) 8 rfl (by kernel_rfl) (by kernel_rfl) (by kernel_rfl) rfl rfl rfl he ⟨_, _, hl156, hh⟩ (fun W hS => by
          refine asg rfl rfl he fun a he => ?_
          exact aqe he) fun a he => ?_
      refine aha1 (i := 9) (by kernel_rfl) ?_
      refine aop rfl ?_
      replace hh := hh.up3
      refine st #[.slice A159 shU3.2.length cc160, .slice A161 shW3.2.1.length cc162, .bool shW3.2.2.1, .bool shW3.2.2.2] ti_30 rfl rfl rfl rfl (by simp [Value.oneCell']) (by simp) he hh fun W hh => ?_
      replace hh : Hp I155 (.obj bb154 (.cells [.slice A159 shU3.2.length cc160, .slice A161 shW3.2.1.length cc162, .bool shW3.2.2.1, .bool shW3.2.2.2].toArray 30) :: _) W := hh
      replace hh := hh.up2
      replace hh := hh.up2
      refine aen ⟨_, _, hl156, hh⟩ ?_
      refine ahd (by kernel_rfl) ?_
      refine en ?_
      refine sq ?_
      refine rg ?_
      refine ldA [.slice A159 shU3.2.length cc160, .slice A161 shW3.2.1.length cc162, .bool shW3.2.2.1, .bool shW3.2.2.2] rb_30 ti_30 rfl ((Rd.obj hh.at2 0).take 4) rfl rfl he fun a he => ?_
      refine cal cb_15 rfl (token_End _ _ _ A159 cc160 shU3.2 A161 cc162 shW3.2.1 shW3.2.2.1 shW3.2.2.2 hh hf163 hc164 hf165 hc166 (by decide +kernel) (by decide +kernel)) rfl he fun v a W hp he => ?_
      obtain ⟨I168, A170, cc171, rfl, hl169, hh⟩ := hp
      replace he := he.be (t := 32) (v' := .slice A170 shEnd.length cc171) rfl rfl
      replace hh : Hp I168 (.row A170 shEnd.length cc171 9 1 (shEnd.map str1) :: .obj bb23 (.cells ([.slice A14 shU1.2.length cc15, .slice A16 shW1.2.1.length cc17, .bool shW1.2.2.1, .bool shW1.2.2.2]).toArray 30) :: .obj bb106 (.cells ([.slice A111 shU2.2.length cc112, .slice A113 shW2.2.1.length cc114, .bool shW2.2.2.1, .bool shW2.2.2.2]).toArray 30) :: .obj bb154 (.cells ([.slice A159 shU3.2.length cc160, .slice A161 shW3.2.1.length cc162, .bool shW3.2.2.1, .bool shW3.2.2.2]).toArray 30) :: .row A157 shW3.1.length cc158 9 1 (shW3.1.map str1) :: .row A109 shW2.1.length cc110 9 1 (shW2.1.map str1) :: .row A12 shW1.1.length cc13 9 1 (shW1.1.map str1) :: L) W := hh
      refine bsl [(0, .string (⟨#[100, 111, 110, 39, 116]⟩))] [.string (⟨#[100, 111, 110, 39, 116]⟩)] ts_44 rfl rfl rfl rfl rfl rfl rfl he hh fun bb173 a W he hh => ?_
      replace hh := hh.up1
      have hc177 := (Ch.rowcap hh.at0).1
      obtain ⟨I174, hl175, hh, hf176⟩ := hh.freezeRow
      have hc181 := (Ch.rowcap hh.at0).1
      obtain ⟨I178, hl179, hh, hf180⟩ := hh.freezeRow
      refine cal cb_16 rfl (ref06_Same _ _ _ A170 cc171 shEnd (some ⟨bb173, 0, none⟩) 1 ([⟨#[100, 111, 110, 39, 116]⟩] : List ByteArray) hh (hf176.up hl179) hc177 hf180 hc181 (by decide +kernel)) rfl he fun v a W hp he => ?_
      obtain ⟨rfl, hh⟩ := hp
      refine asg rfl rfl he fun a he => ?_
      refine en ?_
      refine rt ?_
      refine rets1 Try.results6 he rfl (Ret.mk ?_)
      replace hh := hh.drop
      replace hh := hh.drop
      replace hh := hh.drop
      replace hh := hh.drop
      replace hh := hh.drop
      replace hh := hh.drop
      exact ⟨I178, congrArg Value.bool (by decide +kernel), ((((((hl3.trans hl11).trans hl108).trans hl156).trans hl169).trans hl175).trans hl179), hh⟩

theorem law_real (I : Snap) (L : List Ch) (W : World) (A_pd : Option Addr) (c_pd : Nat) (pd : List UInt8) (A_wd : Option Addr) (c_wd : Nat) (wd : List Int) (mk : Bool) (lg : Bool) (hh : Hp I L W) (h_pd : Fz I A_pd (pd.map b8)) (k_pd : pd.length ≤ c_pd) (h_wd : Fz I A_wd (wd.map r32)) (k_wd : wd.length ≤ c_wd) :
    Calls Try.prog 13 #[.agg #[.slice A_pd pd.length c_pd, .slice A_wd wd.length c_wd, .bool mk, .bool lg]] W (Ret fun v W => ∃ (A1 : Option Addr) (c1 : Nat) (A2 : Option Addr) (c2 : Nat), v = .agg #[.slice A1 (pd).length c1, .slice A2 (wd).length c2, .bool mk, .bool lg] ∧ Fz I A1 ((pd).map b8) ∧ (pd).length ≤ c1 ∧ Fz I A2 ((wd).map r32) ∧ (wd).length ≤ c2 ∧ Hp I (L) W) := by
  refine enter Try.func13 rfl Try.ntmps13 rfl fun a he => ?_
  refine sq ?_
  refine rg ?_
  refine bx #[.slice A_pd pd.length c_pd, .slice A_wd wd.length c_wd, .bool mk, .bool lg] rfl rfl rfl he hh fun bb1 a W he hh => ?_
  replace hh : Hp I (.obj bb1 (.cells [.slice A_pd pd.length c_pd, .slice A_wd wd.length c_wd, .bool mk, .bool lg].toArray 30) :: _) W := hh
  refine al ti_25 rfl he hh fun bb2 a W he hh => ?_
  replace hh : Hp I (.obj bb2 (.cells [.slice none 0 0, .slice none 0 0, .bool false, .bool false].toArray 25) :: _) W := hh
  refine en ?_
  refine sq ?_
  refine rg ?_
  refine fa fo_30_0 rfl rfl he fun a he => ?_
  refine ld rb_22 rfl (ocell hh.at1 rfl) rfl he fun a he => ?_
  refine fa fo_30_1 rfl rfl he fun a he => ?_
  refine fa fo_28_0 rfl rfl he fun a he => ?_
  refine ld rb_23 rfl (ocell hh.at1 rfl) rfl he fun a he => ?_
  refine fa fo_30_1 rfl rfl he fun a he => ?_
  refine fa fo_28_1 rfl rfl he fun a he => ?_
  refine ld rb_4 rfl (ocell hh.at1 rfl) rfl he fun a he => ?_
  refine fa fo_30_1 rfl rfl he fun a he => ?_
  refine fa fo_28_2 rfl rfl he fun a he => ?_
  refine ld rb_4 rfl (ocell hh.at1 rfl) rfl he fun a he => ?_
  refine bld #[.slice A_pd pd.length c_pd, .slice A_wd wd.length c_wd, .bool mk, .bool lg] rfl (by kernel_rfl) rfl he fun a he => ?_
  refine st #[.slice A_pd pd.length c_pd, .slice A_wd wd.length c_wd, .bool mk, .bool lg] ti_25 rfl rfl rfl rfl (by simp [Value.oneCell']) (by simp) he hh fun W hh => ?_
  replace hh : Hp I (.obj bb2 (.cells [.slice A_pd pd.length c_pd, .slice A_wd wd.length c_wd, .bool mk, .bool lg].toArray 25) :: _) W := hh
  refine en ?_
  refine rt ?_
  refine retsC Try.results13 he rfl (loadVar_run rb_25 ti_25 ((Rd.obj hh.at0 0).take 4) rfl) (Ret.mk ?_)
  replace hh := hh.drop
  replace hh := hh.drop
  exact ⟨A_pd, c_pd, A_wd, c_wd, rfl, h_pd, k_pd, h_wd, k_wd, hh⟩

theorem law_made (I : Snap) (L : List Ch) (W : World) (A_pd : Option Addr) (c_pd : Nat) (pd : List UInt8) (A_wd : Option Addr) (c_wd : Nat) (wd : List Int) (mk : Bool) (lg : Bool) (hh : Hp I L W) (h_pd : Fz I A_pd (pd.map b8)) (k_pd : pd.length ≤ c_pd) (h_wd : Fz I A_wd (wd.map r32)) (k_wd : wd.length ≤ c_wd) :
    Calls Try.prog 10 #[.agg #[.slice A_pd pd.length c_pd, .slice A_wd wd.length c_wd, .bool mk, .bool lg]] W (Ret fun v W => ∃ (A1 : Option Addr) (c1 : Nat) (A2 : Option Addr) (c2 : Nat), v = .agg #[.slice A1 (pd).length c1, .slice A2 (wd).length c2, .bool mk, .bool lg] ∧ Fz I A1 ((pd).map b8) ∧ (pd).length ≤ c1 ∧ Fz I A2 ((wd).map r32) ∧ (wd).length ≤ c2 ∧ Hp I (L) W) := by
  refine enter Try.func10 rfl Try.ntmps10 rfl fun a he => ?_
  refine sq ?_
  refine rg ?_
  refine bx #[.slice A_pd pd.length c_pd, .slice A_wd wd.length c_wd, .bool mk, .bool lg] rfl rfl rfl he hh fun bb1 a W he hh => ?_
  replace hh : Hp I (.obj bb1 (.cells [.slice A_pd pd.length c_pd, .slice A_wd wd.length c_wd, .bool mk, .bool lg].toArray 25) :: _) W := hh
  refine al ti_30 rfl he hh fun bb2 a W he hh => ?_
  replace hh : Hp I (.obj bb2 (.cells [.slice none 0 0, .slice none 0 0, .bool false, .bool false].toArray 30) :: _) W := hh
  refine en ?_
  refine sq ?_
  refine rg ?_
  refine fa fo_25_0 rfl rfl he fun a he => ?_
  refine ld rb_22 rfl (ocell hh.at1 rfl) rfl he fun a he => ?_
  refine fa fo_25_1 rfl rfl he fun a he => ?_
  refine ld rb_23 rfl (ocell hh.at1 rfl) rfl he fun a he => ?_
  refine fa fo_25_2 rfl rfl he fun a he => ?_
  refine ld rb_4 rfl (ocell hh.at1 rfl) rfl he fun a he => ?_
  refine fa fo_25_3 rfl rfl he fun a he => ?_
  refine ld rb_4 rfl (ocell hh.at1 rfl) rfl he fun a he => ?_
  refine bld #[.slice A_wd wd.length c_wd, .bool mk, .bool lg] rfl (by kernel_rfl) rfl he fun a he => ?_
  refine bld #[.slice A_pd pd.length c_pd, .slice A_wd wd.length c_wd, .bool mk, .bool lg] rfl (by kernel_rfl) rfl he fun a he => ?_
  refine st #[.slice A_pd pd.length c_pd, .slice A_wd wd.length c_wd, .bool mk, .bool lg] ti_30 rfl rfl rfl rfl (by simp [Value.oneCell']) (by simp) he hh fun W hh => ?_
  replace hh : Hp I (.obj bb2 (.cells [.slice A_pd pd.length c_pd, .slice A_wd wd.length c_wd, .bool mk, .bool lg].toArray 30) :: _) W := hh
  refine en ?_
  refine rt ?_
  refine retsC Try.results10 he rfl (loadVar_run rb_30 ti_30 ((Rd.obj hh.at0 0).take 4) rfl) (Ret.mk ?_)
  replace hh := hh.drop
  replace hh := hh.drop
  exact ⟨A_pd, c_pd, A_wd, c_wd, rfl, h_pd, k_pd, h_wd, k_wd, hh⟩

theorem law_TokenBack (I : Snap) (L : List Ch) (W : World) (A_b : Option Addr) (c_b : Nat) (b : List UInt8) (hh : Hp I L W) (h_b : Fz I A_b (b.map b8)) (k_b : b.length ≤ c_b) :
    Calls Try.prog 4 #[.slice A_b b.length c_b] W (Ret fun v W => ∃ (I' : Snap), v = .bool true ∧ I.le I' ∧ Hp I' (L) W) := by
  refine enter Try.func4 rfl Try.ntmps4 rfl fun a he => ?_
  refine sq ?_
  refine rg ?_
  refine asg rfl rfl he fun a he => ?_
  refine en ?_
  refine sq ?_
  refine rg ?_
  refine cal cb_6 rfl (law_shown _ _ _  hh ) rfl he fun v a W hp he => ?_
  obtain ⟨I1, rfl, hl2, hh⟩ := hp
  refine asg rfl rfl he fun a he => ?_
  refine en ?_
  refine sq ?_
  refine rg ?_
  refine mv rfl rfl he fun a he => ?_
  refine cal cb_7 rfl (token_Get _ _ _ A_b c_b b hh (h_b.up hl2) k_b) rfl he fun v a W hp he => ?_
  obtain ⟨I3, A5, cc6, A7, cc8, rfl, hl4, hf9, hc10, hf11, hc12, hh⟩ := hp
  refine mv rfl rfl he fun a he => ?_
  refine xt rfl rfl rfl he fun a he => ?_
  refine xt rfl rfl rfl he fun a he => ?_
  refine al ti_30 rfl he hh fun bb13 a W he hh => ?_
  replace hh : Hp I3 (.obj bb13 (.cells [.slice none 0 0, .slice none 0 0, .bool false, .bool false].toArray 30) :: _) W := hh
  refine st #[.slice A5 (((tokGet b).pd).length) cc6, .slice A7 (((tokGet b).wd).length) cc8, .bool ((tokGet b).mrk), .bool ((tokGet b).lg)] ti_30 rfl rfl rfl rfl (by simp [Value.oneCell']) (by simp) he hh fun W hh => ?_
  replace hh : Hp I3 (.obj bb13 (.cells [.slice A5 (((tokGet b).pd).length) cc6, .slice A7 (((tokGet b).wd).length) cc8, .bool ((tokGet b).mrk), .bool ((tokGet b).lg)].toArray 30) :: _) W := hh
  refine asg rfl rfl he fun a he => ?_
  refine en ?_
  refine sq ?_
  refine sq ?_
  refine rg ?_
  refine mv rfl rfl he fun a he => ?_
  refine ne rfl rfl rfl he fun a he => ?_
  refine en ?_
  refine cnd he rfl (fun h13 => ?_) (fun h13 => ?_)
  · refine sq ?_
    have hbd := tok_bad (b := b) (by omega)
    refine rg ?_
    refine mv rfl rfl he fun a he => ?_
    refine mv rfl rfl he fun a he => ?_
    refine gy rfl he rfl ?_
    refine fa fo_30_0 rfl rfl he fun a he => ?_
    refine gy rfl he rfl ?_
    refine ld rb_22 rfl (ocell hh.at0 rfl) rfl he fun a he => ?_
    refine gy rfl he rfl ?_
    refine ln Try.underlying22 rfl rfl he fun a he => ?_
    refine gy rfl he rfl ?_
    refine eq rfl rfl rfl he fun a he => ?_
    refine pkt rfl rfl rfl he fun a he => ?_
    refine mv rfl rfl he fun a he => ?_
    replace he := he.be (t := 21) (v' := .bool true) rfl (by simp [hbd])
    refine gy rfl he rfl ?_
    refine fa fo_30_1 rfl rfl he fun a he => ?_
    refine gy rfl he rfl ?_
    refine fa fo_28_0 rfl rfl he fun a he => ?_
    refine gy rfl he rfl ?_
    refine ld rb_23 rfl (ocell hh.at0 rfl) rfl he fun a he => ?_
    refine gy rfl he rfl ?_
    refine ln Try.underlying23 rfl rfl he fun a he => ?_
    refine gy rfl he rfl ?_
    refine eq rfl rfl rfl he fun a he => ?_
    refine pkt rfl rfl rfl he fun a he => ?_
    refine mv rfl rfl he fun a he => ?_
    replace he := he.be (t := 28) (v' := .bool true) rfl (by simp [hbd])
    refine gy rfl he rfl ?_
    refine fa fo_30_1 rfl rfl he fun a he => ?_
    refine gy rfl he rfl ?_
    refine fa fo_28_1 rfl rfl he fun a he => ?_
    refine gy rfl he rfl ?_
    refine ld rb_4 rfl (ocell hh.at0 rfl) rfl he fun a he => ?_
    refine gy rfl he rfl ?_
    refine nt rfl rfl he fun a he => ?_
    refine pkt rfl rfl rfl he fun a he => ?_
    refine mv rfl rfl he fun a he => ?_
    replace he := he.be (t := 34) (v' := .bool true) rfl (by simp [hbd])
    refine gy rfl he rfl ?_
    refine fa fo_30_1 rfl rfl he fun a he => ?_
    refine gy rfl he rfl ?_
    refine fa fo_28_2 rfl rfl he fun a he => ?_
    refine gy rfl he rfl ?_
    refine ld rb_4 rfl (ocell hh.at0 rfl) rfl he fun a he => ?_
    refine gy rfl he rfl ?_
    refine nt rfl rfl he fun a he => ?_
    refine pkt rfl rfl rfl he fun a he => ?_
    refine asg rfl rfl he fun a he => ?_
    refine en ?_
    refine rt ?_
    refine rets1 Try.results4 he rfl (Ret.mk ?_)
    replace hh := hh.drop
    exact ⟨I3, by simp [hbd], (hl2.trans hl4), hh⟩
  · refine sk ?_
    refine nm_then ?_
    refine sq ?_
    have hbk := tok_back (b := b) (by omega)
    have hpl := tokGet_pd b
    have hwl := tokGet_wd b
    refine rgd (SH I3 [.obj bb13 (.cells ([.slice A5 (((tokGet b).pd).length) cc6, .slice A7 (((tokGet b).wd).length) cc8, .bool ((tokGet b).mrk), .bool ((tokGet b).lg)]).toArray 30)]) 10 mixo rfl hh fun W hh => ?_
    refine ahp (d := 40) (v := .bool true) 0 rfl (by kernel_rfl) (by kernel_rfl) (by kernel_rfl) rfl rfl rfl he ⟨_, _, (Snap.le.refl _), hh⟩ (fun W hS => by
        refine mv rfl rfl he fun a he => ?_
        exact aqe he) fun a he => ?_
    refine ahp (d := 41) (v := .bool true) 1 rfl (by kernel_rfl) (by kernel_rfl) (by kernel_rfl) rfl rfl rfl he ⟨_, _, (Snap.le.refl _), hh⟩ (fun W hS => by
        refine mv rfl rfl he fun a he => ?_
        exact aqe he) fun a he => ?_
    refine ahp (d := 42) (v := .agg #[.slice A5 (((tokGet b).pd).length) cc6, .slice A7 (((tokGet b).wd).length) cc8, .bool ((tokGet b).mrk), .bool ((tokGet b).lg)]) 2 rfl (by kernel_rfl) (by kernel_rfl) (by kernel_rfl) rfl rfl rfl he ⟨_, _, (Snap.le.refl _), hh⟩ (fun W hS => by
        obtain ⟨I14, _, hleI14, hh⟩ := hS
        refine gy rfl he rfl ?_
        refine ldA [.slice A5 (((tokGet b).pd).length) cc6, .slice A7 (((tokGet b).wd).length) cc8, .bool ((tokGet b).mrk), .bool ((tokGet b).lg)] rb_30 ti_30 rfl ((Rd.obj hh.at0 0).take 4) rfl rfl he fun a he => ?_
        exact aqe he) fun a he => ?_
    refine ahp (d := 45) (v := .slice A_b b.length c_b) 5 rfl (by kernel_rfl) (by kernel_rfl) (by kernel_rfl) rfl rfl rfl he ⟨_, _, (Snap.le.refl _), hh⟩ (fun W hS => by
        refine gy rfl he rfl ?_
        refine mv rfl rfl he fun a he => ?_
        exact aqe he) fun a he => ?_
    refine ahp (d := 46) (v := .string (⟨b.toArray⟩)) 6 rfl (by kernel_rfl) (by kernel_rfl) (by kernel_rfl) rfl rfl rfl he ⟨_, _, (Snap.le.refl _), hh⟩ (fun W hS => by
        obtain ⟨I15, _, hleI15, hh⟩ := hS
        refine gy rfl he rfl ?_
        refine cvbs b Try.underlying22 Try.underlying5 Try.underlying9 rfl ((h_b.up ((hl2.trans hl4).trans hleI15)).rd hh) (by simp) rfl he fun a he => ?_
        exact aqe he) fun a he => ?_
    refine aha1 (i := 3) (by kernel_rfl) ?_
    refine aop rfl ?_
    refine gy rfl he rfl ?_
    refine cal cb_9 rfl (token_Put _ _ _ A5 cc6 ((tokGet b).pd) A7 cc8 ((tokGet b).wd) ((tokGet b).mrk) ((tokGet b).lg) hh hf9 hc10 hf11 hc12 (by omega) (by omega) (fun c hc => by have := tokGet_le b c hc; omega)) rfl he fun v a W hp he => ?_
    obtain ⟨I16, A18, cc19, rfl, hl17, hh⟩ := hp
    replace hh := hh.up1
    refine aen ⟨_, _, hl17, hh⟩ ?_
    refine aha1 (i := 4) (by kernel_rfl) ?_
    refine aop rfl ?_
    refine gy rfl he rfl ?_
    refine cvbs (tokPut ((tokGet b).pd) ((tokGet b).wd) ((tokGet b).mrk) ((tokGet b).lg)) Try.underlying22 Try.underlying5 Try.underlying9 rfl (Ch.rd hh.at1) (by simp) rfl he fun a he => ?_
    refine aen ⟨_, _, hl17, hh⟩ ?_
    refine ahp (d := 47) (v := .bool (decide ((⟨(tokPut ((tokGet b).pd) ((tokGet b).wd) ((tokGet b).mrk) ((tokGet b).lg)).toArray⟩ : ByteArray) = (⟨b.toArray⟩ : ByteArray)))) 7 rfl (by kernel_rfl) (by kernel_rfl) (by kernel_rfl) rfl rfl rfl he ⟨_, _, hl17, hh⟩ (fun W hS => by
        refine gy rfl he rfl ?_
        refine seq' rfl rfl rfl he fun a he => ?_
        exact aqe he) fun a he => ?_
    refine ahp (d := 48) (v := .bool (decide ((⟨(tokPut ((tokGet b).pd) ((tokGet b).wd) ((tokGet b).mrk) ((tokGet b).lg)).toArray⟩ : ByteArray) = (⟨b.toArray⟩ : ByteArray)))) 8 rfl (by kernel_rfl) (by kernel_rfl) (by kernel_rfl) rfl rfl rfl he ⟨_, _, hl17, hh⟩ (fun W hS => by
        refine pkt rfl rfl rfl he fun a he => ?_
        exact aqe he) fun a he => ?_
    refine ahp (d := 2) (v := .bool (decide ((⟨(tokPut ((tokGet b).pd) ((tokGet b).wd) ((tokGet b).mrk) ((tokGet b).lg)).toArray⟩ : ByteArray) = (⟨b.toArray⟩ : ByteArray)))) 9 rfl (by kernel_rfl) (by kernel_rfl) (by kernel_rfl) rfl rfl rfl he ⟨_, _, hl17, hh⟩ (fun W hS => by
        refine asg rfl rfl he fun a he => ?_
        exact aqe he) fun a he => ?_
    refine ahd (by kernel_rfl) ?_
    refine en ?_
    refine rt ?_
    refine rets1 Try.results4 he rfl (Ret.mk ?_)
    replace hh := hh.drop
    replace hh := hh.drop
    exact ⟨I16, by rw [hbk]; simp, ((hl2.trans hl4).trans hl17), hh⟩

end Go.Proofs.Ytndaogkpgoimlaa

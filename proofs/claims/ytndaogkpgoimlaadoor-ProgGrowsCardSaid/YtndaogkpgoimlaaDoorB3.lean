/- Walks through the given program's functions, printed op by op by this session's own program; what each computes is told by the plain functions of the texts S... -/
import Derived.Test.YtndaogkpgoimlaaDoorB2
import Derived.Test.YtndaogkpgoimlaaDoorS4
import Derived.KernelRfl
namespace Go.Proofs.YtndaogkpgoimlaaDoor
open Go Go.RowKit K
set_option linter.unusedVariables false
theorem cb_50 : callable Tryd.prog 50 = true := by kernel_rfl
theorem cb_51 : callable Tryd.prog 51 = true := by kernel_rfl
theorem cb_56 : callable Tryd.prog 56 = true := by kernel_rfl
theorem ref04_Same (I : Snap) (L : List Ch) (W : World) (A_xs : Option Addr) (c_xs : Nat) (xs : List Int) (A_ys : Option Addr) (c_ys : Nat) (ys : List Int) (hh : Hp I L W) (h_xs : Fz I A_xs (xs.map r32)) (k_xs : xs.length ≤ c_xs) (h_ys : Fz I A_ys (ys.map r32)) (k_ys : ys.length ≤ c_ys) (hb : xs.length ≤ 1000000000000) :
    Calls Tryd.prog 44 #[.slice A_xs xs.length c_xs, .slice A_ys ys.length c_ys] W (Ret fun v W => v = .bool (decide (xs = ys)) ∧ Hp I (L) W) := by
  refine enter Tryd.func44 rfl Tryd.ntmps44 rfl fun a he => ?_
  refine sq ?_
  refine rg ?_
  refine asg rfl rfl he fun a he => ?_
  refine en ?_
  refine sq ?_
  refine sq ?_
  refine rg ?_
  refine mv rfl rfl he fun a he => ?_
  refine ln Tryd.underlying24 rfl rfl he fun a he => ?_
  refine mv rfl rfl he fun a he => ?_
  refine ln Tryd.underlying24 rfl rfl he fun a he => ?_
  refine ne rfl rfl rfl he fun a he => ?_
  refine en ?_
  refine cnd he rfl (fun h10 => ?_) (fun h10 => ?_)
  · replace h10 : xs.length ≠ ys.length := by omega
    replace h10 : xs.length ≠ ys.length := by omega
    refine sq ?_
    refine rg ?_
    refine asg rfl rfl he fun a he => ?_
    refine en ?_
    refine rt ?_
    refine rets1 Tryd.results44 he rfl (Ret.mk ?_)
    exact ⟨by rw [decide_eq_false (fun e => h10 (by rw [e]))], hh⟩
  · replace h10 : ¬ (xs.length ≠ ys.length) := by omega
    replace h10 : xs.length = ys.length := by omega
    refine sk ?_
    refine nm_then ?_
    refine sq ?_
    refine sq ?_
    refine rg ?_
    refine asg rfl rfl he fun a he => ?_
    refine en ?_
    refine bk ?_
    refine lp (fun (i : Nat) a w => Env 26 [(0, .slice A_xs xs.length c_xs), (1, .slice A_ys ys.length c_ys), (5, .int .i64 ((i : Nat) : Int))] a ∧ Hp I (L) w ∧ i ≤ xs.length ∧ ((∀ j, j < i → xs[j]? = ys[j]?)))
        (fun i => xs.length - i) 0 ⟨he.keep [0, 1, 5] rfl, hh, Nat.zero_le _, fun j hj => absurd hj (Nat.not_lt_zero _)⟩ fun i a W hinv => ?_
    obtain ⟨he, hh, hi, hs⟩ := hinv
    refine sq ?_
    refine sq ?_
    refine rg ?_
    refine mv rfl rfl he fun a he => ?_
    refine mv rfl rfl he fun a he => ?_
    refine ln Tryd.underlying24 rfl rfl he fun a he => ?_
    refine lt rfl rfl rfl he fun a he => ?_
    refine en ?_
    refine cnd he rfl (fun h14 => ?_) (fun h14 => ?_)
    · replace h14 : i < xs.length := by omega
      refine sk ?_
      refine nm_then ?_
      refine sq ?_
      refine bk ?_
      refine sq ?_
      refine rgd (SH I []) 9 mixo rfl hh fun W hh => ?_
      refine ahp (d := 17) (v := .slice A_xs xs.length c_xs) 0 rfl (by kernel_rfl) (by kernel_rfl) (by kernel_rfl) rfl rfl rfl he ⟨_, _, (Snap.le.refl _), hh⟩ (fun W hS => by
          refine mv rfl rfl he fun a he => ?_
          exact aqe he) fun a he => ?_
      refine ahp (d := 18) (v := .int .i64 ((i : Nat) : Int)) 1 rfl (by kernel_rfl) (by kernel_rfl) (by kernel_rfl) rfl rfl rfl he ⟨_, _, (Snap.le.refl _), hh⟩ (fun W hS => by
          refine mv rfl rfl he fun a he => ?_
          exact aqe he) fun a he => ?_
      obtain ⟨x, hx⟩ := idx_some (xs := xs) (i := i) (by omega)
      obtain ⟨bb1, oo2, eA3, hc4⟩ := h_xs.adr1 hx
      replace he := he.be (t := 17) (v' := .slice (some ⟨bb1, oo2, none⟩) xs.length c_xs) rfl (by rw [eA3])
      refine ahp (d := 19) (v := .pointer (some ⟨bb1, oo2 + i * 1, none⟩)) 2 rfl (by kernel_rfl) (by kernel_rfl) (by kernel_rfl) rfl rfl rfl he ⟨_, _, (Snap.le.refl _), hh⟩ (fun W hS => by refine ia (i) ts_24 rfl rfl (List.getElem?_eq_some_iff.1 hx).1 rfl he fun a he => ?_; exact aqe he) fun a he => ?_
      refine ahp (d := 20) (v := .int .i32 x) 3 rfl (by kernel_rfl) (by kernel_rfl) (by kernel_rfl) rfl rfl rfl he ⟨_, _, (Snap.le.refl _), hh⟩ (fun W hS => by
          obtain ⟨I5, _, hleI5, hh⟩ := hS
          refine ld rb_21 rfl (hc4 _ _ _ hleI5 hh) rfl he fun a he => ?_
          exact aqe he) fun a he => ?_
      refine ahp (d := 21) (v := .slice A_ys ys.length c_ys) 4 rfl (by kernel_rfl) (by kernel_rfl) (by kernel_rfl) rfl rfl rfl he ⟨_, _, (Snap.le.refl _), hh⟩ (fun W hS => by
          refine mv rfl rfl he fun a he => ?_
          exact aqe he) fun a he => ?_
      refine ahp (d := 22) (v := .int .i64 ((i : Nat) : Int)) 5 rfl (by kernel_rfl) (by kernel_rfl) (by kernel_rfl) rfl rfl rfl he ⟨_, _, (Snap.le.refl _), hh⟩ (fun W hS => by
          refine mv rfl rfl he fun a he => ?_
          exact aqe he) fun a he => ?_
      obtain ⟨y, hy⟩ := idx_some (xs := ys) (i := i) (by omega)
      obtain ⟨bb6, oo7, eA8, hc9⟩ := h_ys.adr1 hy
      replace he := he.be (t := 21) (v' := .slice (some ⟨bb6, oo7, none⟩) ys.length c_ys) rfl (by rw [eA8])
      refine ahp (d := 23) (v := .pointer (some ⟨bb6, oo7 + i * 1, none⟩)) 6 rfl (by kernel_rfl) (by kernel_rfl) (by kernel_rfl) rfl rfl rfl he ⟨_, _, (Snap.le.refl _), hh⟩ (fun W hS => by refine ia (i) ts_24 rfl rfl (List.getElem?_eq_some_iff.1 hy).1 rfl he fun a he => ?_; exact aqe he) fun a he => ?_
      refine ahp (d := 24) (v := .int .i32 y) 7 rfl (by kernel_rfl) (by kernel_rfl) (by kernel_rfl) rfl rfl rfl he ⟨_, _, (Snap.le.refl _), hh⟩ (fun W hS => by
          obtain ⟨I10, _, hleI10, hh⟩ := hS
          refine ld rb_21 rfl (hc9 _ _ _ hleI10 hh) rfl he fun a he => ?_
          exact aqe he) fun a he => ?_
      refine ahp (d := 25) (v := .bool (decide (x ≠ y))) 8 rfl (by kernel_rfl) (by kernel_rfl) (by kernel_rfl) rfl rfl rfl he ⟨_, _, (Snap.le.refl _), hh⟩ (fun W hS => by
          refine ne rfl rfl rfl he fun a he => ?_
          exact aqe he) fun a he => ?_
      refine ahd (by kernel_rfl) ?_
      refine en ?_
      refine cnd he rfl (fun h25 => ?_) (fun h25 => ?_)
      · refine sq ?_
        refine rg ?_
        refine asg rfl rfl he fun a he => ?_
        refine en ?_
        refine rt ?_
        refine rets1 Tryd.results44 he rfl (Ret.mk ?_)
        exact ⟨by rw [decide_eq_false (same_not hx hy h25)], hh⟩
      · refine sk ?_
        refine nm_blk ?_
        refine nm_then ?_
        refine rg ?_
        refine mv rfl rfl he fun a he => ?_
        refine ad (((i + 1) : Nat) : Int) rfl rfl (w64 (by omega) (by omega)) rfl he fun a he => ?_
        refine asg rfl rfl he fun a he => ?_
        refine en ?_
        exact ⟨i + 1, ⟨he.keep [0, 1, 5] rfl, hh, by omega, same_next hs hx hy (by omega)⟩, by show xs.length - (i + 1) < xs.length - i; omega⟩
    · replace h14 : ¬ (i < xs.length) := by omega
      refine ext ?_
      refine ex_then ?_
      refine ex_then ?_
      refine ex_in ?_
      refine nm_then ?_
      refine sq ?_
      refine rg ?_
      refine asg rfl rfl he fun a he => ?_
      refine en ?_
      refine rt ?_
      refine rets1 Tryd.results44 he rfl (Ret.mk ?_)
      exact ⟨by rw [decide_eq_true (same_all h10 hs (by omega))], hh⟩

theorem ref01_Put (I : Snap) (L : List Ch) (W : World) (A_l : Option Addr) (c_l : Nat) (l : List UInt8) (x : Nat) (hh : Hp I L W) (h_l : Fz I A_l (l.map b8)) (k_l : l.length ≤ c_l) (hb : l.length ≤ 1000000000000) (hx : x < 18446744073709551616) :
    Calls Tryd.prog 37 #[.slice A_l l.length c_l, .int .u64 ((x : Nat) : Int)] W (Ret fun v W => ∃ (A1 : Option Addr) (c1 : Nat), v = .slice A1 (l ++ putN x).length c1 ∧ Hp I (.row A1 (l ++ putN x).length c1 5 1 ((l ++ putN x).map b8) :: L) W) := by
  refine enter Tryd.func37 rfl Tryd.ntmps37 rfl fun a he => ?_
  refine sq ?_
  refine rg ?_
  refine asg rfl rfl he fun a he => ?_
  refine en ?_
  refine sq ?_
  refine rg ?_
  refine bsl [] [] ts_23 rfl rfl rfl rfl rfl rfl rfl he hh fun bb1 a W he hh => ?_
  refine mv rfl rfl he fun a he => ?_
  refine ap ts_23 rfl rfl (h_l.rd hh) (by first | rfl | (simp; done) | (simp; omega)) (one_map (fun _ => rfl) _) (by first | omega | (simp; omega)) rfl he hh fun A2 cc3 a W he hh => ?_
  replace hh := hh.re (n' := ((l : List UInt8)).length) (cs' := ((l : List UInt8)).map b8) (by first | rfl | (simp; done) | (simp; omega)) (by first | (simp [b8]; done) | (simp [b8]; omega))
  replace he := he.be (t := 8) (v' := .slice A2 ((l : List UInt8)).length cc3) rfl (by congr 1 <;> (first | rfl | (simp; done) | (simp; omega)))
  refine asg rfl rfl he fun a he => ?_
  refine en ?_
  refine sq ?_
  refine bk ?_
  refine lp (fun (s : List UInt8 × Nat × Nat) a w => match s with | (pre, m, f) => ∃ (A_5 : Option Addr) (c_5 : Nat), Env 25 [(1, .int .u64 ((m : Nat) : Int)), (5, .slice A_5 pre.length c_5)] a ∧ Hp I (.row A_5 pre.length c_5 5 1 (pre.map b8) :: L) w ∧ pre ++ putN m = l ++ putN x ∧ m < 18446744073709551616 ∧ m < 128 ^ f ∧ pre.length + f ≤ l.length + 10)
      (fun s => s.2.1) (l, x, 10) ⟨A2, cc3, he.keep [1, 5] rfl, hh, rfl, hx, put_ten hx, Nat.le_refl _⟩ fun s a W hinv => ?_
  obtain ⟨pre, m, f⟩ := s
  obtain ⟨A_5, c_5, he, hh, hpre, hm, hf, hl⟩ := hinv
  refine sq ?_
  refine sq ?_
  refine rg ?_
  refine mv rfl rfl he fun a he => ?_
  refine gt rfl rfl rfl he fun a he => ?_
  refine en ?_
  refine cnd he rfl (fun h1 => ?_) (fun h1 => ?_)
  · replace h1 : 127 < m := by omega
    refine sk ?_
    refine nm_then ?_
    refine bk ?_
    refine sq ?_
    refine rg ?_
    refine mv rfl rfl he fun a he => ?_
    refine mv rfl rfl he fun a he => ?_
    refine rm (((m % 128) : Nat) : Int) rfl rfl (by omega) (rfl) rfl he fun a he => ?_
    refine ad (((m % 128 + 128) : Nat) : Int) rfl rfl (wu64 (by omega) (by omega)) rfl he fun a he => ?_
    refine ci (((m % 128 + 128) : Nat) : Int) .u8 ud_55 Tryd.underlying5 rfl (wu8 (by omega) (by omega)) rfl he fun a he => ?_
    refine bsl [(0, .int .u8 (((m % 128 + 128) : Nat) : Int))] [.int .u8 (((m % 128 + 128) : Nat) : Int)] ts_23 rfl rfl rfl rfl rfl rfl rfl he hh fun bb5 a W he hh => ?_
    replace hh := hh.up1
    refine ap ts_23 rfl rfl (Ch.rd hh.at1) (by first | rfl | (simp; done) | (simp; omega)) (by simp [Value.oneCell']) (by first | omega | (simp; omega)) rfl he hh fun A6 cc7 a W he hh => ?_
    replace hh := hh.re (n' := ((pre ++ [UInt8.ofNat (m % 128 + 128)])).length) (cs' := ((pre ++ [UInt8.ofNat (m % 128 + 128)])).map b8) (by first | rfl | (simp; done) | (simp; omega)) (by first | (simp [b8]; done) | (simp [b8]; omega))
    replace he := he.be (t := 17) (v' := .slice A6 ((pre ++ [UInt8.ofNat (m % 128 + 128)])).length cc7) rfl (by congr 1 <;> (first | rfl | (simp; done) | (simp; omega)))
    replace hh := hh.up1
    replace hh := hh.drop
    refine asg rfl rfl he fun a he => ?_
    refine en ?_
    refine rg ?_
    refine mv rfl rfl he fun a he => ?_
    refine dv (((m / 128) : Nat) : Int) rfl rfl (by omega) (by rw [show (m : Int).tdiv 128 = ((m / 128 : Nat) : Int) from rfl]; exact wu64 (by omega) rfl) rfl he fun a he => ?_
    refine asg rfl rfl he fun a he => ?_
    refine en_blk ?_
    refine nm_then ?_
    exact ⟨(pre ++ [UInt8.ofNat (m % 128 + 128)], m / 128, f - 1), ⟨A6, cc7, he.keep [1, 5] rfl, hh, (put_step hpre (by omega) hf).1, by omega, (put_step hpre (by omega) hf).2.1, by have := (put_step hpre (by omega) hf).2.2; simp; omega⟩, by show m / 128 < m; omega⟩
  · replace h1 : ¬ (127 < m) := by omega
    refine ext ?_
    refine ex_then ?_
    refine ex_then ?_
    refine ex_in ?_
    refine nm_then ?_
    refine sq ?_
    refine rg ?_
    refine mv rfl rfl he fun a he => ?_
    refine mv rfl rfl he fun a he => ?_
    refine ci ((m : Nat) : Int) .u8 ud_55 Tryd.underlying5 rfl (wu8 (by omega) (by omega)) rfl he fun a he => ?_
    refine bsl [(0, .int .u8 ((m : Nat) : Int))] [.int .u8 ((m : Nat) : Int)] ts_23 rfl rfl rfl rfl rfl rfl rfl he hh fun bb9 a W he hh => ?_
    replace hh := hh.up1
    refine ap ts_23 rfl rfl (Ch.rd hh.at1) (by first | rfl | (simp; done) | (simp; omega)) (by simp [Value.oneCell']) (by first | omega | (simp; omega)) rfl he hh fun A10 cc11 a W he hh => ?_
    replace hh := hh.re (n' := ((pre ++ [UInt8.ofNat m])).length) (cs' := ((pre ++ [UInt8.ofNat m])).map b8) (by first | rfl | (simp; done) | (simp; omega)) (by first | (simp [b8]; done) | (simp [b8]; omega))
    replace he := he.be (t := 24) (v' := .slice A10 ((pre ++ [UInt8.ofNat m])).length cc11) rfl (by congr 1 <;> (first | rfl | (simp; done) | (simp; omega)))
    replace hh := hh.up1
    replace hh := hh.drop
    refine asg rfl rfl he fun a he => ?_
    refine en ?_
    refine rt ?_
    refine rets1 Tryd.results37 he rfl (Ret.mk ?_)
    rw [← put_end hpre (by omega)]
    exact ⟨A10, cc11, rfl, hh⟩

theorem ref01_Get (I : Snap) (L : List Ch) (W : World) (A_l : Option Addr) (c_l : Nat) (l : List UInt8) (hh : Hp I L W) (h_l : Fz I A_l (l.map b8)) (k_l : l.length ≤ c_l) :
    Calls Tryd.prog 34 #[.slice A_l l.length c_l] W (Ret fun v W => v = .tuple #[.int .u64 (((numGet l).1 : Nat) : Int), .int .i64 (((numGet l).2.1 : Nat) : Int), .int .i64 ((numGet l).2.2)] ∧ Hp I (L) W) := by
  refine enter Tryd.func34 rfl Tryd.ntmps34 rfl fun a he => ?_
  refine sq ?_
  refine rg ?_
  refine asg rfl rfl he fun a he => ?_
  refine asg rfl rfl he fun a he => ?_
  refine asg rfl rfl he fun a he => ?_
  refine en ?_
  refine sq ?_
  refine rg ?_
  refine asg rfl rfl he fun a he => ?_
  refine en ?_
  refine sq ?_
  refine rg ?_
  refine asg rfl rfl he fun a he => ?_
  refine en ?_
  refine sq ?_
  refine sq ?_
  refine rg ?_
  refine asg rfl rfl he fun a he => ?_
  refine en ?_
  refine bk ?_
  refine lp (fun (s : Nat × Nat) a w => match s with | (i, f) => Env 60 [(0, .slice A_l l.length c_l), (5, .int .u64 (((valN l i 0) : Nat) : Int)), (6, .int .u64 (((128 ^ i) : Nat) : Int)), (7, .int .i64 ((i : Nat) : Int))] a ∧ Hp I (L) w ∧ scanTo l 10 0 = scanTo l f i ∧ f + i = 10 ∧ i ≤ l.length)
      (fun s => 10 - s.1) (0, 10) ⟨he.keep [0, 5, 6, 7] rfl, hh, rfl, rfl, Nat.zero_le _⟩ fun s a W hinv => ?_
  obtain ⟨i, f⟩ := s
  obtain ⟨he, hh, hs, hf, hi⟩ := hinv
  refine sq ?_
  refine sq ?_
  refine rg ?_
  refine mv rfl rfl he fun a he => ?_
  refine lt rfl rfl rfl he fun a he => ?_
  refine en ?_
  refine cnd he rfl (fun h10 => ?_) (fun h10 => ?_)
  · replace h10 : i < 10 := by omega
    refine sk ?_
    refine nm_then ?_
    refine sq ?_
    refine bk ?_
    refine sq ?_
    refine sq ?_
    refine rg ?_
    refine mv rfl rfl he fun a he => ?_
    refine mv rfl rfl he fun a he => ?_
    refine ln Tryd.underlying23 rfl rfl he fun a he => ?_
    refine eq rfl rfl rfl he fun a he => ?_
    refine en ?_
    refine cnd he rfl (fun h16 => ?_) (fun h16 => ?_)
    · replace h16 : i = l.length := by omega
      refine sq ?_
      refine rg ?_
      refine asg rfl rfl he fun a he => ?_
      refine asg rfl rfl he fun a he => ?_
      refine asg rfl rfl he fun a he => ?_
      refine en ?_
      refine rt ?_
      refine rets3 Tryd.results34 he rfl rfl rfl (Ret.mk ?_)
      rw [get_short (scan_short hs hf h10 h16)]
      exact ⟨rfl, hh⟩
    · replace h16 : ¬ (i = l.length) := by omega
      refine sk ?_
      refine nm_then ?_
      refine sq ?_
      refine rg ?_
      refine mv rfl rfl he fun a he => ?_
      refine mv rfl rfl he fun a he => ?_
      obtain ⟨c, hc⟩ := idx_some (xs := l) (i := i) (by omega)
      refine ia1 (xs := l) (i) ts_23 rfl rfl (h_l.rd hh) hc rfl he fun bb1 oo2 a hc3 he => ?_
      refine ld rb_5 rfl hc3 rfl he fun a he => ?_
      refine rm (((c.toNat % 128) : Nat) : Int) rfl rfl (by omega) (rfl) rfl he fun a he => ?_
      refine ci (((c.toNat % 128) : Nat) : Int) .u64 ud_5 Tryd.underlying55 rfl (wu64 (by omega) (by omega)) rfl he fun a he => ?_
      refine asg rfl rfl he fun a he => ?_
      refine en ?_
      refine sq ?_
      refine sq ?_
      refine rg ?_
      refine mv rfl rfl he fun a he => ?_
      refine eq rfl rfl rfl he fun a he => ?_
      refine mv rfl rfl he fun a he => ?_
      refine sd he (t := 25) rfl (fun h4 he => ?_) (fun h4 he => ?_)
      · replace h4 : i = 9 := by omega
        refine gy rfl he rfl ?_
        refine mv rfl rfl he fun a he => ?_
        refine gy rfl he rfl ?_
        refine gt rfl rfl rfl he fun a he => ?_
        refine gy rfl he rfl ?_
        refine mv rfl rfl he fun a he => ?_
        refine sd he (t := 28) rfl (fun h5 he => ?_) (fun h5 he => ?_)
        · replace h5 : 1 < (c.toNat % 128) := by omega
          refine gn rfl rfl he rfl rfl fun a he => ?_
          refine gn rfl rfl he rfl rfl fun a he => ?_
          refine gn rfl rfl he rfl rfl fun a he => ?_
          refine gn rfl rfl he rfl rfl fun a he => ?_
          refine gn rfl rfl he rfl rfl fun a he => ?_
          refine gy rfl he rfl ?_
          refine pkt rfl rfl rfl he fun a he => ?_
          refine pkt rfl rfl rfl he fun a he => ?_
          refine en ?_
          refine cnt he rfl ?_
          refine sq ?_
          refine rg ?_
          refine asg rfl rfl he fun a he => ?_
          refine asg rfl rfl he fun a he => ?_
          refine asg rfl rfl he fun a he => ?_
          refine en ?_
          refine rt ?_
          refine rets3 Tryd.results34 he rfl rfl rfl (Ret.mk ?_)
          rw [get_tenth hs hf (by omega) hc (by omega)]
          exact ⟨rfl, hh⟩
        · replace h5 : ¬ (1 < (c.toNat % 128)) := by omega
          refine gy rfl he rfl ?_
          refine mv rfl rfl he fun a he => ?_
          refine gy rfl he rfl ?_
          refine mv rfl rfl he fun a he => ?_
          refine gy rfl he rfl ?_
          refine ia1 (xs := l) (i) ts_23 rfl rfl (h_l.rd hh) hc rfl he fun bb6 oo7 a hc8 he => ?_
          refine gy rfl he rfl ?_
          refine ld rb_5 rfl hc8 rfl he fun a he => ?_
          refine gy rfl he rfl ?_
          refine gt rfl rfl rfl he fun a he => ?_
          refine gy rfl he rfl ?_
          refine pkf rfl rfl rfl he fun a he => ?_
          refine pkt rfl rfl rfl he fun a he => ?_
          refine en ?_
          refine cnd he rfl (fun h9 => ?_) (fun h9 => ?_)
          · replace h9 : 127 < c.toNat := by omega
            refine sq ?_
            refine rg ?_
            refine asg rfl rfl he fun a he => ?_
            refine asg rfl rfl he fun a he => ?_
            refine asg rfl rfl he fun a he => ?_
            refine en ?_
            refine rt ?_
            refine rets3 Tryd.results34 he rfl rfl rfl (Ret.mk ?_)
            rw [get_tenth hs hf (by omega) hc (by omega)]
            exact ⟨rfl, hh⟩
          · replace h9 : ¬ (127 < c.toNat) := by omega
            refine sk ?_
            refine nm_then ?_
            refine sq ?_
            obtain ⟨hb1, hb2⟩ := ref_fit h10 (by omega) hc
            refine rg ?_
            refine mv rfl rfl he fun a he => ?_
            refine mv rfl rfl he fun a he => ?_
            refine mv rfl rfl he fun a he => ?_
            refine mu (((c.toNat % 128 * 128 ^ i) : Nat) : Int) rfl rfl (by rw [← Int.natCast_mul]; exact wu64 (by omega) rfl) rfl he fun a he => ?_
            refine ad (((valN l (i + 1) 0) : Nat) : Int) rfl rfl (by rw [← Int.natCast_add, ref_val hc]; exact wu64 (by omega) rfl) rfl he fun a he => ?_
            refine asg rfl rfl he fun a he => ?_
            refine en ?_
            refine sq ?_
            refine sq ?_
            refine rg ?_
            refine mv rfl rfl he fun a he => ?_
            refine mv rfl rfl he fun a he => ?_
            refine ia1 (xs := l) (i) ts_23 rfl rfl (h_l.rd hh) hc rfl he fun bb10 oo11 a hc12 he => ?_
            refine ld rb_5 rfl hc12 rfl he fun a he => ?_
            refine lt rfl rfl rfl he fun a he => ?_
            refine en ?_
            refine cnd he rfl (fun h45 => ?_) (fun h45 => ?_)
            · replace h45 : c.toNat < 128 := by omega
              refine sq ?_
              refine sq ?_
              refine rg ?_
              refine mv rfl rfl he fun a he => ?_
              refine gt rfl rfl rfl he fun a he => ?_
              refine mv rfl rfl he fun a he => ?_
              refine sd he (t := 48) rfl (fun h13 he => ?_) (fun h13 he => ?_)
              · replace h13 : 0 < i := by omega
                refine gy rfl he rfl ?_
                refine mv rfl rfl he fun a he => ?_
                refine gy rfl he rfl ?_
                refine mv rfl rfl he fun a he => ?_
                refine gy rfl he rfl ?_
                refine ia1 (xs := l) (i) ts_23 rfl rfl (h_l.rd hh) hc rfl he fun bb14 oo15 a hc16 he => ?_
                refine gy rfl he rfl ?_
                refine ld rb_5 rfl hc16 rfl he fun a he => ?_
                refine gy rfl he rfl ?_
                refine eq rfl rfl rfl he fun a he => ?_
                refine pkt rfl rfl rfl he fun a he => ?_
                refine en ?_
                refine cnd he rfl (fun h17 => ?_) (fun h17 => ?_)
                · replace h17 : c.toNat = 0 := by omega
                  refine sq ?_
                  refine rg ?_
                  refine asg rfl rfl he fun a he => ?_
                  refine asg rfl rfl he fun a he => ?_
                  refine asg rfl rfl he fun a he => ?_
                  refine en ?_
                  refine rt ?_
                  refine rets3 Tryd.results34 he rfl rfl rfl (Ret.mk ?_)
                  rw [get_nought hs hf h10 hc (by omega) (by omega)]
                  exact ⟨rfl, hh⟩
                · replace h17 : ¬ (c.toNat = 0) := by omega
                  refine sk ?_
                  refine nm_then ?_
                  refine sq ?_
                  refine rg ?_
                  refine mv rfl rfl he fun a he => ?_
                  refine mv rfl rfl he fun a he => ?_
                  refine ad (((i + 1) : Nat) : Int) rfl rfl (w64 (by omega) (by omega)) rfl he fun a he => ?_
                  refine asg rfl rfl he fun a he => ?_
                  refine asg rfl rfl he fun a he => ?_
                  refine asg rfl rfl he fun a he => ?_
                  refine en ?_
                  refine rt ?_
                  refine rets3 Tryd.results34 he rfl rfl rfl (Ret.mk ?_)
                  rw [get_ok hs hf h10 hc h45 (by omega) (by omega)]
                  exact ⟨rfl, hh⟩
              · replace h13 : ¬ (0 < i) := by omega
                refine gn rfl rfl he rfl rfl fun a he => ?_
                refine gn rfl rfl he rfl rfl fun a he => ?_
                refine gn rfl rfl he rfl rfl fun a he => ?_
                refine gn rfl rfl he rfl rfl fun a he => ?_
                refine gn rfl rfl he rfl rfl fun a he => ?_
                refine pkf rfl rfl rfl he fun a he => ?_
                refine en ?_
                refine cnf he rfl ?_
                refine sk ?_
                refine nm_then ?_
                refine sq ?_
                refine rg ?_
                refine mv rfl rfl he fun a he => ?_
                refine mv rfl rfl he fun a he => ?_
                refine ad (((i + 1) : Nat) : Int) rfl rfl (w64 (by omega) (by omega)) rfl he fun a he => ?_
                refine asg rfl rfl he fun a he => ?_
                refine asg rfl rfl he fun a he => ?_
                refine asg rfl rfl he fun a he => ?_
                refine en ?_
                refine rt ?_
                refine rets3 Tryd.results34 he rfl rfl rfl (Ret.mk ?_)
                rw [get_ok hs hf h10 hc h45 (by omega) (by omega)]
                exact ⟨rfl, hh⟩
            · replace h45 : ¬ (c.toNat < 128) := by omega
              refine sk ?_
              refine nm_then ?_
              refine rg ?_
              refine mv rfl rfl he fun a he => ?_
              refine mu (((128 ^ (i + 1)) : Nat) : Int) rfl rfl (by have := pow_fit (i := i) (by omega); rw [show (128 : Int) = ((128 : Nat) : Int) from rfl, ← Int.natCast_mul, ← Nat.pow_succ]; generalize 128 ^ (i + 1) = q at *; exact wu64 (by omega) rfl) rfl he fun a he => ?_
              refine asg rfl rfl he fun a he => ?_
              refine en_blk ?_
              refine nm_then ?_
              refine rg ?_
              refine mv rfl rfl he fun a he => ?_
              refine ad (((i + 1) : Nat) : Int) rfl rfl (w64 (by omega) (by omega)) rfl he fun a he => ?_
              refine asg rfl rfl he fun a he => ?_
              refine en ?_
              exact ⟨(i + 1, f - 1), ⟨he.keep [0, 5, 6, 7] rfl, hh, (scan_on hs hf h10 hc h45).1, (scan_on hs hf h10 hc h45).2, by omega⟩, by show 10 - (i + 1) < 10 - i; omega⟩
      · replace h4 : ¬ (i = 9) := by omega
        refine gn rfl rfl he rfl rfl fun a he => ?_
        refine gn rfl rfl he rfl rfl fun a he => ?_
        refine gn rfl rfl he rfl rfl fun a he => ?_
        refine gnu rfl rfl he rfl fun a he => ?_
        refine gnu rfl rfl he rfl fun a he => ?_
        refine gnu rfl rfl he rfl fun a he => ?_
        refine gnu rfl rfl he rfl fun a he => ?_
        refine gnu rfl rfl he rfl fun a he => ?_
        refine gn rfl rfl he rfl rfl fun a he => ?_
        refine pkf rfl rfl rfl he fun a he => ?_
        refine en ?_
        refine cnf he rfl ?_
        refine sk ?_
        refine nm_then ?_
        refine sq ?_
        obtain ⟨hb1, hb2⟩ := ref_fit h10 (by omega) hc
        refine rg ?_
        refine mv rfl rfl he fun a he => ?_
        refine mv rfl rfl he fun a he => ?_
        refine mv rfl rfl he fun a he => ?_
        refine mu (((c.toNat % 128 * 128 ^ i) : Nat) : Int) rfl rfl (by rw [← Int.natCast_mul]; exact wu64 (by omega) rfl) rfl he fun a he => ?_
        refine ad (((valN l (i + 1) 0) : Nat) : Int) rfl rfl (by rw [← Int.natCast_add, ref_val hc]; exact wu64 (by omega) rfl) rfl he fun a he => ?_
        refine asg rfl rfl he fun a he => ?_
        refine en ?_
        refine sq ?_
        refine sq ?_
        refine rg ?_
        refine mv rfl rfl he fun a he => ?_
        refine mv rfl rfl he fun a he => ?_
        refine ia1 (xs := l) (i) ts_23 rfl rfl (h_l.rd hh) hc rfl he fun bb18 oo19 a hc20 he => ?_
        refine ld rb_5 rfl hc20 rfl he fun a he => ?_
        refine lt rfl rfl rfl he fun a he => ?_
        refine en ?_
        refine cnd he rfl (fun h45 => ?_) (fun h45 => ?_)
        · replace h45 : c.toNat < 128 := by omega
          refine sq ?_
          refine sq ?_
          refine rg ?_
          refine mv rfl rfl he fun a he => ?_
          refine gt rfl rfl rfl he fun a he => ?_
          refine mv rfl rfl he fun a he => ?_
          refine sd he (t := 48) rfl (fun h21 he => ?_) (fun h21 he => ?_)
          · replace h21 : 0 < i := by omega
            refine gy rfl he rfl ?_
            refine mv rfl rfl he fun a he => ?_
            refine gy rfl he rfl ?_
            refine mv rfl rfl he fun a he => ?_
            refine gy rfl he rfl ?_
            refine ia1 (xs := l) (i) ts_23 rfl rfl (h_l.rd hh) hc rfl he fun bb22 oo23 a hc24 he => ?_
            refine gy rfl he rfl ?_
            refine ld rb_5 rfl hc24 rfl he fun a he => ?_
            refine gy rfl he rfl ?_
            refine eq rfl rfl rfl he fun a he => ?_
            refine pkt rfl rfl rfl he fun a he => ?_
            refine en ?_
            refine cnd he rfl (fun h25 => ?_) (fun h25 => ?_)
            · replace h25 : c.toNat = 0 := by omega
              refine sq ?_
              refine rg ?_
              refine asg rfl rfl he fun a he => ?_
              refine asg rfl rfl he fun a he => ?_
              refine asg rfl rfl he fun a he => ?_
              refine en ?_
              refine rt ?_
              refine rets3 Tryd.results34 he rfl rfl rfl (Ret.mk ?_)
              rw [get_nought hs hf h10 hc (by omega) (by omega)]
              exact ⟨rfl, hh⟩
            · replace h25 : ¬ (c.toNat = 0) := by omega
              refine sk ?_
              refine nm_then ?_
              refine sq ?_
              refine rg ?_
              refine mv rfl rfl he fun a he => ?_
              refine mv rfl rfl he fun a he => ?_
              refine ad (((i + 1) : Nat) : Int) rfl rfl (w64 (by omega) (by omega)) rfl he fun a he => ?_
              refine asg rfl rfl he fun a he => ?_
              refine asg rfl rfl he fun a he => ?_
              refine asg rfl rfl he fun a he => ?_
              refine en ?_
              refine rt ?_
              refine rets3 Tryd.results34 he rfl rfl rfl (Ret.mk ?_)
              rw [get_ok hs hf h10 hc h45 (by omega) (by omega)]
              exact ⟨rfl, hh⟩
          · replace h21 : ¬ (0 < i) := by omega
            refine gn rfl rfl he rfl rfl fun a he => ?_
            refine gn rfl rfl he rfl rfl fun a he => ?_
            refine gn rfl rfl he rfl rfl fun a he => ?_
            refine gn rfl rfl he rfl rfl fun a he => ?_
            refine gn rfl rfl he rfl rfl fun a he => ?_
            refine pkf rfl rfl rfl he fun a he => ?_
            refine en ?_
            refine cnf he rfl ?_
            refine sk ?_
            refine nm_then ?_
            refine sq ?_
            refine rg ?_
            refine mv rfl rfl he fun a he => ?_
            refine mv rfl rfl he fun a he => ?_
            refine ad (((i + 1) : Nat) : Int) rfl rfl (w64 (by omega) (by omega)) rfl he fun a he => ?_
            refine asg rfl rfl he fun a he => ?_
            refine asg rfl rfl he fun a he => ?_
            refine asg rfl rfl he fun a he => ?_
            refine en ?_
            refine rt ?_
            refine rets3 Tryd.results34 he rfl rfl rfl (Ret.mk ?_)
            rw [get_ok hs hf h10 hc h45 (by omega) (by omega)]
            exact ⟨rfl, hh⟩
        · replace h45 : ¬ (c.toNat < 128) := by omega
          refine sk ?_
          refine nm_then ?_
          refine rg ?_
          refine mv rfl rfl he fun a he => ?_
          refine mu (((128 ^ (i + 1)) : Nat) : Int) rfl rfl (by have := pow_fit (i := i) (by omega); rw [show (128 : Int) = ((128 : Nat) : Int) from rfl, ← Int.natCast_mul, ← Nat.pow_succ]; generalize 128 ^ (i + 1) = q at *; exact wu64 (by omega) rfl) rfl he fun a he => ?_
          refine asg rfl rfl he fun a he => ?_
          refine en_blk ?_
          refine nm_then ?_
          refine rg ?_
          refine mv rfl rfl he fun a he => ?_
          refine ad (((i + 1) : Nat) : Int) rfl rfl (w64 (by omega) (by omega)) rfl he fun a he => ?_
          refine asg rfl rfl he fun a he => ?_
          refine en ?_
          exact ⟨(i + 1, f - 1), ⟨he.keep [0, 5, 6, 7] rfl, hh, (scan_on hs hf h10 hc h45).1, (scan_on hs hf h10 hc h45).2, by omega⟩, by show 10 - (i + 1) < 10 - i; omega⟩
  · replace h10 : ¬ (i < 10) := by omega
    refine ext ?_
    refine ex_then ?_
    refine ex_then ?_
    refine ex_in ?_
    refine nm_then ?_
    refine sq ?_
    refine rg ?_
    refine asg rfl rfl he fun a he => ?_
    refine asg rfl rfl he fun a he => ?_
    refine asg rfl rfl he fun a he => ?_
    refine en ?_
    refine rt ?_
    refine rets3 Tryd.results34 he rfl rfl rfl (Ret.mk ?_)
    rw [get_bad (scan_ten hs hf h10 (by omega)).1 (.inl (by omega))]
    exact ⟨rfl, hh⟩

theorem ref04_Size (I : Snap) (L : List Ch) (W : World) (c : Nat) (hh : Hp I L W)  :
    Calls Tryd.prog 51 #[.int .u8 ((c : Nat) : Int)] W (Ret fun v W => v = .int .i64 ((sizeN c : Nat) : Int) ∧ Hp I (L) W) := by
  refine enter Tryd.func51 rfl Tryd.ntmps51 rfl fun a he => ?_
  refine sq ?_
  refine rg ?_
  refine asg rfl rfl he fun a he => ?_
  refine en ?_
  refine sq ?_
  refine sq ?_
  refine rg ?_
  refine mv rfl rfl he fun a he => ?_
  refine lt rfl rfl rfl he fun a he => ?_
  refine en ?_
  refine cnd he rfl (fun h1 => ?_) (fun h1 => ?_)
  · replace h1 : c < 128 := by omega
    refine sq ?_
    refine rg ?_
    refine asg rfl rfl he fun a he => ?_
    refine en ?_
    refine rt ?_
    refine rets1 Tryd.results51 he rfl (Ret.mk ?_)
    exact ⟨by have e : sizeN c = 1 := (by unfold sizeN; (repeat' split) <;> omega); rw [e]; rfl, hh⟩
  · replace h1 : ¬ (c < 128) := by omega
    refine sk ?_
    refine nm_then ?_
    refine sq ?_
    refine sq ?_
    refine rg ?_
    refine mv rfl rfl he fun a he => ?_
    refine ge rfl rfl rfl he fun a he => ?_
    refine mv rfl rfl he fun a he => ?_
    refine sd he (t := 7) rfl (fun h2 he => ?_) (fun h2 he => ?_)
    · replace h2 : 194 ≤ c := by omega
      refine gy rfl he rfl ?_
      refine mv rfl rfl he fun a he => ?_
      refine gy rfl he rfl ?_
      refine le rfl rfl rfl he fun a he => ?_
      refine pkt rfl rfl rfl he fun a he => ?_
      refine en ?_
      refine cnd he rfl (fun h3 => ?_) (fun h3 => ?_)
      · replace h3 : c ≤ 223 := by omega
        refine sq ?_
        refine rg ?_
        refine asg rfl rfl he fun a he => ?_
        refine en ?_
        refine rt ?_
        refine rets1 Tryd.results51 he rfl (Ret.mk ?_)
        exact ⟨by have e : sizeN c = 2 := (by unfold sizeN; (repeat' split) <;> omega); rw [e]; rfl, hh⟩
      · replace h3 : ¬ (c ≤ 223) := by omega
        refine sk ?_
        refine nm_then ?_
        refine sq ?_
        refine sq ?_
        refine rg ?_
        refine mv rfl rfl he fun a he => ?_
        refine ge rfl rfl rfl he fun a he => ?_
        refine mv rfl rfl he fun a he => ?_
        refine sd he (t := 13) rfl (fun h4 he => ?_) (fun h4 he => ?_)
        · replace h4 : 224 ≤ c := by omega
          refine gy rfl he rfl ?_
          refine mv rfl rfl he fun a he => ?_
          refine gy rfl he rfl ?_
          refine le rfl rfl rfl he fun a he => ?_
          refine pkt rfl rfl rfl he fun a he => ?_
          refine en ?_
          refine cnd he rfl (fun h5 => ?_) (fun h5 => ?_)
          · replace h5 : c ≤ 239 := by omega
            refine sq ?_
            refine rg ?_
            refine asg rfl rfl he fun a he => ?_
            refine en ?_
            refine rt ?_
            refine rets1 Tryd.results51 he rfl (Ret.mk ?_)
            exact ⟨by have e : sizeN c = 3 := (by unfold sizeN; (repeat' split) <;> omega); rw [e]; rfl, hh⟩
          · replace h5 : ¬ (c ≤ 239) := by omega
            refine sk ?_
            refine nm_then ?_
            refine sq ?_
            refine sq ?_
            refine rg ?_
            refine mv rfl rfl he fun a he => ?_
            refine ge rfl rfl rfl he fun a he => ?_
            refine mv rfl rfl he fun a he => ?_
            refine sd he (t := 19) rfl (fun h6 he => ?_) (fun h6 he => ?_)
            · replace h6 : 240 ≤ c := by omega
              refine gy rfl he rfl ?_
              refine mv rfl rfl he fun a he => ?_
              refine gy rfl he rfl ?_
              refine le rfl rfl rfl he fun a he => ?_
              refine pkt rfl rfl rfl he fun a he => ?_
              refine en ?_
              refine cnd he rfl (fun h7 => ?_) (fun h7 => ?_)
              · replace h7 : c ≤ 244 := by omega
                refine sq ?_
                refine rg ?_
                refine asg rfl rfl he fun a he => ?_
                refine en ?_
                refine rt ?_
                refine rets1 Tryd.results51 he rfl (Ret.mk ?_)
                exact ⟨by have e : sizeN c = 4 := (by unfold sizeN; (repeat' split) <;> omega); rw [e]; rfl, hh⟩
              · replace h7 : ¬ (c ≤ 244) := by omega
                refine sk ?_
                refine nm_then ?_
                refine sq ?_
                refine rg ?_
                refine asg rfl rfl he fun a he => ?_
                refine en ?_
                refine rt ?_
                refine rets1 Tryd.results51 he rfl (Ret.mk ?_)
                exact ⟨by have e : sizeN c = 0 := (by unfold sizeN; (repeat' split) <;> omega); rw [e]; rfl, hh⟩
            · replace h6 : ¬ (240 ≤ c) := by omega
              refine gn rfl rfl he rfl rfl fun a he => ?_
              refine gn rfl rfl he rfl rfl fun a he => ?_
              refine pkf rfl rfl rfl he fun a he => ?_
              refine en ?_
              refine cnf he rfl ?_
              refine sk ?_
              refine nm_then ?_
              refine sq ?_
              refine rg ?_
              refine asg rfl rfl he fun a he => ?_
              refine en ?_
              refine rt ?_
              refine rets1 Tryd.results51 he rfl (Ret.mk ?_)
              exact ⟨by have e : sizeN c = 0 := (by unfold sizeN; (repeat' split) <;> omega); rw [e]; rfl, hh⟩
        · replace h4 : ¬ (224 ≤ c) := by omega
          refine gn rfl rfl he rfl rfl fun a he => ?_
          refine gn rfl rfl he rfl rfl fun a he => ?_
          refine pkf rfl rfl rfl he fun a he => ?_
          refine en ?_
          refine cnf he rfl ?_
          refine sk ?_
          refine nm_then ?_
          refine sq ?_
          refine sq ?_
          refine rg ?_
          refine mv rfl rfl he fun a he => ?_
          refine ge rfl rfl rfl he fun a he => ?_
          refine mv rfl rfl he fun a he => ?_
          refine sd he (t := 19) rfl (fun h8 he => ?_) (fun h8 he => ?_)
          · replace h8 : 240 ≤ c := by omega
            refine gy rfl he rfl ?_
            refine mv rfl rfl he fun a he => ?_
            refine gy rfl he rfl ?_
            refine le rfl rfl rfl he fun a he => ?_
            refine pkt rfl rfl rfl he fun a he => ?_
            refine en ?_
            refine cnd he rfl (fun h9 => ?_) (fun h9 => ?_)
            · replace h9 : c ≤ 244 := by omega
              refine sq ?_
              refine rg ?_
              refine asg rfl rfl he fun a he => ?_
              refine en ?_
              refine rt ?_
              refine rets1 Tryd.results51 he rfl (Ret.mk ?_)
              exact ⟨by have e : sizeN c = 4 := (by unfold sizeN; (repeat' split) <;> omega); rw [e]; rfl, hh⟩
            · replace h9 : ¬ (c ≤ 244) := by omega
              refine sk ?_
              refine nm_then ?_
              refine sq ?_
              refine rg ?_
              refine asg rfl rfl he fun a he => ?_
              refine en ?_
              refine rt ?_
              refine rets1 Tryd.results51 he rfl (Ret.mk ?_)
              exact ⟨by have e : sizeN c = 0 := (by unfold sizeN; (repeat' split) <;> omega); rw [e]; rfl, hh⟩
          · replace h8 : ¬ (240 ≤ c) := by omega
            refine gn rfl rfl he rfl rfl fun a he => ?_
            refine gn rfl rfl he rfl rfl fun a he => ?_
            refine pkf rfl rfl rfl he fun a he => ?_
            refine en ?_
            refine cnf he rfl ?_
            refine sk ?_
            refine nm_then ?_
            refine sq ?_
            refine rg ?_
            refine asg rfl rfl he fun a he => ?_
            refine en ?_
            refine rt ?_
            refine rets1 Tryd.results51 he rfl (Ret.mk ?_)
            exact ⟨by have e : sizeN c = 0 := (by unfold sizeN; (repeat' split) <;> omega); rw [e]; rfl, hh⟩
    · replace h2 : ¬ (194 ≤ c) := by omega
      refine gn rfl rfl he rfl rfl fun a he => ?_
      refine gn rfl rfl he rfl rfl fun a he => ?_
      refine pkf rfl rfl rfl he fun a he => ?_
      refine en ?_
      refine cnf he rfl ?_
      refine sk ?_
      refine nm_then ?_
      refine sq ?_
      refine sq ?_
      refine rg ?_
      refine mv rfl rfl he fun a he => ?_
      refine ge rfl rfl rfl he fun a he => ?_
      refine mv rfl rfl he fun a he => ?_
      refine sd he (t := 13) rfl (fun h10 he => ?_) (fun h10 he => ?_)
      · replace h10 : 224 ≤ c := by omega
        refine gy rfl he rfl ?_
        refine mv rfl rfl he fun a he => ?_
        refine gy rfl he rfl ?_
        refine le rfl rfl rfl he fun a he => ?_
        refine pkt rfl rfl rfl he fun a he => ?_
        refine en ?_
        refine cnd he rfl (fun h11 => ?_) (fun h11 => ?_)
        · replace h11 : c ≤ 239 := by omega
          refine sq ?_
          refine rg ?_
          refine asg rfl rfl he fun a he => ?_
          refine en ?_
          refine rt ?_
          refine rets1 Tryd.results51 he rfl (Ret.mk ?_)
          exact ⟨by have e : sizeN c = 3 := (by unfold sizeN; (repeat' split) <;> omega); rw [e]; rfl, hh⟩
        · replace h11 : ¬ (c ≤ 239) := by omega
          refine sk ?_
          refine nm_then ?_
          refine sq ?_
          refine sq ?_
          refine rg ?_
          refine mv rfl rfl he fun a he => ?_
          refine ge rfl rfl rfl he fun a he => ?_
          refine mv rfl rfl he fun a he => ?_
          refine sd he (t := 19) rfl (fun h12 he => ?_) (fun h12 he => ?_)
          · replace h12 : 240 ≤ c := by omega
            refine gy rfl he rfl ?_
            refine mv rfl rfl he fun a he => ?_
            refine gy rfl he rfl ?_
            refine le rfl rfl rfl he fun a he => ?_
            refine pkt rfl rfl rfl he fun a he => ?_
            refine en ?_
            refine cnd he rfl (fun h13 => ?_) (fun h13 => ?_)
            · replace h13 : c ≤ 244 := by omega
              refine sq ?_
              refine rg ?_
              refine asg rfl rfl he fun a he => ?_
              refine en ?_
              refine rt ?_
              refine rets1 Tryd.results51 he rfl (Ret.mk ?_)
              exact ⟨by have e : sizeN c = 4 := (by unfold sizeN; (repeat' split) <;> omega); rw [e]; rfl, hh⟩
            · replace h13 : ¬ (c ≤ 244) := by omega
              refine sk ?_
              refine nm_then ?_
              refine sq ?_
              refine rg ?_
              refine asg rfl rfl he fun a he => ?_
              refine en ?_
              refine rt ?_
              refine rets1 Tryd.results51 he rfl (Ret.mk ?_)
              exact ⟨by have e : sizeN c = 0 := (by unfold sizeN; (repeat' split) <;> omega); rw [e]; rfl, hh⟩
          · replace h12 : ¬ (240 ≤ c) := by omega
            refine gn rfl rfl he rfl rfl fun a he => ?_
            refine gn rfl rfl he rfl rfl fun a he => ?_
            refine pkf rfl rfl rfl he fun a he => ?_
            refine en ?_
            refine cnf he rfl ?_
            refine sk ?_
            refine nm_then ?_
            refine sq ?_
            refine rg ?_
            refine asg rfl rfl he fun a he => ?_
            refine en ?_
            refine rt ?_
            refine rets1 Tryd.results51 he rfl (Ret.mk ?_)
            exact ⟨by have e : sizeN c = 0 := (by unfold sizeN; (repeat' split) <;> omega); rw [e]; rfl, hh⟩
      · replace h10 : ¬ (224 ≤ c) := by omega
        refine gn rfl rfl he rfl rfl fun a he => ?_
        refine gn rfl rfl he rfl rfl fun a he => ?_
        refine pkf rfl rfl rfl he fun a he => ?_
        refine en ?_
        refine cnf he rfl ?_
        refine sk ?_
        refine nm_then ?_
        refine sq ?_
        refine sq ?_
        refine rg ?_
        refine mv rfl rfl he fun a he => ?_
        refine ge rfl rfl rfl he fun a he => ?_
        refine mv rfl rfl he fun a he => ?_
        refine sd he (t := 19) rfl (fun h14 he => ?_) (fun h14 he => ?_)
        · replace h14 : 240 ≤ c := by omega
          refine gy rfl he rfl ?_
          refine mv rfl rfl he fun a he => ?_
          refine gy rfl he rfl ?_
          refine le rfl rfl rfl he fun a he => ?_
          refine pkt rfl rfl rfl he fun a he => ?_
          refine en ?_
          refine cnd he rfl (fun h15 => ?_) (fun h15 => ?_)
          · replace h15 : c ≤ 244 := by omega
            refine sq ?_
            refine rg ?_
            refine asg rfl rfl he fun a he => ?_
            refine en ?_
            refine rt ?_
            refine rets1 Tryd.results51 he rfl (Ret.mk ?_)
            exact ⟨by have e : sizeN c = 4 := (by unfold sizeN; (repeat' split) <;> omega); rw [e]; rfl, hh⟩
          · replace h15 : ¬ (c ≤ 244) := by omega
            refine sk ?_
            refine nm_then ?_
            refine sq ?_
            refine rg ?_
            refine asg rfl rfl he fun a he => ?_
            refine en ?_
            refine rt ?_
            refine rets1 Tryd.results51 he rfl (Ret.mk ?_)
            exact ⟨by have e : sizeN c = 0 := (by unfold sizeN; (repeat' split) <;> omega); rw [e]; rfl, hh⟩
        · replace h14 : ¬ (240 ≤ c) := by omega
          refine gn rfl rfl he rfl rfl fun a he => ?_
          refine gn rfl rfl he rfl rfl fun a he => ?_
          refine pkf rfl rfl rfl he fun a he => ?_
          refine en ?_
          refine cnf he rfl ?_
          refine sk ?_
          refine nm_then ?_
          refine sq ?_
          refine rg ?_
          refine asg rfl rfl he fun a he => ?_
          refine en ?_
          refine rt ?_
          refine rets1 Tryd.results51 he rfl (Ret.mk ?_)
          exact ⟨by have e : sizeN c = 0 := (by unfold sizeN; (repeat' split) <;> omega); rw [e]; rfl, hh⟩

theorem ref04_fits (I : Snap) (L : List Ch) (W : World) (a_ : Nat) (i : Nat) (c : Nat) (hh : Hp I L W)  :
    Calls Tryd.prog 56 #[.int .u8 ((a_ : Nat) : Int), .int .i64 ((i : Nat) : Int), .int .u8 ((c : Nat) : Int)] W (Ret fun v W => v = .bool (fitsN a_ i c) ∧ Hp I (L) W) := by
  refine enter Tryd.func56 rfl Tryd.ntmps56 rfl fun a he => ?_
  refine sq ?_
  refine rg ?_
  refine asg rfl rfl he fun a he => ?_
  refine en ?_
  refine sq ?_
  refine sq ?_
  refine cutr (fun a w => Env 61 [(0, .int .u8 ((a_ : Nat) : Int)), (1, .int .i64 ((i : Nat) : Int)), (2, .int .u8 ((c : Nat) : Int)), (6, .bool false), (12, .bool (decide (i = 1 ∧ a_ = 224)))] a ∧ Hp I (L) w) ?_ fun a W hM => ?_
  · refine rg ?_
    refine mv rfl rfl he fun a he => ?_
    refine eq rfl rfl rfl he fun a he => ?_
    refine mv rfl rfl he fun a he => ?_
    refine sd he (t := 9) rfl (fun h1 he => ?_) (fun h1 he => ?_)
    · replace h1 : i = 1 := by omega
      refine gy rfl he rfl ?_
      refine mv rfl rfl he fun a he => ?_
      refine gy rfl he rfl ?_
      refine eq rfl rfl rfl he fun a he => ?_
      refine pkt rfl rfl rfl he fun a he => ?_
      refine en ?_
      replace he := he.be (t := 12) (v' := .bool (decide (i = 1 ∧ a_ = 224))) rfl (by congr 1; symm; first | (apply decide_eq_true; omega) | (apply decide_eq_false; omega) | (apply decide_eq_decide.2; omega))
      exact ⟨he.keep [0, 1, 2, 6, 12] rfl, hh⟩
    · replace h1 : ¬ (i = 1) := by omega
      refine gn rfl rfl he rfl rfl fun a he => ?_
      refine gn rfl rfl he rfl rfl fun a he => ?_
      refine pkf rfl rfl rfl he fun a he => ?_
      refine en ?_
      replace he := he.be (t := 12) (v' := .bool (decide (i = 1 ∧ a_ = 224))) rfl (by congr 1; symm; first | (apply decide_eq_true; omega) | (apply decide_eq_false; omega) | (apply decide_eq_decide.2; omega))
      exact ⟨he.keep [0, 1, 2, 6, 12] rfl, hh⟩
  obtain ⟨he, hh⟩ := hM
  refine nm_then ?_
  refine cnd he rfl (fun k1 => ?_) (fun k1 => ?_)
  · refine sq ?_
    refine rg ?_
    refine mv rfl rfl he fun a he => ?_
    refine ge rfl rfl rfl he fun a he => ?_
    refine mv rfl rfl he fun a he => ?_
    refine sd he (t := 15) rfl (fun h2 he => ?_) (fun h2 he => ?_)
    · replace h2 : 160 ≤ c := by omega
      refine gy rfl he rfl ?_
      refine mv rfl rfl he fun a he => ?_
      refine gy rfl he rfl ?_
      refine le rfl rfl rfl he fun a he => ?_
      refine pkt rfl rfl rfl he fun a he => ?_
      refine asg rfl rfl he fun a he => ?_
      refine en ?_
      refine rt ?_
      refine rets1 Tryd.results56 he rfl (Ret.mk ?_)
      exact ⟨congrArg Value.bool (by rw [fitsN, if_pos k1]; first | (symm; apply decide_eq_true; omega) | (symm; apply decide_eq_false; omega) | (apply decide_eq_decide.2; omega)), hh⟩
    · replace h2 : ¬ (160 ≤ c) := by omega
      refine gn rfl rfl he rfl rfl fun a he => ?_
      refine gn rfl rfl he rfl rfl fun a he => ?_
      refine pkf rfl rfl rfl he fun a he => ?_
      refine asg rfl rfl he fun a he => ?_
      refine en ?_
      refine rt ?_
      refine rets1 Tryd.results56 he rfl (Ret.mk ?_)
      exact ⟨congrArg Value.bool (by rw [fitsN, if_pos k1]; first | (symm; apply decide_eq_true; omega) | (symm; apply decide_eq_false; omega) | (apply decide_eq_decide.2; omega)), hh⟩
  · refine sk ?_
    refine nm_then ?_
    refine sq ?_
    refine sq ?_
    refine cutr (fun a w => Env 61 [(0, .int .u8 ((a_ : Nat) : Int)), (1, .int .i64 ((i : Nat) : Int)), (2, .int .u8 ((c : Nat) : Int)), (6, .bool false), (12, .bool (decide (i = 1 ∧ a_ = 224))), (24, .bool (decide (i = 1 ∧ a_ = 237)))] a ∧ Hp I (L) w) ?_ fun a W hM => ?_
    · refine rg ?_
      refine mv rfl rfl he fun a he => ?_
      refine eq rfl rfl rfl he fun a he => ?_
      refine mv rfl rfl he fun a he => ?_
      refine sd he (t := 21) rfl (fun h3 he => ?_) (fun h3 he => ?_)
      · replace h3 : i = 1 := by omega
        refine gy rfl he rfl ?_
        refine mv rfl rfl he fun a he => ?_
        refine gy rfl he rfl ?_
        refine eq rfl rfl rfl he fun a he => ?_
        refine pkt rfl rfl rfl he fun a he => ?_
        refine en ?_
        replace he := he.be (t := 24) (v' := .bool (decide (i = 1 ∧ a_ = 237))) rfl (by congr 1; symm; first | (apply decide_eq_true; omega) | (apply decide_eq_false; omega) | (apply decide_eq_decide.2; omega))
        exact ⟨he.keep [0, 1, 2, 6, 12, 24] rfl, hh⟩
      · replace h3 : ¬ (i = 1) := by omega
        refine gn rfl rfl he rfl rfl fun a he => ?_
        refine gn rfl rfl he rfl rfl fun a he => ?_
        refine pkf rfl rfl rfl he fun a he => ?_
        refine en ?_
        replace he := he.be (t := 24) (v' := .bool (decide (i = 1 ∧ a_ = 237))) rfl (by congr 1; symm; first | (apply decide_eq_true; omega) | (apply decide_eq_false; omega) | (apply decide_eq_decide.2; omega))
        exact ⟨he.keep [0, 1, 2, 6, 12, 24] rfl, hh⟩
    obtain ⟨he, hh⟩ := hM
    refine nm_then ?_
    refine cnd he rfl (fun k2 => ?_) (fun k2 => ?_)
    · refine sq ?_
      refine rg ?_
      refine mv rfl rfl he fun a he => ?_
      refine ge rfl rfl rfl he fun a he => ?_
      refine mv rfl rfl he fun a he => ?_
      refine sd he (t := 27) rfl (fun h4 he => ?_) (fun h4 he => ?_)
      · replace h4 : 128 ≤ c := by omega
        refine gy rfl he rfl ?_
        refine mv rfl rfl he fun a he => ?_
        refine gy rfl he rfl ?_
        refine le rfl rfl rfl he fun a he => ?_
        refine pkt rfl rfl rfl he fun a he => ?_
        refine asg rfl rfl he fun a he => ?_
        refine en ?_
        refine rt ?_
        refine rets1 Tryd.results56 he rfl (Ret.mk ?_)
        exact ⟨congrArg Value.bool (by rw [fitsN, if_neg k1, if_pos k2]; first | (symm; apply decide_eq_true; omega) | (symm; apply decide_eq_false; omega) | (apply decide_eq_decide.2; omega)), hh⟩
      · replace h4 : ¬ (128 ≤ c) := by omega
        refine gn rfl rfl he rfl rfl fun a he => ?_
        refine gn rfl rfl he rfl rfl fun a he => ?_
        refine pkf rfl rfl rfl he fun a he => ?_
        refine asg rfl rfl he fun a he => ?_
        refine en ?_
        refine rt ?_
        refine rets1 Tryd.results56 he rfl (Ret.mk ?_)
        exact ⟨congrArg Value.bool (by rw [fitsN, if_neg k1, if_pos k2]; first | (symm; apply decide_eq_true; omega) | (symm; apply decide_eq_false; omega) | (apply decide_eq_decide.2; omega)), hh⟩
    · refine sk ?_
      refine nm_then ?_
      refine sq ?_
      refine sq ?_
      refine cutr (fun a w => Env 61 [(0, .int .u8 ((a_ : Nat) : Int)), (1, .int .i64 ((i : Nat) : Int)), (2, .int .u8 ((c : Nat) : Int)), (6, .bool false), (12, .bool (decide (i = 1 ∧ a_ = 224))), (24, .bool (decide (i = 1 ∧ a_ = 237))), (36, .bool (decide (i = 1 ∧ a_ = 240)))] a ∧ Hp I (L) w) ?_ fun a W hM => ?_
      · refine rg ?_
        refine mv rfl rfl he fun a he => ?_
        refine eq rfl rfl rfl he fun a he => ?_
        refine mv rfl rfl he fun a he => ?_
        refine sd he (t := 33) rfl (fun h5 he => ?_) (fun h5 he => ?_)
        · replace h5 : i = 1 := by omega
          refine gy rfl he rfl ?_
          refine mv rfl rfl he fun a he => ?_
          refine gy rfl he rfl ?_
          refine eq rfl rfl rfl he fun a he => ?_
          refine pkt rfl rfl rfl he fun a he => ?_
          refine en ?_
          replace he := he.be (t := 36) (v' := .bool (decide (i = 1 ∧ a_ = 240))) rfl (by congr 1; symm; first | (apply decide_eq_true; omega) | (apply decide_eq_false; omega) | (apply decide_eq_decide.2; omega))
          exact ⟨he.keep [0, 1, 2, 6, 12, 24, 36] rfl, hh⟩
        · replace h5 : ¬ (i = 1) := by omega
          refine gn rfl rfl he rfl rfl fun a he => ?_
          refine gn rfl rfl he rfl rfl fun a he => ?_
          refine pkf rfl rfl rfl he fun a he => ?_
          refine en ?_
          replace he := he.be (t := 36) (v' := .bool (decide (i = 1 ∧ a_ = 240))) rfl (by congr 1; symm; first | (apply decide_eq_true; omega) | (apply decide_eq_false; omega) | (apply decide_eq_decide.2; omega))
          exact ⟨he.keep [0, 1, 2, 6, 12, 24, 36] rfl, hh⟩
      obtain ⟨he, hh⟩ := hM
      refine nm_then ?_
      refine cnd he rfl (fun k3 => ?_) (fun k3 => ?_)
      · refine sq ?_
        refine rg ?_
        refine mv rfl rfl he fun a he => ?_
        refine ge rfl rfl rfl he fun a he => ?_
        refine mv rfl rfl he fun a he => ?_
        refine sd he (t := 39) rfl (fun h6 he => ?_) (fun h6 he => ?_)
        · replace h6 : 144 ≤ c := by omega
          refine gy rfl he rfl ?_
          refine mv rfl rfl he fun a he => ?_
          refine gy rfl he rfl ?_
          refine le rfl rfl rfl he fun a he => ?_
          refine pkt rfl rfl rfl he fun a he => ?_
          refine asg rfl rfl he fun a he => ?_
          refine en ?_
          refine rt ?_
          refine rets1 Tryd.results56 he rfl (Ret.mk ?_)
          exact ⟨congrArg Value.bool (by rw [fitsN, if_neg k1, if_neg k2, if_pos k3]; first | (symm; apply decide_eq_true; omega) | (symm; apply decide_eq_false; omega) | (apply decide_eq_decide.2; omega)), hh⟩
        · replace h6 : ¬ (144 ≤ c) := by omega
          refine gn rfl rfl he rfl rfl fun a he => ?_
          refine gn rfl rfl he rfl rfl fun a he => ?_
          refine pkf rfl rfl rfl he fun a he => ?_
          refine asg rfl rfl he fun a he => ?_
          refine en ?_
          refine rt ?_
          refine rets1 Tryd.results56 he rfl (Ret.mk ?_)
          exact ⟨congrArg Value.bool (by rw [fitsN, if_neg k1, if_neg k2, if_pos k3]; first | (symm; apply decide_eq_true; omega) | (symm; apply decide_eq_false; omega) | (apply decide_eq_decide.2; omega)), hh⟩
      · refine sk ?_
        refine nm_then ?_
        refine sq ?_
        refine sq ?_
        refine cutr (fun a w => Env 61 [(0, .int .u8 ((a_ : Nat) : Int)), (1, .int .i64 ((i : Nat) : Int)), (2, .int .u8 ((c : Nat) : Int)), (6, .bool false), (12, .bool (decide (i = 1 ∧ a_ = 224))), (24, .bool (decide (i = 1 ∧ a_ = 237))), (36, .bool (decide (i = 1 ∧ a_ = 240))), (48, .bool (decide (i = 1 ∧ a_ = 244)))] a ∧ Hp I (L) w) ?_ fun a W hM => ?_
        · refine rg ?_
          refine mv rfl rfl he fun a he => ?_
          refine eq rfl rfl rfl he fun a he => ?_
          refine mv rfl rfl he fun a he => ?_
          refine sd he (t := 45) rfl (fun h7 he => ?_) (fun h7 he => ?_)
          · replace h7 : i = 1 := by omega
            refine gy rfl he rfl ?_
            refine mv rfl rfl he fun a he => ?_
            refine gy rfl he rfl ?_
            refine eq rfl rfl rfl he fun a he => ?_
            refine pkt rfl rfl rfl he fun a he => ?_
            refine en ?_
            replace he := he.be (t := 48) (v' := .bool (decide (i = 1 ∧ a_ = 244))) rfl (by congr 1; symm; first | (apply decide_eq_true; omega) | (apply decide_eq_false; omega) | (apply decide_eq_decide.2; omega))
            exact ⟨he.keep [0, 1, 2, 6, 12, 24, 36, 48] rfl, hh⟩
          · replace h7 : ¬ (i = 1) := by omega
            refine gn rfl rfl he rfl rfl fun a he => ?_
            refine gn rfl rfl he rfl rfl fun a he => ?_
            refine pkf rfl rfl rfl he fun a he => ?_
            refine en ?_
            replace he := he.be (t := 48) (v' := .bool (decide (i = 1 ∧ a_ = 244))) rfl (by congr 1; symm; first | (apply decide_eq_true; omega) | (apply decide_eq_false; omega) | (apply decide_eq_decide.2; omega))
            exact ⟨he.keep [0, 1, 2, 6, 12, 24, 36, 48] rfl, hh⟩
        obtain ⟨he, hh⟩ := hM
        refine nm_then ?_
        refine cnd he rfl (fun k4 => ?_) (fun k4 => ?_)
        · refine sq ?_
          refine rg ?_
          refine mv rfl rfl he fun a he => ?_
          refine ge rfl rfl rfl he fun a he => ?_
          refine mv rfl rfl he fun a he => ?_
          refine sd he (t := 51) rfl (fun h8 he => ?_) (fun h8 he => ?_)
          · replace h8 : 128 ≤ c := by omega
            refine gy rfl he rfl ?_
            refine mv rfl rfl he fun a he => ?_
            refine gy rfl he rfl ?_
            refine le rfl rfl rfl he fun a he => ?_
            refine pkt rfl rfl rfl he fun a he => ?_
            refine asg rfl rfl he fun a he => ?_
            refine en ?_
            refine rt ?_
            refine rets1 Tryd.results56 he rfl (Ret.mk ?_)
            exact ⟨congrArg Value.bool (by rw [fitsN, if_neg k1, if_neg k2, if_neg k3, if_pos k4]; first | (symm; apply decide_eq_true; omega) | (symm; apply decide_eq_false; omega) | (apply decide_eq_decide.2; omega)), hh⟩
          · replace h8 : ¬ (128 ≤ c) := by omega
            refine gn rfl rfl he rfl rfl fun a he => ?_
            refine gn rfl rfl he rfl rfl fun a he => ?_
            refine pkf rfl rfl rfl he fun a he => ?_
            refine asg rfl rfl he fun a he => ?_
            refine en ?_
            refine rt ?_
            refine rets1 Tryd.results56 he rfl (Ret.mk ?_)
            exact ⟨congrArg Value.bool (by rw [fitsN, if_neg k1, if_neg k2, if_neg k3, if_pos k4]; first | (symm; apply decide_eq_true; omega) | (symm; apply decide_eq_false; omega) | (apply decide_eq_decide.2; omega)), hh⟩
        · refine sk ?_
          refine nm_then ?_
          refine sq ?_
          refine rg ?_
          refine mv rfl rfl he fun a he => ?_
          refine ge rfl rfl rfl he fun a he => ?_
          refine mv rfl rfl he fun a he => ?_
          refine sd he (t := 57) rfl (fun h9 he => ?_) (fun h9 he => ?_)
          · replace h9 : 128 ≤ c := by omega
            refine gy rfl he rfl ?_
            refine mv rfl rfl he fun a he => ?_
            refine gy rfl he rfl ?_
            refine le rfl rfl rfl he fun a he => ?_
            refine pkt rfl rfl rfl he fun a he => ?_
            refine asg rfl rfl he fun a he => ?_
            refine en ?_
            refine rt ?_
            refine rets1 Tryd.results56 he rfl (Ret.mk ?_)
            exact ⟨congrArg Value.bool (by rw [fitsN, if_neg k1, if_neg k2, if_neg k3, if_neg k4]; first | (symm; apply decide_eq_true; omega) | (symm; apply decide_eq_false; omega) | (apply decide_eq_decide.2; omega)), hh⟩
          · replace h9 : ¬ (128 ≤ c) := by omega
            refine gn rfl rfl he rfl rfl fun a he => ?_
            refine gn rfl rfl he rfl rfl fun a he => ?_
            refine pkf rfl rfl rfl he fun a he => ?_
            refine asg rfl rfl he fun a he => ?_
            refine en ?_
            refine rt ?_
            refine rets1 Tryd.results56 he rfl (Ret.mk ?_)
            exact ⟨congrArg Value.bool (by rw [fitsN, if_neg k1, if_neg k2, if_neg k3, if_neg k4]; first | (symm; apply decide_eq_true; omega) | (symm; apply decide_eq_false; omega) | (apply decide_eq_decide.2; omega)), hh⟩

theorem ref04_good (I : Snap) (L : List Ch) (W : World) (A_l : Option Addr) (c_l : Nat) (l : List UInt8) (hh : Hp I L W) (h_l : Fz I A_l (l.map b8)) (k_l : l.length ≤ c_l) :
    Calls Tryd.prog 50 #[.slice A_l l.length c_l] W (Ret fun v W => v = .int .i64 ((goodN l : Nat) : Int) ∧ Hp I (L) W) := by
  refine enter Tryd.func50 rfl Tryd.ntmps50 rfl fun a he => ?_
  refine sq ?_
  refine rg ?_
  refine asg rfl rfl he fun a he => ?_
  refine en ?_
  refine sq ?_
  refine sq ?_
  refine rg ?_
  refine mv rfl rfl he fun a he => ?_
  refine ln Tryd.underlying23 rfl rfl he fun a he => ?_
  refine eq rfl rfl rfl he fun a he => ?_
  refine mv rfl rfl he fun a he => ?_
  refine sd he (t := 7) rfl (fun h1 he => ?_) (fun h1 he => ?_)
  · replace h1 : l.length = 0 := by omega
    refine gn rfl rfl he rfl rfl fun a he => ?_
    refine gn rfl rfl he rfl rfl fun a he => ?_
    refine gn rfl rfl he rfl rfl fun a he => ?_
    refine gn rfl rfl he rfl rfl fun a he => ?_
    refine gn rfl rfl he rfl rfl fun a he => ?_
    refine pkt rfl rfl rfl he fun a he => ?_
    refine en ?_
    refine cnt he rfl ?_
    refine sq ?_
    refine rg ?_
    refine asg rfl rfl he fun a he => ?_
    refine en ?_
    refine rt ?_
    refine rets1 Tryd.results50 he rfl (Ret.mk ?_)
    rw [goodN, if_pos (by first | (left; omega) | (right; rw [e0]; omega))]
    exact ⟨rfl, hh⟩
  · replace h1 : ¬ (l.length = 0) := by omega
    refine gy rfl he rfl ?_
    refine mv rfl rfl he fun a he => ?_
    refine gy rfl he rfl ?_
    obtain ⟨c0, hx0⟩ := idx_some (xs := l) (i := 0) (by omega)
    refine ia1 (xs := l) (0) ts_23 rfl rfl (h_l.rd hh) hx0 rfl he fun bb2 oo3 a hc4 he => ?_
    refine gy rfl he rfl ?_
    refine ld rb_5 rfl hc4 rfl he fun a he => ?_
    have e0 : at0 l 0 = c0.toNat := at0_some hx0
    refine gy rfl he rfl ?_
    refine cal cb_51 rfl (ref04_Size _ _ _ c0.toNat hh ) rfl he fun v a W hp he => ?_
    obtain ⟨rfl, hh⟩ := hp
    refine gy rfl he rfl ?_
    refine eq rfl rfl rfl he fun a he => ?_
    refine pkf rfl rfl rfl he fun a he => ?_
    refine en ?_
    refine cnd he rfl (fun h5 => ?_) (fun h5 => ?_)
    · replace h5 : (sizeN c0.toNat) = 0 := by omega
      refine sq ?_
      refine rg ?_
      refine asg rfl rfl he fun a he => ?_
      refine en ?_
      refine rt ?_
      refine rets1 Tryd.results50 he rfl (Ret.mk ?_)
      rw [goodN, if_pos (by first | (left; omega) | (right; rw [e0]; omega))]
      exact ⟨rfl, hh⟩
    · replace h5 : ¬ ((sizeN c0.toNat) = 0) := by omega
      refine sk ?_
      refine nm_then ?_
      refine sq ?_
      refine rg ?_
      refine asg rfl rfl he fun a he => ?_
      refine en ?_
      refine sq ?_
      refine bk ?_
      refine lp (fun (s : Nat × Nat) a w => match s with | (n, f) => Env 40 [(0, .slice A_l l.length c_l), (3, .int .i64 ((n : Nat) : Int))] a ∧ Hp I (L) w ∧ goodN l = goodAt l f n ∧ l.length ≤ f + n ∧ n ≤ 4 ∧ 0 < l.length)
          (fun s => 4 - s.1) (1, l.length) ⟨he.keep [0, 3] rfl, hh, by rw [goodN, if_neg (by rw [e0]; omega)], by omega, by omega, by omega⟩ fun s a W hinv => ?_
      obtain ⟨n, f⟩ := s
      obtain ⟨he, hh, hg, hf, hn, hl⟩ := hinv
      refine sq ?_
      refine sq ?_
      refine rgd (SH I []) 23 mixo rfl hh fun W hh => ?_
      refine ahp (d := 14) (v := .int .i64 ((n : Nat) : Int)) 0 rfl (by kernel_rfl) (by kernel_rfl) (by kernel_rfl) rfl rfl rfl he ⟨_, _, (Snap.le.refl _), hh⟩ (fun W hS => by
          refine mv rfl rfl he fun a he => ?_
          exact aqe he) fun a he => ?_
      refine ahp (d := 15) (v := .slice A_l l.length c_l) 1 rfl (by kernel_rfl) (by kernel_rfl) (by kernel_rfl) rfl rfl rfl he ⟨_, _, (Snap.le.refl _), hh⟩ (fun W hS => by
          refine mv rfl rfl he fun a he => ?_
          exact aqe he) fun a he => ?_
      refine ahp (d := 16) (v := .int .i64 ((l.length : Nat) : Int)) 2 rfl (by kernel_rfl) (by kernel_rfl) (by kernel_rfl) rfl rfl rfl he ⟨_, _, (Snap.le.refl _), hh⟩ (fun W hS => by
          refine ln Tryd.underlying23 rfl rfl he fun a he => ?_
          exact aqe he) fun a he => ?_
      refine ahp (d := 17) (v := .bool (decide (((n : Nat) : Int) < ((l.length : Nat) : Int)))) 3 rfl (by kernel_rfl) (by kernel_rfl) (by kernel_rfl) rfl rfl rfl he ⟨_, _, (Snap.le.refl _), hh⟩ (fun W hS => by
          refine lt rfl rfl rfl he fun a he => ?_
          exact aqe he) fun a he => ?_
      refine ahp (d := 18) (v := .bool (decide (((n : Nat) : Int) < ((l.length : Nat) : Int)))) 4 rfl (by kernel_rfl) (by kernel_rfl) (by kernel_rfl) rfl rfl rfl he ⟨_, _, (Snap.le.refl _), hh⟩ (fun W hS => by
          refine mv rfl rfl he fun a he => ?_
          exact aqe he) fun a he => ?_
      by_cases h6 : ((n : Nat) : Int) < ((l.length : Nat) : Int)
      · replace he := he.be (t := 18) (v' := .bool true) rfl (by rw [decide_eq_true h6])
        replace h6 : n < l.length := by omega
        refine ahp (d := 19) (v := .int .i64 ((n : Nat) : Int)) 5 rfl (by kernel_rfl) (by kernel_rfl) (by kernel_rfl) rfl rfl rfl he ⟨_, _, (Snap.le.refl _), hh⟩ (fun W hS => by
            refine gy rfl he rfl ?_
            refine mv rfl rfl he fun a he => ?_
            exact aqe he) fun a he => ?_
        refine ahp (d := 20) (v := .slice A_l l.length c_l) 6 rfl (by kernel_rfl) (by kernel_rfl) (by kernel_rfl) rfl rfl rfl he ⟨_, _, (Snap.le.refl _), hh⟩ (fun W hS => by
            refine gy rfl he rfl ?_
            refine mv rfl rfl he fun a he => ?_
            exact aqe he) fun a he => ?_
        obtain ⟨c1, hx1⟩ := idx_some (xs := l) (i := 0) (by omega)
        obtain ⟨bb7, oo8, eA9, hc10⟩ := h_l.adr1 hx1
        replace he := he.be (t := 20) (v' := .slice (some ⟨bb7, oo8, none⟩) l.length c_l) rfl (by rw [eA9])
        refine ahp (d := 21) (v := .pointer (some ⟨bb7, oo8 + 0 * 1, none⟩)) 7 rfl (by kernel_rfl) (by kernel_rfl) (by kernel_rfl) rfl rfl rfl he ⟨_, _, (Snap.le.refl _), hh⟩ (fun W hS => by refine gy rfl he rfl ?_; refine ia (0) ts_23 rfl rfl (List.getElem?_eq_some_iff.1 hx1).1 rfl he fun a he => ?_; exact aqe he) fun a he => ?_
        refine ahp (d := 22) (v := .int .u8 ((c1.toNat : Nat) : Int)) 8 rfl (by kernel_rfl) (by kernel_rfl) (by kernel_rfl) rfl rfl rfl he ⟨_, _, (Snap.le.refl _), hh⟩ (fun W hS => by
            obtain ⟨I11, _, hleI11, hh⟩ := hS
            refine gy rfl he rfl ?_
            refine ld rb_5 rfl (hc10 _ _ _ hleI11 hh) rfl he fun a he => ?_
            exact aqe he) fun a he => ?_
        have e1 : at0 l 0 = c1.toNat := at0_some hx1
        refine aha1 (i := 9) (by kernel_rfl) ?_
        refine aop rfl ?_
        refine gy rfl he rfl ?_
        refine cal cb_51 rfl (ref04_Size _ _ _ c1.toNat hh ) rfl he fun v a W hp he => ?_
        obtain ⟨rfl, hh⟩ := hp
        refine aen ⟨_, _, (Snap.le.refl _), hh⟩ ?_
        refine ahp (d := 24) (v := .bool (decide (((n : Nat) : Int) < ((sizeN c1.toNat : Nat) : Int)))) 10 rfl (by kernel_rfl) (by kernel_rfl) (by kernel_rfl) rfl rfl rfl he ⟨_, _, (Snap.le.refl _), hh⟩ (fun W hS => by
            refine gy rfl he rfl ?_
            refine lt rfl rfl rfl he fun a he => ?_
            exact aqe he) fun a he => ?_
        refine ahp (d := 25) (v := .bool (decide (((n : Nat) : Int) < ((sizeN c1.toNat : Nat) : Int)))) 11 rfl (by kernel_rfl) (by kernel_rfl) (by kernel_rfl) rfl rfl rfl he ⟨_, _, (Snap.le.refl _), hh⟩ (fun W hS => by
            refine pkt rfl rfl rfl he fun a he => ?_
            exact aqe he) fun a he => ?_
        refine ahp (d := 26) (v := .bool (decide (((n : Nat) : Int) < ((sizeN c1.toNat : Nat) : Int)))) 12 rfl (by kernel_rfl) (by kernel_rfl) (by kernel_rfl) rfl rfl rfl he ⟨_, _, (Snap.le.refl _), hh⟩ (fun W hS => by
            refine mv rfl rfl he fun a he => ?_
            exact aqe he) fun a he => ?_
        by_cases h12 : ((n : Nat) : Int) < ((sizeN c1.toNat : Nat) : Int)
        · replace he := he.be (t := 26) (v' := .bool true) rfl (by rw [decide_eq_true h12])
          replace h12 : n < (sizeN c1.toNat) := by omega
          refine ahp (d := 27) (v := .slice A_l l.length c_l) 13 rfl (by kernel_rfl) (by kernel_rfl) (by kernel_rfl) rfl rfl rfl he ⟨_, _, (Snap.le.refl _), hh⟩ (fun W hS => by
              refine gy rfl he rfl ?_
              refine mv rfl rfl he fun a he => ?_
              exact aqe he) fun a he => ?_
          obtain ⟨c2, hx2⟩ := idx_some (xs := l) (i := 0) (by omega)
          obtain ⟨bb13, oo14, eA15, hc16⟩ := h_l.adr1 hx2
          replace he := he.be (t := 27) (v' := .slice (some ⟨bb13, oo14, none⟩) l.length c_l) rfl (by rw [eA15])
          refine ahp (d := 28) (v := .pointer (some ⟨bb13, oo14 + 0 * 1, none⟩)) 14 rfl (by kernel_rfl) (by kernel_rfl) (by kernel_rfl) rfl rfl rfl he ⟨_, _, (Snap.le.refl _), hh⟩ (fun W hS => by refine gy rfl he rfl ?_; refine ia (0) ts_23 rfl rfl (List.getElem?_eq_some_iff.1 hx2).1 rfl he fun a he => ?_; exact aqe he) fun a he => ?_
          refine ahp (d := 29) (v := .int .u8 ((c2.toNat : Nat) : Int)) 15 rfl (by kernel_rfl) (by kernel_rfl) (by kernel_rfl) rfl rfl rfl he ⟨_, _, (Snap.le.refl _), hh⟩ (fun W hS => by
              obtain ⟨I17, _, hleI17, hh⟩ := hS
              refine gy rfl he rfl ?_
              refine ld rb_5 rfl (hc16 _ _ _ hleI17 hh) rfl he fun a he => ?_
              exact aqe he) fun a he => ?_
          have e2 : at0 l 0 = c2.toNat := at0_some hx2
          refine ahp (d := 30) (v := .int .i64 ((n : Nat) : Int)) 16 rfl (by kernel_rfl) (by kernel_rfl) (by kernel_rfl) rfl rfl rfl he ⟨_, _, (Snap.le.refl _), hh⟩ (fun W hS => by
              refine gy rfl he rfl ?_
              refine mv rfl rfl he fun a he => ?_
              exact aqe he) fun a he => ?_
          refine ahp (d := 31) (v := .slice A_l l.length c_l) 17 rfl (by kernel_rfl) (by kernel_rfl) (by kernel_rfl) rfl rfl rfl he ⟨_, _, (Snap.le.refl _), hh⟩ (fun W hS => by
              refine gy rfl he rfl ?_
              refine mv rfl rfl he fun a he => ?_
              exact aqe he) fun a he => ?_
          refine ahp (d := 32) (v := .int .i64 ((n : Nat) : Int)) 18 rfl (by kernel_rfl) (by kernel_rfl) (by kernel_rfl) rfl rfl rfl he ⟨_, _, (Snap.le.refl _), hh⟩ (fun W hS => by
              refine gy rfl he rfl ?_
              refine mv rfl rfl he fun a he => ?_
              exact aqe he) fun a he => ?_
          obtain ⟨c3, hx3⟩ := idx_some (xs := l) (i := n) (by omega)
          obtain ⟨bb18, oo19, eA20, hc21⟩ := h_l.adr1 hx3
          replace he := he.be (t := 31) (v' := .slice (some ⟨bb18, oo19, none⟩) l.length c_l) rfl (by rw [eA20])
          refine ahp (d := 33) (v := .pointer (some ⟨bb18, oo19 + n * 1, none⟩)) 19 rfl (by kernel_rfl) (by kernel_rfl) (by kernel_rfl) rfl rfl rfl he ⟨_, _, (Snap.le.refl _), hh⟩ (fun W hS => by refine gy rfl he rfl ?_; refine ia (n) ts_23 rfl rfl (List.getElem?_eq_some_iff.1 hx3).1 rfl he fun a he => ?_; exact aqe he) fun a he => ?_
          refine ahp (d := 34) (v := .int .u8 ((c3.toNat : Nat) : Int)) 20 rfl (by kernel_rfl) (by kernel_rfl) (by kernel_rfl) rfl rfl rfl he ⟨_, _, (Snap.le.refl _), hh⟩ (fun W hS => by
              obtain ⟨I22, _, hleI22, hh⟩ := hS
              refine gy rfl he rfl ?_
              refine ld rb_5 rfl (hc21 _ _ _ hleI22 hh) rfl he fun a he => ?_
              exact aqe he) fun a he => ?_
          have e3 : at0 l n = c3.toNat := at0_some hx3
          refine aha1 (i := 21) (by kernel_rfl) ?_
          refine aop rfl ?_
          refine gy rfl he rfl ?_
          refine cal cb_56 rfl (ref04_fits _ _ _ c2.toNat n c3.toNat hh ) rfl he fun v a W hp he => ?_
          obtain ⟨rfl, hh⟩ := hp
          refine aen ⟨_, _, (Snap.le.refl _), hh⟩ ?_
          refine ahp (d := 36) (v := .bool (fitsN c2.toNat n c3.toNat)) 22 rfl (by kernel_rfl) (by kernel_rfl) (by kernel_rfl) rfl rfl rfl he ⟨_, _, (Snap.le.refl _), hh⟩ (fun W hS => by
              refine pkt rfl rfl rfl he fun a he => ?_
              exact aqe he) fun a he => ?_
          refine ahd (by kernel_rfl) ?_
          refine en ?_
          refine cnb he rfl (fun h36 => ?_) (fun h36 => ?_)
          · refine sk ?_
            refine nm_then ?_
            refine bk ?_
            refine rg ?_
            refine mv rfl rfl he fun a he => ?_
            refine ad (((n + 1) : Nat) : Int) rfl rfl (w64 (by omega) (by omega)) rfl he fun a he => ?_
            refine asg rfl rfl he fun a he => ?_
            refine en_blk ?_
            refine nm_then ?_
            have h4 := sizeN_le c1.toNat
            exact ⟨(n + 1, f - 1), ⟨he.keep [0, 3] rfl, hh, (good_on hg hf (by omega) (by rw [e1]; omega) (by rw [e2, e3]; exact h36)).1, (good_on hg hf (by omega) (by rw [e1]; omega) (by rw [e2, e3]; exact h36)).2, by omega, hl⟩, by show 4 - (n + 1) < 4 - n; omega⟩
          · refine ext ?_
            refine ex_then ?_
            refine ex_then ?_
            refine ex_in ?_
            refine nm_then ?_
            refine sq ?_
            refine rg ?_
            refine mv rfl rfl he fun a he => ?_
            refine asg rfl rfl he fun a he => ?_
            refine en ?_
            refine rt ?_
            refine rets1 Tryd.results50 he rfl (Ret.mk ?_)
            rw [good_end hg (by rintro ⟨q1, q2, q3⟩; first | omega | (rw [e1] at q2; omega) | (rw [e2, e3, h36] at q3; cases q3))]
            exact ⟨rfl, hh⟩
        · replace he := he.be (t := 26) (v' := .bool false) rfl (by rw [decide_eq_false h12])
          replace h12 : ¬ (n < (sizeN c1.toNat)) := by omega
          refine ahn 13 rfl (by kernel_rfl) (by kernel_rfl) (by kernel_rfl) rfl rfl he rfl rfl ⟨_, _, (Snap.le.refl _), hh⟩ fun a he => ?_
          refine ahn 14 rfl (by kernel_rfl) (by kernel_rfl) (by kernel_rfl) rfl rfl he rfl rfl ⟨_, _, (Snap.le.refl _), hh⟩ fun a he => ?_
          refine ahn 15 rfl (by kernel_rfl) (by kernel_rfl) (by kernel_rfl) rfl rfl he rfl rfl ⟨_, _, (Snap.le.refl _), hh⟩ fun a he => ?_
          refine ahn 16 rfl (by kernel_rfl) (by kernel_rfl) (by kernel_rfl) rfl rfl he rfl rfl ⟨_, _, (Snap.le.refl _), hh⟩ fun a he => ?_
          refine ahn 17 rfl (by kernel_rfl) (by kernel_rfl) (by kernel_rfl) rfl rfl he rfl rfl ⟨_, _, (Snap.le.refl _), hh⟩ fun a he => ?_
          refine ahn 18 rfl (by kernel_rfl) (by kernel_rfl) (by kernel_rfl) rfl rfl he rfl rfl ⟨_, _, (Snap.le.refl _), hh⟩ fun a he => ?_
          refine ahn 19 rfl (by kernel_rfl) (by kernel_rfl) (by kernel_rfl) rfl rfl he rfl rfl ⟨_, _, (Snap.le.refl _), hh⟩ fun a he => ?_
          refine ahn 20 rfl (by kernel_rfl) (by kernel_rfl) (by kernel_rfl) rfl rfl he rfl rfl ⟨_, _, (Snap.le.refl _), hh⟩ fun a he => ?_
          refine ahn 21 rfl (by kernel_rfl) (by kernel_rfl) (by kernel_rfl) rfl rfl he rfl rfl ⟨_, _, (Snap.le.refl _), hh⟩ fun a he => ?_
          refine ahp (d := 36) (v := .bool false) 22 rfl (by kernel_rfl) (by kernel_rfl) (by kernel_rfl) rfl rfl rfl he ⟨_, _, (Snap.le.refl _), hh⟩ (fun W hS => by
              refine pkf rfl rfl rfl he fun a he => ?_
              exact aqe he) fun a he => ?_
          refine ahd (by kernel_rfl) ?_
          refine en ?_
          refine cnf he rfl ?_
          refine ext ?_
          refine ex_then ?_
          refine ex_then ?_
          refine ex_in ?_
          refine nm_then ?_
          refine sq ?_
          refine rg ?_
          refine mv rfl rfl he fun a he => ?_
          refine asg rfl rfl he fun a he => ?_
          refine en ?_
          refine rt ?_
          refine rets1 Tryd.results50 he rfl (Ret.mk ?_)
          rw [good_end hg (by rintro ⟨q1, q2, q3⟩; first | omega | (rw [e1] at q2; omega) | (rw [e2, e3, h36] at q3; cases q3))]
          exact ⟨rfl, hh⟩
      · replace he := he.be (t := 18) (v' := .bool false) rfl (by rw [decide_eq_false h6])
        replace h6 : ¬ (n < l.length) := by omega
        refine ahn 5 rfl (by kernel_rfl) (by kernel_rfl) (by kernel_rfl) rfl rfl he rfl rfl ⟨_, _, (Snap.le.refl _), hh⟩ fun a he => ?_
        refine ahn 6 rfl (by kernel_rfl) (by kernel_rfl) (by kernel_rfl) rfl rfl he rfl rfl ⟨_, _, (Snap.le.refl _), hh⟩ fun a he => ?_
        refine ahn 7 rfl (by kernel_rfl) (by kernel_rfl) (by kernel_rfl) rfl rfl he rfl rfl ⟨_, _, (Snap.le.refl _), hh⟩ fun a he => ?_
        refine ahn 8 rfl (by kernel_rfl) (by kernel_rfl) (by kernel_rfl) rfl rfl he rfl rfl ⟨_, _, (Snap.le.refl _), hh⟩ fun a he => ?_
        refine ahn 9 rfl (by kernel_rfl) (by kernel_rfl) (by kernel_rfl) rfl rfl he rfl rfl ⟨_, _, (Snap.le.refl _), hh⟩ fun a he => ?_
        refine ahn 10 rfl (by kernel_rfl) (by kernel_rfl) (by kernel_rfl) rfl rfl he rfl rfl ⟨_, _, (Snap.le.refl _), hh⟩ fun a he => ?_
        refine ahp (d := 25) (v := .bool false) 11 rfl (by kernel_rfl) (by kernel_rfl) (by kernel_rfl) rfl rfl rfl he ⟨_, _, (Snap.le.refl _), hh⟩ (fun W hS => by
            refine pkf rfl rfl rfl he fun a he => ?_
            exact aqe he) fun a he => ?_
        refine ahp (d := 26) (v := .bool false) 12 rfl (by kernel_rfl) (by kernel_rfl) (by kernel_rfl) rfl rfl rfl he ⟨_, _, (Snap.le.refl _), hh⟩ (fun W hS => by
            refine mv rfl rfl he fun a he => ?_
            exact aqe he) fun a he => ?_
        refine ahn 13 rfl (by kernel_rfl) (by kernel_rfl) (by kernel_rfl) rfl rfl he rfl rfl ⟨_, _, (Snap.le.refl _), hh⟩ fun a he => ?_
        refine ahn 14 rfl (by kernel_rfl) (by kernel_rfl) (by kernel_rfl) rfl rfl he rfl rfl ⟨_, _, (Snap.le.refl _), hh⟩ fun a he => ?_
        refine ahn 15 rfl (by kernel_rfl) (by kernel_rfl) (by kernel_rfl) rfl rfl he rfl rfl ⟨_, _, (Snap.le.refl _), hh⟩ fun a he => ?_
        refine ahn 16 rfl (by kernel_rfl) (by kernel_rfl) (by kernel_rfl) rfl rfl he rfl rfl ⟨_, _, (Snap.le.refl _), hh⟩ fun a he => ?_
        refine ahn 17 rfl (by kernel_rfl) (by kernel_rfl) (by kernel_rfl) rfl rfl he rfl rfl ⟨_, _, (Snap.le.refl _), hh⟩ fun a he => ?_
        refine ahn 18 rfl (by kernel_rfl) (by kernel_rfl) (by kernel_rfl) rfl rfl he rfl rfl ⟨_, _, (Snap.le.refl _), hh⟩ fun a he => ?_
        refine ahn 19 rfl (by kernel_rfl) (by kernel_rfl) (by kernel_rfl) rfl rfl he rfl rfl ⟨_, _, (Snap.le.refl _), hh⟩ fun a he => ?_
        refine ahn 20 rfl (by kernel_rfl) (by kernel_rfl) (by kernel_rfl) rfl rfl he rfl rfl ⟨_, _, (Snap.le.refl _), hh⟩ fun a he => ?_
        refine ahn 21 rfl (by kernel_rfl) (by kernel_rfl) (by kernel_rfl) rfl rfl he rfl rfl ⟨_, _, (Snap.le.refl _), hh⟩ fun a he => ?_
        refine ahp (d := 36) (v := .bool false) 22 rfl (by kernel_rfl) (by kernel_rfl) (by kernel_rfl) rfl rfl rfl he ⟨_, _, (Snap.le.refl _), hh⟩ (fun W hS => by
            refine pkf rfl rfl rfl he fun a he => ?_
            exact aqe he) fun a he => ?_
        refine ahd (by kernel_rfl) ?_
        refine en ?_
        refine cnf he rfl ?_
        refine ext ?_
        refine ex_then ?_
        refine ex_then ?_
        refine ex_in ?_
        refine nm_then ?_
        refine sq ?_
        refine rg ?_
        refine mv rfl rfl he fun a he => ?_
        refine asg rfl rfl he fun a he => ?_
        refine en ?_
        refine rt ?_
        refine rets1 Tryd.results50 he rfl (Ret.mk ?_)
        rw [good_end hg (by rintro ⟨q1, q2, q3⟩; first | omega | (rw [e1] at q2; omega) | (rw [e2, e3, h36] at q3; cases q3))]
        exact ⟨rfl, hh⟩

theorem ref04_Pending (I : Snap) (L : List Ch) (W : World) (A_l : Option Addr) (c_l : Nat) (l : List UInt8) (hh : Hp I L W) (h_l : Fz I A_l (l.map b8)) (k_l : l.length ≤ c_l) :
    Calls Tryd.prog 46 #[.slice A_l l.length c_l] W (Ret fun v W => v = .bool (pendR l) ∧ Hp I (L) W) := by
  refine enter Tryd.func46 rfl Tryd.ntmps46 rfl fun a he => ?_
  refine sq ?_
  refine rg ?_
  refine asg rfl rfl he fun a he => ?_
  refine en ?_
  refine sq ?_
  refine rg ?_
  refine mv rfl rfl he fun a he => ?_
  refine ln Tryd.underlying23 rfl rfl he fun a he => ?_
  refine ge rfl rfl rfl he fun a he => ?_
  refine mv rfl rfl he fun a he => ?_
  refine sd he (t := 6) rfl (fun h1 he => ?_) (fun h1 he => ?_)
  · replace h1 : 1 ≤ l.length := by omega
    refine gy rfl he rfl ?_
    refine mv rfl rfl he fun a he => ?_
    refine gy rfl he rfl ?_
    refine ln Tryd.underlying23 rfl rfl he fun a he => ?_
    refine gy rfl he rfl ?_
    refine le rfl rfl rfl he fun a he => ?_
    refine pkt rfl rfl rfl he fun a he => ?_
    refine mv rfl rfl he fun a he => ?_
    refine sd he (t := 11) rfl (fun h2 he => ?_) (fun h2 he => ?_)
    · replace h2 : l.length ≤ 3 := by omega
      refine gy rfl he rfl ?_
      refine mv rfl rfl he fun a he => ?_
      refine gy rfl he rfl ?_
      refine cal cb_50 rfl (ref04_good _ _ _ A_l c_l l hh h_l k_l) rfl he fun v a W hp he => ?_
      obtain ⟨rfl, hh⟩ := hp
      refine gy rfl he rfl ?_
      refine mv rfl rfl he fun a he => ?_
      refine gy rfl he rfl ?_
      refine ln Tryd.underlying23 rfl rfl he fun a he => ?_
      refine gy rfl he rfl ?_
      refine eq rfl rfl rfl he fun a he => ?_
      refine pkt rfl rfl rfl he fun a he => ?_
      refine mv rfl rfl he fun a he => ?_
      refine sd he (t := 18) rfl (fun h3 he => ?_) (fun h3 he => ?_)
      · replace h3 : (goodN l) = l.length := by omega
        refine gy rfl he rfl ?_
        refine mv rfl rfl he fun a he => ?_
        refine gy rfl he rfl ?_
        refine ln Tryd.underlying23 rfl rfl he fun a he => ?_
        refine gy rfl he rfl ?_
        refine mv rfl rfl he fun a he => ?_
        refine gy rfl he rfl ?_
        obtain ⟨c, hx⟩ := idx_some (xs := l) (i := 0) (by omega)
        refine ia1 (xs := l) (0) ts_23 rfl rfl (h_l.rd hh) hx rfl he fun bb4 oo5 a hc6 he => ?_
        refine gy rfl he rfl ?_
        refine ld rb_5 rfl hc6 rfl he fun a he => ?_
        have e0 : at0 l 0 = c.toNat := at0_some hx
        refine gy rfl he rfl ?_
        refine cal cb_51 rfl (ref04_Size _ _ _ c.toNat hh ) rfl he fun v a W hp he => ?_
        obtain ⟨rfl, hh⟩ := hp
        refine gy rfl he rfl ?_
        refine lt rfl rfl rfl he fun a he => ?_
        refine pkt rfl rfl rfl he fun a he => ?_
        refine asg rfl rfl he fun a he => ?_
        refine en ?_
        refine rt ?_
        refine rets1 Tryd.results46 he rfl (Ret.mk ?_)
        exact ⟨congrArg Value.bool (by unfold pendR; rw [e0]; (first | (rw [Bool.eq_iff_iff]; simp; omega) | (simp [*]; done) | (simp; omega))), hh⟩
      · replace h3 : ¬ ((goodN l) = l.length) := by omega
        refine gn rfl rfl he rfl rfl fun a he => ?_
        refine gn rfl rfl he rfl rfl fun a he => ?_
        refine gn rfl rfl he rfl rfl fun a he => ?_
        refine gn rfl rfl he rfl rfl fun a he => ?_
        refine gn rfl rfl he rfl rfl fun a he => ?_
        refine gn rfl rfl he rfl rfl fun a he => ?_
        refine gn rfl rfl he rfl rfl fun a he => ?_
        refine pkf rfl rfl rfl he fun a he => ?_
        refine asg rfl rfl he fun a he => ?_
        refine en ?_
        refine rt ?_
        refine rets1 Tryd.results46 he rfl (Ret.mk ?_)
        exact ⟨congrArg Value.bool (by unfold pendR; (first | (rw [Bool.eq_iff_iff]; simp; omega) | (simp [*]; done) | (simp; omega))), hh⟩
    · replace h2 : ¬ (l.length ≤ 3) := by omega
      refine gn rfl rfl he rfl rfl fun a he => ?_
      refine gn rfl rfl he rfl rfl fun a he => ?_
      refine gn rfl rfl he rfl rfl fun a he => ?_
      refine gn rfl rfl he rfl rfl fun a he => ?_
      refine gn rfl rfl he rfl rfl fun a he => ?_
      refine pkf rfl rfl rfl he fun a he => ?_
      refine mv rfl rfl he fun a he => ?_
      refine gn rfl rfl he rfl rfl fun a he => ?_
      refine gn rfl rfl he rfl rfl fun a he => ?_
      refine gn rfl rfl he rfl rfl fun a he => ?_
      refine gn rfl rfl he rfl rfl fun a he => ?_
      refine gn rfl rfl he rfl rfl fun a he => ?_
      refine gn rfl rfl he rfl rfl fun a he => ?_
      refine gn rfl rfl he rfl rfl fun a he => ?_
      refine pkf rfl rfl rfl he fun a he => ?_
      refine asg rfl rfl he fun a he => ?_
      refine en ?_
      refine rt ?_
      refine rets1 Tryd.results46 he rfl (Ret.mk ?_)
      exact ⟨congrArg Value.bool (by unfold pendR; (first | (rw [Bool.eq_iff_iff]; simp; omega) | (simp [*]; done) | (simp; omega))), hh⟩
  · replace h1 : ¬ (1 ≤ l.length) := by omega
    refine gn rfl rfl he rfl rfl fun a he => ?_
    refine gn rfl rfl he rfl rfl fun a he => ?_
    refine gn rfl rfl he rfl rfl fun a he => ?_
    refine pkf rfl rfl rfl he fun a he => ?_
    refine mv rfl rfl he fun a he => ?_
    refine gn rfl rfl he rfl rfl fun a he => ?_
    refine gn rfl rfl he rfl rfl fun a he => ?_
    refine gn rfl rfl he rfl rfl fun a he => ?_
    refine gn rfl rfl he rfl rfl fun a he => ?_
    refine gn rfl rfl he rfl rfl fun a he => ?_
    refine pkf rfl rfl rfl he fun a he => ?_
    refine mv rfl rfl he fun a he => ?_
    refine gn rfl rfl he rfl rfl fun a he => ?_
    refine gn rfl rfl he rfl rfl fun a he => ?_
    refine gn rfl rfl he rfl rfl fun a he => ?_
    refine gn rfl rfl he rfl rfl fun a he => ?_
    refine gn rfl rfl he rfl rfl fun a he => ?_
    refine gn rfl rfl he rfl rfl fun a he => ?_
    refine gn rfl rfl he rfl rfl fun a he => ?_
    refine pkf rfl rfl rfl he fun a he => ?_
    refine asg rfl rfl he fun a he => ?_
    refine en ?_
    refine rt ?_
    refine rets1 Tryd.results46 he rfl (Ret.mk ?_)
    exact ⟨congrArg Value.bool (by unfold pendR; (first | (rw [Bool.eq_iff_iff]; simp; omega) | (simp [*]; done) | (simp; omega))), hh⟩

end Go.Proofs.YtndaogkpgoimlaaDoor

/- Walks through the given program's functions, printed op by op by this session's own program; what each computes is told by the plain functions of the texts S... -/
import Derived.Test.YtndaogkpgoimlaaDoorB5
import Derived.KernelRfl
namespace Go.Proofs.YtndaogkpgoimlaaDoor
open Go Go.RowKit K
set_option linter.unusedVariables false
theorem cb_26 : callable Tryd.prog 26 = true := by kernel_rfl
theorem cb_31 : callable Tryd.prog 31 = true := by kernel_rfl
theorem cb_43 : callable Tryd.prog 43 = true := by kernel_rfl
theorem cb_47 : callable Tryd.prog 47 = true := by kernel_rfl
theorem runes_Equal (I : Snap) (L : List Ch) (W : World) (A_xs : Option Addr) (c_xs : Nat) (xs : List Int) (A_ys : Option Addr) (c_ys : Nat) (ys : List Int) (hh : Hp I L W) (h_xs : Fz I A_xs (xs.map r32)) (k_xs : xs.length ≤ c_xs) (h_ys : Fz I A_ys (ys.map r32)) (k_ys : ys.length ≤ c_ys) (hb : xs.length ≤ 1000000000000) :
    Calls Tryd.prog 43 #[.slice A_xs xs.length c_xs, .slice A_ys ys.length c_ys] W (Ret fun v W => v = .bool (decide (xs = ys)) ∧ Hp I (L) W) := by
  refine enter Tryd.func43 rfl Tryd.ntmps43 rfl fun a he => ?_
  refine sq ?_
  refine rg ?_
  refine asg rfl rfl he fun a he => ?_
  refine en ?_
  refine sq ?_
  refine sq ?_
  refine rg ?_
  refine mv rfl rfl he fun a he => ?_
  refine ln Tryd.underlying24 rfl rfl he fun a he => ?_
  refine mv rfl rfl he fun a he => ?_
  refine ln Tryd.underlying24 rfl rfl he fun a he => ?_
  refine ne rfl rfl rfl he fun a he => ?_
  refine en ?_
  refine cnd he rfl (fun h10 => ?_) (fun h10 => ?_)
  · replace h10 : xs.length ≠ ys.length := by omega
    replace h10 : xs.length ≠ ys.length := by omega
    refine sq ?_
    refine rg ?_
    refine asg rfl rfl he fun a he => ?_
    refine en ?_
    refine rt ?_
    refine rets1 Tryd.results43 he rfl (Ret.mk ?_)
    exact ⟨by rw [decide_eq_false (fun e => h10 (by rw [e]))], hh⟩
  · replace h10 : ¬ (xs.length ≠ ys.length) := by omega
    replace h10 : xs.length = ys.length := by omega
    refine sk ?_
    refine nm_then ?_
    refine sq ?_
    refine sq ?_
    refine rg ?_
    refine mv rfl rfl he fun a he => ?_
    refine ln Tryd.underlying24 rfl rfl he fun a he => ?_
    refine mv rfl rfl he fun a he => ?_
    refine en ?_
    refine bk ?_
    refine lp (fun (i : Nat) a w => Env 26 [(0, .slice A_xs xs.length c_xs), (1, .slice A_ys ys.length c_ys), (12, .int .i64 ((xs.length : Nat) : Int)), (13, .int .i64 ((i : Nat) : Int))] a ∧ Hp I (L) w ∧ i ≤ xs.length ∧ ((∀ j, j < i → xs[j]? = ys[j]?)))
        (fun i => xs.length - i) 0 ⟨he.keep [0, 1, 12, 13] rfl, hh, Nat.zero_le _, fun j hj => absurd hj (Nat.not_lt_zero _)⟩ fun i a W hinv => ?_
    obtain ⟨he, hh, hi, hs⟩ := hinv
    refine sq ?_
    refine rg ?_
    refine lt rfl rfl rfl he fun a he => ?_
    refine en ?_
    refine sq ?_
    refine cnd he rfl (fun h14 => ?_) (fun h14 => ?_)
    · replace h14 : i < xs.length := by omega
      refine sk ?_
      refine nm_then ?_
      refine sq ?_
      refine bk ?_
      refine sq ?_
      refine rg ?_
      refine mv rfl rfl he fun a he => ?_
      refine asg rfl rfl he fun a he => ?_
      refine en ?_
      refine sq ?_
      refine rgd (SH I []) 9 mixo rfl hh fun W hh => ?_
      refine ahp (d := 16) (v := .slice A_xs xs.length c_xs) 0 rfl (by kernel_rfl) (by kernel_rfl) (by kernel_rfl) rfl rfl rfl he ⟨_, _, (Snap.le.refl _), hh⟩ (fun W hS => by
          refine mv rfl rfl he fun a he => ?_
          exact aqe he) fun a he => ?_
      refine ahp (d := 17) (v := .int .i64 ((i : Nat) : Int)) 1 rfl (by kernel_rfl) (by kernel_rfl) (by kernel_rfl) rfl rfl rfl he ⟨_, _, (Snap.le.refl _), hh⟩ (fun W hS => by
          refine mv rfl rfl he fun a he => ?_
          exact aqe he) fun a he => ?_
      obtain ⟨x, hx⟩ := idx_some (xs := xs) (i := i) (by omega)
      obtain ⟨bb1, oo2, eA3, hc4⟩ := h_xs.adr1 hx
      replace he := he.be (t := 16) (v' := .slice (some ⟨bb1, oo2, none⟩) xs.length c_xs) rfl (by rw [eA3])
      refine ahp (d := 18) (v := .pointer (some ⟨bb1, oo2 + i * 1, none⟩)) 2 rfl (by kernel_rfl) (by kernel_rfl) (by kernel_rfl) rfl rfl rfl he ⟨_, _, (Snap.le.refl _), hh⟩ (fun W hS => by refine ia (i) ts_24 rfl rfl (List.getElem?_eq_some_iff.1 hx).1 rfl he fun a he => ?_; exact aqe he) fun a he => ?_
      refine ahp (d := 19) (v := .int .i32 x) 3 rfl (by kernel_rfl) (by kernel_rfl) (by kernel_rfl) rfl rfl rfl he ⟨_, _, (Snap.le.refl _), hh⟩ (fun W hS => by
          obtain ⟨I5, _, hleI5, hh⟩ := hS
          refine ld rb_21 rfl (hc4 _ _ _ hleI5 hh) rfl he fun a he => ?_
          exact aqe he) fun a he => ?_
      refine ahp (d := 20) (v := .slice A_ys ys.length c_ys) 4 rfl (by kernel_rfl) (by kernel_rfl) (by kernel_rfl) rfl rfl rfl he ⟨_, _, (Snap.le.refl _), hh⟩ (fun W hS => by
          refine mv rfl rfl he fun a he => ?_
          exact aqe he) fun a he => ?_
      refine ahp (d := 21) (v := .int .i64 ((i : Nat) : Int)) 5 rfl (by kernel_rfl) (by kernel_rfl) (by kernel_rfl) rfl rfl rfl he ⟨_, _, (Snap.le.refl _), hh⟩ (fun W hS => by
          refine mv rfl rfl he fun a he => ?_
          exact aqe he) fun a he => ?_
      obtain ⟨y, hy⟩ := idx_some (xs := ys) (i := i) (by omega)
      obtain ⟨bb6, oo7, eA8, hc9⟩ := h_ys.adr1 hy
      replace he := he.be (t := 20) (v' := .slice (some ⟨bb6, oo7, none⟩) ys.length c_ys) rfl (by rw [eA8])
      refine ahp (d := 22) (v := .pointer (some ⟨bb6, oo7 + i * 1, none⟩)) 6 rfl (by kernel_rfl) (by kernel_rfl) (by kernel_rfl) rfl rfl rfl he ⟨_, _, (Snap.le.refl _), hh⟩ (fun W hS => by refine ia (i) ts_24 rfl rfl (List.getElem?_eq_some_iff.1 hy).1 rfl he fun a he => ?_; exact aqe he) fun a he => ?_
      refine ahp (d := 23) (v := .int .i32 y) 7 rfl (by kernel_rfl) (by kernel_rfl) (by kernel_rfl) rfl rfl rfl he ⟨_, _, (Snap.le.refl _), hh⟩ (fun W hS => by
          obtain ⟨I10, _, hleI10, hh⟩ := hS
          refine ld rb_21 rfl (hc9 _ _ _ hleI10 hh) rfl he fun a he => ?_
          exact aqe he) fun a he => ?_
      refine ahp (d := 24) (v := .bool (decide (x ≠ y))) 8 rfl (by kernel_rfl) (by kernel_rfl) (by kernel_rfl) rfl rfl rfl he ⟨_, _, (Snap.le.refl _), hh⟩ (fun W hS => by
          refine ne rfl rfl rfl he fun a he => ?_
          exact aqe he) fun a he => ?_
      refine ahd (by kernel_rfl) ?_
      refine en ?_
      refine cnd he rfl (fun h25 => ?_) (fun h25 => ?_)
      · refine sq ?_
        refine rg ?_
        refine asg rfl rfl he fun a he => ?_
        refine en ?_
        refine rt ?_
        refine rets1 Tryd.results43 he rfl (Ret.mk ?_)
        exact ⟨by rw [decide_eq_false (same_not hx hy h25)], hh⟩
      · refine sk ?_
        refine nm_blk ?_
        refine nm_then ?_
        refine rg ?_
        refine ad (((i + 1) : Nat) : Int) rfl rfl (w64 (by omega) (by omega)) rfl he fun a he => ?_
        refine mv rfl rfl he fun a he => ?_
        refine en ?_
        exact ⟨i + 1, ⟨he.keep [0, 1, 12, 13] rfl, hh, by omega, same_next hs hx hy (by omega)⟩, by show xs.length - (i + 1) < xs.length - i; omega⟩
    · replace h14 : ¬ (i < xs.length) := by omega
      refine ext ?_
      refine ex_then ?_
      refine ex_then ?_
      refine ex_in ?_
      refine nm_then ?_
      refine sq ?_
      refine rg ?_
      refine asg rfl rfl he fun a he => ?_
      refine en ?_
      refine rt ?_
      refine rets1 Tryd.results43 he rfl (Ret.mk ?_)
      exact ⟨by rw [decide_eq_true (same_all h10 hs (by omega))], hh⟩

theorem cmp_isNaN (I : Snap) (L : List Ch) (W : World) (x : Int) (hh : Hp I L W)  :
    Calls Tryd.prog 47 #[.int .i64 x] W (Ret fun v W => v = .bool false ∧ Hp I (L) W) := by
  refine enter Tryd.func47 rfl Tryd.ntmps47 rfl fun a he => ?_
  refine sq ?_
  refine rg ?_
  refine asg rfl rfl he fun a he => ?_
  refine en ?_
  refine sq ?_
  refine rg ?_
  refine mv rfl rfl he fun a he => ?_
  refine mv rfl rfl he fun a he => ?_
  refine ne rfl rfl rfl he fun a he => ?_
  refine asg rfl rfl he fun a he => ?_
  refine en ?_
  refine rt ?_
  refine rets1 Tryd.results47 he rfl (Ret.mk ?_)
  exact ⟨by simp, hh⟩

theorem cmp_Compare (I : Snap) (L : List Ch) (W : World) (x : Int) (y : Int) (hh : Hp I L W)  :
    Calls Tryd.prog 39 #[.int .i64 x, .int .i64 y] W (Ret fun v W => v = .int .i64 (cmpN x y) ∧ Hp I (L) W) := by
  refine enter Tryd.func39 rfl Tryd.ntmps39 rfl fun a he => ?_
  refine sq ?_
  refine rg ?_
  refine asg rfl rfl he fun a he => ?_
  refine en ?_
  refine sq ?_
  refine rg ?_
  refine mv rfl rfl he fun a he => ?_
  refine cal cb_47 rfl (cmp_isNaN _ _ _ x hh ) rfl he fun v a W hp he => ?_
  obtain ⟨rfl, hh⟩ := hp
  refine asg rfl rfl he fun a he => ?_
  refine en ?_
  refine sq ?_
  refine rg ?_
  refine mv rfl rfl he fun a he => ?_
  refine cal cb_47 rfl (cmp_isNaN _ _ _ y hh ) rfl he fun v a W hp he => ?_
  obtain ⟨rfl, hh⟩ := hp
  refine asg rfl rfl he fun a he => ?_
  refine en ?_
  refine sq ?_
  refine sq ?_
  refine rg ?_
  refine mv rfl rfl he fun a he => ?_
  refine en ?_
  refine cnf he rfl ?_
  refine sk ?_
  refine nm_then ?_
  refine sq ?_
  refine sq ?_
  refine rg ?_
  refine mv rfl rfl he fun a he => ?_
  refine en ?_
  refine cnf he rfl ?_
  refine sk ?_
  refine nm_then ?_
  refine sq ?_
  refine sq ?_
  refine rg ?_
  refine mv rfl rfl he fun a he => ?_
  refine mv rfl rfl he fun a he => ?_
  refine lt rfl rfl rfl he fun a he => ?_
  refine en ?_
  refine cnd he rfl (fun h16 => ?_) (fun h16 => ?_)
  · refine sq ?_
    refine rg ?_
    refine asg rfl rfl he fun a he => ?_
    refine en ?_
    refine rt ?_
    refine rets1 Tryd.results39 he rfl (Ret.mk ?_)
    rw [cmpN, if_pos h16]
    exact ⟨rfl, hh⟩
  · refine sk ?_
    refine nm_then ?_
    refine sq ?_
    refine sq ?_
    refine rg ?_
    refine mv rfl rfl he fun a he => ?_
    refine mv rfl rfl he fun a he => ?_
    refine gt rfl rfl rfl he fun a he => ?_
    refine en ?_
    refine cnd he rfl (fun h19 => ?_) (fun h19 => ?_)
    · refine sq ?_
      refine rg ?_
      refine asg rfl rfl he fun a he => ?_
      refine en ?_
      refine rt ?_
      refine rets1 Tryd.results39 he rfl (Ret.mk ?_)
      rw [cmpN, if_neg h16, if_pos h19]
      exact ⟨rfl, hh⟩
    · refine sk ?_
      refine nm_then ?_
      refine sq ?_
      refine rg ?_
      refine asg rfl rfl he fun a he => ?_
      refine en ?_
      refine rt ?_
      refine rets1 Tryd.results39 he rfl (Ret.mk ?_)
      rw [cmpN, if_neg h16, if_neg h19]
      exact ⟨rfl, hh⟩

theorem prog_sound (I : Snap) (L : List Ch) (W : World) (A_pd : Option Addr) (c_pd : Nat) (pd : List UInt8) (A_wd : Option Addr) (c_wd : Nat) (wd : List Int) (mk : Bool) (lg : Bool) (hh : Hp I L W) (h_pd : Fz I A_pd (pd.map b8)) (k_pd : pd.length ≤ c_pd) (h_wd : Fz I A_wd (wd.map r32)) (k_wd : wd.length ≤ c_wd) (hb : pd.length ≤ 100000000000) (hb2 : wd.length ≤ 10000000000) (hc : ∀ c ∈ wd, c < 4294967296) :
    Calls Tryd.prog 31 #[.agg #[.slice A_pd pd.length c_pd, .slice A_wd wd.length c_wd, .bool mk, .bool lg]] W (Ret fun v W => ∃ (I' : Snap), v = .bool (soundN pd wd mk lg) ∧ I.le I' ∧ Hp I' (L) W) := by
  refine enter Tryd.func31 rfl Tryd.ntmps31 rfl fun a he => ?_
  refine sq ?_
  refine rg ?_
  refine bx #[.slice A_pd pd.length c_pd, .slice A_wd wd.length c_wd, .bool mk, .bool lg] rfl rfl rfl he hh fun bb1 a W he hh => ?_
  replace hh : Hp I (.obj bb1 (.cells [.slice A_pd pd.length c_pd, .slice A_wd wd.length c_wd, .bool mk, .bool lg].toArray 34) :: _) W := hh
  refine asg rfl rfl he fun a he => ?_
  refine en ?_
  refine sq ?_
  refine rg ?_
  refine ldA [.slice A_pd pd.length c_pd, .slice A_wd wd.length c_wd, .bool mk, .bool lg] rb_34 ti_34 rfl ((Rd.obj hh.at0 0).take 4) rfl rfl he fun a he => ?_
  refine cal cb_30 rfl (token_Put _ _ _ A_pd c_pd pd A_wd c_wd wd mk lg hh h_pd k_pd h_wd k_wd hb hb2 hc) rfl he fun v a W hp he => ?_
  obtain ⟨I2, A4, cc5, rfl, hl3, hh⟩ := hp
  have hc10 := (Ch.rowcap hh.at0).1
  obtain ⟨I7, hl8, hh, hf9⟩ := hh.freezeRow
  refine cal cb_26 rfl (token_Get _ _ _ A4 cc5 (tokPut pd wd mk lg) hh hf9 hc10) rfl he fun v a W hp he => ?_
  obtain ⟨I11, A13, cc14, A15, cc16, rfl, hl12, hf17, hc18, hf19, hc20, hh⟩ := hp
  refine mv rfl rfl he fun a he => ?_
  refine xt rfl rfl rfl he fun a he => ?_
  refine xt rfl rfl rfl he fun a he => ?_
  refine al ti_34 rfl he hh fun bb21 a W he hh => ?_
  replace hh : Hp I11 (.obj bb21 (.cells [.slice none 0 0, .slice none 0 0, .bool false, .bool false].toArray 34) :: _) W := hh
  refine st #[.slice A13 (((tokGet (tokPut pd wd mk lg)).pd).length) cc14, .slice A15 (((tokGet (tokPut pd wd mk lg)).wd).length) cc16, .bool ((tokGet (tokPut pd wd mk lg)).mrk), .bool ((tokGet (tokPut pd wd mk lg)).lg)] ti_34 rfl rfl rfl rfl (by simp [Value.oneCell']) (by simp) he hh fun W hh => ?_
  replace hh : Hp I11 (.obj bb21 (.cells [.slice A13 (((tokGet (tokPut pd wd mk lg)).pd).length) cc14, .slice A15 (((tokGet (tokPut pd wd mk lg)).wd).length) cc16, .bool ((tokGet (tokPut pd wd mk lg)).mrk), .bool ((tokGet (tokPut pd wd mk lg)).lg)].toArray 34) :: _) W := hh
  refine asg rfl rfl he fun a he => ?_
  refine en ?_
  refine sq ?_
  refine rg ?_
  refine mv rfl rfl he fun a he => ?_
  refine eq rfl rfl rfl he fun a he => ?_
  refine mv rfl rfl he fun a he => ?_
  refine sd he (t := 13) rfl (fun h22 he => ?_) (fun h22 he => ?_)
  · refine gy rfl he rfl ?_
    refine fa fo_34_0 rfl rfl he fun a he => ?_
    refine gy rfl he rfl ?_
    refine ld rb_23 rfl (ocell hh.at0 rfl) rfl he fun a he => ?_
    refine gy rfl he rfl ?_
    refine fa fo_34_0 rfl rfl he fun a he => ?_
    refine gy rfl he rfl ?_
    refine ld rb_23 rfl (ocell hh.at1 rfl) rfl he fun a he => ?_
    refine gy rfl he rfl ?_
    refine cal cb_27 rfl (bytes_Equal _ _ _ A13 cc14 ((tokGet (tokPut pd wd mk lg)).pd) A_pd c_pd pd hh hf17 hc18 (h_pd.up ((hl3.trans hl8).trans hl12)) k_pd) rfl he fun v a W hp he => ?_
    obtain ⟨rfl, hh⟩ := hp
    refine pkt rfl rfl rfl he fun a he => ?_
    refine mv rfl rfl he fun a he => ?_
    refine sb he (t := 20) rfl (fun h23 he => ?_) (fun h23 he => ?_)
    · refine gy rfl he rfl ?_
      refine fa fo_34_1 rfl rfl he fun a he => ?_
      refine gy rfl he rfl ?_
      refine fa fo_32_0 rfl rfl he fun a he => ?_
      refine gy rfl he rfl ?_
      refine ld rb_24 rfl (ocell hh.at0 rfl) rfl he fun a he => ?_
      refine gy rfl he rfl ?_
      refine fa fo_34_1 rfl rfl he fun a he => ?_
      refine gy rfl he rfl ?_
      refine fa fo_32_0 rfl rfl he fun a he => ?_
      refine gy rfl he rfl ?_
      refine ld rb_24 rfl (ocell hh.at1 rfl) rfl he fun a he => ?_
      refine gy rfl he rfl ?_
      refine cal cb_43 rfl (runes_Equal _ _ _ A15 cc16 ((tokGet (tokPut pd wd mk lg)).wd) A_wd c_wd wd hh hf19 hc20 (h_wd.up ((hl3.trans hl8).trans hl12)) k_wd (by have := tokGet_wd (tokPut pd wd mk lg); omega)) rfl he fun v a W hp he => ?_
      obtain ⟨rfl, hh⟩ := hp
      refine pkt rfl rfl rfl he fun a he => ?_
      refine mv rfl rfl he fun a he => ?_
      refine sb he (t := 29) rfl (fun h24 he => ?_) (fun h24 he => ?_)
      · refine gy rfl he rfl ?_
        refine fa fo_34_1 rfl rfl he fun a he => ?_
        refine gy rfl he rfl ?_
        refine fa fo_32_1 rfl rfl he fun a he => ?_
        refine gy rfl he rfl ?_
        refine ld rb_4 rfl (ocell hh.at0 rfl) rfl he fun a he => ?_
        refine gy rfl he rfl ?_
        refine fa fo_34_1 rfl rfl he fun a he => ?_
        refine gy rfl he rfl ?_
        refine fa fo_32_1 rfl rfl he fun a he => ?_
        refine gy rfl he rfl ?_
        refine ld rb_4 rfl (ocell hh.at1 rfl) rfl he fun a he => ?_
        refine gy rfl he rfl ?_
        refine beq' Tryd.underlying4 rfl rfl rfl he fun a he => ?_
        refine pkt rfl rfl rfl he fun a he => ?_
        refine mv rfl rfl he fun a he => ?_
        refine sb he (t := 38) rfl (fun h25 he => ?_) (fun h25 he => ?_)
        · refine gy rfl he rfl ?_
          refine fa fo_34_1 rfl rfl he fun a he => ?_
          refine gy rfl he rfl ?_
          refine fa fo_32_2 rfl rfl he fun a he => ?_
          refine gy rfl he rfl ?_
          refine ld rb_4 rfl (ocell hh.at0 rfl) rfl he fun a he => ?_
          refine gy rfl he rfl ?_
          refine fa fo_34_1 rfl rfl he fun a he => ?_
          refine gy rfl he rfl ?_
          refine fa fo_32_2 rfl rfl he fun a he => ?_
          refine gy rfl he rfl ?_
          refine ld rb_4 rfl (ocell hh.at1 rfl) rfl he fun a he => ?_
          refine gy rfl he rfl ?_
          refine beq' Tryd.underlying4 rfl rfl rfl he fun a he => ?_
          refine pkt rfl rfl rfl he fun a he => ?_
          refine asg rfl rfl he fun a he => ?_
          refine en ?_
          refine rt ?_
          refine rets1 Tryd.results31 he rfl (Ret.mk ?_)
          replace hh := hh.drop
          replace hh := hh.drop
          exact ⟨I11, by simp only [soundN]; simp [*], ((hl3.trans hl8).trans hl12), hh⟩
        · refine gn rfl rfl he rfl rfl fun a he => ?_
          refine gn rfl rfl he rfl rfl fun a he => ?_
          refine gn rfl rfl he rfl rfl fun a he => ?_
          refine gn rfl rfl he rfl rfl fun a he => ?_
          refine gn rfl rfl he rfl rfl fun a he => ?_
          refine gn rfl rfl he rfl rfl fun a he => ?_
          refine gn rfl rfl he rfl rfl fun a he => ?_
          refine pkf rfl rfl rfl he fun a he => ?_
          refine asg rfl rfl he fun a he => ?_
          refine en ?_
          refine rt ?_
          refine rets1 Tryd.results31 he rfl (Ret.mk ?_)
          replace hh := hh.drop
          replace hh := hh.drop
          exact ⟨I11, by simp only [soundN]; simp [*], ((hl3.trans hl8).trans hl12), hh⟩
      · refine gn rfl rfl he rfl rfl fun a he => ?_
        refine gn rfl rfl he rfl rfl fun a he => ?_
        refine gn rfl rfl he rfl rfl fun a he => ?_
        refine gn rfl rfl he rfl rfl fun a he => ?_
        refine gn rfl rfl he rfl rfl fun a he => ?_
        refine gn rfl rfl he rfl rfl fun a he => ?_
        refine gn rfl rfl he rfl rfl fun a he => ?_
        refine pkf rfl rfl rfl he fun a he => ?_
        refine mv rfl rfl he fun a he => ?_
        refine gn rfl rfl he rfl rfl fun a he => ?_
        refine gn rfl rfl he rfl rfl fun a he => ?_
        refine gn rfl rfl he rfl rfl fun a he => ?_
        refine gn rfl rfl he rfl rfl fun a he => ?_
        refine gn rfl rfl he rfl rfl fun a he => ?_
        refine gn rfl rfl he rfl rfl fun a he => ?_
        refine gn rfl rfl he rfl rfl fun a he => ?_
        refine pkf rfl rfl rfl he fun a he => ?_
        refine asg rfl rfl he fun a he => ?_
        refine en ?_
        refine rt ?_
        refine rets1 Tryd.results31 he rfl (Ret.mk ?_)
        replace hh := hh.drop
        replace hh := hh.drop
        exact ⟨I11, by simp only [soundN]; simp [*], ((hl3.trans hl8).trans hl12), hh⟩
    · refine gn rfl rfl he rfl rfl fun a he => ?_
      refine gn rfl rfl he rfl rfl fun a he => ?_
      refine gn rfl rfl he rfl rfl fun a he => ?_
      refine gn rfl rfl he rfl rfl fun a he => ?_
      refine gn rfl rfl he rfl rfl fun a he => ?_
      refine gn rfl rfl he rfl rfl fun a he => ?_
      refine gn rfl rfl he rfl rfl fun a he => ?_
      refine pkf rfl rfl rfl he fun a he => ?_
      refine mv rfl rfl he fun a he => ?_
      refine gn rfl rfl he rfl rfl fun a he => ?_
      refine gn rfl rfl he rfl rfl fun a he => ?_
      refine gn rfl rfl he rfl rfl fun a he => ?_
      refine gn rfl rfl he rfl rfl fun a he => ?_
      refine gn rfl rfl he rfl rfl fun a he => ?_
      refine gn rfl rfl he rfl rfl fun a he => ?_
      refine gn rfl rfl he rfl rfl fun a he => ?_
      refine pkf rfl rfl rfl he fun a he => ?_
      refine mv rfl rfl he fun a he => ?_
      refine gn rfl rfl he rfl rfl fun a he => ?_
      refine gn rfl rfl he rfl rfl fun a he => ?_
      refine gn rfl rfl he rfl rfl fun a he => ?_
      refine gn rfl rfl he rfl rfl fun a he => ?_
      refine gn rfl rfl he rfl rfl fun a he => ?_
      refine gn rfl rfl he rfl rfl fun a he => ?_
      refine gn rfl rfl he rfl rfl fun a he => ?_
      refine pkf rfl rfl rfl he fun a he => ?_
      refine asg rfl rfl he fun a he => ?_
      refine en ?_
      refine rt ?_
      refine rets1 Tryd.results31 he rfl (Ret.mk ?_)
      replace hh := hh.drop
      replace hh := hh.drop
      exact ⟨I11, by simp only [soundN]; simp [*], ((hl3.trans hl8).trans hl12), hh⟩
  · refine gn rfl rfl he rfl rfl fun a he => ?_
    refine gn rfl rfl he rfl rfl fun a he => ?_
    refine gn rfl rfl he rfl rfl fun a he => ?_
    refine gn rfl rfl he rfl rfl fun a he => ?_
    refine gn rfl rfl he rfl rfl fun a he => ?_
    refine pkf rfl rfl rfl he fun a he => ?_
    refine mv rfl rfl he fun a he => ?_
    refine gn rfl rfl he rfl rfl fun a he => ?_
    refine gn rfl rfl he rfl rfl fun a he => ?_
    refine gn rfl rfl he rfl rfl fun a he => ?_
    refine gn rfl rfl he rfl rfl fun a he => ?_
    refine gn rfl rfl he rfl rfl fun a he => ?_
    refine gn rfl rfl he rfl rfl fun a he => ?_
    refine gn rfl rfl he rfl rfl fun a he => ?_
    refine pkf rfl rfl rfl he fun a he => ?_
    refine mv rfl rfl he fun a he => ?_
    refine gn rfl rfl he rfl rfl fun a he => ?_
    refine gn rfl rfl he rfl rfl fun a he => ?_
    refine gn rfl rfl he rfl rfl fun a he => ?_
    refine gn rfl rfl he rfl rfl fun a he => ?_
    refine gn rfl rfl he rfl rfl fun a he => ?_
    refine gn rfl rfl he rfl rfl fun a he => ?_
    refine gn rfl rfl he rfl rfl fun a he => ?_
    refine pkf rfl rfl rfl he fun a he => ?_
    refine mv rfl rfl he fun a he => ?_
    refine gn rfl rfl he rfl rfl fun a he => ?_
    refine gn rfl rfl he rfl rfl fun a he => ?_
    refine gn rfl rfl he rfl rfl fun a he => ?_
    refine gn rfl rfl he rfl rfl fun a he => ?_
    refine gn rfl rfl he rfl rfl fun a he => ?_
    refine gn rfl rfl he rfl rfl fun a he => ?_
    refine gn rfl rfl he rfl rfl fun a he => ?_
    refine pkf rfl rfl rfl he fun a he => ?_
    refine asg rfl rfl he fun a he => ?_
    refine en ?_
    refine rt ?_
    refine rets1 Tryd.results31 he rfl (Ret.mk ?_)
    replace hh := hh.drop
    replace hh := hh.drop
    exact ⟨I11, by simp only [soundN]; simp [*], ((hl3.trans hl8).trans hl12), hh⟩

theorem prog_May (I : Snap) (L : List Ch) (W : World) (ph : Int) (fl : Int) (of_ : Int) (nx : Int) (A_rs : Option Addr) (c_rs : Nat) (rs : List Int) (A_pd : Option Addr) (c_pd : Nat) (pd : List UInt8) (A_wd : Option Addr) (c_wd : Nat) (wd : List Int) (mk : Bool) (lg : Bool) (hh : Hp I L W) (h_rs : Fz I A_rs (rs.map i64v)) (k_rs : rs.length ≤ c_rs) (h_pd : Fz I A_pd (pd.map b8)) (k_pd : pd.length ≤ c_pd) (h_wd : Fz I A_wd (wd.map r32)) (k_wd : wd.length ≤ c_wd) (hrl : rs.length ≤ 1000000000) (hb : pd.length ≤ 100000000000) (hb2 : wd.length ≤ 10000000000) (hc : ∀ c ∈ wd, c < 4294967296) :
    Calls Tryd.prog 13 #[.agg #[.int .i64 ph, .int .i64 fl, .int .i64 of_, .int .i64 nx, .slice A_rs rs.length c_rs, .slice A_pd pd.length c_pd, .slice A_wd wd.length c_wd, .bool mk, .bool lg]] W (Ret fun v W => ∃ (I' : Snap), v = .bool (mayN ph fl of_ nx rs pd wd mk lg) ∧ I.le I' ∧ Hp I' (L) W) := by
  refine enter Tryd.func13 rfl Tryd.ntmps13 rfl fun a he => ?_
  refine sq ?_
  refine rg ?_
  refine bx #[.int .i64 ph, .int .i64 fl, .int .i64 of_, .int .i64 nx, .slice A_rs rs.length c_rs, .slice A_pd pd.length c_pd, .slice A_wd wd.length c_wd, .bool mk, .bool lg] rfl rfl rfl he hh fun bb1 a W he hh => ?_
  replace hh : Hp I (.obj bb1 (.cells [.int .i64 ph, .int .i64 fl, .int .i64 of_, .int .i64 nx, .slice A_rs rs.length c_rs, .slice A_pd pd.length c_pd, .slice A_wd wd.length c_wd, .bool mk, .bool lg].toArray 36) :: _) W := hh
  refine asg rfl rfl he fun a he => ?_
  refine en ?_
  refine sq ?_
  refine sq ?_
  refine rg ?_
  refine cal cb_25 rfl (prog_fields _ _ _ bb1 hh ) rfl he fun v a W hp he => ?_
  obtain ⟨rfl, hh⟩ := hp
  refine mv rfl rfl he fun a he => ?_
  refine en ?_
  refine bk ?_
  refine lp (fun (i : Nat) a w => Env 67 [(0, .agg #[.int .i64 ph, .int .i64 fl, .int .i64 of_, .int .i64 nx, .slice A_rs rs.length c_rs, .slice A_pd pd.length c_pd, .slice A_wd wd.length c_wd, .bool mk, .bool lg]), (1, .pointer (some ⟨bb1, 0, none⟩)), (7, .agg #[.pointer (some ⟨bb1, 0, none⟩), .pointer (some ⟨bb1, 1, none⟩), .pointer (some ⟨bb1, 2, none⟩), .pointer (some ⟨bb1, 3, none⟩)]), (8, .int .i64 ((i : Nat) : Int))] a ∧ Hp I (.obj bb1 (.cells ([.int .i64 ph, .int .i64 fl, .int .i64 of_, .int .i64 nx, .slice A_rs rs.length c_rs, .slice A_pd pd.length c_pd, .slice A_wd wd.length c_wd, .bool mk, .bool lg]).toArray 36) :: L) w ∧ i ≤ 4 ∧ ((fours ph fl of_ nx).take i).all in40 = true)
      (fun i => 4 - i) 0 ⟨he.keep [0, 1, 7, 8] rfl, hh, Nat.zero_le _, rfl⟩ fun i a W hinv => ?_
  obtain ⟨he, hh, hi, hinv⟩ := hinv
  refine sq ?_
  refine rg ?_
  refine lt rfl rfl rfl he fun a he => ?_
  refine en ?_
  refine sq ?_
  refine cnd he rfl (fun h2 => ?_) (fun h2 => ?_)
  · replace h2 : i < 4 := by omega
    refine sk ?_
    refine nm_then ?_
    refine sq ?_
    refine bk ?_
    refine sq ?_
    rcases (show i = 0 ∨ i = 1 ∨ i = 2 ∨ i = 3 by omega) with hq | hq | hq | hq
    · refine rg ?_
      refine ixa (vs := [.pointer (some ⟨bb1, 0, none⟩), .pointer (some ⟨bb1, 1, none⟩), .pointer (some ⟨bb1, 2, none⟩), .pointer (some ⟨bb1, 3, none⟩)]) (i) Tryd.underlying60 rb_59 ti_59 rfl rfl (by rw [hq]; rfl) (by omega) rfl he fun a he => ?_
      refine asg rfl rfl he fun a he => ?_
      refine en ?_
      refine sq ?_
      refine rg ?_
      refine mv rfl rfl he fun a he => ?_
      refine nck rfl rfl he fun a he => ?_
      refine ld rb_3 rfl (ocell hh.at0 rfl) rfl he fun a he => ?_
      refine lt rfl rfl rfl he fun a he => ?_
      refine mv rfl rfl he fun a he => ?_
      refine sd he (t := 15) rfl (fun h3 he => ?_) (fun h3 he => ?_)
      · refine gn rfl rfl he rfl rfl fun a he => ?_
        refine gn rfl rfl he rfl rfl fun a he => ?_
        refine gn rfl rfl he rfl rfl fun a he => ?_
        refine gn rfl rfl he rfl rfl fun a he => ?_
        refine pkt rfl rfl rfl he fun a he => ?_
        refine en ?_
        refine cnt he rfl ?_
        refine sq ?_
        refine rg ?_
        refine asg rfl rfl he fun a he => ?_
        refine en ?_
        refine rt ?_
        refine rets1 Tryd.results13 he rfl (Ret.mk ?_)
        replace hh := hh.drop
        exact ⟨I, by rw [mayN, all_bad (show (fours ph fl of_ nx)[i]? = some ph by rw [hq]; rfl) (by unfold in40; simp; omega)]; rfl, (Snap.le.refl _), hh⟩
      · refine gy rfl he rfl ?_
        refine mv rfl rfl he fun a he => ?_
        refine gy rfl he rfl ?_
        refine nck rfl rfl he fun a he => ?_
        refine gy rfl he rfl ?_
        refine ld rb_3 rfl (ocell hh.at0 rfl) rfl he fun a he => ?_
        refine gy rfl he rfl ?_
        refine gt rfl rfl rfl he fun a he => ?_
        refine pkf rfl rfl rfl he fun a he => ?_
        refine en ?_
        refine cnd he rfl (fun h4 => ?_) (fun h4 => ?_)
        · refine sq ?_
          refine rg ?_
          refine asg rfl rfl he fun a he => ?_
          refine en ?_
          refine rt ?_
          refine rets1 Tryd.results13 he rfl (Ret.mk ?_)
          replace hh := hh.drop
          exact ⟨I, by rw [mayN, all_bad (show (fours ph fl of_ nx)[i]? = some ph by rw [hq]; rfl) (by unfold in40; simp; omega)]; rfl, (Snap.le.refl _), hh⟩
        · refine sk ?_
          refine nm_blk ?_
          refine nm_then ?_
          refine rg ?_
          refine ad (((i + 1) : Nat) : Int) rfl rfl (w64 (by omega) (by omega)) rfl he fun a he => ?_
          refine mv rfl rfl he fun a he => ?_
          refine en ?_
          exact ⟨i + 1, ⟨he.keep [0, 1, 7, 8] rfl, hh, by omega, take_all_next hinv (show (fours ph fl of_ nx)[i]? = some ph by rw [hq]; rfl) (by unfold in40; simp; omega)⟩, by show 4 - (i + 1) < 4 - i; omega⟩
    · refine rg ?_
      refine ixa (vs := [.pointer (some ⟨bb1, 0, none⟩), .pointer (some ⟨bb1, 1, none⟩), .pointer (some ⟨bb1, 2, none⟩), .pointer (some ⟨bb1, 3, none⟩)]) (i) Tryd.underlying60 rb_59 ti_59 rfl rfl (by rw [hq]; rfl) (by omega) rfl he fun a he => ?_
      refine asg rfl rfl he fun a he => ?_
      refine en ?_
      refine sq ?_
      refine rg ?_
      refine mv rfl rfl he fun a he => ?_
      refine nck rfl rfl he fun a he => ?_
      refine ld rb_3 rfl (ocell hh.at0 rfl) rfl he fun a he => ?_
      refine lt rfl rfl rfl he fun a he => ?_
      refine mv rfl rfl he fun a he => ?_
      refine sd he (t := 15) rfl (fun h5 he => ?_) (fun h5 he => ?_)
      · refine gn rfl rfl he rfl rfl fun a he => ?_
        refine gn rfl rfl he rfl rfl fun a he => ?_
        refine gn rfl rfl he rfl rfl fun a he => ?_
        refine gn rfl rfl he rfl rfl fun a he => ?_
        refine pkt rfl rfl rfl he fun a he => ?_
        refine en ?_
        refine cnt he rfl ?_
        refine sq ?_
        refine rg ?_
        refine asg rfl rfl he fun a he => ?_
        refine en ?_
        refine rt ?_
        refine rets1 Tryd.results13 he rfl (Ret.mk ?_)
        replace hh := hh.drop
        exact ⟨I, by rw [mayN, all_bad (show (fours ph fl of_ nx)[i]? = some fl by rw [hq]; rfl) (by unfold in40; simp; omega)]; rfl, (Snap.le.refl _), hh⟩
      · refine gy rfl he rfl ?_
        refine mv rfl rfl he fun a he => ?_
        refine gy rfl he rfl ?_
        refine nck rfl rfl he fun a he => ?_
        refine gy rfl he rfl ?_
        refine ld rb_3 rfl (ocell hh.at0 rfl) rfl he fun a he => ?_
        refine gy rfl he rfl ?_
        refine gt rfl rfl rfl he fun a he => ?_
        refine pkf rfl rfl rfl he fun a he => ?_
        refine en ?_
        refine cnd he rfl (fun h6 => ?_) (fun h6 => ?_)
        · refine sq ?_
          refine rg ?_
          refine asg rfl rfl he fun a he => ?_
          refine en ?_
          refine rt ?_
          refine rets1 Tryd.results13 he rfl (Ret.mk ?_)
          replace hh := hh.drop
          exact ⟨I, by rw [mayN, all_bad (show (fours ph fl of_ nx)[i]? = some fl by rw [hq]; rfl) (by unfold in40; simp; omega)]; rfl, (Snap.le.refl _), hh⟩
        · refine sk ?_
          refine nm_blk ?_
          refine nm_then ?_
          refine rg ?_
          refine ad (((i + 1) : Nat) : Int) rfl rfl (w64 (by omega) (by omega)) rfl he fun a he => ?_
          refine mv rfl rfl he fun a he => ?_
          refine en ?_
          exact ⟨i + 1, ⟨he.keep [0, 1, 7, 8] rfl, hh, by omega, take_all_next hinv (show (fours ph fl of_ nx)[i]? = some fl by rw [hq]; rfl) (by unfold in40; simp; omega)⟩, by show 4 - (i + 1) < 4 - i; omega⟩
    · refine rg ?_
      refine ixa (vs := [.pointer (some ⟨bb1, 0, none⟩), .pointer (some ⟨bb1, 1, none⟩), .pointer (some ⟨bb1, 2, none⟩), .pointer (some ⟨bb1, 3, none⟩)]) (i) Tryd.underlying60 rb_59 ti_59 rfl rfl (by rw [hq]; rfl) (by omega) rfl he fun a he => ?_
      refine asg rfl rfl he fun a he => ?_
      refine en ?_
      refine sq ?_
      refine rg ?_
      refine mv rfl rfl he fun a he => ?_
      refine nck rfl rfl he fun a he => ?_
      refine ld rb_3 rfl (ocell hh.at0 rfl) rfl he fun a he => ?_
      refine lt rfl rfl rfl he fun a he => ?_
      refine mv rfl rfl he fun a he => ?_
      refine sd he (t := 15) rfl (fun h7 he => ?_) (fun h7 he => ?_)
      · refine gn rfl rfl he rfl rfl fun a he => ?_
        refine gn rfl rfl he rfl rfl fun a he => ?_
        refine gn rfl rfl he rfl rfl fun a he => ?_
        refine gn rfl rfl he rfl rfl fun a he => ?_
        refine pkt rfl rfl rfl he fun a he => ?_
        refine en ?_
        refine cnt he rfl ?_
        refine sq ?_
        refine rg ?_
        refine asg rfl rfl he fun a he => ?_
        refine en ?_
        refine rt ?_
        refine rets1 Tryd.results13 he rfl (Ret.mk ?_)
        replace hh := hh.drop
        exact ⟨I, by rw [mayN, all_bad (show (fours ph fl of_ nx)[i]? = some of_ by rw [hq]; rfl) (by unfold in40; simp; omega)]; rfl, (Snap.le.refl _), hh⟩
      · refine gy rfl he rfl ?_
        refine mv rfl rfl he fun a he => ?_
        refine gy rfl he rfl ?_
        refine nck rfl rfl he fun a he => ?_
        refine gy rfl he rfl ?_
        refine ld rb_3 rfl (ocell hh.at0 rfl) rfl he fun a he => ?_
        refine gy rfl he rfl ?_
        refine gt rfl rfl rfl he fun a he => ?_
        refine pkf rfl rfl rfl he fun a he => ?_
        refine en ?_
        refine cnd he rfl (fun h8 => ?_) (fun h8 => ?_)
        · refine sq ?_
          refine rg ?_
          refine asg rfl rfl he fun a he => ?_
          refine en ?_
          refine rt ?_
          refine rets1 Tryd.results13 he rfl (Ret.mk ?_)
          replace hh := hh.drop
          exact ⟨I, by rw [mayN, all_bad (show (fours ph fl of_ nx)[i]? = some of_ by rw [hq]; rfl) (by unfold in40; simp; omega)]; rfl, (Snap.le.refl _), hh⟩
        · refine sk ?_
          refine nm_blk ?_
          refine nm_then ?_
          refine rg ?_
          refine ad (((i + 1) : Nat) : Int) rfl rfl (w64 (by omega) (by omega)) rfl he fun a he => ?_
          refine mv rfl rfl he fun a he => ?_
          refine en ?_
          exact ⟨i + 1, ⟨he.keep [0, 1, 7, 8] rfl, hh, by omega, take_all_next hinv (show (fours ph fl of_ nx)[i]? = some of_ by rw [hq]; rfl) (by unfold in40; simp; omega)⟩, by show 4 - (i + 1) < 4 - i; omega⟩
    · refine rg ?_
      refine ixa (vs := [.pointer (some ⟨bb1, 0, none⟩), .pointer (some ⟨bb1, 1, none⟩), .pointer (some ⟨bb1, 2, none⟩), .pointer (some ⟨bb1, 3, none⟩)]) (i) Tryd.underlying60 rb_59 ti_59 rfl rfl (by rw [hq]; rfl) (by omega) rfl he fun a he => ?_
      refine asg rfl rfl he fun a he => ?_
      refine en ?_
      refine sq ?_
      refine rg ?_
      refine mv rfl rfl he fun a he => ?_
      refine nck rfl rfl he fun a he => ?_
      refine ld rb_3 rfl (ocell hh.at0 rfl) rfl he fun a he => ?_
      refine lt rfl rfl rfl he fun a he => ?_
      refine mv rfl rfl he fun a he => ?_
      refine sd he (t := 15) rfl (fun h9 he => ?_) (fun h9 he => ?_)
      · refine gn rfl rfl he rfl rfl fun a he => ?_
        refine gn rfl rfl he rfl rfl fun a he => ?_
        refine gn rfl rfl he rfl rfl fun a he => ?_
        refine gn rfl rfl he rfl rfl fun a he => ?_
        refine pkt rfl rfl rfl he fun a he => ?_
        refine en ?_
        refine cnt he rfl ?_
        refine sq ?_
        refine rg ?_
        refine asg rfl rfl he fun a he => ?_
        refine en ?_
        refine rt ?_
        refine rets1 Tryd.results13 he rfl (Ret.mk ?_)
        replace hh := hh.drop
        exact ⟨I, by rw [mayN, all_bad (show (fours ph fl of_ nx)[i]? = some nx by rw [hq]; rfl) (by unfold in40; simp; omega)]; rfl, (Snap.le.refl _), hh⟩
      · refine gy rfl he rfl ?_
        refine mv rfl rfl he fun a he => ?_
        refine gy rfl he rfl ?_
        refine nck rfl rfl he fun a he => ?_
        refine gy rfl he rfl ?_
        refine ld rb_3 rfl (ocell hh.at0 rfl) rfl he fun a he => ?_
        refine gy rfl he rfl ?_
        refine gt rfl rfl rfl he fun a he => ?_
        refine pkf rfl rfl rfl he fun a he => ?_
        refine en ?_
        refine cnd he rfl (fun h10 => ?_) (fun h10 => ?_)
        · refine sq ?_
          refine rg ?_
          refine asg rfl rfl he fun a he => ?_
          refine en ?_
          refine rt ?_
          refine rets1 Tryd.results13 he rfl (Ret.mk ?_)
          replace hh := hh.drop
          exact ⟨I, by rw [mayN, all_bad (show (fours ph fl of_ nx)[i]? = some nx by rw [hq]; rfl) (by unfold in40; simp; omega)]; rfl, (Snap.le.refl _), hh⟩
        · refine sk ?_
          refine nm_blk ?_
          refine nm_then ?_
          refine rg ?_
          refine ad (((i + 1) : Nat) : Int) rfl rfl (w64 (by omega) (by omega)) rfl he fun a he => ?_
          refine mv rfl rfl he fun a he => ?_
          refine en ?_
          exact ⟨i + 1, ⟨he.keep [0, 1, 7, 8] rfl, hh, by omega, take_all_next hinv (show (fours ph fl of_ nx)[i]? = some nx by rw [hq]; rfl) (by unfold in40; simp; omega)⟩, by show 4 - (i + 1) < 4 - i; omega⟩
  · replace h2 : ¬ (i < 4) := by omega
    refine ext ?_
    refine ex_then ?_
    refine ex_then ?_
    refine ex_in ?_
    refine nm_then ?_
    refine sq ?_
    refine sq ?_
    refine rg ?_
    refine fa fo_36_4 rfl rfl he fun a he => ?_
    refine ld rb_22 rfl (ocell hh.at0 rfl) rfl he fun a he => ?_
    refine ln Tryd.underlying22 rfl rfl he fun a he => ?_
    refine mv rfl rfl he fun a he => ?_
    refine en ?_
    refine bk ?_
    refine lp (fun (j : Nat) a w => Env 67 [(0, .agg #[.int .i64 ph, .int .i64 fl, .int .i64 of_, .int .i64 nx, .slice A_rs rs.length c_rs, .slice A_pd pd.length c_pd, .slice A_wd wd.length c_wd, .bool mk, .bool lg]), (1, .pointer (some ⟨bb1, 0, none⟩)), (23, .slice A_rs rs.length c_rs), (24, .int .i64 ((rs.length : Nat) : Int)), (25, .int .i64 ((j : Nat) : Int))] a ∧ Hp I (.obj bb1 (.cells ([.int .i64 ph, .int .i64 fl, .int .i64 of_, .int .i64 nx, .slice A_rs rs.length c_rs, .slice A_pd pd.length c_pd, .slice A_wd wd.length c_wd, .bool mk, .bool lg]).toArray 36) :: L) w ∧ j ≤ rs.length ∧ runsOk nx none rs = runsOk nx (prevOf rs j) (rs.drop j))
        (fun j => rs.length - j) 0 ⟨he.keep [0, 1, 23, 24, 25] rfl, hh, Nat.zero_le _, rfl⟩ fun j a W hinv => ?_
    obtain ⟨he, hh, hj, hru⟩ := hinv
    refine sq ?_
    refine rg ?_
    refine lt rfl rfl rfl he fun a he => ?_
    refine en ?_
    refine sq ?_
    refine cnd he rfl (fun h11 => ?_) (fun h11 => ?_)
    · replace h11 : j < rs.length := by omega
      refine sk ?_
      refine nm_then ?_
      refine sq ?_
      refine bk ?_
      refine sq ?_
      refine rg ?_
      refine mv rfl rfl he fun a he => ?_
      obtain ⟨x, hx⟩ := idx_some (xs := rs) (i := j) (by omega)
      refine ia1 (xs := rs) (j) ts_22 rfl rfl (h_rs.rd hh) hx rfl he fun bb12 oo13 a hc14 he => ?_
      refine ld rb_3 rfl hc14 rfl he fun a he => ?_
      refine asg rfl rfl he fun a he => ?_
      refine asg rfl rfl he fun a he => ?_
      refine en ?_
      refine sq ?_
      refine rg ?_
      refine mv rfl rfl he fun a he => ?_
      refine lt rfl rfl rfl he fun a he => ?_
      refine mv rfl rfl he fun a he => ?_
      refine sd he (t := 32) rfl (fun h15 he => ?_) (fun h15 he => ?_)
      · refine gn rfl rfl he rfl rfl fun a he => ?_
        refine gn rfl rfl he rfl rfl fun a he => ?_
        refine gn rfl rfl he rfl rfl fun a he => ?_
        refine gn rfl rfl he rfl rfl fun a he => ?_
        refine pkt rfl rfl rfl he fun a he => ?_
        refine mv rfl rfl he fun a he => ?_
        refine gn rfl rfl he rfl rfl fun a he => ?_
        refine gn rfl rfl he rfl rfl fun a he => ?_
        refine gn rfl rfl he rfl rfl fun a he => ?_
        refine gnu rfl rfl he rfl fun a he => ?_
        refine gnu rfl rfl he rfl fun a he => ?_
        refine gnu rfl rfl he rfl fun a he => ?_
        refine gnu rfl rfl he rfl fun a he => ?_
        refine gnu rfl rfl he rfl fun a he => ?_
        refine gnu rfl rfl he rfl fun a he => ?_
        refine gnu rfl rfl he rfl fun a he => ?_
        refine gnu rfl rfl he rfl fun a he => ?_
        refine gn rfl rfl he rfl rfl fun a he => ?_
        refine pkt rfl rfl rfl he fun a he => ?_
        refine en ?_
        refine cnt he rfl ?_
        refine sq ?_
        refine rg ?_
        refine asg rfl rfl he fun a he => ?_
        refine en ?_
        refine rt ?_
        refine rets1 Tryd.results13 he rfl (Ret.mk ?_)
        replace hh := hh.drop
        exact ⟨I, by rw [mayN, runs_bad hru hx (.inl (by omega))]; simp, (Snap.le.refl _), hh⟩
      · refine gy rfl he rfl ?_
        refine mv rfl rfl he fun a he => ?_
        refine gy rfl he rfl ?_
        refine fa fo_36_3 rfl rfl he fun a he => ?_
        refine gy rfl he rfl ?_
        refine ld rb_3 rfl (ocell hh.at0 rfl) rfl he fun a he => ?_
        refine gy rfl he rfl ?_
        refine ge rfl rfl rfl he fun a he => ?_
        refine pkf rfl rfl rfl he fun a he => ?_
        refine mv rfl rfl he fun a he => ?_
        refine sd he (t := 38) rfl (fun h16 he => ?_) (fun h16 he => ?_)
        · refine gn rfl rfl he rfl rfl fun a he => ?_
          refine gn rfl rfl he rfl rfl fun a he => ?_
          refine gn rfl rfl he rfl rfl fun a he => ?_
          refine gnu rfl rfl he rfl fun a he => ?_
          refine gnu rfl rfl he rfl fun a he => ?_
          refine gnu rfl rfl he rfl fun a he => ?_
          refine gnu rfl rfl he rfl fun a he => ?_
          refine gnu rfl rfl he rfl fun a he => ?_
          refine gnu rfl rfl he rfl fun a he => ?_
          refine gnu rfl rfl he rfl fun a he => ?_
          refine gnu rfl rfl he rfl fun a he => ?_
          refine gn rfl rfl he rfl rfl fun a he => ?_
          refine pkt rfl rfl rfl he fun a he => ?_
          refine en ?_
          refine cnt he rfl ?_
          refine sq ?_
          refine rg ?_
          refine asg rfl rfl he fun a he => ?_
          refine en ?_
          refine rt ?_
          refine rets1 Tryd.results13 he rfl (Ret.mk ?_)
          replace hh := hh.drop
          exact ⟨I, by rw [mayN, runs_bad hru hx (.inl (by omega))]; simp, (Snap.le.refl _), hh⟩
        · refine gy rfl he rfl ?_
          refine mv rfl rfl he fun a he => ?_
          refine gy rfl he rfl ?_
          refine gt rfl rfl rfl he fun a he => ?_
          refine gy rfl he rfl ?_
          refine mv rfl rfl he fun a he => ?_
          refine sd he (t := 41) rfl (fun h17 he => ?_) (fun h17 he => ?_)
          · replace h17 : 0 < j := by omega
            refine gy rfl he rfl ?_
            refine mv rfl rfl he fun a he => ?_
            refine gy rfl he rfl ?_
            refine fa fo_36_4 rfl rfl he fun a he => ?_
            refine gy rfl he rfl ?_
            refine ld rb_22 rfl (ocell hh.at0 rfl) rfl he fun a he => ?_
            refine gy rfl he rfl ?_
            refine mv rfl rfl he fun a he => ?_
            refine gy rfl he rfl ?_
            refine su (((j - 1) : Nat) : Int) rfl rfl (w64 (by omega) (by omega)) rfl he fun a he => ?_
            refine gy rfl he rfl ?_
            obtain ⟨y, hy⟩ := idx_some (xs := rs) (i := (j - 1)) (by omega)
            refine ia1 (xs := rs) ((j - 1)) ts_22 rfl rfl (h_rs.rd hh) hy rfl he fun bb18 oo19 a hc20 he => ?_
            refine gy rfl he rfl ?_
            refine ld rb_3 rfl hc20 rfl he fun a he => ?_
            refine gy rfl he rfl ?_
            refine le rfl rfl rfl he fun a he => ?_
            refine gy rfl he rfl ?_
            refine pkt rfl rfl rfl he fun a he => ?_
            refine pkf rfl rfl rfl he fun a he => ?_
            refine en ?_
            refine cnd he rfl (fun h21 => ?_) (fun h21 => ?_)
            · refine sq ?_
              refine rg ?_
              refine asg rfl rfl he fun a he => ?_
              refine en ?_
              refine rt ?_
              refine rets1 Tryd.results13 he rfl (Ret.mk ?_)
              replace hh := hh.drop
              exact ⟨I, by rw [mayN, runs_bad hru hx (.inr ⟨by omega, y, hy, by omega⟩)]; simp, (Snap.le.refl _), hh⟩
            · refine sk ?_
              refine nm_blk ?_
              refine nm_then ?_
              refine rg ?_
              refine ad (((j + 1) : Nat) : Int) rfl rfl (w64 (by omega) (by omega)) rfl he fun a he => ?_
              refine mv rfl rfl he fun a he => ?_
              refine en ?_
              exact ⟨j + 1, ⟨he.keep [0, 1, 23, 24, 25] rfl, hh, by omega, runs_next hru hx (by omega) (by omega) (.inr ⟨y, hy, by omega⟩)⟩, by show rs.length - (j + 1) < rs.length - j; omega⟩
          · replace h17 : ¬ (0 < j) := by omega
            refine gn rfl rfl he rfl rfl fun a he => ?_
            refine gn rfl rfl he rfl rfl fun a he => ?_
            refine gn rfl rfl he rfl rfl fun a he => ?_
            refine gn rfl rfl he rfl rfl fun a he => ?_
            refine gn rfl rfl he rfl rfl fun a he => ?_
            refine gn rfl rfl he rfl rfl fun a he => ?_
            refine gn rfl rfl he rfl rfl fun a he => ?_
            refine gn rfl rfl he rfl rfl fun a he => ?_
            refine gy rfl he rfl ?_
            refine pkf rfl rfl rfl he fun a he => ?_
            refine pkf rfl rfl rfl he fun a he => ?_
            refine en ?_
            refine cnf he rfl ?_
            refine sk ?_
            refine nm_blk ?_
            refine nm_then ?_
            refine rg ?_
            refine ad (((j + 1) : Nat) : Int) rfl rfl (w64 (by omega) (by omega)) rfl he fun a he => ?_
            refine mv rfl rfl he fun a he => ?_
            refine en ?_
            exact ⟨j + 1, ⟨he.keep [0, 1, 23, 24, 25] rfl, hh, by omega, runs_next hru hx (by omega) (by omega) (.inl (by omega))⟩, by show rs.length - (j + 1) < rs.length - j; omega⟩
    · replace h11 : ¬ (j < rs.length) := by omega
      refine ext ?_
      refine ex_then ?_
      refine ex_then ?_
      refine ex_in ?_
      refine nm_then ?_
      refine sq ?_
      refine rg ?_
      refine fa fo_36_0 rfl rfl he fun a he => ?_
      refine ld rb_3 rfl (ocell hh.at0 rfl) rfl he fun a he => ?_
      refine le rfl rfl rfl he fun a he => ?_
      refine mv rfl rfl he fun a he => ?_
      refine sd he (t := 56) rfl (fun h22 he => ?_) (fun h22 he => ?_)
      · refine gy rfl he rfl ?_
        refine fa fo_36_4 rfl rfl he fun a he => ?_
        refine gy rfl he rfl ?_
        refine ld rb_22 rfl (ocell hh.at0 rfl) rfl he fun a he => ?_
        refine gy rfl he rfl ?_
        refine ln Tryd.underlying22 rfl rfl he fun a he => ?_
        refine gy rfl he rfl ?_
        refine le rfl rfl rfl he fun a he => ?_
        refine pkt rfl rfl rfl he fun a he => ?_
        refine mv rfl rfl he fun a he => ?_
        refine sd he (t := 62) rfl (fun h23 he => ?_) (fun h23 he => ?_)
        · replace h23 : rs.length ≤ 10000 := by omega
          refine gy rfl he rfl ?_
          refine fa fo_36_5 rfl rfl he fun a he => ?_
          refine gy rfl he rfl ?_
          refine ldA [.slice A_pd pd.length c_pd, .slice A_wd wd.length c_wd, .bool mk, .bool lg] rb_34 ti_34 rfl ((Rd.obj hh.at0 5).take 4) rfl rfl he fun a he => ?_
          refine gy rfl he rfl ?_
          refine cal cb_31 rfl (prog_sound _ _ _ A_pd c_pd pd A_wd c_wd wd mk lg hh h_pd k_pd h_wd k_wd hb hb2 hc) rfl he fun v a W hp he => ?_
          obtain ⟨I24, rfl, hl25, hh⟩ := hp
          refine pkt rfl rfl rfl he fun a he => ?_
          refine asg rfl rfl he fun a he => ?_
          refine en ?_
          refine rt ?_
          refine rets1 Tryd.results13 he rfl (Ret.mk ?_)
          have hall : (fours ph fl of_ nx).all in40 = true := by
            have := hinv
            rw [List.take_of_length_le (show (fours ph fl of_ nx).length ≤ i by show 4 ≤ i; omega)] at this; exact this
          have hrr := runs_end hru (by omega)
          replace hh := hh.drop
          exact ⟨I24, by rw [mayN, hall, hrr]; simp [*], hl25, hh⟩
        · replace h23 : ¬ (rs.length ≤ 10000) := by omega
          refine gn rfl rfl he rfl rfl fun a he => ?_
          refine gn rfl rfl he rfl rfl fun a he => ?_
          refine gn rfl rfl he rfl rfl fun a he => ?_
          refine pkf rfl rfl rfl he fun a he => ?_
          refine asg rfl rfl he fun a he => ?_
          refine en ?_
          refine rt ?_
          refine rets1 Tryd.results13 he rfl (Ret.mk ?_)
          have hall : (fours ph fl of_ nx).all in40 = true := by
            have := hinv
            rw [List.take_of_length_le (show (fours ph fl of_ nx).length ≤ i by show 4 ≤ i; omega)] at this; exact this
          have hrr := runs_end hru (by omega)
          replace hh := hh.drop
          exact ⟨I, by rw [mayN, hall, hrr]; simp [*], (Snap.le.refl _), hh⟩
      · refine gn rfl rfl he rfl rfl fun a he => ?_
        refine gn rfl rfl he rfl rfl fun a he => ?_
        refine gn rfl rfl he rfl rfl fun a he => ?_
        refine gn rfl rfl he rfl rfl fun a he => ?_
        refine pkf rfl rfl rfl he fun a he => ?_
        refine mv rfl rfl he fun a he => ?_
        refine gn rfl rfl he rfl rfl fun a he => ?_
        refine gn rfl rfl he rfl rfl fun a he => ?_
        refine gn rfl rfl he rfl rfl fun a he => ?_
        refine pkf rfl rfl rfl he fun a he => ?_
        refine asg rfl rfl he fun a he => ?_
        refine en ?_
        refine rt ?_
        refine rets1 Tryd.results13 he rfl (Ret.mk ?_)
        have hall : (fours ph fl of_ nx).all in40 = true := by
          have := hinv
          rw [List.take_of_length_le (show (fours ph fl of_ nx).length ≤ i by show 4 ≤ i; omega)] at this; exact this
        have hrr := runs_end hru (by omega)
        replace hh := hh.drop
        exact ⟨I, by rw [mayN, hall, hrr]; simp [*], (Snap.le.refl _), hh⟩

end Go.Proofs.YtndaogkpgoimlaaDoor

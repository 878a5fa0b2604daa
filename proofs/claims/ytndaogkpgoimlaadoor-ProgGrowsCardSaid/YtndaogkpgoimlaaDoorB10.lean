/- Walks through the given program's functions, printed op by op by this session's own program; what each computes is told by the plain functions of the texts S... -/
import Derived.Test.YtndaogkpgoimlaaDoorB9
import Derived.KernelRfl
namespace Go.Proofs.YtndaogkpgoimlaaDoor
open Go Go.RowKit K
set_option linter.unusedVariables false
theorem cb_36 : callable Tryd.prog 36 = true := by kernel_rfl
theorem ref22_four (I : Snap) (L : List Ch) (W : World) (ph : Int) (fl : Int) (of_ : Int) (nx : Int) (A_rs : Option Addr) (c_rs : Nat) (rs : List Int) (A_pd : Option Addr) (c_pd : Nat) (pd : List UInt8) (A_wd : Option Addr) (c_wd : Nat) (wd : List Int) (mk : Bool) (lg : Bool) (hh : Hp I L W) (h_rs : Fz I A_rs (rs.map i64v)) (k_rs : rs.length ≤ c_rs) (h_pd : Fz I A_pd (pd.map b8)) (k_pd : pd.length ≤ c_pd) (h_wd : Fz I A_wd (wd.map r32)) (k_wd : wd.length ≤ c_wd) :
    Calls Tryd.prog 36 #[.agg #[.int .i64 ph, .int .i64 fl, .int .i64 of_, .int .i64 nx, .slice A_rs rs.length c_rs, .slice A_pd pd.length c_pd, .slice A_wd wd.length c_wd, .bool mk, .bool lg]] W (Ret fun v W => ∃ (A1 : Option Addr) (c1 : Nat), v = .slice A1 (fours ph fl of_ nx).length c1 ∧ Hp I (.row A1 (fours ph fl of_ nx).length c1 3 1 ((fours ph fl of_ nx).map i64v) :: L) W) := by
  refine enter Tryd.func36 rfl Tryd.ntmps36 rfl fun a he => ?_
  refine sq ?_
  refine rg ?_
  refine bx #[.int .i64 ph, .int .i64 fl, .int .i64 of_, .int .i64 nx, .slice A_rs rs.length c_rs, .slice A_pd pd.length c_pd, .slice A_wd wd.length c_wd, .bool mk, .bool lg] rfl rfl rfl he hh fun bb1 a W he hh => ?_
  replace hh : Hp I (.obj bb1 (.cells [.int .i64 ph, .int .i64 fl, .int .i64 of_, .int .i64 nx, .slice A_rs rs.length c_rs, .slice A_pd pd.length c_pd, .slice A_wd wd.length c_wd, .bool mk, .bool lg].toArray 28) :: _) W := hh
  refine asg rfl rfl he fun a he => ?_
  refine en ?_
  refine sq ?_
  refine rg ?_
  refine fa fo_28_0 rfl rfl he fun a he => ?_
  refine ld rb_3 rfl (ocell hh.at0 rfl) rfl he fun a he => ?_
  refine fa fo_28_1 rfl rfl he fun a he => ?_
  refine ld rb_3 rfl (ocell hh.at0 rfl) rfl he fun a he => ?_
  refine fa fo_28_2 rfl rfl he fun a he => ?_
  refine ld rb_3 rfl (ocell hh.at0 rfl) rfl he fun a he => ?_
  refine fa fo_28_3 rfl rfl he fun a he => ?_
  refine ld rb_3 rfl (ocell hh.at0 rfl) rfl he fun a he => ?_
  refine bsl [(0, .int .i64 ph), (1, .int .i64 fl), (2, .int .i64 of_), (3, .int .i64 nx)] [.int .i64 ph, .int .i64 fl, .int .i64 of_, .int .i64 nx] ts_22 rfl rfl rfl rfl rfl rfl rfl he hh fun bb2 a W he hh => ?_
  refine asg rfl rfl he fun a he => ?_
  refine en ?_
  refine rt ?_
  refine rets1 Tryd.results36 he rfl (Ret.mk ?_)
  replace hh := hh.up1
  replace hh := hh.drop
  exact ⟨(some ⟨bb2, 0, none⟩), 4, rfl, hh⟩

theorem ref22_Less (I : Snap) (L : List Ch) (W : World) (ph : Int) (fl : Int) (of_ : Int) (nx : Int) (A_rs : Option Addr) (c_rs : Nat) (rs : List Int) (A_pd : Option Addr) (c_pd : Nat) (pd : List UInt8) (A_wd : Option Addr) (c_wd : Nat) (wd : List Int) (mk : Bool) (lg : Bool) (ph2 : Int) (fl2 : Int) (of2 : Int) (nx2 : Int) (A_rs2 : Option Addr) (c_rs2 : Nat) (rs2 : List Int) (A_pd2 : Option Addr) (c_pd2 : Nat) (pd2 : List UInt8) (A_wd2 : Option Addr) (c_wd2 : Nat) (wd2 : List Int) (mk2 : Bool) (lg2 : Bool) (hh : Hp I L W) (h_rs : Fz I A_rs (rs.map i64v)) (k_rs : rs.length ≤ c_rs) (h_pd : Fz I A_pd (pd.map b8)) (k_pd : pd.length ≤ c_pd) (h_wd : Fz I A_wd (wd.map r32)) (k_wd : wd.length ≤ c_wd) (h_rs2 : Fz I A_rs2 (rs2.map i64v)) (k_rs2 : rs2.length ≤ c_rs2) (h_pd2 : Fz I A_pd2 (pd2.map b8)) (k_pd2 : pd2.length ≤ c_pd2) (h_wd2 : Fz I A_wd2 (wd2.map r32)) (k_wd2 : wd2.length ≤ c_wd2) :
    Calls Tryd.prog 21 #[.agg #[.int .i64 ph, .int .i64 fl, .int .i64 of_, .int .i64 nx, .slice A_rs rs.length c_rs, .slice A_pd pd.length c_pd, .slice A_wd wd.length c_wd, .bool mk, .bool lg], .agg #[.int .i64 ph2, .int .i64 fl2, .int .i64 of2, .int .i64 nx2, .slice A_rs2 rs2.length c_rs2, .slice A_pd2 pd2.length c_pd2, .slice A_wd2 wd2.length c_wd2, .bool mk2, .bool lg2]] W (Ret fun v W => ∃ (I' : Snap), v = .bool (lessL (fours ph fl of_ nx) (fours ph2 fl2 of2 nx2)) ∧ I.le I' ∧ Hp I' (L) W) := by
  refine enter Tryd.func21 rfl Tryd.ntmps21 rfl fun a he => ?_
  refine sq ?_
  refine rg ?_
  refine bx #[.int .i64 ph, .int .i64 fl, .int .i64 of_, .int .i64 nx, .slice A_rs rs.length c_rs, .slice A_pd pd.length c_pd, .slice A_wd wd.length c_wd, .bool mk, .bool lg] rfl rfl rfl he hh fun bb1 a W he hh => ?_
  replace hh : Hp I (.obj bb1 (.cells [.int .i64 ph, .int .i64 fl, .int .i64 of_, .int .i64 nx, .slice A_rs rs.length c_rs, .slice A_pd pd.length c_pd, .slice A_wd wd.length c_wd, .bool mk, .bool lg].toArray 28) :: _) W := hh
  refine bx #[.int .i64 ph2, .int .i64 fl2, .int .i64 of2, .int .i64 nx2, .slice A_rs2 rs2.length c_rs2, .slice A_pd2 pd2.length c_pd2, .slice A_wd2 wd2.length c_wd2, .bool mk2, .bool lg2] rfl rfl rfl he hh fun bb2 a W he hh => ?_
  replace hh : Hp I (.obj bb2 (.cells [.int .i64 ph2, .int .i64 fl2, .int .i64 of2, .int .i64 nx2, .slice A_rs2 rs2.length c_rs2, .slice A_pd2 pd2.length c_pd2, .slice A_wd2 wd2.length c_wd2, .bool mk2, .bool lg2].toArray 28) :: _) W := hh
  refine asg rfl rfl he fun a he => ?_
  refine en ?_
  refine sq ?_
  refine rg ?_
  refine ldA [.int .i64 ph, .int .i64 fl, .int .i64 of_, .int .i64 nx, .slice A_rs rs.length c_rs, .slice A_pd pd.length c_pd, .slice A_wd wd.length c_wd, .bool mk, .bool lg] rb_28 ti_28 rfl ((Rd.obj hh.at1 0).take 9) rfl rfl he fun a he => ?_
  refine cal cb_36 rfl (ref22_four _ _ _ ph fl of_ nx A_rs c_rs rs A_pd c_pd pd A_wd c_wd wd mk lg hh h_rs k_rs h_pd k_pd h_wd k_wd) rfl he fun v a W hp he => ?_
  obtain ⟨A3, cc4, rfl, hh⟩ := hp
  refine asg rfl rfl he fun a he => ?_
  refine en ?_
  refine sq ?_
  refine rg ?_
  refine ldA [.int .i64 ph2, .int .i64 fl2, .int .i64 of2, .int .i64 nx2, .slice A_rs2 rs2.length c_rs2, .slice A_pd2 pd2.length c_pd2, .slice A_wd2 wd2.length c_wd2, .bool mk2, .bool lg2] rb_28 ti_28 rfl ((Rd.obj hh.at1 0).take 9) rfl rfl he fun a he => ?_
  refine cal cb_36 rfl (ref22_four _ _ _ ph2 fl2 of2 nx2 A_rs2 c_rs2 rs2 A_pd2 c_pd2 pd2 A_wd2 c_wd2 wd2 mk2 lg2 hh h_rs2 k_rs2 h_pd2 k_pd2 h_wd2 k_wd2) rfl he fun v a W hp he => ?_
  obtain ⟨A6, cc7, rfl, hh⟩ := hp
  refine asg rfl rfl he fun a he => ?_
  refine en ?_
  refine sq ?_
  refine sq ?_
  replace hh := hh.up1
  have hc12 := (Ch.rowcap hh.at0).1
  obtain ⟨I9, hl10, hh, hf11⟩ := hh.freezeRow
  have hc16 := (Ch.rowcap hh.at0).1
  obtain ⟨I13, hl14, hh, hf15⟩ := hh.freezeRow
  have hX : (fours ph fl of_ nx).length = 4 := rfl
  have hY : (fours ph2 fl2 of2 nx2).length = 4 := rfl
  refine rg ?_
  refine asg rfl rfl he fun a he => ?_
  refine en ?_
  refine bk ?_
  replace hh := hh.up1
  replace hh := hh.up1
  refine lp (fun (i : Nat) a w => Env 34 [(0, .agg #[.int .i64 ph, .int .i64 fl, .int .i64 of_, .int .i64 nx, .slice A_rs rs.length c_rs, .slice A_pd pd.length c_pd, .slice A_wd wd.length c_wd, .bool mk, .bool lg]), (1, .agg #[.int .i64 ph2, .int .i64 fl2, .int .i64 of2, .int .i64 nx2, .slice A_rs2 rs2.length c_rs2, .slice A_pd2 pd2.length c_pd2, .slice A_wd2 wd2.length c_wd2, .bool mk2, .bool lg2]), (2, .pointer (some ⟨bb1, 0, none⟩)), (3, .pointer (some ⟨bb2, 0, none⟩)), (5, .slice A3 ((fours ph fl of_ nx).length) cc4), (6, .slice A6 ((fours ph2 fl2 of2 nx2).length) cc7), (7, .int .i64 ((i : Nat) : Int))] a ∧ Hp I13 (.obj bb2 (.cells ([.int .i64 ph2, .int .i64 fl2, .int .i64 of2, .int .i64 nx2, .slice A_rs2 rs2.length c_rs2, .slice A_pd2 pd2.length c_pd2, .slice A_wd2 wd2.length c_wd2, .bool mk2, .bool lg2]).toArray 28) :: .obj bb1 (.cells ([.int .i64 ph, .int .i64 fl, .int .i64 of_, .int .i64 nx, .slice A_rs rs.length c_rs, .slice A_pd pd.length c_pd, .slice A_wd wd.length c_wd, .bool mk, .bool lg]).toArray 28) :: L) w ∧ i ≤ 4 ∧ lessL (fours ph fl of_ nx) (fours ph2 fl2 of2 nx2) = lessL ((fours ph fl of_ nx).drop i) ((fours ph2 fl2 of2 nx2).drop i))
      (fun i => 4 - i) 0 ⟨he.keep [0, 1, 2, 3, 5, 6, 7] rfl, hh, Nat.zero_le _, rfl⟩ fun i a W hinv => ?_
  obtain ⟨he, hh, hi, hinv⟩ := hinv
  refine sq ?_
  refine sq ?_
  refine rg ?_
  refine mv rfl rfl he fun a he => ?_
  refine lt rfl rfl rfl he fun a he => ?_
  refine en ?_
  refine cnd he rfl (fun h17 => ?_) (fun h17 => ?_)
  · replace h17 : i < 4 := by omega
    refine sk ?_
    refine nm_then ?_
    refine sq ?_
    refine bk ?_
    refine sq ?_
    refine rgd (SH I13 [.obj bb2 (.cells ([.int .i64 ph2, .int .i64 fl2, .int .i64 of2, .int .i64 nx2, .slice A_rs2 rs2.length c_rs2, .slice A_pd2 pd2.length c_pd2, .slice A_wd2 wd2.length c_wd2, .bool mk2, .bool lg2]).toArray 28), .obj bb1 (.cells ([.int .i64 ph, .int .i64 fl, .int .i64 of_, .int .i64 nx, .slice A_rs rs.length c_rs, .slice A_pd pd.length c_pd, .slice A_wd wd.length c_wd, .bool mk, .bool lg]).toArray 28)]) 9 mixo rfl hh fun W hh => ?_
    refine ahp (d := 16) (v := .slice A3 ((fours ph fl of_ nx).length) cc4) 0 rfl (by kernel_rfl) (by kernel_rfl) (by kernel_rfl) rfl rfl rfl he ⟨_, _, (Snap.le.refl _), hh⟩ (fun W hS => by
        refine mv rfl rfl he fun a he => ?_
        exact aqe he) fun a he => ?_
    refine ahp (d := 17) (v := .int .i64 ((i : Nat) : Int)) 1 rfl (by kernel_rfl) (by kernel_rfl) (by kernel_rfl) rfl rfl rfl he ⟨_, _, (Snap.le.refl _), hh⟩ (fun W hS => by
        refine mv rfl rfl he fun a he => ?_
        exact aqe he) fun a he => ?_
    obtain ⟨x, hx⟩ := idx_some (xs := fours ph fl of_ nx) (i := i) (by omega)
    obtain ⟨bb18, oo19, eA20, hc21⟩ := (hf11.up hl14).adr1 hx
    replace he := he.be (t := 16) (v' := .slice (some ⟨bb18, oo19, none⟩) ((fours ph fl of_ nx).length) cc4) rfl (by rw [eA20])
    refine ahp (d := 18) (v := .pointer (some ⟨bb18, oo19 + i * 1, none⟩)) 2 rfl (by kernel_rfl) (by kernel_rfl) (by kernel_rfl) rfl rfl rfl he ⟨_, _, (Snap.le.refl _), hh⟩ (fun W hS => by refine ia (i) ts_22 rfl rfl (List.getElem?_eq_some_iff.1 hx).1 rfl he fun a he => ?_; exact aqe he) fun a he => ?_
    refine ahp (d := 19) (v := .int .i64 x) 3 rfl (by kernel_rfl) (by kernel_rfl) (by kernel_rfl) rfl rfl rfl he ⟨_, _, (Snap.le.refl _), hh⟩ (fun W hS => by
        obtain ⟨I22, _, hleI22, hh⟩ := hS
        refine ld rb_3 rfl (hc21 _ _ _ hleI22 hh) rfl he fun a he => ?_
        exact aqe he) fun a he => ?_
    refine ahp (d := 20) (v := .slice A6 ((fours ph2 fl2 of2 nx2).length) cc7) 4 rfl (by kernel_rfl) (by kernel_rfl) (by kernel_rfl) rfl rfl rfl he ⟨_, _, (Snap.le.refl _), hh⟩ (fun W hS => by
        refine mv rfl rfl he fun a he => ?_
        exact aqe he) fun a he => ?_
    refine ahp (d := 21) (v := .int .i64 ((i : Nat) : Int)) 5 rfl (by kernel_rfl) (by kernel_rfl) (by kernel_rfl) rfl rfl rfl he ⟨_, _, (Snap.le.refl _), hh⟩ (fun W hS => by
        refine mv rfl rfl he fun a he => ?_
        exact aqe he) fun a he => ?_
    obtain ⟨y, hy⟩ := idx_some (xs := fours ph2 fl2 of2 nx2) (i := i) (by omega)
    obtain ⟨bb23, oo24, eA25, hc26⟩ := hf15.adr1 hy
    replace he := he.be (t := 20) (v' := .slice (some ⟨bb23, oo24, none⟩) ((fours ph2 fl2 of2 nx2).length) cc7) rfl (by rw [eA25])
    refine ahp (d := 22) (v := .pointer (some ⟨bb23, oo24 + i * 1, none⟩)) 6 rfl (by kernel_rfl) (by kernel_rfl) (by kernel_rfl) rfl rfl rfl he ⟨_, _, (Snap.le.refl _), hh⟩ (fun W hS => by refine ia (i) ts_22 rfl rfl (List.getElem?_eq_some_iff.1 hy).1 rfl he fun a he => ?_; exact aqe he) fun a he => ?_
    refine ahp (d := 23) (v := .int .i64 y) 7 rfl (by kernel_rfl) (by kernel_rfl) (by kernel_rfl) rfl rfl rfl he ⟨_, _, (Snap.le.refl _), hh⟩ (fun W hS => by
        obtain ⟨I27, _, hleI27, hh⟩ := hS
        refine ld rb_3 rfl (hc26 _ _ _ hleI27 hh) rfl he fun a he => ?_
        exact aqe he) fun a he => ?_
    refine ahp (d := 24) (v := .bool (decide (x ≠ y))) 8 rfl (by kernel_rfl) (by kernel_rfl) (by kernel_rfl) rfl rfl rfl he ⟨_, _, (Snap.le.refl _), hh⟩ (fun W hS => by
        refine ne rfl rfl rfl he fun a he => ?_
        exact aqe he) fun a he => ?_
    refine ahd (by kernel_rfl) ?_
    refine en ?_
    refine cnd he rfl (fun h24 => ?_) (fun h24 => ?_)
    · refine sq ?_
      refine rgd (SH I13 [.obj bb2 (.cells ([.int .i64 ph2, .int .i64 fl2, .int .i64 of2, .int .i64 nx2, .slice A_rs2 rs2.length c_rs2, .slice A_pd2 pd2.length c_pd2, .slice A_wd2 wd2.length c_wd2, .bool mk2, .bool lg2]).toArray 28), .obj bb1 (.cells ([.int .i64 ph, .int .i64 fl, .int .i64 of_, .int .i64 nx, .slice A_rs rs.length c_rs, .slice A_pd pd.length c_pd, .slice A_wd wd.length c_wd, .bool mk, .bool lg]).toArray 28)]) 10 mixo rfl hh fun W hh => ?_
      refine ahp (d := 25) (v := .slice A3 ((fours ph fl of_ nx).length) cc4) 0 rfl (by kernel_rfl) (by kernel_rfl) (by kernel_rfl) rfl rfl rfl he ⟨_, _, (Snap.le.refl _), hh⟩ (fun W hS => by
          refine mv rfl rfl he fun a he => ?_
          exact aqe he) fun a he => ?_
      refine ahp (d := 26) (v := .int .i64 ((i : Nat) : Int)) 1 rfl (by kernel_rfl) (by kernel_rfl) (by kernel_rfl) rfl rfl rfl he ⟨_, _, (Snap.le.refl _), hh⟩ (fun W hS => by
          refine mv rfl rfl he fun a he => ?_
          exact aqe he) fun a he => ?_
      obtain ⟨bb28, oo29, eA30, hc31⟩ := (hf11.up hl14).adr1 hx
      replace he := he.be (t := 25) (v' := .slice (some ⟨bb28, oo29, none⟩) ((fours ph fl of_ nx).length) cc4) rfl (by rw [eA30])
      refine ahp (d := 27) (v := .pointer (some ⟨bb28, oo29 + i * 1, none⟩)) 2 rfl (by kernel_rfl) (by kernel_rfl) (by kernel_rfl) rfl rfl rfl he ⟨_, _, (Snap.le.refl _), hh⟩ (fun W hS => by refine ia (i) ts_22 rfl rfl (List.getElem?_eq_some_iff.1 hx).1 rfl he fun a he => ?_; exact aqe he) fun a he => ?_
      refine ahp (d := 28) (v := .int .i64 x) 3 rfl (by kernel_rfl) (by kernel_rfl) (by kernel_rfl) rfl rfl rfl he ⟨_, _, (Snap.le.refl _), hh⟩ (fun W hS => by
          obtain ⟨I32, _, hleI32, hh⟩ := hS
          refine ld rb_3 rfl (hc31 _ _ _ hleI32 hh) rfl he fun a he => ?_
          exact aqe he) fun a he => ?_
      refine ahp (d := 29) (v := .slice A6 ((fours ph2 fl2 of2 nx2).length) cc7) 4 rfl (by kernel_rfl) (by kernel_rfl) (by kernel_rfl) rfl rfl rfl he ⟨_, _, (Snap.le.refl _), hh⟩ (fun W hS => by
          refine mv rfl rfl he fun a he => ?_
          exact aqe he) fun a he => ?_
      refine ahp (d := 30) (v := .int .i64 ((i : Nat) : Int)) 5 rfl (by kernel_rfl) (by kernel_rfl) (by kernel_rfl) rfl rfl rfl he ⟨_, _, (Snap.le.refl _), hh⟩ (fun W hS => by
          refine mv rfl rfl he fun a he => ?_
          exact aqe he) fun a he => ?_
      obtain ⟨bb33, oo34, eA35, hc36⟩ := hf15.adr1 hy
      replace he := he.be (t := 29) (v' := .slice (some ⟨bb33, oo34, none⟩) ((fours ph2 fl2 of2 nx2).length) cc7) rfl (by rw [eA35])
      refine ahp (d := 31) (v := .pointer (some ⟨bb33, oo34 + i * 1, none⟩)) 6 rfl (by kernel_rfl) (by kernel_rfl) (by kernel_rfl) rfl rfl rfl he ⟨_, _, (Snap.le.refl _), hh⟩ (fun W hS => by refine ia (i) ts_22 rfl rfl (List.getElem?_eq_some_iff.1 hy).1 rfl he fun a he => ?_; exact aqe he) fun a he => ?_
      refine ahp (d := 32) (v := .int .i64 y) 7 rfl (by kernel_rfl) (by kernel_rfl) (by kernel_rfl) rfl rfl rfl he ⟨_, _, (Snap.le.refl _), hh⟩ (fun W hS => by
          obtain ⟨I37, _, hleI37, hh⟩ := hS
          refine ld rb_3 rfl (hc36 _ _ _ hleI37 hh) rfl he fun a he => ?_
          exact aqe he) fun a he => ?_
      refine ahp (d := 33) (v := .bool (decide (x < y))) 8 rfl (by kernel_rfl) (by kernel_rfl) (by kernel_rfl) rfl rfl rfl he ⟨_, _, (Snap.le.refl _), hh⟩ (fun W hS => by
          refine lt rfl rfl rfl he fun a he => ?_
          exact aqe he) fun a he => ?_
      refine ahp (d := 4) (v := .bool (decide (x < y))) 9 rfl (by kernel_rfl) (by kernel_rfl) (by kernel_rfl) rfl rfl rfl he ⟨_, _, (Snap.le.refl _), hh⟩ (fun W hS => by
          refine asg rfl rfl he fun a he => ?_
          exact aqe he) fun a he => ?_
      refine ahd (by kernel_rfl) ?_
      refine en ?_
      refine rt ?_
      refine rets1 Tryd.results21 he rfl (Ret.mk ?_)
      rw [less_stop hinv hx hy (fun e => h24 (by have := cmpN_eq.1 e; omega))]
      replace hh := hh.drop
      replace hh := hh.drop
      exact ⟨I13, congrArg Value.bool (decide_eq_decide.2 cmpN_lt.symm), (hl10.trans hl14), hh⟩
    · refine sk ?_
      refine nm_blk ?_
      refine nm_then ?_
      refine rg ?_
      refine mv rfl rfl he fun a he => ?_
      refine ad (((i + 1) : Nat) : Int) rfl rfl (w64 (by omega) (by omega)) rfl he fun a he => ?_
      refine asg rfl rfl he fun a he => ?_
      refine en ?_
      replace hh := hh.up1
      replace hh := hh.up1
      exact ⟨i + 1, ⟨he.keep [0, 1, 2, 3, 5, 6, 7] rfl, hh, by omega, less_next hinv hx hy (cmpN_eq.2 (by omega))⟩, by show 4 - (i + 1) < 4 - i; omega⟩
  · replace h17 : ¬ (i < 4) := by omega
    refine ext ?_
    refine ex_then ?_
    refine ex_then ?_
    refine ex_in ?_
    refine nm_then ?_
    refine sq ?_
    refine rg ?_
    refine asg rfl rfl he fun a he => ?_
    refine en ?_
    refine rt ?_
    refine rets1 Tryd.results21 he rfl (Ret.mk ?_)
    rw [less_end hinv (by omega)]
    replace hh := hh.drop
    replace hh := hh.drop
    exact ⟨I13, rfl, (hl10.trans hl14), hh⟩

end Go.Proofs.YtndaogkpgoimlaaDoor

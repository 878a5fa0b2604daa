/- Walks through the given program's functions, printed op by op by this session's own program; what each computes is told by the plain functions of the texts S... -/
import Derived.Test.YtndaogkpgoimlaaDoorB8
import Derived.KernelRfl
namespace Go.Proofs.YtndaogkpgoimlaaDoor
open Go Go.RowKit K
set_option linter.unusedVariables false
theorem fo_28_0 : fieldOff Tryd.prog 28 0 = some 0 := by kernel_rfl
theorem fo_28_1 : fieldOff Tryd.prog 28 1 = some 1 := by kernel_rfl
theorem fo_28_2 : fieldOff Tryd.prog 28 2 = some 2 := by kernel_rfl
theorem fo_28_3 : fieldOff Tryd.prog 28 3 = some 3 := by kernel_rfl
theorem fo_28_4 : fieldOff Tryd.prog 28 4 = some 4 := by kernel_rfl
theorem fo_28_5 : fieldOff Tryd.prog 28 5 = some 5 := by kernel_rfl
theorem rb_28 : isRowB Tryd.prog 28 = some true := by kernel_rfl
theorem ti_28 : TI Tryd.prog 28 (.agg #[.int .i64 0, .int .i64 0, .int .i64 0, .int .i64 0, .slice none 0 0, .slice none 0 0, .slice none 0 0, .bool false, .bool false]) 9 112 := ⟨by kernel_rfl, rfl⟩
theorem law_real (I : Snap) (L : List Ch) (W : World) (ph : Int) (fl : Int) (of_ : Int) (nx : Int) (A_rs : Option Addr) (c_rs : Nat) (rs : List Int) (A_pd : Option Addr) (c_pd : Nat) (pd : List UInt8) (A_wd : Option Addr) (c_wd : Nat) (wd : List Int) (mk : Bool) (lg : Bool) (hh : Hp I L W) (h_rs : Fz I A_rs (rs.map i64v)) (k_rs : rs.length ≤ c_rs) (h_pd : Fz I A_pd (pd.map b8)) (k_pd : pd.length ≤ c_pd) (h_wd : Fz I A_wd (wd.map r32)) (k_wd : wd.length ≤ c_wd) :
    Calls Tryd.prog 15 #[.agg #[.int .i64 ph, .int .i64 fl, .int .i64 of_, .int .i64 nx, .slice A_rs rs.length c_rs, .slice A_pd pd.length c_pd, .slice A_wd wd.length c_wd, .bool mk, .bool lg]] W (Ret fun v W => ∃ (A1 : Option Addr) (c1 : Nat) (A2 : Option Addr) (c2 : Nat) (A3 : Option Addr) (c3 : Nat), v = .agg #[.int .i64 ph, .int .i64 fl, .int .i64 of_, .int .i64 nx, .slice A1 (rs).length c1, .slice A2 (pd).length c2, .slice A3 (wd).length c3, .bool mk, .bool lg] ∧ Fz I A1 ((rs).map i64v) ∧ (rs).length ≤ c1 ∧ Fz I A2 ((pd).map b8) ∧ (pd).length ≤ c2 ∧ Fz I A3 ((wd).map r32) ∧ (wd).length ≤ c3 ∧ Hp I (L) W) := by
  refine enter Tryd.func15 rfl Tryd.ntmps15 rfl fun a he => ?_
  refine sq ?_
  refine rg ?_
  refine bx #[.int .i64 ph, .int .i64 fl, .int .i64 of_, .int .i64 nx, .slice A_rs rs.length c_rs, .slice A_pd pd.length c_pd, .slice A_wd wd.length c_wd, .bool mk, .bool lg] rfl rfl rfl he hh fun bb1 a W he hh => ?_
  replace hh : Hp I (.obj bb1 (.cells [.int .i64 ph, .int .i64 fl, .int .i64 of_, .int .i64 nx, .slice A_rs rs.length c_rs, .slice A_pd pd.length c_pd, .slice A_wd wd.length c_wd, .bool mk, .bool lg].toArray 36) :: _) W := hh
  refine al ti_28 rfl he hh fun bb2 a W he hh => ?_
  replace hh : Hp I (.obj bb2 (.cells [.int .i64 0, .int .i64 0, .int .i64 0, .int .i64 0, .slice none 0 0, .slice none 0 0, .slice none 0 0, .bool false, .bool false].toArray 28) :: _) W := hh
  refine en ?_
  refine sq ?_
  refine rg ?_
  refine fa fo_36_5 rfl rfl he fun a he => ?_
  refine fa fo_34_0 rfl rfl he fun a he => ?_
  refine ld rb_23 rfl (ocell hh.at1 rfl) rfl he fun a he => ?_
  refine fa fo_36_5 rfl rfl he fun a he => ?_
  refine fa fo_34_1 rfl rfl he fun a he => ?_
  refine fa fo_32_0 rfl rfl he fun a he => ?_
  refine ld rb_24 rfl (ocell hh.at1 rfl) rfl he fun a he => ?_
  refine fa fo_36_5 rfl rfl he fun a he => ?_
  refine fa fo_34_1 rfl rfl he fun a he => ?_
  refine fa fo_32_1 rfl rfl he fun a he => ?_
  refine ld rb_4 rfl (ocell hh.at1 rfl) rfl he fun a he => ?_
  refine fa fo_36_5 rfl rfl he fun a he => ?_
  refine fa fo_34_1 rfl rfl he fun a he => ?_
  refine fa fo_32_2 rfl rfl he fun a he => ?_
  refine ld rb_4 rfl (ocell hh.at1 rfl) rfl he fun a he => ?_
  refine bld #[.slice A_pd pd.length c_pd, .slice A_wd wd.length c_wd, .bool mk, .bool lg] rfl (by kernel_rfl) rfl he fun a he => ?_
  refine al ti_26 rfl he hh fun bb3 a W he hh => ?_
  replace hh : Hp I (.obj bb3 (.cells [.slice none 0 0, .slice none 0 0, .bool false, .bool false].toArray 26) :: _) W := hh
  refine st #[.slice A_pd pd.length c_pd, .slice A_wd wd.length c_wd, .bool mk, .bool lg] ti_26 rfl rfl rfl rfl (by simp [Value.oneCell']) (by simp) he hh fun W hh => ?_
  replace hh : Hp I (.obj bb3 (.cells [.slice A_pd pd.length c_pd, .slice A_wd wd.length c_wd, .bool mk, .bool lg].toArray 26) :: _) W := hh
  refine en ?_
  refine sq ?_
  refine rg ?_
  refine fa fo_36_0 rfl rfl he fun a he => ?_
  refine ld rb_3 rfl (ocell hh.at2 rfl) rfl he fun a he => ?_
  refine fa fo_36_1 rfl rfl he fun a he => ?_
  refine ld rb_3 rfl (ocell hh.at2 rfl) rfl he fun a he => ?_
  refine fa fo_36_2 rfl rfl he fun a he => ?_
  refine ld rb_3 rfl (ocell hh.at2 rfl) rfl he fun a he => ?_
  refine fa fo_36_3 rfl rfl he fun a he => ?_
  refine ld rb_3 rfl (ocell hh.at2 rfl) rfl he fun a he => ?_
  refine fa fo_36_4 rfl rfl he fun a he => ?_
  refine ld rb_22 rfl (ocell hh.at2 rfl) rfl he fun a he => ?_
  refine ldA [.slice A_pd pd.length c_pd, .slice A_wd wd.length c_wd, .bool mk, .bool lg] rb_26 ti_26 rfl ((Rd.obj hh.at0 0).take 4) rfl rfl he fun a he => ?_
  refine bld #[.int .i64 ph, .int .i64 fl, .int .i64 of_, .int .i64 nx, .slice A_rs rs.length c_rs, .slice A_pd pd.length c_pd, .slice A_wd wd.length c_wd, .bool mk, .bool lg] rfl (by kernel_rfl) rfl he fun a he => ?_
  replace hh := hh.up1
  refine st #[.int .i64 ph, .int .i64 fl, .int .i64 of_, .int .i64 nx, .slice A_rs rs.length c_rs, .slice A_pd pd.length c_pd, .slice A_wd wd.length c_wd, .bool mk, .bool lg] ti_28 rfl rfl rfl rfl (by simp [Value.oneCell']) (by simp) he hh fun W hh => ?_
  replace hh : Hp I (.obj bb2 (.cells [.int .i64 ph, .int .i64 fl, .int .i64 of_, .int .i64 nx, .slice A_rs rs.length c_rs, .slice A_pd pd.length c_pd, .slice A_wd wd.length c_wd, .bool mk, .bool lg].toArray 28) :: _) W := hh
  refine en ?_
  refine rt ?_
  refine retsC Tryd.results15 he rfl (loadVar_run rb_28 ti_28 ((Rd.obj hh.at0 0).take 9) rfl) (Ret.mk ?_)
  replace hh := hh.drop
  replace hh := hh.drop
  replace hh := hh.drop
  exact ⟨A_rs, c_rs, A_pd, c_pd, A_wd, c_wd, rfl, h_rs, k_rs, h_pd, k_pd, h_wd, k_wd, hh⟩

theorem law_made (I : Snap) (L : List Ch) (W : World) (ph : Int) (fl : Int) (of_ : Int) (nx : Int) (A_rs : Option Addr) (c_rs : Nat) (rs : List Int) (A_pd : Option Addr) (c_pd : Nat) (pd : List UInt8) (A_wd : Option Addr) (c_wd : Nat) (wd : List Int) (mk : Bool) (lg : Bool) (hh : Hp I L W) (h_rs : Fz I A_rs (rs.map i64v)) (k_rs : rs.length ≤ c_rs) (h_pd : Fz I A_pd (pd.map b8)) (k_pd : pd.length ≤ c_pd) (h_wd : Fz I A_wd (wd.map r32)) (k_wd : wd.length ≤ c_wd) :
    Calls Tryd.prog 12 #[.agg #[.int .i64 ph, .int .i64 fl, .int .i64 of_, .int .i64 nx, .slice A_rs rs.length c_rs, .slice A_pd pd.length c_pd, .slice A_wd wd.length c_wd, .bool mk, .bool lg]] W (Ret fun v W => ∃ (A1 : Option Addr) (c1 : Nat) (A2 : Option Addr) (c2 : Nat) (A3 : Option Addr) (c3 : Nat), v = .agg #[.int .i64 ph, .int .i64 fl, .int .i64 of_, .int .i64 nx, .slice A1 (rs).length c1, .slice A2 (pd).length c2, .slice A3 (wd).length c3, .bool mk, .bool lg] ∧ Fz I A1 ((rs).map i64v) ∧ (rs).length ≤ c1 ∧ Fz I A2 ((pd).map b8) ∧ (pd).length ≤ c2 ∧ Fz I A3 ((wd).map r32) ∧ (wd).length ≤ c3 ∧ Hp I (L) W) := by
  refine enter Tryd.func12 rfl Tryd.ntmps12 rfl fun a he => ?_
  refine sq ?_
  refine rg ?_
  refine bx #[.int .i64 ph, .int .i64 fl, .int .i64 of_, .int .i64 nx, .slice A_rs rs.length c_rs, .slice A_pd pd.length c_pd, .slice A_wd wd.length c_wd, .bool mk, .bool lg] rfl rfl rfl he hh fun bb1 a W he hh => ?_
  replace hh : Hp I (.obj bb1 (.cells [.int .i64 ph, .int .i64 fl, .int .i64 of_, .int .i64 nx, .slice A_rs rs.length c_rs, .slice A_pd pd.length c_pd, .slice A_wd wd.length c_wd, .bool mk, .bool lg].toArray 28) :: _) W := hh
  refine al ti_36 rfl he hh fun bb2 a W he hh => ?_
  replace hh : Hp I (.obj bb2 (.cells [.int .i64 0, .int .i64 0, .int .i64 0, .int .i64 0, .slice none 0 0, .slice none 0 0, .slice none 0 0, .bool false, .bool false].toArray 36) :: _) W := hh
  refine en ?_
  refine sq ?_
  refine rg ?_
  refine fa fo_28_5 rfl rfl he fun a he => ?_
  refine fa fo_26_0 rfl rfl he fun a he => ?_
  refine ld rb_23 rfl (ocell hh.at1 rfl) rfl he fun a he => ?_
  refine fa fo_28_5 rfl rfl he fun a he => ?_
  refine fa fo_26_1 rfl rfl he fun a he => ?_
  refine ld rb_24 rfl (ocell hh.at1 rfl) rfl he fun a he => ?_
  refine fa fo_28_5 rfl rfl he fun a he => ?_
  refine fa fo_26_2 rfl rfl he fun a he => ?_
  refine ld rb_4 rfl (ocell hh.at1 rfl) rfl he fun a he => ?_
  refine fa fo_28_5 rfl rfl he fun a he => ?_
  refine fa fo_26_3 rfl rfl he fun a he => ?_
  refine ld rb_4 rfl (ocell hh.at1 rfl) rfl he fun a he => ?_
  refine bld #[.slice A_wd wd.length c_wd, .bool mk, .bool lg] rfl (by kernel_rfl) rfl he fun a he => ?_
  refine bld #[.slice A_pd pd.length c_pd, .slice A_wd wd.length c_wd, .bool mk, .bool lg] rfl (by kernel_rfl) rfl he fun a he => ?_
  refine al ti_34 rfl he hh fun bb3 a W he hh => ?_
  replace hh : Hp I (.obj bb3 (.cells [.slice none 0 0, .slice none 0 0, .bool false, .bool false].toArray 34) :: _) W := hh
  refine st #[.slice A_pd pd.length c_pd, .slice A_wd wd.length c_wd, .bool mk, .bool lg] ti_34 rfl rfl rfl rfl (by simp [Value.oneCell']) (by simp) he hh fun W hh => ?_
  replace hh : Hp I (.obj bb3 (.cells [.slice A_pd pd.length c_pd, .slice A_wd wd.length c_wd, .bool mk, .bool lg].toArray 34) :: _) W := hh
  refine en ?_
  refine sq ?_
  refine rg ?_
  refine fa fo_28_0 rfl rfl he fun a he => ?_
  refine ld rb_3 rfl (ocell hh.at2 rfl) rfl he fun a he => ?_
  refine fa fo_28_1 rfl rfl he fun a he => ?_
  refine ld rb_3 rfl (ocell hh.at2 rfl) rfl he fun a he => ?_
  refine fa fo_28_2 rfl rfl he fun a he => ?_
  refine ld rb_3 rfl (ocell hh.at2 rfl) rfl he fun a he => ?_
  refine fa fo_28_3 rfl rfl he fun a he => ?_
  refine ld rb_3 rfl (ocell hh.at2 rfl) rfl he fun a he => ?_
  refine fa fo_28_4 rfl rfl he fun a he => ?_
  refine ld rb_22 rfl (ocell hh.at2 rfl) rfl he fun a he => ?_
  refine ldA [.slice A_pd pd.length c_pd, .slice A_wd wd.length c_wd, .bool mk, .bool lg] rb_34 ti_34 rfl ((Rd.obj hh.at0 0).take 4) rfl rfl he fun a he => ?_
  refine bld #[.int .i64 ph, .int .i64 fl, .int .i64 of_, .int .i64 nx, .slice A_rs rs.length c_rs, .slice A_pd pd.length c_pd, .slice A_wd wd.length c_wd, .bool mk, .bool lg] rfl (by kernel_rfl) rfl he fun a he => ?_
  replace hh := hh.up1
  refine st #[.int .i64 ph, .int .i64 fl, .int .i64 of_, .int .i64 nx, .slice A_rs rs.length c_rs, .slice A_pd pd.length c_pd, .slice A_wd wd.length c_wd, .bool mk, .bool lg] ti_36 rfl rfl rfl rfl (by simp [Value.oneCell']) (by simp) he hh fun W hh => ?_
  replace hh : Hp I (.obj bb2 (.cells [.int .i64 ph, .int .i64 fl, .int .i64 of_, .int .i64 nx, .slice A_rs rs.length c_rs, .slice A_pd pd.length c_pd, .slice A_wd wd.length c_wd, .bool mk, .bool lg].toArray 36) :: _) W := hh
  refine en ?_
  refine rt ?_
  refine retsC Tryd.results12 he rfl (loadVar_run rb_36 ti_36 ((Rd.obj hh.at0 0).take 9) rfl) (Ret.mk ?_)
  replace hh := hh.drop
  replace hh := hh.drop
  replace hh := hh.drop
  exact ⟨A_rs, c_rs, A_pd, c_pd, A_wd, c_wd, rfl, h_rs, k_rs, h_pd, k_pd, h_wd, k_wd, hh⟩

theorem law_few (I : Snap) (L : List Ch) (W : World) (ph : Int) (fl : Int) (of_ : Int) (nx : Int) (A_rs : Option Addr) (c_rs : Nat) (rs : List Int) (A_pd : Option Addr) (c_pd : Nat) (pd : List UInt8) (A_wd : Option Addr) (c_wd : Nat) (wd : List Int) (mk : Bool) (lg : Bool) (hh : Hp I L W) (h_rs : Fz I A_rs (rs.map i64v)) (k_rs : rs.length ≤ c_rs) (h_pd : Fz I A_pd (pd.map b8)) (k_pd : pd.length ≤ c_pd) (h_wd : Fz I A_wd (wd.map r32)) (k_wd : wd.length ≤ c_wd) :
    Calls Tryd.prog 9 #[.agg #[.int .i64 ph, .int .i64 fl, .int .i64 of_, .int .i64 nx, .slice A_rs rs.length c_rs, .slice A_pd pd.length c_pd, .slice A_wd wd.length c_wd, .bool mk, .bool lg]] W (Ret fun v W => v = .bool (decide (rs.length ≤ 300) && (decide (pd.length ≤ 300) && decide (wd.length ≤ 300))) ∧ Hp I (L) W) := by
  refine enter Tryd.func9 rfl Tryd.ntmps9 rfl fun a he => ?_
  refine sq ?_
  refine rg ?_
  refine bx #[.int .i64 ph, .int .i64 fl, .int .i64 of_, .int .i64 nx, .slice A_rs rs.length c_rs, .slice A_pd pd.length c_pd, .slice A_wd wd.length c_wd, .bool mk, .bool lg] rfl rfl rfl he hh fun bb1 a W he hh => ?_
  replace hh : Hp I (.obj bb1 (.cells [.int .i64 ph, .int .i64 fl, .int .i64 of_, .int .i64 nx, .slice A_rs rs.length c_rs, .slice A_pd pd.length c_pd, .slice A_wd wd.length c_wd, .bool mk, .bool lg].toArray 28) :: _) W := hh
  refine asg rfl rfl he fun a he => ?_
  refine en ?_
  refine sq ?_
  refine rg ?_
  refine fa fo_28_4 rfl rfl he fun a he => ?_
  refine ld rb_22 rfl (ocell hh.at0 rfl) rfl he fun a he => ?_
  refine ln Tryd.underlying22 rfl rfl he fun a he => ?_
  refine le rfl rfl rfl he fun a he => ?_
  refine mv rfl rfl he fun a he => ?_
  refine sd he (t := 7) rfl (fun h2 he => ?_) (fun h2 he => ?_)
  · replace h2 : rs.length ≤ 300 := by omega
    refine gy rfl he rfl ?_
    refine fa fo_28_5 rfl rfl he fun a he => ?_
    refine gy rfl he rfl ?_
    refine fa fo_26_0 rfl rfl he fun a he => ?_
    refine gy rfl he rfl ?_
    refine ld rb_23 rfl (ocell hh.at0 rfl) rfl he fun a he => ?_
    refine gy rfl he rfl ?_
    refine ln Tryd.underlying23 rfl rfl he fun a he => ?_
    refine gy rfl he rfl ?_
    refine le rfl rfl rfl he fun a he => ?_
    refine pkt rfl rfl rfl he fun a he => ?_
    refine mv rfl rfl he fun a he => ?_
    refine sd he (t := 14) rfl (fun h3 he => ?_) (fun h3 he => ?_)
    · replace h3 : pd.length ≤ 300 := by omega
      refine gy rfl he rfl ?_
      refine fa fo_28_5 rfl rfl he fun a he => ?_
      refine gy rfl he rfl ?_
      refine fa fo_26_1 rfl rfl he fun a he => ?_
      refine gy rfl he rfl ?_
      refine ld rb_24 rfl (ocell hh.at0 rfl) rfl he fun a he => ?_
      refine gy rfl he rfl ?_
      refine ln Tryd.underlying24 rfl rfl he fun a he => ?_
      refine gy rfl he rfl ?_
      refine le rfl rfl rfl he fun a he => ?_
      refine pkt rfl rfl rfl he fun a he => ?_
      refine asg rfl rfl he fun a he => ?_
      refine en ?_
      refine rt ?_
      refine rets1 Tryd.results9 he rfl (Ret.mk ?_)
      replace hh := hh.drop
      exact ⟨by first | (simp [*]; done) | (simp [*]; omega), hh⟩
    · replace h3 : ¬ (pd.length ≤ 300) := by omega
      refine gn rfl rfl he rfl rfl fun a he => ?_
      refine gn rfl rfl he rfl rfl fun a he => ?_
      refine gn rfl rfl he rfl rfl fun a he => ?_
      refine gn rfl rfl he rfl rfl fun a he => ?_
      refine gn rfl rfl he rfl rfl fun a he => ?_
      refine pkf rfl rfl rfl he fun a he => ?_
      refine asg rfl rfl he fun a he => ?_
      refine en ?_
      refine rt ?_
      refine rets1 Tryd.results9 he rfl (Ret.mk ?_)
      replace hh := hh.drop
      exact ⟨by first | (simp [*]; done) | (simp [*]; omega), hh⟩
  · replace h2 : ¬ (rs.length ≤ 300) := by omega
    refine gn rfl rfl he rfl rfl fun a he => ?_
    refine gn rfl rfl he rfl rfl fun a he => ?_
    refine gn rfl rfl he rfl rfl fun a he => ?_
    refine gn rfl rfl he rfl rfl fun a he => ?_
    refine gn rfl rfl he rfl rfl fun a he => ?_
    refine pkf rfl rfl rfl he fun a he => ?_
    refine mv rfl rfl he fun a he => ?_
    refine gn rfl rfl he rfl rfl fun a he => ?_
    refine gn rfl rfl he rfl rfl fun a he => ?_
    refine gn rfl rfl he rfl rfl fun a he => ?_
    refine gn rfl rfl he rfl rfl fun a he => ?_
    refine gn rfl rfl he rfl rfl fun a he => ?_
    refine pkf rfl rfl rfl he fun a he => ?_
    refine asg rfl rfl he fun a he => ?_
    refine en ?_
    refine rt ?_
    refine rets1 Tryd.results9 he rfl (Ret.mk ?_)
    replace hh := hh.drop
    exact ⟨by first | (simp [*]; done) | (simp [*]; omega), hh⟩

end Go.Proofs.YtndaogkpgoimlaaDoor

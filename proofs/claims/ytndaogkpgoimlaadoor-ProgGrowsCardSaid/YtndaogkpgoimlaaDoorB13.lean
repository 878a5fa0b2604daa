/- Walks through the given program's functions, printed op by op by this session's own program; what each computes is told by the plain functions of the texts S... -/
import Derived.Test.YtndaogkpgoimlaaDoorB12
import Derived.Test.YtndaogkpgoimlaaDoorS21
import Derived.KernelRfl
namespace Go.Proofs.YtndaogkpgoimlaaDoor
open Go Go.RowKit K
set_option linter.unusedVariables false
theorem cb_12 : callable Tryd.prog 12 = true := by kernel_rfl
theorem cb_20 : callable Tryd.prog 20 = true := by kernel_rfl
theorem cb_8 : callable Tryd.prog 8 = true := by kernel_rfl
theorem cb_9 : callable Tryd.prog 9 = true := by kernel_rfl
set_option maxHeartbeats 4000000 in
theorem law_ProgOrder (I : Snap) (L : List Ch) (W : World) (ph : Int) (fl : Int) (of_ : Int) (nx : Int) (A_rs : Option Addr) (c_rs : Nat) (rs : List Int) (A_pd : Option Addr) (c_pd : Nat) (pd : List UInt8) (A_wd : Option Addr) (c_wd : Nat) (wd : List Int) (mk : Bool) (lg : Bool) (ph2 : Int) (fl2 : Int) (of2 : Int) (nx2 : Int) (A_rs2 : Option Addr) (c_rs2 : Nat) (rs2 : List Int) (A_pd2 : Option Addr) (c_pd2 : Nat) (pd2 : List UInt8) (A_wd2 : Option Addr) (c_wd2 : Nat) (wd2 : List Int) (mk2 : Bool) (lg2 : Bool) (ph3 : Int) (fl3 : Int) (of3 : Int) (nx3 : Int) (A_rs3 : Option Addr) (c_rs3 : Nat) (rs3 : List Int) (A_pd3 : Option Addr) (c_pd3 : Nat) (pd3 : List UInt8) (A_wd3 : Option Addr) (c_wd3 : Nat) (wd3 : List Int) (mk3 : Bool) (lg3 : Bool) (hh : Hp I L W) (h_rs : Fz I A_rs (rs.map i64v)) (k_rs : rs.length ≤ c_rs) (h_pd : Fz I A_pd (pd.map b8)) (k_pd : pd.length ≤ c_pd) (h_wd : Fz I A_wd (wd.map r32)) (k_wd : wd.length ≤ c_wd) (h_rs2 : Fz I A_rs2 (rs2.map i64v)) (k_rs2 : rs2.length ≤ c_rs2) (h_pd2 : Fz I A_pd2 (pd2.map b8)) (k_pd2 : pd2.length ≤ c_pd2) (h_wd2 : Fz I A_wd2 (wd2.map r32)) (k_wd2 : wd2.length ≤ c_wd2) (h_rs3 : Fz I A_rs3 (rs3.map i64v)) (k_rs3 : rs3.length ≤ c_rs3) (h_pd3 : Fz I A_pd3 (pd3.map b8)) (k_pd3 : pd3.length ≤ c_pd3) (h_wd3 : Fz I A_wd3 (wd3.map r32)) (k_wd3 : wd3.length ≤ c_wd3) :
    Calls Tryd.prog 6 #[.agg #[.int .i64 ph, .int .i64 fl, .int .i64 of_, .int .i64 nx, .slice A_rs rs.length c_rs, .slice A_pd pd.length c_pd, .slice A_wd wd.length c_wd, .bool mk, .bool lg], .agg #[.int .i64 ph2, .int .i64 fl2, .int .i64 of2, .int .i64 nx2, .slice A_rs2 rs2.length c_rs2, .slice A_pd2 pd2.length c_pd2, .slice A_wd2 wd2.length c_wd2, .bool mk2, .bool lg2], .agg #[.int .i64 ph3, .int .i64 fl3, .int .i64 of3, .int .i64 nx3, .slice A_rs3 rs3.length c_rs3, .slice A_pd3 pd3.length c_pd3, .slice A_wd3 wd3.length c_wd3, .bool mk3, .bool lg3]] W (Ret fun v W => ∃ (I' : Snap), v = .bool true ∧ I.le I' ∧ Hp I' (L) W) := by
  refine enter Tryd.func6 rfl Tryd.ntmps6 rfl fun a he => ?_
  refine sq ?_
  refine rg ?_
  refine bx #[.int .i64 ph, .int .i64 fl, .int .i64 of_, .int .i64 nx, .slice A_rs rs.length c_rs, .slice A_pd pd.length c_pd, .slice A_wd wd.length c_wd, .bool mk, .bool lg] rfl rfl rfl he hh fun bb1 a W he hh => ?_
  replace hh : Hp I (.obj bb1 (.cells [.int .i64 ph, .int .i64 fl, .int .i64 of_, .int .i64 nx, .slice A_rs rs.length c_rs, .slice A_pd pd.length c_pd, .slice A_wd wd.length c_wd, .bool mk, .bool lg].toArray 28) :: _) W := hh
  refine bx #[.int .i64 ph2, .int .i64 fl2, .int .i64 of2, .int .i64 nx2, .slice A_rs2 rs2.length c_rs2, .slice A_pd2 pd2.length c_pd2, .slice A_wd2 wd2.length c_wd2, .bool mk2, .bool lg2] rfl rfl rfl he hh fun bb2 a W he hh => ?_
  replace hh : Hp I (.obj bb2 (.cells [.int .i64 ph2, .int .i64 fl2, .int .i64 of2, .int .i64 nx2, .slice A_rs2 rs2.length c_rs2, .slice A_pd2 pd2.length c_pd2, .slice A_wd2 wd2.length c_wd2, .bool mk2, .bool lg2].toArray 28) :: _) W := hh
  refine bx #[.int .i64 ph3, .int .i64 fl3, .int .i64 of3, .int .i64 nx3, .slice A_rs3 rs3.length c_rs3, .slice A_pd3 pd3.length c_pd3, .slice A_wd3 wd3.length c_wd3, .bool mk3, .bool lg3] rfl rfl rfl he hh fun bb3 a W he hh => ?_
  replace hh : Hp I (.obj bb3 (.cells [.int .i64 ph3, .int .i64 fl3, .int .i64 of3, .int .i64 nx3, .slice A_rs3 rs3.length c_rs3, .slice A_pd3 pd3.length c_pd3, .slice A_wd3 wd3.length c_wd3, .bool mk3, .bool lg3].toArray 28) :: _) W := hh
  refine asg rfl rfl he fun a he => ?_
  refine en ?_
  refine sq ?_
  refine rg ?_
  refine cal cb_8 rfl (law_shown _ _ _  hh ) rfl he fun v a W hp he => ?_
  obtain ⟨I4, rfl, hl5, hh⟩ := hp
  refine asg rfl rfl he fun a he => ?_
  refine en ?_
  refine sq ?_
  refine sq ?_
  refine rg ?_
  refine ldA [.int .i64 ph, .int .i64 fl, .int .i64 of_, .int .i64 nx, .slice A_rs rs.length c_rs, .slice A_pd pd.length c_pd, .slice A_wd wd.length c_wd, .bool mk, .bool lg] rb_28 ti_28 rfl ((Rd.obj hh.at2 0).take 9) rfl rfl he fun a he => ?_
  refine cal cb_9 rfl (law_few _ _ _ ph fl of_ nx A_rs c_rs rs A_pd c_pd pd A_wd c_wd wd mk lg hh (h_rs.up hl5) k_rs (h_pd.up hl5) k_pd (h_wd.up hl5) k_wd) rfl he fun v a W hp he => ?_
  obtain ⟨rfl, hh⟩ := hp
  refine nt rfl rfl he fun a he => ?_
  refine mv rfl rfl he fun a he => ?_
  refine jnl (fun a W => Env 102 [(0, .agg #[.int .i64 ph, .int .i64 fl, .int .i64 of_, .int .i64 nx, .slice A_rs rs.length c_rs, .slice A_pd pd.length c_pd, .slice A_wd wd.length c_wd, .bool mk, .bool lg]), (1, .agg #[.int .i64 ph2, .int .i64 fl2, .int .i64 of2, .int .i64 nx2, .slice A_rs2 rs2.length c_rs2, .slice A_pd2 pd2.length c_pd2, .slice A_wd2 wd2.length c_wd2, .bool mk2, .bool lg2]), (2, .agg #[.int .i64 ph3, .int .i64 fl3, .int .i64 of3, .int .i64 nx3, .slice A_rs3 rs3.length c_rs3, .slice A_pd3 pd3.length c_pd3, .slice A_wd3 wd3.length c_wd3, .bool mk3, .bool lg3]), (3, .pointer (some ⟨bb1, 0, none⟩)), (4, .pointer (some ⟨bb2, 0, none⟩)), (5, .pointer (some ⟨bb3, 0, none⟩)), (6, .bool false), (7, .bool true), (20, .bool ((!(decide (rs.length ≤ 300) && (decide (pd.length ≤ 300) && decide (wd.length ≤ 300)))) || (!(decide (rs2.length ≤ 300) && (decide (pd2.length ≤ 300) && decide (wd2.length ≤ 300))))))] a ∧ Hp I4 (.obj bb3 (.cells ([.int .i64 ph3, .int .i64 fl3, .int .i64 of3, .int .i64 nx3, .slice A_rs3 rs3.length c_rs3, .slice A_pd3 pd3.length c_pd3, .slice A_wd3 wd3.length c_wd3, .bool mk3, .bool lg3]).toArray 28) :: .obj bb2 (.cells ([.int .i64 ph2, .int .i64 fl2, .int .i64 of2, .int .i64 nx2, .slice A_rs2 rs2.length c_rs2, .slice A_pd2 pd2.length c_pd2, .slice A_wd2 wd2.length c_wd2, .bool mk2, .bool lg2]).toArray 28) :: .obj bb1 (.cells ([.int .i64 ph, .int .i64 fl, .int .i64 of_, .int .i64 nx, .slice A_rs rs.length c_rs, .slice A_pd pd.length c_pd, .slice A_wd wd.length c_wd, .bool mk, .bool lg]).toArray 28) :: L) W) 4 (fun a W hM => ?_) fun key7 => ?_
  · obtain ⟨he, hh⟩ := hM
    refine mv rfl rfl he fun a he => ?_
    refine jnl (fun a W => Env 102 [(0, .agg #[.int .i64 ph, .int .i64 fl, .int .i64 of_, .int .i64 nx, .slice A_rs rs.length c_rs, .slice A_pd pd.length c_pd, .slice A_wd wd.length c_wd, .bool mk, .bool lg]), (1, .agg #[.int .i64 ph2, .int .i64 fl2, .int .i64 of2, .int .i64 nx2, .slice A_rs2 rs2.length c_rs2, .slice A_pd2 pd2.length c_pd2, .slice A_wd2 wd2.length c_wd2, .bool mk2, .bool lg2]), (2, .agg #[.int .i64 ph3, .int .i64 fl3, .int .i64 of3, .int .i64 nx3, .slice A_rs3 rs3.length c_rs3, .slice A_pd3 pd3.length c_pd3, .slice A_wd3 wd3.length c_wd3, .bool mk3, .bool lg3]), (3, .pointer (some ⟨bb1, 0, none⟩)), (4, .pointer (some ⟨bb2, 0, none⟩)), (5, .pointer (some ⟨bb3, 0, none⟩)), (6, .bool false), (7, .bool true), (25, .bool (((!(decide (rs.length ≤ 300) && (decide (pd.length ≤ 300) && decide (wd.length ≤ 300)))) || (!(decide (rs2.length ≤ 300) && (decide (pd2.length ≤ 300) && decide (wd2.length ≤ 300))))) || (!(decide (rs3.length ≤ 300) && (decide (pd3.length ≤ 300) && decide (wd3.length ≤ 300))))))] a ∧ Hp I4 (.obj bb3 (.cells ([.int .i64 ph3, .int .i64 fl3, .int .i64 of3, .int .i64 nx3, .slice A_rs3 rs3.length c_rs3, .slice A_pd3 pd3.length c_pd3, .slice A_wd3 wd3.length c_wd3, .bool mk3, .bool lg3]).toArray 28) :: .obj bb2 (.cells ([.int .i64 ph2, .int .i64 fl2, .int .i64 of2, .int .i64 nx2, .slice A_rs2 rs2.length c_rs2, .slice A_pd2 pd2.length c_pd2, .slice A_wd2 wd2.length c_wd2, .bool mk2, .bool lg2]).toArray 28) :: .obj bb1 (.cells ([.int .i64 ph, .int .i64 fl, .int .i64 of_, .int .i64 nx, .slice A_rs rs.length c_rs, .slice A_pd pd.length c_pd, .slice A_wd wd.length c_wd, .bool mk, .bool lg]).toArray 28) :: L) W) 4 (fun a W hM => ?_) fun key9 => ?_
    · obtain ⟨he, hh⟩ := hM
      refine en ?_
      refine cnb he rfl (fun h10 => ?_) (fun h10 => ?_)
      · refine sq ?_
        refine rg ?_
        refine mv rfl rfl he fun a he => ?_
        refine asg rfl rfl he fun a he => ?_
        refine en ?_
        refine rt ?_
        refine rets1 Tryd.results6 he rfl (Ret.mk ?_)
        replace hh := hh.drop
        replace hh := hh.drop
        replace hh := hh.drop
        exact ⟨I4, rfl, hl5, hh⟩
      · refine sk ?_
        refine nm_then ?_
        refine sq ?_
        refine rgd (SH I4 [.obj bb3 (.cells ([.int .i64 ph3, .int .i64 fl3, .int .i64 of3, .int .i64 nx3, .slice A_rs3 rs3.length c_rs3, .slice A_pd3 pd3.length c_pd3, .slice A_wd3 wd3.length c_wd3, .bool mk3, .bool lg3]).toArray 28), .obj bb2 (.cells ([.int .i64 ph2, .int .i64 fl2, .int .i64 of2, .int .i64 nx2, .slice A_rs2 rs2.length c_rs2, .slice A_pd2 pd2.length c_pd2, .slice A_wd2 wd2.length c_wd2, .bool mk2, .bool lg2]).toArray 28), .obj bb1 (.cells ([.int .i64 ph, .int .i64 fl, .int .i64 of_, .int .i64 nx, .slice A_rs rs.length c_rs, .slice A_pd pd.length c_pd, .slice A_wd wd.length c_wd, .bool mk, .bool lg]).toArray 28)]) 6 mixo rfl hh fun W hh => ?_
        refine ahp (d := 27) (v := .agg #[.int .i64 ph, .int .i64 fl, .int .i64 of_, .int .i64 nx, .slice A_rs rs.length c_rs, .slice A_pd pd.length c_pd, .slice A_wd wd.length c_wd, .bool mk, .bool lg]) 0 rfl (by kernel_rfl) (by kernel_rfl) (by kernel_rfl) rfl rfl rfl he ⟨_, _, (Snap.le.refl _), hh⟩ (fun W hS => by
            obtain ⟨I11, _, hleI11, hh⟩ := hS
            refine ldA [.int .i64 ph, .int .i64 fl, .int .i64 of_, .int .i64 nx, .slice A_rs rs.length c_rs, .slice A_pd pd.length c_pd, .slice A_wd wd.length c_wd, .bool mk, .bool lg] rb_28 ti_28 rfl ((Rd.obj hh.at2 0).take 9) rfl rfl he fun a he => ?_
            exact aqe he) fun a he => ?_
        refine ahp (d := 29) (v := .agg #[.int .i64 ph2, .int .i64 fl2, .int .i64 of2, .int .i64 nx2, .slice A_rs2 rs2.length c_rs2, .slice A_pd2 pd2.length c_pd2, .slice A_wd2 wd2.length c_wd2, .bool mk2, .bool lg2]) 2 rfl (by kernel_rfl) (by kernel_rfl) (by kernel_rfl) rfl rfl rfl he ⟨_, _, (Snap.le.refl _), hh⟩ (fun W hS => by
            obtain ⟨I12, _, hleI12, hh⟩ := hS
            refine ldA [.int .i64 ph2, .int .i64 fl2, .int .i64 of2, .int .i64 nx2, .slice A_rs2 rs2.length c_rs2, .slice A_pd2 pd2.length c_pd2, .slice A_wd2 wd2.length c_wd2, .bool mk2, .bool lg2] rb_28 ti_28 rfl ((Rd.obj hh.at1 0).take 9) rfl rfl he fun a he => ?_
            exact aqe he) fun a he => ?_
        refine aha1 (i := 1) (by kernel_rfl) ?_
        refine aop rfl ?_
        refine cal cb_12 rfl (law_made _ _ _ ph fl of_ nx A_rs c_rs rs A_pd c_pd pd A_wd c_wd wd mk lg hh (h_rs.up hl5) k_rs (h_pd.up hl5) k_pd (h_wd.up hl5) k_wd) rfl he fun v a W hp he => ?_
        obtain ⟨A13, cc14, A15, cc16, A17, cc18, rfl, hf19, hc20, hf21, hc22, hf23, hc24, hh⟩ := hp
        refine aen ⟨_, _, (Snap.le.refl _), hh⟩ ?_
        refine aha1 (i := 3) (by kernel_rfl) ?_
        refine aop rfl ?_
        refine cal cb_12 rfl (law_made _ _ _ ph2 fl2 of2 nx2 A_rs2 c_rs2 rs2 A_pd2 c_pd2 pd2 A_wd2 c_wd2 wd2 mk2 lg2 hh (h_rs2.up hl5) k_rs2 (h_pd2.up hl5) k_pd2 (h_wd2.up hl5) k_wd2) rfl he fun v a W hp he => ?_
        obtain ⟨A25, cc26, A27, cc28, A29, cc30, rfl, hf31, hc32, hf33, hc34, hf35, hc36, hh⟩ := hp
        refine aen ⟨_, _, (Snap.le.refl _), hh⟩ ?_
        refine aha1 (i := 4) (by kernel_rfl) ?_
        refine aop rfl ?_
        refine cal cb_20 rfl (prog_Less _ _ _ ph fl of_ nx A13 cc14 rs A15 cc16 pd A17 cc18 wd mk lg ph2 fl2 of2 nx2 A25 cc26 rs2 A27 cc28 pd2 A29 cc30 wd2 mk2 lg2 hh hf19 hc20 hf21 hc22 hf23 hc24 hf31 hc32 hf33 hc34 hf35 hc36) rfl he fun v a W hp he => ?_
        obtain ⟨rfl, hh⟩ := hp
        refine aen ⟨_, _, (Snap.le.refl _), hh⟩ ?_
        refine ahp (d := 8) (v := .bool (lessL (fours ph fl of_ nx) (fours ph2 fl2 of2 nx2))) 5 rfl (by kernel_rfl) (by kernel_rfl) (by kernel_rfl) rfl rfl rfl he ⟨_, _, (Snap.le.refl _), hh⟩ (fun W hS => by
            refine asg rfl rfl he fun a he => ?_
            exact aqe he) fun a he => ?_
        refine ahd (by kernel_rfl) ?_
        refine en ?_
        refine sq ?_
        refine rgd (SH I4 [.obj bb3 (.cells ([.int .i64 ph3, .int .i64 fl3, .int .i64 of3, .int .i64 nx3, .slice A_rs3 rs3.length c_rs3, .slice A_pd3 pd3.length c_pd3, .slice A_wd3 wd3.length c_wd3, .bool mk3, .bool lg3]).toArray 28), .obj bb2 (.cells ([.int .i64 ph2, .int .i64 fl2, .int .i64 of2, .int .i64 nx2, .slice A_rs2 rs2.length c_rs2, .slice A_pd2 pd2.length c_pd2, .slice A_wd2 wd2.length c_wd2, .bool mk2, .bool lg2]).toArray 28), .obj bb1 (.cells ([.int .i64 ph, .int .i64 fl, .int .i64 of_, .int .i64 nx, .slice A_rs rs.length c_rs, .slice A_pd pd.length c_pd, .slice A_wd wd.length c_wd, .bool mk, .bool lg]).toArray 28)]) 6 mixo rfl hh fun W hh => ?_
        refine ahp (d := 32) (v := .agg #[.int .i64 ph2, .int .i64 fl2, .int .i64 of2, .int .i64 nx2, .slice A_rs2 rs2.length c_rs2, .slice A_pd2 pd2.length c_pd2, .slice A_wd2 wd2.length c_wd2, .bool mk2, .bool lg2]) 0 rfl (by kernel_rfl) (by kernel_rfl) (by kernel_rfl) rfl rfl rfl he ⟨_, _, (Snap.le.refl _), hh⟩ (fun W hS => by
            obtain ⟨I37, _, hleI37, hh⟩ := hS
            refine ldA [.int .i64 ph2, .int .i64 fl2, .int .i64 of2, .int .i64 nx2, .slice A_rs2 rs2.length c_rs2, .slice A_pd2 pd2.length c_pd2, .slice A_wd2 wd2.length c_wd2, .bool mk2, .bool lg2] rb_28 ti_28 rfl ((Rd.obj hh.at1 0).take 9) rfl rfl he fun a he => ?_
            exact aqe he) fun a he => ?_
        refine ahp (d := 34) (v := .agg #[.int .i64 ph3, .int .i64 fl3, .int .i64 of3, .int .i64 nx3, .slice A_rs3 rs3.length c_rs3, .slice A_pd3 pd3.length c_pd3, .slice A_wd3 wd3.length c_wd3, .bool mk3, .bool lg3]) 2 rfl (by kernel_rfl) (by kernel_rfl) (by kernel_rfl) rfl rfl rfl he ⟨_, _, (Snap.le.refl _), hh⟩ (fun W hS => by
            obtain ⟨I38, _, hleI38, hh⟩ := hS
            refine ldA [.int .i64 ph3, .int .i64 fl3, .int .i64 of3, .int .i64 nx3, .slice A_rs3 rs3.length c_rs3, .slice A_pd3 pd3.length c_pd3, .slice A_wd3 wd3.length c_wd3, .bool mk3, .bool lg3] rb_28 ti_28 rfl ((Rd.obj hh.at0 0).take 9) rfl rfl he fun a he => ?_
            exact aqe he) fun a he => ?_
        refine aha1 (i := 1) (by kernel_rfl) ?_
        refine aop rfl ?_
        refine cal cb_12 rfl (law_made _ _ _ ph2 fl2 of2 nx2 A_rs2 c_rs2 rs2 A_pd2 c_pd2 pd2 A_wd2 c_wd2 wd2 mk2 lg2 hh (h_rs2.up hl5) k_rs2 (h_pd2.up hl5) k_pd2 (h_wd2.up hl5) k_wd2) rfl he fun v a W hp he => ?_
        obtain ⟨A39, cc40, A41, cc42, A43, cc44, rfl, hf45, hc46, hf47, hc48, hf49, hc50, hh⟩ := hp
        refine aen ⟨_, _, (Snap.le.refl _), hh⟩ ?_
        refine aha1 (i := 3) (by kernel_rfl) ?_
        refine aop rfl ?_
        refine cal cb_12 rfl (law_made _ _ _ ph3 fl3 of3 nx3 A_rs3 c_rs3 rs3 A_pd3 c_pd3 pd3 A_wd3 c_wd3 wd3 mk3 lg3 hh (h_rs3.up hl5) k_rs3 (h_pd3.up hl5) k_pd3 (h_wd3.up hl5) k_wd3) rfl he fun v a W hp he => ?_
        obtain ⟨A51, cc52, A53, cc54, A55, cc56, rfl, hf57, hc58, hf59, hc60, hf61, hc62, hh⟩ := hp
        refine aen ⟨_, _, (Snap.le.refl _), hh⟩ ?_
        refine aha1 (i := 4) (by kernel_rfl) ?_
        refine aop rfl ?_
        refine cal cb_20 rfl (prog_Less _ _ _ ph2 fl2 of2 nx2 A39 cc40 rs2 A41 cc42 pd2 A43 cc44 wd2 mk2 lg2 ph3 fl3 of3 nx3 A51 cc52 rs3 A53 cc54 pd3 A55 cc56 wd3 mk3 lg3 hh hf45 hc46 hf47 hc48 hf49 hc50 hf57 hc58 hf59 hc60 hf61 hc62) rfl he fun v a W hp he => ?_
        obtain ⟨rfl, hh⟩ := hp
        refine aen ⟨_, _, (Snap.le.refl _), hh⟩ ?_
        refine ahp (d := 9) (v := .bool (lessL (fours ph2 fl2 of2 nx2) (fours ph3 fl3 of3 nx3))) 5 rfl (by kernel_rfl) (by kernel_rfl) (by kernel_rfl) rfl rfl rfl he ⟨_, _, (Snap.le.refl _), hh⟩ (fun W hS => by
            refine asg rfl rfl he fun a he => ?_
            exact aqe he) fun a he => ?_
        refine ahd (by kernel_rfl) ?_
        refine en ?_
        refine sq ?_
        refine rgd (SH I4 [.obj bb3 (.cells ([.int .i64 ph3, .int .i64 fl3, .int .i64 of3, .int .i64 nx3, .slice A_rs3 rs3.length c_rs3, .slice A_pd3 pd3.length c_pd3, .slice A_wd3 wd3.length c_wd3, .bool mk3, .bool lg3]).toArray 28), .obj bb2 (.cells ([.int .i64 ph2, .int .i64 fl2, .int .i64 of2, .int .i64 nx2, .slice A_rs2 rs2.length c_rs2, .slice A_pd2 pd2.length c_pd2, .slice A_wd2 wd2.length c_wd2, .bool mk2, .bool lg2]).toArray 28), .obj bb1 (.cells ([.int .i64 ph, .int .i64 fl, .int .i64 of_, .int .i64 nx, .slice A_rs rs.length c_rs, .slice A_pd pd.length c_pd, .slice A_wd wd.length c_wd, .bool mk, .bool lg]).toArray 28)]) 6 mixo rfl hh fun W hh => ?_
        refine ahp (d := 37) (v := .agg #[.int .i64 ph, .int .i64 fl, .int .i64 of_, .int .i64 nx, .slice A_rs rs.length c_rs, .slice A_pd pd.length c_pd, .slice A_wd wd.length c_wd, .bool mk, .bool lg]) 0 rfl (by kernel_rfl) (by kernel_rfl) (by kernel_rfl) rfl rfl rfl he ⟨_, _, (Snap.le.refl _), hh⟩ (fun W hS => by
            obtain ⟨I63, _, hleI63, hh⟩ := hS
            refine ldA [.int .i64 ph, .int .i64 fl, .int .i64 of_, .int .i64 nx, .slice A_rs rs.length c_rs, .slice A_pd pd.length c_pd, .slice A_wd wd.length c_wd, .bool mk, .bool lg] rb_28 ti_28 rfl ((Rd.obj hh.at2 0).take 9) rfl rfl he fun a he => ?_
            exact aqe he) fun a he => ?_
        refine ahp (d := 39) (v := .agg #[.int .i64 ph3, .int .i64 fl3, .int .i64 of3, .int .i64 nx3, .slice A_rs3 rs3.length c_rs3, .slice A_pd3 pd3.length c_pd3, .slice A_wd3 wd3.length c_wd3, .bool mk3, .bool lg3]) 2 rfl (by kernel_rfl) (by kernel_rfl) (by kernel_rfl) rfl rfl rfl he ⟨_, _, (Snap.le.refl _), hh⟩ (fun W hS => by
            obtain ⟨I64, _, hleI64, hh⟩ := hS
            refine ldA [.int .i64 ph3, .int .i64 fl3, .int .i64 of3, .int .i64 nx3, .slice A_rs3 rs3.length c_rs3, .slice A_pd3 pd3.length c_pd3, .slice A_wd3 wd3.length c_wd3, .bool mk3, .bool lg3] rb_28 ti_28 rfl ((Rd.obj hh.at0 0).take 9) rfl rfl he fun a he => ?_
            exact aqe he) fun a he => ?_
        refine aha1 (i := 1) (by kernel_rfl) ?_
        refine aop rfl ?_
        refine cal cb_12 rfl (law_made _ _ _ ph fl of_ nx A_rs c_rs rs A_pd c_pd pd A_wd c_wd wd mk lg hh (h_rs.up hl5) k_rs (h_pd.up hl5) k_pd (h_wd.up hl5) k_wd) rfl he fun v a W hp he => ?_
        obtain ⟨A65, cc66, A67, cc68, A69, cc70, rfl, hf71, hc72, hf73, hc74, hf75, hc76, hh⟩ := hp
        refine aen ⟨_, _, (Snap.le.refl _), hh⟩ ?_
        refine aha1 (i := 3) (by kernel_rfl) ?_
        refine aop rfl ?_
        refine cal cb_12 rfl (law_made _ _ _ ph3 fl3 of3 nx3 A_rs3 c_rs3 rs3 A_pd3 c_pd3 pd3 A_wd3 c_wd3 wd3 mk3 lg3 hh (h_rs3.up hl5) k_rs3 (h_pd3.up hl5) k_pd3 (h_wd3.up hl5) k_wd3) rfl he fun v a W hp he => ?_
        obtain ⟨A77, cc78, A79, cc80, A81, cc82, rfl, hf83, hc84, hf85, hc86, hf87, hc88, hh⟩ := hp
        refine aen ⟨_, _, (Snap.le.refl _), hh⟩ ?_
        refine aha1 (i := 4) (by kernel_rfl) ?_
        refine aop rfl ?_
        refine cal cb_20 rfl (prog_Less _ _ _ ph fl of_ nx A65 cc66 rs A67 cc68 pd A69 cc70 wd mk lg ph3 fl3 of3 nx3 A77 cc78 rs3 A79 cc80 pd3 A81 cc82 wd3 mk3 lg3 hh hf71 hc72 hf73 hc74 hf75 hc76 hf83 hc84 hf85 hc86 hf87 hc88) rfl he fun v a W hp he => ?_
        obtain ⟨rfl, hh⟩ := hp
        refine aen ⟨_, _, (Snap.le.refl _), hh⟩ ?_
        refine ahp (d := 10) (v := .bool (lessL (fours ph fl of_ nx) (fours ph3 fl3 of3 nx3))) 5 rfl (by kernel_rfl) (by kernel_rfl) (by kernel_rfl) rfl rfl rfl he ⟨_, _, (Snap.le.refl _), hh⟩ (fun W hS => by
            refine asg rfl rfl he fun a he => ?_
            exact aqe he) fun a he => ?_
        refine ahd (by kernel_rfl) ?_
        refine en ?_
        refine sq ?_
        refine rg ?_
        refine ldA [.int .i64 ph2, .int .i64 fl2, .int .i64 of2, .int .i64 nx2, .slice A_rs2 rs2.length c_rs2, .slice A_pd2 pd2.length c_pd2, .slice A_wd2 wd2.length c_wd2, .bool mk2, .bool lg2] rb_28 ti_28 rfl ((Rd.obj hh.at1 0).take 9) rfl rfl he fun a he => ?_
        refine al ti_28 rfl he hh fun bb89 a W he hh => ?_
        replace hh : Hp I4 (.obj bb89 (.cells [.int .i64 0, .int .i64 0, .int .i64 0, .int .i64 0, .slice none 0 0, .slice none 0 0, .slice none 0 0, .bool false, .bool false].toArray 28) :: _) W := hh
        refine st #[.int .i64 ph2, .int .i64 fl2, .int .i64 of2, .int .i64 nx2, .slice A_rs2 rs2.length c_rs2, .slice A_pd2 pd2.length c_pd2, .slice A_wd2 wd2.length c_wd2, .bool mk2, .bool lg2] ti_28 rfl rfl rfl rfl (by simp [Value.oneCell']) (by simp) he hh fun W hh => ?_
        replace hh : Hp I4 (.obj bb89 (.cells [.int .i64 ph2, .int .i64 fl2, .int .i64 of2, .int .i64 nx2, .slice A_rs2 rs2.length c_rs2, .slice A_pd2 pd2.length c_pd2, .slice A_wd2 wd2.length c_wd2, .bool mk2, .bool lg2].toArray 28) :: _) W := hh
        refine en ?_
        refine sq ?_
        refine rg ?_
        refine fa fo_28_2 rfl rfl he fun a he => ?_
        refine ld rb_3 rfl (ocell hh.at3 rfl) rfl he fun a he => ?_
        refine fa fo_28_2 rfl rfl he fun a he => ?_
        refine st #[.int .i64 of_] ti_3 rfl rfl rfl rfl (by simp [Value.oneCell']) (by simp) he hh fun W hh => ?_
        replace hh : Hp I4 (.obj bb89 (.cells [.int .i64 ph2, .int .i64 fl2, .int .i64 of_, .int .i64 nx2, .slice A_rs2 rs2.length c_rs2, .slice A_pd2 pd2.length c_pd2, .slice A_wd2 wd2.length c_wd2, .bool mk2, .bool lg2].toArray 28) :: _) W := hh
        refine en ?_
        refine sq ?_
        refine rg ?_
        refine fa fo_28_0 rfl rfl he fun a he => ?_
        refine ld rb_3 rfl (ocell hh.at3 rfl) rfl he fun a he => ?_
        refine fa fo_28_0 rfl rfl he fun a he => ?_
        refine st #[.int .i64 ph] ti_3 rfl rfl rfl rfl (by simp [Value.oneCell']) (by simp) he hh fun W hh => ?_
        replace hh : Hp I4 (.obj bb89 (.cells [.int .i64 ph, .int .i64 fl2, .int .i64 of_, .int .i64 nx2, .slice A_rs2 rs2.length c_rs2, .slice A_pd2 pd2.length c_pd2, .slice A_wd2 wd2.length c_wd2, .bool mk2, .bool lg2].toArray 28) :: _) W := hh
        refine en ?_
        refine sq ?_
        refine rg ?_
        refine fa fo_28_1 rfl rfl he fun a he => ?_
        refine ld rb_3 rfl (ocell hh.at3 rfl) rfl he fun a he => ?_
        refine fa fo_28_1 rfl rfl he fun a he => ?_
        refine st #[.int .i64 fl] ti_3 rfl rfl rfl rfl (by simp [Value.oneCell']) (by simp) he hh fun W hh => ?_
        replace hh : Hp I4 (.obj bb89 (.cells [.int .i64 ph, .int .i64 fl, .int .i64 of_, .int .i64 nx2, .slice A_rs2 rs2.length c_rs2, .slice A_pd2 pd2.length c_pd2, .slice A_wd2 wd2.length c_wd2, .bool mk2, .bool lg2].toArray 28) :: _) W := hh
        refine en ?_
        refine sq ?_
        refine rg ?_
        refine fa fo_28_3 rfl rfl he fun a he => ?_
        refine ld rb_3 rfl (ocell hh.at3 rfl) rfl he fun a he => ?_
        refine fa fo_28_3 rfl rfl he fun a he => ?_
        refine st #[.int .i64 nx] ti_3 rfl rfl rfl rfl (by simp [Value.oneCell']) (by simp) he hh fun W hh => ?_
        replace hh : Hp I4 (.obj bb89 (.cells [.int .i64 ph, .int .i64 fl, .int .i64 of_, .int .i64 nx, .slice A_rs2 rs2.length c_rs2, .slice A_pd2 pd2.length c_pd2, .slice A_wd2 wd2.length c_wd2, .bool mk2, .bool lg2].toArray 28) :: _) W := hh
        refine en ?_
        refine sq ?_
        refine rgd (SH I4 [.obj bb89 (.cells ([.int .i64 ph, .int .i64 fl, .int .i64 of_, .int .i64 nx, .slice A_rs2 rs2.length c_rs2, .slice A_pd2 pd2.length c_pd2, .slice A_wd2 wd2.length c_wd2, .bool mk2, .bool lg2]).toArray 28), .obj bb3 (.cells ([.int .i64 ph3, .int .i64 fl3, .int .i64 of3, .int .i64 nx3, .slice A_rs3 rs3.length c_rs3, .slice A_pd3 pd3.length c_pd3, .slice A_wd3 wd3.length c_wd3, .bool mk3, .bool lg3]).toArray 28), .obj bb2 (.cells ([.int .i64 ph2, .int .i64 fl2, .int .i64 of2, .int .i64 nx2, .slice A_rs2 rs2.length c_rs2, .slice A_pd2 pd2.length c_pd2, .slice A_wd2 wd2.length c_wd2, .bool mk2, .bool lg2]).toArray 28), .obj bb1 (.cells ([.int .i64 ph, .int .i64 fl, .int .i64 of_, .int .i64 nx, .slice A_rs rs.length c_rs, .slice A_pd pd.length c_pd, .slice A_wd wd.length c_wd, .bool mk, .bool lg]).toArray 28)]) 48 mixo rfl hh fun W hh => ?_
        refine ahp (d := 55) (v := .bool true) 0 rfl (by kernel_rfl) (by kernel_rfl) (by kernel_rfl) rfl rfl rfl he ⟨_, _, (Snap.le.refl _), hh⟩ (fun W hS => by
            refine mv rfl rfl he fun a he => ?_
            exact aqe he) fun a he => ?_
        refine ahp (d := 56) (v := .bool true) 1 rfl (by kernel_rfl) (by kernel_rfl) (by kernel_rfl) rfl rfl rfl he ⟨_, _, (Snap.le.refl _), hh⟩ (fun W hS => by
            refine mv rfl rfl he fun a he => ?_
            exact aqe he) fun a he => ?_
        refine ahp (d := 57) (v := .agg #[.int .i64 ph, .int .i64 fl, .int .i64 of_, .int .i64 nx, .slice A_rs rs.length c_rs, .slice A_pd pd.length c_pd, .slice A_wd wd.length c_wd, .bool mk, .bool lg]) 2 rfl (by kernel_rfl) (by kernel_rfl) (by kernel_rfl) rfl rfl rfl he ⟨_, _, (Snap.le.refl _), hh⟩ (fun W hS => by
            obtain ⟨I90, _, hleI90, hh⟩ := hS
            refine gy rfl he rfl ?_
            refine ldA [.int .i64 ph, .int .i64 fl, .int .i64 of_, .int .i64 nx, .slice A_rs rs.length c_rs, .slice A_pd pd.length c_pd, .slice A_wd wd.length c_wd, .bool mk, .bool lg] rb_28 ti_28 rfl ((Rd.obj hh.at3 0).take 9) rfl rfl he fun a he => ?_
            exact aqe he) fun a he => ?_
        refine ahp (d := 59) (v := .agg #[.int .i64 ph, .int .i64 fl, .int .i64 of_, .int .i64 nx, .slice A_rs rs.length c_rs, .slice A_pd pd.length c_pd, .slice A_wd wd.length c_wd, .bool mk, .bool lg]) 4 rfl (by kernel_rfl) (by kernel_rfl) (by kernel_rfl) rfl rfl rfl he ⟨_, _, (Snap.le.refl _), hh⟩ (fun W hS => by
            obtain ⟨I91, _, hleI91, hh⟩ := hS
            refine gy rfl he rfl ?_
            refine ldA [.int .i64 ph, .int .i64 fl, .int .i64 of_, .int .i64 nx, .slice A_rs rs.length c_rs, .slice A_pd pd.length c_pd, .slice A_wd wd.length c_wd, .bool mk, .bool lg] rb_28 ti_28 rfl ((Rd.obj hh.at3 0).take 9) rfl rfl he fun a he => ?_
            exact aqe he) fun a he => ?_
        refine aha1 (i := 3) (by kernel_rfl) ?_
        refine aop rfl ?_
        refine gy rfl he rfl ?_
        refine cal cb_12 rfl (law_made _ _ _ ph fl of_ nx A_rs c_rs rs A_pd c_pd pd A_wd c_wd wd mk lg hh (h_rs.up hl5) k_rs (h_pd.up hl5) k_pd (h_wd.up hl5) k_wd) rfl he fun v a W hp he => ?_
        obtain ⟨A92, cc93, A94, cc95, A96, cc97, rfl, hf98, hc99, hf100, hc101, hf102, hc103, hh⟩ := hp
        refine aen ⟨_, _, (Snap.le.refl _), hh⟩ ?_
        refine aha1 (i := 5) (by kernel_rfl) ?_
        refine aop rfl ?_
        refine gy rfl he rfl ?_
        refine cal cb_12 rfl (law_made _ _ _ ph fl of_ nx A_rs c_rs rs A_pd c_pd pd A_wd c_wd wd mk lg hh (h_rs.up hl5) k_rs (h_pd.up hl5) k_pd (h_wd.up hl5) k_wd) rfl he fun v a W hp he => ?_
        obtain ⟨A104, cc105, A106, cc107, A108, cc109, rfl, hf110, hc111, hf112, hc113, hf114, hc115, hh⟩ := hp
        refine aen ⟨_, _, (Snap.le.refl _), hh⟩ ?_
        refine aha1 (i := 6) (by kernel_rfl) ?_
        refine aop rfl ?_
        refine gy rfl he rfl ?_
        refine cal cb_20 rfl (prog_Less _ _ _ ph fl of_ nx A92 cc93 rs A94 cc95 pd A96 cc97 wd mk lg ph fl of_ nx A104 cc105 rs A106 cc107 pd A108 cc109 wd mk lg hh hf98 hc99 hf100 hc101 hf102 hc103 hf110 hc111 hf112 hc113 hf114 hc115) rfl he fun v a W hp he => ?_
        obtain ⟨rfl, hh⟩ := hp
        refine aen ⟨_, _, (Snap.le.refl _), hh⟩ ?_
        refine ahp (d := 62) (v := .bool (!(lessL (fours ph fl of_ nx) (fours ph fl of_ nx)))) 7 rfl (by kernel_rfl) (by kernel_rfl) (by kernel_rfl) rfl rfl rfl he ⟨_, _, (Snap.le.refl _), hh⟩ (fun W hS => by
            refine gy rfl he rfl ?_
            refine nt rfl rfl he fun a he => ?_
            exact aqe he) fun a he => ?_
        refine ahp (d := 63) (v := .bool (!(lessL (fours ph fl of_ nx) (fours ph fl of_ nx)))) 8 rfl (by kernel_rfl) (by kernel_rfl) (by kernel_rfl) rfl rfl rfl he ⟨_, _, (Snap.le.refl _), hh⟩ (fun W hS => by
            refine pkt rfl rfl rfl he fun a he => ?_
            exact aqe he) fun a he => ?_
        refine ahp (d := 64) (v := .bool (!(lessL (fours ph fl of_ nx) (fours ph fl of_ nx)))) 9 rfl (by kernel_rfl) (by kernel_rfl) (by kernel_rfl) rfl rfl rfl he ⟨_, _, (Snap.le.refl _), hh⟩ (fun W hS => by
            refine mv rfl rfl he fun a he => ?_
            exact aqe he) fun a he => ?_
        replace he := he.be (t := 64) (v' := .bool true) rfl (by rw [lessL_irrefl]; rfl)
        refine ahp (d := 65) (v := .bool (lessL (fours ph fl of_ nx) (fours ph2 fl2 of2 nx2))) 10 rfl (by kernel_rfl) (by kernel_rfl) (by kernel_rfl) rfl rfl rfl he ⟨_, _, (Snap.le.refl _), hh⟩ (fun W hS => by
            refine gy rfl he rfl ?_
            refine mv rfl rfl he fun a he => ?_
            exact aqe he) fun a he => ?_
        refine ahp (d := 66) (v := .bool (lessL (fours ph fl of_ nx) (fours ph2 fl2 of2 nx2))) 11 rfl (by kernel_rfl) (by kernel_rfl) (by kernel_rfl) rfl rfl rfl he ⟨_, _, (Snap.le.refl _), hh⟩ (fun W hS => by
            refine gy rfl he rfl ?_
            refine mv rfl rfl he fun a he => ?_
            exact aqe he) fun a he => ?_
        refine jnd (fun a W => Env 102 [(0, .agg #[.int .i64 ph, .int .i64 fl, .int .i64 of_, .int .i64 nx, .slice A_rs rs.length c_rs, .slice A_pd pd.length c_pd, .slice A_wd wd.length c_wd, .bool mk, .bool lg]), (1, .agg #[.int .i64 ph2, .int .i64 fl2, .int .i64 of2, .int .i64 nx2, .slice A_rs2 rs2.length c_rs2, .slice A_pd2 pd2.length c_pd2, .slice A_wd2 wd2.length c_wd2, .bool mk2, .bool lg2]), (2, .agg #[.int .i64 ph3, .int .i64 fl3, .int .i64 of3, .int .i64 nx3, .slice A_rs3 rs3.length c_rs3, .slice A_pd3 pd3.length c_pd3, .slice A_wd3 wd3.length c_wd3, .bool mk3, .bool lg3]), (3, .pointer (some ⟨bb1, 0, none⟩)), (4, .pointer (some ⟨bb2, 0, none⟩)), (5, .pointer (some ⟨bb3, 0, none⟩)), (6, .bool false), (7, .bool true), (8, .bool (lessL (fours ph fl of_ nx) (fours ph2 fl2 of2 nx2))), (9, .bool (lessL (fours ph2 fl2 of2 nx2) (fours ph3 fl3 of3 nx3))), (10, .bool (lessL (fours ph fl of_ nx) (fours ph3 fl3 of3 nx3))), (11, .pointer (some ⟨bb89, 0, none⟩)), (25, .bool (((!(decide (rs.length ≤ 300) && (decide (pd.length ≤ 300) && decide (wd.length ≤ 300)))) || (!(decide (rs2.length ≤ 300) && (decide (pd2.length ≤ 300) && decide (wd2.length ≤ 300))))) || (!(decide (rs3.length ≤ 300) && (decide (pd3.length ≤ 300) && decide (wd3.length ≤ 300)))))), (64, .bool true), (72, .bool ((lessL (fours ph fl of_ nx) (fours ph2 fl2 of2 nx2)) && (lessL (fours ph2 fl2 of2 nx2) (fours ph fl of_ nx))))] a ∧ Hp I4 (.obj bb89 (.cells ([.int .i64 ph, .int .i64 fl, .int .i64 of_, .int .i64 nx, .slice A_rs2 rs2.length c_rs2, .slice A_pd2 pd2.length c_pd2, .slice A_wd2 wd2.length c_wd2, .bool mk2, .bool lg2]).toArray 28) :: .obj bb3 (.cells ([.int .i64 ph3, .int .i64 fl3, .int .i64 of3, .int .i64 nx3, .slice A_rs3 rs3.length c_rs3, .slice A_pd3 pd3.length c_pd3, .slice A_wd3 wd3.length c_wd3, .bool mk3, .bool lg3]).toArray 28) :: .obj bb2 (.cells ([.int .i64 ph2, .int .i64 fl2, .int .i64 of2, .int .i64 nx2, .slice A_rs2 rs2.length c_rs2, .slice A_pd2 pd2.length c_pd2, .slice A_wd2 wd2.length c_wd2, .bool mk2, .bool lg2]).toArray 28) :: .obj bb1 (.cells ([.int .i64 ph, .int .i64 fl, .int .i64 of_, .int .i64 nx, .slice A_rs rs.length c_rs, .slice A_pd pd.length c_pd, .slice A_wd wd.length c_wd, .bool mk, .bool lg]).toArray 28) :: L) W) 30 #[true, true, true, true, true, true, true, true, true, true, true, true, true, true, true, true, true, true, false, false, false, false, false, false, false, false, false, false, false, false, false, false, false, false, false, false, false, false, false, false, false, false, false, false, false, false, false, false] (fun a W hM => ?_) fun key118 => ?_
        · obtain ⟨he, hh⟩ := hM
          refine ahp (d := 73) (v := .bool (!((lessL (fours ph fl of_ nx) (fours ph2 fl2 of2 nx2)) && (lessL (fours ph2 fl2 of2 nx2) (fours ph fl of_ nx))))) 18 rfl (by kernel_rfl) (by kernel_rfl) (by kernel_rfl) rfl rfl rfl he ⟨_, _, (Snap.le.refl _), hh⟩ (fun W hS => by
              refine gy rfl he rfl ?_
              refine nt rfl rfl he fun a he => ?_
              exact aqe he) fun a he => ?_
          refine ahp (d := 74) (v := .bool (!((lessL (fours ph fl of_ nx) (fours ph2 fl2 of2 nx2)) && (lessL (fours ph2 fl2 of2 nx2) (fours ph fl of_ nx))))) 19 rfl (by kernel_rfl) (by kernel_rfl) (by kernel_rfl) rfl rfl rfl he ⟨_, _, (Snap.le.refl _), hh⟩ (fun W hS => by
              refine pkt rfl rfl rfl he fun a he => ?_
              exact aqe he) fun a he => ?_
          refine ahp (d := 75) (v := .bool (!((lessL (fours ph fl of_ nx) (fours ph2 fl2 of2 nx2)) && (lessL (fours ph2 fl2 of2 nx2) (fours ph fl of_ nx))))) 20 rfl (by kernel_rfl) (by kernel_rfl) (by kernel_rfl) rfl rfl rfl he ⟨_, _, (Snap.le.refl _), hh⟩ (fun W hS => by
              refine mv rfl rfl he fun a he => ?_
              exact aqe he) fun a he => ?_
          replace he := he.be (t := 75) (v' := .bool true) rfl (by exact congrArg Value.bool (less_asymm2 _ _))
          refine ahp (d := 76) (v := .bool (lessL (fours ph fl of_ nx) (fours ph2 fl2 of2 nx2))) 21 rfl (by kernel_rfl) (by kernel_rfl) (by kernel_rfl) rfl rfl rfl he ⟨_, _, (Snap.le.refl _), hh⟩ (fun W hS => by
              refine gy rfl he rfl ?_
              refine mv rfl rfl he fun a he => ?_
              exact aqe he) fun a he => ?_
          refine ahp (d := 77) (v := .bool (!(lessL (fours ph fl of_ nx) (fours ph2 fl2 of2 nx2)))) 22 rfl (by kernel_rfl) (by kernel_rfl) (by kernel_rfl) rfl rfl rfl he ⟨_, _, (Snap.le.refl _), hh⟩ (fun W hS => by
              refine gy rfl he rfl ?_
              refine nt rfl rfl he fun a he => ?_
              exact aqe he) fun a he => ?_
          refine ahp (d := 78) (v := .bool (!(lessL (fours ph fl of_ nx) (fours ph2 fl2 of2 nx2)))) 23 rfl (by kernel_rfl) (by kernel_rfl) (by kernel_rfl) rfl rfl rfl he ⟨_, _, (Snap.le.refl _), hh⟩ (fun W hS => by
              refine gy rfl he rfl ?_
              refine mv rfl rfl he fun a he => ?_
              exact aqe he) fun a he => ?_
          refine jnd (fun a W => Env 102 [(0, .agg #[.int .i64 ph, .int .i64 fl, .int .i64 of_, .int .i64 nx, .slice A_rs rs.length c_rs, .slice A_pd pd.length c_pd, .slice A_wd wd.length c_wd, .bool mk, .bool lg]), (1, .agg #[.int .i64 ph2, .int .i64 fl2, .int .i64 of2, .int .i64 nx2, .slice A_rs2 rs2.length c_rs2, .slice A_pd2 pd2.length c_pd2, .slice A_wd2 wd2.length c_wd2, .bool mk2, .bool lg2]), (2, .agg #[.int .i64 ph3, .int .i64 fl3, .int .i64 of3, .int .i64 nx3, .slice A_rs3 rs3.length c_rs3, .slice A_pd3 pd3.length c_pd3, .slice A_wd3 wd3.length c_wd3, .bool mk3, .bool lg3]), (3, .pointer (some ⟨bb1, 0, none⟩)), (4, .pointer (some ⟨bb2, 0, none⟩)), (5, .pointer (some ⟨bb3, 0, none⟩)), (6, .bool false), (7, .bool true), (10, .bool (lessL (fours ph fl of_ nx) (fours ph3 fl3 of3 nx3))), (11, .pointer (some ⟨bb89, 0, none⟩)), (25, .bool (((!(decide (rs.length ≤ 300) && (decide (pd.length ≤ 300) && decide (wd.length ≤ 300)))) || (!(decide (rs2.length ≤ 300) && (decide (pd2.length ≤ 300) && decide (wd2.length ≤ 300))))) || (!(decide (rs3.length ≤ 300) && (decide (pd3.length ≤ 300) && decide (wd3.length ≤ 300)))))), (75, .bool true), (81, .bool ((!(lessL (fours ph fl of_ nx) (fours ph2 fl2 of2 nx2))) || (!(lessL (fours ph2 fl2 of2 nx2) (fours ph3 fl3 of3 nx3)))))] a ∧ Hp I4 (.obj bb89 (.cells ([.int .i64 ph, .int .i64 fl, .int .i64 of_, .int .i64 nx, .slice A_rs2 rs2.length c_rs2, .slice A_pd2 pd2.length c_pd2, .slice A_wd2 wd2.length c_wd2, .bool mk2, .bool lg2]).toArray 28) :: .obj bb3 (.cells ([.int .i64 ph3, .int .i64 fl3, .int .i64 of3, .int .i64 nx3, .slice A_rs3 rs3.length c_rs3, .slice A_pd3 pd3.length c_pd3, .slice A_wd3 wd3.length c_wd3, .bool mk3, .bool lg3]).toArray 28) :: .obj bb2 (.cells ([.int .i64 ph2, .int .i64 fl2, .int .i64 of2, .int .i64 nx2, .slice A_rs2 rs2.length c_rs2, .slice A_pd2 pd2.length c_pd2, .slice A_wd2 wd2.length c_wd2, .bool mk2, .bool lg2]).toArray 28) :: .obj bb1 (.cells ([.int .i64 ph, .int .i64 fl, .int .i64 of_, .int .i64 nx, .slice A_rs rs.length c_rs, .slice A_pd pd.length c_pd, .slice A_wd wd.length c_wd, .bool mk, .bool lg]).toArray 28) :: L) W) 21 #[true, true, true, true, true, true, true, true, true, true, true, true, true, true, true, true, true, true, true, true, true, true, true, true, true, true, true, false, false, false, false, false, false, false, false, false, false, false, false, false, false, false, false, false, false, false, false, false] (fun a W hM => ?_) fun key121 => ?_
          · obtain ⟨he, hh⟩ := hM
            refine ahp (d := 82) (v := .bool ((!(lessL (fours ph fl of_ nx) (fours ph2 fl2 of2 nx2))) || (!(lessL (fours ph2 fl2 of2 nx2) (fours ph3 fl3 of3 nx3))))) 27 rfl (by kernel_rfl) (by kernel_rfl) (by kernel_rfl) rfl rfl rfl he ⟨_, _, (Snap.le.refl _), hh⟩ (fun W hS => by
                refine gy rfl he rfl ?_
                refine mv rfl rfl he fun a he => ?_
                exact aqe he) fun a he => ?_
            refine jnd (fun a W => Env 102 [(0, .agg #[.int .i64 ph, .int .i64 fl, .int .i64 of_, .int .i64 nx, .slice A_rs rs.length c_rs, .slice A_pd pd.length c_pd, .slice A_wd wd.length c_wd, .bool mk, .bool lg]), (1, .agg #[.int .i64 ph2, .int .i64 fl2, .int .i64 of2, .int .i64 nx2, .slice A_rs2 rs2.length c_rs2, .slice A_pd2 pd2.length c_pd2, .slice A_wd2 wd2.length c_wd2, .bool mk2, .bool lg2]), (2, .agg #[.int .i64 ph3, .int .i64 fl3, .int .i64 of3, .int .i64 nx3, .slice A_rs3 rs3.length c_rs3, .slice A_pd3 pd3.length c_pd3, .slice A_wd3 wd3.length c_wd3, .bool mk3, .bool lg3]), (3, .pointer (some ⟨bb1, 0, none⟩)), (4, .pointer (some ⟨bb2, 0, none⟩)), (5, .pointer (some ⟨bb3, 0, none⟩)), (6, .bool false), (7, .bool true), (11, .pointer (some ⟨bb89, 0, none⟩)), (25, .bool (((!(decide (rs.length ≤ 300) && (decide (pd.length ≤ 300) && decide (wd.length ≤ 300)))) || (!(decide (rs2.length ≤ 300) && (decide (pd2.length ≤ 300) && decide (wd2.length ≤ 300))))) || (!(decide (rs3.length ≤ 300) && (decide (pd3.length ≤ 300) && decide (wd3.length ≤ 300)))))), (75, .bool true), (84, .bool (((!(lessL (fours ph fl of_ nx) (fours ph2 fl2 of2 nx2))) || (!(lessL (fours ph2 fl2 of2 nx2) (fours ph3 fl3 of3 nx3)))) || (lessL (fours ph fl of_ nx) (fours ph3 fl3 of3 nx3))))] a ∧ Hp I4 (.obj bb89 (.cells ([.int .i64 ph, .int .i64 fl, .int .i64 of_, .int .i64 nx, .slice A_rs2 rs2.length c_rs2, .slice A_pd2 pd2.length c_pd2, .slice A_wd2 wd2.length c_wd2, .bool mk2, .bool lg2]).toArray 28) :: .obj bb3 (.cells ([.int .i64 ph3, .int .i64 fl3, .int .i64 of3, .int .i64 nx3, .slice A_rs3 rs3.length c_rs3, .slice A_pd3 pd3.length c_pd3, .slice A_wd3 wd3.length c_wd3, .bool mk3, .bool lg3]).toArray 28) :: .obj bb2 (.cells ([.int .i64 ph2, .int .i64 fl2, .int .i64 of2, .int .i64 nx2, .slice A_rs2 rs2.length c_rs2, .slice A_pd2 pd2.length c_pd2, .slice A_wd2 wd2.length c_wd2, .bool mk2, .bool lg2]).toArray 28) :: .obj bb1 (.cells ([.int .i64 ph, .int .i64 fl, .int .i64 of_, .int .i64 nx, .slice A_rs rs.length c_rs, .slice A_pd pd.length c_pd, .slice A_wd wd.length c_wd, .bool mk, .bool lg]).toArray 28) :: L) W) 18 #[true, true, true, true, true, true, true, true, true, true, true, true, true, true, true, true, true, true, true, true, true, true, true, true, true, true, true, true, true, true, false, false, false, false, false, false, false, false, false, false, false, false, false, false, false, false, false, false] (fun a W hM => ?_) fun key123 => ?_
            · obtain ⟨he, hh⟩ := hM
              refine ahp (d := 85) (v := .bool (((!(lessL (fours ph fl of_ nx) (fours ph2 fl2 of2 nx2))) || (!(lessL (fours ph2 fl2 of2 nx2) (fours ph3 fl3 of3 nx3)))) || (lessL (fours ph fl of_ nx) (fours ph3 fl3 of3 nx3)))) 30 rfl (by kernel_rfl) (by kernel_rfl) (by kernel_rfl) rfl rfl rfl he ⟨_, _, (Snap.le.refl _), hh⟩ (fun W hS => by
                  refine pkt rfl rfl rfl he fun a he => ?_
                  exact aqe he) fun a he => ?_
              refine ahp (d := 86) (v := .bool (((!(lessL (fours ph fl of_ nx) (fours ph2 fl2 of2 nx2))) || (!(lessL (fours ph2 fl2 of2 nx2) (fours ph3 fl3 of3 nx3)))) || (lessL (fours ph fl of_ nx) (fours ph3 fl3 of3 nx3)))) 31 rfl (by kernel_rfl) (by kernel_rfl) (by kernel_rfl) rfl rfl rfl he ⟨_, _, (Snap.le.refl _), hh⟩ (fun W hS => by
                  refine mv rfl rfl he fun a he => ?_
                  exact aqe he) fun a he => ?_
              replace he := he.be (t := 86) (v' := .bool true) rfl (by exact congrArg Value.bool (less_trans2 _ _ _))
              refine ahp (d := 87) (v := .agg #[.int .i64 ph, .int .i64 fl, .int .i64 of_, .int .i64 nx, .slice A_rs rs.length c_rs, .slice A_pd pd.length c_pd, .slice A_wd wd.length c_wd, .bool mk, .bool lg]) 32 rfl (by kernel_rfl) (by kernel_rfl) (by kernel_rfl) rfl rfl rfl he ⟨_, _, (Snap.le.refl _), hh⟩ (fun W hS => by
                  obtain ⟨I125, _, hleI125, hh⟩ := hS
                  refine gy rfl he rfl ?_
                  refine ldA [.int .i64 ph, .int .i64 fl, .int .i64 of_, .int .i64 nx, .slice A_rs rs.length c_rs, .slice A_pd pd.length c_pd, .slice A_wd wd.length c_wd, .bool mk, .bool lg] rb_28 ti_28 rfl ((Rd.obj hh.at3 0).take 9) rfl rfl he fun a he => ?_
                  exact aqe he) fun a he => ?_
              refine ahp (d := 89) (v := .agg #[.int .i64 ph, .int .i64 fl, .int .i64 of_, .int .i64 nx, .slice A_rs2 rs2.length c_rs2, .slice A_pd2 pd2.length c_pd2, .slice A_wd2 wd2.length c_wd2, .bool mk2, .bool lg2]) 34 rfl (by kernel_rfl) (by kernel_rfl) (by kernel_rfl) rfl rfl rfl he ⟨_, _, (Snap.le.refl _), hh⟩ (fun W hS => by
                  obtain ⟨I126, _, hleI126, hh⟩ := hS
                  refine gy rfl he rfl ?_
                  refine ldA [.int .i64 ph, .int .i64 fl, .int .i64 of_, .int .i64 nx, .slice A_rs2 rs2.length c_rs2, .slice A_pd2 pd2.length c_pd2, .slice A_wd2 wd2.length c_wd2, .bool mk2, .bool lg2] rb_28 ti_28 rfl ((Rd.obj hh.at0 0).take 9) rfl rfl he fun a he => ?_
                  exact aqe he) fun a he => ?_
              refine aha1 (i := 33) (by kernel_rfl) ?_
              refine aop rfl ?_
              refine gy rfl he rfl ?_
              refine cal cb_12 rfl (law_made _ _ _ ph fl of_ nx A_rs c_rs rs A_pd c_pd pd A_wd c_wd wd mk lg hh (h_rs.up hl5) k_rs (h_pd.up hl5) k_pd (h_wd.up hl5) k_wd) rfl he fun v a W hp he => ?_
              obtain ⟨A127, cc128, A129, cc130, A131, cc132, rfl, hf133, hc134, hf135, hc136, hf137, hc138, hh⟩ := hp
              refine aen ⟨_, _, (Snap.le.refl _), hh⟩ ?_
              refine aha1 (i := 35) (by kernel_rfl) ?_
              refine aop rfl ?_
              refine gy rfl he rfl ?_
              refine cal cb_12 rfl (law_made _ _ _ ph fl of_ nx A_rs2 c_rs2 rs2 A_pd2 c_pd2 pd2 A_wd2 c_wd2 wd2 mk2 lg2 hh (h_rs2.up hl5) k_rs2 (h_pd2.up hl5) k_pd2 (h_wd2.up hl5) k_wd2) rfl he fun v a W hp he => ?_
              obtain ⟨A139, cc140, A141, cc142, A143, cc144, rfl, hf145, hc146, hf147, hc148, hf149, hc150, hh⟩ := hp
              refine aen ⟨_, _, (Snap.le.refl _), hh⟩ ?_
              refine aha1 (i := 36) (by kernel_rfl) ?_
              refine aop rfl ?_
              refine gy rfl he rfl ?_
              refine cal cb_20 rfl (prog_Less _ _ _ ph fl of_ nx A127 cc128 rs A129 cc130 pd A131 cc132 wd mk lg ph fl of_ nx A139 cc140 rs2 A141 cc142 pd2 A143 cc144 wd2 mk2 lg2 hh hf133 hc134 hf135 hc136 hf137 hc138 hf145 hc146 hf147 hc148 hf149 hc150) rfl he fun v a W hp he => ?_
              obtain ⟨rfl, hh⟩ := hp
              refine aen ⟨_, _, (Snap.le.refl _), hh⟩ ?_
              refine ahp (d := 92) (v := .bool (!(lessL (fours ph fl of_ nx) (fours ph fl of_ nx)))) 37 rfl (by kernel_rfl) (by kernel_rfl) (by kernel_rfl) rfl rfl rfl he ⟨_, _, (Snap.le.refl _), hh⟩ (fun W hS => by
                  refine gy rfl he rfl ?_
                  refine nt rfl rfl he fun a he => ?_
                  exact aqe he) fun a he => ?_
              refine ahp (d := 93) (v := .bool (!(lessL (fours ph fl of_ nx) (fours ph fl of_ nx)))) 38 rfl (by kernel_rfl) (by kernel_rfl) (by kernel_rfl) rfl rfl rfl he ⟨_, _, (Snap.le.refl _), hh⟩ (fun W hS => by
                  refine pkt rfl rfl rfl he fun a he => ?_
                  exact aqe he) fun a he => ?_
              refine ahp (d := 94) (v := .bool (!(lessL (fours ph fl of_ nx) (fours ph fl of_ nx)))) 39 rfl (by kernel_rfl) (by kernel_rfl) (by kernel_rfl) rfl rfl rfl he ⟨_, _, (Snap.le.refl _), hh⟩ (fun W hS => by
                  refine mv rfl rfl he fun a he => ?_
                  exact aqe he) fun a he => ?_
              replace he := he.be (t := 94) (v' := .bool true) rfl (by rw [lessL_irrefl]; rfl)
              refine ahp (d := 95) (v := .agg #[.int .i64 ph, .int .i64 fl, .int .i64 of_, .int .i64 nx, .slice A_rs2 rs2.length c_rs2, .slice A_pd2 pd2.length c_pd2, .slice A_wd2 wd2.length c_wd2, .bool mk2, .bool lg2]) 40 rfl (by kernel_rfl) (by kernel_rfl) (by kernel_rfl) rfl rfl rfl he ⟨_, _, (Snap.le.refl _), hh⟩ (fun W hS => by
                  obtain ⟨I152, _, hleI152, hh⟩ := hS
                  refine gy rfl he rfl ?_
                  refine ldA [.int .i64 ph, .int .i64 fl, .int .i64 of_, .int .i64 nx, .slice A_rs2 rs2.length c_rs2, .slice A_pd2 pd2.length c_pd2, .slice A_wd2 wd2.length c_wd2, .bool mk2, .bool lg2] rb_28 ti_28 rfl ((Rd.obj hh.at0 0).take 9) rfl rfl he fun a he => ?_
                  exact aqe he) fun a he => ?_
              refine ahp (d := 97) (v := .agg #[.int .i64 ph, .int .i64 fl, .int .i64 of_, .int .i64 nx, .slice A_rs rs.length c_rs, .slice A_pd pd.length c_pd, .slice A_wd wd.length c_wd, .bool mk, .bool lg]) 42 rfl (by kernel_rfl) (by kernel_rfl) (by kernel_rfl) rfl rfl rfl he ⟨_, _, (Snap.le.refl _), hh⟩ (fun W hS => by
                  obtain ⟨I153, _, hleI153, hh⟩ := hS
                  refine gy rfl he rfl ?_
                  refine ldA [.int .i64 ph, .int .i64 fl, .int .i64 of_, .int .i64 nx, .slice A_rs rs.length c_rs, .slice A_pd pd.length c_pd, .slice A_wd wd.length c_wd, .bool mk, .bool lg] rb_28 ti_28 rfl ((Rd.obj hh.at3 0).take 9) rfl rfl he fun a he => ?_
                  exact aqe he) fun a he => ?_
              refine aha1 (i := 41) (by kernel_rfl) ?_
              refine aop rfl ?_
              refine gy rfl he rfl ?_
              refine cal cb_12 rfl (law_made _ _ _ ph fl of_ nx A_rs2 c_rs2 rs2 A_pd2 c_pd2 pd2 A_wd2 c_wd2 wd2 mk2 lg2 hh (h_rs2.up hl5) k_rs2 (h_pd2.up hl5) k_pd2 (h_wd2.up hl5) k_wd2) rfl he fun v a W hp he => ?_
              obtain ⟨A154, cc155, A156, cc157, A158, cc159, rfl, hf160, hc161, hf162, hc163, hf164, hc165, hh⟩ := hp
              refine aen ⟨_, _, (Snap.le.refl _), hh⟩ ?_
              refine aha1 (i := 43) (by kernel_rfl) ?_
              refine aop rfl ?_
              refine gy rfl he rfl ?_
              refine cal cb_12 rfl (law_made _ _ _ ph fl of_ nx A_rs c_rs rs A_pd c_pd pd A_wd c_wd wd mk lg hh (h_rs.up hl5) k_rs (h_pd.up hl5) k_pd (h_wd.up hl5) k_wd) rfl he fun v a W hp he => ?_
              obtain ⟨A166, cc167, A168, cc169, A170, cc171, rfl, hf172, hc173, hf174, hc175, hf176, hc177, hh⟩ := hp
              refine aen ⟨_, _, (Snap.le.refl _), hh⟩ ?_
              refine aha1 (i := 44) (by kernel_rfl) ?_
              refine aop rfl ?_
              refine gy rfl he rfl ?_
              refine cal cb_20 rfl (prog_Less _ _ _ ph fl of_ nx A154 cc155 rs2 A156 cc157 pd2 A158 cc159 wd2 mk2 lg2 ph fl of_ nx A166 cc167 rs A168 cc169 pd A170 cc171 wd mk lg hh hf160 hc161 hf162 hc163 hf164 hc165 hf172 hc173 hf174 hc175 hf176 hc177) rfl he fun v a W hp he => ?_
              obtain ⟨rfl, hh⟩ := hp
              refine aen ⟨_, _, (Snap.le.refl _), hh⟩ ?_
              refine ahp (d := 100) (v := .bool (!(lessL (fours ph fl of_ nx) (fours ph fl of_ nx)))) 45 rfl (by kernel_rfl) (by kernel_rfl) (by kernel_rfl) rfl rfl rfl he ⟨_, _, (Snap.le.refl _), hh⟩ (fun W hS => by
                  refine gy rfl he rfl ?_
                  refine nt rfl rfl he fun a he => ?_
                  exact aqe he) fun a he => ?_
              refine ahp (d := 101) (v := .bool (!(lessL (fours ph fl of_ nx) (fours ph fl of_ nx)))) 46 rfl (by kernel_rfl) (by kernel_rfl) (by kernel_rfl) rfl rfl rfl he ⟨_, _, (Snap.le.refl _), hh⟩ (fun W hS => by
                  refine pkt rfl rfl rfl he fun a he => ?_
                  exact aqe he) fun a he => ?_
              refine ahp (d := 6) (v := .bool (!(lessL (fours ph fl of_ nx) (fours ph fl of_ nx)))) 47 rfl (by kernel_rfl) (by kernel_rfl) (by kernel_rfl) rfl rfl rfl he ⟨_, _, (Snap.le.refl _), hh⟩ (fun W hS => by
                  refine asg rfl rfl he fun a he => ?_
                  exact aqe he) fun a he => ?_
              refine ahd (by kernel_rfl) ?_
              refine en ?_
              refine rt ?_
              refine rets1 Tryd.results6 he rfl (Ret.mk ?_)
              replace hh := hh.drop
              replace hh := hh.drop
              replace hh := hh.drop
              replace hh := hh.drop
              exact ⟨I4, by rw [lessL_irrefl]; rfl, hl5, hh⟩
            rcases Bool.eq_false_or_eq_true (((!(lessL (fours ph fl of_ nx) (fours ph2 fl2 of2 nx2))) || (!(lessL (fours ph2 fl2 of2 nx2) (fours ph3 fl3 of3 nx3))))) with hny | hny
            · replace he := he.be (t := 82) (v' := .bool true) rfl (by rw [hny])
              refine ahn 28 rfl (by kernel_rfl) (by kernel_rfl) (by kernel_rfl) rfl rfl he rfl rfl ⟨_, _, (Snap.le.refl _), hh⟩ fun a he => ?_
              refine ahp (d := 84) (v := .bool true) 29 rfl (by kernel_rfl) (by kernel_rfl) (by kernel_rfl) rfl rfl rfl he ⟨_, _, (Snap.le.refl _), hh⟩ (fun W hS => by
                  refine gy rfl he rfl ?_
                  refine pkt rfl rfl rfl he fun a he => ?_
                  exact aqe he) fun a he => ?_
              replace he := he.be (t := 84) (v' := .bool (((!(lessL (fours ph fl of_ nx) (fours ph2 fl2 of2 nx2))) || (!(lessL (fours ph2 fl2 of2 nx2) (fours ph3 fl3 of3 nx3)))) || (lessL (fours ph fl of_ nx) (fours ph3 fl3 of3 nx3)))) rfl (jo_t hny)
              replace hh := hh.up3
              replace hh := hh.up3
              replace hh := hh.up3
              replace hh := hh.up3
              exact key123 _ _ _ (by kernel_rfl) ⟨he.keep [0, 1, 2, 3, 4, 5, 6, 7, 11, 25, 75, 84] rfl, hh⟩
            · replace he := he.be (t := 82) (v' := .bool false) rfl (by rw [hny])
              refine ahp (d := 83) (v := .bool (lessL (fours ph fl of_ nx) (fours ph3 fl3 of3 nx3))) 28 rfl (by kernel_rfl) (by kernel_rfl) (by kernel_rfl) rfl rfl rfl he ⟨_, _, (Snap.le.refl _), hh⟩ (fun W hS => by
                  refine gy rfl he rfl ?_
                  refine mv rfl rfl he fun a he => ?_
                  exact aqe he) fun a he => ?_
              refine ahp (d := 84) (v := .bool (lessL (fours ph fl of_ nx) (fours ph3 fl3 of3 nx3))) 29 rfl (by kernel_rfl) (by kernel_rfl) (by kernel_rfl) rfl rfl rfl he ⟨_, _, (Snap.le.refl _), hh⟩ (fun W hS => by
                  refine gy rfl he rfl ?_
                  refine pkf rfl rfl rfl he fun a he => ?_
                  exact aqe he) fun a he => ?_
              replace he := he.be (t := 84) (v' := .bool (((!(lessL (fours ph fl of_ nx) (fours ph2 fl2 of2 nx2))) || (!(lessL (fours ph2 fl2 of2 nx2) (fours ph3 fl3 of3 nx3)))) || (lessL (fours ph fl of_ nx) (fours ph3 fl3 of3 nx3)))) rfl (jo_f hny)
              replace hh := hh.up3
              replace hh := hh.up3
              replace hh := hh.up3
              replace hh := hh.up3
              exact key123 _ _ _ (by kernel_rfl) ⟨he.keep [0, 1, 2, 3, 4, 5, 6, 7, 11, 25, 75, 84] rfl, hh⟩
          rcases Bool.eq_false_or_eq_true ((!(lessL (fours ph fl of_ nx) (fours ph2 fl2 of2 nx2)))) with hnx | hnx
          · replace he := he.be (t := 78) (v' := .bool true) rfl (by rw [hnx])
            refine ahn 24 rfl (by kernel_rfl) (by kernel_rfl) (by kernel_rfl) rfl rfl he rfl rfl ⟨_, _, (Snap.le.refl _), hh⟩ fun a he => ?_
            refine ahn 25 rfl (by kernel_rfl) (by kernel_rfl) (by kernel_rfl) rfl rfl he rfl rfl ⟨_, _, (Snap.le.refl _), hh⟩ fun a he => ?_
            refine ahp (d := 81) (v := .bool true) 26 rfl (by kernel_rfl) (by kernel_rfl) (by kernel_rfl) rfl rfl rfl he ⟨_, _, (Snap.le.refl _), hh⟩ (fun W hS => by
                refine gy rfl he rfl ?_
                refine pkt rfl rfl rfl he fun a he => ?_
                exact aqe he) fun a he => ?_
            replace he := he.be (t := 81) (v' := .bool ((!(lessL (fours ph fl of_ nx) (fours ph2 fl2 of2 nx2))) || (!(lessL (fours ph2 fl2 of2 nx2) (fours ph3 fl3 of3 nx3))))) rfl (jo_t hnx)
            replace hh := hh.up3
            replace hh := hh.up3
            replace hh := hh.up3
            replace hh := hh.up3
            exact key121 _ _ _ (by kernel_rfl) ⟨he.keep [0, 1, 2, 3, 4, 5, 6, 7, 10, 11, 25, 75, 81] rfl, hh⟩
          · replace he := he.be (t := 78) (v' := .bool false) rfl (by rw [hnx])
            refine ahp (d := 79) (v := .bool (lessL (fours ph2 fl2 of2 nx2) (fours ph3 fl3 of3 nx3))) 24 rfl (by kernel_rfl) (by kernel_rfl) (by kernel_rfl) rfl rfl rfl he ⟨_, _, (Snap.le.refl _), hh⟩ (fun W hS => by
                refine gy rfl he rfl ?_
                refine mv rfl rfl he fun a he => ?_
                exact aqe he) fun a he => ?_
            refine ahp (d := 80) (v := .bool (!(lessL (fours ph2 fl2 of2 nx2) (fours ph3 fl3 of3 nx3)))) 25 rfl (by kernel_rfl) (by kernel_rfl) (by kernel_rfl) rfl rfl rfl he ⟨_, _, (Snap.le.refl _), hh⟩ (fun W hS => by
                refine gy rfl he rfl ?_
                refine nt rfl rfl he fun a he => ?_
                exact aqe he) fun a he => ?_
            refine ahp (d := 81) (v := .bool (!(lessL (fours ph2 fl2 of2 nx2) (fours ph3 fl3 of3 nx3)))) 26 rfl (by kernel_rfl) (by kernel_rfl) (by kernel_rfl) rfl rfl rfl he ⟨_, _, (Snap.le.refl _), hh⟩ (fun W hS => by
                refine gy rfl he rfl ?_
                refine pkf rfl rfl rfl he fun a he => ?_
                exact aqe he) fun a he => ?_
            replace he := he.be (t := 81) (v' := .bool ((!(lessL (fours ph fl of_ nx) (fours ph2 fl2 of2 nx2))) || (!(lessL (fours ph2 fl2 of2 nx2) (fours ph3 fl3 of3 nx3))))) rfl (jo_f hnx)
            replace hh := hh.up3
            replace hh := hh.up3
            replace hh := hh.up3
            replace hh := hh.up3
            exact key121 _ _ _ (by kernel_rfl) ⟨he.keep [0, 1, 2, 3, 4, 5, 6, 7, 10, 11, 25, 75, 81] rfl, hh⟩
        rcases Bool.eq_false_or_eq_true ((lessL (fours ph fl of_ nx) (fours ph2 fl2 of2 nx2))) with hx | hx
        · replace he := he.be (t := 66) (v' := .bool true) rfl (by rw [hx])
          refine ahp (d := 67) (v := .agg #[.int .i64 ph2, .int .i64 fl2, .int .i64 of2, .int .i64 nx2, .slice A_rs2 rs2.length c_rs2, .slice A_pd2 pd2.length c_pd2, .slice A_wd2 wd2.length c_wd2, .bool mk2, .bool lg2]) 12 rfl (by kernel_rfl) (by kernel_rfl) (by kernel_rfl) rfl rfl rfl he ⟨_, _, (Snap.le.refl _), hh⟩ (fun W hS => by
              obtain ⟨I178, _, hleI178, hh⟩ := hS
              refine gy rfl he rfl ?_
              refine ldA [.int .i64 ph2, .int .i64 fl2, .int .i64 of2, .int .i64 nx2, .slice A_rs2 rs2.length c_rs2, .slice A_pd2 pd2.length c_pd2, .slice A_wd2 wd2.length c_wd2, .bool mk2, .bool lg2] rb_28 ti_28 rfl ((Rd.obj hh.at2 0).take 9) rfl rfl he fun a he => ?_
              exact aqe he) fun a he => ?_
          refine ahp (d := 69) (v := .agg #[.int .i64 ph, .int .i64 fl, .int .i64 of_, .int .i64 nx, .slice A_rs rs.length c_rs, .slice A_pd pd.length c_pd, .slice A_wd wd.length c_wd, .bool mk, .bool lg]) 14 rfl (by kernel_rfl) (by kernel_rfl) (by kernel_rfl) rfl rfl rfl he ⟨_, _, (Snap.le.refl _), hh⟩ (fun W hS => by
              obtain ⟨I179, _, hleI179, hh⟩ := hS
              refine gy rfl he rfl ?_
              refine ldA [.int .i64 ph, .int .i64 fl, .int .i64 of_, .int .i64 nx, .slice A_rs rs.length c_rs, .slice A_pd pd.length c_pd, .slice A_wd wd.length c_wd, .bool mk, .bool lg] rb_28 ti_28 rfl ((Rd.obj hh.at3 0).take 9) rfl rfl he fun a he => ?_
              exact aqe he) fun a he => ?_
          refine aha1 (i := 13) (by kernel_rfl) ?_
          refine aop rfl ?_
          refine gy rfl he rfl ?_
          refine cal cb_12 rfl (law_made _ _ _ ph2 fl2 of2 nx2 A_rs2 c_rs2 rs2 A_pd2 c_pd2 pd2 A_wd2 c_wd2 wd2 mk2 lg2 hh (h_rs2.up hl5) k_rs2 (h_pd2.up hl5) k_pd2 (h_wd2.up hl5) k_wd2) rfl he fun v a W hp he => ?_
          obtain ⟨A180, cc181, A182, cc183, A184, cc185, rfl, hf186, hc187, hf188, hc189, hf190, hc191, hh⟩ := hp
          refine aen ⟨_, _, (Snap.le.refl _), hh⟩ ?_
          refine aha1 (i := 15) (by kernel_rfl) ?_
          refine aop rfl ?_
          refine gy rfl he rfl ?_
          refine cal cb_12 rfl (law_made _ _ _ ph fl of_ nx A_rs c_rs rs A_pd c_pd pd A_wd c_wd wd mk lg hh (h_rs.up hl5) k_rs (h_pd.up hl5) k_pd (h_wd.up hl5) k_wd) rfl he fun v a W hp he => ?_
          obtain ⟨A192, cc193, A194, cc195, A196, cc197, rfl, hf198, hc199, hf200, hc201, hf202, hc203, hh⟩ := hp
          refine aen ⟨_, _, (Snap.le.refl _), hh⟩ ?_
          refine aha1 (i := 16) (by kernel_rfl) ?_
          refine aop rfl ?_
          refine gy rfl he rfl ?_
          refine cal cb_20 rfl (prog_Less _ _ _ ph2 fl2 of2 nx2 A180 cc181 rs2 A182 cc183 pd2 A184 cc185 wd2 mk2 lg2 ph fl of_ nx A192 cc193 rs A194 cc195 pd A196 cc197 wd mk lg hh hf186 hc187 hf188 hc189 hf190 hc191 hf198 hc199 hf200 hc201 hf202 hc203) rfl he fun v a W hp he => ?_
          obtain ⟨rfl, hh⟩ := hp
          refine aen ⟨_, _, (Snap.le.refl _), hh⟩ ?_
          refine ahp (d := 72) (v := .bool (lessL (fours ph2 fl2 of2 nx2) (fours ph fl of_ nx))) 17 rfl (by kernel_rfl) (by kernel_rfl) (by kernel_rfl) rfl rfl rfl he ⟨_, _, (Snap.le.refl _), hh⟩ (fun W hS => by
              refine gy rfl he rfl ?_
              refine pkt rfl rfl rfl he fun a he => ?_
              exact aqe he) fun a he => ?_
          replace he := he.be (t := 72) (v' := .bool ((lessL (fours ph fl of_ nx) (fours ph2 fl2 of2 nx2)) && (lessL (fours ph2 fl2 of2 nx2) (fours ph fl of_ nx)))) rfl (ja_t hx)
          replace hh := hh.up3
          replace hh := hh.up3
          replace hh := hh.up3
          replace hh := hh.up3
          exact key118 _ _ _ (by kernel_rfl) ⟨he.keep [0, 1, 2, 3, 4, 5, 6, 7, 8, 9, 10, 11, 25, 64, 72] rfl, hh⟩
        · replace he := he.be (t := 66) (v' := .bool false) rfl (by rw [hx])
          refine ahn 12 rfl (by kernel_rfl) (by kernel_rfl) (by kernel_rfl) rfl rfl he rfl rfl ⟨_, _, (Snap.le.refl _), hh⟩ fun a he => ?_
          refine ahn 13 rfl (by kernel_rfl) (by kernel_rfl) (by kernel_rfl) rfl rfl he rfl rfl ⟨_, _, (Snap.le.refl _), hh⟩ fun a he => ?_
          refine ahn 14 rfl (by kernel_rfl) (by kernel_rfl) (by kernel_rfl) rfl rfl he rfl rfl ⟨_, _, (Snap.le.refl _), hh⟩ fun a he => ?_
          refine ahn 15 rfl (by kernel_rfl) (by kernel_rfl) (by kernel_rfl) rfl rfl he rfl rfl ⟨_, _, (Snap.le.refl _), hh⟩ fun a he => ?_
          refine ahn 16 rfl (by kernel_rfl) (by kernel_rfl) (by kernel_rfl) rfl rfl he rfl rfl ⟨_, _, (Snap.le.refl _), hh⟩ fun a he => ?_
          refine ahp (d := 72) (v := .bool false) 17 rfl (by kernel_rfl) (by kernel_rfl) (by kernel_rfl) rfl rfl rfl he ⟨_, _, (Snap.le.refl _), hh⟩ (fun W hS => by
              refine gy rfl he rfl ?_
              refine pkf rfl rfl rfl he fun a he => ?_
              exact aqe he) fun a he => ?_
          replace he := he.be (t := 72) (v' := .bool ((lessL (fours ph fl of_ nx) (fours ph2 fl2 of2 nx2)) && (lessL (fours ph2 fl2 of2 nx2) (fours ph fl of_ nx)))) rfl (ja_f hx)
          replace hh := hh.up3
          replace hh := hh.up3
          replace hh := hh.up3
          replace hh := hh.up3
          exact key118 _ _ _ (by kernel_rfl) ⟨he.keep [0, 1, 2, 3, 4, 5, 6, 7, 8, 9, 10, 11, 25, 64, 72] rfl, hh⟩
    refine sb he (t := 21) rfl (fun h204 he => ?_) (fun h204 he => ?_)
    · refine gn rfl rfl he rfl rfl fun a he => ?_
      refine gn rfl rfl he rfl rfl fun a he => ?_
      refine gn rfl rfl he rfl rfl fun a he => ?_
      refine pkt rfl rfl rfl he fun a he => ?_
      replace he := he.be (t := 25) (v' := .bool (((!(decide (rs.length ≤ 300) && (decide (pd.length ≤ 300) && decide (wd.length ≤ 300)))) || (!(decide (rs2.length ≤ 300) && (decide (pd2.length ≤ 300) && decide (wd2.length ≤ 300))))) || (!(decide (rs3.length ≤ 300) && (decide (pd3.length ≤ 300) && decide (wd3.length ≤ 300)))))) rfl (jo_t h204)
      replace hh := hh.up2
      replace hh := hh.up2
      replace hh := hh.up2
      exact key9 _ _ ⟨he.keep [0, 1, 2, 3, 4, 5, 6, 7, 25] rfl, hh⟩
    · refine gy rfl he rfl ?_
      refine ldA [.int .i64 ph3, .int .i64 fl3, .int .i64 of3, .int .i64 nx3, .slice A_rs3 rs3.length c_rs3, .slice A_pd3 pd3.length c_pd3, .slice A_wd3 wd3.length c_wd3, .bool mk3, .bool lg3] rb_28 ti_28 rfl ((Rd.obj hh.at0 0).take 9) rfl rfl he fun a he => ?_
      refine gy rfl he rfl ?_
      refine cal cb_9 rfl (law_few _ _ _ ph3 fl3 of3 nx3 A_rs3 c_rs3 rs3 A_pd3 c_pd3 pd3 A_wd3 c_wd3 wd3 mk3 lg3 hh (h_rs3.up hl5) k_rs3 (h_pd3.up hl5) k_pd3 (h_wd3.up hl5) k_wd3) rfl he fun v a W hp he => ?_
      obtain ⟨rfl, hh⟩ := hp
      refine gy rfl he rfl ?_
      refine nt rfl rfl he fun a he => ?_
      refine pkf rfl rfl rfl he fun a he => ?_
      replace he := he.be (t := 25) (v' := .bool (((!(decide (rs.length ≤ 300) && (decide (pd.length ≤ 300) && decide (wd.length ≤ 300)))) || (!(decide (rs2.length ≤ 300) && (decide (pd2.length ≤ 300) && decide (wd2.length ≤ 300))))) || (!(decide (rs3.length ≤ 300) && (decide (pd3.length ≤ 300) && decide (wd3.length ≤ 300)))))) rfl (jo_f h204)
      replace hh := hh.up2
      replace hh := hh.up2
      replace hh := hh.up2
      exact key9 _ _ ⟨he.keep [0, 1, 2, 3, 4, 5, 6, 7, 25] rfl, hh⟩
  refine sb he (t := 16) rfl (fun h206 he => ?_) (fun h206 he => ?_)
  · refine gn rfl rfl he rfl rfl fun a he => ?_
    refine gn rfl rfl he rfl rfl fun a he => ?_
    refine gn rfl rfl he rfl rfl fun a he => ?_
    refine pkt rfl rfl rfl he fun a he => ?_
    replace he := he.be (t := 20) (v' := .bool ((!(decide (rs.length ≤ 300) && (decide (pd.length ≤ 300) && decide (wd.length ≤ 300)))) || (!(decide (rs2.length ≤ 300) && (decide (pd2.length ≤ 300) && decide (wd2.length ≤ 300)))))) rfl (jo_t h206)
    replace hh := hh.up2
    replace hh := hh.up2
    replace hh := hh.up2
    exact key7 _ _ ⟨he.keep [0, 1, 2, 3, 4, 5, 6, 7, 20] rfl, hh⟩
  · refine gy rfl he rfl ?_
    refine ldA [.int .i64 ph2, .int .i64 fl2, .int .i64 of2, .int .i64 nx2, .slice A_rs2 rs2.length c_rs2, .slice A_pd2 pd2.length c_pd2, .slice A_wd2 wd2.length c_wd2, .bool mk2, .bool lg2] rb_28 ti_28 rfl ((Rd.obj hh.at1 0).take 9) rfl rfl he fun a he => ?_
    refine gy rfl he rfl ?_
    refine cal cb_9 rfl (law_few _ _ _ ph2 fl2 of2 nx2 A_rs2 c_rs2 rs2 A_pd2 c_pd2 pd2 A_wd2 c_wd2 wd2 mk2 lg2 hh (h_rs2.up hl5) k_rs2 (h_pd2.up hl5) k_pd2 (h_wd2.up hl5) k_wd2) rfl he fun v a W hp he => ?_
    obtain ⟨rfl, hh⟩ := hp
    refine gy rfl he rfl ?_
    refine nt rfl rfl he fun a he => ?_
    refine pkf rfl rfl rfl he fun a he => ?_
    replace he := he.be (t := 20) (v' := .bool ((!(decide (rs.length ≤ 300) && (decide (pd.length ≤ 300) && decide (wd.length ≤ 300)))) || (!(decide (rs2.length ≤ 300) && (decide (pd2.length ≤ 300) && decide (wd2.length ≤ 300)))))) rfl (jo_f h206)
    replace hh := hh.up2
    replace hh := hh.up2
    replace hh := hh.up2
    exact key7 _ _ ⟨he.keep [0, 1, 2, 3, 4, 5, 6, 7, 20] rfl, hh⟩

end Go.Proofs.YtndaogkpgoimlaaDoor

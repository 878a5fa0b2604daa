/- Walks through the given program's functions, printed op by op by this session's own program; what each computes is told by the plain functions of the texts S... -/
import Derived.Test.YtndaogkpgoimlaaDoorB17
import Derived.KernelRfl
namespace Go.Proofs.YtndaogkpgoimlaaDoor
open Go Go.RowKit K
set_option linter.unusedVariables false
theorem cb_17 : callable Tryd.prog 17 = true := by kernel_rfl
theorem cb_18 : callable Tryd.prog 18 = true := by kernel_rfl
theorem cb_21 : callable Tryd.prog 21 = true := by kernel_rfl
theorem cb_22 : callable Tryd.prog 22 = true := by kernel_rfl
set_option maxHeartbeats 2000000 in
theorem law_ProgTells (I : Snap) (L : List Ch) (W : World) (ph : Int) (fl : Int) (of_ : Int) (nx : Int) (A_rs : Option Addr) (c_rs : Nat) (rs : List Int) (A_pd : Option Addr) (c_pd : Nat) (pd : List UInt8) (A_wd : Option Addr) (c_wd : Nat) (wd : List Int) (mk : Bool) (lg : Bool) (ph2 : Int) (fl2 : Int) (of2 : Int) (nx2 : Int) (A_rs2 : Option Addr) (c_rs2 : Nat) (rs2 : List Int) (A_pd2 : Option Addr) (c_pd2 : Nat) (pd2 : List UInt8) (A_wd2 : Option Addr) (c_wd2 : Nat) (wd2 : List Int) (mk2 : Bool) (lg2 : Bool) (A_b : Option Addr) (c_b : Nat) (b : List UInt8) (n : Int) (hh : Hp I L W) (h_rs : Fz I A_rs (rs.map i64v)) (k_rs : rs.length ≤ c_rs) (h_pd : Fz I A_pd (pd.map b8)) (k_pd : pd.length ≤ c_pd) (h_wd : Fz I A_wd (wd.map r32)) (k_wd : wd.length ≤ c_wd) (h_rs2 : Fz I A_rs2 (rs2.map i64v)) (k_rs2 : rs2.length ≤ c_rs2) (h_pd2 : Fz I A_pd2 (pd2.map b8)) (k_pd2 : pd2.length ≤ c_pd2) (h_wd2 : Fz I A_wd2 (wd2.map r32)) (k_wd2 : wd2.length ≤ c_wd2) (h_b : Fz I A_b (b.map b8)) (k_b : b.length ≤ c_b) (hr : (ph < 9223372036854775808 ∧ fl < 9223372036854775808 ∧ of_ < 9223372036854775808 ∧ nx < 9223372036854775808)) (hrs : ∀ c ∈ rs, c < 9223372036854775808) (hc : ∀ c ∈ wd, c < 4294967296) (h1 : n < 9223372036854775808) (hp : powTab I) :
    Calls Tryd.prog 5 #[.agg #[.int .i64 ph, .int .i64 fl, .int .i64 of_, .int .i64 nx, .slice A_rs rs.length c_rs, .slice A_pd pd.length c_pd, .slice A_wd wd.length c_wd, .bool mk, .bool lg], .agg #[.int .i64 ph2, .int .i64 fl2, .int .i64 of2, .int .i64 nx2, .slice A_rs2 rs2.length c_rs2, .slice A_pd2 pd2.length c_pd2, .slice A_wd2 wd2.length c_wd2, .bool mk2, .bool lg2], .slice A_b b.length c_b, .int .i64 n] W (Ret fun v W => ∃ (I' : Snap), v = .bool true ∧ I.le I' ∧ Hp I' (L) W) := by
  refine enter Tryd.func5 rfl Tryd.ntmps5 rfl fun a he => ?_
  refine sq ?_
  refine rg ?_
  refine bx #[.int .i64 ph, .int .i64 fl, .int .i64 of_, .int .i64 nx, .slice A_rs rs.length c_rs, .slice A_pd pd.length c_pd, .slice A_wd wd.length c_wd, .bool mk, .bool lg] rfl rfl rfl he hh fun bb1 a W he hh => ?_
  replace hh : Hp I (.obj bb1 (.cells [.int .i64 ph, .int .i64 fl, .int .i64 of_, .int .i64 nx, .slice A_rs rs.length c_rs, .slice A_pd pd.length c_pd, .slice A_wd wd.length c_wd, .bool mk, .bool lg].toArray 28) :: _) W := hh
  refine bx #[.int .i64 ph2, .int .i64 fl2, .int .i64 of2, .int .i64 nx2, .slice A_rs2 rs2.length c_rs2, .slice A_pd2 pd2.length c_pd2, .slice A_wd2 wd2.length c_wd2, .bool mk2, .bool lg2] rfl rfl rfl he hh fun bb2 a W he hh => ?_
  replace hh : Hp I (.obj bb2 (.cells [.int .i64 ph2, .int .i64 fl2, .int .i64 of2, .int .i64 nx2, .slice A_rs2 rs2.length c_rs2, .slice A_pd2 pd2.length c_pd2, .slice A_wd2 wd2.length c_wd2, .bool mk2, .bool lg2].toArray 28) :: _) W := hh
  refine asg rfl rfl he fun a he => ?_
  refine en ?_
  refine sq ?_
  refine rg ?_
  refine cal cb_8 rfl (law_shown _ _ _  hh ) rfl he fun v a W hp he => ?_
  obtain ⟨I3, rfl, hl4, hh⟩ := hp
  refine asg rfl rfl he fun a he => ?_
  refine en ?_
  refine sq ?_
  refine sq ?_
  refine rg ?_
  refine ldA [.int .i64 ph, .int .i64 fl, .int .i64 of_, .int .i64 nx, .slice A_rs rs.length c_rs, .slice A_pd pd.length c_pd, .slice A_wd wd.length c_wd, .bool mk, .bool lg] rb_28 ti_28 rfl ((Rd.obj hh.at1 0).take 9) rfl rfl he fun a he => ?_
  refine cal cb_9 rfl (law_few _ _ _ ph fl of_ nx A_rs c_rs rs A_pd c_pd pd A_wd c_wd wd mk lg hh (h_rs.up hl4) k_rs (h_pd.up hl4) k_pd (h_wd.up hl4) k_wd) rfl he fun v a W hp he => ?_
  obtain ⟨rfl, hh⟩ := hp
  refine nt rfl rfl he fun a he => ?_
  refine mv rfl rfl he fun a he => ?_
  refine jnl (fun a W => Env 87 [(0, .agg #[.int .i64 ph, .int .i64 fl, .int .i64 of_, .int .i64 nx, .slice A_rs rs.length c_rs, .slice A_pd pd.length c_pd, .slice A_wd wd.length c_wd, .bool mk, .bool lg]), (1, .agg #[.int .i64 ph2, .int .i64 fl2, .int .i64 of2, .int .i64 nx2, .slice A_rs2 rs2.length c_rs2, .slice A_pd2 pd2.length c_pd2, .slice A_wd2 wd2.length c_wd2, .bool mk2, .bool lg2]), (2, .slice A_b b.length c_b), (3, .int .i64 n), (4, .pointer (some ⟨bb1, 0, none⟩)), (5, .pointer (some ⟨bb2, 0, none⟩)), (8, .bool false), (9, .bool true), (22, .bool ((!(decide (rs.length ≤ 300) && (decide (pd.length ≤ 300) && decide (wd.length ≤ 300)))) || (!(decide (rs2.length ≤ 300) && (decide (pd2.length ≤ 300) && decide (wd2.length ≤ 300))))))] a ∧ Hp I3 (.obj bb2 (.cells ([.int .i64 ph2, .int .i64 fl2, .int .i64 of2, .int .i64 nx2, .slice A_rs2 rs2.length c_rs2, .slice A_pd2 pd2.length c_pd2, .slice A_wd2 wd2.length c_wd2, .bool mk2, .bool lg2]).toArray 28) :: .obj bb1 (.cells ([.int .i64 ph, .int .i64 fl, .int .i64 of_, .int .i64 nx, .slice A_rs rs.length c_rs, .slice A_pd pd.length c_pd, .slice A_wd wd.length c_wd, .bool mk, .bool lg]).toArray 28) :: L) W) 4 (fun a W hM => ?_) fun key6 => ?_
  · obtain ⟨he, hh⟩ := hM
    refine mv rfl rfl he fun a he => ?_
    refine jnl (fun a W => Env 87 [(0, .agg #[.int .i64 ph, .int .i64 fl, .int .i64 of_, .int .i64 nx, .slice A_rs rs.length c_rs, .slice A_pd pd.length c_pd, .slice A_wd wd.length c_wd, .bool mk, .bool lg]), (1, .agg #[.int .i64 ph2, .int .i64 fl2, .int .i64 of2, .int .i64 nx2, .slice A_rs2 rs2.length c_rs2, .slice A_pd2 pd2.length c_pd2, .slice A_wd2 wd2.length c_wd2, .bool mk2, .bool lg2]), (2, .slice A_b b.length c_b), (3, .int .i64 n), (4, .pointer (some ⟨bb1, 0, none⟩)), (5, .pointer (some ⟨bb2, 0, none⟩)), (8, .bool false), (9, .bool true), (27, .bool (((!(decide (rs.length ≤ 300) && (decide (pd.length ≤ 300) && decide (wd.length ≤ 300)))) || (!(decide (rs2.length ≤ 300) && (decide (pd2.length ≤ 300) && decide (wd2.length ≤ 300))))) || (decide ((5000 : Int) < ((b.length : Nat) : Int)))))] a ∧ Hp I3 (.obj bb2 (.cells ([.int .i64 ph2, .int .i64 fl2, .int .i64 of2, .int .i64 nx2, .slice A_rs2 rs2.length c_rs2, .slice A_pd2 pd2.length c_pd2, .slice A_wd2 wd2.length c_wd2, .bool mk2, .bool lg2]).toArray 28) :: .obj bb1 (.cells ([.int .i64 ph, .int .i64 fl, .int .i64 of_, .int .i64 nx, .slice A_rs rs.length c_rs, .slice A_pd pd.length c_pd, .slice A_wd wd.length c_wd, .bool mk, .bool lg]).toArray 28) :: L) W) 4 (fun a W hM => ?_) fun key8 => ?_
    · obtain ⟨he, hh⟩ := hM
      refine en ?_
      refine cnb he rfl (fun h27 => ?_) (fun h27 => ?_)
      · refine sq ?_
        refine rg ?_
        refine mv rfl rfl he fun a he => ?_
        refine asg rfl rfl he fun a he => ?_
        refine en ?_
        refine rt ?_
        refine rets1 Tryd.results5 he rfl (Ret.mk ?_)
        replace hh := hh.drop
        replace hh := hh.drop
        exact ⟨I3, rfl, hl4, hh⟩
      · have hq : ((rs.length ≤ 300 ∧ pd.length ≤ 300 ∧ wd.length ≤ 300) ∧ (rs2.length ≤ 300 ∧ pd2.length ≤ 300 ∧ wd2.length ≤ 300)) ∧ ((b.length : Nat) : Int) ≤ 5000 := by simpa using h27
        refine sk ?_
        refine nm_then ?_
        refine sq ?_
        refine rg ?_
        refine mv rfl rfl he fun a he => ?_
        refine cal cb_10 rfl (prog_Get _ _ _ A_b c_b b hh (h_b.up hl4) k_b) rfl he fun v a W hp he => ?_
        obtain ⟨I9, A11, cc12, A13, cc14, A15, cc16, rfl, hl10, hf17, hc18, hf19, hc20, hf21, hc22, hh⟩ := hp
        refine mv rfl rfl he fun a he => ?_
        refine xt rfl rfl rfl he fun a he => ?_
        refine xt rfl rfl rfl he fun a he => ?_
        refine al ti_36 rfl he hh fun bb23 a W he hh => ?_
        replace hh : Hp I9 (.obj bb23 (.cells [.int .i64 0, .int .i64 0, .int .i64 0, .int .i64 0, .slice none 0 0, .slice none 0 0, .slice none 0 0, .bool false, .bool false].toArray 36) :: _) W := hh
        refine st #[.int .i64 ((progGet b).ph), .int .i64 ((progGet b).fl), .int .i64 ((progGet b).of_), .int .i64 ((progGet b).nx), .slice A11 (((progGet b).rs).length) cc12, .slice A13 (((progGet b).tk.pd).length) cc14, .slice A15 (((progGet b).tk.wd).length) cc16, .bool ((progGet b).tk.mrk), .bool ((progGet b).tk.lg)] ti_36 rfl rfl rfl rfl (by simp [Value.oneCell']) (by simp) he hh fun W hh => ?_
        replace hh : Hp I9 (.obj bb23 (.cells [.int .i64 ((progGet b).ph), .int .i64 ((progGet b).fl), .int .i64 ((progGet b).of_), .int .i64 ((progGet b).nx), .slice A11 (((progGet b).rs).length) cc12, .slice A13 (((progGet b).tk.pd).length) cc14, .slice A15 (((progGet b).tk.wd).length) cc16, .bool ((progGet b).tk.mrk), .bool ((progGet b).tk.lg)].toArray 36) :: _) W := hh
        refine asg rfl rfl he fun a he => ?_
        refine en ?_
        refine sq ?_
        refine rg ?_
        refine mv rfl rfl he fun a he => ?_
        refine cal cb_17 rfl (ref22_Get _ _ _ A_b c_b b hh (h_b.up (hl4.trans hl10)) k_b (by omega)) rfl he fun v a W hp he => ?_
        obtain ⟨I24, A26, cc27, A28, cc29, A30, cc31, rfl, hl25, hf32, hc33, hf34, hc35, hf36, hc37, hh⟩ := hp
        refine mv rfl rfl he fun a he => ?_
        refine xt rfl rfl rfl he fun a he => ?_
        refine xt rfl rfl rfl he fun a he => ?_
        refine al ti_28 rfl he hh fun bb38 a W he hh => ?_
        replace hh : Hp I24 (.obj bb38 (.cells [.int .i64 0, .int .i64 0, .int .i64 0, .int .i64 0, .slice none 0 0, .slice none 0 0, .slice none 0 0, .bool false, .bool false].toArray 28) :: _) W := hh
        refine st #[.int .i64 ((ref22G b).ph), .int .i64 ((ref22G b).fl), .int .i64 ((ref22G b).of_), .int .i64 ((ref22G b).nx), .slice A26 (((ref22G b).rs).length) cc27, .slice A28 (((ref22G b).tk.pd).length) cc29, .slice A30 (((ref22G b).tk.wd).length) cc31, .bool ((ref22G b).tk.mrk), .bool ((ref22G b).tk.lg)] ti_28 rfl rfl rfl rfl (by simp [Value.oneCell']) (by simp) he hh fun W hh => ?_
        replace hh : Hp I24 (.obj bb38 (.cells [.int .i64 ((ref22G b).ph), .int .i64 ((ref22G b).fl), .int .i64 ((ref22G b).of_), .int .i64 ((ref22G b).nx), .slice A26 (((ref22G b).rs).length) cc27, .slice A28 (((ref22G b).tk.pd).length) cc29, .slice A30 (((ref22G b).tk.wd).length) cc31, .bool ((ref22G b).tk.mrk), .bool ((ref22G b).tk.lg)].toArray 28) :: _) W := hh
        refine asg rfl rfl he fun a he => ?_
        refine en ?_
        refine sq ?_
        obtain ⟨b1, b2, b3, b4, b5, b6⟩ := progGet_bnd b
        have hG := ref22_is b
        refine rgd (SH I24 [.obj bb38 (.cells ([.int .i64 ((ref22G b).ph), .int .i64 ((ref22G b).fl), .int .i64 ((ref22G b).of_), .int .i64 ((ref22G b).nx), .slice A26 (((ref22G b).rs).length) cc27, .slice A28 (((ref22G b).tk.pd).length) cc29, .slice A30 (((ref22G b).tk.wd).length) cc31, .bool ((ref22G b).tk.mrk), .bool ((ref22G b).tk.lg)]).toArray 28), .obj bb23 (.cells ([.int .i64 ((progGet b).ph), .int .i64 ((progGet b).fl), .int .i64 ((progGet b).of_), .int .i64 ((progGet b).nx), .slice A11 (((progGet b).rs).length) cc12, .slice A13 (((progGet b).tk.pd).length) cc14, .slice A15 (((progGet b).tk.wd).length) cc16, .bool ((progGet b).tk.mrk), .bool ((progGet b).tk.lg)]).toArray 36), .obj bb2 (.cells ([.int .i64 ph2, .int .i64 fl2, .int .i64 of2, .int .i64 nx2, .slice A_rs2 rs2.length c_rs2, .slice A_pd2 pd2.length c_pd2, .slice A_wd2 wd2.length c_wd2, .bool mk2, .bool lg2]).toArray 28), .obj bb1 (.cells ([.int .i64 ph, .int .i64 fl, .int .i64 of_, .int .i64 nx, .slice A_rs rs.length c_rs, .slice A_pd pd.length c_pd, .slice A_wd wd.length c_wd, .bool mk, .bool lg]).toArray 28)]) 49 mixo rfl hh fun W hh => ?_
        refine ahp (d := 39) (v := .bool true) 0 rfl (by kernel_rfl) (by kernel_rfl) (by kernel_rfl) rfl rfl rfl he ⟨_, _, (Snap.le.refl _), hh⟩ (fun W hS => by
            refine mv rfl rfl he fun a he => ?_
            exact aqe he) fun a he => ?_
        refine ahp (d := 40) (v := .bool true) 1 rfl (by kernel_rfl) (by kernel_rfl) (by kernel_rfl) rfl rfl rfl he ⟨_, _, (Snap.le.refl _), hh⟩ (fun W hS => by
            refine mv rfl rfl he fun a he => ?_
            exact aqe he) fun a he => ?_
        refine ahp (d := 41) (v := .agg #[.int .i64 ph, .int .i64 fl, .int .i64 of_, .int .i64 nx, .slice A_rs rs.length c_rs, .slice A_pd pd.length c_pd, .slice A_wd wd.length c_wd, .bool mk, .bool lg]) 2 rfl (by kernel_rfl) (by kernel_rfl) (by kernel_rfl) rfl rfl rfl he ⟨_, _, (Snap.le.refl _), hh⟩ (fun W hS => by
            obtain ⟨I39, _, hleI39, hh⟩ := hS
            refine gy rfl he rfl ?_
            refine ldA [.int .i64 ph, .int .i64 fl, .int .i64 of_, .int .i64 nx, .slice A_rs rs.length c_rs, .slice A_pd pd.length c_pd, .slice A_wd wd.length c_wd, .bool mk, .bool lg] rb_28 ti_28 rfl ((Rd.obj hh.at3 0).take 9) rfl rfl he fun a he => ?_
            exact aqe he) fun a he => ?_
        refine ahp (d := 45) (v := .agg #[.int .i64 ph, .int .i64 fl, .int .i64 of_, .int .i64 nx, .slice A_rs rs.length c_rs, .slice A_pd pd.length c_pd, .slice A_wd wd.length c_wd, .bool mk, .bool lg]) 6 rfl (by kernel_rfl) (by kernel_rfl) (by kernel_rfl) rfl rfl rfl he ⟨_, _, (Snap.le.refl _), hh⟩ (fun W hS => by
            obtain ⟨I40, _, hleI40, hh⟩ := hS
            refine gy rfl he rfl ?_
            refine ldA [.int .i64 ph, .int .i64 fl, .int .i64 of_, .int .i64 nx, .slice A_rs rs.length c_rs, .slice A_pd pd.length c_pd, .slice A_wd wd.length c_wd, .bool mk, .bool lg] rb_28 ti_28 rfl ((Rd.obj hh.at3 0).take 9) rfl rfl he fun a he => ?_
            exact aqe he) fun a he => ?_
        refine aha1 (i := 3) (by kernel_rfl) ?_
        refine aop rfl ?_
        refine gy rfl he rfl ?_
        refine cal cb_12 rfl (law_made _ _ _ ph fl of_ nx A_rs c_rs rs A_pd c_pd pd A_wd c_wd wd mk lg hh (h_rs.up ((hl4.trans hl10).trans hl25)) k_rs (h_pd.up ((hl4.trans hl10).trans hl25)) k_pd (h_wd.up ((hl4.trans hl10).trans hl25)) k_wd) rfl he fun v a W hp he => ?_
        obtain ⟨A41, cc42, A43, cc44, A45, cc46, rfl, hf47, hc48, hf49, hc50, hf51, hc52, hh⟩ := hp
        refine aen ⟨_, _, (Snap.le.refl _), hh⟩ ?_
        refine aha1 (i := 4) (by kernel_rfl) ?_
        refine aop rfl ?_
        refine gy rfl he rfl ?_
        refine cal cb_11 rfl (prog_Put _ _ _ ph fl of_ nx A41 cc42 rs A43 cc44 pd A45 cc46 wd mk lg hh hf47 hc48 hf49 hc50 hf51 hc52 hr hrs (by omega) (by omega) (by omega) hc) rfl he fun v a W hp he => ?_
        obtain ⟨I53, A55, cc56, rfl, hl54, hh⟩ := hp
        replace hh := hh.up4
        replace hh := hh.up4
        replace hh := hh.up4
        replace hh := hh.up4
        refine aen ⟨_, _, hl54, hh⟩ ?_
        refine jnd (fun a W => ∃ (I58 : Snap), I53.le I58 ∧ Env 87 [(0, .agg #[.int .i64 ph, .int .i64 fl, .int .i64 of_, .int .i64 nx, .slice A_rs rs.length c_rs, .slice A_pd pd.length c_pd, .slice A_wd wd.length c_wd, .bool mk, .bool lg]), (1, .agg #[.int .i64 ph2, .int .i64 fl2, .int .i64 of2, .int .i64 nx2, .slice A_rs2 rs2.length c_rs2, .slice A_pd2 pd2.length c_pd2, .slice A_wd2 wd2.length c_wd2, .bool mk2, .bool lg2]), (2, .slice A_b b.length c_b), (3, .int .i64 n), (4, .pointer (some ⟨bb1, 0, none⟩)), (5, .pointer (some ⟨bb2, 0, none⟩)), (8, .bool false), (9, .bool true), (10, .pointer (some ⟨bb23, 0, none⟩)), (11, .int .i64 ((progGet b).err)), (12, .pointer (some ⟨bb38, 0, none⟩)), (13, .int .i64 ((ref22G b).err)), (27, .bool (((!(decide (rs.length ≤ 300) && (decide (pd.length ≤ 300) && decide (wd.length ≤ 300)))) || (!(decide (rs2.length ≤ 300) && (decide (pd2.length ≤ 300) && decide (wd2.length ≤ 300))))) || (decide ((5000 : Int) < ((b.length : Nat) : Int))))), (40, .bool true), (44, .string (⟨(progPut ph fl of_ nx rs pd wd mk lg).toArray⟩)), (47, .string (⟨(progPut ph fl of_ nx rs pd wd mk lg).toArray⟩))] a ∧ Hp I58 (.obj bb38 (.cells ([.int .i64 ((ref22G b).ph), .int .i64 ((ref22G b).fl), .int .i64 ((ref22G b).of_), .int .i64 ((ref22G b).nx), .slice A26 (((ref22G b).rs).length) cc27, .slice A28 (((ref22G b).tk.pd).length) cc29, .slice A30 (((ref22G b).tk.wd).length) cc31, .bool ((ref22G b).tk.mrk), .bool ((ref22G b).tk.lg)]).toArray 28) :: .obj bb23 (.cells ([.int .i64 ((progGet b).ph), .int .i64 ((progGet b).fl), .int .i64 ((progGet b).of_), .int .i64 ((progGet b).nx), .slice A11 (((progGet b).rs).length) cc12, .slice A13 (((progGet b).tk.pd).length) cc14, .slice A15 (((progGet b).tk.wd).length) cc16, .bool ((progGet b).tk.mrk), .bool ((progGet b).tk.lg)]).toArray 36) :: .obj bb2 (.cells ([.int .i64 ph2, .int .i64 fl2, .int .i64 of2, .int .i64 nx2, .slice A_rs2 rs2.length c_rs2, .slice A_pd2 pd2.length c_pd2, .slice A_wd2 wd2.length c_wd2, .bool mk2, .bool lg2]).toArray 28) :: .obj bb1 (.cells ([.int .i64 ph, .int .i64 fl, .int .i64 of_, .int .i64 nx, .slice A_rs rs.length c_rs, .slice A_pd pd.length c_pd, .slice A_wd wd.length c_wd, .bool mk, .bool lg]).toArray 28) :: .row A55 ((progPut ph fl of_ nx rs pd wd mk lg).length) cc56 5 1 ((progPut ph fl of_ nx rs pd wd mk lg).map b8) :: L) W) 40 #[true, true, true, true, true, true, true, true, true, false, false, false, false, false, false, false, false, false, false, false, false, false, false, false, false, false, false, false, false, false, false, false, false, false, false, false, false, false, false, false, false, false, false, false, false, false, false, false, false] (fun a W hM => ?_) fun key60 => ?_
        · obtain ⟨I58, hle59, he, hh⟩ := hM
          refine ahp (d := 48) (v := .bool (decide ((⟨(progPut ph fl of_ nx rs pd wd mk lg).toArray⟩ : ByteArray) = (⟨(progPut ph fl of_ nx rs pd wd mk lg).toArray⟩ : ByteArray)))) 9 rfl (by kernel_rfl) (by kernel_rfl) (by kernel_rfl) rfl rfl rfl he ⟨_, _, (hl54.trans hle59), hh⟩ (fun W hS => by
              refine gy rfl he rfl ?_
              refine seq' rfl rfl rfl he fun a he => ?_
              exact aqe he) fun a he => ?_
          refine ahp (d := 49) (v := .bool (decide ((⟨(progPut ph fl of_ nx rs pd wd mk lg).toArray⟩ : ByteArray) = (⟨(progPut ph fl of_ nx rs pd wd mk lg).toArray⟩ : ByteArray)))) 10 rfl (by kernel_rfl) (by kernel_rfl) (by kernel_rfl) rfl rfl rfl he ⟨_, _, (hl54.trans hle59), hh⟩ (fun W hS => by
              refine pkt rfl rfl rfl he fun a he => ?_
              exact aqe he) fun a he => ?_
          refine ahp (d := 50) (v := .bool (decide ((⟨(progPut ph fl of_ nx rs pd wd mk lg).toArray⟩ : ByteArray) = (⟨(progPut ph fl of_ nx rs pd wd mk lg).toArray⟩ : ByteArray)))) 11 rfl (by kernel_rfl) (by kernel_rfl) (by kernel_rfl) rfl rfl rfl he ⟨_, _, (hl54.trans hle59), hh⟩ (fun W hS => by
              refine mv rfl rfl he fun a he => ?_
              exact aqe he) fun a he => ?_
          replace he := he.be (t := 50) (v' := .bool true) rfl (by exact congrArg Value.bool (by simp [hG]))
          refine ahp (d := 51) (v := .agg #[.int .i64 ph, .int .i64 fl, .int .i64 of_, .int .i64 nx, .slice A_rs rs.length c_rs, .slice A_pd pd.length c_pd, .slice A_wd wd.length c_wd, .bool mk, .bool lg]) 12 rfl (by kernel_rfl) (by kernel_rfl) (by kernel_rfl) rfl rfl rfl he ⟨_, _, (hl54.trans hle59), hh⟩ (fun W hS => by
              obtain ⟨I62, _, hleI62, hh⟩ := hS
              refine gy rfl he rfl ?_
              refine ldA [.int .i64 ph, .int .i64 fl, .int .i64 of_, .int .i64 nx, .slice A_rs rs.length c_rs, .slice A_pd pd.length c_pd, .slice A_wd wd.length c_wd, .bool mk, .bool lg] rb_28 ti_28 rfl ((Rd.obj hh.at3 0).take 9) rfl rfl he fun a he => ?_
              exact aqe he) fun a he => ?_
          refine ahp (d := 54) (v := .agg #[.int .i64 ph, .int .i64 fl, .int .i64 of_, .int .i64 nx, .slice A_rs rs.length c_rs, .slice A_pd pd.length c_pd, .slice A_wd wd.length c_wd, .bool mk, .bool lg]) 15 rfl (by kernel_rfl) (by kernel_rfl) (by kernel_rfl) rfl rfl rfl he ⟨_, _, (hl54.trans hle59), hh⟩ (fun W hS => by
              obtain ⟨I63, _, hleI63, hh⟩ := hS
              refine gy rfl he rfl ?_
              refine ldA [.int .i64 ph, .int .i64 fl, .int .i64 of_, .int .i64 nx, .slice A_rs rs.length c_rs, .slice A_pd pd.length c_pd, .slice A_wd wd.length c_wd, .bool mk, .bool lg] rb_28 ti_28 rfl ((Rd.obj hh.at3 0).take 9) rfl rfl he fun a he => ?_
              exact aqe he) fun a he => ?_
          refine aha1 (i := 13) (by kernel_rfl) ?_
          refine aop rfl ?_
          refine gy rfl he rfl ?_
          refine cal cb_12 rfl (law_made _ _ _ ph fl of_ nx A_rs c_rs rs A_pd c_pd pd A_wd c_wd wd mk lg hh (h_rs.up ((((hl4.trans hl10).trans hl25).trans hl54).trans hle59)) k_rs (h_pd.up ((((hl4.trans hl10).trans hl25).trans hl54).trans hle59)) k_pd (h_wd.up ((((hl4.trans hl10).trans hl25).trans hl54).trans hle59)) k_wd) rfl he fun v a W hp he => ?_
          obtain ⟨A64, cc65, A66, cc67, A68, cc69, rfl, hf70, hc71, hf72, hc73, hf74, hc75, hh⟩ := hp
          refine aen ⟨_, _, (hl54.trans hle59), hh⟩ ?_
          refine aha1 (i := 14) (by kernel_rfl) ?_
          refine aop rfl ?_
          refine gy rfl he rfl ?_
          refine cal cb_13 rfl (prog_May _ _ _ ph fl of_ nx A64 cc65 rs A66 cc67 pd A68 cc69 wd mk lg hh hf70 hc71 hf72 hc73 hf74 hc75 (by omega) (by omega) (by omega) hc) rfl he fun v a W hp he => ?_
          obtain ⟨I76, rfl, hl77, hh⟩ := hp
          refine aen ⟨_, _, ((hl54.trans hle59).trans hl77), hh⟩ ?_
          refine aha1 (i := 16) (by kernel_rfl) ?_
          refine aop rfl ?_
          refine gy rfl he rfl ?_
          refine cal cb_19 rfl (ref22_May _ _ _ ph fl of_ nx A_rs c_rs rs A_pd c_pd pd A_wd c_wd wd mk lg hh (h_rs.up (((((hl4.trans hl10).trans hl25).trans hl54).trans hle59).trans hl77)) k_rs (h_pd.up (((((hl4.trans hl10).trans hl25).trans hl54).trans hle59).trans hl77)) k_pd (h_wd.up (((((hl4.trans hl10).trans hl25).trans hl54).trans hle59).trans hl77)) k_wd (by omega) (by omega) (by omega) hc) rfl he fun v a W hp he => ?_
          obtain ⟨I78, rfl, hl79, hh⟩ := hp
          refine aen ⟨_, _, (((hl54.trans hle59).trans hl77).trans hl79), hh⟩ ?_
          refine ahp (d := 56) (v := .bool ((mayN ph fl of_ nx rs pd wd mk lg) == (mayN ph fl of_ nx rs pd wd mk lg))) 17 rfl (by kernel_rfl) (by kernel_rfl) (by kernel_rfl) rfl rfl rfl he ⟨_, _, (((hl54.trans hle59).trans hl77).trans hl79), hh⟩ (fun W hS => by
              refine gy rfl he rfl ?_
              refine beq' Tryd.underlying4 rfl rfl rfl he fun a he => ?_
              exact aqe he) fun a he => ?_
          refine ahp (d := 57) (v := .bool ((mayN ph fl of_ nx rs pd wd mk lg) == (mayN ph fl of_ nx rs pd wd mk lg))) 18 rfl (by kernel_rfl) (by kernel_rfl) (by kernel_rfl) rfl rfl rfl he ⟨_, _, (((hl54.trans hle59).trans hl77).trans hl79), hh⟩ (fun W hS => by
              refine pkt rfl rfl rfl he fun a he => ?_
              exact aqe he) fun a he => ?_
          refine ahp (d := 58) (v := .bool ((mayN ph fl of_ nx rs pd wd mk lg) == (mayN ph fl of_ nx rs pd wd mk lg))) 19 rfl (by kernel_rfl) (by kernel_rfl) (by kernel_rfl) rfl rfl rfl he ⟨_, _, (((hl54.trans hle59).trans hl77).trans hl79), hh⟩ (fun W hS => by
              refine mv rfl rfl he fun a he => ?_
              exact aqe he) fun a he => ?_
          replace he := he.be (t := 58) (v' := .bool true) rfl (by exact congrArg Value.bool (by simp [hG]))
          refine ahp (d := 59) (v := .agg #[.int .i64 ((progGet b).ph), .int .i64 ((progGet b).fl), .int .i64 ((progGet b).of_), .int .i64 ((progGet b).nx), .slice A11 (((progGet b).rs).length) cc12, .slice A13 (((progGet b).tk.pd).length) cc14, .slice A15 (((progGet b).tk.wd).length) cc16, .bool ((progGet b).tk.mrk), .bool ((progGet b).tk.lg)]) 20 rfl (by kernel_rfl) (by kernel_rfl) (by kernel_rfl) rfl rfl rfl he ⟨_, _, (((hl54.trans hle59).trans hl77).trans hl79), hh⟩ (fun W hS => by
              obtain ⟨I81, _, hleI81, hh⟩ := hS
              refine gy rfl he rfl ?_
              refine ldA [.int .i64 ((progGet b).ph), .int .i64 ((progGet b).fl), .int .i64 ((progGet b).of_), .int .i64 ((progGet b).nx), .slice A11 (((progGet b).rs).length) cc12, .slice A13 (((progGet b).tk.pd).length) cc14, .slice A15 (((progGet b).tk.wd).length) cc16, .bool ((progGet b).tk.mrk), .bool ((progGet b).tk.lg)] rb_36 ti_36 rfl ((Rd.obj hh.at1 0).take 9) rfl rfl he fun a he => ?_
              exact aqe he) fun a he => ?_
          refine ahp (d := 61) (v := .agg #[.int .i64 ((ref22G b).ph), .int .i64 ((ref22G b).fl), .int .i64 ((ref22G b).of_), .int .i64 ((ref22G b).nx), .slice A26 (((ref22G b).rs).length) cc27, .slice A28 (((ref22G b).tk.pd).length) cc29, .slice A30 (((ref22G b).tk.wd).length) cc31, .bool ((ref22G b).tk.mrk), .bool ((ref22G b).tk.lg)]) 22 rfl (by kernel_rfl) (by kernel_rfl) (by kernel_rfl) rfl rfl rfl he ⟨_, _, (((hl54.trans hle59).trans hl77).trans hl79), hh⟩ (fun W hS => by
              obtain ⟨I82, _, hleI82, hh⟩ := hS
              refine gy rfl he rfl ?_
              refine ldA [.int .i64 ((ref22G b).ph), .int .i64 ((ref22G b).fl), .int .i64 ((ref22G b).of_), .int .i64 ((ref22G b).nx), .slice A26 (((ref22G b).rs).length) cc27, .slice A28 (((ref22G b).tk.pd).length) cc29, .slice A30 (((ref22G b).tk.wd).length) cc31, .bool ((ref22G b).tk.mrk), .bool ((ref22G b).tk.lg)] rb_28 ti_28 rfl ((Rd.obj hh.at0 0).take 9) rfl rfl he fun a he => ?_
              exact aqe he) fun a he => ?_
          refine aha1 (i := 21) (by kernel_rfl) ?_
          refine aop rfl ?_
          refine gy rfl he rfl ?_
          refine cal cb_15 rfl (law_real _ _ _ ((progGet b).ph) ((progGet b).fl) ((progGet b).of_) ((progGet b).nx) A11 cc12 ((progGet b).rs) A13 cc14 ((progGet b).tk.pd) A15 cc16 ((progGet b).tk.wd) ((progGet b).tk.mrk) ((progGet b).tk.lg) hh (hf17.up ((((hl25.trans hl54).trans hle59).trans hl77).trans hl79)) hc18 (hf19.up ((((hl25.trans hl54).trans hle59).trans hl77).trans hl79)) hc20 (hf21.up ((((hl25.trans hl54).trans hle59).trans hl77).trans hl79)) hc22) rfl he fun v a W hp he => ?_
          obtain ⟨A83, cc84, A85, cc86, A87, cc88, rfl, hf89, hc90, hf91, hc92, hf93, hc94, hh⟩ := hp
          refine aen ⟨_, _, (((hl54.trans hle59).trans hl77).trans hl79), hh⟩ ?_
          refine aha1 (i := 23) (by kernel_rfl) ?_
          refine aop rfl ?_
          refine gy rfl he rfl ?_
          refine cal cb_14 rfl (ref22_Same _ _ _ ((progGet b).ph) ((progGet b).fl) ((progGet b).of_) ((progGet b).nx) A83 cc84 ((progGet b).rs) A85 cc86 ((progGet b).tk.pd) A87 cc88 ((progGet b).tk.wd) ((progGet b).tk.mrk) ((progGet b).tk.lg) ((ref22G b).ph) ((ref22G b).fl) ((ref22G b).of_) ((ref22G b).nx) A26 cc27 ((ref22G b).rs) A28 cc29 ((ref22G b).tk.pd) A30 cc31 ((ref22G b).tk.wd) ((ref22G b).tk.mrk) ((ref22G b).tk.lg) hh hf89 hc90 hf91 hc92 hf93 hc94 (hf32.up (((hl54.trans hle59).trans hl77).trans hl79)) hc33 (hf34.up (((hl54.trans hle59).trans hl77).trans hl79)) hc35 (hf36.up (((hl54.trans hle59).trans hl77).trans hl79)) hc37 (by omega) (by omega)) rfl he fun v a W hp he => ?_
          obtain ⟨rfl, hh⟩ := hp
          refine aen ⟨_, _, (((hl54.trans hle59).trans hl77).trans hl79), hh⟩ ?_
          refine ahp (d := 63) (v := .bool (decide (((progGet b).rs) = ((ref22G b).rs)) && (decide (((progGet b).ph) = ((ref22G b).ph)) && (decide (((progGet b).fl) = ((ref22G b).fl)) && (decide (((progGet b).of_) = ((ref22G b).of_)) && (decide (((progGet b).nx) = ((ref22G b).nx)) && (decide (((progGet b).tk.pd) = ((ref22G b).tk.pd)) && (decide (((progGet b).tk.wd) = ((ref22G b).tk.wd)) && ((((progGet b).tk.mrk) == ((ref22G b).tk.mrk)) && (((progGet b).tk.lg) == ((ref22G b).tk.lg))))))))))) 24 rfl (by kernel_rfl) (by kernel_rfl) (by kernel_rfl) rfl rfl rfl he ⟨_, _, (((hl54.trans hle59).trans hl77).trans hl79), hh⟩ (fun W hS => by
              refine pkt rfl rfl rfl he fun a he => ?_
              exact aqe he) fun a he => ?_
          refine ahp (d := 64) (v := .bool (decide (((progGet b).rs) = ((ref22G b).rs)) && (decide (((progGet b).ph) = ((ref22G b).ph)) && (decide (((progGet b).fl) = ((ref22G b).fl)) && (decide (((progGet b).of_) = ((ref22G b).of_)) && (decide (((progGet b).nx) = ((ref22G b).nx)) && (decide (((progGet b).tk.pd) = ((ref22G b).tk.pd)) && (decide (((progGet b).tk.wd) = ((ref22G b).tk.wd)) && ((((progGet b).tk.mrk) == ((ref22G b).tk.mrk)) && (((progGet b).tk.lg) == ((ref22G b).tk.lg))))))))))) 25 rfl (by kernel_rfl) (by kernel_rfl) (by kernel_rfl) rfl rfl rfl he ⟨_, _, (((hl54.trans hle59).trans hl77).trans hl79), hh⟩ (fun W hS => by
              refine mv rfl rfl he fun a he => ?_
              exact aqe he) fun a he => ?_
          replace he := he.be (t := 64) (v' := .bool true) rfl (by exact congrArg Value.bool (by simp [hG]))
          refine ahp (d := 65) (v := .int .i64 ((progGet b).err)) 26 rfl (by kernel_rfl) (by kernel_rfl) (by kernel_rfl) rfl rfl rfl he ⟨_, _, (((hl54.trans hle59).trans hl77).trans hl79), hh⟩ (fun W hS => by
              refine gy rfl he rfl ?_
              refine mv rfl rfl he fun a he => ?_
              exact aqe he) fun a he => ?_
          refine ahp (d := 66) (v := .int .i64 ((ref22G b).err)) 27 rfl (by kernel_rfl) (by kernel_rfl) (by kernel_rfl) rfl rfl rfl he ⟨_, _, (((hl54.trans hle59).trans hl77).trans hl79), hh⟩ (fun W hS => by
              refine gy rfl he rfl ?_
              refine mv rfl rfl he fun a he => ?_
              exact aqe he) fun a he => ?_
          refine ahp (d := 67) (v := .bool (decide (((progGet b).err) = ((ref22G b).err)))) 28 rfl (by kernel_rfl) (by kernel_rfl) (by kernel_rfl) rfl rfl rfl he ⟨_, _, (((hl54.trans hle59).trans hl77).trans hl79), hh⟩ (fun W hS => by
              refine gy rfl he rfl ?_
              refine eq rfl rfl rfl he fun a he => ?_
              exact aqe he) fun a he => ?_
          refine ahp (d := 68) (v := .bool (decide (((progGet b).err) = ((ref22G b).err)))) 29 rfl (by kernel_rfl) (by kernel_rfl) (by kernel_rfl) rfl rfl rfl he ⟨_, _, (((hl54.trans hle59).trans hl77).trans hl79), hh⟩ (fun W hS => by
              refine pkt rfl rfl rfl he fun a he => ?_
              exact aqe he) fun a he => ?_
          refine ahp (d := 69) (v := .bool (decide (((progGet b).err) = ((ref22G b).err)))) 30 rfl (by kernel_rfl) (by kernel_rfl) (by kernel_rfl) rfl rfl rfl he ⟨_, _, (((hl54.trans hle59).trans hl77).trans hl79), hh⟩ (fun W hS => by
              refine mv rfl rfl he fun a he => ?_
              exact aqe he) fun a he => ?_
          replace he := he.be (t := 69) (v' := .bool true) rfl (by exact congrArg Value.bool (by simp [hG]))
          refine ahp (d := 70) (v := .agg #[.int .i64 ph, .int .i64 fl, .int .i64 of_, .int .i64 nx, .slice A_rs rs.length c_rs, .slice A_pd pd.length c_pd, .slice A_wd wd.length c_wd, .bool mk, .bool lg]) 31 rfl (by kernel_rfl) (by kernel_rfl) (by kernel_rfl) rfl rfl rfl he ⟨_, _, (((hl54.trans hle59).trans hl77).trans hl79), hh⟩ (fun W hS => by
              obtain ⟨I97, _, hleI97, hh⟩ := hS
              refine gy rfl he rfl ?_
              refine ldA [.int .i64 ph, .int .i64 fl, .int .i64 of_, .int .i64 nx, .slice A_rs rs.length c_rs, .slice A_pd pd.length c_pd, .slice A_wd wd.length c_wd, .bool mk, .bool lg] rb_28 ti_28 rfl ((Rd.obj hh.at3 0).take 9) rfl rfl he fun a he => ?_
              exact aqe he) fun a he => ?_
          refine ahp (d := 72) (v := .agg #[.int .i64 ph2, .int .i64 fl2, .int .i64 of2, .int .i64 nx2, .slice A_rs2 rs2.length c_rs2, .slice A_pd2 pd2.length c_pd2, .slice A_wd2 wd2.length c_wd2, .bool mk2, .bool lg2]) 33 rfl (by kernel_rfl) (by kernel_rfl) (by kernel_rfl) rfl rfl rfl he ⟨_, _, (((hl54.trans hle59).trans hl77).trans hl79), hh⟩ (fun W hS => by
              obtain ⟨I98, _, hleI98, hh⟩ := hS
              refine gy rfl he rfl ?_
              refine ldA [.int .i64 ph2, .int .i64 fl2, .int .i64 of2, .int .i64 nx2, .slice A_rs2 rs2.length c_rs2, .slice A_pd2 pd2.length c_pd2, .slice A_wd2 wd2.length c_wd2, .bool mk2, .bool lg2] rb_28 ti_28 rfl ((Rd.obj hh.at2 0).take 9) rfl rfl he fun a he => ?_
              exact aqe he) fun a he => ?_
          refine ahp (d := 75) (v := .agg #[.int .i64 ph, .int .i64 fl, .int .i64 of_, .int .i64 nx, .slice A_rs rs.length c_rs, .slice A_pd pd.length c_pd, .slice A_wd wd.length c_wd, .bool mk, .bool lg]) 36 rfl (by kernel_rfl) (by kernel_rfl) (by kernel_rfl) rfl rfl rfl he ⟨_, _, (((hl54.trans hle59).trans hl77).trans hl79), hh⟩ (fun W hS => by
              obtain ⟨I99, _, hleI99, hh⟩ := hS
              refine gy rfl he rfl ?_
              refine ldA [.int .i64 ph, .int .i64 fl, .int .i64 of_, .int .i64 nx, .slice A_rs rs.length c_rs, .slice A_pd pd.length c_pd, .slice A_wd wd.length c_wd, .bool mk, .bool lg] rb_28 ti_28 rfl ((Rd.obj hh.at3 0).take 9) rfl rfl he fun a he => ?_
              exact aqe he) fun a he => ?_
          refine ahp (d := 76) (v := .agg #[.int .i64 ph2, .int .i64 fl2, .int .i64 of2, .int .i64 nx2, .slice A_rs2 rs2.length c_rs2, .slice A_pd2 pd2.length c_pd2, .slice A_wd2 wd2.length c_wd2, .bool mk2, .bool lg2]) 37 rfl (by kernel_rfl) (by kernel_rfl) (by kernel_rfl) rfl rfl rfl he ⟨_, _, (((hl54.trans hle59).trans hl77).trans hl79), hh⟩ (fun W hS => by
              obtain ⟨I100, _, hleI100, hh⟩ := hS
              refine gy rfl he rfl ?_
              refine ldA [.int .i64 ph2, .int .i64 fl2, .int .i64 of2, .int .i64 nx2, .slice A_rs2 rs2.length c_rs2, .slice A_pd2 pd2.length c_pd2, .slice A_wd2 wd2.length c_wd2, .bool mk2, .bool lg2] rb_28 ti_28 rfl ((Rd.obj hh.at2 0).take 9) rfl rfl he fun a he => ?_
              exact aqe he) fun a he => ?_
          refine aha1 (i := 32) (by kernel_rfl) ?_
          refine aop rfl ?_
          refine gy rfl he rfl ?_
          refine cal cb_12 rfl (law_made _ _ _ ph fl of_ nx A_rs c_rs rs A_pd c_pd pd A_wd c_wd wd mk lg hh (h_rs.up ((((((hl4.trans hl10).trans hl25).trans hl54).trans hle59).trans hl77).trans hl79)) k_rs (h_pd.up ((((((hl4.trans hl10).trans hl25).trans hl54).trans hle59).trans hl77).trans hl79)) k_pd (h_wd.up ((((((hl4.trans hl10).trans hl25).trans hl54).trans hle59).trans hl77).trans hl79)) k_wd) rfl he fun v a W hp he => ?_
          obtain ⟨A101, cc102, A103, cc104, A105, cc106, rfl, hf107, hc108, hf109, hc110, hf111, hc112, hh⟩ := hp
          refine aen ⟨_, _, (((hl54.trans hle59).trans hl77).trans hl79), hh⟩ ?_
          refine aha1 (i := 34) (by kernel_rfl) ?_
          refine aop rfl ?_
          refine gy rfl he rfl ?_
          refine cal cb_12 rfl (law_made _ _ _ ph2 fl2 of2 nx2 A_rs2 c_rs2 rs2 A_pd2 c_pd2 pd2 A_wd2 c_wd2 wd2 mk2 lg2 hh (h_rs2.up ((((((hl4.trans hl10).trans hl25).trans hl54).trans hle59).trans hl77).trans hl79)) k_rs2 (h_pd2.up ((((((hl4.trans hl10).trans hl25).trans hl54).trans hle59).trans hl77).trans hl79)) k_pd2 (h_wd2.up ((((((hl4.trans hl10).trans hl25).trans hl54).trans hle59).trans hl77).trans hl79)) k_wd2) rfl he fun v a W hp he => ?_
          obtain ⟨A113, cc114, A115, cc116, A117, cc118, rfl, hf119, hc120, hf121, hc122, hf123, hc124, hh⟩ := hp
          refine aen ⟨_, _, (((hl54.trans hle59).trans hl77).trans hl79), hh⟩ ?_
          refine aha1 (i := 35) (by kernel_rfl) ?_
          refine aop rfl ?_
          refine gy rfl he rfl ?_
          refine cal cb_20 rfl (prog_Less _ _ _ ph fl of_ nx A101 cc102 rs A103 cc104 pd A105 cc106 wd mk lg ph2 fl2 of2 nx2 A113 cc114 rs2 A115 cc116 pd2 A117 cc118 wd2 mk2 lg2 hh hf107 hc108 hf109 hc110 hf111 hc112 hf119 hc120 hf121 hc122 hf123 hc124) rfl he fun v a W hp he => ?_
          obtain ⟨rfl, hh⟩ := hp
          refine aen ⟨_, _, (((hl54.trans hle59).trans hl77).trans hl79), hh⟩ ?_
          refine aha1 (i := 38) (by kernel_rfl) ?_
          refine aop rfl ?_
          refine gy rfl he rfl ?_
          refine cal cb_21 rfl (ref22_Less _ _ _ ph fl of_ nx A_rs c_rs rs A_pd c_pd pd A_wd c_wd wd mk lg ph2 fl2 of2 nx2 A_rs2 c_rs2 rs2 A_pd2 c_pd2 pd2 A_wd2 c_wd2 wd2 mk2 lg2 hh (h_rs.up ((((((hl4.trans hl10).trans hl25).trans hl54).trans hle59).trans hl77).trans hl79)) k_rs (h_pd.up ((((((hl4.trans hl10).trans hl25).trans hl54).trans hle59).trans hl77).trans hl79)) k_pd (h_wd.up ((((((hl4.trans hl10).trans hl25).trans hl54).trans hle59).trans hl77).trans hl79)) k_wd (h_rs2.up ((((((hl4.trans hl10).trans hl25).trans hl54).trans hle59).trans hl77).trans hl79)) k_rs2 (h_pd2.up ((((((hl4.trans hl10).trans hl25).trans hl54).trans hle59).trans hl77).trans hl79)) k_pd2 (h_wd2.up ((((((hl4.trans hl10).trans hl25).trans hl54).trans hle59).trans hl77).trans hl79)) k_wd2) rfl he fun v a W hp he => ?_
          obtain ⟨I125, rfl, hl126, hh⟩ := hp
          refine aen ⟨_, _, ((((hl54.trans hle59).trans hl77).trans hl79).trans hl126), hh⟩ ?_
          refine ahp (d := 78) (v := .bool ((lessL (fours ph fl of_ nx) (fours ph2 fl2 of2 nx2)) == (lessL (fours ph fl of_ nx) (fours ph2 fl2 of2 nx2)))) 39 rfl (by kernel_rfl) (by kernel_rfl) (by kernel_rfl) rfl rfl rfl he ⟨_, _, ((((hl54.trans hle59).trans hl77).trans hl79).trans hl126), hh⟩ (fun W hS => by
              refine gy rfl he rfl ?_
              refine beq' Tryd.underlying4 rfl rfl rfl he fun a he => ?_
              exact aqe he) fun a he => ?_
          refine ahp (d := 79) (v := .bool ((lessL (fours ph fl of_ nx) (fours ph2 fl2 of2 nx2)) == (lessL (fours ph fl of_ nx) (fours ph2 fl2 of2 nx2)))) 40 rfl (by kernel_rfl) (by kernel_rfl) (by kernel_rfl) rfl rfl rfl he ⟨_, _, ((((hl54.trans hle59).trans hl77).trans hl79).trans hl126), hh⟩ (fun W hS => by
              refine pkt rfl rfl rfl he fun a he => ?_
              exact aqe he) fun a he => ?_
          refine ahp (d := 80) (v := .bool ((lessL (fours ph fl of_ nx) (fours ph2 fl2 of2 nx2)) == (lessL (fours ph fl of_ nx) (fours ph2 fl2 of2 nx2)))) 41 rfl (by kernel_rfl) (by kernel_rfl) (by kernel_rfl) rfl rfl rfl he ⟨_, _, ((((hl54.trans hle59).trans hl77).trans hl79).trans hl126), hh⟩ (fun W hS => by
              refine mv rfl rfl he fun a he => ?_
              exact aqe he) fun a he => ?_
          replace he := he.be (t := 80) (v' := .bool true) rfl (by exact congrArg Value.bool (by simp [hG]))
          refine ahp (d := 81) (v := .int .i64 n) 42 rfl (by kernel_rfl) (by kernel_rfl) (by kernel_rfl) rfl rfl rfl he ⟨_, _, ((((hl54.trans hle59).trans hl77).trans hl79).trans hl126), hh⟩ (fun W hS => by
              refine gy rfl he rfl ?_
              refine mv rfl rfl he fun a he => ?_
              exact aqe he) fun a he => ?_
          refine ahp (d := 83) (v := .int .i64 n) 44 rfl (by kernel_rfl) (by kernel_rfl) (by kernel_rfl) rfl rfl rfl he ⟨_, _, ((((hl54.trans hle59).trans hl77).trans hl79).trans hl126), hh⟩ (fun W hS => by
              refine gy rfl he rfl ?_
              refine mv rfl rfl he fun a he => ?_
              exact aqe he) fun a he => ?_
          refine aha1 (i := 43) (by kernel_rfl) ?_
          refine aop rfl ?_
          refine gy rfl he rfl ?_
          refine cal cb_16 rfl (prog_Name _ _ _ n hh (by omega) (.inr (hp.up (((((((hl4.trans hl10).trans hl25).trans hl54).trans hle59).trans hl77).trans hl79).trans hl126)))) rfl he fun v a W hp he => ?_
          obtain ⟨rfl, hh⟩ := hp
          refine aen ⟨_, _, ((((hl54.trans hle59).trans hl77).trans hl79).trans hl126), hh⟩ ?_
          refine aha1 (i := 45) (by kernel_rfl) ?_
          refine aop rfl ?_
          refine gy rfl he rfl ?_
          refine cal cb_22 rfl (ref22_Name _ _ _ n hh (by omega)) rfl he fun v a W hp he => ?_
          obtain ⟨rfl, hh⟩ := hp
          refine aen ⟨_, _, ((((hl54.trans hle59).trans hl77).trans hl79).trans hl126), hh⟩ ?_
          refine ahp (d := 85) (v := .bool (decide ((nameN n) = (nameN n)))) 46 rfl (by kernel_rfl) (by kernel_rfl) (by kernel_rfl) rfl rfl rfl he ⟨_, _, ((((hl54.trans hle59).trans hl77).trans hl79).trans hl126), hh⟩ (fun W hS => by
              refine gy rfl he rfl ?_
              refine seq' rfl rfl rfl he fun a he => ?_
              exact aqe he) fun a he => ?_
          refine ahp (d := 86) (v := .bool (decide ((nameN n) = (nameN n)))) 47 rfl (by kernel_rfl) (by kernel_rfl) (by kernel_rfl) rfl rfl rfl he ⟨_, _, ((((hl54.trans hle59).trans hl77).trans hl79).trans hl126), hh⟩ (fun W hS => by
              refine pkt rfl rfl rfl he fun a he => ?_
              exact aqe he) fun a he => ?_
          refine ahp (d := 8) (v := .bool (decide ((nameN n) = (nameN n)))) 48 rfl (by kernel_rfl) (by kernel_rfl) (by kernel_rfl) rfl rfl rfl he ⟨_, _, ((((hl54.trans hle59).trans hl77).trans hl79).trans hl126), hh⟩ (fun W hS => by
              refine asg rfl rfl he fun a he => ?_
              exact aqe he) fun a he => ?_
          refine ahd (by kernel_rfl) ?_
          refine en ?_
          refine rt ?_
          refine rets1 Tryd.results5 he rfl (Ret.mk ?_)
          replace hh := hh.drop
          replace hh := hh.drop
          replace hh := hh.drop
          replace hh := hh.drop
          replace hh := hh.drop
          exact ⟨I125, congrArg Value.bool (by simp), (((((((hl4.trans hl10).trans hl25).trans hl54).trans hle59).trans hl77).trans hl79).trans hl126), hh⟩
        refine aha2 (i := 5) (j := 7) (by kernel_rfl) ?_ ?_
        · refine aop rfl ?_
          refine gy rfl he rfl ?_
          refine cvbs (progPut ph fl of_ nx rs pd wd mk lg) Tryd.underlying23 Tryd.underlying5 Tryd.underlying9 rfl (Ch.rd hh.at4) (by simp) rfl he fun a he => ?_
          refine aen ⟨_, _, hl54, hh⟩ ?_
          refine aha1 (i := 7) (by kernel_rfl) ?_
          refine aop rfl ?_
          refine gy rfl he rfl ?_
          refine cal cb_18 rfl (ref22_Put _ _ _ ph fl of_ nx A_rs c_rs rs A_pd c_pd pd A_wd c_wd wd mk lg hh (h_rs.up (((hl4.trans hl10).trans hl25).trans hl54)) k_rs (h_pd.up (((hl4.trans hl10).trans hl25).trans hl54)) k_pd (h_wd.up (((hl4.trans hl10).trans hl25).trans hl54)) k_wd hr hrs (by omega) (by omega) (by omega) hc) rfl he fun v a W hp he => ?_
          obtain ⟨I128, A130, cc131, rfl, hl129, hh⟩ := hp
          replace hh := hh.up4
          replace hh := hh.up4
          replace hh := hh.up4
          replace hh := hh.up4
          refine aen ⟨_, _, (hl54.trans hl129), hh⟩ ?_
          refine aha1 (i := 8) (by kernel_rfl) ?_
          refine aop rfl ?_
          refine gy rfl he rfl ?_
          refine cvbs (progPut ph fl of_ nx rs pd wd mk lg) Tryd.underlying23 Tryd.underlying5 Tryd.underlying9 rfl (Ch.rd hh.at4) (by simp) rfl he fun a he => ?_
          refine aen ⟨_, _, (hl54.trans hl129), hh⟩ ?_
          replace hh := hh.up4
          replace hh := hh.drop
          replace hh := hh.up4
          replace hh := hh.up4
          replace hh := hh.up4
          replace hh := hh.up4
          replace hh := hh.up4
          exact key60 _ _ _ (by kernel_rfl) ⟨I128, hl129, he.keep [0, 1, 2, 3, 4, 5, 8, 9, 10, 11, 12, 13, 27, 40, 44, 47] rfl, hh⟩
        · refine aop rfl ?_
          refine gy rfl he rfl ?_
          refine cal cb_18 rfl (ref22_Put _ _ _ ph fl of_ nx A_rs c_rs rs A_pd c_pd pd A_wd c_wd wd mk lg hh (h_rs.up (((hl4.trans hl10).trans hl25).trans hl54)) k_rs (h_pd.up (((hl4.trans hl10).trans hl25).trans hl54)) k_pd (h_wd.up (((hl4.trans hl10).trans hl25).trans hl54)) k_wd hr hrs (by omega) (by omega) (by omega) hc) rfl he fun v a W hp he => ?_
          obtain ⟨I133, A135, cc136, rfl, hl134, hh⟩ := hp
          replace hh := hh.up4
          replace hh := hh.up4
          replace hh := hh.up4
          replace hh := hh.up4
          refine aen ⟨_, _, (hl54.trans hl134), hh⟩ ?_
          refine aha2 (i := 5) (j := 8) (by kernel_rfl) ?_ ?_
          · refine aop rfl ?_
            refine gy rfl he rfl ?_
            refine cvbs (progPut ph fl of_ nx rs pd wd mk lg) Tryd.underlying23 Tryd.underlying5 Tryd.underlying9 rfl (Ch.rd hh.at5) (by simp) rfl he fun a he => ?_
            refine aen ⟨_, _, (hl54.trans hl134), hh⟩ ?_
            refine aha1 (i := 8) (by kernel_rfl) ?_
            refine aop rfl ?_
            refine gy rfl he rfl ?_
            refine cvbs (progPut ph fl of_ nx rs pd wd mk lg) Tryd.underlying23 Tryd.underlying5 Tryd.underlying9 rfl (Ch.rd hh.at4) (by simp) rfl he fun a he => ?_
            refine aen ⟨_, _, (hl54.trans hl134), hh⟩ ?_
            replace hh := hh.up4
            replace hh := hh.drop
            replace hh := hh.up4
            replace hh := hh.up4
            replace hh := hh.up4
            replace hh := hh.up4
            replace hh := hh.up4
            exact key60 _ _ _ (by kernel_rfl) ⟨I133, hl134, he.keep [0, 1, 2, 3, 4, 5, 8, 9, 10, 11, 12, 13, 27, 40, 44, 47] rfl, hh⟩
          · refine aop rfl ?_
            refine gy rfl he rfl ?_
            refine cvbs (progPut ph fl of_ nx rs pd wd mk lg) Tryd.underlying23 Tryd.underlying5 Tryd.underlying9 rfl (Ch.rd hh.at4) (by simp) rfl he fun a he => ?_
            refine aen ⟨_, _, (hl54.trans hl134), hh⟩ ?_
            refine aha1 (i := 5) (by kernel_rfl) ?_
            refine aop rfl ?_
            refine gy rfl he rfl ?_
            refine cvbs (progPut ph fl of_ nx rs pd wd mk lg) Tryd.underlying23 Tryd.underlying5 Tryd.underlying9 rfl (Ch.rd hh.at5) (by simp) rfl he fun a he => ?_
            refine aen ⟨_, _, (hl54.trans hl134), hh⟩ ?_
            replace hh := hh.up4
            replace hh := hh.drop
            replace hh := hh.up4
            replace hh := hh.up4
            replace hh := hh.up4
            replace hh := hh.up4
            replace hh := hh.up4
            exact key60 _ _ _ (by kernel_rfl) ⟨I133, hl134, he.keep [0, 1, 2, 3, 4, 5, 8, 9, 10, 11, 12, 13, 27, 40, 44, 47] rfl, hh⟩
    refine sb he (t := 23) rfl (fun h138 he => ?_) (fun h138 he => ?_)
    · refine gn rfl rfl he rfl rfl fun a he => ?_
      refine gn rfl rfl he rfl rfl fun a he => ?_
      refine gn rfl rfl he rfl rfl fun a he => ?_
      refine pkt rfl rfl rfl he fun a he => ?_
      replace he := he.be (t := 27) (v' := .bool (((!(decide (rs.length ≤ 300) && (decide (pd.length ≤ 300) && decide (wd.length ≤ 300)))) || (!(decide (rs2.length ≤ 300) && (decide (pd2.length ≤ 300) && decide (wd2.length ≤ 300))))) || (decide ((5000 : Int) < ((b.length : Nat) : Int))))) rfl (jo_t h138)
      replace hh := hh.up1
      replace hh := hh.up1
      exact key8 _ _ ⟨he.keep [0, 1, 2, 3, 4, 5, 8, 9, 27] rfl, hh⟩
    · refine gy rfl he rfl ?_
      refine mv rfl rfl he fun a he => ?_
      refine gy rfl he rfl ?_
      refine ln Tryd.underlying23 rfl rfl he fun a he => ?_
      refine gy rfl he rfl ?_
      refine gt rfl rfl rfl he fun a he => ?_
      refine pkf rfl rfl rfl he fun a he => ?_
      replace he := he.be (t := 27) (v' := .bool (((!(decide (rs.length ≤ 300) && (decide (pd.length ≤ 300) && decide (wd.length ≤ 300)))) || (!(decide (rs2.length ≤ 300) && (decide (pd2.length ≤ 300) && decide (wd2.length ≤ 300))))) || (decide ((5000 : Int) < ((b.length : Nat) : Int))))) rfl (jo_f h138)
      replace hh := hh.up1
      replace hh := hh.up1
      exact key8 _ _ ⟨he.keep [0, 1, 2, 3, 4, 5, 8, 9, 27] rfl, hh⟩
  refine sb he (t := 18) rfl (fun h140 he => ?_) (fun h140 he => ?_)
  · refine gn rfl rfl he rfl rfl fun a he => ?_
    refine gn rfl rfl he rfl rfl fun a he => ?_
    refine gn rfl rfl he rfl rfl fun a he => ?_
    refine pkt rfl rfl rfl he fun a he => ?_
    replace he := he.be (t := 22) (v' := .bool ((!(decide (rs.length ≤ 300) && (decide (pd.length ≤ 300) && decide (wd.length ≤ 300)))) || (!(decide (rs2.length ≤ 300) && (decide (pd2.length ≤ 300) && decide (wd2.length ≤ 300)))))) rfl (jo_t h140)
    replace hh := hh.up1
    replace hh := hh.up1
    exact key6 _ _ ⟨he.keep [0, 1, 2, 3, 4, 5, 8, 9, 22] rfl, hh⟩
  · refine gy rfl he rfl ?_
    refine ldA [.int .i64 ph2, .int .i64 fl2, .int .i64 of2, .int .i64 nx2, .slice A_rs2 rs2.length c_rs2, .slice A_pd2 pd2.length c_pd2, .slice A_wd2 wd2.length c_wd2, .bool mk2, .bool lg2] rb_28 ti_28 rfl ((Rd.obj hh.at0 0).take 9) rfl rfl he fun a he => ?_
    refine gy rfl he rfl ?_
    refine cal cb_9 rfl (law_few _ _ _ ph2 fl2 of2 nx2 A_rs2 c_rs2 rs2 A_pd2 c_pd2 pd2 A_wd2 c_wd2 wd2 mk2 lg2 hh (h_rs2.up hl4) k_rs2 (h_pd2.up hl4) k_pd2 (h_wd2.up hl4) k_wd2) rfl he fun v a W hp he => ?_
    obtain ⟨rfl, hh⟩ := hp
    refine gy rfl he rfl ?_
    refine nt rfl rfl he fun a he => ?_
    refine pkf rfl rfl rfl he fun a he => ?_
    replace he := he.be (t := 22) (v' := .bool ((!(decide (rs.length ≤ 300) && (decide (pd.length ≤ 300) && decide (wd.length ≤ 300)))) || (!(decide (rs2.length ≤ 300) && (decide (pd2.length ≤ 300) && decide (wd2.length ≤ 300)))))) rfl (jo_f h140)
    replace hh := hh.up1
    replace hh := hh.up1
    exact key6 _ _ ⟨he.keep [0, 1, 2, 3, 4, 5, 8, 9, 22] rfl, hh⟩

end Go.Proofs.YtndaogkpgoimlaaDoor

/- Walks through the given program's functions, printed op by op by this session's own program; what each computes is told by the plain functions of the texts S... -/
import Derived.Test.YtndaogkpgoimlaaDoorB16
import Derived.KernelRfl
namespace Go.Proofs.YtndaogkpgoimlaaDoor
open Go Go.RowKit K
set_option linter.unusedVariables false
theorem cb_14 : callable Tryd.prog 14 = true := by kernel_rfl
theorem cb_15 : callable Tryd.prog 15 = true := by kernel_rfl
theorem law_ProgBack (I : Snap) (L : List Ch) (W : World) (ph : Int) (fl : Int) (of_ : Int) (nx : Int) (A_rs : Option Addr) (c_rs : Nat) (rs : List Int) (A_pd : Option Addr) (c_pd : Nat) (pd : List UInt8) (A_wd : Option Addr) (c_wd : Nat) (wd : List Int) (mk : Bool) (lg : Bool) (A_b : Option Addr) (c_b : Nat) (b : List UInt8) (hh : Hp I L W) (h_rs : Fz I A_rs (rs.map i64v)) (k_rs : rs.length ≤ c_rs) (h_pd : Fz I A_pd (pd.map b8)) (k_pd : pd.length ≤ c_pd) (h_wd : Fz I A_wd (wd.map r32)) (k_wd : wd.length ≤ c_wd) (h_b : Fz I A_b (b.map b8)) (k_b : b.length ≤ c_b) (hr : (ph < 9223372036854775808 ∧ fl < 9223372036854775808 ∧ of_ < 9223372036854775808 ∧ nx < 9223372036854775808)) (hrs : ∀ c ∈ rs, c < 9223372036854775808) (hc : ∀ c ∈ wd, c < 4294967296) :
    Calls Tryd.prog 3 #[.agg #[.int .i64 ph, .int .i64 fl, .int .i64 of_, .int .i64 nx, .slice A_rs rs.length c_rs, .slice A_pd pd.length c_pd, .slice A_wd wd.length c_wd, .bool mk, .bool lg], .slice A_b b.length c_b] W (Ret fun v W => ∃ (I' : Snap), v = .bool true ∧ I.le I' ∧ Hp I' (L) W) := by
  refine enter Tryd.func3 rfl Tryd.ntmps3 rfl fun a he => ?_
  refine sq ?_
  refine rg ?_
  refine bx #[.int .i64 ph, .int .i64 fl, .int .i64 of_, .int .i64 nx, .slice A_rs rs.length c_rs, .slice A_pd pd.length c_pd, .slice A_wd wd.length c_wd, .bool mk, .bool lg] rfl rfl rfl he hh fun bb1 a W he hh => ?_
  replace hh : Hp I (.obj bb1 (.cells [.int .i64 ph, .int .i64 fl, .int .i64 of_, .int .i64 nx, .slice A_rs rs.length c_rs, .slice A_pd pd.length c_pd, .slice A_wd wd.length c_wd, .bool mk, .bool lg].toArray 28) :: _) W := hh
  refine asg rfl rfl he fun a he => ?_
  refine en ?_
  refine sq ?_
  refine rg ?_
  refine cal cb_8 rfl (law_shown _ _ _  hh ) rfl he fun v a W hp he => ?_
  obtain ⟨I2, rfl, hl3, hh⟩ := hp
  refine asg rfl rfl he fun a he => ?_
  refine en ?_
  refine sq ?_
  refine sq ?_
  refine rg ?_
  refine ldA [.int .i64 ph, .int .i64 fl, .int .i64 of_, .int .i64 nx, .slice A_rs rs.length c_rs, .slice A_pd pd.length c_pd, .slice A_wd wd.length c_wd, .bool mk, .bool lg] rb_28 ti_28 rfl ((Rd.obj hh.at0 0).take 9) rfl rfl he fun a he => ?_
  refine cal cb_9 rfl (law_few _ _ _ ph fl of_ nx A_rs c_rs rs A_pd c_pd pd A_wd c_wd wd mk lg hh (h_rs.up hl3) k_rs (h_pd.up hl3) k_pd (h_wd.up hl3) k_wd) rfl he fun v a W hp he => ?_
  obtain ⟨rfl, hh⟩ := hp
  refine nt rfl rfl he fun a he => ?_
  refine mv rfl rfl he fun a he => ?_
  refine jnl (fun a W => Env 64 [(0, .agg #[.int .i64 ph, .int .i64 fl, .int .i64 of_, .int .i64 nx, .slice A_rs rs.length c_rs, .slice A_pd pd.length c_pd, .slice A_wd wd.length c_wd, .bool mk, .bool lg]), (1, .slice A_b b.length c_b), (2, .pointer (some ⟨bb1, 0, none⟩)), (4, .bool false), (5, .bool true), (18, .bool ((!(decide (rs.length ≤ 300) && (decide (pd.length ≤ 300) && decide (wd.length ≤ 300)))) || (decide ((5000 : Int) < ((b.length : Nat) : Int)))))] a ∧ Hp I2 (.obj bb1 (.cells ([.int .i64 ph, .int .i64 fl, .int .i64 of_, .int .i64 nx, .slice A_rs rs.length c_rs, .slice A_pd pd.length c_pd, .slice A_wd wd.length c_wd, .bool mk, .bool lg]).toArray 28) :: L) W) 4 (fun a W hM => ?_) fun key5 => ?_
  · obtain ⟨he, hh⟩ := hM
    refine en ?_
    refine cnb he rfl (fun h18 => ?_) (fun h18 => ?_)
    · refine sq ?_
      refine rg ?_
      refine mv rfl rfl he fun a he => ?_
      refine asg rfl rfl he fun a he => ?_
      refine en ?_
      refine rt ?_
      refine rets1 Tryd.results3 he rfl (Ret.mk ?_)
      replace hh := hh.drop
      exact ⟨I2, rfl, hl3, hh⟩
    · have hq : (rs.length ≤ 300 ∧ pd.length ≤ 300 ∧ wd.length ≤ 300) ∧ ((b.length : Nat) : Int) ≤ 5000 := by simpa using h18
      refine sk ?_
      refine nm_then ?_
      refine sq ?_
      refine rg ?_
      refine ldA [.int .i64 ph, .int .i64 fl, .int .i64 of_, .int .i64 nx, .slice A_rs rs.length c_rs, .slice A_pd pd.length c_pd, .slice A_wd wd.length c_wd, .bool mk, .bool lg] rb_28 ti_28 rfl ((Rd.obj hh.at0 0).take 9) rfl rfl he fun a he => ?_
      refine cal cb_12 rfl (law_made _ _ _ ph fl of_ nx A_rs c_rs rs A_pd c_pd pd A_wd c_wd wd mk lg hh (h_rs.up hl3) k_rs (h_pd.up hl3) k_pd (h_wd.up hl3) k_wd) rfl he fun v a W hp he => ?_
      obtain ⟨A6, cc7, A8, cc9, A10, cc11, rfl, hf12, hc13, hf14, hc15, hf16, hc17, hh⟩ := hp
      refine cal cb_11 rfl (prog_Put _ _ _ ph fl of_ nx A6 cc7 rs A8 cc9 pd A10 cc11 wd mk lg hh hf12 hc13 hf14 hc15 hf16 hc17 hr hrs (by omega) (by omega) (by omega) hc) rfl he fun v a W hp he => ?_
      obtain ⟨I18, A20, cc21, rfl, hl19, hh⟩ := hp
      have hc26 := (Ch.rowcap hh.at0).1
      obtain ⟨I23, hl24, hh, hf25⟩ := hh.freezeRow
      refine cal cb_10 rfl (prog_Get _ _ _ A20 cc21 (progPut ph fl of_ nx rs pd wd mk lg) hh hf25 hc26) rfl he fun v a W hp he => ?_
      obtain ⟨I27, A29, cc30, A31, cc32, A33, cc34, rfl, hl28, hf35, hc36, hf37, hc38, hf39, hc40, hh⟩ := hp
      refine mv rfl rfl he fun a he => ?_
      refine xt rfl rfl rfl he fun a he => ?_
      refine xt rfl rfl rfl he fun a he => ?_
      refine al ti_36 rfl he hh fun bb41 a W he hh => ?_
      replace hh : Hp I27 (.obj bb41 (.cells [.int .i64 0, .int .i64 0, .int .i64 0, .int .i64 0, .slice none 0 0, .slice none 0 0, .slice none 0 0, .bool false, .bool false].toArray 36) :: _) W := hh
      refine st #[.int .i64 ((progGet (progPut ph fl of_ nx rs pd wd mk lg)).ph), .int .i64 ((progGet (progPut ph fl of_ nx rs pd wd mk lg)).fl), .int .i64 ((progGet (progPut ph fl of_ nx rs pd wd mk lg)).of_), .int .i64 ((progGet (progPut ph fl of_ nx rs pd wd mk lg)).nx), .slice A29 (((progGet (progPut ph fl of_ nx rs pd wd mk lg)).rs).length) cc30, .slice A31 (((progGet (progPut ph fl of_ nx rs pd wd mk lg)).tk.pd).length) cc32, .slice A33 (((progGet (progPut ph fl of_ nx rs pd wd mk lg)).tk.wd).length) cc34, .bool ((progGet (progPut ph fl of_ nx rs pd wd mk lg)).tk.mrk), .bool ((progGet (progPut ph fl of_ nx rs pd wd mk lg)).tk.lg)] ti_36 rfl rfl rfl rfl (by simp [Value.oneCell']) (by simp) he hh fun W hh => ?_
      replace hh : Hp I27 (.obj bb41 (.cells [.int .i64 ((progGet (progPut ph fl of_ nx rs pd wd mk lg)).ph), .int .i64 ((progGet (progPut ph fl of_ nx rs pd wd mk lg)).fl), .int .i64 ((progGet (progPut ph fl of_ nx rs pd wd mk lg)).of_), .int .i64 ((progGet (progPut ph fl of_ nx rs pd wd mk lg)).nx), .slice A29 (((progGet (progPut ph fl of_ nx rs pd wd mk lg)).rs).length) cc30, .slice A31 (((progGet (progPut ph fl of_ nx rs pd wd mk lg)).tk.pd).length) cc32, .slice A33 (((progGet (progPut ph fl of_ nx rs pd wd mk lg)).tk.wd).length) cc34, .bool ((progGet (progPut ph fl of_ nx rs pd wd mk lg)).tk.mrk), .bool ((progGet (progPut ph fl of_ nx rs pd wd mk lg)).tk.lg)].toArray 36) :: _) W := hh
      refine asg rfl rfl he fun a he => ?_
      refine en ?_
      refine sq ?_
      refine rg ?_
      refine mv rfl rfl he fun a he => ?_
      refine cal cb_10 rfl (prog_Get _ _ _ A_b c_b b hh (h_b.up (((hl3.trans hl19).trans hl24).trans hl28)) k_b) rfl he fun v a W hp he => ?_
      obtain ⟨I42, A44, cc45, A46, cc47, A48, cc49, rfl, hl43, hf50, hc51, hf52, hc53, hf54, hc55, hh⟩ := hp
      refine mv rfl rfl he fun a he => ?_
      refine xt rfl rfl rfl he fun a he => ?_
      refine xt rfl rfl rfl he fun a he => ?_
      refine al ti_36 rfl he hh fun bb56 a W he hh => ?_
      replace hh : Hp I42 (.obj bb56 (.cells [.int .i64 0, .int .i64 0, .int .i64 0, .int .i64 0, .slice none 0 0, .slice none 0 0, .slice none 0 0, .bool false, .bool false].toArray 36) :: _) W := hh
      refine st #[.int .i64 ((progGet b).ph), .int .i64 ((progGet b).fl), .int .i64 ((progGet b).of_), .int .i64 ((progGet b).nx), .slice A44 (((progGet b).rs).length) cc45, .slice A46 (((progGet b).tk.pd).length) cc47, .slice A48 (((progGet b).tk.wd).length) cc49, .bool ((progGet b).tk.mrk), .bool ((progGet b).tk.lg)] ti_36 rfl rfl rfl rfl (by simp [Value.oneCell']) (by simp) he hh fun W hh => ?_
      replace hh : Hp I42 (.obj bb56 (.cells [.int .i64 ((progGet b).ph), .int .i64 ((progGet b).fl), .int .i64 ((progGet b).of_), .int .i64 ((progGet b).nx), .slice A44 (((progGet b).rs).length) cc45, .slice A46 (((progGet b).tk.pd).length) cc47, .slice A48 (((progGet b).tk.wd).length) cc49, .bool ((progGet b).tk.mrk), .bool ((progGet b).tk.lg)].toArray 36) :: _) W := hh
      refine asg rfl rfl he fun a he => ?_
      refine en ?_
      refine sq ?_
      refine sq ?_
      obtain ⟨b1, b2, b3, b4, b5, b6⟩ := progGet_bnd b
      obtain ⟨d1, d2, d3, d4, d5, d6⟩ := progGet_bnd (progPut ph fl of_ nx rs pd wd mk lg)
      refine rgd (SH I42 [.obj bb56 (.cells ([.int .i64 ((progGet b).ph), .int .i64 ((progGet b).fl), .int .i64 ((progGet b).of_), .int .i64 ((progGet b).nx), .slice A44 (((progGet b).rs).length) cc45, .slice A46 (((progGet b).tk.pd).length) cc47, .slice A48 (((progGet b).tk.wd).length) cc49, .bool ((progGet b).tk.mrk), .bool ((progGet b).tk.lg)]).toArray 36), .obj bb41 (.cells ([.int .i64 ((progGet (progPut ph fl of_ nx rs pd wd mk lg)).ph), .int .i64 ((progGet (progPut ph fl of_ nx rs pd wd mk lg)).fl), .int .i64 ((progGet (progPut ph fl of_ nx rs pd wd mk lg)).of_), .int .i64 ((progGet (progPut ph fl of_ nx rs pd wd mk lg)).nx), .slice A29 (((progGet (progPut ph fl of_ nx rs pd wd mk lg)).rs).length) cc30, .slice A31 (((progGet (progPut ph fl of_ nx rs pd wd mk lg)).tk.pd).length) cc32, .slice A33 (((progGet (progPut ph fl of_ nx rs pd wd mk lg)).tk.wd).length) cc34, .bool ((progGet (progPut ph fl of_ nx rs pd wd mk lg)).tk.mrk), .bool ((progGet (progPut ph fl of_ nx rs pd wd mk lg)).tk.lg)]).toArray 36), .obj bb1 (.cells ([.int .i64 ph, .int .i64 fl, .int .i64 of_, .int .i64 nx, .slice A_rs rs.length c_rs, .slice A_pd pd.length c_pd, .slice A_wd wd.length c_wd, .bool mk, .bool lg]).toArray 28)]) 15 mixo rfl hh fun W hh => ?_
      refine ahp (d := 32) (v := .int .i64 ((progGet b).err)) 0 rfl (by kernel_rfl) (by kernel_rfl) (by kernel_rfl) rfl rfl rfl he ⟨_, _, (Snap.le.refl _), hh⟩ (fun W hS => by
          refine mv rfl rfl he fun a he => ?_
          exact aqe he) fun a he => ?_
      refine ahp (d := 33) (v := .bool (decide (((progGet b).err) = 0))) 1 rfl (by kernel_rfl) (by kernel_rfl) (by kernel_rfl) rfl rfl rfl he ⟨_, _, (Snap.le.refl _), hh⟩ (fun W hS => by
          refine eq rfl rfl rfl he fun a he => ?_
          exact aqe he) fun a he => ?_
      refine ahp (d := 34) (v := .bool (decide (((progGet b).err) = 0))) 2 rfl (by kernel_rfl) (by kernel_rfl) (by kernel_rfl) rfl rfl rfl he ⟨_, _, (Snap.le.refl _), hh⟩ (fun W hS => by
          refine mv rfl rfl he fun a he => ?_
          exact aqe he) fun a he => ?_
      refine jnd (fun a W => ∃ (I57 : Snap), I42.le I57 ∧ Env 64 [(0, .agg #[.int .i64 ph, .int .i64 fl, .int .i64 of_, .int .i64 nx, .slice A_rs rs.length c_rs, .slice A_pd pd.length c_pd, .slice A_wd wd.length c_wd, .bool mk, .bool lg]), (1, .slice A_b b.length c_b), (2, .pointer (some ⟨bb1, 0, none⟩)), (4, .bool false), (5, .bool true), (6, .pointer (some ⟨bb41, 0, none⟩)), (7, .int .i64 ((progGet (progPut ph fl of_ nx rs pd wd mk lg)).err)), (8, .pointer (some ⟨bb56, 0, none⟩)), (18, .bool ((!(decide (rs.length ≤ 300) && (decide (pd.length ≤ 300) && decide (wd.length ≤ 300)))) || (decide ((5000 : Int) < ((b.length : Nat) : Int))))), (46, .bool ((decide (((progGet b).err) = 0)) && (!(mayN ((progGet b).ph) ((progGet b).fl) ((progGet b).of_) ((progGet b).nx) ((progGet b).rs) ((progGet b).tk.pd) ((progGet b).tk.wd) ((progGet b).tk.mrk) ((progGet b).tk.lg)))))] a ∧ Hp I57 (.obj bb56 (.cells ([.int .i64 ((progGet b).ph), .int .i64 ((progGet b).fl), .int .i64 ((progGet b).of_), .int .i64 ((progGet b).nx), .slice A44 (((progGet b).rs).length) cc45, .slice A46 (((progGet b).tk.pd).length) cc47, .slice A48 (((progGet b).tk.wd).length) cc49, .bool ((progGet b).tk.mrk), .bool ((progGet b).tk.lg)]).toArray 36) :: .obj bb41 (.cells ([.int .i64 ((progGet (progPut ph fl of_ nx rs pd wd mk lg)).ph), .int .i64 ((progGet (progPut ph fl of_ nx rs pd wd mk lg)).fl), .int .i64 ((progGet (progPut ph fl of_ nx rs pd wd mk lg)).of_), .int .i64 ((progGet (progPut ph fl of_ nx rs pd wd mk lg)).nx), .slice A29 (((progGet (progPut ph fl of_ nx rs pd wd mk lg)).rs).length) cc30, .slice A31 (((progGet (progPut ph fl of_ nx rs pd wd mk lg)).tk.pd).length) cc32, .slice A33 (((progGet (progPut ph fl of_ nx rs pd wd mk lg)).tk.wd).length) cc34, .bool ((progGet (progPut ph fl of_ nx rs pd wd mk lg)).tk.mrk), .bool ((progGet (progPut ph fl of_ nx rs pd wd mk lg)).tk.lg)]).toArray 36) :: .obj bb1 (.cells ([.int .i64 ph, .int .i64 fl, .int .i64 of_, .int .i64 nx, .slice A_rs rs.length c_rs, .slice A_pd pd.length c_pd, .slice A_wd wd.length c_wd, .bool mk, .bool lg]).toArray 28) :: L) W) 0 #[true, true, true, true, true, true, true, true, true, true, true, true, true, true, true] (fun a W hM => ?_) fun key59 => ?_
      · obtain ⟨I57, hle58, he, hh⟩ := hM
        refine ahd (by kernel_rfl) ?_
        refine en ?_
        replace he := he.be (t := 46) (v' := .bool false) rfl (by exact congrArg Value.bool (by by_cases hf : (progGet b).err = 0 <;> simp [hf, progGet_ok]))
        refine cnf he rfl ?_
        refine sk ?_
        refine nm_then ?_
        refine sq ?_
        refine rgd (SH I57 [.obj bb56 (.cells ([.int .i64 ((progGet b).ph), .int .i64 ((progGet b).fl), .int .i64 ((progGet b).of_), .int .i64 ((progGet b).nx), .slice A44 (((progGet b).rs).length) cc45, .slice A46 (((progGet b).tk.pd).length) cc47, .slice A48 (((progGet b).tk.wd).length) cc49, .bool ((progGet b).tk.mrk), .bool ((progGet b).tk.lg)]).toArray 36), .obj bb41 (.cells ([.int .i64 ((progGet (progPut ph fl of_ nx rs pd wd mk lg)).ph), .int .i64 ((progGet (progPut ph fl of_ nx rs pd wd mk lg)).fl), .int .i64 ((progGet (progPut ph fl of_ nx rs pd wd mk lg)).of_), .int .i64 ((progGet (progPut ph fl of_ nx rs pd wd mk lg)).nx), .slice A29 (((progGet (progPut ph fl of_ nx rs pd wd mk lg)).rs).length) cc30, .slice A31 (((progGet (progPut ph fl of_ nx rs pd wd mk lg)).tk.pd).length) cc32, .slice A33 (((progGet (progPut ph fl of_ nx rs pd wd mk lg)).tk.wd).length) cc34, .bool ((progGet (progPut ph fl of_ nx rs pd wd mk lg)).tk.mrk), .bool ((progGet (progPut ph fl of_ nx rs pd wd mk lg)).tk.lg)]).toArray 36), .obj bb1 (.cells ([.int .i64 ph, .int .i64 fl, .int .i64 of_, .int .i64 nx, .slice A_rs rs.length c_rs, .slice A_pd pd.length c_pd, .slice A_wd wd.length c_wd, .bool mk, .bool lg]).toArray 28)]) 18 mixo rfl hh fun W hh => ?_
        refine ahp (d := 47) (v := .bool true) 0 rfl (by kernel_rfl) (by kernel_rfl) (by kernel_rfl) rfl rfl rfl he ⟨_, _, (Snap.le.refl _), hh⟩ (fun W hS => by
            refine mv rfl rfl he fun a he => ?_
            exact aqe he) fun a he => ?_
        refine ahp (d := 48) (v := .bool true) 1 rfl (by kernel_rfl) (by kernel_rfl) (by kernel_rfl) rfl rfl rfl he ⟨_, _, (Snap.le.refl _), hh⟩ (fun W hS => by
            refine mv rfl rfl he fun a he => ?_
            exact aqe he) fun a he => ?_
        refine ahp (d := 49) (v := .agg #[.int .i64 ph, .int .i64 fl, .int .i64 of_, .int .i64 nx, .slice A_rs rs.length c_rs, .slice A_pd pd.length c_pd, .slice A_wd wd.length c_wd, .bool mk, .bool lg]) 2 rfl (by kernel_rfl) (by kernel_rfl) (by kernel_rfl) rfl rfl rfl he ⟨_, _, (Snap.le.refl _), hh⟩ (fun W hS => by
            obtain ⟨I60, _, hleI60, hh⟩ := hS
            refine gy rfl he rfl ?_
            refine ldA [.int .i64 ph, .int .i64 fl, .int .i64 of_, .int .i64 nx, .slice A_rs rs.length c_rs, .slice A_pd pd.length c_pd, .slice A_wd wd.length c_wd, .bool mk, .bool lg] rb_28 ti_28 rfl ((Rd.obj hh.at2 0).take 9) rfl rfl he fun a he => ?_
            exact aqe he) fun a he => ?_
        refine aha1 (i := 3) (by kernel_rfl) ?_
        refine aop rfl ?_
        refine gy rfl he rfl ?_
        refine cal cb_12 rfl (law_made _ _ _ ph fl of_ nx A_rs c_rs rs A_pd c_pd pd A_wd c_wd wd mk lg hh (h_rs.up (((((hl3.trans hl19).trans hl24).trans hl28).trans hl43).trans hle58)) k_rs (h_pd.up (((((hl3.trans hl19).trans hl24).trans hl28).trans hl43).trans hle58)) k_pd (h_wd.up (((((hl3.trans hl19).trans hl24).trans hl28).trans hl43).trans hle58)) k_wd) rfl he fun v a W hp he => ?_
        obtain ⟨A61, cc62, A63, cc64, A65, cc66, rfl, hf67, hc68, hf69, hc70, hf71, hc72, hh⟩ := hp
        refine aen ⟨_, _, (Snap.le.refl _), hh⟩ ?_
        refine aha1 (i := 4) (by kernel_rfl) ?_
        refine aop rfl ?_
        refine gy rfl he rfl ?_
        refine cal cb_13 rfl (prog_May _ _ _ ph fl of_ nx A61 cc62 rs A63 cc64 pd A65 cc66 wd mk lg hh hf67 hc68 hf69 hc70 hf71 hc72 (by omega) (by omega) (by omega) hc) rfl he fun v a W hp he => ?_
        obtain ⟨I73, rfl, hl74, hh⟩ := hp
        refine aen ⟨_, _, hl74, hh⟩ ?_
        refine ahp (d := 52) (v := .bool (!(mayN ph fl of_ nx rs pd wd mk lg))) 5 rfl (by kernel_rfl) (by kernel_rfl) (by kernel_rfl) rfl rfl rfl he ⟨_, _, hl74, hh⟩ (fun W hS => by
            refine gy rfl he rfl ?_
            refine nt rfl rfl he fun a he => ?_
            exact aqe he) fun a he => ?_
        refine ahp (d := 53) (v := .bool (!(mayN ph fl of_ nx rs pd wd mk lg))) 6 rfl (by kernel_rfl) (by kernel_rfl) (by kernel_rfl) rfl rfl rfl he ⟨_, _, hl74, hh⟩ (fun W hS => by
            refine gy rfl he rfl ?_
            refine mv rfl rfl he fun a he => ?_
            exact aqe he) fun a he => ?_
        refine jnd (fun a W => Env 64 [(0, .agg #[.int .i64 ph, .int .i64 fl, .int .i64 of_, .int .i64 nx, .slice A_rs rs.length c_rs, .slice A_pd pd.length c_pd, .slice A_wd wd.length c_wd, .bool mk, .bool lg]), (1, .slice A_b b.length c_b), (2, .pointer (some ⟨bb1, 0, none⟩)), (4, .bool false), (5, .bool true), (6, .pointer (some ⟨bb41, 0, none⟩)), (8, .pointer (some ⟨bb56, 0, none⟩)), (18, .bool ((!(decide (rs.length ≤ 300) && (decide (pd.length ≤ 300) && decide (wd.length ≤ 300)))) || (decide ((5000 : Int) < ((b.length : Nat) : Int))))), (46, .bool false), (48, .bool true), (62, .bool ((!(mayN ph fl of_ nx rs pd wd mk lg)) || ((decide (((progGet (progPut ph fl of_ nx rs pd wd mk lg)).err) = 0)) && (decide (((progGet (progPut ph fl of_ nx rs pd wd mk lg)).rs) = rs) && (decide (((progGet (progPut ph fl of_ nx rs pd wd mk lg)).ph) = ph) && (decide (((progGet (progPut ph fl of_ nx rs pd wd mk lg)).fl) = fl) && (decide (((progGet (progPut ph fl of_ nx rs pd wd mk lg)).of_) = of_) && (decide (((progGet (progPut ph fl of_ nx rs pd wd mk lg)).nx) = nx) && (decide (((progGet (progPut ph fl of_ nx rs pd wd mk lg)).tk.pd) = pd) && (decide (((progGet (progPut ph fl of_ nx rs pd wd mk lg)).tk.wd) = wd) && ((((progGet (progPut ph fl of_ nx rs pd wd mk lg)).tk.mrk) == mk) && (((progGet (progPut ph fl of_ nx rs pd wd mk lg)).tk.lg) == lg))))))))))))] a ∧ Hp I73 (.obj bb56 (.cells ([.int .i64 ((progGet b).ph), .int .i64 ((progGet b).fl), .int .i64 ((progGet b).of_), .int .i64 ((progGet b).nx), .slice A44 (((progGet b).rs).length) cc45, .slice A46 (((progGet b).tk.pd).length) cc47, .slice A48 (((progGet b).tk.wd).length) cc49, .bool ((progGet b).tk.mrk), .bool ((progGet b).tk.lg)]).toArray 36) :: .obj bb41 (.cells ([.int .i64 ((progGet (progPut ph fl of_ nx rs pd wd mk lg)).ph), .int .i64 ((progGet (progPut ph fl of_ nx rs pd wd mk lg)).fl), .int .i64 ((progGet (progPut ph fl of_ nx rs pd wd mk lg)).of_), .int .i64 ((progGet (progPut ph fl of_ nx rs pd wd mk lg)).nx), .slice A29 (((progGet (progPut ph fl of_ nx rs pd wd mk lg)).rs).length) cc30, .slice A31 (((progGet (progPut ph fl of_ nx rs pd wd mk lg)).tk.pd).length) cc32, .slice A33 (((progGet (progPut ph fl of_ nx rs pd wd mk lg)).tk.wd).length) cc34, .bool ((progGet (progPut ph fl of_ nx rs pd wd mk lg)).tk.mrk), .bool ((progGet (progPut ph fl of_ nx rs pd wd mk lg)).tk.lg)]).toArray 36) :: .obj bb1 (.cells ([.int .i64 ph, .int .i64 fl, .int .i64 of_, .int .i64 nx, .slice A_rs rs.length c_rs, .slice A_pd pd.length c_pd, .slice A_wd wd.length c_wd, .bool mk, .bool lg]).toArray 28) :: L) W) 2 #[true, true, true, true, true, true, true, true, true, true, true, true, true, true, true, true, false, false] (fun a W hM => ?_) fun key76 => ?_
        · obtain ⟨he, hh⟩ := hM
          refine ahp (d := 63) (v := .bool ((!(mayN ph fl of_ nx rs pd wd mk lg)) || ((decide (((progGet (progPut ph fl of_ nx rs pd wd mk lg)).err) = 0)) && (decide (((progGet (progPut ph fl of_ nx rs pd wd mk lg)).rs) = rs) && (decide (((progGet (progPut ph fl of_ nx rs pd wd mk lg)).ph) = ph) && (decide (((progGet (progPut ph fl of_ nx rs pd wd mk lg)).fl) = fl) && (decide (((progGet (progPut ph fl of_ nx rs pd wd mk lg)).of_) = of_) && (decide (((progGet (progPut ph fl of_ nx rs pd wd mk lg)).nx) = nx) && (decide (((progGet (progPut ph fl of_ nx rs pd wd mk lg)).tk.pd) = pd) && (decide (((progGet (progPut ph fl of_ nx rs pd wd mk lg)).tk.wd) = wd) && ((((progGet (progPut ph fl of_ nx rs pd wd mk lg)).tk.mrk) == mk) && (((progGet (progPut ph fl of_ nx rs pd wd mk lg)).tk.lg) == lg)))))))))))) 16 rfl (by kernel_rfl) (by kernel_rfl) (by kernel_rfl) rfl rfl rfl he ⟨_, _, hl74, hh⟩ (fun W hS => by
              refine pkt rfl rfl rfl he fun a he => ?_
              exact aqe he) fun a he => ?_
          refine ahp (d := 4) (v := .bool ((!(mayN ph fl of_ nx rs pd wd mk lg)) || ((decide (((progGet (progPut ph fl of_ nx rs pd wd mk lg)).err) = 0)) && (decide (((progGet (progPut ph fl of_ nx rs pd wd mk lg)).rs) = rs) && (decide (((progGet (progPut ph fl of_ nx rs pd wd mk lg)).ph) = ph) && (decide (((progGet (progPut ph fl of_ nx rs pd wd mk lg)).fl) = fl) && (decide (((progGet (progPut ph fl of_ nx rs pd wd mk lg)).of_) = of_) && (decide (((progGet (progPut ph fl of_ nx rs pd wd mk lg)).nx) = nx) && (decide (((progGet (progPut ph fl of_ nx rs pd wd mk lg)).tk.pd) = pd) && (decide (((progGet (progPut ph fl of_ nx rs pd wd mk lg)).tk.wd) = wd) && ((((progGet (progPut ph fl of_ nx rs pd wd mk lg)).tk.mrk) == mk) && (((progGet (progPut ph fl of_ nx rs pd wd mk lg)).tk.lg) == lg)))))))))))) 17 rfl (by kernel_rfl) (by kernel_rfl) (by kernel_rfl) rfl rfl rfl he ⟨_, _, hl74, hh⟩ (fun W hS => by
              refine asg rfl rfl he fun a he => ?_
              exact aqe he) fun a he => ?_
          refine ahd (by kernel_rfl) ?_
          refine en ?_
          refine rt ?_
          refine rets1 Tryd.results3 he rfl (Ret.mk ?_)
          replace hh := hh.drop
          replace hh := hh.drop
          replace hh := hh.drop
          exact ⟨I73, congrArg Value.bool (by cases hm : mayN ph fl of_ nx rs pd wd mk lg with | false => simp | true => simp [progGet_put hm]), ((((((hl3.trans hl19).trans hl24).trans hl28).trans hl43).trans hle58).trans hl74), hh⟩
        rcases Bool.eq_false_or_eq_true ((!(mayN ph fl of_ nx rs pd wd mk lg))) with h77 | h77
        · replace he := he.be (t := 53) (v' := .bool true) rfl (by rw [h77])
          refine ahn 7 rfl (by kernel_rfl) (by kernel_rfl) (by kernel_rfl) rfl rfl he rfl rfl ⟨_, _, hl74, hh⟩ fun a he => ?_
          refine ahn 8 rfl (by kernel_rfl) (by kernel_rfl) (by kernel_rfl) rfl rfl he rfl rfl ⟨_, _, hl74, hh⟩ fun a he => ?_
          refine ahn 9 rfl (by kernel_rfl) (by kernel_rfl) (by kernel_rfl) rfl rfl he rfl rfl ⟨_, _, hl74, hh⟩ fun a he => ?_
          refine ahnu 10 rfl (by kernel_rfl) (by kernel_rfl) (by kernel_rfl) rfl rfl he rfl ⟨_, _, hl74, hh⟩ fun a he => ?_
          refine ahnu 11 rfl (by kernel_rfl) (by kernel_rfl) (by kernel_rfl) rfl rfl he rfl ⟨_, _, hl74, hh⟩ fun a he => ?_
          refine ahnu 12 rfl (by kernel_rfl) (by kernel_rfl) (by kernel_rfl) rfl rfl he rfl ⟨_, _, hl74, hh⟩ fun a he => ?_
          refine ahnu 13 rfl (by kernel_rfl) (by kernel_rfl) (by kernel_rfl) rfl rfl he rfl ⟨_, _, hl74, hh⟩ fun a he => ?_
          refine ahn 14 rfl (by kernel_rfl) (by kernel_rfl) (by kernel_rfl) rfl rfl he rfl rfl ⟨_, _, hl74, hh⟩ fun a he => ?_
          refine ahp (d := 62) (v := .bool true) 15 rfl (by kernel_rfl) (by kernel_rfl) (by kernel_rfl) rfl rfl rfl he ⟨_, _, hl74, hh⟩ (fun W hS => by
              refine gy rfl he rfl ?_
              refine pkt rfl rfl rfl he fun a he => ?_
              exact aqe he) fun a he => ?_
          replace he := he.be (t := 62) (v' := .bool ((!(mayN ph fl of_ nx rs pd wd mk lg)) || ((decide (((progGet (progPut ph fl of_ nx rs pd wd mk lg)).err) = 0)) && (decide (((progGet (progPut ph fl of_ nx rs pd wd mk lg)).rs) = rs) && (decide (((progGet (progPut ph fl of_ nx rs pd wd mk lg)).ph) = ph) && (decide (((progGet (progPut ph fl of_ nx rs pd wd mk lg)).fl) = fl) && (decide (((progGet (progPut ph fl of_ nx rs pd wd mk lg)).of_) = of_) && (decide (((progGet (progPut ph fl of_ nx rs pd wd mk lg)).nx) = nx) && (decide (((progGet (progPut ph fl of_ nx rs pd wd mk lg)).tk.pd) = pd) && (decide (((progGet (progPut ph fl of_ nx rs pd wd mk lg)).tk.wd) = wd) && ((((progGet (progPut ph fl of_ nx rs pd wd mk lg)).tk.mrk) == mk) && (((progGet (progPut ph fl of_ nx rs pd wd mk lg)).tk.lg) == lg)))))))))))) rfl (jo_t h77)
          replace hh := hh.up2
          replace hh := hh.up2
          replace hh := hh.up2
          exact key76 _ _ _ (by kernel_rfl) ⟨he.keep [0, 1, 2, 4, 5, 6, 8, 18, 46, 48, 62] rfl, hh⟩
        · replace he := he.be (t := 53) (v' := .bool false) rfl (by rw [h77])
          refine ahp (d := 54) (v := .int .i64 ((progGet (progPut ph fl of_ nx rs pd wd mk lg)).err)) 7 rfl (by kernel_rfl) (by kernel_rfl) (by kernel_rfl) rfl rfl rfl he ⟨_, _, hl74, hh⟩ (fun W hS => by
              refine gy rfl he rfl ?_
              refine mv rfl rfl he fun a he => ?_
              exact aqe he) fun a he => ?_
          refine ahp (d := 55) (v := .bool (decide (((progGet (progPut ph fl of_ nx rs pd wd mk lg)).err) = 0))) 8 rfl (by kernel_rfl) (by kernel_rfl) (by kernel_rfl) rfl rfl rfl he ⟨_, _, hl74, hh⟩ (fun W hS => by
              refine gy rfl he rfl ?_
              refine eq rfl rfl rfl he fun a he => ?_
              exact aqe he) fun a he => ?_
          refine ahp (d := 56) (v := .bool (decide (((progGet (progPut ph fl of_ nx rs pd wd mk lg)).err) = 0))) 9 rfl (by kernel_rfl) (by kernel_rfl) (by kernel_rfl) rfl rfl rfl he ⟨_, _, hl74, hh⟩ (fun W hS => by
              refine gy rfl he rfl ?_
              refine mv rfl rfl he fun a he => ?_
              exact aqe he) fun a he => ?_
          refine jnd (fun a W => Env 64 [(0, .agg #[.int .i64 ph, .int .i64 fl, .int .i64 of_, .int .i64 nx, .slice A_rs rs.length c_rs, .slice A_pd pd.length c_pd, .slice A_wd wd.length c_wd, .bool mk, .bool lg]), (1, .slice A_b b.length c_b), (2, .pointer (some ⟨bb1, 0, none⟩)), (4, .bool false), (5, .bool true), (6, .pointer (some ⟨bb41, 0, none⟩)), (8, .pointer (some ⟨bb56, 0, none⟩)), (18, .bool ((!(decide (rs.length ≤ 300) && (decide (pd.length ≤ 300) && decide (wd.length ≤ 300)))) || (decide ((5000 : Int) < ((b.length : Nat) : Int))))), (46, .bool false), (48, .bool true), (53, .bool false), (61, .bool ((decide (((progGet (progPut ph fl of_ nx rs pd wd mk lg)).err) = 0)) && (decide (((progGet (progPut ph fl of_ nx rs pd wd mk lg)).rs) = rs) && (decide (((progGet (progPut ph fl of_ nx rs pd wd mk lg)).ph) = ph) && (decide (((progGet (progPut ph fl of_ nx rs pd wd mk lg)).fl) = fl) && (decide (((progGet (progPut ph fl of_ nx rs pd wd mk lg)).of_) = of_) && (decide (((progGet (progPut ph fl of_ nx rs pd wd mk lg)).nx) = nx) && (decide (((progGet (progPut ph fl of_ nx rs pd wd mk lg)).tk.pd) = pd) && (decide (((progGet (progPut ph fl of_ nx rs pd wd mk lg)).tk.wd) = wd) && ((((progGet (progPut ph fl of_ nx rs pd wd mk lg)).tk.mrk) == mk) && (((progGet (progPut ph fl of_ nx rs pd wd mk lg)).tk.lg) == lg)))))))))))] a ∧ Hp I73 (.obj bb56 (.cells ([.int .i64 ((progGet b).ph), .int .i64 ((progGet b).fl), .int .i64 ((progGet b).of_), .int .i64 ((progGet b).nx), .slice A44 (((progGet b).rs).length) cc45, .slice A46 (((progGet b).tk.pd).length) cc47, .slice A48 (((progGet b).tk.wd).length) cc49, .bool ((progGet b).tk.mrk), .bool ((progGet b).tk.lg)]).toArray 36) :: .obj bb41 (.cells ([.int .i64 ((progGet (progPut ph fl of_ nx rs pd wd mk lg)).ph), .int .i64 ((progGet (progPut ph fl of_ nx rs pd wd mk lg)).fl), .int .i64 ((progGet (progPut ph fl of_ nx rs pd wd mk lg)).of_), .int .i64 ((progGet (progPut ph fl of_ nx rs pd wd mk lg)).nx), .slice A29 (((progGet (progPut ph fl of_ nx rs pd wd mk lg)).rs).length) cc30, .slice A31 (((progGet (progPut ph fl of_ nx rs pd wd mk lg)).tk.pd).length) cc32, .slice A33 (((progGet (progPut ph fl of_ nx rs pd wd mk lg)).tk.wd).length) cc34, .bool ((progGet (progPut ph fl of_ nx rs pd wd mk lg)).tk.mrk), .bool ((progGet (progPut ph fl of_ nx rs pd wd mk lg)).tk.lg)]).toArray 36) :: .obj bb1 (.cells ([.int .i64 ph, .int .i64 fl, .int .i64 of_, .int .i64 nx, .slice A_rs rs.length c_rs, .slice A_pd pd.length c_pd, .slice A_wd wd.length c_wd, .bool mk, .bool lg]).toArray 28) :: L) W) 3 #[true, true, true, true, true, true, true, true, true, true, true, true, true, true, true, false, false, false] (fun a W hM => ?_) fun key79 => ?_
          · obtain ⟨he, hh⟩ := hM
            refine ahp (d := 62) (v := .bool ((decide (((progGet (progPut ph fl of_ nx rs pd wd mk lg)).err) = 0)) && (decide (((progGet (progPut ph fl of_ nx rs pd wd mk lg)).rs) = rs) && (decide (((progGet (progPut ph fl of_ nx rs pd wd mk lg)).ph) = ph) && (decide (((progGet (progPut ph fl of_ nx rs pd wd mk lg)).fl) = fl) && (decide (((progGet (progPut ph fl of_ nx rs pd wd mk lg)).of_) = of_) && (decide (((progGet (progPut ph fl of_ nx rs pd wd mk lg)).nx) = nx) && (decide (((progGet (progPut ph fl of_ nx rs pd wd mk lg)).tk.pd) = pd) && (decide (((progGet (progPut ph fl of_ nx rs pd wd mk lg)).tk.wd) = wd) && ((((progGet (progPut ph fl of_ nx rs pd wd mk lg)).tk.mrk) == mk) && (((progGet (progPut ph fl of_ nx rs pd wd mk lg)).tk.lg) == lg))))))))))) 15 rfl (by kernel_rfl) (by kernel_rfl) (by kernel_rfl) rfl rfl rfl he ⟨_, _, hl74, hh⟩ (fun W hS => by
                refine gy rfl he rfl ?_
                refine pkf rfl rfl rfl he fun a he => ?_
                exact aqe he) fun a he => ?_
            replace he := he.be (t := 62) (v' := .bool ((!(mayN ph fl of_ nx rs pd wd mk lg)) || ((decide (((progGet (progPut ph fl of_ nx rs pd wd mk lg)).err) = 0)) && (decide (((progGet (progPut ph fl of_ nx rs pd wd mk lg)).rs) = rs) && (decide (((progGet (progPut ph fl of_ nx rs pd wd mk lg)).ph) = ph) && (decide (((progGet (progPut ph fl of_ nx rs pd wd mk lg)).fl) = fl) && (decide (((progGet (progPut ph fl of_ nx rs pd wd mk lg)).of_) = of_) && (decide (((progGet (progPut ph fl of_ nx rs pd wd mk lg)).nx) = nx) && (decide (((progGet (progPut ph fl of_ nx rs pd wd mk lg)).tk.pd) = pd) && (decide (((progGet (progPut ph fl of_ nx rs pd wd mk lg)).tk.wd) = wd) && ((((progGet (progPut ph fl of_ nx rs pd wd mk lg)).tk.mrk) == mk) && (((progGet (progPut ph fl of_ nx rs pd wd mk lg)).tk.lg) == lg)))))))))))) rfl (jo_f h77)
            replace hh := hh.up2
            replace hh := hh.up2
            replace hh := hh.up2
            exact key76 _ _ _ (by kernel_rfl) ⟨he.keep [0, 1, 2, 4, 5, 6, 8, 18, 46, 48, 62] rfl, hh⟩
          by_cases h80 : ((progGet (progPut ph fl of_ nx rs pd wd mk lg)).err) = 0
          · replace he := he.be (t := 56) (v' := .bool true) rfl (by rw [decide_eq_true h80])
            refine ahp (d := 57) (v := .agg #[.int .i64 ((progGet (progPut ph fl of_ nx rs pd wd mk lg)).ph), .int .i64 ((progGet (progPut ph fl of_ nx rs pd wd mk lg)).fl), .int .i64 ((progGet (progPut ph fl of_ nx rs pd wd mk lg)).of_), .int .i64 ((progGet (progPut ph fl of_ nx rs pd wd mk lg)).nx), .slice A29 (((progGet (progPut ph fl of_ nx rs pd wd mk lg)).rs).length) cc30, .slice A31 (((progGet (progPut ph fl of_ nx rs pd wd mk lg)).tk.pd).length) cc32, .slice A33 (((progGet (progPut ph fl of_ nx rs pd wd mk lg)).tk.wd).length) cc34, .bool ((progGet (progPut ph fl of_ nx rs pd wd mk lg)).tk.mrk), .bool ((progGet (progPut ph fl of_ nx rs pd wd mk lg)).tk.lg)]) 10 rfl (by kernel_rfl) (by kernel_rfl) (by kernel_rfl) rfl rfl rfl he ⟨_, _, hl74, hh⟩ (fun W hS => by
                obtain ⟨I81, _, hleI81, hh⟩ := hS
                refine gy rfl he rfl ?_
                refine ldA [.int .i64 ((progGet (progPut ph fl of_ nx rs pd wd mk lg)).ph), .int .i64 ((progGet (progPut ph fl of_ nx rs pd wd mk lg)).fl), .int .i64 ((progGet (progPut ph fl of_ nx rs pd wd mk lg)).of_), .int .i64 ((progGet (progPut ph fl of_ nx rs pd wd mk lg)).nx), .slice A29 (((progGet (progPut ph fl of_ nx rs pd wd mk lg)).rs).length) cc30, .slice A31 (((progGet (progPut ph fl of_ nx rs pd wd mk lg)).tk.pd).length) cc32, .slice A33 (((progGet (progPut ph fl of_ nx rs pd wd mk lg)).tk.wd).length) cc34, .bool ((progGet (progPut ph fl of_ nx rs pd wd mk lg)).tk.mrk), .bool ((progGet (progPut ph fl of_ nx rs pd wd mk lg)).tk.lg)] rb_36 ti_36 rfl ((Rd.obj hh.at1 0).take 9) rfl rfl he fun a he => ?_
                exact aqe he) fun a he => ?_
            refine ahp (d := 59) (v := .agg #[.int .i64 ph, .int .i64 fl, .int .i64 of_, .int .i64 nx, .slice A_rs rs.length c_rs, .slice A_pd pd.length c_pd, .slice A_wd wd.length c_wd, .bool mk, .bool lg]) 12 rfl (by kernel_rfl) (by kernel_rfl) (by kernel_rfl) rfl rfl rfl he ⟨_, _, hl74, hh⟩ (fun W hS => by
                obtain ⟨I82, _, hleI82, hh⟩ := hS
                refine gy rfl he rfl ?_
                refine ldA [.int .i64 ph, .int .i64 fl, .int .i64 of_, .int .i64 nx, .slice A_rs rs.length c_rs, .slice A_pd pd.length c_pd, .slice A_wd wd.length c_wd, .bool mk, .bool lg] rb_28 ti_28 rfl ((Rd.obj hh.at2 0).take 9) rfl rfl he fun a he => ?_
                exact aqe he) fun a he => ?_
            refine aha1 (i := 11) (by kernel_rfl) ?_
            refine aop rfl ?_
            refine gy rfl he rfl ?_
            refine cal cb_15 rfl (law_real _ _ _ ((progGet (progPut ph fl of_ nx rs pd wd mk lg)).ph) ((progGet (progPut ph fl of_ nx rs pd wd mk lg)).fl) ((progGet (progPut ph fl of_ nx rs pd wd mk lg)).of_) ((progGet (progPut ph fl of_ nx rs pd wd mk lg)).nx) A29 cc30 ((progGet (progPut ph fl of_ nx rs pd wd mk lg)).rs) A31 cc32 ((progGet (progPut ph fl of_ nx rs pd wd mk lg)).tk.pd) A33 cc34 ((progGet (progPut ph fl of_ nx rs pd wd mk lg)).tk.wd) ((progGet (progPut ph fl of_ nx rs pd wd mk lg)).tk.mrk) ((progGet (progPut ph fl of_ nx rs pd wd mk lg)).tk.lg) hh (hf35.up ((hl43.trans hle58).trans hl74)) hc36 (hf37.up ((hl43.trans hle58).trans hl74)) hc38 (hf39.up ((hl43.trans hle58).trans hl74)) hc40) rfl he fun v a W hp he => ?_
            obtain ⟨A83, cc84, A85, cc86, A87, cc88, rfl, hf89, hc90, hf91, hc92, hf93, hc94, hh⟩ := hp
            refine aen ⟨_, _, hl74, hh⟩ ?_
            refine aha1 (i := 13) (by kernel_rfl) ?_
            refine aop rfl ?_
            refine gy rfl he rfl ?_
            refine cal cb_14 rfl (ref22_Same _ _ _ ((progGet (progPut ph fl of_ nx rs pd wd mk lg)).ph) ((progGet (progPut ph fl of_ nx rs pd wd mk lg)).fl) ((progGet (progPut ph fl of_ nx rs pd wd mk lg)).of_) ((progGet (progPut ph fl of_ nx rs pd wd mk lg)).nx) A83 cc84 ((progGet (progPut ph fl of_ nx rs pd wd mk lg)).rs) A85 cc86 ((progGet (progPut ph fl of_ nx rs pd wd mk lg)).tk.pd) A87 cc88 ((progGet (progPut ph fl of_ nx rs pd wd mk lg)).tk.wd) ((progGet (progPut ph fl of_ nx rs pd wd mk lg)).tk.mrk) ((progGet (progPut ph fl of_ nx rs pd wd mk lg)).tk.lg) ph fl of_ nx A_rs c_rs rs A_pd c_pd pd A_wd c_wd wd mk lg hh hf89 hc90 hf91 hc92 hf93 hc94 (h_rs.up ((((((hl3.trans hl19).trans hl24).trans hl28).trans hl43).trans hle58).trans hl74)) k_rs (h_pd.up ((((((hl3.trans hl19).trans hl24).trans hl28).trans hl43).trans hle58).trans hl74)) k_pd (h_wd.up ((((((hl3.trans hl19).trans hl24).trans hl28).trans hl43).trans hle58).trans hl74)) k_wd (by omega) (by omega)) rfl he fun v a W hp he => ?_
            obtain ⟨rfl, hh⟩ := hp
            refine aen ⟨_, _, hl74, hh⟩ ?_
            refine ahp (d := 61) (v := .bool (decide (((progGet (progPut ph fl of_ nx rs pd wd mk lg)).rs) = rs) && (decide (((progGet (progPut ph fl of_ nx rs pd wd mk lg)).ph) = ph) && (decide (((progGet (progPut ph fl of_ nx rs pd wd mk lg)).fl) = fl) && (decide (((progGet (progPut ph fl of_ nx rs pd wd mk lg)).of_) = of_) && (decide (((progGet (progPut ph fl of_ nx rs pd wd mk lg)).nx) = nx) && (decide (((progGet (progPut ph fl of_ nx rs pd wd mk lg)).tk.pd) = pd) && (decide (((progGet (progPut ph fl of_ nx rs pd wd mk lg)).tk.wd) = wd) && ((((progGet (progPut ph fl of_ nx rs pd wd mk lg)).tk.mrk) == mk) && (((progGet (progPut ph fl of_ nx rs pd wd mk lg)).tk.lg) == lg)))))))))) 14 rfl (by kernel_rfl) (by kernel_rfl) (by kernel_rfl) rfl rfl rfl he ⟨_, _, hl74, hh⟩ (fun W hS => by
                refine gy rfl he rfl ?_
                refine pkt rfl rfl rfl he fun a he => ?_
                exact aqe he) fun a he => ?_
            replace he := he.be (t := 61) (v' := .bool ((decide (((progGet (progPut ph fl of_ nx rs pd wd mk lg)).err) = 0)) && (decide (((progGet (progPut ph fl of_ nx rs pd wd mk lg)).rs) = rs) && (decide (((progGet (progPut ph fl of_ nx rs pd wd mk lg)).ph) = ph) && (decide (((progGet (progPut ph fl of_ nx rs pd wd mk lg)).fl) = fl) && (decide (((progGet (progPut ph fl of_ nx rs pd wd mk lg)).of_) = of_) && (decide (((progGet (progPut ph fl of_ nx rs pd wd mk lg)).nx) = nx) && (decide (((progGet (progPut ph fl of_ nx rs pd wd mk lg)).tk.pd) = pd) && (decide (((progGet (progPut ph fl of_ nx rs pd wd mk lg)).tk.wd) = wd) && ((((progGet (progPut ph fl of_ nx rs pd wd mk lg)).tk.mrk) == mk) && (((progGet (progPut ph fl of_ nx rs pd wd mk lg)).tk.lg) == lg))))))))))) rfl (ja_t (decide_eq_true h80))
            replace hh := hh.up2
            replace hh := hh.up2
            replace hh := hh.up2
            exact key79 _ _ _ (by kernel_rfl) ⟨he.keep [0, 1, 2, 4, 5, 6, 8, 18, 46, 48, 53, 61] rfl, hh⟩
          · replace he := he.be (t := 56) (v' := .bool false) rfl (by rw [decide_eq_false h80])
            refine ahn 10 rfl (by kernel_rfl) (by kernel_rfl) (by kernel_rfl) rfl rfl he rfl rfl ⟨_, _, hl74, hh⟩ fun a he => ?_
            refine ahn 11 rfl (by kernel_rfl) (by kernel_rfl) (by kernel_rfl) rfl rfl he rfl rfl ⟨_, _, hl74, hh⟩ fun a he => ?_
            refine ahn 12 rfl (by kernel_rfl) (by kernel_rfl) (by kernel_rfl) rfl rfl he rfl rfl ⟨_, _, hl74, hh⟩ fun a he => ?_
            refine ahn 13 rfl (by kernel_rfl) (by kernel_rfl) (by kernel_rfl) rfl rfl he rfl rfl ⟨_, _, hl74, hh⟩ fun a he => ?_
            refine ahp (d := 61) (v := .bool false) 14 rfl (by kernel_rfl) (by kernel_rfl) (by kernel_rfl) rfl rfl rfl he ⟨_, _, hl74, hh⟩ (fun W hS => by
                refine gy rfl he rfl ?_
                refine pkf rfl rfl rfl he fun a he => ?_
                exact aqe he) fun a he => ?_
            replace he := he.be (t := 61) (v' := .bool ((decide (((progGet (progPut ph fl of_ nx rs pd wd mk lg)).err) = 0)) && (decide (((progGet (progPut ph fl of_ nx rs pd wd mk lg)).rs) = rs) && (decide (((progGet (progPut ph fl of_ nx rs pd wd mk lg)).ph) = ph) && (decide (((progGet (progPut ph fl of_ nx rs pd wd mk lg)).fl) = fl) && (decide (((progGet (progPut ph fl of_ nx rs pd wd mk lg)).of_) = of_) && (decide (((progGet (progPut ph fl of_ nx rs pd wd mk lg)).nx) = nx) && (decide (((progGet (progPut ph fl of_ nx rs pd wd mk lg)).tk.pd) = pd) && (decide (((progGet (progPut ph fl of_ nx rs pd wd mk lg)).tk.wd) = wd) && ((((progGet (progPut ph fl of_ nx rs pd wd mk lg)).tk.mrk) == mk) && (((progGet (progPut ph fl of_ nx rs pd wd mk lg)).tk.lg) == lg))))))))))) rfl (ja_f (decide_eq_false h80))
            replace hh := hh.up2
            replace hh := hh.up2
            replace hh := hh.up2
            exact key79 _ _ _ (by kernel_rfl) ⟨he.keep [0, 1, 2, 4, 5, 6, 8, 18, 46, 48, 53, 61] rfl, hh⟩
      by_cases hf : ((progGet b).err) = 0
      · replace he := he.be (t := 34) (v' := .bool true) rfl (by rw [decide_eq_true hf])
        refine ahp (d := 35) (v := .agg #[.int .i64 ((progGet b).ph), .int .i64 ((progGet b).fl), .int .i64 ((progGet b).of_), .int .i64 ((progGet b).nx), .slice A44 (((progGet b).rs).length) cc45, .slice A46 (((progGet b).tk.pd).length) cc47, .slice A48 (((progGet b).tk.wd).length) cc49, .bool ((progGet b).tk.mrk), .bool ((progGet b).tk.lg)]) 3 rfl (by kernel_rfl) (by kernel_rfl) (by kernel_rfl) rfl rfl rfl he ⟨_, _, (Snap.le.refl _), hh⟩ (fun W hS => by
            obtain ⟨I95, _, hleI95, hh⟩ := hS
            refine gy rfl he rfl ?_
            refine ldA [.int .i64 ((progGet b).ph), .int .i64 ((progGet b).fl), .int .i64 ((progGet b).of_), .int .i64 ((progGet b).nx), .slice A44 (((progGet b).rs).length) cc45, .slice A46 (((progGet b).tk.pd).length) cc47, .slice A48 (((progGet b).tk.wd).length) cc49, .bool ((progGet b).tk.mrk), .bool ((progGet b).tk.lg)] rb_36 ti_36 rfl ((Rd.obj hh.at0 0).take 9) rfl rfl he fun a he => ?_
            exact aqe he) fun a he => ?_
        refine ahp (d := 38) (v := .slice A_b b.length c_b) 6 rfl (by kernel_rfl) (by kernel_rfl) (by kernel_rfl) rfl rfl rfl he ⟨_, _, (Snap.le.refl _), hh⟩ (fun W hS => by
            refine gy rfl he rfl ?_
            refine mv rfl rfl he fun a he => ?_
            exact aqe he) fun a he => ?_
        refine ahp (d := 39) (v := .string (⟨b.toArray⟩)) 7 rfl (by kernel_rfl) (by kernel_rfl) (by kernel_rfl) rfl rfl rfl he ⟨_, _, (Snap.le.refl _), hh⟩ (fun W hS => by
            obtain ⟨I96, _, hleI96, hh⟩ := hS
            refine gy rfl he rfl ?_
            refine cvbs b Tryd.underlying23 Tryd.underlying5 Tryd.underlying9 rfl ((h_b.up (((((hl3.trans hl19).trans hl24).trans hl28).trans hl43).trans hleI96)).rd hh) (by simp) rfl he fun a he => ?_
            exact aqe he) fun a he => ?_
        refine aha1 (i := 4) (by kernel_rfl) ?_
        refine aop rfl ?_
        refine gy rfl he rfl ?_
        refine cal cb_11 rfl (prog_Put _ _ _ ((progGet b).ph) ((progGet b).fl) ((progGet b).of_) ((progGet b).nx) A44 cc45 ((progGet b).rs) A46 cc47 ((progGet b).tk.pd) A48 cc49 ((progGet b).tk.wd) ((progGet b).tk.mrk) ((progGet b).tk.lg) hh hf50 hc51 hf52 hc53 hf54 hc55 b1 b2 (by omega) (by omega) (by omega) b6) rfl he fun v a W hp he => ?_
        obtain ⟨I97, A99, cc100, rfl, hl98, hh⟩ := hp
        replace hh := hh.up3
        replace hh := hh.up3
        replace hh := hh.up3
        refine aen ⟨_, _, hl98, hh⟩ ?_
        refine aha1 (i := 5) (by kernel_rfl) ?_
        refine aop rfl ?_
        refine gy rfl he rfl ?_
        refine cvbs (progPut ((progGet b).ph) ((progGet b).fl) ((progGet b).of_) ((progGet b).nx) ((progGet b).rs) ((progGet b).tk.pd) ((progGet b).tk.wd) ((progGet b).tk.mrk) ((progGet b).tk.lg)) Tryd.underlying23 Tryd.underlying5 Tryd.underlying9 rfl (Ch.rd hh.at3) (by simp) rfl he fun a he => ?_
        refine aen ⟨_, _, hl98, hh⟩ ?_
        refine ahp (d := 40) (v := .bool (decide ((⟨(progPut ((progGet b).ph) ((progGet b).fl) ((progGet b).of_) ((progGet b).nx) ((progGet b).rs) ((progGet b).tk.pd) ((progGet b).tk.wd) ((progGet b).tk.mrk) ((progGet b).tk.lg)).toArray⟩ : ByteArray) ≠ (⟨b.toArray⟩ : ByteArray)))) 8 rfl (by kernel_rfl) (by kernel_rfl) (by kernel_rfl) rfl rfl rfl he ⟨_, _, hl98, hh⟩ (fun W hS => by
            refine gy rfl he rfl ?_
            refine sne' rfl rfl rfl he fun a he => ?_
            exact aqe he) fun a he => ?_
        refine ahp (d := 41) (v := .bool (decide ((⟨(progPut ((progGet b).ph) ((progGet b).fl) ((progGet b).of_) ((progGet b).nx) ((progGet b).rs) ((progGet b).tk.pd) ((progGet b).tk.wd) ((progGet b).tk.mrk) ((progGet b).tk.lg)).toArray⟩ : ByteArray) ≠ (⟨b.toArray⟩ : ByteArray)))) 9 rfl (by kernel_rfl) (by kernel_rfl) (by kernel_rfl) rfl rfl rfl he ⟨_, _, hl98, hh⟩ (fun W hS => by
            refine gy rfl he rfl ?_
            refine mv rfl rfl he fun a he => ?_
            exact aqe he) fun a he => ?_
        replace he := he.be (t := 41) (v' := .bool false) rfl (by exact congrArg Value.bool (decide_eq_false (not_not_intro (by rw [(progGet_ok (by simpa using hf)).2]))))
        refine ahp (d := 42) (v := .agg #[.int .i64 ((progGet b).ph), .int .i64 ((progGet b).fl), .int .i64 ((progGet b).of_), .int .i64 ((progGet b).nx), .slice A44 (((progGet b).rs).length) cc45, .slice A46 (((progGet b).tk.pd).length) cc47, .slice A48 (((progGet b).tk.wd).length) cc49, .bool ((progGet b).tk.mrk), .bool ((progGet b).tk.lg)]) 10 rfl (by kernel_rfl) (by kernel_rfl) (by kernel_rfl) rfl rfl rfl he ⟨_, _, hl98, hh⟩ (fun W hS => by
            obtain ⟨I103, _, hleI103, hh⟩ := hS
            refine gy rfl he rfl ?_
            refine ldA [.int .i64 ((progGet b).ph), .int .i64 ((progGet b).fl), .int .i64 ((progGet b).of_), .int .i64 ((progGet b).nx), .slice A44 (((progGet b).rs).length) cc45, .slice A46 (((progGet b).tk.pd).length) cc47, .slice A48 (((progGet b).tk.wd).length) cc49, .bool ((progGet b).tk.mrk), .bool ((progGet b).tk.lg)] rb_36 ti_36 rfl ((Rd.obj hh.at0 0).take 9) rfl rfl he fun a he => ?_
            exact aqe he) fun a he => ?_
        refine aha1 (i := 11) (by kernel_rfl) ?_
        refine aop rfl ?_
        refine gy rfl he rfl ?_
        refine cal cb_13 rfl (prog_May _ _ _ ((progGet b).ph) ((progGet b).fl) ((progGet b).of_) ((progGet b).nx) A44 cc45 ((progGet b).rs) A46 cc47 ((progGet b).tk.pd) A48 cc49 ((progGet b).tk.wd) ((progGet b).tk.mrk) ((progGet b).tk.lg) hh (hf50.up hl98) hc51 (hf52.up hl98) hc53 (hf54.up hl98) hc55 (by omega) (by omega) (by omega) b6) rfl he fun v a W hp he => ?_
        obtain ⟨I104, rfl, hl105, hh⟩ := hp
        refine aen ⟨_, _, (hl98.trans hl105), hh⟩ ?_
        refine ahp (d := 44) (v := .bool (!(mayN ((progGet b).ph) ((progGet b).fl) ((progGet b).of_) ((progGet b).nx) ((progGet b).rs) ((progGet b).tk.pd) ((progGet b).tk.wd) ((progGet b).tk.mrk) ((progGet b).tk.lg)))) 12 rfl (by kernel_rfl) (by kernel_rfl) (by kernel_rfl) rfl rfl rfl he ⟨_, _, (hl98.trans hl105), hh⟩ (fun W hS => by
            refine gy rfl he rfl ?_
            refine nt rfl rfl he fun a he => ?_
            exact aqe he) fun a he => ?_
        refine ahp (d := 45) (v := .bool (!(mayN ((progGet b).ph) ((progGet b).fl) ((progGet b).of_) ((progGet b).nx) ((progGet b).rs) ((progGet b).tk.pd) ((progGet b).tk.wd) ((progGet b).tk.mrk) ((progGet b).tk.lg)))) 13 rfl (by kernel_rfl) (by kernel_rfl) (by kernel_rfl) rfl rfl rfl he ⟨_, _, (hl98.trans hl105), hh⟩ (fun W hS => by
            refine gy rfl he rfl ?_
            refine pkf rfl rfl rfl he fun a he => ?_
            exact aqe he) fun a he => ?_
        refine ahp (d := 46) (v := .bool (!(mayN ((progGet b).ph) ((progGet b).fl) ((progGet b).of_) ((progGet b).nx) ((progGet b).rs) ((progGet b).tk.pd) ((progGet b).tk.wd) ((progGet b).tk.mrk) ((progGet b).tk.lg)))) 14 rfl (by kernel_rfl) (by kernel_rfl) (by kernel_rfl) rfl rfl rfl he ⟨_, _, (hl98.trans hl105), hh⟩ (fun W hS => by
            refine pkt rfl rfl rfl he fun a he => ?_
            exact aqe he) fun a he => ?_
        replace he := he.be (t := 46) (v' := .bool ((decide (((progGet b).err) = 0)) && (!(mayN ((progGet b).ph) ((progGet b).fl) ((progGet b).of_) ((progGet b).nx) ((progGet b).rs) ((progGet b).tk.pd) ((progGet b).tk.wd) ((progGet b).tk.mrk) ((progGet b).tk.lg))))) rfl (ja_t (decide_eq_true hf))
        replace hh := hh.up3
        replace hh := hh.drop
        replace hh := hh.up2
        replace hh := hh.up2
        replace hh := hh.up2
        exact key59 _ _ _ (by kernel_rfl) ⟨I104, (hl98.trans hl105), he.keep [0, 1, 2, 4, 5, 6, 7, 8, 18, 46] rfl, hh⟩
      · replace he := he.be (t := 34) (v' := .bool false) rfl (by rw [decide_eq_false hf])
        refine ahn 3 rfl (by kernel_rfl) (by kernel_rfl) (by kernel_rfl) rfl rfl he rfl rfl ⟨_, _, (Snap.le.refl _), hh⟩ fun a he => ?_
        refine ahn 4 rfl (by kernel_rfl) (by kernel_rfl) (by kernel_rfl) rfl rfl he rfl rfl ⟨_, _, (Snap.le.refl _), hh⟩ fun a he => ?_
        refine ahn 5 rfl (by kernel_rfl) (by kernel_rfl) (by kernel_rfl) rfl rfl he rfl rfl ⟨_, _, (Snap.le.refl _), hh⟩ fun a he => ?_
        refine ahn 6 rfl (by kernel_rfl) (by kernel_rfl) (by kernel_rfl) rfl rfl he rfl rfl ⟨_, _, (Snap.le.refl _), hh⟩ fun a he => ?_
        refine ahn 7 rfl (by kernel_rfl) (by kernel_rfl) (by kernel_rfl) rfl rfl he rfl rfl ⟨_, _, (Snap.le.refl _), hh⟩ fun a he => ?_
        refine ahn 8 rfl (by kernel_rfl) (by kernel_rfl) (by kernel_rfl) rfl rfl he rfl rfl ⟨_, _, (Snap.le.refl _), hh⟩ fun a he => ?_
        refine ahn 9 rfl (by kernel_rfl) (by kernel_rfl) (by kernel_rfl) rfl rfl he rfl rfl ⟨_, _, (Snap.le.refl _), hh⟩ fun a he => ?_
        refine ahnu 10 rfl (by kernel_rfl) (by kernel_rfl) (by kernel_rfl) rfl rfl he rfl ⟨_, _, (Snap.le.refl _), hh⟩ fun a he => ?_
        refine ahnu 11 rfl (by kernel_rfl) (by kernel_rfl) (by kernel_rfl) rfl rfl he rfl ⟨_, _, (Snap.le.refl _), hh⟩ fun a he => ?_
        refine ahnu 12 rfl (by kernel_rfl) (by kernel_rfl) (by kernel_rfl) rfl rfl he rfl ⟨_, _, (Snap.le.refl _), hh⟩ fun a he => ?_
        refine ahn 13 rfl (by kernel_rfl) (by kernel_rfl) (by kernel_rfl) rfl rfl he rfl rfl ⟨_, _, (Snap.le.refl _), hh⟩ fun a he => ?_
        refine ahp (d := 46) (v := .bool false) 14 rfl (by kernel_rfl) (by kernel_rfl) (by kernel_rfl) rfl rfl rfl he ⟨_, _, (Snap.le.refl _), hh⟩ (fun W hS => by
            refine pkf rfl rfl rfl he fun a he => ?_
            exact aqe he) fun a he => ?_
        replace he := he.be (t := 46) (v' := .bool ((decide (((progGet b).err) = 0)) && (!(mayN ((progGet b).ph) ((progGet b).fl) ((progGet b).of_) ((progGet b).nx) ((progGet b).rs) ((progGet b).tk.pd) ((progGet b).tk.wd) ((progGet b).tk.mrk) ((progGet b).tk.lg))))) rfl (ja_f (decide_eq_false hf))
        replace hh := hh.up2
        replace hh := hh.up2
        replace hh := hh.up2
        exact key59 _ _ _ (by kernel_rfl) ⟨I42, (Snap.le.refl _), he.keep [0, 1, 2, 4, 5, 6, 7, 8, 18, 46] rfl, hh⟩
  refine sb he (t := 14) rfl (fun h106 he => ?_) (fun h106 he => ?_)
  · refine gn rfl rfl he rfl rfl fun a he => ?_
    refine gn rfl rfl he rfl rfl fun a he => ?_
    refine gn rfl rfl he rfl rfl fun a he => ?_
    refine pkt rfl rfl rfl he fun a he => ?_
    replace he := he.be (t := 18) (v' := .bool ((!(decide (rs.length ≤ 300) && (decide (pd.length ≤ 300) && decide (wd.length ≤ 300)))) || (decide ((5000 : Int) < ((b.length : Nat) : Int))))) rfl (jo_t h106)
    exact key5 _ _ ⟨he.keep [0, 1, 2, 4, 5, 18] rfl, hh⟩
  · refine gy rfl he rfl ?_
    refine mv rfl rfl he fun a he => ?_
    refine gy rfl he rfl ?_
    refine ln Tryd.underlying23 rfl rfl he fun a he => ?_
    refine gy rfl he rfl ?_
    refine gt rfl rfl rfl he fun a he => ?_
    refine pkf rfl rfl rfl he fun a he => ?_
    replace he := he.be (t := 18) (v' := .bool ((!(decide (rs.length ≤ 300) && (decide (pd.length ≤ 300) && decide (wd.length ≤ 300)))) || (decide ((5000 : Int) < ((b.length : Nat) : Int))))) rfl (jo_f h106)
    exact key5 _ _ ⟨he.keep [0, 1, 2, 4, 5, 18] rfl, hh⟩

end Go.Proofs.YtndaogkpgoimlaaDoor

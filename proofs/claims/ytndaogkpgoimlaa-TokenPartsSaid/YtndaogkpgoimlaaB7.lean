/- Walks through the given program's functions, printed op by op by this session's own program; what each computes is told by the plain functions of the texts S... -/
import Derived.Test.YtndaogkpgoimlaaB6
import Derived.Test.YtndaogkpgoimlaaS8
import Derived.KernelRfl
namespace Go.Proofs.Ytndaogkpgoimlaa
open Go Go.RowKit K
set_option linter.unusedVariables false
theorem cb_10 : callable Try.prog 10 = true := by kernel_rfl
theorem cb_11 : callable Try.prog 11 = true := by kernel_rfl
theorem cb_12 : callable Try.prog 12 = true := by kernel_rfl
theorem cb_13 : callable Try.prog 13 = true := by kernel_rfl
theorem cb_8 : callable Try.prog 8 = true := by kernel_rfl
theorem law_TokenStates (I : Snap) (L : List Ch) (W : World) (A_pd : Option Addr) (c_pd : Nat) (pd : List UInt8) (A_wd : Option Addr) (c_wd : Nat) (wd : List Int) (mk : Bool) (lg : Bool) (A_b : Option Addr) (c_b : Nat) (b : List UInt8) (hh : Hp I L W) (h_pd : Fz I A_pd (pd.map b8)) (k_pd : pd.length ≤ c_pd) (h_wd : Fz I A_wd (wd.map r32)) (k_wd : wd.length ≤ c_wd) (h_b : Fz I A_b (b.map b8)) (k_b : b.length ≤ c_b) (hb : b.length ≤ 140737488351232) (hc : ∀ c ∈ wd, c < 4294967296) :
    Calls Try.prog 3 #[.agg #[.slice A_pd pd.length c_pd, .slice A_wd wd.length c_wd, .bool mk, .bool lg], .slice A_b b.length c_b] W (Ret fun v W => ∃ (I' : Snap), v = .bool true ∧ I.le I' ∧ Hp I' (L) W) := by
  refine enter Try.func3 rfl Try.ntmps3 rfl fun a he => ?_
  refine sq ?_
  refine rg ?_
  refine bx #[.slice A_pd pd.length c_pd, .slice A_wd wd.length c_wd, .bool mk, .bool lg] rfl rfl rfl he hh fun bb1 a W he hh => ?_
  replace hh : Hp I (.obj bb1 (.cells [.slice A_pd pd.length c_pd, .slice A_wd wd.length c_wd, .bool mk, .bool lg].toArray 25) :: _) W := hh
  refine asg rfl rfl he fun a he => ?_
  refine en ?_
  refine sq ?_
  refine rg ?_
  refine cal cb_6 rfl (law_shown _ _ _  hh ) rfl he fun v a W hp he => ?_
  obtain ⟨I2, rfl, hl3, hh⟩ := hp
  refine asg rfl rfl he fun a he => ?_
  refine en ?_
  refine sq ?_
  refine sq ?_
  refine rg ?_
  refine fa fo_25_0 rfl rfl he fun a he => ?_
  refine ld rb_22 rfl (ocell hh.at0 rfl) rfl he fun a he => ?_
  refine ln Try.underlying22 rfl rfl he fun a he => ?_
  refine gt rfl rfl rfl he fun a he => ?_
  refine mv rfl rfl he fun a he => ?_
  refine sd he (t := 15) rfl (fun h4 he => ?_) (fun h4 he => ?_)
  · replace h4 : 1000 < pd.length := by omega
    refine gn rfl rfl he rfl rfl fun a he => ?_
    refine gn rfl rfl he rfl rfl fun a he => ?_
    refine gn rfl rfl he rfl rfl fun a he => ?_
    refine gn rfl rfl he rfl rfl fun a he => ?_
    refine pkt rfl rfl rfl he fun a he => ?_
    refine en ?_
    refine cnt he rfl ?_
    refine sq ?_
    refine rg ?_
    refine mv rfl rfl he fun a he => ?_
    refine asg rfl rfl he fun a he => ?_
    refine en ?_
    refine rt ?_
    refine rets1 Try.results3 he rfl (Ret.mk ?_)
    replace hh := hh.drop
    exact ⟨I2, rfl, hl3, hh⟩
  · replace h4 : ¬ (1000 < pd.length) := by omega
    refine gy rfl he rfl ?_
    refine fa fo_25_1 rfl rfl he fun a he => ?_
    refine gy rfl he rfl ?_
    refine ld rb_23 rfl (ocell hh.at0 rfl) rfl he fun a he => ?_
    refine gy rfl he rfl ?_
    refine ln Try.underlying23 rfl rfl he fun a he => ?_
    refine gy rfl he rfl ?_
    refine gt rfl rfl rfl he fun a he => ?_
    refine pkf rfl rfl rfl he fun a he => ?_
    refine en ?_
    refine cnd he rfl (fun h5 => ?_) (fun h5 => ?_)
    · replace h5 : 1000 < wd.length := by omega
      refine sq ?_
      refine rg ?_
      refine mv rfl rfl he fun a he => ?_
      refine asg rfl rfl he fun a he => ?_
      refine en ?_
      refine rt ?_
      refine rets1 Try.results3 he rfl (Ret.mk ?_)
      replace hh := hh.drop
      exact ⟨I2, rfl, hl3, hh⟩
    · replace h5 : ¬ (1000 < wd.length) := by omega
      refine sk ?_
      refine nm_then ?_
      refine sq ?_
      refine rg ?_
      refine mv rfl rfl he fun a he => ?_
      refine cal cb_7 rfl (token_Get _ _ _ A_b c_b b hh (h_b.up hl3) k_b) rfl he fun v a W hp he => ?_
      obtain ⟨I6, A8, cc9, A10, cc11, rfl, hl7, hf12, hc13, hf14, hc15, hh⟩ := hp
      refine mv rfl rfl he fun a he => ?_
      refine xt rfl rfl rfl he fun a he => ?_
      refine xt rfl rfl rfl he fun a he => ?_
      refine al ti_30 rfl he hh fun bb16 a W he hh => ?_
      replace hh : Hp I6 (.obj bb16 (.cells [.slice none 0 0, .slice none 0 0, .bool false, .bool false].toArray 30) :: _) W := hh
      refine st #[.slice A8 (((tokGet b).pd).length) cc9, .slice A10 (((tokGet b).wd).length) cc11, .bool ((tokGet b).mrk), .bool ((tokGet b).lg)] ti_30 rfl rfl rfl rfl (by simp [Value.oneCell']) (by simp) he hh fun W hh => ?_
      replace hh : Hp I6 (.obj bb16 (.cells [.slice A8 (((tokGet b).pd).length) cc9, .slice A10 (((tokGet b).wd).length) cc11, .bool ((tokGet b).mrk), .bool ((tokGet b).lg)].toArray 30) :: _) W := hh
      refine asg rfl rfl he fun a he => ?_
      refine en ?_
      refine sq ?_
      refine rg ?_
      refine mv rfl rfl he fun a he => ?_
      refine cal cb_8 rfl (ref07_Get _ _ _ A_b c_b b hh (h_b.up (hl3.trans hl7)) k_b hb) rfl he fun v a W hp he => ?_
      obtain ⟨I17, A19, cc20, A21, cc22, rfl, hl18, hf23, hc24, hf25, hc26, hh⟩ := hp
      refine mv rfl rfl he fun a he => ?_
      refine xt rfl rfl rfl he fun a he => ?_
      refine xt rfl rfl rfl he fun a he => ?_
      refine al ti_25 rfl he hh fun bb27 a W he hh => ?_
      replace hh : Hp I17 (.obj bb27 (.cells [.slice none 0 0, .slice none 0 0, .bool false, .bool false].toArray 25) :: _) W := hh
      refine st #[.slice A19 (((refGet b).pd).length) cc20, .slice A21 (((refGet b).wd).length) cc22, .bool ((refGet b).mrk), .bool ((refGet b).lg)] ti_25 rfl rfl rfl rfl (by simp [Value.oneCell']) (by simp) he hh fun W hh => ?_
      replace hh : Hp I17 (.obj bb27 (.cells [.slice A19 (((refGet b).pd).length) cc20, .slice A21 (((refGet b).wd).length) cc22, .bool ((refGet b).mrk), .bool ((refGet b).lg)].toArray 25) :: _) W := hh
      refine asg rfl rfl he fun a he => ?_
      refine en ?_
      refine sq ?_
      have hrt := ref_tok b
      have hpl := tokGet_pd b
      have hwl := tokGet_wd b
      have h1000 : pd.length ≤ 1000 ∧ wd.length ≤ 1000 := by omega
      replace hh := hh.up2
      replace hh := hh.up2
      replace hh := hh.up2
      refine rgd (SH I17 [.obj bb27 (.cells ([.slice A19 (((refGet b).pd).length) cc20, .slice A21 (((refGet b).wd).length) cc22, .bool ((refGet b).mrk), .bool ((refGet b).lg)]).toArray 25), .obj bb16 (.cells ([.slice A8 (((tokGet b).pd).length) cc9, .slice A10 (((tokGet b).wd).length) cc11, .bool ((tokGet b).mrk), .bool ((tokGet b).lg)]).toArray 30), .obj bb1 (.cells ([.slice A_pd pd.length c_pd, .slice A_wd wd.length c_wd, .bool mk, .bool lg]).toArray 25)]) 23 mixo rfl hh fun W hh => ?_
      replace hh := hh.up2
      replace hh := hh.up2
      replace hh := hh.up2
      refine ahp (d := 32) (v := .bool true) 0 rfl (by kernel_rfl) (by kernel_rfl) (by kernel_rfl) rfl rfl rfl he ⟨_, _, (Snap.le.refl _), hh⟩ (fun W hS => by
          refine mv rfl rfl he fun a he => ?_
          exact aqe he) fun a he => ?_
      replace hh := hh.up2
      replace hh := hh.up2
      replace hh := hh.up2
      refine ahp (d := 33) (v := .bool true) 1 rfl (by kernel_rfl) (by kernel_rfl) (by kernel_rfl) rfl rfl rfl he ⟨_, _, (Snap.le.refl _), hh⟩ (fun W hS => by
          refine mv rfl rfl he fun a he => ?_
          exact aqe he) fun a he => ?_
      replace hh := hh.up2
      replace hh := hh.up2
      replace hh := hh.up2
      refine ahp (d := 34) (v := .agg #[.slice A_pd pd.length c_pd, .slice A_wd wd.length c_wd, .bool mk, .bool lg]) 2 rfl (by kernel_rfl) (by kernel_rfl) (by kernel_rfl) rfl rfl rfl he ⟨_, _, (Snap.le.refl _), hh⟩ (fun W hS => by
          obtain ⟨I28, _, hleI28, hh⟩ := hS
          refine gy rfl he rfl ?_
          refine ldA [.slice A_pd pd.length c_pd, .slice A_wd wd.length c_wd, .bool mk, .bool lg] rb_25 ti_25 rfl ((Rd.obj hh.at2 0).take 4) rfl rfl he fun a he => ?_
          exact aqe he) fun a he => ?_
      replace hh := hh.up2
      replace hh := hh.up2
      replace hh := hh.up2
      refine ahp (d := 38) (v := .agg #[.slice A_pd pd.length c_pd, .slice A_wd wd.length c_wd, .bool mk, .bool lg]) 6 rfl (by kernel_rfl) (by kernel_rfl) (by kernel_rfl) rfl rfl rfl he ⟨_, _, (Snap.le.refl _), hh⟩ (fun W hS => by
          obtain ⟨I29, _, hleI29, hh⟩ := hS
          refine gy rfl he rfl ?_
          refine ldA [.slice A_pd pd.length c_pd, .slice A_wd wd.length c_wd, .bool mk, .bool lg] rb_25 ti_25 rfl ((Rd.obj hh.at2 0).take 4) rfl rfl he fun a he => ?_
          exact aqe he) fun a he => ?_
      refine aha1 (i := 3) (by kernel_rfl) ?_
      refine aop rfl ?_
      refine gy rfl he rfl ?_
      refine cal cb_10 rfl (law_made _ _ _ A_pd c_pd pd A_wd c_wd wd mk lg hh (h_pd.up ((hl3.trans hl7).trans hl18)) k_pd (h_wd.up ((hl3.trans hl7).trans hl18)) k_wd) rfl he fun v a W hp he => ?_
      obtain ⟨A30, cc31, A32, cc33, rfl, hf34, hc35, hf36, hc37, hh⟩ := hp
      replace hh := hh.up2
      replace hh := hh.up2
      replace hh := hh.up2
      refine aen ⟨_, _, (Snap.le.refl _), hh⟩ ?_
      refine aha1 (i := 4) (by kernel_rfl) ?_
      refine aop rfl ?_
      refine gy rfl he rfl ?_
      refine cal cb_9 rfl (token_Put _ _ _ A30 cc31 pd A32 cc33 wd mk lg hh hf34 hc35 hf36 hc37 (by omega) (by omega) hc) rfl he fun v a W hp he => ?_
      obtain ⟨I38, A40, cc41, rfl, hl39, hh⟩ := hp
      replace hh := hh.up3
      replace hh := hh.up3
      replace hh := hh.up3
      refine aen ⟨_, _, hl39, hh⟩ ?_
      refine aha2 (i := 5) (j := 7) (by kernel_rfl) ?_ ?_
      · refine aop rfl ?_
        refine gy rfl he rfl ?_
        refine cvbs (tokPut pd wd mk lg) Try.underlying22 Try.underlying5 Try.underlying9 rfl (Ch.rd hh.at3) (by simp) rfl he fun a he => ?_
        replace hh := hh.up2
        replace hh := hh.up2
        replace hh := hh.up2
        refine aen ⟨_, _, hl39, hh⟩ ?_
        refine aha1 (i := 7) (by kernel_rfl) ?_
        refine aop rfl ?_
        refine gy rfl he rfl ?_
        refine cal cb_11 rfl (ref07_Put _ _ _ A_pd c_pd pd A_wd c_wd wd mk lg hh (h_pd.up (((hl3.trans hl7).trans hl18).trans hl39)) k_pd (h_wd.up (((hl3.trans hl7).trans hl18).trans hl39)) k_wd (by omega) (by omega) hc) rfl he fun v a W hp he => ?_
        obtain ⟨I43, A45, cc46, rfl, hl44, hh⟩ := hp
        replace hh := hh.up3
        replace hh := hh.up3
        replace hh := hh.up3
        refine aen ⟨_, _, (hl39.trans hl44), hh⟩ ?_
        refine aha1 (i := 8) (by kernel_rfl) ?_
        refine aop rfl ?_
        refine gy rfl he rfl ?_
        refine cvbs (tokPut pd wd mk lg) Try.underlying22 Try.underlying5 Try.underlying9 rfl (Ch.rd hh.at3) (by simp) rfl he fun a he => ?_
        replace hh := hh.up2
        replace hh := hh.up2
        replace hh := hh.up2
        refine aen ⟨_, _, (hl39.trans hl44), hh⟩ ?_
        replace hh := hh.up2
        replace hh := hh.up2
        replace hh := hh.up2
        refine ahp (d := 41) (v := .bool (decide ((⟨(tokPut pd wd mk lg).toArray⟩ : ByteArray) = (⟨(tokPut pd wd mk lg).toArray⟩ : ByteArray)))) 9 rfl (by kernel_rfl) (by kernel_rfl) (by kernel_rfl) rfl rfl rfl he ⟨_, _, (hl39.trans hl44), hh⟩ (fun W hS => by
            refine gy rfl he rfl ?_
            refine seq' rfl rfl rfl he fun a he => ?_
            exact aqe he) fun a he => ?_
        replace hh := hh.up2
        replace hh := hh.up2
        replace hh := hh.up2
        refine ahp (d := 42) (v := .bool (decide ((⟨(tokPut pd wd mk lg).toArray⟩ : ByteArray) = (⟨(tokPut pd wd mk lg).toArray⟩ : ByteArray)))) 10 rfl (by kernel_rfl) (by kernel_rfl) (by kernel_rfl) rfl rfl rfl he ⟨_, _, (hl39.trans hl44), hh⟩ (fun W hS => by
            refine pkt rfl rfl rfl he fun a he => ?_
            exact aqe he) fun a he => ?_
        replace hh := hh.up2
        replace hh := hh.up2
        replace hh := hh.up2
        refine ahp (d := 43) (v := .bool (decide ((⟨(tokPut pd wd mk lg).toArray⟩ : ByteArray) = (⟨(tokPut pd wd mk lg).toArray⟩ : ByteArray)))) 11 rfl (by kernel_rfl) (by kernel_rfl) (by kernel_rfl) rfl rfl rfl he ⟨_, _, (hl39.trans hl44), hh⟩ (fun W hS => by
            refine mv rfl rfl he fun a he => ?_
            exact aqe he) fun a he => ?_
        replace he := he.be (t := 43) (v' := .bool true) rfl (by simp)
        replace hh := hh.up2
        replace hh := hh.up2
        replace hh := hh.up2
        refine ahp (d := 44) (v := .agg #[.slice A8 (((tokGet b).pd).length) cc9, .slice A10 (((tokGet b).wd).length) cc11, .bool ((tokGet b).mrk), .bool ((tokGet b).lg)]) 12 rfl (by kernel_rfl) (by kernel_rfl) (by kernel_rfl) rfl rfl rfl he ⟨_, _, (hl39.trans hl44), hh⟩ (fun W hS => by
            obtain ⟨I49, _, hleI49, hh⟩ := hS
            refine gy rfl he rfl ?_
            refine ldA [.slice A8 (((tokGet b).pd).length) cc9, .slice A10 (((tokGet b).wd).length) cc11, .bool ((tokGet b).mrk), .bool ((tokGet b).lg)] rb_30 ti_30 rfl ((Rd.obj hh.at1 0).take 4) rfl rfl he fun a he => ?_
            exact aqe he) fun a he => ?_
        replace hh := hh.up2
        replace hh := hh.up2
        replace hh := hh.up2
        refine ahp (d := 46) (v := .agg #[.slice A19 (((refGet b).pd).length) cc20, .slice A21 (((refGet b).wd).length) cc22, .bool ((refGet b).mrk), .bool ((refGet b).lg)]) 14 rfl (by kernel_rfl) (by kernel_rfl) (by kernel_rfl) rfl rfl rfl he ⟨_, _, (hl39.trans hl44), hh⟩ (fun W hS => by
            obtain ⟨I50, _, hleI50, hh⟩ := hS
            refine gy rfl he rfl ?_
            refine ldA [.slice A19 (((refGet b).pd).length) cc20, .slice A21 (((refGet b).wd).length) cc22, .bool ((refGet b).mrk), .bool ((refGet b).lg)] rb_25 ti_25 rfl ((Rd.obj hh.at0 0).take 4) rfl rfl he fun a he => ?_
            exact aqe he) fun a he => ?_
        refine aha1 (i := 13) (by kernel_rfl) ?_
        refine aop rfl ?_
        refine gy rfl he rfl ?_
        refine cal cb_13 rfl (law_real _ _ _ A8 cc9 ((tokGet b).pd) A10 cc11 ((tokGet b).wd) ((tokGet b).mrk) ((tokGet b).lg) hh (hf12.up ((hl18.trans hl39).trans hl44)) hc13 (hf14.up ((hl18.trans hl39).trans hl44)) hc15) rfl he fun v a W hp he => ?_
        obtain ⟨A51, cc52, A53, cc54, rfl, hf55, hc56, hf57, hc58, hh⟩ := hp
        replace hh := hh.up2
        replace hh := hh.up2
        replace hh := hh.up2
        refine aen ⟨_, _, (hl39.trans hl44), hh⟩ ?_
        refine aha1 (i := 15) (by kernel_rfl) ?_
        refine aop rfl ?_
        refine gy rfl he rfl ?_
        refine cal cb_12 rfl (ref07_Same _ _ _ A51 cc52 ((tokGet b).pd) A53 cc54 ((tokGet b).wd) ((tokGet b).mrk) ((tokGet b).lg) A19 cc20 ((refGet b).pd) A21 cc22 ((refGet b).wd) ((refGet b).mrk) ((refGet b).lg) hh hf55 hc56 hf57 hc58 (hf23.up (hl39.trans hl44)) hc24 (hf25.up (hl39.trans hl44)) hc26 (by omega)) rfl he fun v a W hp he => ?_
        obtain ⟨rfl, hh⟩ := hp
        replace hh := hh.up2
        replace hh := hh.up2
        replace hh := hh.up2
        refine aen ⟨_, _, (hl39.trans hl44), hh⟩ ?_
        replace hh := hh.up2
        replace hh := hh.up2
        replace hh := hh.up2
        refine ahp (d := 48) (v := .bool (decide (((tokGet b).pd) = ((refGet b).pd)) && (decide (((tokGet b).wd) = ((refGet b).wd)) && ((((tokGet b).mrk) == ((refGet b).mrk)) && (((tokGet b).lg) == ((refGet b).lg)))))) 16 rfl (by kernel_rfl) (by kernel_rfl) (by kernel_rfl) rfl rfl rfl he ⟨_, _, (hl39.trans hl44), hh⟩ (fun W hS => by
            refine pkt rfl rfl rfl he fun a he => ?_
            exact aqe he) fun a he => ?_
        replace hh := hh.up2
        replace hh := hh.up2
        replace hh := hh.up2
        refine ahp (d := 49) (v := .bool (decide (((tokGet b).pd) = ((refGet b).pd)) && (decide (((tokGet b).wd) = ((refGet b).wd)) && ((((tokGet b).mrk) == ((refGet b).mrk)) && (((tokGet b).lg) == ((refGet b).lg)))))) 17 rfl (by kernel_rfl) (by kernel_rfl) (by kernel_rfl) rfl rfl rfl he ⟨_, _, (hl39.trans hl44), hh⟩ (fun W hS => by
            refine mv rfl rfl he fun a he => ?_
            exact aqe he) fun a he => ?_
        replace he := he.be (t := 49) (v' := .bool true) rfl (by simp [hrt])
        replace hh := hh.up2
        replace hh := hh.up2
        replace hh := hh.up2
        refine ahp (d := 50) (v := .int .i64 ((tokGet b).err)) 18 rfl (by kernel_rfl) (by kernel_rfl) (by kernel_rfl) rfl rfl rfl he ⟨_, _, (hl39.trans hl44), hh⟩ (fun W hS => by
            refine gy rfl he rfl ?_
            refine mv rfl rfl he fun a he => ?_
            exact aqe he) fun a he => ?_
        replace hh := hh.up2
        replace hh := hh.up2
        replace hh := hh.up2
        refine ahp (d := 51) (v := .int .i64 ((refGet b).err)) 19 rfl (by kernel_rfl) (by kernel_rfl) (by kernel_rfl) rfl rfl rfl he ⟨_, _, (hl39.trans hl44), hh⟩ (fun W hS => by
            refine gy rfl he rfl ?_
            refine mv rfl rfl he fun a he => ?_
            exact aqe he) fun a he => ?_
        replace hh := hh.up2
        replace hh := hh.up2
        replace hh := hh.up2
        refine ahp (d := 52) (v := .bool (decide (((tokGet b).err) = ((refGet b).err)))) 20 rfl (by kernel_rfl) (by kernel_rfl) (by kernel_rfl) rfl rfl rfl he ⟨_, _, (hl39.trans hl44), hh⟩ (fun W hS => by
            refine gy rfl he rfl ?_
            refine eq rfl rfl rfl he fun a he => ?_
            exact aqe he) fun a he => ?_
        replace hh := hh.up2
        replace hh := hh.up2
        replace hh := hh.up2
        refine ahp (d := 53) (v := .bool (decide (((tokGet b).err) = ((refGet b).err)))) 21 rfl (by kernel_rfl) (by kernel_rfl) (by kernel_rfl) rfl rfl rfl he ⟨_, _, (hl39.trans hl44), hh⟩ (fun W hS => by
            refine pkt rfl rfl rfl he fun a he => ?_
            exact aqe he) fun a he => ?_
        replace hh := hh.up2
        replace hh := hh.up2
        replace hh := hh.up2
        refine ahp (d := 4) (v := .bool (decide (((tokGet b).err) = ((refGet b).err)))) 22 rfl (by kernel_rfl) (by kernel_rfl) (by kernel_rfl) rfl rfl rfl he ⟨_, _, (hl39.trans hl44), hh⟩ (fun W hS => by
            refine asg rfl rfl he fun a he => ?_
            exact aqe he) fun a he => ?_
        refine ahd (by kernel_rfl) ?_
        refine en ?_
        refine rt ?_
        refine rets1 Try.results3 he rfl (Ret.mk ?_)
        replace hh := hh.drop
        replace hh := hh.drop
        replace hh := hh.drop
        replace hh := hh.drop
        replace hh := hh.drop
        exact ⟨I43, by simp [hrt], ((((hl3.trans hl7).trans hl18).trans hl39).trans hl44), hh⟩
      · refine aop rfl ?_
        refine gy rfl he rfl ?_
        refine cal cb_11 rfl (ref07_Put _ _ _ A_pd c_pd pd A_wd c_wd wd mk lg hh (h_pd.up (((hl3.trans hl7).trans hl18).trans hl39)) k_pd (h_wd.up (((hl3.trans hl7).trans hl18).trans hl39)) k_wd (by omega) (by omega) hc) rfl he fun v a W hp he => ?_
        obtain ⟨I60, A62, cc63, rfl, hl61, hh⟩ := hp
        replace hh := hh.up3
        replace hh := hh.up3
        replace hh := hh.up3
        refine aen ⟨_, _, (hl39.trans hl61), hh⟩ ?_
        refine aha2 (i := 5) (j := 8) (by kernel_rfl) ?_ ?_
        · refine aop rfl ?_
          refine gy rfl he rfl ?_
          refine cvbs (tokPut pd wd mk lg) Try.underlying22 Try.underlying5 Try.underlying9 rfl (Ch.rd hh.at4) (by simp) rfl he fun a he => ?_
          replace hh := hh.up2
          replace hh := hh.up2
          replace hh := hh.up2
          refine aen ⟨_, _, (hl39.trans hl61), hh⟩ ?_
          refine aha1 (i := 8) (by kernel_rfl) ?_
          refine aop rfl ?_
          refine gy rfl he rfl ?_
          refine cvbs (tokPut pd wd mk lg) Try.underlying22 Try.underlying5 Try.underlying9 rfl (Ch.rd hh.at3) (by simp) rfl he fun a he => ?_
          replace hh := hh.up2
          replace hh := hh.up2
          replace hh := hh.up2
          refine aen ⟨_, _, (hl39.trans hl61), hh⟩ ?_
          replace hh := hh.up2
          replace hh := hh.up2
          replace hh := hh.up2
          refine ahp (d := 41) (v := .bool (decide ((⟨(tokPut pd wd mk lg).toArray⟩ : ByteArray) = (⟨(tokPut pd wd mk lg).toArray⟩ : ByteArray)))) 9 rfl (by kernel_rfl) (by kernel_rfl) (by kernel_rfl) rfl rfl rfl he ⟨_, _, (hl39.trans hl61), hh⟩ (fun W hS => by
              refine gy rfl he rfl ?_
              refine seq' rfl rfl rfl he fun a he => ?_
              exact aqe he) fun a he => ?_
          replace hh := hh.up2
          replace hh := hh.up2
          replace hh := hh.up2
          refine ahp (d := 42) (v := .bool (decide ((⟨(tokPut pd wd mk lg).toArray⟩ : ByteArray) = (⟨(tokPut pd wd mk lg).toArray⟩ : ByteArray)))) 10 rfl (by kernel_rfl) (by kernel_rfl) (by kernel_rfl) rfl rfl rfl he ⟨_, _, (hl39.trans hl61), hh⟩ (fun W hS => by
              refine pkt rfl rfl rfl he fun a he => ?_
              exact aqe he) fun a he => ?_
          replace hh := hh.up2
          replace hh := hh.up2
          replace hh := hh.up2
          refine ahp (d := 43) (v := .bool (decide ((⟨(tokPut pd wd mk lg).toArray⟩ : ByteArray) = (⟨(tokPut pd wd mk lg).toArray⟩ : ByteArray)))) 11 rfl (by kernel_rfl) (by kernel_rfl) (by kernel_rfl) rfl rfl rfl he ⟨_, _, (hl39.trans hl61), hh⟩ (fun W hS => by
              refine mv rfl rfl he fun a he => ?_
              exact aqe he) fun a he => ?_
          replace he := he.be (t := 43) (v' := .bool true) rfl (by simp)
          replace hh := hh.up2
          replace hh := hh.up2
          replace hh := hh.up2
          refine ahp (d := 44) (v := .agg #[.slice A8 (((tokGet b).pd).length) cc9, .slice A10 (((tokGet b).wd).length) cc11, .bool ((tokGet b).mrk), .bool ((tokGet b).lg)]) 12 rfl (by kernel_rfl) (by kernel_rfl) (by kernel_rfl) rfl rfl rfl he ⟨_, _, (hl39.trans hl61), hh⟩ (fun W hS => by
              obtain ⟨I66, _, hleI66, hh⟩ := hS
              refine gy rfl he rfl ?_
              refine ldA [.slice A8 (((tokGet b).pd).length) cc9, .slice A10 (((tokGet b).wd).length) cc11, .bool ((tokGet b).mrk), .bool ((tokGet b).lg)] rb_30 ti_30 rfl ((Rd.obj hh.at1 0).take 4) rfl rfl he fun a he => ?_
              exact aqe he) fun a he => ?_
          replace hh := hh.up2
          replace hh := hh.up2
          replace hh := hh.up2
          refine ahp (d := 46) (v := .agg #[.slice A19 (((refGet b).pd).length) cc20, .slice A21 (((refGet b).wd).length) cc22, .bool ((refGet b).mrk), .bool ((refGet b).lg)]) 14 rfl (by kernel_rfl) (by kernel_rfl) (by kernel_rfl) rfl rfl rfl he ⟨_, _, (hl39.trans hl61), hh⟩ (fun W hS => by
              obtain ⟨I67, _, hleI67, hh⟩ := hS
              refine gy rfl he rfl ?_
              refine ldA [.slice A19 (((refGet b).pd).length) cc20, .slice A21 (((refGet b).wd).length) cc22, .bool ((refGet b).mrk), .bool ((refGet b).lg)] rb_25 ti_25 rfl ((Rd.obj hh.at0 0).take 4) rfl rfl he fun a he => ?_
              exact aqe he) fun a he => ?_
          refine aha1 (i := 13) (by kernel_rfl) ?_
          refine aop rfl ?_
          refine gy rfl he rfl ?_
          refine cal cb_13 rfl (law_real _ _ _ A8 cc9 ((tokGet b).pd) A10 cc11 ((tokGet b).wd) ((tokGet b).mrk) ((tokGet b).lg) hh (hf12.up ((hl18.trans hl39).trans hl61)) hc13 (hf14.up ((hl18.trans hl39).trans hl61)) hc15) rfl he fun v a W hp he => ?_
          obtain ⟨A68, cc69, A70, cc71, rfl, hf72, hc73, hf74, hc75, hh⟩ := hp
          replace hh := hh.up2
          replace hh := hh.up2
          replace hh := hh.up2
          refine aen ⟨_, _, (hl39.trans hl61), hh⟩ ?_
          refine aha1 (i := 15) (by kernel_rfl) ?_
          refine aop rfl ?_
          refine gy rfl he rfl ?_
          refine cal cb_12 rfl (ref07_Same _ _ _ A68 cc69 ((tokGet b).pd) A70 cc71 ((tokGet b).wd) ((tokGet b).mrk) ((tokGet b).lg) A19 cc20 ((refGet b).pd) A21 cc22 ((refGet b).wd) ((refGet b).mrk) ((refGet b).lg) hh hf72 hc73 hf74 hc75 (hf23.up (hl39.trans hl61)) hc24 (hf25.up (hl39.trans hl61)) hc26 (by omega)) rfl he fun v a W hp he => ?_
          obtain ⟨rfl, hh⟩ := hp
          replace hh := hh.up2
          replace hh := hh.up2
          replace hh := hh.up2
          refine aen ⟨_, _, (hl39.trans hl61), hh⟩ ?_
          replace hh := hh.up2
          replace hh := hh.up2
          replace hh := hh.up2
          refine ahp (d := 48) (v := .bool (decide (((tokGet b).pd) = ((refGet b).pd)) && (decide (((tokGet b).wd) = ((refGet b).wd)) && ((((tokGet b).mrk) == ((refGet b).mrk)) && (((tokGet b).lg) == ((refGet b).lg)))))) 16 rfl (by kernel_rfl) (by kernel_rfl) (by kernel_rfl) rfl rfl rfl he ⟨_, _, (hl39.trans hl61), hh⟩ (fun W hS => by
              refine pkt rfl rfl rfl he fun a he => ?_
              exact aqe he) fun a he => ?_
          replace hh := hh.up2
          replace hh := hh.up2
          replace hh := hh.up2
          refine ahp (d := 49) (v := .bool (decide (((tokGet b).pd) = ((refGet b).pd)) && (decide (((tokGet b).wd) = ((refGet b).wd)) && ((((tokGet b).mrk) == ((refGet b).mrk)) && (((tokGet b).lg) == ((refGet b).lg)))))) 17 rfl (by kernel_rfl) (by kernel_rfl) (by kernel_rfl) rfl rfl rfl he ⟨_, _, (hl39.trans hl61), hh⟩ (fun W hS => by
              refine mv rfl rfl he fun a he => ?_
              exact aqe he) fun a he => ?_
          replace he := he.be (t := 49) (v' := .bool true) rfl (by simp [hrt])
          replace hh := hh.up2
          replace hh := hh.up2
          replace hh := hh.up2
          refine ahp (d := 50) (v := .int .i64 ((tokGet b).err)) 18 rfl (by kernel_rfl) (by kernel_rfl) (by kernel_rfl) rfl rfl rfl he ⟨_, _, (hl39.trans hl61), hh⟩ (fun W hS => by
              refine gy rfl he rfl ?_
              refine mv rfl rfl he fun a he => ?_
              exact aqe he) fun a he => ?_
          replace hh := hh.up2
          replace hh := hh.up2
          replace hh := hh.up2
          refine ahp (d := 51) (v := .int .i64 ((refGet b).err)) 19 rfl (by kernel_rfl) (by kernel_rfl) (by kernel_rfl) rfl rfl rfl he ⟨_, _, (hl39.trans hl61), hh⟩ (fun W hS => by
              refine gy rfl he rfl ?_
              refine mv rfl rfl he fun a he => ?_
              exact aqe he) fun a he => ?_
          replace hh := hh.up2
          replace hh := hh.up2
          replace hh := hh.up2
          refine ahp (d := 52) (v := .bool (decide (((tokGet b).err) = ((refGet b).err)))) 20 rfl (by kernel_rfl) (by kernel_rfl) (by kernel_rfl) rfl rfl rfl he ⟨_, _, (hl39.trans hl61), hh⟩ (fun W hS => by
              refine gy rfl he rfl ?_
              refine eq rfl rfl rfl he fun a he => ?_
              exact aqe he) fun a he => ?_
          replace hh := hh.up2
          replace hh := hh.up2
          replace hh := hh.up2
          refine ahp (d := 53) (v := .bool (decide (((tokGet b).err) = ((refGet b).err)))) 21 rfl (by kernel_rfl) (by kernel_rfl) (by kernel_rfl) rfl rfl rfl he ⟨_, _, (hl39.trans hl61), hh⟩ (fun W hS => by
              refine pkt rfl rfl rfl he fun a he => ?_
              exact aqe he) fun a he => ?_
          replace hh := hh.up2
          replace hh := hh.up2
          replace hh := hh.up2
          refine ahp (d := 4) (v := .bool (decide (((tokGet b).err) = ((refGet b).err)))) 22 rfl (by kernel_rfl) (by kernel_rfl) (by kernel_rfl) rfl rfl rfl he ⟨_, _, (hl39.trans hl61), hh⟩ (fun W hS => by
              refine asg rfl rfl he fun a he => ?_
              exact aqe he) fun a he => ?_
          refine ahd (by kernel_rfl) ?_
          refine en ?_
          refine rt ?_
          refine rets1 Try.results3 he rfl (Ret.mk ?_)
          replace hh := hh.drop
          replace hh := hh.drop
          replace hh := hh.drop
          replace hh := hh.drop
          replace hh := hh.drop
          exact ⟨I60, by simp [hrt], ((((hl3.trans hl7).trans hl18).trans hl39).trans hl61), hh⟩
        · refine aop rfl ?_
          refine gy rfl he rfl ?_
          refine cvbs (tokPut pd wd mk lg) Try.underlying22 Try.underlying5 Try.underlying9 rfl (Ch.rd hh.at3) (by simp) rfl he fun a he => ?_
          replace hh := hh.up2
          replace hh := hh.up2
          replace hh := hh.up2
          refine aen ⟨_, _, (hl39.trans hl61), hh⟩ ?_
          refine aha1 (i := 5) (by kernel_rfl) ?_
          refine aop rfl ?_
          refine gy rfl he rfl ?_
          refine cvbs (tokPut pd wd mk lg) Try.underlying22 Try.underlying5 Try.underlying9 rfl (Ch.rd hh.at4) (by simp) rfl he fun a he => ?_
          replace hh := hh.up2
          replace hh := hh.up2
          replace hh := hh.up2
          refine aen ⟨_, _, (hl39.trans hl61), hh⟩ ?_
          replace hh := hh.up2
          replace hh := hh.up2
          replace hh := hh.up2
          refine ahp (d := 41) (v := .bool (decide ((⟨(tokPut pd wd mk lg).toArray⟩ : ByteArray) = (⟨(tokPut pd wd mk lg).toArray⟩ : ByteArray)))) 9 rfl (by kernel_rfl) (by kernel_rfl) (by kernel_rfl) rfl rfl rfl he ⟨_, _, (hl39.trans hl61), hh⟩ (fun W hS => by
              refine gy rfl he rfl ?_
              refine seq' rfl rfl rfl he fun a he => ?_
              exact aqe he) fun a he => ?_
          replace hh := hh.up2
          replace hh := hh.up2
          replace hh := hh.up2
          refine ahp (d := 42) (v := .bool (decide ((⟨(tokPut pd wd mk lg).toArray⟩ : ByteArray) = (⟨(tokPut pd wd mk lg).toArray⟩ : ByteArray)))) 10 rfl (by kernel_rfl) (by kernel_rfl) (by kernel_rfl) rfl rfl rfl he ⟨_, _, (hl39.trans hl61), hh⟩ (fun W hS => by
              refine pkt rfl rfl rfl he fun a he => ?_
              exact aqe he) fun a he => ?_
          replace hh := hh.up2
          replace hh := hh.up2
          replace hh := hh.up2
          refine ahp (d := 43) (v := .bool (decide ((⟨(tokPut pd wd mk lg).toArray⟩ : ByteArray) = (⟨(tokPut pd wd mk lg).toArray⟩ : ByteArray)))) 11 rfl (by kernel_rfl) (by kernel_rfl) (by kernel_rfl) rfl rfl rfl he ⟨_, _, (hl39.trans hl61), hh⟩ (fun W hS => by
              refine mv rfl rfl he fun a he => ?_
              exact aqe he) fun a he => ?_
          replace he := he.be (t := 43) (v' := .bool true) rfl (by simp)
          replace hh := hh.up2
          replace hh := hh.up2
          replace hh := hh.up2
          refine ahp (d := 44) (v := .agg #[.slice A8 (((tokGet b).pd).length) cc9, .slice A10 (((tokGet b).wd).length) cc11, .bool ((tokGet b).mrk), .bool ((tokGet b).lg)]) 12 rfl (by kernel_rfl) (by kernel_rfl) (by kernel_rfl) rfl rfl rfl he ⟨_, _, (hl39.trans hl61), hh⟩ (fun W hS => by
              obtain ⟨I78, _, hleI78, hh⟩ := hS
              refine gy rfl he rfl ?_
              refine ldA [.slice A8 (((tokGet b).pd).length) cc9, .slice A10 (((tokGet b).wd).length) cc11, .bool ((tokGet b).mrk), .bool ((tokGet b).lg)] rb_30 ti_30 rfl ((Rd.obj hh.at1 0).take 4) rfl rfl he fun a he => ?_
              exact aqe he) fun a he => ?_
          replace hh := hh.up2
          replace hh := hh.up2
          replace hh := hh.up2
          refine ahp (d := 46) (v := .agg #[.slice A19 (((refGet b).pd).length) cc20, .slice A21 (((refGet b).wd).length) cc22, .bool ((refGet b).mrk), .bool ((refGet b).lg)]) 14 rfl (by kernel_rfl) (by kernel_rfl) (by kernel_rfl) rfl rfl rfl he ⟨_, _, (hl39.trans hl61), hh⟩ (fun W hS => by
              obtain ⟨I79, _, hleI79, hh⟩ := hS
              refine gy rfl he rfl ?_
              refine ldA [.slice A19 (((refGet b).pd).length) cc20, .slice A21 (((refGet b).wd).length) cc22, .bool ((refGet b).mrk), .bool ((refGet b).lg)] rb_25 ti_25 rfl ((Rd.obj hh.at0 0).take 4) rfl rfl he fun a he => ?_
              exact aqe he) fun a he => ?_
          refine aha1 (i := 13) (by kernel_rfl) ?_
          refine aop rfl ?_
          refine gy rfl he rfl ?_
          refine cal cb_13 rfl (law_real _ _ _ A8 cc9 ((tokGet b).pd) A10 cc11 ((tokGet b).wd) ((tokGet b).mrk) ((tokGet b).lg) hh (hf12.up ((hl18.trans hl39).trans hl61)) hc13 (hf14.up ((hl18.trans hl39).trans hl61)) hc15) rfl he fun v a W hp he => ?_
          obtain ⟨A80, cc81, A82, cc83, rfl, hf84, hc85, hf86, hc87, hh⟩ := hp
          replace hh := hh.up2
          replace hh := hh.up2
          replace hh := hh.up2
          refine aen ⟨_, _, (hl39.trans hl61), hh⟩ ?_
          refine aha1 (i := 15) (by kernel_rfl) ?_
          refine aop rfl ?_
          refine gy rfl he rfl ?_
          refine cal cb_12 rfl (ref07_Same _ _ _ A80 cc81 ((tokGet b).pd) A82 cc83 ((tokGet b).wd) ((tokGet b).mrk) ((tokGet b).lg) A19 cc20 ((refGet b).pd) A21 cc22 ((refGet b).wd) ((refGet b).mrk) ((refGet b).lg) hh hf84 hc85 hf86 hc87 (hf23.up (hl39.trans hl61)) hc24 (hf25.up (hl39.trans hl61)) hc26 (by omega)) rfl he fun v a W hp he => ?_
          obtain ⟨rfl, hh⟩ := hp
          replace hh := hh.up2
          replace hh := hh.up2
          replace hh := hh.up2
          refine aen ⟨_, _, (hl39.trans hl61), hh⟩ ?_
          replace hh := hh.up2
          replace hh := hh.up2
          replace hh := hh.up2
          refine ahp (d := 48) (v := .bool (decide (((tokGet b).pd) = ((refGet b).pd)) && (decide (((tokGet b).wd) = ((refGet b).wd)) && ((((tokGet b).mrk) == ((refGet b).mrk)) && (((tokGet b).lg) == ((refGet b).lg)))))) 16 rfl (by kernel_rfl) (by kernel_rfl) (by kernel_rfl) rfl rfl rfl he ⟨_, _, (hl39.trans hl61), hh⟩ (fun W hS => by
              refine pkt rfl rfl rfl he fun a he => ?_
              exact aqe he) fun a he => ?_
          replace hh := hh.up2
          replace hh := hh.up2
          replace hh := hh.up2
          refine ahp (d := 49) (v := .bool (decide (((tokGet b).pd) = ((refGet b).pd)) && (decide (((tokGet b).wd) = ((refGet b).wd)) && ((((tokGet b).mrk) == ((refGet b).mrk)) && (((tokGet b).lg) == ((refGet b).lg)))))) 17 rfl (by kernel_rfl) (by kernel_rfl) (by kernel_rfl) rfl rfl rfl he ⟨_, _, (hl39.trans hl61), hh⟩ (fun W hS => by
              refine mv rfl rfl he fun a he => ?_
              exact aqe he) fun a he => ?_
          replace he := he.be (t := 49) (v' := .bool true) rfl (by simp [hrt])
          replace hh := hh.up2
          replace hh := hh.up2
          replace hh := hh.up2
          refine ahp (d := 50) (v := .int .i64 ((tokGet b).err)) 18 rfl (by kernel_rfl) (by kernel_rfl) (by kernel_rfl) rfl rfl rfl he ⟨_, _, (hl39.trans hl61), hh⟩ (fun W hS => by
              refine gy rfl he rfl ?_
              refine mv rfl rfl he fun a he => ?_
              exact aqe he) fun a he => ?_
          replace hh := hh.up2
          replace hh := hh.up2
          replace hh := hh.up2
          refine ahp (d := 51) (v := .int .i64 ((refGet b).err)) 19 rfl (by kernel_rfl) (by kernel_rfl) (by kernel_rfl) rfl rfl rfl he ⟨_, _, (hl39.trans hl61), hh⟩ (fun W hS => by
              refine gy rfl he rfl ?_
              refine mv rfl rfl he fun a he => ?_
              exact aqe he) fun a he => ?_
          replace hh := hh.up2
          replace hh := hh.up2
          replace hh := hh.up2
          refine ahp (d := 52) (v := .bool (decide (((tokGet b).err) = ((refGet b).err)))) 20 rfl (by kernel_rfl) (by kernel_rfl) (by kernel_rfl) rfl rfl rfl he ⟨_, _, (hl39.trans hl61), hh⟩ (fun W hS => by
              refine gy rfl he rfl ?_
              refine eq rfl rfl rfl he fun a he => ?_
              exact aqe he) fun a he => ?_
          replace hh := hh.up2
          replace hh := hh.up2
          replace hh := hh.up2
          refine ahp (d := 53) (v := .bool (decide (((tokGet b).err) = ((refGet b).err)))) 21 rfl (by kernel_rfl) (by kernel_rfl) (by kernel_rfl) rfl rfl rfl he ⟨_, _, (hl39.trans hl61), hh⟩ (fun W hS => by
              refine pkt rfl rfl rfl he fun a he => ?_
              exact aqe he) fun a he => ?_
          replace hh := hh.up2
          replace hh := hh.up2
          replace hh := hh.up2
          refine ahp (d := 4) (v := .bool (decide (((tokGet b).err) = ((refGet b).err)))) 22 rfl (by kernel_rfl) (by kernel_rfl) (by kernel_rfl) rfl rfl rfl he ⟨_, _, (hl39.trans hl61), hh⟩ (fun W hS => by
              refine asg rfl rfl he fun a he => ?_
              exact aqe he) fun a he => ?_
          refine ahd (by kernel_rfl) ?_
          refine en ?_
          refine rt ?_
          refine rets1 Try.results3 he rfl (Ret.mk ?_)
          replace hh := hh.drop
          replace hh := hh.drop
          replace hh := hh.drop
          replace hh := hh.drop
          replace hh := hh.drop
          exact ⟨I60, by simp [hrt], ((((hl3.trans hl7).trans hl18).trans hl39).trans hl61), hh⟩

end Go.Proofs.Ytndaogkpgoimlaa

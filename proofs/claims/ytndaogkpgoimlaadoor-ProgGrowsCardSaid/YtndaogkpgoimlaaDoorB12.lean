/- Walks through the given program's functions, printed op by op by this session's own program; what each computes is told by the plain functions of the texts S... -/
import Derived.Test.YtndaogkpgoimlaaDoorB11
import Derived.KernelRfl
namespace Go.Proofs.YtndaogkpgoimlaaDoor
open Go Go.RowKit K
set_option linter.unusedVariables false
theorem cb_10 : callable Tryd.prog 10 = true := by kernel_rfl
theorem cb_16 : callable Tryd.prog 16 = true := by kernel_rfl
theorem law_shown (I : Snap) (L : List Ch) (W : World)  (hh : Hp I L W)  :
    Calls Tryd.prog 8 #[] W (Ret fun v W => ∃ (I' : Snap), v = .bool true ∧ I.le I' ∧ Hp I' (L) W) := by
  refine enter Tryd.func8 rfl Tryd.ntmps8 rfl fun a he => ?_
  refine sq ?_
  refine rg ?_
  refine asg rfl rfl he fun a he => ?_
  refine en ?_
  refine sq ?_
  refine rg ?_
  refine bld #[.int .i64 0, .int .i64 0, .int .i64 0, .int .i64 0, .slice none 0 0, .slice none 0 0, .slice none 0 0, .bool false, .bool false] rfl (by kernel_rfl) rfl he fun a he => ?_
  refine cal cb_11 rfl (prog_Put _ _ _ 0 0 0 0 none 0 [] none 0 [] none 0 [] false false hh (Fz.nil _ _) (Nat.le_refl _) (Fz.nil _ _) (Nat.le_refl _) (Fz.nil _ _) (Nat.le_refl _) (by decide) (fun c hc => by cases hc) (by decide) (by decide) (by decide) (fun c hc => by cases hc)) rfl he fun v a W hp he => ?_
  obtain ⟨I1, A3, cc4, rfl, hl2, hh⟩ := hp
  refine asg rfl rfl he fun a he => ?_
  refine en ?_
  refine sq ?_
  refine rg ?_
  refine mv rfl rfl he fun a he => ?_
  have hc9 := (Ch.rowcap hh.at0).1
  obtain ⟨I6, hl7, hh, hf8⟩ := hh.freezeRow
  refine cal cb_10 rfl (prog_Get _ _ _ A3 cc4 (progPut 0 0 0 0 ([]) ([]) ([]) false false) hh hf8 hc9) rfl he fun v a W hp he => ?_
  obtain ⟨I10, A12, cc13, A14, cc15, A16, cc17, rfl, hl11, hf18, hc19, hf20, hc21, hf22, hc23, hh⟩ := hp
  refine mv rfl rfl he fun a he => ?_
  refine xt rfl rfl rfl he fun a he => ?_
  refine xt rfl rfl rfl he fun a he => ?_
  refine al ti_36 rfl he hh fun bb24 a W he hh => ?_
  replace hh : Hp I10 (.obj bb24 (.cells [.int .i64 0, .int .i64 0, .int .i64 0, .int .i64 0, .slice none 0 0, .slice none 0 0, .slice none 0 0, .bool false, .bool false].toArray 36) :: _) W := hh
  refine st #[.int .i64 ((progGet (progPut 0 0 0 0 ([]) ([]) ([]) false false)).ph), .int .i64 ((progGet (progPut 0 0 0 0 ([]) ([]) ([]) false false)).fl), .int .i64 ((progGet (progPut 0 0 0 0 ([]) ([]) ([]) false false)).of_), .int .i64 ((progGet (progPut 0 0 0 0 ([]) ([]) ([]) false false)).nx), .slice A12 (((progGet (progPut 0 0 0 0 ([]) ([]) ([]) false false)).rs).length) cc13, .slice A14 (((progGet (progPut 0 0 0 0 ([]) ([]) ([]) false false)).tk.pd).length) cc15, .slice A16 (((progGet (progPut 0 0 0 0 ([]) ([]) ([]) false false)).tk.wd).length) cc17, .bool ((progGet (progPut 0 0 0 0 ([]) ([]) ([]) false false)).tk.mrk), .bool ((progGet (progPut 0 0 0 0 ([]) ([]) ([]) false false)).tk.lg)] ti_36 rfl rfl rfl rfl (by simp [Value.oneCell']) (by simp) he hh fun W hh => ?_
  replace hh : Hp I10 (.obj bb24 (.cells [.int .i64 ((progGet (progPut 0 0 0 0 ([]) ([]) ([]) false false)).ph), .int .i64 ((progGet (progPut 0 0 0 0 ([]) ([]) ([]) false false)).fl), .int .i64 ((progGet (progPut 0 0 0 0 ([]) ([]) ([]) false false)).of_), .int .i64 ((progGet (progPut 0 0 0 0 ([]) ([]) ([]) false false)).nx), .slice A12 (((progGet (progPut 0 0 0 0 ([]) ([]) ([]) false false)).rs).length) cc13, .slice A14 (((progGet (progPut 0 0 0 0 ([]) ([]) ([]) false false)).tk.pd).length) cc15, .slice A16 (((progGet (progPut 0 0 0 0 ([]) ([]) ([]) false false)).tk.wd).length) cc17, .bool ((progGet (progPut 0 0 0 0 ([]) ([]) ([]) false false)).tk.mrk), .bool ((progGet (progPut 0 0 0 0 ([]) ([]) ([]) false false)).tk.lg)].toArray 36) :: _) W := hh
  refine asg rfl rfl he fun a he => ?_
  refine en ?_
  refine sq ?_
  refine rgd (SH I10 [.obj bb24 (.cells ([.int .i64 ((progGet (progPut 0 0 0 0 ([]) ([]) ([]) false false)).ph), .int .i64 ((progGet (progPut 0 0 0 0 ([]) ([]) ([]) false false)).fl), .int .i64 ((progGet (progPut 0 0 0 0 ([]) ([]) ([]) false false)).of_), .int .i64 ((progGet (progPut 0 0 0 0 ([]) ([]) ([]) false false)).nx), .slice A12 (((progGet (progPut 0 0 0 0 ([]) ([]) ([]) false false)).rs).length) cc13, .slice A14 (((progGet (progPut 0 0 0 0 ([]) ([]) ([]) false false)).tk.pd).length) cc15, .slice A16 (((progGet (progPut 0 0 0 0 ([]) ([]) ([]) false false)).tk.wd).length) cc17, .bool ((progGet (progPut 0 0 0 0 ([]) ([]) ([]) false false)).tk.mrk), .bool ((progGet (progPut 0 0 0 0 ([]) ([]) ([]) false false)).tk.lg)]).toArray 36)]) 18 mixo rfl hh fun W hh => ?_
  refine ahp (d := 11) (v := .slice A3 ((progPut 0 0 0 0 ([]) ([]) ([]) false false).length) cc4) 0 rfl (by kernel_rfl) (by kernel_rfl) (by kernel_rfl) rfl rfl rfl he ⟨_, _, (Snap.le.refl _), hh⟩ (fun W hS => by
      refine mv rfl rfl he fun a he => ?_
      exact aqe he) fun a he => ?_
  refine ahp (d := 12) (v := .string (⟨(progPut 0 0 0 0 ([]) ([]) ([]) false false).toArray⟩)) 1 rfl (by kernel_rfl) (by kernel_rfl) (by kernel_rfl) rfl rfl rfl he ⟨_, _, (Snap.le.refl _), hh⟩ (fun W hS => by
      obtain ⟨I25, _, hleI25, hh⟩ := hS
      refine cvbs (progPut 0 0 0 0 ([]) ([]) ([]) false false) Tryd.underlying23 Tryd.underlying5 Tryd.underlying9 rfl ((hf8.up (hl11.trans hleI25)).rd hh) (by simp) rfl he fun a he => ?_
      exact aqe he) fun a he => ?_
  refine aha1 (i := 2) (by kernel_rfl) ?_
  refine aop rfl ?_
  refine msl (q := 8) ts_23 rfl rfl (by omega) (by omega) rfl he hh fun bb26 a W he hh => ?_
  rw [show (madeCells (.int .u8 0 : Value).cells (8 * 1)).toList = [.int .u8 0, .int .u8 0, .int .u8 0, .int .u8 0, .int .u8 0, .int .u8 0, .int .u8 0, .int .u8 0] by kernel_rfl] at hh
  replace hh := hh.up1
  refine aen ⟨_, _, (Snap.le.refl _), hh⟩ ?_
  refine aha1 (i := 3) (by kernel_rfl) ?_
  refine aop rfl ?_
  refine cvbs ([0, 0, 0, 0, 0, 0, 0, 0] : List UInt8) Tryd.underlying23 Tryd.underlying5 Tryd.underlying9 rfl (Ch.rd hh.at1) (by simp) rfl he fun a he => ?_
  refine aen ⟨_, _, (Snap.le.refl _), hh⟩ ?_
  refine ahp (d := 15) (v := .bool (decide ((⟨(progPut 0 0 0 0 ([]) ([]) ([]) false false).toArray⟩ : ByteArray) = (⟨([0, 0, 0, 0, 0, 0, 0, 0] : List UInt8).toArray⟩ : ByteArray)))) 4 rfl (by kernel_rfl) (by kernel_rfl) (by kernel_rfl) rfl rfl rfl he ⟨_, _, (Snap.le.refl _), hh⟩ (fun W hS => by
      refine seq' rfl rfl rfl he fun a he => ?_
      exact aqe he) fun a he => ?_
  refine ahp (d := 16) (v := .bool (decide ((⟨(progPut 0 0 0 0 ([]) ([]) ([]) false false).toArray⟩ : ByteArray) = (⟨([0, 0, 0, 0, 0, 0, 0, 0] : List UInt8).toArray⟩ : ByteArray)))) 5 rfl (by kernel_rfl) (by kernel_rfl) (by kernel_rfl) rfl rfl rfl he ⟨_, _, (Snap.le.refl _), hh⟩ (fun W hS => by
      refine mv rfl rfl he fun a he => ?_
      exact aqe he) fun a he => ?_
  replace he := he.be (t := 16) (v' := .bool true) rfl (by exact congrArg Value.bool (by decide +kernel))
  refine ahp (d := 17) (v := .int .i64 ((progGet (progPut 0 0 0 0 ([]) ([]) ([]) false false)).err)) 6 rfl (by kernel_rfl) (by kernel_rfl) (by kernel_rfl) rfl rfl rfl he ⟨_, _, (Snap.le.refl _), hh⟩ (fun W hS => by
      refine gy rfl he rfl ?_
      refine mv rfl rfl he fun a he => ?_
      exact aqe he) fun a he => ?_
  refine ahp (d := 18) (v := .bool (decide (((progGet (progPut 0 0 0 0 ([]) ([]) ([]) false false)).err) = 0))) 7 rfl (by kernel_rfl) (by kernel_rfl) (by kernel_rfl) rfl rfl rfl he ⟨_, _, (Snap.le.refl _), hh⟩ (fun W hS => by
      refine gy rfl he rfl ?_
      refine eq rfl rfl rfl he fun a he => ?_
      exact aqe he) fun a he => ?_
  refine ahp (d := 19) (v := .bool (decide (((progGet (progPut 0 0 0 0 ([]) ([]) ([]) false false)).err) = 0))) 8 rfl (by kernel_rfl) (by kernel_rfl) (by kernel_rfl) rfl rfl rfl he ⟨_, _, (Snap.le.refl _), hh⟩ (fun W hS => by
      refine pkt rfl rfl rfl he fun a he => ?_
      exact aqe he) fun a he => ?_
  refine ahp (d := 20) (v := .bool (decide (((progGet (progPut 0 0 0 0 ([]) ([]) ([]) false false)).err) = 0))) 9 rfl (by kernel_rfl) (by kernel_rfl) (by kernel_rfl) rfl rfl rfl he ⟨_, _, (Snap.le.refl _), hh⟩ (fun W hS => by
      refine mv rfl rfl he fun a he => ?_
      exact aqe he) fun a he => ?_
  replace he := he.be (t := 20) (v' := .bool true) rfl (by exact congrArg Value.bool (by decide +kernel))
  refine ahp (d := 21) (v := .agg #[.int .i64 ((progGet (progPut 0 0 0 0 ([]) ([]) ([]) false false)).ph), .int .i64 ((progGet (progPut 0 0 0 0 ([]) ([]) ([]) false false)).fl), .int .i64 ((progGet (progPut 0 0 0 0 ([]) ([]) ([]) false false)).of_), .int .i64 ((progGet (progPut 0 0 0 0 ([]) ([]) ([]) false false)).nx), .slice A12 (((progGet (progPut 0 0 0 0 ([]) ([]) ([]) false false)).rs).length) cc13, .slice A14 (((progGet (progPut 0 0 0 0 ([]) ([]) ([]) false false)).tk.pd).length) cc15, .slice A16 (((progGet (progPut 0 0 0 0 ([]) ([]) ([]) false false)).tk.wd).length) cc17, .bool ((progGet (progPut 0 0 0 0 ([]) ([]) ([]) false false)).tk.mrk), .bool ((progGet (progPut 0 0 0 0 ([]) ([]) ([]) false false)).tk.lg)]) 10 rfl (by kernel_rfl) (by kernel_rfl) (by kernel_rfl) rfl rfl rfl he ⟨_, _, (Snap.le.refl _), hh⟩ (fun W hS => by
      obtain ⟨I29, _, hleI29, hh⟩ := hS
      refine gy rfl he rfl ?_
      refine ldA [.int .i64 ((progGet (progPut 0 0 0 0 ([]) ([]) ([]) false false)).ph), .int .i64 ((progGet (progPut 0 0 0 0 ([]) ([]) ([]) false false)).fl), .int .i64 ((progGet (progPut 0 0 0 0 ([]) ([]) ([]) false false)).of_), .int .i64 ((progGet (progPut 0 0 0 0 ([]) ([]) ([]) false false)).nx), .slice A12 (((progGet (progPut 0 0 0 0 ([]) ([]) ([]) false false)).rs).length) cc13, .slice A14 (((progGet (progPut 0 0 0 0 ([]) ([]) ([]) false false)).tk.pd).length) cc15, .slice A16 (((progGet (progPut 0 0 0 0 ([]) ([]) ([]) false false)).tk.wd).length) cc17, .bool ((progGet (progPut 0 0 0 0 ([]) ([]) ([]) false false)).tk.mrk), .bool ((progGet (progPut 0 0 0 0 ([]) ([]) ([]) false false)).tk.lg)] rb_36 ti_36 rfl ((Rd.obj hh.at0 0).take 9) rfl rfl he fun a he => ?_
      exact aqe he) fun a he => ?_
  refine aha1 (i := 11) (by kernel_rfl) ?_
  refine aop rfl ?_
  refine gy rfl he rfl ?_
  refine cal cb_13 rfl (prog_May _ _ _ ((progGet (progPut 0 0 0 0 ([]) ([]) ([]) false false)).ph) ((progGet (progPut 0 0 0 0 ([]) ([]) ([]) false false)).fl) ((progGet (progPut 0 0 0 0 ([]) ([]) ([]) false false)).of_) ((progGet (progPut 0 0 0 0 ([]) ([]) ([]) false false)).nx) A12 cc13 ((progGet (progPut 0 0 0 0 ([]) ([]) ([]) false false)).rs) A14 cc15 ((progGet (progPut 0 0 0 0 ([]) ([]) ([]) false false)).tk.pd) A16 cc17 ((progGet (progPut 0 0 0 0 ([]) ([]) ([]) false false)).tk.wd) ((progGet (progPut 0 0 0 0 ([]) ([]) ([]) false false)).tk.mrk) ((progGet (progPut 0 0 0 0 ([]) ([]) ([]) false false)).tk.lg) hh hf18 hc19 hf20 hc21 hf22 hc23 (by decide +kernel) (by decide +kernel) (by decide +kernel) (fun c hc => by revert c; decide +kernel)) rfl he fun v a W hp he => ?_
  obtain ⟨I30, rfl, hl31, hh⟩ := hp
  refine aen ⟨_, _, hl31, hh⟩ ?_
  refine ahp (d := 23) (v := .bool (mayN ((progGet (progPut 0 0 0 0 ([]) ([]) ([]) false false)).ph) ((progGet (progPut 0 0 0 0 ([]) ([]) ([]) false false)).fl) ((progGet (progPut 0 0 0 0 ([]) ([]) ([]) false false)).of_) ((progGet (progPut 0 0 0 0 ([]) ([]) ([]) false false)).nx) ((progGet (progPut 0 0 0 0 ([]) ([]) ([]) false false)).rs) ((progGet (progPut 0 0 0 0 ([]) ([]) ([]) false false)).tk.pd) ((progGet (progPut 0 0 0 0 ([]) ([]) ([]) false false)).tk.wd) ((progGet (progPut 0 0 0 0 ([]) ([]) ([]) false false)).tk.mrk) ((progGet (progPut 0 0 0 0 ([]) ([]) ([]) false false)).tk.lg))) 12 rfl (by kernel_rfl) (by kernel_rfl) (by kernel_rfl) rfl rfl rfl he ⟨_, _, hl31, hh⟩ (fun W hS => by
      refine pkt rfl rfl rfl he fun a he => ?_
      exact aqe he) fun a he => ?_
  refine ahp (d := 24) (v := .bool (mayN ((progGet (progPut 0 0 0 0 ([]) ([]) ([]) false false)).ph) ((progGet (progPut 0 0 0 0 ([]) ([]) ([]) false false)).fl) ((progGet (progPut 0 0 0 0 ([]) ([]) ([]) false false)).of_) ((progGet (progPut 0 0 0 0 ([]) ([]) ([]) false false)).nx) ((progGet (progPut 0 0 0 0 ([]) ([]) ([]) false false)).rs) ((progGet (progPut 0 0 0 0 ([]) ([]) ([]) false false)).tk.pd) ((progGet (progPut 0 0 0 0 ([]) ([]) ([]) false false)).tk.wd) ((progGet (progPut 0 0 0 0 ([]) ([]) ([]) false false)).tk.mrk) ((progGet (progPut 0 0 0 0 ([]) ([]) ([]) false false)).tk.lg))) 13 rfl (by kernel_rfl) (by kernel_rfl) (by kernel_rfl) rfl rfl rfl he ⟨_, _, hl31, hh⟩ (fun W hS => by
      refine mv rfl rfl he fun a he => ?_
      exact aqe he) fun a he => ?_
  replace he := he.be (t := 24) (v' := .bool true) rfl (by exact congrArg Value.bool (by decide +kernel))
  refine aha1 (i := 14) (by kernel_rfl) ?_
  refine aop rfl ?_
  refine gy rfl he rfl ?_
  refine cal cb_16 rfl (prog_Name _ _ _ 12 hh (by decide) (.inl (by decide))) rfl he fun v a W hp he => ?_
  obtain ⟨rfl, hh⟩ := hp
  refine aen ⟨_, _, hl31, hh⟩ ?_
  refine ahp (d := 26) (v := .bool (decide ((nameN 12) = (⟨#[114, 117, 110, 45, 49, 50]⟩ : ByteArray)))) 15 rfl (by kernel_rfl) (by kernel_rfl) (by kernel_rfl) rfl rfl rfl he ⟨_, _, hl31, hh⟩ (fun W hS => by
      refine gy rfl he rfl ?_
      refine seq' rfl rfl rfl he fun a he => ?_
      exact aqe he) fun a he => ?_
  refine ahp (d := 27) (v := .bool (decide ((nameN 12) = (⟨#[114, 117, 110, 45, 49, 50]⟩ : ByteArray)))) 16 rfl (by kernel_rfl) (by kernel_rfl) (by kernel_rfl) rfl rfl rfl he ⟨_, _, hl31, hh⟩ (fun W hS => by
      refine pkt rfl rfl rfl he fun a he => ?_
      exact aqe he) fun a he => ?_
  refine ahp (d := 0) (v := .bool (decide ((nameN 12) = (⟨#[114, 117, 110, 45, 49, 50]⟩ : ByteArray)))) 17 rfl (by kernel_rfl) (by kernel_rfl) (by kernel_rfl) rfl rfl rfl he ⟨_, _, hl31, hh⟩ (fun W hS => by
      refine asg rfl rfl he fun a he => ?_
      exact aqe he) fun a he => ?_
  refine ahd (by kernel_rfl) ?_
  refine en ?_
  refine rt ?_
  refine rets1 Tryd.results8 he rfl (Ret.mk ?_)
  replace hh := hh.drop
  replace hh := hh.drop
  exact ⟨I30, congrArg Value.bool (decide_eq_true (by decide +kernel)), (((hl2.trans hl7).trans hl11).trans hl31), hh⟩

end Go.Proofs.YtndaogkpgoimlaaDoor

/- Walks through the given program's functions, printed op by op by this session's own program; what each computes is told by the plain functions of the texts S... -/
import Derived.Test.YtndaogkpgoimlaaB2
import Derived.Test.YtndaogkpgoimlaaS3
import Derived.KernelRfl
namespace Go.Proofs.Ytndaogkpgoimlaa
open Go Go.RowKit K
set_option linter.unusedVariables false
theorem cb_19 : callable Try.prog 19 = true := by kernel_rfl
theorem cb_20 : callable Try.prog 20 = true := by kernel_rfl
theorem cb_21 : callable Try.prog 21 = true := by kernel_rfl
theorem cb_23 : callable Try.prog 23 = true := by kernel_rfl
theorem cb_26 : callable Try.prog 26 = true := by kernel_rfl
theorem cb_29 : callable Try.prog 29 = true := by kernel_rfl
theorem cb_31 : callable Try.prog 31 = true := by kernel_rfl
theorem cb_33 : callable Try.prog 33 = true := by kernel_rfl
theorem cb_9 : callable Try.prog 9 = true := by kernel_rfl
theorem fo_30_0 : fieldOff Try.prog 30 0 = some 0 := by kernel_rfl
theorem fo_30_1 : fieldOff Try.prog 30 1 = some 1 := by kernel_rfl
theorem rb_22 : isRowB Try.prog 22 = some false := by kernel_rfl
theorem rb_30 : isRowB Try.prog 30 = some true := by kernel_rfl
theorem rb_31 : isRowB Try.prog 31 = some false := by kernel_rfl
theorem ti_22 : TI Try.prog 22 (.slice none 0 0) 1 24 := ⟨by kernel_rfl, rfl⟩
theorem ti_30 : TI Try.prog 30 (.agg #[.slice none 0 0, .slice none 0 0, .bool false, .bool false]) 4 56 := ⟨by kernel_rfl, rfl⟩
theorem ti_31 : TI Try.prog 31 (.int .i64 0) 1 8 := ⟨by kernel_rfl, rfl⟩
theorem ud_3 : (Try.prog.underlying 3).isSome = true := by kernel_rfl
theorem token_Feed (I : Snap) (L : List Ch) (W : World) (A_pd : Option Addr) (c_pd : Nat) (pd : List UInt8) (A_wd : Option Addr) (c_wd : Nat) (wd : List Int) (mk : Bool) (lg : Bool) (A_k : Option Addr) (c_k : Nat) (k : List UInt8) (hh : Hp I L W) (h_pd : Fz I A_pd (pd.map b8)) (k_pd : pd.length ≤ c_pd) (h_wd : Fz I A_wd (wd.map r32)) (k_wd : wd.length ≤ c_wd) (h_k : Fz I A_k (k.map b8)) (k_k : k.length ≤ c_k) (hb : pd.length + k.length ≤ 1000000000000) (hb2 : wd.length ≤ 1000000000000) :
    Calls Try.prog 14 #[.agg #[.slice A_pd pd.length c_pd, .slice A_wd wd.length c_wd, .bool mk, .bool lg], .slice A_k k.length c_k] W (Ret fun v W => ∃ (I' : Snap) (A1 : Option Addr) (c1 : Nat) (A2 : Option Addr) (c2 : Nat) (A3 : Option Addr) (c3 : Nat), v = .tuple #[.slice A1 ((feedW (wd, mk, lg) (utfFeed pd k).1).1).length c1, .agg #[.slice A2 ((utfFeed pd k).2).length c2, .slice A3 ((feedW (wd, mk, lg) (utfFeed pd k).1).2.1).length c3, .bool ((feedW (wd, mk, lg) (utfFeed pd k).1).2.2.1), .bool ((feedW (wd, mk, lg) (utfFeed pd k).1).2.2.2)]] ∧ I.le I' ∧ Fz I' A2 (((utfFeed pd k).2).map b8) ∧ ((utfFeed pd k).2).length ≤ c2 ∧ Fz I' A3 (((feedW (wd, mk, lg) (utfFeed pd k).1).2.1).map r32) ∧ ((feedW (wd, mk, lg) (utfFeed pd k).1).2.1).length ≤ c3 ∧ Hp I' (.row A1 ((feedW (wd, mk, lg) (utfFeed pd k).1).1).length c1 9 1 (((feedW (wd, mk, lg) (utfFeed pd k).1).1).map str1) :: L) W) := by
  refine enter Try.func14 rfl Try.ntmps14 rfl fun a he => ?_
  refine sq ?_
  refine rg ?_
  refine bx #[.slice A_pd pd.length c_pd, .slice A_wd wd.length c_wd, .bool mk, .bool lg] rfl rfl rfl he hh fun bb1 a W he hh => ?_
  replace hh : Hp I (.obj bb1 (.cells [.slice A_pd pd.length c_pd, .slice A_wd wd.length c_wd, .bool mk, .bool lg].toArray 30) :: _) W := hh
  refine asg rfl rfl he fun a he => ?_
  refine al ti_30 rfl he hh fun bb2 a W he hh => ?_
  replace hh : Hp I (.obj bb2 (.cells [.slice none 0 0, .slice none 0 0, .bool false, .bool false].toArray 30) :: _) W := hh
  refine en ?_
  refine sq ?_
  refine rg ?_
  refine fa fo_30_0 rfl rfl he fun a he => ?_
  refine ld rb_22 rfl (ocell hh.at1 rfl) rfl he fun a he => ?_
  refine mv rfl rfl he fun a he => ?_
  refine cal cb_29 rfl (utf_Feed _ _ _ A_pd c_pd pd A_k c_k k hh h_pd k_pd h_k k_k hb) rfl he fun v a W hp he => ?_
  obtain ⟨I3, A5, cc6, A7, cc8, rfl, hl4, hf9, hc10, hh⟩ := hp
  refine mv rfl rfl he fun a he => ?_
  refine xt rfl rfl rfl he fun a he => ?_
  refine xt rfl rfl rfl he fun a he => ?_
  refine asg rfl rfl he fun a he => ?_
  refine asg rfl rfl he fun a he => ?_
  refine en ?_
  refine sq ?_
  refine rg ?_
  refine fa fo_30_1 rfl rfl he fun a he => ?_
  refine ldA [.slice A_wd wd.length c_wd, .bool mk, .bool lg] rb_28 ti_28 rfl ((Rd.obj hh.at2 1).take 3) rfl rfl he fun a he => ?_
  refine mv rfl rfl he fun a he => ?_
  have hc15 := (Ch.rowcap hh.at0).1
  obtain ⟨I12, hl13, hh, hf14⟩ := hh.freezeRow
  refine cal cb_30 rfl (words_Feed _ _ _ A_wd c_wd wd mk lg A5 cc6 ((utfFeed pd k).1) hh (h_wd.up (hl4.trans hl13)) k_wd hf14 hc15 hb2 (by have := utfFeed_len pd k; omega)) rfl he fun v a W hp he => ?_
  obtain ⟨I16, A18, cc19, A20, cc21, rfl, hl17, hf22, hc23, hh⟩ := hp
  refine mv rfl rfl he fun a he => ?_
  refine xt rfl rfl rfl he fun a he => ?_
  refine xt rfl rfl rfl he fun a he => ?_
  refine al ti_28 rfl he hh fun bb25 a W he hh => ?_
  replace hh : Hp I16 (.obj bb25 (.cells [.slice none 0 0, .bool false, .bool false].toArray 28) :: _) W := hh
  refine asg rfl rfl he fun a he => ?_
  refine st #[.slice A20 (((feedW (wd, mk, lg) ((utfFeed pd k).1)).2.1).length) cc21, .bool ((feedW (wd, mk, lg) ((utfFeed pd k).1)).2.2.1), .bool ((feedW (wd, mk, lg) ((utfFeed pd k).1)).2.2.2)] ti_28 rfl rfl rfl rfl (by simp [Value.oneCell']) (by simp) he hh fun W hh => ?_
  replace hh : Hp I16 (.obj bb25 (.cells [.slice A20 (((feedW (wd, mk, lg) ((utfFeed pd k).1)).2.1).length) cc21, .bool ((feedW (wd, mk, lg) ((utfFeed pd k).1)).2.2.1), .bool ((feedW (wd, mk, lg) ((utfFeed pd k).1)).2.2.2)].toArray 28) :: _) W := hh
  refine en ?_
  refine sq ?_
  replace hh := hh.up3
  replace hh := hh.up1
  refine rgd (SH I16 [.obj bb25 (.cells ([.slice A20 (((feedW (wd, mk, lg) ((utfFeed pd k).1)).2.1).length) cc21, .bool ((feedW (wd, mk, lg) ((utfFeed pd k).1)).2.2.1), .bool ((feedW (wd, mk, lg) ((utfFeed pd k).1)).2.2.2)]).toArray 28), .obj bb1 (.cells ([.slice A_pd pd.length c_pd, .slice A_wd wd.length c_wd, .bool mk, .bool lg]).toArray 30)]) 6 mixo rfl hh fun W hh => ?_
  replace hh := hh.up1
  replace hh := hh.up1
  refine ahp (d := 24) (v := .slice A18 (((feedW (wd, mk, lg) ((utfFeed pd k).1)).1).length) cc19) 0 rfl (by kernel_rfl) (by kernel_rfl) (by kernel_rfl) rfl rfl rfl he ⟨_, _, (Snap.le.refl _), hh⟩ (fun W hS => by
      refine mv rfl rfl he fun a he => ?_
      exact aqe he) fun a he => ?_
  replace hh := hh.up1
  replace hh := hh.up1
  refine ahp (d := 25) (v := .slice A7 (((utfFeed pd k).2).length) cc8) 1 rfl (by kernel_rfl) (by kernel_rfl) (by kernel_rfl) rfl rfl rfl he ⟨_, _, (Snap.le.refl _), hh⟩ (fun W hS => by
      refine mv rfl rfl he fun a he => ?_
      exact aqe he) fun a he => ?_
  replace hh := hh.up1
  replace hh := hh.up1
  refine ahp (d := 26) (v := .agg #[.slice A20 (((feedW (wd, mk, lg) ((utfFeed pd k).1)).2.1).length) cc21, .bool ((feedW (wd, mk, lg) ((utfFeed pd k).1)).2.2.1), .bool ((feedW (wd, mk, lg) ((utfFeed pd k).1)).2.2.2)]) 2 rfl (by kernel_rfl) (by kernel_rfl) (by kernel_rfl) rfl rfl rfl he ⟨_, _, (Snap.le.refl _), hh⟩ (fun W hS => by
      obtain ⟨I26, _, hleI26, hh⟩ := hS
      refine ldA [.slice A20 (((feedW (wd, mk, lg) ((utfFeed pd k).1)).2.1).length) cc21, .bool ((feedW (wd, mk, lg) ((utfFeed pd k).1)).2.2.1), .bool ((feedW (wd, mk, lg) ((utfFeed pd k).1)).2.2.2)] rb_28 ti_28 rfl ((Rd.obj hh.at0 0).take 3) rfl rfl he fun a he => ?_
      exact aqe he) fun a he => ?_
  replace hh := hh.up1
  replace hh := hh.up1
  refine ahp (d := 27) (v := .agg #[.slice A7 (((utfFeed pd k).2).length) cc8, .slice A20 (((feedW (wd, mk, lg) ((utfFeed pd k).1)).2.1).length) cc21, .bool ((feedW (wd, mk, lg) ((utfFeed pd k).1)).2.2.1), .bool ((feedW (wd, mk, lg) ((utfFeed pd k).1)).2.2.2)]) 3 rfl (by kernel_rfl) (by kernel_rfl) (by kernel_rfl) rfl rfl rfl he ⟨_, _, (Snap.le.refl _), hh⟩ (fun W hS => by
      refine bld #[.slice A7 (((utfFeed pd k).2).length) cc8, .slice A20 (((feedW (wd, mk, lg) ((utfFeed pd k).1)).2.1).length) cc21, .bool ((feedW (wd, mk, lg) ((utfFeed pd k).1)).2.2.1), .bool ((feedW (wd, mk, lg) ((utfFeed pd k).1)).2.2.2)] rfl (by kernel_rfl) rfl he fun a he => ?_
      exact aqe he) fun a he => ?_
  replace hh := hh.up1
  replace hh := hh.up1
  refine ahp (d := 4) (v := .slice A18 (((feedW (wd, mk, lg) ((utfFeed pd k).1)).1).length) cc19) 4 rfl (by kernel_rfl) (by kernel_rfl) (by kernel_rfl) rfl rfl rfl he ⟨_, _, (Snap.le.refl _), hh⟩ (fun W hS => by
      refine asg rfl rfl he fun a he => ?_
      exact aqe he) fun a he => ?_
  refine aha1 (i := 5) (by kernel_rfl) ?_
  refine aop rfl ?_
  replace hh := hh.up3
  refine st #[.slice A7 (((utfFeed pd k).2).length) cc8, .slice A20 (((feedW (wd, mk, lg) ((utfFeed pd k).1)).2.1).length) cc21, .bool ((feedW (wd, mk, lg) ((utfFeed pd k).1)).2.2.1), .bool ((feedW (wd, mk, lg) ((utfFeed pd k).1)).2.2.2)] ti_30 rfl rfl rfl rfl (by simp [Value.oneCell']) (by simp) he hh fun W hh => ?_
  replace hh : Hp I16 (.obj bb2 (.cells [.slice A7 (((utfFeed pd k).2).length) cc8, .slice A20 (((feedW (wd, mk, lg) ((utfFeed pd k).1)).2.1).length) cc21, .bool ((feedW (wd, mk, lg) ((utfFeed pd k).1)).2.2.1), .bool ((feedW (wd, mk, lg) ((utfFeed pd k).1)).2.2.2)].toArray 30) :: _) W := hh
  replace hh := hh.up2
  replace hh := hh.up2
  refine aen ⟨_, _, (Snap.le.refl _), hh⟩ ?_
  refine ahd (by kernel_rfl) ?_
  refine en ?_
  refine rt ?_
  refine retsTC Try.results14 he rfl (loadVar_run rb_30 ti_30 ((Rd.obj hh.at2 0).take 4) rfl) rfl (Ret.mk ?_)
  replace hh := hh.drop
  replace hh := hh.drop
  replace hh := hh.drop
  exact ⟨I16, A18, cc19, A7, cc8, A20, cc21, rfl, ((hl4.trans hl13).trans hl17), (hf9.up (hl13.trans hl17)), hc10, hf22, hc23, hh⟩

theorem token_End (I : Snap) (L : List Ch) (W : World) (A_pd : Option Addr) (c_pd : Nat) (pd : List UInt8) (A_wd : Option Addr) (c_wd : Nat) (wd : List Int) (mk : Bool) (lg : Bool) (hh : Hp I L W) (h_pd : Fz I A_pd (pd.map b8)) (k_pd : pd.length ≤ c_pd) (h_wd : Fz I A_wd (wd.map r32)) (k_wd : wd.length ≤ c_wd) (hb : pd.length ≤ 1000000000000) (hb2 : wd.length ≤ 1000000000000) :
    Calls Try.prog 15 #[.agg #[.slice A_pd pd.length c_pd, .slice A_wd wd.length c_wd, .bool mk, .bool lg]] W (Ret fun v W => ∃ (I' : Snap) (A1 : Option Addr) (c1 : Nat), v = .slice A1 ((feedW (wd, mk, lg) (utfAll pd)).1 ++ flushW (feedW (wd, mk, lg) (utfAll pd)).2.1 (feedW (wd, mk, lg) (utfAll pd)).2.2.2).length c1 ∧ I.le I' ∧ Hp I' (.row A1 ((feedW (wd, mk, lg) (utfAll pd)).1 ++ flushW (feedW (wd, mk, lg) (utfAll pd)).2.1 (feedW (wd, mk, lg) (utfAll pd)).2.2.2).length c1 9 1 (((feedW (wd, mk, lg) (utfAll pd)).1 ++ flushW (feedW (wd, mk, lg) (utfAll pd)).2.1 (feedW (wd, mk, lg) (utfAll pd)).2.2.2).map str1) :: L) W) := by
  refine enter Try.func15 rfl Try.ntmps15 rfl fun a he => ?_
  refine sq ?_
  refine rg ?_
  refine bx #[.slice A_pd pd.length c_pd, .slice A_wd wd.length c_wd, .bool mk, .bool lg] rfl rfl rfl he hh fun bb1 a W he hh => ?_
  replace hh : Hp I (.obj bb1 (.cells [.slice A_pd pd.length c_pd, .slice A_wd wd.length c_wd, .bool mk, .bool lg].toArray 30) :: _) W := hh
  refine asg rfl rfl he fun a he => ?_
  refine en ?_
  refine sq ?_
  refine rgd (SH I [.obj bb1 (.cells ([.slice A_pd pd.length c_pd, .slice A_wd wd.length c_wd, .bool mk, .bool lg]).toArray 30)]) 12 mixo rfl hh fun W hh => ?_
  refine ahp (d := 6) (v := .pointer (some ⟨bb1, 1, none⟩)) 0 rfl (by kernel_rfl) (by kernel_rfl) (by kernel_rfl) rfl rfl rfl he ⟨_, _, (Snap.le.refl _), hh⟩ (fun W hS => by
      refine fa fo_30_1 rfl rfl he fun a he => ?_
      exact aqe he) fun a he => ?_
  refine ahp (d := 7) (v := .agg #[.slice A_wd wd.length c_wd, .bool mk, .bool lg]) 1 rfl (by kernel_rfl) (by kernel_rfl) (by kernel_rfl) rfl rfl rfl he ⟨_, _, (Snap.le.refl _), hh⟩ (fun W hS => by
      obtain ⟨I2, _, hleI2, hh⟩ := hS
      refine ldA [.slice A_wd wd.length c_wd, .bool mk, .bool lg] rb_28 ti_28 rfl ((Rd.obj hh.at0 1).take 3) rfl rfl he fun a he => ?_
      exact aqe he) fun a he => ?_
  refine ahp (d := 8) (v := .pointer (some ⟨bb1, 0, none⟩)) 2 rfl (by kernel_rfl) (by kernel_rfl) (by kernel_rfl) rfl rfl rfl he ⟨_, _, (Snap.le.refl _), hh⟩ (fun W hS => by
      refine fa fo_30_0 rfl rfl he fun a he => ?_
      exact aqe he) fun a he => ?_
  refine ahp (d := 9) (v := .slice A_pd pd.length c_pd) 3 rfl (by kernel_rfl) (by kernel_rfl) (by kernel_rfl) rfl rfl rfl he ⟨_, _, (Snap.le.refl _), hh⟩ (fun W hS => by
      obtain ⟨I3, _, hleI3, hh⟩ := hS
      refine ld rb_22 rfl (ocell hh.at0 rfl) rfl he fun a he => ?_
      exact aqe he) fun a he => ?_
  refine aha2 (i := 4) (j := 9) (by kernel_rfl) ?_ ?_
  · refine aop rfl ?_
    refine cal cb_31 rfl (utf_End _ _ _ A_pd c_pd pd hh h_pd k_pd hb) rfl he fun v a W hp he => ?_
    obtain ⟨A4, cc5, rfl, hh⟩ := hp
    replace hh := hh.up1
    refine aen ⟨_, _, (Snap.le.refl _), hh⟩ ?_
    refine aha2 (i := 5) (j := 9) (by kernel_rfl) ?_ ?_
    · refine aop rfl ?_
      replace hh := hh.up1
      have hc10 := (Ch.rowcap hh.at0).1
      obtain ⟨I7, hl8, hh, hf9⟩ := hh.freezeRow
      refine cal cb_30 rfl (words_Feed _ _ _ A_wd c_wd wd mk lg A4 cc5 (utfAll pd) hh (h_wd.up hl8) k_wd hf9 hc10 hb2 (by have := utfAll_len pd; omega)) rfl he fun v a W hp he => ?_
      obtain ⟨I11, A13, cc14, A15, cc16, rfl, hl12, hf17, hc18, hh⟩ := hp
      replace hh := hh.up1
      refine aen ⟨_, _, (hl8.trans hl12), hh⟩ ?_
      refine ahp (d := 5) (v := .tuple #[.slice A13 (((feedW (wd, mk, lg) (utfAll pd)).1).length) cc14, .agg #[.slice A15 (((feedW (wd, mk, lg) (utfAll pd)).2.1).length) cc16, .bool ((feedW (wd, mk, lg) (utfAll pd)).2.2.1), .bool ((feedW (wd, mk, lg) (utfAll pd)).2.2.2)]]) 6 rfl (by kernel_rfl) (by kernel_rfl) (by kernel_rfl) rfl rfl rfl he ⟨_, _, (hl8.trans hl12), hh⟩ (fun W hS => by
          refine mv rfl rfl he fun a he => ?_
          exact aqe he) fun a he => ?_
      refine ahp (d := 12) (v := .slice A13 (((feedW (wd, mk, lg) (utfAll pd)).1).length) cc14) 7 rfl (by kernel_rfl) (by kernel_rfl) (by kernel_rfl) rfl rfl rfl he ⟨_, _, (hl8.trans hl12), hh⟩ (fun W hS => by
          refine xt rfl rfl rfl he fun a he => ?_
          exact aqe he) fun a he => ?_
      refine ahp (d := 13) (v := .agg #[.slice A15 (((feedW (wd, mk, lg) (utfAll pd)).2.1).length) cc16, .bool ((feedW (wd, mk, lg) (utfAll pd)).2.2.1), .bool ((feedW (wd, mk, lg) (utfAll pd)).2.2.2)]) 8 rfl (by kernel_rfl) (by kernel_rfl) (by kernel_rfl) rfl rfl rfl he ⟨_, _, (hl8.trans hl12), hh⟩ (fun W hS => by
          refine xt rfl rfl rfl he fun a he => ?_
          exact aqe he) fun a he => ?_
      refine aha1 (i := 9) (by kernel_rfl) ?_
      refine aop rfl ?_
      refine al ti_28 rfl he hh fun bb20 a W he hh => ?_
      replace hh : Hp I11 (.obj bb20 (.cells [.slice none 0 0, .bool false, .bool false].toArray 28) :: _) W := hh
      replace hh := hh.up1
      refine aen ⟨_, _, (hl8.trans hl12), hh⟩ ?_
      refine ahp (d := 3) (v := .slice A13 (((feedW (wd, mk, lg) (utfAll pd)).1).length) cc14) 10 rfl (by kernel_rfl) (by kernel_rfl) (by kernel_rfl) rfl rfl rfl he ⟨_, _, (hl8.trans hl12), hh⟩ (fun W hS => by
          refine asg rfl rfl he fun a he => ?_
          exact aqe he) fun a he => ?_
      refine aha1 (i := 11) (by kernel_rfl) ?_
      refine aop rfl ?_
      replace hh := hh.up1
      refine st #[.slice A15 (((feedW (wd, mk, lg) (utfAll pd)).2.1).length) cc16, .bool ((feedW (wd, mk, lg) (utfAll pd)).2.2.1), .bool ((feedW (wd, mk, lg) (utfAll pd)).2.2.2)] ti_28 rfl rfl rfl rfl (by simp [Value.oneCell']) (by simp) he hh fun W hh => ?_
      replace hh : Hp I11 (.obj bb20 (.cells [.slice A15 (((feedW (wd, mk, lg) (utfAll pd)).2.1).length) cc16, .bool ((feedW (wd, mk, lg) (utfAll pd)).2.2.1), .bool ((feedW (wd, mk, lg) (utfAll pd)).2.2.2)].toArray 28) :: _) W := hh
      replace hh := hh.up1
      refine aen ⟨_, _, (hl8.trans hl12), hh⟩ ?_
      refine ahd (by kernel_rfl) ?_
      refine en ?_
      refine sq ?_
      refine rg ?_
      refine mv rfl rfl he fun a he => ?_
      refine ldA [.slice A15 (((feedW (wd, mk, lg) (utfAll pd)).2.1).length) cc16, .bool ((feedW (wd, mk, lg) (utfAll pd)).2.2.1), .bool ((feedW (wd, mk, lg) (utfAll pd)).2.2.2)] rb_28 ti_28 rfl ((Rd.obj hh.at1 0).take 3) rfl rfl he fun a he => ?_
      refine cal cb_32 rfl (words_End _ _ _ A15 cc16 ((feedW (wd, mk, lg) (utfAll pd)).2.1) ((feedW (wd, mk, lg) (utfAll pd)).2.2.1) ((feedW (wd, mk, lg) (utfAll pd)).2.2.2) hh hf17 hc18) rfl he fun v a W hp he => ?_
      obtain ⟨A21, cc22, rfl, hh⟩ := hp
      replace hh := hh.up3
      refine ap ts_44 rfl rfl (Ch.rd hh.at1) (by simp) (one_map (fun _ => rfl) _) (by have h1 := feedW_len (wd, mk, lg) (utfAll pd); have h2 := flush_len (feedW (wd, mk, lg) (utfAll pd)).2.1 (feedW (wd, mk, lg) (utfAll pd)).2.2.2; have h3 := utfAll_len pd; omega) rfl he hh fun A24 cc25 a W he hh => ?_
      replace hh := hh.re (n' := (((feedW (wd, mk, lg) (utfAll pd)).1 ++ flushW ((feedW (wd, mk, lg) (utfAll pd)).2.1) ((feedW (wd, mk, lg) (utfAll pd)).2.2.2))).length) (cs' := (((feedW (wd, mk, lg) (utfAll pd)).1 ++ flushW ((feedW (wd, mk, lg) (utfAll pd)).2.1) ((feedW (wd, mk, lg) (utfAll pd)).2.2.2))).map str1) (by simp) (by simp [str1])
      replace he := he.be (t := 17) (v' := .slice A24 (((feedW (wd, mk, lg) (utfAll pd)).1 ++ flushW ((feedW (wd, mk, lg) (utfAll pd)).2.1) ((feedW (wd, mk, lg) (utfAll pd)).2.2.2))).length cc25) rfl (by congr 1; simp)
      refine asg rfl rfl he fun a he => ?_
      refine en ?_
      refine rt ?_
      refine rets1 Try.results15 he rfl (Ret.mk ?_)
      replace hh := hh.up1
      replace hh := hh.drop
      replace hh := hh.up1
      replace hh := hh.drop
      replace hh := hh.up1
      replace hh := hh.drop
      exact ⟨I11, A24, cc25, rfl, (hl8.trans hl12), hh⟩
    · refine aop rfl ?_
      refine al ti_28 rfl he hh fun bb27 a W he hh => ?_
      replace hh : Hp I (.obj bb27 (.cells [.slice none 0 0, .bool false, .bool false].toArray 28) :: _) W := hh
      replace hh := hh.up1
      refine aen ⟨_, _, (Snap.le.refl _), hh⟩ ?_
      refine aha1 (i := 5) (by kernel_rfl) ?_
      refine aop rfl ?_
      replace hh := hh.up2
      have hc31 := (Ch.rowcap hh.at0).1
      obtain ⟨I28, hl29, hh, hf30⟩ := hh.freezeRow
      refine cal cb_30 rfl (words_Feed _ _ _ A_wd c_wd wd mk lg A4 cc5 (utfAll pd) hh (h_wd.up hl29) k_wd hf30 hc31 hb2 (by have := utfAll_len pd; omega)) rfl he fun v a W hp he => ?_
      obtain ⟨I32, A34, cc35, A36, cc37, rfl, hl33, hf38, hc39, hh⟩ := hp
      replace hh := hh.up1
      refine aen ⟨_, _, (hl29.trans hl33), hh⟩ ?_
      refine ahp (d := 5) (v := .tuple #[.slice A34 (((feedW (wd, mk, lg) (utfAll pd)).1).length) cc35, .agg #[.slice A36 (((feedW (wd, mk, lg) (utfAll pd)).2.1).length) cc37, .bool ((feedW (wd, mk, lg) (utfAll pd)).2.2.1), .bool ((feedW (wd, mk, lg) (utfAll pd)).2.2.2)]]) 6 rfl (by kernel_rfl) (by kernel_rfl) (by kernel_rfl) rfl rfl rfl he ⟨_, _, (hl29.trans hl33), hh⟩ (fun W hS => by
          refine mv rfl rfl he fun a he => ?_
          exact aqe he) fun a he => ?_
      refine ahp (d := 12) (v := .slice A34 (((feedW (wd, mk, lg) (utfAll pd)).1).length) cc35) 7 rfl (by kernel_rfl) (by kernel_rfl) (by kernel_rfl) rfl rfl rfl he ⟨_, _, (hl29.trans hl33), hh⟩ (fun W hS => by
          refine xt rfl rfl rfl he fun a he => ?_
          exact aqe he) fun a he => ?_
      refine ahp (d := 13) (v := .agg #[.slice A36 (((feedW (wd, mk, lg) (utfAll pd)).2.1).length) cc37, .bool ((feedW (wd, mk, lg) (utfAll pd)).2.2.1), .bool ((feedW (wd, mk, lg) (utfAll pd)).2.2.2)]) 8 rfl (by kernel_rfl) (by kernel_rfl) (by kernel_rfl) rfl rfl rfl he ⟨_, _, (hl29.trans hl33), hh⟩ (fun W hS => by
          refine xt rfl rfl rfl he fun a he => ?_
          exact aqe he) fun a he => ?_
      refine ahp (d := 3) (v := .slice A34 (((feedW (wd, mk, lg) (utfAll pd)).1).length) cc35) 10 rfl (by kernel_rfl) (by kernel_rfl) (by kernel_rfl) rfl rfl rfl he ⟨_, _, (hl29.trans hl33), hh⟩ (fun W hS => by
          refine asg rfl rfl he fun a he => ?_
          exact aqe he) fun a he => ?_
      refine aha1 (i := 11) (by kernel_rfl) ?_
      refine aop rfl ?_
      replace hh := hh.up2
      refine st #[.slice A36 (((feedW (wd, mk, lg) (utfAll pd)).2.1).length) cc37, .bool ((feedW (wd, mk, lg) (utfAll pd)).2.2.1), .bool ((feedW (wd, mk, lg) (utfAll pd)).2.2.2)] ti_28 rfl rfl rfl rfl (by simp [Value.oneCell']) (by simp) he hh fun W hh => ?_
      replace hh : Hp I32 (.obj bb27 (.cells [.slice A36 (((feedW (wd, mk, lg) (utfAll pd)).2.1).length) cc37, .bool ((feedW (wd, mk, lg) (utfAll pd)).2.2.1), .bool ((feedW (wd, mk, lg) (utfAll pd)).2.2.2)].toArray 28) :: _) W := hh
      replace hh := hh.up1
      refine aen ⟨_, _, (hl29.trans hl33), hh⟩ ?_
      refine ahd (by kernel_rfl) ?_
      refine en ?_
      refine sq ?_
      refine rg ?_
      refine mv rfl rfl he fun a he => ?_
      refine ldA [.slice A36 (((feedW (wd, mk, lg) (utfAll pd)).2.1).length) cc37, .bool ((feedW (wd, mk, lg) (utfAll pd)).2.2.1), .bool ((feedW (wd, mk, lg) (utfAll pd)).2.2.2)] rb_28 ti_28 rfl ((Rd.obj hh.at1 0).take 3) rfl rfl he fun a he => ?_
      refine cal cb_32 rfl (words_End _ _ _ A36 cc37 ((feedW (wd, mk, lg) (utfAll pd)).2.1) ((feedW (wd, mk, lg) (utfAll pd)).2.2.1) ((feedW (wd, mk, lg) (utfAll pd)).2.2.2) hh hf38 hc39) rfl he fun v a W hp he => ?_
      obtain ⟨A41, cc42, rfl, hh⟩ := hp
      replace hh := hh.up3
      refine ap ts_44 rfl rfl (Ch.rd hh.at1) (by simp) (one_map (fun _ => rfl) _) (by have h1 := feedW_len (wd, mk, lg) (utfAll pd); have h2 := flush_len (feedW (wd, mk, lg) (utfAll pd)).2.1 (feedW (wd, mk, lg) (utfAll pd)).2.2.2; have h3 := utfAll_len pd; omega) rfl he hh fun A44 cc45 a W he hh => ?_
      replace hh := hh.re (n' := (((feedW (wd, mk, lg) (utfAll pd)).1 ++ flushW ((feedW (wd, mk, lg) (utfAll pd)).2.1) ((feedW (wd, mk, lg) (utfAll pd)).2.2.2))).length) (cs' := (((feedW (wd, mk, lg) (utfAll pd)).1 ++ flushW ((feedW (wd, mk, lg) (utfAll pd)).2.1) ((feedW (wd, mk, lg) (utfAll pd)).2.2.2))).map str1) (by simp) (by simp [str1])
      replace he := he.be (t := 17) (v' := .slice A44 (((feedW (wd, mk, lg) (utfAll pd)).1 ++ flushW ((feedW (wd, mk, lg) (utfAll pd)).2.1) ((feedW (wd, mk, lg) (utfAll pd)).2.2.2))).length cc45) rfl (by congr 1; simp)
      refine asg rfl rfl he fun a he => ?_
      refine en ?_
      refine rt ?_
      refine rets1 Try.results15 he rfl (Ret.mk ?_)
      replace hh := hh.up1
      replace hh := hh.drop
      replace hh := hh.up1
      replace hh := hh.drop
      replace hh := hh.up1
      replace hh := hh.drop
      exact ⟨I32, A44, cc45, rfl, (hl29.trans hl33), hh⟩
  · refine aop rfl ?_
    refine al ti_28 rfl he hh fun bb47 a W he hh => ?_
    replace hh : Hp I (.obj bb47 (.cells [.slice none 0 0, .bool false, .bool false].toArray 28) :: _) W := hh
    replace hh := hh.up1
    refine aen ⟨_, _, (Snap.le.refl _), hh⟩ ?_
    refine aha1 (i := 4) (by kernel_rfl) ?_
    refine aop rfl ?_
    refine cal cb_31 rfl (utf_End _ _ _ A_pd c_pd pd hh h_pd k_pd hb) rfl he fun v a W hp he => ?_
    obtain ⟨A48, cc49, rfl, hh⟩ := hp
    replace hh := hh.up1
    refine aen ⟨_, _, (Snap.le.refl _), hh⟩ ?_
    refine aha1 (i := 5) (by kernel_rfl) ?_
    refine aop rfl ?_
    replace hh := hh.up1
    have hc54 := (Ch.rowcap hh.at0).1
    obtain ⟨I51, hl52, hh, hf53⟩ := hh.freezeRow
    refine cal cb_30 rfl (words_Feed _ _ _ A_wd c_wd wd mk lg A48 cc49 (utfAll pd) hh (h_wd.up hl52) k_wd hf53 hc54 hb2 (by have := utfAll_len pd; omega)) rfl he fun v a W hp he => ?_
    obtain ⟨I55, A57, cc58, A59, cc60, rfl, hl56, hf61, hc62, hh⟩ := hp
    replace hh := hh.up1
    refine aen ⟨_, _, (hl52.trans hl56), hh⟩ ?_
    refine ahp (d := 5) (v := .tuple #[.slice A57 (((feedW (wd, mk, lg) (utfAll pd)).1).length) cc58, .agg #[.slice A59 (((feedW (wd, mk, lg) (utfAll pd)).2.1).length) cc60, .bool ((feedW (wd, mk, lg) (utfAll pd)).2.2.1), .bool ((feedW (wd, mk, lg) (utfAll pd)).2.2.2)]]) 6 rfl (by kernel_rfl) (by kernel_rfl) (by kernel_rfl) rfl rfl rfl he ⟨_, _, (hl52.trans hl56), hh⟩ (fun W hS => by
        refine mv rfl rfl he fun a he => ?_
        exact aqe he) fun a he => ?_
    refine ahp (d := 12) (v := .slice A57 (((feedW (wd, mk, lg) (utfAll pd)).1).length) cc58) 7 rfl (by kernel_rfl) (by kernel_rfl) (by kernel_rfl) rfl rfl rfl he ⟨_, _, (hl52.trans hl56), hh⟩ (fun W hS => by
        refine xt rfl rfl rfl he fun a he => ?_
        exact aqe he) fun a he => ?_
    refine ahp (d := 13) (v := .agg #[.slice A59 (((feedW (wd, mk, lg) (utfAll pd)).2.1).length) cc60, .bool ((feedW (wd, mk, lg) (utfAll pd)).2.2.1), .bool ((feedW (wd, mk, lg) (utfAll pd)).2.2.2)]) 8 rfl (by kernel_rfl) (by kernel_rfl) (by kernel_rfl) rfl rfl rfl he ⟨_, _, (hl52.trans hl56), hh⟩ (fun W hS => by
        refine xt rfl rfl rfl he fun a he => ?_
        exact aqe he) fun a he => ?_
    refine ahp (d := 3) (v := .slice A57 (((feedW (wd, mk, lg) (utfAll pd)).1).length) cc58) 10 rfl (by kernel_rfl) (by kernel_rfl) (by kernel_rfl) rfl rfl rfl he ⟨_, _, (hl52.trans hl56), hh⟩ (fun W hS => by
        refine asg rfl rfl he fun a he => ?_
        exact aqe he) fun a he => ?_
    refine aha1 (i := 11) (by kernel_rfl) ?_
    refine aop rfl ?_
    replace hh := hh.up2
    refine st #[.slice A59 (((feedW (wd, mk, lg) (utfAll pd)).2.1).length) cc60, .bool ((feedW (wd, mk, lg) (utfAll pd)).2.2.1), .bool ((feedW (wd, mk, lg) (utfAll pd)).2.2.2)] ti_28 rfl rfl rfl rfl (by simp [Value.oneCell']) (by simp) he hh fun W hh => ?_
    replace hh : Hp I55 (.obj bb47 (.cells [.slice A59 (((feedW (wd, mk, lg) (utfAll pd)).2.1).length) cc60, .bool ((feedW (wd, mk, lg) (utfAll pd)).2.2.1), .bool ((feedW (wd, mk, lg) (utfAll pd)).2.2.2)].toArray 28) :: _) W := hh
    replace hh := hh.up1
    refine aen ⟨_, _, (hl52.trans hl56), hh⟩ ?_
    refine ahd (by kernel_rfl) ?_
    refine en ?_
    refine sq ?_
    refine rg ?_
    refine mv rfl rfl he fun a he => ?_
    refine ldA [.slice A59 (((feedW (wd, mk, lg) (utfAll pd)).2.1).length) cc60, .bool ((feedW (wd, mk, lg) (utfAll pd)).2.2.1), .bool ((feedW (wd, mk, lg) (utfAll pd)).2.2.2)] rb_28 ti_28 rfl ((Rd.obj hh.at1 0).take 3) rfl rfl he fun a he => ?_
    refine cal cb_32 rfl (words_End _ _ _ A59 cc60 ((feedW (wd, mk, lg) (utfAll pd)).2.1) ((feedW (wd, mk, lg) (utfAll pd)).2.2.1) ((feedW (wd, mk, lg) (utfAll pd)).2.2.2) hh hf61 hc62) rfl he fun v a W hp he => ?_
    obtain ⟨A64, cc65, rfl, hh⟩ := hp
    replace hh := hh.up3
    refine ap ts_44 rfl rfl (Ch.rd hh.at1) (by simp) (one_map (fun _ => rfl) _) (by have h1 := feedW_len (wd, mk, lg) (utfAll pd); have h2 := flush_len (feedW (wd, mk, lg) (utfAll pd)).2.1 (feedW (wd, mk, lg) (utfAll pd)).2.2.2; have h3 := utfAll_len pd; omega) rfl he hh fun A67 cc68 a W he hh => ?_
    replace hh := hh.re (n' := (((feedW (wd, mk, lg) (utfAll pd)).1 ++ flushW ((feedW (wd, mk, lg) (utfAll pd)).2.1) ((feedW (wd, mk, lg) (utfAll pd)).2.2.2))).length) (cs' := (((feedW (wd, mk, lg) (utfAll pd)).1 ++ flushW ((feedW (wd, mk, lg) (utfAll pd)).2.1) ((feedW (wd, mk, lg) (utfAll pd)).2.2.2))).map str1) (by simp) (by simp [str1])
    replace he := he.be (t := 17) (v' := .slice A67 (((feedW (wd, mk, lg) (utfAll pd)).1 ++ flushW ((feedW (wd, mk, lg) (utfAll pd)).2.1) ((feedW (wd, mk, lg) (utfAll pd)).2.2.2))).length cc68) rfl (by congr 1; simp)
    refine asg rfl rfl he fun a he => ?_
    refine en ?_
    refine rt ?_
    refine rets1 Try.results15 he rfl (Ret.mk ?_)
    replace hh := hh.up1
    replace hh := hh.drop
    replace hh := hh.up1
    replace hh := hh.drop
    replace hh := hh.up1
    replace hh := hh.drop
    exact ⟨I55, A67, cc68, rfl, (hl52.trans hl56), hh⟩

theorem token_All (I : Snap) (L : List Ch) (W : World) (A_b : Option Addr) (c_b : Nat) (b : List UInt8) (hh : Hp I L W) (h_b : Fz I A_b (b.map b8)) (k_b : b.length ≤ c_b) (hb : b.length ≤ 1000000000000) :
    Calls Try.prog 17 #[.slice A_b b.length c_b] W (Ret fun v W => ∃ (I' : Snap) (A1 : Option Addr) (c1 : Nat), v = .slice A1 (allW (utfAll b)).length c1 ∧ I.le I' ∧ Hp I' (.row A1 (allW (utfAll b)).length c1 9 1 ((allW (utfAll b)).map str1) :: L) W) := by
  refine enter Try.func17 rfl Try.ntmps17 rfl fun a he => ?_
  refine sq ?_
  refine rg ?_
  refine asg rfl rfl he fun a he => ?_
  refine en ?_
  refine sq ?_
  refine rg ?_
  refine mv rfl rfl he fun a he => ?_
  refine cal cb_34 rfl (utf_All _ _ _ A_b c_b b hh h_b k_b hb) rfl he fun v a W hp he => ?_
  obtain ⟨A1, cc2, rfl, hh⟩ := hp
  have hc7 := (Ch.rowcap hh.at0).1
  obtain ⟨I4, hl5, hh, hf6⟩ := hh.freezeRow
  refine cal cb_33 rfl (words_All _ _ _ A1 cc2 (utfAll b) hh hf6 hc7 (by have := utfAll_len b; omega)) rfl he fun v a W hp he => ?_
  obtain ⟨I8, A10, cc11, rfl, hl9, hh⟩ := hp
  refine asg rfl rfl he fun a he => ?_
  refine en ?_
  refine rt ?_
  refine rets1 Try.results17 he rfl (Ret.mk ?_)
  exact ⟨I8, A10, cc11, rfl, (hl5.trans hl9), hh⟩

theorem token_Put (I : Snap) (L : List Ch) (W : World) (A_pd : Option Addr) (c_pd : Nat) (pd : List UInt8) (A_wd : Option Addr) (c_wd : Nat) (wd : List Int) (mk : Bool) (lg : Bool) (hh : Hp I L W) (h_pd : Fz I A_pd (pd.map b8)) (k_pd : pd.length ≤ c_pd) (h_wd : Fz I A_wd (wd.map r32)) (k_wd : wd.length ≤ c_wd) (hb : pd.length ≤ 100000000000) (hb2 : wd.length ≤ 10000000000) (hc : ∀ c ∈ wd, c < 4294967296) :
    Calls Try.prog 9 #[.agg #[.slice A_pd pd.length c_pd, .slice A_wd wd.length c_wd, .bool mk, .bool lg]] W (Ret fun v W => ∃ (I' : Snap) (A1 : Option Addr) (c1 : Nat), v = .slice A1 (tokPut pd wd mk lg).length c1 ∧ I.le I' ∧ Hp I' (.row A1 (tokPut pd wd mk lg).length c1 5 1 ((tokPut pd wd mk lg).map b8) :: L) W) := by
  refine enter Try.func9 rfl Try.ntmps9 rfl fun a he => ?_
  refine sq ?_
  refine rg ?_
  refine bx #[.slice A_pd pd.length c_pd, .slice A_wd wd.length c_wd, .bool mk, .bool lg] rfl rfl rfl he hh fun bb1 a W he hh => ?_
  replace hh : Hp I (.obj bb1 (.cells [.slice A_pd pd.length c_pd, .slice A_wd wd.length c_wd, .bool mk, .bool lg].toArray 30) :: _) W := hh
  refine asg rfl rfl he fun a he => ?_
  refine en ?_
  refine sq ?_
  refine rg ?_
  refine fa fo_30_0 rfl rfl he fun a he => ?_
  refine ld rb_22 rfl (ocell hh.at0 rfl) rfl he fun a he => ?_
  refine ln Try.underlying22 rfl rfl he fun a he => ?_
  refine ci ((pd.length : Nat) : Int) .u64 ud_3 Try.underlying51 rfl (wu64 (by omega) (by omega)) rfl he fun a he => ?_
  refine cal cb_26 rfl (num_Put _ _ _ none 0 [] pd.length hh (Fz.nil _ _) (Nat.le_refl _) (by simp) (by omega)) rfl he fun v a W hp he => ?_
  obtain ⟨A2, cc3, rfl, hh⟩ := hp
  refine asg rfl rfl he fun a he => ?_
  refine en ?_
  refine sq ?_
  refine rg ?_
  refine mv rfl rfl he fun a he => ?_
  refine fa fo_30_0 rfl rfl he fun a he => ?_
  refine ld rb_22 rfl (ocell hh.at1 rfl) rfl he fun a he => ?_
  refine ap ts_22 rfl rfl (h_pd.rd hh) (by simp) (one_map (fun _ => rfl) _) (by have h1 := putN_ten (n := pd.length) (by omega); simp only [List.nil_append, List.length_append]; omega) rfl he hh fun A5 cc6 a W he hh => ?_
  replace hh := hh.re (n' := ((([]) ++ putN pd.length ++ pd)).length) (cs' := ((([]) ++ putN pd.length ++ pd)).map b8) (by simp) (by first | (simp [b8]; done) | (simp [b8]; omega))
  replace he := he.be (t := 15) (v' := .slice A5 ((([]) ++ putN pd.length ++ pd)).length cc6) rfl (by congr 1; simp)
  refine asg rfl rfl he fun a he => ?_
  refine en ?_
  refine sq ?_
  refine rg ?_
  refine mv rfl rfl he fun a he => ?_
  refine fa fo_30_1 rfl rfl he fun a he => ?_
  refine fa fo_28_0 rfl rfl he fun a he => ?_
  refine ld rb_23 rfl (ocell hh.at1 rfl) rfl he fun a he => ?_
  refine ln Try.underlying23 rfl rfl he fun a he => ?_
  refine ci ((wd.length : Nat) : Int) .u64 ud_3 Try.underlying51 rfl (wu64 (by omega) (by omega)) rfl he fun a he => ?_
  have hc11 := (Ch.rowcap hh.at0).1
  obtain ⟨I8, hl9, hh, hf10⟩ := hh.freezeRow
  refine cal cb_26 rfl (num_Put _ _ _ A5 cc6 (([]) ++ putN pd.length ++ pd) wd.length hh hf10 hc11 (by have h1 := putN_ten (n := pd.length) (by omega); simp only [List.nil_append, List.length_append]; omega) (by omega)) rfl he fun v a W hp he => ?_
  obtain ⟨A12, cc13, rfl, hh⟩ := hp
  refine asg rfl rfl he fun a he => ?_
  refine en ?_
  refine sq ?_
  refine sq ?_
  refine rg ?_
  refine fa fo_30_1 rfl rfl he fun a he => ?_
  refine fa fo_28_0 rfl rfl he fun a he => ?_
  refine ld rb_23 rfl (ocell hh.at1 rfl) rfl he fun a he => ?_
  refine ln Try.underlying23 rfl rfl he fun a he => ?_
  refine mv rfl rfl he fun a he => ?_
  refine en ?_
  refine bk ?_
  replace hh := hh.up1
  replace hh := hh.up1
  refine lp (fun (s : Nat × List UInt8) a w => match s with | (i, pre) => ∃ (I15 : Snap) (A_3 : Option Addr) (c_3 : Nat), I8.le I15 ∧ Env 51 [(0, .agg #[.slice A_pd pd.length c_pd, .slice A_wd wd.length c_wd, .bool mk, .bool lg]), (1, .pointer (some ⟨bb1, 0, none⟩)), (2, .slice none 0 0), (3, .slice A_3 pre.length c_3), (25, .slice A_wd wd.length c_wd), (26, .int .i64 ((wd.length : Nat) : Int)), (27, .int .i64 ((i : Nat) : Int))] a ∧ Hp I15 (.row A_3 pre.length c_3 5 1 (pre.map b8) :: .obj bb1 (.cells ([.slice A_pd pd.length c_pd, .slice A_wd wd.length c_wd, .bool mk, .bool lg]).toArray 30) :: L) w ∧ i ≤ wd.length ∧ pre.length ≤ 200000000000 + 10 * i ∧ pre ++ putWord (wd.drop i) = ((putN pd.length ++ pd) ++ putN wd.length) ++ putWord wd)
      (fun s => wd.length - s.1) (0, ((putN pd.length ++ pd) ++ putN wd.length)) ⟨I8, A12, cc13, Snap.le.refl _, he.keep [0, 1, 2, 3, 25, 26, 27] rfl, hh, Nat.zero_le _, by have h1 := putN_ten (n := pd.length) (by omega); have h2 := putN_ten (n := wd.length) (by omega); simp only [List.length_append]; omega, by simp⟩ fun s a W hinv => ?_
  obtain ⟨i, pre⟩ := s
  obtain ⟨I15, A_3, c_3, hleI15, he, hh, hi, hl, hinv⟩ := hinv
  refine sq ?_
  refine rg ?_
  refine lt rfl rfl rfl he fun a he => ?_
  refine en ?_
  refine sq ?_
  refine cnd he rfl (fun h16 => ?_) (fun h16 => ?_)
  · replace h16 : i < wd.length := by omega
    refine sk ?_
    refine nm_then ?_
    refine sq ?_
    refine bk ?_
    refine sq ?_
    refine rg ?_
    obtain ⟨c, hx⟩ := idx_some (xs := wd) (i := i) (by omega)
    refine ia1 (xs := wd) (i) ts_23 rfl rfl ((h_wd.up (hl9.trans hleI15)).rd hh) hx rfl he fun bb17 oo18 a hc19 he => ?_
    refine ld rb_21 rfl hc19 rfl he fun a he => ?_
    have hcc := hc c (List.mem_of_getElem? hx)
    refine asg rfl rfl he fun a he => ?_
    refine en ?_
    refine rg ?_
    refine mv rfl rfl he fun a he => ?_
    refine mv rfl rfl he fun a he => ?_
    refine mx ((c.toNat : Nat) : Int) rfl rfl (by split <;> omega) rfl he fun a he => ?_
    refine ci ((c.toNat : Nat) : Int) .u64 ud_21 Try.underlying51 rfl (wu64 (by omega) (by omega)) rfl he fun a he => ?_
    have hc23 := (Ch.rowcap hh.at0).1
    obtain ⟨I20, hl21, hh, hf22⟩ := hh.freezeRow
    refine cal cb_26 rfl (num_Put _ _ _ A_3 c_3 pre c.toNat hh hf22 hc23 (by omega) (by omega)) rfl he fun v a W hp he => ?_
    obtain ⟨A24, cc25, rfl, hh⟩ := hp
    refine asg rfl rfl he fun a he => ?_
    refine en_blk ?_
    refine nm_then ?_
    refine rg ?_
    refine ad (((i + 1) : Nat) : Int) rfl rfl (w64 (by omega) (by omega)) rfl he fun a he => ?_
    refine mv rfl rfl he fun a he => ?_
    refine en ?_
    replace hh := hh.up1
    replace hh := hh.up1
    exact ⟨(i + 1, pre ++ putN c.toNat), ⟨I20, A24, cc25, (hleI15.trans hl21), he.keep [0, 1, 2, 3, 25, 26, 27] rfl, hh, by omega, by have h1 := putN_ten (n := c.toNat) (by omega); simp only [List.length_append]; omega, putWord_next hinv hx⟩, by show wd.length - (i + 1) < wd.length - i; omega⟩
  · replace h16 : ¬ (i < wd.length) := by omega
    refine ext ?_
    refine ex_then ?_
    refine ex_then ?_
    refine ex_in ?_
    refine nm_then ?_
    refine sq ?_
    refine rg ?_
    refine asg rfl rfl he fun a he => ?_
    refine en ?_
    refine sq ?_
    refine sq ?_
    refine rg ?_
    refine fa fo_30_1 rfl rfl he fun a he => ?_
    refine fa fo_28_1 rfl rfl he fun a he => ?_
    refine ld rb_4 rfl (ocell hh.at1 rfl) rfl he fun a he => ?_
    refine en ?_
    refine cnb he rfl (fun hm => ?_) (fun hm => ?_)
    · refine rg ?_
      refine mv rfl rfl he fun a he => ?_
      refine or 1 rfl rfl (by decide) rfl he fun a he => ?_
      refine asg rfl rfl he fun a he => ?_
      refine en ?_
      refine sq ?_
      refine sq ?_
      refine rg ?_
      refine fa fo_30_1 rfl rfl he fun a he => ?_
      refine fa fo_28_2 rfl rfl he fun a he => ?_
      refine ld rb_4 rfl (ocell hh.at1 rfl) rfl he fun a he => ?_
      refine en ?_
      refine cnb he rfl (fun hg => ?_) (fun hg => ?_)
      · refine rg ?_
        refine mv rfl rfl he fun a he => ?_
        refine or 3 rfl rfl (by decide) rfl he fun a he => ?_
        refine asg rfl rfl he fun a he => ?_
        refine en ?_
        refine sq ?_
        refine rg ?_
        refine mv rfl rfl he fun a he => ?_
        refine mv rfl rfl he fun a he => ?_
        refine bsl [(0, .int .u8 3)] [.int .u8 3] ts_22 rfl rfl rfl rfl rfl rfl rfl he hh fun bb27 a W he hh => ?_
        replace hh := hh.up1
        refine ap ts_22 rfl rfl (Ch.rd hh.at1) (by simp) (by simp [Value.oneCell']) (by first | omega | (simp; omega)) rfl he hh fun A28 cc29 a W he hh => ?_
        replace hh := hh.re (n' := ((pre ++ [UInt8.ofNat 3])).length) (cs' := ((pre ++ [UInt8.ofNat 3])).map b8) (by simp) (by first | (simp [b8]; done) | (simp [b8]; omega))
        replace he := he.be (t := 50) (v' := .slice A28 ((pre ++ [UInt8.ofNat 3])).length cc29) rfl (by congr 1; simp)
        replace hh := hh.up1
        replace hh := hh.drop
        refine asg rfl rfl he fun a he => ?_
        refine en ?_
        refine rt ?_
        refine rets1 Try.results9 he rfl (Ret.mk ?_)
        subst hm hg
        rw [tokPut, ← putWord_end hinv (by omega)]
        replace hh := hh.up1
        replace hh := hh.drop
        exact ⟨I15, A28, cc29, rfl, (hl9.trans hleI15), hh⟩
      · refine sk ?_
        refine nm_then ?_
        refine sq ?_
        refine rg ?_
        refine mv rfl rfl he fun a he => ?_
        refine mv rfl rfl he fun a he => ?_
        refine bsl [(0, .int .u8 1)] [.int .u8 1] ts_22 rfl rfl rfl rfl rfl rfl rfl he hh fun bb31 a W he hh => ?_
        replace hh := hh.up1
        refine ap ts_22 rfl rfl (Ch.rd hh.at1) (by simp) (by simp [Value.oneCell']) (by first | omega | (simp; omega)) rfl he hh fun A32 cc33 a W he hh => ?_
        replace hh := hh.re (n' := ((pre ++ [UInt8.ofNat 1])).length) (cs' := ((pre ++ [UInt8.ofNat 1])).map b8) (by simp) (by first | (simp [b8]; done) | (simp [b8]; omega))
        replace he := he.be (t := 50) (v' := .slice A32 ((pre ++ [UInt8.ofNat 1])).length cc33) rfl (by congr 1; simp)
        replace hh := hh.up1
        replace hh := hh.drop
        refine asg rfl rfl he fun a he => ?_
        refine en ?_
        refine rt ?_
        refine rets1 Try.results9 he rfl (Ret.mk ?_)
        subst hm hg
        rw [tokPut, ← putWord_end hinv (by omega)]
        replace hh := hh.up1
        replace hh := hh.drop
        exact ⟨I15, A32, cc33, rfl, (hl9.trans hleI15), hh⟩
    · refine sk ?_
      refine nm_then ?_
      refine sq ?_
      refine sq ?_
      refine rg ?_
      refine fa fo_30_1 rfl rfl he fun a he => ?_
      refine fa fo_28_2 rfl rfl he fun a he => ?_
      refine ld rb_4 rfl (ocell hh.at1 rfl) rfl he fun a he => ?_
      refine en ?_
      refine cnb he rfl (fun hg => ?_) (fun hg => ?_)
      · refine rg ?_
        refine mv rfl rfl he fun a he => ?_
        refine or 2 rfl rfl (by decide) rfl he fun a he => ?_
        refine asg rfl rfl he fun a he => ?_
        refine en ?_
        refine sq ?_
        refine rg ?_
        refine mv rfl rfl he fun a he => ?_
        refine mv rfl rfl he fun a he => ?_
        refine bsl [(0, .int .u8 2)] [.int .u8 2] ts_22 rfl rfl rfl rfl rfl rfl rfl he hh fun bb35 a W he hh => ?_
        replace hh := hh.up1
        refine ap ts_22 rfl rfl (Ch.rd hh.at1) (by simp) (by simp [Value.oneCell']) (by first | omega | (simp; omega)) rfl he hh fun A36 cc37 a W he hh => ?_
        replace hh := hh.re (n' := ((pre ++ [UInt8.ofNat 2])).length) (cs' := ((pre ++ [UInt8.ofNat 2])).map b8) (by simp) (by first | (simp [b8]; done) | (simp [b8]; omega))
        replace he := he.be (t := 50) (v' := .slice A36 ((pre ++ [UInt8.ofNat 2])).length cc37) rfl (by congr 1; simp)
        replace hh := hh.up1
        replace hh := hh.drop
        refine asg rfl rfl he fun a he => ?_
        refine en ?_
        refine rt ?_
        refine rets1 Try.results9 he rfl (Ret.mk ?_)
        subst hm hg
        rw [tokPut, ← putWord_end hinv (by omega)]
        replace hh := hh.up1
        replace hh := hh.drop
        exact ⟨I15, A36, cc37, rfl, (hl9.trans hleI15), hh⟩
      · refine sk ?_
        refine nm_then ?_
        refine sq ?_
        refine rg ?_
        refine mv rfl rfl he fun a he => ?_
        refine mv rfl rfl he fun a he => ?_
        refine bsl [(0, .int .u8 0)] [.int .u8 0] ts_22 rfl rfl rfl rfl rfl rfl rfl he hh fun bb39 a W he hh => ?_
        replace hh := hh.up1
        refine ap ts_22 rfl rfl (Ch.rd hh.at1) (by simp) (by simp [Value.oneCell']) (by first | omega | (simp; omega)) rfl he hh fun A40 cc41 a W he hh => ?_
        replace hh := hh.re (n' := ((pre ++ [UInt8.ofNat 0])).length) (cs' := ((pre ++ [UInt8.ofNat 0])).map b8) (by simp) (by first | (simp [b8]; done) | (simp [b8]; omega))
        replace he := he.be (t := 50) (v' := .slice A40 ((pre ++ [UInt8.ofNat 0])).length cc41) rfl (by congr 1; simp)
        replace hh := hh.up1
        replace hh := hh.drop
        refine asg rfl rfl he fun a he => ?_
        refine en ?_
        refine rt ?_
        refine rets1 Try.results9 he rfl (Ret.mk ?_)
        subst hm hg
        rw [tokPut, ← putWord_end hinv (by omega)]
        replace hh := hh.up1
        replace hh := hh.drop
        exact ⟨I15, A40, cc41, rfl, (hl9.trans hleI15), hh⟩

theorem token_number (I : Snap) (L : List Ch) (W : World) (m : Nat) (b_l : Nat) (A_lf : Option Addr) (c_lf : Nat) (lf : List UInt8) (b_e : Nat) (bad : Int) (hh : Hp I (.obj b_l (.cells #[.slice A_lf lf.length c_lf] 22) :: .obj b_e (.cells #[.int .i64 bad] 31) :: L) W) (h_lf : Fz I A_lf (lf.map b8)) (k_lf : lf.length ≤ c_lf) (hm : m ≤ 1114111) :
    Calls Try.prog 19 #[.int .u64 ((m : Nat) : Int), .pointer (some ⟨b_l, 0, none⟩), .pointer (some ⟨b_e, 0, none⟩)] W (Ret fun v W => ∃ (A1 : Option Addr) (c1 : Nat), v = .int .i64 (((numberG m lf bad).1 : Nat) : Int) ∧ Fz I A1 (((numberG m lf bad).2.1).map b8) ∧ ((numberG m lf bad).2.1).length ≤ c1 ∧ Hp I (.obj b_l (.cells #[.slice A1 ((numberG m lf bad).2.1).length c1] 22) :: .obj b_e (.cells #[.int .i64 ((numberG m lf bad).2.2)] 31) :: L) W) := by
  refine enter Try.func19 rfl Try.ntmps19 rfl fun a he => ?_
  refine sq ?_
  refine rg ?_
  refine asg rfl rfl he fun a he => ?_
  refine en ?_
  refine sq ?_
  refine rg ?_
  refine ld rb_22 rfl (ocell hh.at0 rfl) rfl he fun a he => ?_
  refine cal cb_20 rfl (num_Get _ _ _ A_lf c_lf lf hh h_lf k_lf) rfl he fun v a W hp he => ?_
  obtain ⟨rfl, hh⟩ := hp
  refine mv rfl rfl he fun a he => ?_
  refine xt rfl rfl rfl he fun a he => ?_
  refine xt rfl rfl rfl he fun a he => ?_
  refine xt rfl rfl rfl he fun a he => ?_
  refine asg rfl rfl he fun a he => ?_
  refine asg rfl rfl he fun a he => ?_
  refine asg rfl rfl he fun a he => ?_
  refine en ?_
  refine sq ?_
  refine sq ?_
  refine rg ?_
  refine mv rfl rfl he fun a he => ?_
  refine ne rfl rfl rfl he fun a he => ?_
  refine mv rfl rfl he fun a he => ?_
  refine sd he (t := 16) rfl (fun h15 he => ?_) (fun h15 he => ?_)
  · refine gn rfl rfl he rfl rfl fun a he => ?_
    refine gn rfl rfl he rfl rfl fun a he => ?_
    refine gn rfl rfl he rfl rfl fun a he => ?_
    refine pkt rfl rfl rfl he fun a he => ?_
    refine en ?_
    refine cnt he rfl ?_
    refine sq ?_
    refine rg ?_
    replace hh := hh.up1
    refine st #[.int .i64 2] ti_31 rfl rfl rfl rfl (by simp [Value.oneCell']) (by simp) he hh fun W hh => ?_
    replace hh : Hp I (.obj b_e (.cells [.int .i64 2].toArray 31) :: _) W := hh
    refine en ?_
    refine sq ?_
    refine rg ?_
    refine asg rfl rfl he fun a he => ?_
    refine en ?_
    refine rt ?_
    refine rets1 Try.results19 he rfl (Ret.mk ?_)
    rw [numberG_bad (by left; exact h15)]
    replace hh := hh.up1
    exact ⟨A_lf, c_lf, rfl, h_lf, k_lf, hh⟩
  · refine gy rfl he rfl ?_
    refine mv rfl rfl he fun a he => ?_
    refine gy rfl he rfl ?_
    refine mv rfl rfl he fun a he => ?_
    refine gy rfl he rfl ?_
    refine gt rfl rfl rfl he fun a he => ?_
    refine pkf rfl rfl rfl he fun a he => ?_
    refine en ?_
    refine cnd he rfl (fun h19 => ?_) (fun h19 => ?_)
    · replace h19 : m < ((numGet lf).1) := by omega
      refine sq ?_
      refine rg ?_
      replace hh := hh.up1
      refine st #[.int .i64 2] ti_31 rfl rfl rfl rfl (by simp [Value.oneCell']) (by simp) he hh fun W hh => ?_
      replace hh : Hp I (.obj b_e (.cells [.int .i64 2].toArray 31) :: _) W := hh
      refine en ?_
      refine sq ?_
      refine rg ?_
      refine asg rfl rfl he fun a he => ?_
      refine en ?_
      refine rt ?_
      refine rets1 Try.results19 he rfl (Ret.mk ?_)
      rw [numberG_bad (by right; omega)]
      replace hh := hh.up1
      exact ⟨A_lf, c_lf, rfl, h_lf, k_lf, hh⟩
    · replace h19 : ¬ (m < ((numGet lf).1)) := by omega
      refine sk ?_
      refine nm_then ?_
      refine sq ?_
      refine rg ?_
      refine ld rb_22 rfl (ocell hh.at0 rfl) rfl he fun a he => ?_
      refine mv rfl rfl he fun a he => ?_
      refine slo1 (xs := lf) ((numGet lf).2.1) ts_22 rfl rfl h_lf k_lf (numGet_le (by omega)) rfl he fun A1 cc2 a hf3 hc4 he => ?_
      refine st #[.slice A1 ((lf.drop ((numGet lf).2.1)).length) cc2] ti_22 rfl rfl rfl rfl (by simp [Value.oneCell']) (by simp) he hh fun W hh => ?_
      replace hh : Hp I (.obj b_l (.cells [.slice A1 ((lf.drop ((numGet lf).2.1)).length) cc2].toArray 22) :: _) W := hh
      refine en ?_
      refine sq ?_
      refine rg ?_
      refine mv rfl rfl he fun a he => ?_
      refine ci (((numGet lf).1 : Nat) : Int) .i64 ud_51 Try.underlying3 rfl (w64 (by omega) (by omega)) rfl he fun a he => ?_
      refine asg rfl rfl he fun a he => ?_
      refine en ?_
      refine rt ?_
      refine rets1 Try.results19 he rfl (Ret.mk ?_)
      have h0 : (numGet lf).2.2 = 0 := by omega
      rw [numberG_good h0 (by omega)]
      replace hh := hh.up1
      replace hh := hh.up1
      exact ⟨A1, cc2, rfl, hf3, hc4, hh⟩

theorem token_Get (I : Snap) (L : List Ch) (W : World) (A_b : Option Addr) (c_b : Nat) (b : List UInt8) (hh : Hp I L W) (h_b : Fz I A_b (b.map b8)) (k_b : b.length ≤ c_b) :
    Calls Try.prog 7 #[.slice A_b b.length c_b] W (Ret fun v W => ∃ (I' : Snap) (A1 : Option Addr) (c1 : Nat) (A2 : Option Addr) (c2 : Nat), v = .tuple #[.agg #[.slice A1 ((tokGet b).pd).length c1, .slice A2 ((tokGet b).wd).length c2, .bool ((tokGet b).mrk), .bool ((tokGet b).lg)], .int .i64 ((tokGet b).err)] ∧ I.le I' ∧ Fz I' A1 (((tokGet b).pd).map b8) ∧ ((tokGet b).pd).length ≤ c1 ∧ Fz I' A2 (((tokGet b).wd).map r32) ∧ ((tokGet b).wd).length ≤ c2 ∧ Hp I' (L) W) := by
  refine enter Try.func7 rfl Try.ntmps7 rfl fun a he => ?_
  refine sq ?_
  refine rg ?_
  refine al ti_30 rfl he hh fun bb1 a W he hh => ?_
  replace hh : Hp I (.obj bb1 (.cells [.slice none 0 0, .slice none 0 0, .bool false, .bool false].toArray 30) :: _) W := hh
  refine asg rfl rfl he fun a he => ?_
  refine en ?_
  refine sq ?_
  refine rg ?_
  refine mv rfl rfl he fun a he => ?_
  refine al ti_22 rfl he hh fun bb2 a W he hh => ?_
  replace hh : Hp I (.obj bb2 (.cells [.slice none 0 0].toArray 22) :: _) W := hh
  refine al ti_31 rfl he hh fun bb3 a W he hh => ?_
  replace hh : Hp I (.obj bb3 (.cells [.int .i64 0].toArray 31) :: _) W := hh
  replace hh := hh.up1
  refine st #[.slice A_b b.length c_b] ti_22 rfl rfl rfl rfl (by simp [Value.oneCell']) (by simp) he hh fun W hh => ?_
  replace hh : Hp I (.obj bb2 (.cells [.slice A_b b.length c_b].toArray 22) :: _) W := hh
  replace hh := hh.up1
  refine st #[.int .i64 0] ti_31 rfl rfl rfl rfl (by simp [Value.oneCell']) (by simp) he hh fun W hh => ?_
  replace hh : Hp I (.obj bb3 (.cells [.int .i64 0].toArray 31) :: _) W := hh
  refine en ?_
  refine sq ?_
  refine rg ?_
  refine mkf (vs := []) (ws := [.pointer (some ⟨bb2, 0, none⟩), .pointer (some ⟨bb3, 0, none⟩)]) rfl rfl rfl he fun a he => ?_
  refine asg rfl rfl he fun a he => ?_
  refine en ?_
  refine sq ?_
  refine rg ?_
  refine al ti_30 rfl he hh fun bb4 a W he hh => ?_
  replace hh : Hp I (.obj bb4 (.cells [.slice none 0 0, .slice none 0 0, .bool false, .bool false].toArray 30) :: _) W := hh
  refine en ?_
  refine sq ?_
  refine rg ?_
  refine mv rfl rfl he fun a he => ?_
  replace hh := hh.up1
  replace hh := hh.up2
  refine calc' (us := [.int .u64 32, .pointer (some ⟨bb2, 0, none⟩), .pointer (some ⟨bb3, 0, none⟩)]) cb_19 rfl rfl (by simp) (token_number _ _ _ 32 bb2 A_b c_b b bb3 0 hh h_b k_b (by decide)) rfl he fun v a W hp he => ?_
  obtain ⟨A5, cc6, rfl, hf7, hc8, hh⟩ := hp
  refine asg rfl rfl he fun a he => ?_
  refine en ?_
  refine sq ?_
  refine rg ?_
  refine mv rfl rfl he fun a he => ?_
  refine ld rb_22 rfl (ocell hh.at0 rfl) rfl he fun a he => ?_
  refine ln Try.underlying22 rfl rfl he fun a he => ?_
  refine mn (((tokMin b) : Nat) : Int) rfl rfl (by unfold tokMin; split <;> omega) rfl he fun a he => ?_
  refine asg rfl rfl he fun a he => ?_
  refine en ?_
  refine sq ?_
  refine rg ?_
  refine ld rb_22 rfl (ocell hh.at0 rfl) rfl he fun a he => ?_
  refine mv rfl rfl he fun a he => ?_
  refine shi1 (xs := (numberG 32 b 0).2.1) ((tokMin b)) ts_22 rfl rfl hf7 hc8 (tokMin_le b) rfl he fun a hf11 hc12 he => ?_
  refine cal cb_21 rfl (bytes_Clone _ _ _ A5 cc6 (((numberG 32 b 0).2.1).take (tokMin b)) hh hf11 hc12 (by have := numberG_le 32 b 0; simp only [tokMin, List.length_take]; omega)) rfl he fun v a W hp he => ?_
  obtain ⟨A13, cc14, rfl, hh⟩ := hp
  replace he := he.be (t := 23) (v' := .slice A13 ((tokPd b).length) cc14) rfl rfl
  replace hh : Hp I (.row A13 ((tokPd b).length) cc14 5 1 ((tokPd b).map b8) :: .obj bb2 (.cells ([.slice A5 (((numberG 32 b 0).2.1).length) cc6]).toArray 22) :: .obj bb3 (.cells ([.int .i64 ((numberG 32 b 0).2.2)]).toArray 31) :: .obj bb4 (.cells ([.slice none 0 0, .slice none 0 0, .bool false, .bool false]).toArray 30) :: .obj bb1 (.cells ([.slice none 0 0, .slice none 0 0, .bool false, .bool false]).toArray 30) :: L) W := hh
  refine fa fo_30_0 rfl rfl he fun a he => ?_
  replace hh := hh.up3
  refine st #[.slice A13 ((tokPd b).length) cc14] ti_22 rfl rfl rfl rfl (by simp [Value.oneCell']) (by simp) he hh fun W hh => ?_
  replace hh : Hp I (.obj bb4 (.cells [.slice A13 ((tokPd b).length) cc14, .slice none 0 0, .bool false, .bool false].toArray 30) :: _) W := hh
  refine en ?_
  refine sq ?_
  refine rg ?_
  refine ld rb_22 rfl (ocell hh.at2 rfl) rfl he fun a he => ?_
  refine mv rfl rfl he fun a he => ?_
  refine slo1 (xs := (numberG 32 b 0).2.1) ((tokMin b)) ts_22 rfl rfl hf7 hc8 (tokMin_le b) rfl he fun A16 cc17 a hf18 hc19 he => ?_
  replace he := he.be (t := 27) (v' := .slice A16 ((tokL2 b).length) cc17) rfl rfl
  replace hh := hh.up2
  refine st #[.slice A16 ((tokL2 b).length) cc17] ti_22 rfl rfl rfl rfl (by simp [Value.oneCell']) (by simp) he hh fun W hh => ?_
  replace hh : Hp I (.obj bb2 (.cells [.slice A16 ((tokL2 b).length) cc17].toArray 22) :: _) W := hh
  refine en ?_
  refine sq ?_
  refine sq ?_
  refine rg ?_
  refine mv rfl rfl he fun a he => ?_
  replace hh := hh.up3
  replace hh := hh.up1
  refine calc' (us := [.int .u64 32, .pointer (some ⟨bb2, 0, none⟩), .pointer (some ⟨bb3, 0, none⟩)]) cb_19 rfl rfl (by simp) (token_number _ _ _ 32 bb2 A16 cc17 (tokL2 b) bb3 ((numberG 32 b 0).2.2) hh hf18 hc19 (by decide)) rfl he fun v a W hp he => ?_
  obtain ⟨A20, cc21, rfl, hf22, hc23, hh⟩ := hp
  replace he := he.be (t := 29) (v' := .int .i64 (((tokG2 b).1 : Nat) : Int)) rfl rfl
  replace hh : Hp I (.obj bb2 (.cells ([.slice A20 ((tokG2 b).2.1.length) cc21]).toArray 22) :: .obj bb3 (.cells ([.int .i64 ((tokG2 b).2.2)]).toArray 31) :: .obj bb4 (.cells ([.slice A13 ((tokPd b).length) cc14, .slice none 0 0, .bool false, .bool false]).toArray 30) :: .row A13 ((tokPd b).length) cc14 5 1 ((tokPd b).map b8) :: .obj bb1 (.cells ([.slice none 0 0, .slice none 0 0, .bool false, .bool false]).toArray 30) :: L) W := hh
  refine mv rfl rfl he fun a he => ?_
  refine en ?_
  refine bk ?_
  replace hh := hh.nilrow 21 1
  replace hh := hh.up5
  replace hh := hh.up5
  replace hh := hh.up5
  replace hh := hh.up5
  replace hh := hh.up5
  replace hh := hh.up5
  refine lp (fun (s : Nat × List Int × List UInt8 × Int) a w => match s with | (i, pre, lf, bad) => ∃ (A_7_1 : Option Addr) (A_l : Option Addr) (c_7_1 : Nat) (c_l : Nat), Env 79 [(0, .slice A_b b.length c_b), (2, .pointer (some ⟨bb1, 0, none⟩)), (3, .int .i64 0), (4, .pointer (some ⟨bb2, 0, none⟩)), (5, .pointer (some ⟨bb3, 0, none⟩)), (6, .func (.func 19) #[] #[.pointer (some ⟨bb2, 0, none⟩), .pointer (some ⟨bb3, 0, none⟩)]), (7, .pointer (some ⟨bb4, 0, none⟩)), (29, .int .i64 (((tokG2 b).1 : Nat) : Int)), (30, .int .i64 ((i : Nat) : Int))] a ∧ Hp I (.row A_7_1 pre.length c_7_1 21 1 (pre.map r32) :: .obj bb2 (.cells ([.slice A_l lf.length c_l]).toArray 22) :: .obj bb3 (.cells ([.int .i64 bad]).toArray 31) :: .obj bb4 (.cells ([.slice A13 ((tokPd b).length) cc14, .slice A_7_1 pre.length c_7_1, .bool false, .bool false]).toArray 30) :: .row A13 ((tokPd b).length) cc14 5 1 ((tokPd b).map b8) :: .obj bb1 (.cells ([.slice none 0 0, .slice none 0 0, .bool false, .bool false]).toArray 30) :: L) w ∧ Fz I A_l (lf.map b8) ∧ lf.length ≤ c_l ∧ i ≤ (tokG2 b).1 ∧ pre.length ≤ i ∧ (pre ++ (wordG ((tokG2 b).1 - i) lf bad).1, (wordG ((tokG2 b).1 - i) lf bad).2) = tokW b)
      (fun s => (tokG2 b).1 - s.1) (0, [], (tokG2 b).2.1, (tokG2 b).2.2) ⟨none, A20, 0, cc21, he.keep [0, 2, 3, 4, 5, 6, 7, 29, 30] rfl, hh, hf22, hc23, Nat.zero_le _, Nat.le_refl _, by simp [tokW]⟩ fun s a W hinv => ?_
  obtain ⟨i, pre, lf, bad⟩ := s
  obtain ⟨A_7_1, A_l, c_7_1, c_l, he, hh, h_l, k_l, hi, hpi, hinv⟩ := hinv
  refine sq ?_
  refine rg ?_
  refine lt rfl rfl rfl he fun a he => ?_
  refine en ?_
  refine sq ?_
  refine cnd he rfl (fun h25 => ?_) (fun h25 => ?_)
  · replace h25 : i < ((tokG2 b).1) := by omega
    have hg2 := tokG2_le b
    have hn := numberG_le 1114111 lf bad
    refine sk ?_
    refine nm_then ?_
    refine sq ?_
    refine bk ?_
    replace hh := hh.up5
    refine rgd (SH I [.obj bb1 (.cells ([.slice none 0 0, .slice none 0 0, .bool false, .bool false]).toArray 30)]) 11 mixo rfl hh fun W hh => ?_
    refine ahp (d := 32) (v := .pointer (some ⟨bb4, 1, none⟩)) 0 rfl (by kernel_rfl) (by kernel_rfl) (by kernel_rfl) rfl rfl rfl he ⟨_, _, (Snap.le.refl _), hh⟩ (fun W hS => by
        refine fa fo_30_1 rfl rfl he fun a he => ?_
        exact aqe he) fun a he => ?_
    refine ahp (d := 33) (v := .pointer (some ⟨bb4, 1, none⟩)) 1 rfl (by kernel_rfl) (by kernel_rfl) (by kernel_rfl) rfl rfl rfl he ⟨_, _, (Snap.le.refl _), hh⟩ (fun W hS => by
        refine fa fo_28_0 rfl rfl he fun a he => ?_
        exact aqe he) fun a he => ?_
    refine ahp (d := 35) (v := .func (.func 19) #[] #[.pointer (some ⟨bb2, 0, none⟩), .pointer (some ⟨bb3, 0, none⟩)]) 3 rfl (by kernel_rfl) (by kernel_rfl) (by kernel_rfl) rfl rfl rfl he ⟨_, _, (Snap.le.refl _), hh⟩ (fun W hS => by
        refine mv rfl rfl he fun a he => ?_
        exact aqe he) fun a he => ?_
    refine aha2 (i := 2) (j := 4) (by kernel_rfl) ?_ ?_
    · refine aop rfl ?_
      refine ld rb_23 rfl (ocell hh.at4 rfl) rfl he fun a he => ?_
      refine aen ⟨_, _, (Snap.le.refl _), hh⟩ ?_
      refine aha1 (i := 4) (by kernel_rfl) ?_
      refine aop rfl ?_
      replace hh := hh.up3
      replace hh := hh.up3
      refine calc' (us := [.int .u64 1114111, .pointer (some ⟨bb2, 0, none⟩), .pointer (some ⟨bb3, 0, none⟩)]) cb_19 rfl rfl (by simp) (token_number _ _ _ 1114111 bb2 A_l c_l lf bb3 bad hh h_l k_l (by decide)) rfl he fun v a W hp he => ?_
      obtain ⟨A26, cc27, rfl, hf28, hc29, hh⟩ := hp
      replace hh := hh.up2
      refine aen ⟨_, _, (Snap.le.refl _), hh⟩ ?_
      refine ahp (d := 37) (v := .int .i32 (((numberG 1114111 lf bad).1 : Nat) : Int)) 5 rfl (by kernel_rfl) (by kernel_rfl) (by kernel_rfl) rfl rfl rfl he ⟨_, _, (Snap.le.refl _), hh⟩ (fun W hS => by
          obtain ⟨I30, _, hleI30, hh⟩ := hS
          refine ci (((numberG 1114111 lf bad).1 : Nat) : Int) .i32 ud_3 Try.underlying21 rfl (w32 (by omega) (by omega)) rfl he fun a he => ?_
          exact aqe he) fun a he => ?_
      refine aha1 (i := 6) (by kernel_rfl) ?_
      refine aop rfl ?_
      refine bsl [(0, .int .i32 (((numberG 1114111 lf bad).1 : Nat) : Int))] [.int .i32 (((numberG 1114111 lf bad).1 : Nat) : Int)] ts_23 rfl rfl rfl rfl rfl rfl rfl he hh fun bb31 a W he hh => ?_
      replace hh := hh.up1
      refine aen ⟨_, _, (Snap.le.refl _), hh⟩ ?_
      refine aha1 (i := 7) (by kernel_rfl) ?_
      refine aop rfl ?_
      replace hh := hh.up4
      refine ap ts_23 rfl rfl (Ch.rd hh.at2) (by simp) (by simp [Value.oneCell']) (by omega) rfl he hh fun A32 cc33 a W he hh => ?_
      replace hh := hh.re (n' := ((pre ++ [(((numberG 1114111 lf bad).1 : Nat) : Int)])).length) (cs' := ((pre ++ [(((numberG 1114111 lf bad).1 : Nat) : Int)])).map r32) (by simp) (by simp [r32])
      replace he := he.be (t := 39) (v' := .slice A32 ((pre ++ [(((numberG 1114111 lf bad).1 : Nat) : Int)])).length cc33) rfl (by congr 1; simp)
      replace hh := hh.up2
      replace hh := hh.drop
      replace hh := hh.up1
      refine aen ⟨_, _, (Snap.le.refl _), hh⟩ ?_
      refine ahp (d := 40) (v := .pointer (some ⟨bb4, 1, none⟩)) 8 rfl (by kernel_rfl) (by kernel_rfl) (by kernel_rfl) rfl rfl rfl he ⟨_, _, (Snap.le.refl _), hh⟩ (fun W hS => by
          refine fa fo_30_1 rfl rfl he fun a he => ?_
          exact aqe he) fun a he => ?_
      refine ahp (d := 41) (v := .pointer (some ⟨bb4, 1, none⟩)) 9 rfl (by kernel_rfl) (by kernel_rfl) (by kernel_rfl) rfl rfl rfl he ⟨_, _, (Snap.le.refl _), hh⟩ (fun W hS => by
          refine fa fo_28_0 rfl rfl he fun a he => ?_
          exact aqe he) fun a he => ?_
      refine aha1 (i := 10) (by kernel_rfl) ?_
      refine aop rfl ?_
      replace hh := hh.up4
      refine st #[.slice A32 (((pre ++ [(((numberG 1114111 lf bad).1 : Nat) : Int)])).length) cc33] ti_23 rfl rfl rfl rfl (by simp [Value.oneCell']) (by simp) he hh fun W hh => ?_
      replace hh : Hp I (.obj bb4 (.cells [.slice A13 ((tokPd b).length) cc14, .slice A32 (((pre ++ [(((numberG 1114111 lf bad).1 : Nat) : Int)])).length) cc33, .bool false, .bool false].toArray 30) :: _) W := hh
      replace hh := hh.up1
      refine aen ⟨_, _, (Snap.le.refl _), hh⟩ ?_
      refine ahd (by kernel_rfl) ?_
      refine en_blk ?_
      refine nm_then ?_
      refine rg ?_
      refine ad (((i + 1) : Nat) : Int) rfl rfl (w64 (by omega) (by omega)) rfl he fun a he => ?_
      refine mv rfl rfl he fun a he => ?_
      refine en ?_
      replace hh := hh.up5
      replace hh := hh.up2
      replace hh := hh.up5
      replace hh := hh.up5
      replace hh := hh.up5
      exact ⟨(i + 1, pre ++ [((numberG 1114111 lf bad).1 : Int)], (numberG 1114111 lf bad).2.1, (numberG 1114111 lf bad).2.2), ⟨A32, A26, cc33, cc27, he.keep [0, 2, 3, 4, 5, 6, 7, 29, 30] rfl, hh, hf28, hc29, by omega, by simp; omega, wordG_next hinv (by omega)⟩, by show (tokG2 b).1 - (i + 1) < (tokG2 b).1 - i; omega⟩
    · refine aop rfl ?_
      replace hh := hh.up3
      replace hh := hh.up3
      refine calc' (us := [.int .u64 1114111, .pointer (some ⟨bb2, 0, none⟩), .pointer (some ⟨bb3, 0, none⟩)]) cb_19 rfl rfl (by simp) (token_number _ _ _ 1114111 bb2 A_l c_l lf bb3 bad hh h_l k_l (by decide)) rfl he fun v a W hp he => ?_
      obtain ⟨A35, cc36, rfl, hf37, hc38, hh⟩ := hp
      replace hh := hh.up2
      refine aen ⟨_, _, (Snap.le.refl _), hh⟩ ?_
      refine ahp (d := 37) (v := .int .i32 (((numberG 1114111 lf bad).1 : Nat) : Int)) 5 rfl (by kernel_rfl) (by kernel_rfl) (by kernel_rfl) rfl rfl rfl he ⟨_, _, (Snap.le.refl _), hh⟩ (fun W hS => by
          obtain ⟨I39, _, hleI39, hh⟩ := hS
          refine ci (((numberG 1114111 lf bad).1 : Nat) : Int) .i32 ud_3 Try.underlying21 rfl (w32 (by omega) (by omega)) rfl he fun a he => ?_
          exact aqe he) fun a he => ?_
      refine aha2 (i := 2) (j := 6) (by kernel_rfl) ?_ ?_
      · refine aop rfl ?_
        refine ld rb_23 rfl (ocell hh.at4 rfl) rfl he fun a he => ?_
        refine aen ⟨_, _, (Snap.le.refl _), hh⟩ ?_
        refine aha1 (i := 6) (by kernel_rfl) ?_
        refine aop rfl ?_
        refine bsl [(0, .int .i32 (((numberG 1114111 lf bad).1 : Nat) : Int))] [.int .i32 (((numberG 1114111 lf bad).1 : Nat) : Int)] ts_23 rfl rfl rfl rfl rfl rfl rfl he hh fun bb40 a W he hh => ?_
        replace hh := hh.up1
        refine aen ⟨_, _, (Snap.le.refl _), hh⟩ ?_
        refine aha1 (i := 7) (by kernel_rfl) ?_
        refine aop rfl ?_
        replace hh := hh.up4
        refine ap ts_23 rfl rfl (Ch.rd hh.at2) (by simp) (by simp [Value.oneCell']) (by omega) rfl he hh fun A41 cc42 a W he hh => ?_
        replace hh := hh.re (n' := ((pre ++ [(((numberG 1114111 lf bad).1 : Nat) : Int)])).length) (cs' := ((pre ++ [(((numberG 1114111 lf bad).1 : Nat) : Int)])).map r32) (by simp) (by simp [r32])
        replace he := he.be (t := 39) (v' := .slice A41 ((pre ++ [(((numberG 1114111 lf bad).1 : Nat) : Int)])).length cc42) rfl (by congr 1; simp)
        replace hh := hh.up2
        replace hh := hh.drop
        replace hh := hh.up1
        refine aen ⟨_, _, (Snap.le.refl _), hh⟩ ?_
        refine ahp (d := 40) (v := .pointer (some ⟨bb4, 1, none⟩)) 8 rfl (by kernel_rfl) (by kernel_rfl) (by kernel_rfl) rfl rfl rfl he ⟨_, _, (Snap.le.refl _), hh⟩ (fun W hS => by
            refine fa fo_30_1 rfl rfl he fun a he => ?_
            exact aqe he) fun a he => ?_
        refine ahp (d := 41) (v := .pointer (some ⟨bb4, 1, none⟩)) 9 rfl (by kernel_rfl) (by kernel_rfl) (by kernel_rfl) rfl rfl rfl he ⟨_, _, (Snap.le.refl _), hh⟩ (fun W hS => by
            refine fa fo_28_0 rfl rfl he fun a he => ?_
            exact aqe he) fun a he => ?_
        refine aha1 (i := 10) (by kernel_rfl) ?_
        refine aop rfl ?_
        replace hh := hh.up4
        refine st #[.slice A41 (((pre ++ [(((numberG 1114111 lf bad).1 : Nat) : Int)])).length) cc42] ti_23 rfl rfl rfl rfl (by simp [Value.oneCell']) (by simp) he hh fun W hh => ?_
        replace hh : Hp I (.obj bb4 (.cells [.slice A13 ((tokPd b).length) cc14, .slice A41 (((pre ++ [(((numberG 1114111 lf bad).1 : Nat) : Int)])).length) cc42, .bool false, .bool false].toArray 30) :: _) W := hh
        replace hh := hh.up1
        refine aen ⟨_, _, (Snap.le.refl _), hh⟩ ?_
        refine ahd (by kernel_rfl) ?_
        refine en_blk ?_
        refine nm_then ?_
        refine rg ?_
        refine ad (((i + 1) : Nat) : Int) rfl rfl (w64 (by omega) (by omega)) rfl he fun a he => ?_
        refine mv rfl rfl he fun a he => ?_
        refine en ?_
        replace hh := hh.up5
        replace hh := hh.up2
        replace hh := hh.up5
        replace hh := hh.up5
        replace hh := hh.up5
        exact ⟨(i + 1, pre ++ [((numberG 1114111 lf bad).1 : Int)], (numberG 1114111 lf bad).2.1, (numberG 1114111 lf bad).2.2), ⟨A41, A35, cc42, cc36, he.keep [0, 2, 3, 4, 5, 6, 7, 29, 30] rfl, hh, hf37, hc38, by omega, by simp; omega, wordG_next hinv (by omega)⟩, by show (tokG2 b).1 - (i + 1) < (tokG2 b).1 - i; omega⟩
      · refine aop rfl ?_
        refine bsl [(0, .int .i32 (((numberG 1114111 lf bad).1 : Nat) : Int))] [.int .i32 (((numberG 1114111 lf bad).1 : Nat) : Int)] ts_23 rfl rfl rfl rfl rfl rfl rfl he hh fun bb44 a W he hh => ?_
        replace hh := hh.up1
        refine aen ⟨_, _, (Snap.le.refl _), hh⟩ ?_
        refine aha1 (i := 2) (by kernel_rfl) ?_
        refine aop rfl ?_
        refine ld rb_23 rfl (ocell hh.at5 rfl) rfl he fun a he => ?_
        refine aen ⟨_, _, (Snap.le.refl _), hh⟩ ?_
        refine aha1 (i := 7) (by kernel_rfl) ?_
        refine aop rfl ?_
        replace hh := hh.up4
        refine ap ts_23 rfl rfl (Ch.rd hh.at2) (by simp) (by simp [Value.oneCell']) (by omega) rfl he hh fun A45 cc46 a W he hh => ?_
        replace hh := hh.re (n' := ((pre ++ [(((numberG 1114111 lf bad).1 : Nat) : Int)])).length) (cs' := ((pre ++ [(((numberG 1114111 lf bad).1 : Nat) : Int)])).map r32) (by simp) (by simp [r32])
        replace he := he.be (t := 39) (v' := .slice A45 ((pre ++ [(((numberG 1114111 lf bad).1 : Nat) : Int)])).length cc46) rfl (by congr 1; simp)
        replace hh := hh.up2
        replace hh := hh.drop
        replace hh := hh.up1
        refine aen ⟨_, _, (Snap.le.refl _), hh⟩ ?_
        refine ahp (d := 40) (v := .pointer (some ⟨bb4, 1, none⟩)) 8 rfl (by kernel_rfl) (by kernel_rfl) (by kernel_rfl) rfl rfl rfl he ⟨_, _, (Snap.le.refl _), hh⟩ (fun W hS => by
            refine fa fo_30_1 rfl rfl he fun a he => ?_
            exact aqe he) fun a he => ?_
        refine ahp (d := 41) (v := .pointer (some ⟨bb4, 1, none⟩)) 9 rfl (by kernel_rfl) (by kernel_rfl) (by kernel_rfl) rfl rfl rfl he ⟨_, _, (Snap.le.refl _), hh⟩ (fun W hS => by
            refine fa fo_28_0 rfl rfl he fun a he => ?_
            exact aqe he) fun a he => ?_
        refine aha1 (i := 10) (by kernel_rfl) ?_
        refine aop rfl ?_
        replace hh := hh.up4
        refine st #[.slice A45 (((pre ++ [(((numberG 1114111 lf bad).1 : Nat) : Int)])).length) cc46] ti_23 rfl rfl rfl rfl (by simp [Value.oneCell']) (by simp) he hh fun W hh => ?_
        replace hh : Hp I (.obj bb4 (.cells [.slice A13 ((tokPd b).length) cc14, .slice A45 (((pre ++ [(((numberG 1114111 lf bad).1 : Nat) : Int)])).length) cc46, .bool false, .bool false].toArray 30) :: _) W := hh
        replace hh := hh.up1
        refine aen ⟨_, _, (Snap.le.refl _), hh⟩ ?_
        refine ahd (by kernel_rfl) ?_
        refine en_blk ?_
        refine nm_then ?_
        refine rg ?_
        refine ad (((i + 1) : Nat) : Int) rfl rfl (w64 (by omega) (by omega)) rfl he fun a he => ?_
        refine mv rfl rfl he fun a he => ?_
        refine en ?_
        replace hh := hh.up5
        replace hh := hh.up2
        replace hh := hh.up5
        replace hh := hh.up5
        replace hh := hh.up5
        exact ⟨(i + 1, pre ++ [((numberG 1114111 lf bad).1 : Int)], (numberG 1114111 lf bad).2.1, (numberG 1114111 lf bad).2.2), ⟨A45, A35, cc46, cc36, he.keep [0, 2, 3, 4, 5, 6, 7, 29, 30] rfl, hh, hf37, hc38, by omega, by simp; omega, wordG_next hinv (by omega)⟩, by show (tokG2 b).1 - (i + 1) < (tokG2 b).1 - i; omega⟩
  · replace h25 : ¬ (i < ((tokG2 b).1)) := by omega
    have hW := wordG_end hinv (by omega)
    have hG : tokG3 b = numberG 3 lf bad := by unfold tokG3; rw [hW]
    have hW1 : (tokW b).1 = pre := by rw [hW]
    have hwl : pre.length ≤ 32 := by rw [← hW1]; exact tokW_len b
    have hG3 := numberG_le 3 lf bad
    have hpl := tokPd_len b
    refine ext ?_
    refine ex_then ?_
    refine ex_then ?_
    refine ex_in ?_
    refine nm_then ?_
    refine sq ?_
    refine rg ?_
    refine mv rfl rfl he fun a he => ?_
    replace hh := hh.up2
    replace hh := hh.up2
    refine calc' (us := [.int .u64 3, .pointer (some ⟨bb2, 0, none⟩), .pointer (some ⟨bb3, 0, none⟩)]) cb_19 rfl rfl (by simp) (token_number _ _ _ 3 bb2 A_l c_l lf bb3 bad hh h_l k_l (by decide)) rfl he fun v a W hp he => ?_
    obtain ⟨A48, cc49, rfl, hf50, hc51, hh⟩ := hp
    refine asg rfl rfl he fun a he => ?_
    refine en ?_
    refine sq ?_
    refine rg ?_
    refine mv rfl rfl he fun a he => ?_
    refine an ((((numberG 3 lf bad).1 &&& 1) : Nat) : Int) rfl rfl (bandi64 _ 1 (by omega) (by decide)) rfl he fun a he => ?_
    refine gt rfl rfl rfl he fun a he => ?_
    refine mv rfl rfl he fun a he => ?_
    refine an ((((numberG 3 lf bad).1 &&& 2) : Nat) : Int) rfl rfl (bandi64 _ 2 (by omega) (by decide)) rfl he fun a he => ?_
    refine gt rfl rfl rfl he fun a he => ?_
    refine fa fo_30_1 rfl rfl he fun a he => ?_
    refine fa fo_28_1 rfl rfl he fun a he => ?_
    replace hh := hh.up3
    refine st #[.bool (decide ((0 : Int) < ((((numberG 3 lf bad).1 &&& 1) : Nat) : Int)))] ti_4 rfl rfl rfl rfl (by simp [Value.oneCell']) (by simp) he hh fun W hh => ?_
    replace hh : Hp I (.obj bb4 (.cells [.slice A13 ((tokPd b).length) cc14, .slice A_7_1 pre.length c_7_1, .bool (decide ((0 : Int) < ((((numberG 3 lf bad).1 &&& 1) : Nat) : Int))), .bool false].toArray 30) :: _) W := hh
    refine fa fo_30_1 rfl rfl he fun a he => ?_
    refine fa fo_28_2 rfl rfl he fun a he => ?_
    refine st #[.bool (decide ((0 : Int) < ((((numberG 3 lf bad).1 &&& 2) : Nat) : Int)))] ti_4 rfl rfl rfl rfl (by simp [Value.oneCell']) (by simp) he hh fun W hh => ?_
    replace hh : Hp I (.obj bb4 (.cells [.slice A13 ((tokPd b).length) cc14, .slice A_7_1 pre.length c_7_1, .bool (decide ((0 : Int) < ((((numberG 3 lf bad).1 &&& 1) : Nat) : Int))), .bool (decide ((0 : Int) < ((((numberG 3 lf bad).1 &&& 2) : Nat) : Int)))].toArray 30) :: _) W := hh
    refine en ?_
    refine sq ?_
    refine rg ?_
    refine fa fo_30_0 rfl rfl he fun a he => ?_
    refine ld rb_22 rfl (ocell hh.at0 rfl) rfl he fun a he => ?_
    refine ln Try.underlying22 rfl rfl he fun a he => ?_
    refine eq rfl rfl rfl he fun a he => ?_
    refine mv rfl rfl he fun a he => ?_
    refine sd he (t := 59) rfl (fun gpd he => ?_) (fun gpd he => ?_)
    · replace gpd : ((tokPd b).length) = 0 := by omega
      refine gn rfl rfl he rfl rfl fun a he => ?_
      refine gn rfl rfl he rfl rfl fun a he => ?_
      refine gn rfl rfl he rfl rfl fun a he => ?_
      refine pkt rfl rfl rfl he fun a he => ?_
      refine asg rfl rfl he fun a he => ?_
      refine en ?_
      refine sq ?_
      refine sq ?_
      refine rg ?_
      refine ld rb_31 rfl (ocell hh.at2 rfl) rfl he fun a he => ?_
      refine ne rfl rfl rfl he fun a he => ?_
      refine mv rfl rfl he fun a he => ?_
      refine sd he (t := 66) rfl (fun gbad he => ?_) (fun gbad he => ?_)
      · refine gn rfl rfl he rfl rfl fun a he => ?_
        refine gn rfl rfl he rfl rfl fun a he => ?_
        refine pkt rfl rfl rfl he fun a he => ?_
        refine mv rfl rfl he fun a he => ?_
        refine gn rfl rfl he rfl rfl fun a he => ?_
        refine gn rfl rfl he rfl rfl fun a he => ?_
        refine gn rfl rfl he rfl rfl fun a he => ?_
        refine gn rfl rfl he rfl rfl fun a he => ?_
        refine gn rfl rfl he rfl rfl fun a he => ?_
        refine pkt rfl rfl rfl he fun a he => ?_
        refine en ?_
        refine cnt he rfl ?_
        refine sq ?_
        refine rg ?_
        refine bld #[.slice none 0 0, .slice none 0 0, .bool false, .bool false] rfl (by kernel_rfl) rfl he fun a he => ?_
        replace hh := hh.up5
        refine st #[.slice none 0 0, .slice none 0 0, .bool false, .bool false] ti_30 rfl rfl rfl rfl (by simp [Value.oneCell']) (by simp) he hh fun W hh => ?_
        replace hh : Hp I (.obj bb1 (.cells [.slice none 0 0, .slice none 0 0, .bool false, .bool false].toArray 30) :: _) W := hh
        refine asg rfl rfl he fun a he => ?_
        refine en ?_
        refine rt ?_
        refine retsCT Try.results7 he rfl (loadVar_run rb_30 ti_30 ((Rd.obj hh.at0 0).take 4) rfl) rfl (Ret.mk ?_)
        have hok : tokOk b = false := by simp only [tokOk, tokMk, tokLg, hG, hW1]; simp [gpd, gbad]
        rw [tokGet, if_neg (by rw [hok]; decide)]
        replace hh := hh.drop
        replace hh := hh.drop
        replace hh := hh.drop
        replace hh := hh.drop
        replace hh := hh.drop
        replace hh := hh.drop
        exact ⟨I, none, 0, none, 0, rfl, (Snap.le.refl _), Fz.nil _ _, Nat.le_refl _, Fz.nil _ _, Nat.le_refl _, hh⟩
      · refine gy rfl he rfl ?_
        refine mv rfl rfl he fun a he => ?_
        refine gy rfl he rfl ?_
        refine nt rfl rfl he fun a he => ?_
        refine pkf rfl rfl rfl he fun a he => ?_
        refine mv rfl rfl he fun a he => ?_
        refine gy rfl he rfl ?_
        refine ldA [.slice A13 ((tokPd b).length) cc14, .slice A_7_1 pre.length c_7_1, .bool (decide ((0 : Int) < ((((numberG 3 lf bad).1 &&& 1) : Nat) : Int))), .bool (decide ((0 : Int) < ((((numberG 3 lf bad).1 &&& 2) : Nat) : Int)))] rb_30 ti_30 rfl ((Rd.obj hh.at0 0).take 4) rfl rfl he fun a he => ?_
        refine gy rfl he rfl ?_
        replace hh := hh.up4
        have hc55 := (Ch.rowcap hh.at0).1
        obtain ⟨I52, hl53, hh, hf54⟩ := hh.freezeRow
        replace hh := hh.up3
        have hc59 := (Ch.rowcap hh.at0).1
        obtain ⟨I56, hl57, hh, hf58⟩ := hh.freezeRow
        refine cal cb_9 rfl (token_Put _ _ _ A13 cc14 (tokPd b) A_7_1 c_7_1 pre (decide ((0 : Int) < ((((numberG 3 lf bad).1 &&& 1) : Nat) : Int))) (decide ((0 : Int) < ((((numberG 3 lf bad).1 &&& 2) : Nat) : Int))) hh (hf54.up hl57) hc55 hf58 hc59 (by omega) (by omega) (fun c hc => by rw [← hW1] at hc; have := tokW_le b c hc; omega)) rfl he fun v a W hp he => ?_
        obtain ⟨I60, A62, cc63, rfl, hl61, hh⟩ := hp
        refine gy rfl he rfl ?_
        refine mv rfl rfl he fun a he => ?_
        refine gy rfl he rfl ?_
        have hc68 := (Ch.rowcap hh.at0).1
        obtain ⟨I65, hl66, hh, hf67⟩ := hh.freezeRow
        refine cal cb_23 rfl (bytes_Equal _ _ _ A62 cc63 (tokPut (tokPd b) pre (decide ((0 : Int) < ((((numberG 3 lf bad).1 &&& 1) : Nat) : Int))) (decide ((0 : Int) < ((((numberG 3 lf bad).1 &&& 2) : Nat) : Int)))) A_b c_b b hh hf67 hc68 (h_b.up (((hl53.trans hl57).trans hl61).trans hl66)) k_b) rfl he fun v a W hp he => ?_
        obtain ⟨rfl, hh⟩ := hp
        refine gy rfl he rfl ?_
        refine nt rfl rfl he fun a he => ?_
        refine pkf rfl rfl rfl he fun a he => ?_
        refine en ?_
        refine cnb he rfl (fun heq => ?_) (fun heq => ?_)
        · refine sq ?_
          refine rg ?_
          refine bld #[.slice none 0 0, .slice none 0 0, .bool false, .bool false] rfl (by kernel_rfl) rfl he fun a he => ?_
          replace hh := hh.up3
          refine st #[.slice none 0 0, .slice none 0 0, .bool false, .bool false] ti_30 rfl rfl rfl rfl (by simp [Value.oneCell']) (by simp) he hh fun W hh => ?_
          replace hh : Hp I65 (.obj bb1 (.cells [.slice none 0 0, .slice none 0 0, .bool false, .bool false].toArray 30) :: _) W := hh
          refine asg rfl rfl he fun a he => ?_
          refine en ?_
          refine rt ?_
          refine retsCT Try.results7 he rfl (loadVar_run rb_30 ti_30 ((Rd.obj hh.at0 0).take 4) rfl) rfl (Ret.mk ?_)
          have hok : tokOk b = false := by simp only [tokOk, tokMk, tokLg, hG, hW1]; generalize decide (tokPut (tokPd b) pre (decide ((0 : Int) < (((numberG 3 lf bad).1 &&& 1 : Nat) : Int))) (decide ((0 : Int) < (((numberG 3 lf bad).1 &&& 2 : Nat) : Int))) = b) = q at heq ⊢; simp at gbad heq; simp [gpd, gbad, heq]
          rw [tokGet, if_neg (by rw [hok]; decide)]
          replace hh := hh.drop
          replace hh := hh.drop
          replace hh := hh.drop
          replace hh := hh.drop
          exact ⟨I65, none, 0, none, 0, rfl, (((hl53.trans hl57).trans hl61).trans hl66), Fz.nil _ _, Nat.le_refl _, Fz.nil _ _, Nat.le_refl _, hh⟩
        · refine sk ?_
          refine nm_then ?_
          refine sq ?_
          refine rg ?_
          refine ldA [.slice A13 ((tokPd b).length) cc14, .slice A_7_1 pre.length c_7_1, .bool (decide ((0 : Int) < ((((numberG 3 lf bad).1 &&& 1) : Nat) : Int))), .bool (decide ((0 : Int) < ((((numberG 3 lf bad).1 &&& 2) : Nat) : Int)))] rb_30 ti_30 rfl ((Rd.obj hh.at0 0).take 4) rfl rfl he fun a he => ?_
          replace hh := hh.up3
          refine st #[.slice A13 ((tokPd b).length) cc14, .slice A_7_1 pre.length c_7_1, .bool (decide ((0 : Int) < ((((numberG 3 lf bad).1 &&& 1) : Nat) : Int))), .bool (decide ((0 : Int) < ((((numberG 3 lf bad).1 &&& 2) : Nat) : Int)))] ti_30 rfl rfl rfl rfl (by simp [Value.oneCell']) (by simp) he hh fun W hh => ?_
          replace hh : Hp I65 (.obj bb1 (.cells [.slice A13 ((tokPd b).length) cc14, .slice A_7_1 pre.length c_7_1, .bool (decide ((0 : Int) < ((((numberG 3 lf bad).1 &&& 1) : Nat) : Int))), .bool (decide ((0 : Int) < ((((numberG 3 lf bad).1 &&& 2) : Nat) : Int)))].toArray 30) :: _) W := hh
          refine asg rfl rfl he fun a he => ?_
          refine en ?_
          refine rt ?_
          refine retsCT Try.results7 he rfl (loadVar_run rb_30 ti_30 ((Rd.obj hh.at0 0).take 4) rfl) rfl (Ret.mk ?_)
          have hok : tokOk b = true := by simp only [tokOk, tokMk, tokLg, hG, hW1]; generalize decide (tokPut (tokPd b) pre (decide ((0 : Int) < (((numberG 3 lf bad).1 &&& 1 : Nat) : Int))) (decide ((0 : Int) < (((numberG 3 lf bad).1 &&& 2 : Nat) : Int))) = b) = q at heq ⊢; simp at gbad heq; simp [gpd, gbad, heq]
          rw [tokGet, if_pos hok]
          simp only [tokMk, tokLg, hG, hW1]
          replace hh := hh.drop
          replace hh := hh.drop
          replace hh := hh.drop
          replace hh := hh.drop
          exact ⟨I65, A13, cc14, A_7_1, c_7_1, rfl, (((hl53.trans hl57).trans hl61).trans hl66), (hf54.up ((hl57.trans hl61).trans hl66)), hc55, (hf58.up (hl61.trans hl66)), hc59, hh⟩
    · replace gpd : ¬ (((tokPd b).length) = 0) := by omega
      refine gy rfl he rfl ?_
      refine fa fo_30_0 rfl rfl he fun a he => ?_
      refine gy rfl he rfl ?_
      refine ld rb_22 rfl (ocell hh.at0 rfl) rfl he fun a he => ?_
      refine gy rfl he rfl ?_
      replace hh := hh.up4
      have hc72 := (Ch.rowcap hh.at0).1
      obtain ⟨I69, hl70, hh, hf71⟩ := hh.freezeRow
      refine cal cb_22 rfl (utf_Pending _ _ _ A13 cc14 (tokPd b) hh hf71 hc72) rfl he fun v a W hp he => ?_
      obtain ⟨rfl, hh⟩ := hp
      refine pkf rfl rfl rfl he fun a he => ?_
      refine asg rfl rfl he fun a he => ?_
      refine en ?_
      refine sq ?_
      refine sq ?_
      refine rg ?_
      refine ld rb_31 rfl (ocell hh.at2 rfl) rfl he fun a he => ?_
      refine ne rfl rfl rfl he fun a he => ?_
      refine mv rfl rfl he fun a he => ?_
      refine sd he (t := 66) rfl (fun gbad he => ?_) (fun gbad he => ?_)
      · refine gn rfl rfl he rfl rfl fun a he => ?_
        refine gn rfl rfl he rfl rfl fun a he => ?_
        refine pkt rfl rfl rfl he fun a he => ?_
        refine mv rfl rfl he fun a he => ?_
        refine gn rfl rfl he rfl rfl fun a he => ?_
        refine gn rfl rfl he rfl rfl fun a he => ?_
        refine gn rfl rfl he rfl rfl fun a he => ?_
        refine gn rfl rfl he rfl rfl fun a he => ?_
        refine gn rfl rfl he rfl rfl fun a he => ?_
        refine pkt rfl rfl rfl he fun a he => ?_
        refine en ?_
        refine cnt he rfl ?_
        refine sq ?_
        refine rg ?_
        refine bld #[.slice none 0 0, .slice none 0 0, .bool false, .bool false] rfl (by kernel_rfl) rfl he fun a he => ?_
        replace hh := hh.up4
        refine st #[.slice none 0 0, .slice none 0 0, .bool false, .bool false] ti_30 rfl rfl rfl rfl (by simp [Value.oneCell']) (by simp) he hh fun W hh => ?_
        replace hh : Hp I69 (.obj bb1 (.cells [.slice none 0 0, .slice none 0 0, .bool false, .bool false].toArray 30) :: _) W := hh
        refine asg rfl rfl he fun a he => ?_
        refine en ?_
        refine rt ?_
        refine retsCT Try.results7 he rfl (loadVar_run rb_30 ti_30 ((Rd.obj hh.at0 0).take 4) rfl) rfl (Ret.mk ?_)
        have hok : tokOk b = false := by simp only [tokOk, tokMk, tokLg, hG, hW1]; simp [gpd, gbad]
        rw [tokGet, if_neg (by rw [hok]; decide)]
        replace hh := hh.drop
        replace hh := hh.drop
        replace hh := hh.drop
        replace hh := hh.drop
        replace hh := hh.drop
        exact ⟨I69, none, 0, none, 0, rfl, hl70, Fz.nil _ _, Nat.le_refl _, Fz.nil _ _, Nat.le_refl _, hh⟩
      · refine gy rfl he rfl ?_
        refine mv rfl rfl he fun a he => ?_
        refine gy rfl he rfl ?_
        refine nt rfl rfl he fun a he => ?_
        refine pkf rfl rfl rfl he fun a he => ?_
        refine mv rfl rfl he fun a he => ?_
        refine sb he (t := 70) rfl (fun gfine he => ?_) (fun gfine he => ?_)
        · refine gn rfl rfl he rfl rfl fun a he => ?_
          refine gn rfl rfl he rfl rfl fun a he => ?_
          refine gn rfl rfl he rfl rfl fun a he => ?_
          refine gn rfl rfl he rfl rfl fun a he => ?_
          refine gn rfl rfl he rfl rfl fun a he => ?_
          refine pkt rfl rfl rfl he fun a he => ?_
          refine en ?_
          refine cnt he rfl ?_
          refine sq ?_
          refine rg ?_
          refine bld #[.slice none 0 0, .slice none 0 0, .bool false, .bool false] rfl (by kernel_rfl) rfl he fun a he => ?_
          replace hh := hh.up4
          refine st #[.slice none 0 0, .slice none 0 0, .bool false, .bool false] ti_30 rfl rfl rfl rfl (by simp [Value.oneCell']) (by simp) he hh fun W hh => ?_
          replace hh : Hp I69 (.obj bb1 (.cells [.slice none 0 0, .slice none 0 0, .bool false, .bool false].toArray 30) :: _) W := hh
          refine asg rfl rfl he fun a he => ?_
          refine en ?_
          refine rt ?_
          refine retsCT Try.results7 he rfl (loadVar_run rb_30 ti_30 ((Rd.obj hh.at0 0).take 4) rfl) rfl (Ret.mk ?_)
          have hok : tokOk b = false := by simp only [tokOk, tokMk, tokLg, hG, hW1]; simp at gfine; simp [gpd, gbad, gfine]
          rw [tokGet, if_neg (by rw [hok]; decide)]
          replace hh := hh.drop
          replace hh := hh.drop
          replace hh := hh.drop
          replace hh := hh.drop
          replace hh := hh.drop
          exact ⟨I69, none, 0, none, 0, rfl, hl70, Fz.nil _ _, Nat.le_refl _, Fz.nil _ _, Nat.le_refl _, hh⟩
        · refine gy rfl he rfl ?_
          refine ldA [.slice A13 ((tokPd b).length) cc14, .slice A_7_1 pre.length c_7_1, .bool (decide ((0 : Int) < ((((numberG 3 lf bad).1 &&& 1) : Nat) : Int))), .bool (decide ((0 : Int) < ((((numberG 3 lf bad).1 &&& 2) : Nat) : Int)))] rb_30 ti_30 rfl ((Rd.obj hh.at0 0).take 4) rfl rfl he fun a he => ?_
          refine gy rfl he rfl ?_
          replace hh := hh.up3
          have hc76 := (Ch.rowcap hh.at0).1
          obtain ⟨I73, hl74, hh, hf75⟩ := hh.freezeRow
          refine cal cb_9 rfl (token_Put _ _ _ A13 cc14 (tokPd b) A_7_1 c_7_1 pre (decide ((0 : Int) < ((((numberG 3 lf bad).1 &&& 1) : Nat) : Int))) (decide ((0 : Int) < ((((numberG 3 lf bad).1 &&& 2) : Nat) : Int))) hh (hf71.up hl74) hc72 hf75 hc76 (by omega) (by omega) (fun c hc => by rw [← hW1] at hc; have := tokW_le b c hc; omega)) rfl he fun v a W hp he => ?_
          obtain ⟨I77, A79, cc80, rfl, hl78, hh⟩ := hp
          refine gy rfl he rfl ?_
          refine mv rfl rfl he fun a he => ?_
          refine gy rfl he rfl ?_
          have hc85 := (Ch.rowcap hh.at0).1
          obtain ⟨I82, hl83, hh, hf84⟩ := hh.freezeRow
          refine cal cb_23 rfl (bytes_Equal _ _ _ A79 cc80 (tokPut (tokPd b) pre (decide ((0 : Int) < ((((numberG 3 lf bad).1 &&& 1) : Nat) : Int))) (decide ((0 : Int) < ((((numberG 3 lf bad).1 &&& 2) : Nat) : Int)))) A_b c_b b hh hf84 hc85 (h_b.up (((hl70.trans hl74).trans hl78).trans hl83)) k_b) rfl he fun v a W hp he => ?_
          obtain ⟨rfl, hh⟩ := hp
          refine gy rfl he rfl ?_
          refine nt rfl rfl he fun a he => ?_
          refine pkf rfl rfl rfl he fun a he => ?_
          refine en ?_
          refine cnb he rfl (fun heq => ?_) (fun heq => ?_)
          · refine sq ?_
            refine rg ?_
            refine bld #[.slice none 0 0, .slice none 0 0, .bool false, .bool false] rfl (by kernel_rfl) rfl he fun a he => ?_
            replace hh := hh.up3
            refine st #[.slice none 0 0, .slice none 0 0, .bool false, .bool false] ti_30 rfl rfl rfl rfl (by simp [Value.oneCell']) (by simp) he hh fun W hh => ?_
            replace hh : Hp I82 (.obj bb1 (.cells [.slice none 0 0, .slice none 0 0, .bool false, .bool false].toArray 30) :: _) W := hh
            refine asg rfl rfl he fun a he => ?_
            refine en ?_
            refine rt ?_
            refine retsCT Try.results7 he rfl (loadVar_run rb_30 ti_30 ((Rd.obj hh.at0 0).take 4) rfl) rfl (Ret.mk ?_)
            have hok : tokOk b = false := by simp only [tokOk, tokMk, tokLg, hG, hW1]; generalize decide (tokPut (tokPd b) pre (decide ((0 : Int) < (((numberG 3 lf bad).1 &&& 1 : Nat) : Int))) (decide ((0 : Int) < (((numberG 3 lf bad).1 &&& 2 : Nat) : Int))) = b) = q at heq ⊢; simp at gbad gfine heq; simp [gpd, gbad, gfine, heq]
            rw [tokGet, if_neg (by rw [hok]; decide)]
            replace hh := hh.drop
            replace hh := hh.drop
            replace hh := hh.drop
            replace hh := hh.drop
            exact ⟨I82, none, 0, none, 0, rfl, (((hl70.trans hl74).trans hl78).trans hl83), Fz.nil _ _, Nat.le_refl _, Fz.nil _ _, Nat.le_refl _, hh⟩
          · refine sk ?_
            refine nm_then ?_
            refine sq ?_
            refine rg ?_
            refine ldA [.slice A13 ((tokPd b).length) cc14, .slice A_7_1 pre.length c_7_1, .bool (decide ((0 : Int) < ((((numberG 3 lf bad).1 &&& 1) : Nat) : Int))), .bool (decide ((0 : Int) < ((((numberG 3 lf bad).1 &&& 2) : Nat) : Int)))] rb_30 ti_30 rfl ((Rd.obj hh.at0 0).take 4) rfl rfl he fun a he => ?_
            replace hh := hh.up3
            refine st #[.slice A13 ((tokPd b).length) cc14, .slice A_7_1 pre.length c_7_1, .bool (decide ((0 : Int) < ((((numberG 3 lf bad).1 &&& 1) : Nat) : Int))), .bool (decide ((0 : Int) < ((((numberG 3 lf bad).1 &&& 2) : Nat) : Int)))] ti_30 rfl rfl rfl rfl (by simp [Value.oneCell']) (by simp) he hh fun W hh => ?_
            replace hh : Hp I82 (.obj bb1 (.cells [.slice A13 ((tokPd b).length) cc14, .slice A_7_1 pre.length c_7_1, .bool (decide ((0 : Int) < ((((numberG 3 lf bad).1 &&& 1) : Nat) : Int))), .bool (decide ((0 : Int) < ((((numberG 3 lf bad).1 &&& 2) : Nat) : Int)))].toArray 30) :: _) W := hh
            refine asg rfl rfl he fun a he => ?_
            refine en ?_
            refine rt ?_
            refine retsCT Try.results7 he rfl (loadVar_run rb_30 ti_30 ((Rd.obj hh.at0 0).take 4) rfl) rfl (Ret.mk ?_)
            have hok : tokOk b = true := by simp only [tokOk, tokMk, tokLg, hG, hW1]; generalize decide (tokPut (tokPd b) pre (decide ((0 : Int) < (((numberG 3 lf bad).1 &&& 1 : Nat) : Int))) (decide ((0 : Int) < (((numberG 3 lf bad).1 &&& 2 : Nat) : Int))) = b) = q at heq ⊢; simp at gbad gfine heq; simp [gpd, gbad, gfine, heq]
            rw [tokGet, if_pos hok]
            simp only [tokMk, tokLg, hG, hW1]
            replace hh := hh.drop
            replace hh := hh.drop
            replace hh := hh.drop
            replace hh := hh.drop
            exact ⟨I82, A13, cc14, A_7_1, c_7_1, rfl, (((hl70.trans hl74).trans hl78).trans hl83), (hf71.up ((hl74.trans hl78).trans hl83)), hc72, (hf75.up (hl78.trans hl83)), hc76, hh⟩

end Go.Proofs.Ytndaogkpgoimlaa

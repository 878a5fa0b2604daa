/- Walks through the given program's functions, printed op by op by this session's own program; what each computes is told by the plain functions of the texts S... -/
import Derived.Test.YtndaogkpgoimlaaDoorB4
import Derived.Test.YtndaogkpgoimlaaDoorK9
import Derived.Test.YtndaogkpgoimlaaDoorS20
import Derived.KernelRfl
namespace Go.Proofs.YtndaogkpgoimlaaDoor
open Go Go.RowKit K
set_option linter.unusedVariables false
theorem cb_25 : callable Tryd.prog 25 = true := by kernel_rfl
theorem cb_28 : callable Tryd.prog 28 = true := by kernel_rfl
theorem fo_36_0 : fieldOff Tryd.prog 36 0 = some 0 := by kernel_rfl
theorem fo_36_1 : fieldOff Tryd.prog 36 1 = some 1 := by kernel_rfl
theorem fo_36_2 : fieldOff Tryd.prog 36 2 = some 2 := by kernel_rfl
theorem fo_36_3 : fieldOff Tryd.prog 36 3 = some 3 := by kernel_rfl
theorem fo_36_4 : fieldOff Tryd.prog 36 4 = some 4 := by kernel_rfl
theorem fo_36_5 : fieldOff Tryd.prog 36 5 = some 5 := by kernel_rfl
theorem rb_22 : isRowB Tryd.prog 22 = some false := by kernel_rfl
theorem rb_3 : isRowB Tryd.prog 3 = some false := by kernel_rfl
theorem rb_59 : isRowB Tryd.prog 59 = some false := by kernel_rfl
theorem rb_60 : isRowB Tryd.prog 60 = some true := by kernel_rfl
theorem ti_59 : TI Tryd.prog 59 (.pointer none) 1 8 := ⟨by kernel_rfl, rfl⟩
theorem ti_60 : TI Tryd.prog 60 (.agg #[.pointer none, .pointer none, .pointer none, .pointer none]) 4 32 := ⟨by kernel_rfl, rfl⟩
theorem ts_22 : TS Tryd.prog 22 3 (.int .i64 0) 1 8 := ⟨Tryd.underlying22, ⟨by kernel_rfl, rfl⟩, by decide, by decide⟩
theorem prog_fields (I : Snap) (L : List Ch) (W : World) (b_p : Nat) (hh : Hp I L W)  :
    Calls Tryd.prog 25 #[.pointer (some ⟨b_p, 0, none⟩)] W (Ret fun v W => v = .agg #[.pointer (some ⟨b_p, 0, none⟩), .pointer (some ⟨b_p, 1, none⟩), .pointer (some ⟨b_p, 2, none⟩), .pointer (some ⟨b_p, 3, none⟩)] ∧ Hp I (L) W) := by
  refine enter Tryd.func25 rfl Tryd.ntmps25 rfl fun a he => ?_
  refine sq ?_
  refine rg ?_
  refine al ti_60 rfl he hh fun bb1 a W he hh => ?_
  replace hh : Hp I (.obj bb1 (.cells [.pointer none, .pointer none, .pointer none, .pointer none].toArray 60) :: _) W := hh
  refine en ?_
  refine sq ?_
  refine rgd (SH I []) 14 mixo rfl hh fun W hh => ?_
  refine ahp (d := 3) (v := .pointer (some ⟨b_p, 0, none⟩)) 0 rfl (by kernel_rfl) (by kernel_rfl) (by kernel_rfl) rfl rfl rfl he ⟨_, _, (Snap.le.refl _), hh⟩ (fun W hS => by
      refine mv rfl rfl he fun a he => ?_
      exact aqe he) fun a he => ?_
  refine ahk 1 rfl (by kernel_rfl) (by kernel_rfl) (by kernel_rfl) rfl rfl he ⟨_, _, (Snap.le.refl _), hh⟩ fun a he => ?_
  refine ahp (d := 5) (v := .pointer (some ⟨b_p, 0, none⟩)) 2 rfl (by kernel_rfl) (by kernel_rfl) (by kernel_rfl) rfl rfl rfl he ⟨_, _, (Snap.le.refl _), hh⟩ (fun W hS => by
      refine fa fo_36_0 rfl rfl he fun a he => ?_
      exact aqe he) fun a he => ?_
  refine ahp (d := 6) (v := .pointer (some ⟨b_p, 0, none⟩)) 3 rfl (by kernel_rfl) (by kernel_rfl) (by kernel_rfl) rfl rfl rfl he ⟨_, _, (Snap.le.refl _), hh⟩ (fun W hS => by
      refine mv rfl rfl he fun a he => ?_
      exact aqe he) fun a he => ?_
  refine ahk 4 rfl (by kernel_rfl) (by kernel_rfl) (by kernel_rfl) rfl rfl he ⟨_, _, (Snap.le.refl _), hh⟩ fun a he => ?_
  refine ahp (d := 8) (v := .pointer (some ⟨b_p, 1, none⟩)) 5 rfl (by kernel_rfl) (by kernel_rfl) (by kernel_rfl) rfl rfl rfl he ⟨_, _, (Snap.le.refl _), hh⟩ (fun W hS => by
      refine fa fo_36_1 rfl rfl he fun a he => ?_
      exact aqe he) fun a he => ?_
  refine ahp (d := 9) (v := .pointer (some ⟨b_p, 0, none⟩)) 6 rfl (by kernel_rfl) (by kernel_rfl) (by kernel_rfl) rfl rfl rfl he ⟨_, _, (Snap.le.refl _), hh⟩ (fun W hS => by
      refine mv rfl rfl he fun a he => ?_
      exact aqe he) fun a he => ?_
  refine ahk 7 rfl (by kernel_rfl) (by kernel_rfl) (by kernel_rfl) rfl rfl he ⟨_, _, (Snap.le.refl _), hh⟩ fun a he => ?_
  refine ahp (d := 11) (v := .pointer (some ⟨b_p, 2, none⟩)) 8 rfl (by kernel_rfl) (by kernel_rfl) (by kernel_rfl) rfl rfl rfl he ⟨_, _, (Snap.le.refl _), hh⟩ (fun W hS => by
      refine fa fo_36_2 rfl rfl he fun a he => ?_
      exact aqe he) fun a he => ?_
  refine ahp (d := 12) (v := .pointer (some ⟨b_p, 0, none⟩)) 9 rfl (by kernel_rfl) (by kernel_rfl) (by kernel_rfl) rfl rfl rfl he ⟨_, _, (Snap.le.refl _), hh⟩ (fun W hS => by
      refine mv rfl rfl he fun a he => ?_
      exact aqe he) fun a he => ?_
  refine ahk 10 rfl (by kernel_rfl) (by kernel_rfl) (by kernel_rfl) rfl rfl he ⟨_, _, (Snap.le.refl _), hh⟩ fun a he => ?_
  refine ahp (d := 14) (v := .pointer (some ⟨b_p, 3, none⟩)) 11 rfl (by kernel_rfl) (by kernel_rfl) (by kernel_rfl) rfl rfl rfl he ⟨_, _, (Snap.le.refl _), hh⟩ (fun W hS => by
      refine fa fo_36_3 rfl rfl he fun a he => ?_
      exact aqe he) fun a he => ?_
  refine ahp (d := 15) (v := .agg #[.pointer (some ⟨b_p, 0, none⟩), .pointer (some ⟨b_p, 1, none⟩), .pointer (some ⟨b_p, 2, none⟩), .pointer (some ⟨b_p, 3, none⟩)]) 12 rfl (by kernel_rfl) (by kernel_rfl) (by kernel_rfl) rfl rfl rfl he ⟨_, _, (Snap.le.refl _), hh⟩ (fun W hS => by
      refine bld #[.pointer (some ⟨b_p, 0, none⟩), .pointer (some ⟨b_p, 1, none⟩), .pointer (some ⟨b_p, 2, none⟩), .pointer (some ⟨b_p, 3, none⟩)] rfl (by kernel_rfl) rfl he fun a he => ?_
      exact aqe he) fun a he => ?_
  refine aha1 (i := 13) (by kernel_rfl) ?_
  refine aop rfl ?_
  refine st #[.pointer (some ⟨b_p, 0, none⟩), .pointer (some ⟨b_p, 1, none⟩), .pointer (some ⟨b_p, 2, none⟩), .pointer (some ⟨b_p, 3, none⟩)] ti_60 rfl rfl rfl rfl (by simp [Value.oneCell']) (by simp) he hh fun W hh => ?_
  replace hh : Hp I (.obj bb1 (.cells [.pointer (some ⟨b_p, 0, none⟩), .pointer (some ⟨b_p, 1, none⟩), .pointer (some ⟨b_p, 2, none⟩), .pointer (some ⟨b_p, 3, none⟩)].toArray 60) :: _) W := hh
  refine aen ⟨_, _, (Snap.le.refl _), hh⟩ ?_
  refine ahd (by kernel_rfl) ?_
  refine en ?_
  refine rt ?_
  refine retsC Tryd.results25 he rfl (loadVar_run rb_60 ti_60 ((Rd.obj hh.at0 0).take 4) rfl) (Ret.mk ?_)
  replace hh := hh.drop
  exact ⟨rfl, hh⟩

theorem prog_number (I : Snap) (L : List Ch) (W : World) (x : Int) (b_o : Nat) (A_q : Option Addr) (c_q : Nat) (q : List UInt8) (hh : Hp I (.obj b_o (.cells #[.slice A_q q.length c_q] 23) :: .row A_q q.length c_q 5 1 (q.map b8) :: L) W)  (hb : q.length ≤ 1000000000000) (hx : x < 9223372036854775808) :
    Calls Tryd.prog 28 #[.int .i64 x, .pointer (some ⟨b_o, 0, none⟩)] W (Ret fun v W => ∃ (I' : Snap) (A1 : Option Addr) (c1 : Nat), v = .tuple #[] ∧ I.le I' ∧ Hp I' (.row A1 (q ++ putN x.toNat).length c1 5 1 ((q ++ putN x.toNat).map b8) :: .obj b_o (.cells #[.slice A1 (q ++ putN x.toNat).length c1] 23) :: L) W) := by
  refine enter Tryd.func28 rfl Tryd.ntmps28 rfl fun a he => ?_
  refine rg ?_
  refine ld rb_23 rfl (ocell hh.at0 rfl) rfl he fun a he => ?_
  refine mv rfl rfl he fun a he => ?_
  refine mx ((x.toNat : Nat) : Int) rfl rfl (by split <;> omega) rfl he fun a he => ?_
  refine ci ((x.toNat : Nat) : Int) .u64 ud_3 Tryd.underlying55 rfl (wu64 (by omega) (by omega)) rfl he fun a he => ?_
  replace hh := hh.up1
  have hc4 := (Ch.rowcap hh.at0).1
  obtain ⟨I1, hl2, hh, hf3⟩ := hh.freezeRow
  refine cal cb_29 rfl (num_Put _ _ _ A_q c_q q x.toNat hh hf3 hc4 hb (by omega)) rfl he fun v a W hp he => ?_
  obtain ⟨A5, cc6, rfl, hh⟩ := hp
  replace hh := hh.up1
  refine st #[.slice A5 ((q ++ putN x.toNat).length) cc6] ti_23 rfl rfl rfl rfl (by simp [Value.oneCell']) (by simp) he hh fun W hh => ?_
  replace hh : Hp I1 (.obj b_o (.cells [.slice A5 ((q ++ putN x.toNat).length) cc6].toArray 23) :: _) W := hh
  refine rets0' Tryd.results28 he (Ret.mk ?_)
  replace hh := hh.up1
  exact ⟨I1, A5, cc6, rfl, hl2, hh⟩

theorem prog_Put (I : Snap) (L : List Ch) (W : World) (ph : Int) (fl : Int) (of_ : Int) (nx : Int) (A_rs : Option Addr) (c_rs : Nat) (rs : List Int) (A_pd : Option Addr) (c_pd : Nat) (pd : List UInt8) (A_wd : Option Addr) (c_wd : Nat) (wd : List Int) (mk : Bool) (lg : Bool) (hh : Hp I L W) (h_rs : Fz I A_rs (rs.map i64v)) (k_rs : rs.length ≤ c_rs) (h_pd : Fz I A_pd (pd.map b8)) (k_pd : pd.length ≤ c_pd) (h_wd : Fz I A_wd (wd.map r32)) (k_wd : wd.length ≤ c_wd) (hr : (ph < 9223372036854775808 ∧ fl < 9223372036854775808 ∧ of_ < 9223372036854775808 ∧ nx < 9223372036854775808)) (hrs : ∀ c ∈ rs, c < 9223372036854775808) (hrl : rs.length ≤ 1000000000) (hb : pd.length ≤ 100000000000) (hb2 : wd.length ≤ 10000000000) (hc : ∀ c ∈ wd, c < 4294967296) :
    Calls Tryd.prog 11 #[.agg #[.int .i64 ph, .int .i64 fl, .int .i64 of_, .int .i64 nx, .slice A_rs rs.length c_rs, .slice A_pd pd.length c_pd, .slice A_wd wd.length c_wd, .bool mk, .bool lg]] W (Ret fun v W => ∃ (I' : Snap) (A1 : Option Addr) (c1 : Nat), v = .slice A1 (progPut ph fl of_ nx rs pd wd mk lg).length c1 ∧ I.le I' ∧ Hp I' (.row A1 (progPut ph fl of_ nx rs pd wd mk lg).length c1 5 1 ((progPut ph fl of_ nx rs pd wd mk lg).map b8) :: L) W) := by
  refine enter Tryd.func11 rfl Tryd.ntmps11 rfl fun a he => ?_
  refine sq ?_
  refine rg ?_
  refine bx #[.int .i64 ph, .int .i64 fl, .int .i64 of_, .int .i64 nx, .slice A_rs rs.length c_rs, .slice A_pd pd.length c_pd, .slice A_wd wd.length c_wd, .bool mk, .bool lg] rfl rfl rfl he hh fun bb1 a W he hh => ?_
  replace hh : Hp I (.obj bb1 (.cells [.int .i64 ph, .int .i64 fl, .int .i64 of_, .int .i64 nx, .slice A_rs rs.length c_rs, .slice A_pd pd.length c_pd, .slice A_wd wd.length c_wd, .bool mk, .bool lg].toArray 36) :: _) W := hh
  refine asg rfl rfl he fun a he => ?_
  refine en ?_
  refine sq ?_
  refine rg ?_
  refine al ti_23 rfl he hh fun bb2 a W he hh => ?_
  replace hh : Hp I (.obj bb2 (.cells [.slice none 0 0].toArray 23) :: _) W := hh
  refine en ?_
  refine sq ?_
  refine rg ?_
  refine mkf (vs := []) (ws := [.pointer (some ⟨bb2, 0, none⟩)]) rfl rfl rfl he fun a he => ?_
  refine asg rfl rfl he fun a he => ?_
  refine en ?_
  refine sq ?_
  refine sq ?_
  refine rg ?_
  refine cal cb_25 rfl (prog_fields _ _ _ bb1 hh ) rfl he fun v a W hp he => ?_
  obtain ⟨rfl, hh⟩ := hp
  refine mv rfl rfl he fun a he => ?_
  refine en ?_
  refine bk ?_
  replace hh := hh.nilrow 5 1
  replace hh := hh.up2
  replace hh := hh.up2
  replace hh := hh.up2
  refine lp (fun (s : Nat × List UInt8) a w => match s with | (i, q) => ∃ (I4 : Snap) (A_3_0 : Option Addr) (c_3_0 : Nat), I.le I4 ∧ Env 41 [(0, .agg #[.int .i64 ph, .int .i64 fl, .int .i64 of_, .int .i64 nx, .slice A_rs rs.length c_rs, .slice A_pd pd.length c_pd, .slice A_wd wd.length c_wd, .bool mk, .bool lg]), (1, .pointer (some ⟨bb1, 0, none⟩)), (2, .slice none 0 0), (3, .pointer (some ⟨bb2, 0, none⟩)), (4, .func (.func 28) #[] #[.pointer (some ⟨bb2, 0, none⟩)]), (10, .agg #[.pointer (some ⟨bb1, 0, none⟩), .pointer (some ⟨bb1, 1, none⟩), .pointer (some ⟨bb1, 2, none⟩), .pointer (some ⟨bb1, 3, none⟩)]), (11, .int .i64 ((i : Nat) : Int))] a ∧ Hp I4 (.row A_3_0 q.length c_3_0 5 1 (q.map b8) :: .obj bb2 (.cells ([.slice A_3_0 q.length c_3_0]).toArray 23) :: .obj bb1 (.cells ([.int .i64 ph, .int .i64 fl, .int .i64 of_, .int .i64 nx, .slice A_rs rs.length c_rs, .slice A_pd pd.length c_pd, .slice A_wd wd.length c_wd, .bool mk, .bool lg]).toArray 36) :: L) w ∧ i ≤ 4 ∧ q.length ≤ 10 * i ∧ q ++ putAll ((fours ph fl of_ nx).drop i) = putAll (fours ph fl of_ nx))
      (fun s => 4 - s.1) (0, []) ⟨I, none, 0, Snap.le.refl _, he.keep [0, 1, 2, 3, 4, 10, 11] rfl, hh, Nat.zero_le _, Nat.le_refl _, by simp⟩ fun s a W hinv => ?_
  obtain ⟨i, q⟩ := s
  obtain ⟨I4, A_3_0, c_3_0, hleI4, he, hh, hi, hl, hinv⟩ := hinv
  refine sq ?_
  refine rg ?_
  refine lt rfl rfl rfl he fun a he => ?_
  refine en ?_
  refine sq ?_
  refine cnd he rfl (fun h5 => ?_) (fun h5 => ?_)
  · replace h5 : i < 4 := by omega
    refine sk ?_
    refine nm_then ?_
    refine sq ?_
    refine bk ?_
    refine sq ?_
    rcases (show i = 0 ∨ i = 1 ∨ i = 2 ∨ i = 3 by omega) with hq | hq | hq | hq
    · refine rg ?_
      refine ixa (vs := [.pointer (some ⟨bb1, 0, none⟩), .pointer (some ⟨bb1, 1, none⟩), .pointer (some ⟨bb1, 2, none⟩), .pointer (some ⟨bb1, 3, none⟩)]) (i) Tryd.underlying60 rb_59 ti_59 rfl rfl (by rw [hq]; rfl) (by omega) rfl he fun a he => ?_
      refine asg rfl rfl he fun a he => ?_
      refine en ?_
      refine rg ?_
      refine mv rfl rfl he fun a he => ?_
      refine mv rfl rfl he fun a he => ?_
      refine nck rfl rfl he fun a he => ?_
      refine ld rb_3 rfl (ocell hh.at2 rfl) rfl he fun a he => ?_
      replace hh := hh.up1
      refine calc' (us := [.int .i64 ph, .pointer (some ⟨bb2, 0, none⟩)]) cb_28 rfl rfl (by first | (simp; done) | (simp; rfl)) (prog_number _ _ _ ph bb2 A_3_0 c_3_0 q hh (by omega) (by omega)) rfl he fun v a W hp he => ?_
      obtain ⟨I6, A8, cc9, rfl, hl7, hh⟩ := hp
      refine en_blk ?_
      refine nm_then ?_
      refine rg ?_
      refine ad (((i + 1) : Nat) : Int) rfl rfl (w64 (by omega) (by omega)) rfl he fun a he => ?_
      refine mv rfl rfl he fun a he => ?_
      refine en ?_
      replace hh := hh.up2
      replace hh := hh.up2
      replace hh := hh.up2
      exact ⟨(i + 1, q ++ putN ph.toNat), ⟨I6, A8, cc9, (hleI4.trans hl7), he.keep [0, 1, 2, 3, 4, 10, 11] rfl, hh, by omega, by have h1 := putN_ten (n := ph.toNat) (by omega); rw [List.length_append]; omega, putAll_next hinv (show (fours ph fl of_ nx)[i]? = some ph by rw [hq]; rfl)⟩, by show 4 - (i + 1) < 4 - i; omega⟩
    · refine rg ?_
      refine ixa (vs := [.pointer (some ⟨bb1, 0, none⟩), .pointer (some ⟨bb1, 1, none⟩), .pointer (some ⟨bb1, 2, none⟩), .pointer (some ⟨bb1, 3, none⟩)]) (i) Tryd.underlying60 rb_59 ti_59 rfl rfl (by rw [hq]; rfl) (by omega) rfl he fun a he => ?_
      refine asg rfl rfl he fun a he => ?_
      refine en ?_
      refine rg ?_
      refine mv rfl rfl he fun a he => ?_
      refine mv rfl rfl he fun a he => ?_
      refine nck rfl rfl he fun a he => ?_
      refine ld rb_3 rfl (ocell hh.at2 rfl) rfl he fun a he => ?_
      replace hh := hh.up1
      refine calc' (us := [.int .i64 fl, .pointer (some ⟨bb2, 0, none⟩)]) cb_28 rfl rfl (by first | (simp; done) | (simp; rfl)) (prog_number _ _ _ fl bb2 A_3_0 c_3_0 q hh (by omega) (by omega)) rfl he fun v a W hp he => ?_
      obtain ⟨I11, A13, cc14, rfl, hl12, hh⟩ := hp
      refine en_blk ?_
      refine nm_then ?_
      refine rg ?_
      refine ad (((i + 1) : Nat) : Int) rfl rfl (w64 (by omega) (by omega)) rfl he fun a he => ?_
      refine mv rfl rfl he fun a he => ?_
      refine en ?_
      replace hh := hh.up2
      replace hh := hh.up2
      replace hh := hh.up2
      exact ⟨(i + 1, q ++ putN fl.toNat), ⟨I11, A13, cc14, (hleI4.trans hl12), he.keep [0, 1, 2, 3, 4, 10, 11] rfl, hh, by omega, by have h1 := putN_ten (n := fl.toNat) (by omega); rw [List.length_append]; omega, putAll_next hinv (show (fours ph fl of_ nx)[i]? = some fl by rw [hq]; rfl)⟩, by show 4 - (i + 1) < 4 - i; omega⟩
    · refine rg ?_
      refine ixa (vs := [.pointer (some ⟨bb1, 0, none⟩), .pointer (some ⟨bb1, 1, none⟩), .pointer (some ⟨bb1, 2, none⟩), .pointer (some ⟨bb1, 3, none⟩)]) (i) Tryd.underlying60 rb_59 ti_59 rfl rfl (by rw [hq]; rfl) (by omega) rfl he fun a he => ?_
      refine asg rfl rfl he fun a he => ?_
      refine en ?_
      refine rg ?_
      refine mv rfl rfl he fun a he => ?_
      refine mv rfl rfl he fun a he => ?_
      refine nck rfl rfl he fun a he => ?_
      refine ld rb_3 rfl (ocell hh.at2 rfl) rfl he fun a he => ?_
      replace hh := hh.up1
      refine calc' (us := [.int .i64 of_, .pointer (some ⟨bb2, 0, none⟩)]) cb_28 rfl rfl (by first | (simp; done) | (simp; rfl)) (prog_number _ _ _ of_ bb2 A_3_0 c_3_0 q hh (by omega) (by omega)) rfl he fun v a W hp he => ?_
      obtain ⟨I16, A18, cc19, rfl, hl17, hh⟩ := hp
      refine en_blk ?_
      refine nm_then ?_
      refine rg ?_
      refine ad (((i + 1) : Nat) : Int) rfl rfl (w64 (by omega) (by omega)) rfl he fun a he => ?_
      refine mv rfl rfl he fun a he => ?_
      refine en ?_
      replace hh := hh.up2
      replace hh := hh.up2
      replace hh := hh.up2
      exact ⟨(i + 1, q ++ putN of_.toNat), ⟨I16, A18, cc19, (hleI4.trans hl17), he.keep [0, 1, 2, 3, 4, 10, 11] rfl, hh, by omega, by have h1 := putN_ten (n := of_.toNat) (by omega); rw [List.length_append]; omega, putAll_next hinv (show (fours ph fl of_ nx)[i]? = some of_ by rw [hq]; rfl)⟩, by show 4 - (i + 1) < 4 - i; omega⟩
    · refine rg ?_
      refine ixa (vs := [.pointer (some ⟨bb1, 0, none⟩), .pointer (some ⟨bb1, 1, none⟩), .pointer (some ⟨bb1, 2, none⟩), .pointer (some ⟨bb1, 3, none⟩)]) (i) Tryd.underlying60 rb_59 ti_59 rfl rfl (by rw [hq]; rfl) (by omega) rfl he fun a he => ?_
      refine asg rfl rfl he fun a he => ?_
      refine en ?_
      refine rg ?_
      refine mv rfl rfl he fun a he => ?_
      refine mv rfl rfl he fun a he => ?_
      refine nck rfl rfl he fun a he => ?_
      refine ld rb_3 rfl (ocell hh.at2 rfl) rfl he fun a he => ?_
      replace hh := hh.up1
      refine calc' (us := [.int .i64 nx, .pointer (some ⟨bb2, 0, none⟩)]) cb_28 rfl rfl (by first | (simp; done) | (simp; rfl)) (prog_number _ _ _ nx bb2 A_3_0 c_3_0 q hh (by omega) (by omega)) rfl he fun v a W hp he => ?_
      obtain ⟨I21, A23, cc24, rfl, hl22, hh⟩ := hp
      refine en_blk ?_
      refine nm_then ?_
      refine rg ?_
      refine ad (((i + 1) : Nat) : Int) rfl rfl (w64 (by omega) (by omega)) rfl he fun a he => ?_
      refine mv rfl rfl he fun a he => ?_
      refine en ?_
      replace hh := hh.up2
      replace hh := hh.up2
      replace hh := hh.up2
      exact ⟨(i + 1, q ++ putN nx.toNat), ⟨I21, A23, cc24, (hleI4.trans hl22), he.keep [0, 1, 2, 3, 4, 10, 11] rfl, hh, by omega, by have h1 := putN_ten (n := nx.toNat) (by omega); rw [List.length_append]; omega, putAll_next hinv (show (fours ph fl of_ nx)[i]? = some nx by rw [hq]; rfl)⟩, by show 4 - (i + 1) < 4 - i; omega⟩
  · replace h5 : ¬ (i < 4) := by omega
    refine ext ?_
    refine ex_then ?_
    refine ex_then ?_
    refine ex_in ?_
    refine nm_then ?_
    refine sq ?_
    refine rg ?_
    refine mv rfl rfl he fun a he => ?_
    refine fa fo_36_4 rfl rfl he fun a he => ?_
    refine ld rb_22 rfl (ocell hh.at2 rfl) rfl he fun a he => ?_
    refine ln Tryd.underlying22 rfl rfl he fun a he => ?_
    replace hh := hh.up1
    refine calc' (us := [.int .i64 ((rs.length : Nat) : Int), .pointer (some ⟨bb2, 0, none⟩)]) cb_28 rfl rfl (by first | (simp; done) | (simp; rfl)) (prog_number _ _ _ ((rs.length : Nat) : Int) bb2 A_3_0 c_3_0 q hh (by omega) (by omega)) rfl he fun v a W hp he => ?_
    obtain ⟨I26, A28, cc29, rfl, hl27, hh⟩ := hp
    refine en ?_
    refine sq ?_
    refine sq ?_
    refine rg ?_
    refine fa fo_36_4 rfl rfl he fun a he => ?_
    refine ld rb_22 rfl (ocell hh.at2 rfl) rfl he fun a he => ?_
    refine ln Tryd.underlying22 rfl rfl he fun a he => ?_
    refine mv rfl rfl he fun a he => ?_
    refine en ?_
    refine bk ?_
    have hq0 := putAll_end hinv (show (fours ph fl of_ nx).length ≤ i by show 4 ≤ i; omega)
    replace hh := hh.up2
    replace hh := hh.up2
    replace hh := hh.up2
    refine lp (fun (s : Nat × List UInt8) a w => match s with | (j, q2) => ∃ (I31 : Snap) (A_3_0 : Option Addr) (c_3_0 : Nat), I26.le I31 ∧ Env 41 [(0, .agg #[.int .i64 ph, .int .i64 fl, .int .i64 of_, .int .i64 nx, .slice A_rs rs.length c_rs, .slice A_pd pd.length c_pd, .slice A_wd wd.length c_wd, .bool mk, .bool lg]), (1, .pointer (some ⟨bb1, 0, none⟩)), (2, .slice none 0 0), (3, .pointer (some ⟨bb2, 0, none⟩)), (4, .func (.func 28) #[] #[.pointer (some ⟨bb2, 0, none⟩)]), (26, .slice A_rs rs.length c_rs), (27, .int .i64 ((rs.length : Nat) : Int)), (28, .int .i64 ((j : Nat) : Int))] a ∧ Hp I31 (.row A_3_0 q2.length c_3_0 5 1 (q2.map b8) :: .obj bb2 (.cells ([.slice A_3_0 q2.length c_3_0]).toArray 23) :: .obj bb1 (.cells ([.int .i64 ph, .int .i64 fl, .int .i64 of_, .int .i64 nx, .slice A_rs rs.length c_rs, .slice A_pd pd.length c_pd, .slice A_wd wd.length c_wd, .bool mk, .bool lg]).toArray 36) :: L) w ∧ j ≤ rs.length ∧ q2.length ≤ 60 + 10 * j ∧ q2 ++ putAll (rs.drop j) = (putAll (fours ph fl of_ nx) ++ putN rs.length) ++ putAll rs)
        (fun s => rs.length - s.1) (0, q ++ putN ((rs.length : Nat) : Int).toNat) ⟨I26, A28, cc29, Snap.le.refl _, he.keep [0, 1, 2, 3, 4, 26, 27, 28] rfl, hh, Nat.zero_le _, by have h1 := putN_ten (n := ((rs.length : Nat) : Int).toNat) (by omega); rw [List.length_append]; omega, by rw [hq0]; simp⟩ fun s a W hinv => ?_
    obtain ⟨j, q2⟩ := s
    obtain ⟨I31, A_3_0, c_3_0, hleI31, he, hh, hj, hl2, hinv2⟩ := hinv
    refine sq ?_
    refine rg ?_
    refine lt rfl rfl rfl he fun a he => ?_
    refine en ?_
    refine sq ?_
    refine cnd he rfl (fun h32 => ?_) (fun h32 => ?_)
    · replace h32 : j < rs.length := by omega
      refine sk ?_
      refine nm_then ?_
      refine sq ?_
      refine bk ?_
      refine sq ?_
      refine rg ?_
      obtain ⟨x, hx⟩ := idx_some (xs := rs) (i := j) (by omega)
      refine ia1 (xs := rs) (j) ts_22 rfl rfl ((h_rs.up ((hleI4.trans hl27).trans hleI31)).rd hh) hx rfl he fun bb33 oo34 a hc35 he => ?_
      refine ld rb_3 rfl hc35 rfl he fun a he => ?_
      have hxx := hrs x (List.mem_of_getElem? hx)
      refine asg rfl rfl he fun a he => ?_
      refine en ?_
      refine rg ?_
      refine mv rfl rfl he fun a he => ?_
      refine mv rfl rfl he fun a he => ?_
      replace hh := hh.up1
      refine calc' (us := [.int .i64 x, .pointer (some ⟨bb2, 0, none⟩)]) cb_28 rfl rfl (by first | (simp; done) | (simp; rfl)) (prog_number _ _ _ x bb2 A_3_0 c_3_0 q2 hh (by omega) (by omega)) rfl he fun v a W hp he => ?_
      obtain ⟨I36, A38, cc39, rfl, hl37, hh⟩ := hp
      refine en_blk ?_
      refine nm_then ?_
      refine rg ?_
      refine ad (((j + 1) : Nat) : Int) rfl rfl (w64 (by omega) (by omega)) rfl he fun a he => ?_
      refine mv rfl rfl he fun a he => ?_
      refine en ?_
      replace hh := hh.up2
      replace hh := hh.up2
      replace hh := hh.up2
      exact ⟨(j + 1, q2 ++ putN x.toNat), ⟨I36, A38, cc39, (hleI31.trans hl37), he.keep [0, 1, 2, 3, 4, 26, 27, 28] rfl, hh, by omega, by have h1 := putN_ten (n := x.toNat) (by omega); rw [List.length_append]; omega, putAll_next hinv2 hx⟩, by show rs.length - (j + 1) < rs.length - j; omega⟩
    · replace h32 : ¬ (j < rs.length) := by omega
      refine ext ?_
      refine ex_then ?_
      refine ex_then ?_
      refine ex_in ?_
      refine nm_then ?_
      refine sq ?_
      replace hh := hh.up2
      replace hh := hh.up2
      refine rgd (SH I31 [.obj bb2 (.cells ([.slice A_3_0 q2.length c_3_0]).toArray 23), .obj bb1 (.cells ([.int .i64 ph, .int .i64 fl, .int .i64 of_, .int .i64 nx, .slice A_rs rs.length c_rs, .slice A_pd pd.length c_pd, .slice A_wd wd.length c_wd, .bool mk, .bool lg]).toArray 36)]) 6 mixo rfl hh fun W hh => ?_
      refine ahp (d := 36) (v := .slice A_3_0 q2.length c_3_0) 0 rfl (by kernel_rfl) (by kernel_rfl) (by kernel_rfl) rfl rfl rfl he ⟨_, _, (Snap.le.refl _), hh⟩ (fun W hS => by
          obtain ⟨I41, _, hleI41, hh⟩ := hS
          refine ld rb_23 rfl (ocell hh.at0 rfl) rfl he fun a he => ?_
          exact aqe he) fun a he => ?_
      refine ahp (d := 37) (v := .pointer (some ⟨bb1, 5, none⟩)) 1 rfl (by kernel_rfl) (by kernel_rfl) (by kernel_rfl) rfl rfl rfl he ⟨_, _, (Snap.le.refl _), hh⟩ (fun W hS => by
          refine fa fo_36_5 rfl rfl he fun a he => ?_
          exact aqe he) fun a he => ?_
      refine ahp (d := 38) (v := .agg #[.slice A_pd pd.length c_pd, .slice A_wd wd.length c_wd, .bool mk, .bool lg]) 2 rfl (by kernel_rfl) (by kernel_rfl) (by kernel_rfl) rfl rfl rfl he ⟨_, _, (Snap.le.refl _), hh⟩ (fun W hS => by
          obtain ⟨I42, _, hleI42, hh⟩ := hS
          refine ldA [.slice A_pd pd.length c_pd, .slice A_wd wd.length c_wd, .bool mk, .bool lg] rb_34 ti_34 rfl ((Rd.obj hh.at1 5).take 4) rfl rfl he fun a he => ?_
          exact aqe he) fun a he => ?_
      refine aha1 (i := 3) (by kernel_rfl) ?_
      refine aop rfl ?_
      refine cal cb_30 rfl (token_Put _ _ _ A_pd c_pd pd A_wd c_wd wd mk lg hh (h_pd.up ((hleI4.trans hl27).trans hleI31)) k_pd (h_wd.up ((hleI4.trans hl27).trans hleI31)) k_wd hb hb2 hc) rfl he fun v a W hp he => ?_
      obtain ⟨I43, A45, cc46, rfl, hl44, hh⟩ := hp
      replace hh := hh.up2
      replace hh := hh.up2
      refine aen ⟨_, _, hl44, hh⟩ ?_
      refine aha1 (i := 4) (by kernel_rfl) ?_
      refine aop rfl ?_
      replace hh := hh.up3
      refine ap ts_23 rfl rfl (Ch.rd hh.at3) (by first | rfl | (simp; done) | (simp; omega)) (one_map (fun _ => rfl) _) (by have hz := tokPut_len (pd := pd) (wd := wd) mk lg (by omega) (by omega) hc; omega) rfl he hh fun A48 cc49 a W he hh => ?_
      replace hh := hh.re (n' := ((q2 ++ tokPut pd wd mk lg)).length) (cs' := ((q2 ++ tokPut pd wd mk lg)).map b8) (by first | rfl | (simp; done) | (simp; omega)) (by first | (simp [b8]; done) | (simp [b8]; omega))
      replace he := he.be (t := 40) (v' := .slice A48 ((q2 ++ tokPut pd wd mk lg)).length cc49) rfl (by congr 1 <;> (first | rfl | (simp; done) | (simp; omega)))
      replace hh := hh.up2
      replace hh := hh.up2
      refine aen ⟨_, _, hl44, hh⟩ ?_
      refine ahp (d := 2) (v := .slice A48 (((q2 ++ tokPut pd wd mk lg)).length) cc49) 5 rfl (by kernel_rfl) (by kernel_rfl) (by kernel_rfl) rfl rfl rfl he ⟨_, _, hl44, hh⟩ (fun W hS => by
          refine asg rfl rfl he fun a he => ?_
          exact aqe he) fun a he => ?_
      refine ahd (by kernel_rfl) ?_
      refine en ?_
      refine rt ?_
      refine rets1 Tryd.results11 he rfl (Ret.mk ?_)
      rw [progPut, ← putAll_end hinv2 (by omega)]
      replace hh := hh.drop
      replace hh := hh.drop
      replace hh := hh.up1
      replace hh := hh.drop
      exact ⟨I43, A48, cc49, rfl, (((hleI4.trans hl27).trans hleI31).trans hl44), hh⟩

end Go.Proofs.YtndaogkpgoimlaaDoor

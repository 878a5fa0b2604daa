/- Walks through the given program's functions, printed op by op by this session's own program; what each computes is told by the plain functions of the texts S... -/
import Derived.Test.YtndaogkpgoimlaaDoorB6
import Derived.KernelRfl
namespace Go.Proofs.YtndaogkpgoimlaaDoor
open Go Go.RowKit K
set_option linter.unusedVariables false
theorem cb_39 : callable Tryd.prog 39 = true := by kernel_rfl
theorem prog_Less (I : Snap) (L : List Ch) (W : World) (ph : Int) (fl : Int) (of_ : Int) (nx : Int) (A_rs : Option Addr) (c_rs : Nat) (rs : List Int) (A_pd : Option Addr) (c_pd : Nat) (pd : List UInt8) (A_wd : Option Addr) (c_wd : Nat) (wd : List Int) (mk : Bool) (lg : Bool) (ph2 : Int) (fl2 : Int) (of2 : Int) (nx2 : Int) (A_rs2 : Option Addr) (c_rs2 : Nat) (rs2 : List Int) (A_pd2 : Option Addr) (c_pd2 : Nat) (pd2 : List UInt8) (A_wd2 : Option Addr) (c_wd2 : Nat) (wd2 : List Int) (mk2 : Bool) (lg2 : Bool) (hh : Hp I L W) (h_rs : Fz I A_rs (rs.map i64v)) (k_rs : rs.length ≤ c_rs) (h_pd : Fz I A_pd (pd.map b8)) (k_pd : pd.length ≤ c_pd) (h_wd : Fz I A_wd (wd.map r32)) (k_wd : wd.length ≤ c_wd) (h_rs2 : Fz I A_rs2 (rs2.map i64v)) (k_rs2 : rs2.length ≤ c_rs2) (h_pd2 : Fz I A_pd2 (pd2.map b8)) (k_pd2 : pd2.length ≤ c_pd2) (h_wd2 : Fz I A_wd2 (wd2.map r32)) (k_wd2 : wd2.length ≤ c_wd2) :
    Calls Tryd.prog 20 #[.agg #[.int .i64 ph, .int .i64 fl, .int .i64 of_, .int .i64 nx, .slice A_rs rs.length c_rs, .slice A_pd pd.length c_pd, .slice A_wd wd.length c_wd, .bool mk, .bool lg], .agg #[.int .i64 ph2, .int .i64 fl2, .int .i64 of2, .int .i64 nx2, .slice A_rs2 rs2.length c_rs2, .slice A_pd2 pd2.length c_pd2, .slice A_wd2 wd2.length c_wd2, .bool mk2, .bool lg2]] W (Ret fun v W => v = .bool (lessL (fours ph fl of_ nx) (fours ph2 fl2 of2 nx2)) ∧ Hp I (L) W) := by
  refine enter Tryd.func20 rfl Tryd.ntmps20 rfl fun a he => ?_
  refine sq ?_
  refine rg ?_
  refine bx #[.int .i64 ph, .int .i64 fl, .int .i64 of_, .int .i64 nx, .slice A_rs rs.length c_rs, .slice A_pd pd.length c_pd, .slice A_wd wd.length c_wd, .bool mk, .bool lg] rfl rfl rfl he hh fun bb1 a W he hh => ?_
  replace hh : Hp I (.obj bb1 (.cells [.int .i64 ph, .int .i64 fl, .int .i64 of_, .int .i64 nx, .slice A_rs rs.length c_rs, .slice A_pd pd.length c_pd, .slice A_wd wd.length c_wd, .bool mk, .bool lg].toArray 36) :: _) W := hh
  refine bx #[.int .i64 ph2, .int .i64 fl2, .int .i64 of2, .int .i64 nx2, .slice A_rs2 rs2.length c_rs2, .slice A_pd2 pd2.length c_pd2, .slice A_wd2 wd2.length c_wd2, .bool mk2, .bool lg2] rfl rfl rfl he hh fun bb2 a W he hh => ?_
  replace hh : Hp I (.obj bb2 (.cells [.int .i64 ph2, .int .i64 fl2, .int .i64 of2, .int .i64 nx2, .slice A_rs2 rs2.length c_rs2, .slice A_pd2 pd2.length c_pd2, .slice A_wd2 wd2.length c_wd2, .bool mk2, .bool lg2].toArray 36) :: _) W := hh
  refine asg rfl rfl he fun a he => ?_
  refine en ?_
  refine sq ?_
  refine rg ?_
  refine cal cb_25 rfl (prog_fields _ _ _ bb1 hh ) rfl he fun v a W hp he => ?_
  obtain ⟨rfl, hh⟩ := hp
  refine cal cb_25 rfl (prog_fields _ _ _ bb2 hh ) rfl he fun v a W hp he => ?_
  obtain ⟨rfl, hh⟩ := hp
  refine al ti_60 rfl he hh fun bb3 a W he hh => ?_
  replace hh : Hp I (.obj bb3 (.cells [.pointer none, .pointer none, .pointer none, .pointer none].toArray 60) :: _) W := hh
  refine al ti_60 rfl he hh fun bb4 a W he hh => ?_
  replace hh : Hp I (.obj bb4 (.cells [.pointer none, .pointer none, .pointer none, .pointer none].toArray 60) :: _) W := hh
  replace hh := hh.up1
  refine st #[.pointer (some ⟨bb1, 0, none⟩), .pointer (some ⟨bb1, 1, none⟩), .pointer (some ⟨bb1, 2, none⟩), .pointer (some ⟨bb1, 3, none⟩)] ti_60 rfl rfl rfl rfl (by simp [Value.oneCell']) (by simp) he hh fun W hh => ?_
  replace hh : Hp I (.obj bb3 (.cells [.pointer (some ⟨bb1, 0, none⟩), .pointer (some ⟨bb1, 1, none⟩), .pointer (some ⟨bb1, 2, none⟩), .pointer (some ⟨bb1, 3, none⟩)].toArray 60) :: _) W := hh
  replace hh := hh.up1
  refine st #[.pointer (some ⟨bb2, 0, none⟩), .pointer (some ⟨bb2, 1, none⟩), .pointer (some ⟨bb2, 2, none⟩), .pointer (some ⟨bb2, 3, none⟩)] ti_60 rfl rfl rfl rfl (by simp [Value.oneCell']) (by simp) he hh fun W hh => ?_
  replace hh : Hp I (.obj bb4 (.cells [.pointer (some ⟨bb2, 0, none⟩), .pointer (some ⟨bb2, 1, none⟩), .pointer (some ⟨bb2, 2, none⟩), .pointer (some ⟨bb2, 3, none⟩)].toArray 60) :: _) W := hh
  refine en ?_
  refine sq ?_
  refine sq ?_
  refine rg ?_
  refine mv rfl rfl he fun a he => ?_
  refine en ?_
  refine bk ?_
  replace hh := hh.up3
  replace hh := hh.up3
  replace hh := hh.up3
  replace hh := hh.up3
  refine lp (fun (i : Nat) a w => Env 30 [(0, .agg #[.int .i64 ph, .int .i64 fl, .int .i64 of_, .int .i64 nx, .slice A_rs rs.length c_rs, .slice A_pd pd.length c_pd, .slice A_wd wd.length c_wd, .bool mk, .bool lg]), (1, .agg #[.int .i64 ph2, .int .i64 fl2, .int .i64 of2, .int .i64 nx2, .slice A_rs2 rs2.length c_rs2, .slice A_pd2 pd2.length c_pd2, .slice A_wd2 wd2.length c_wd2, .bool mk2, .bool lg2]), (2, .pointer (some ⟨bb1, 0, none⟩)), (3, .pointer (some ⟨bb2, 0, none⟩)), (5, .pointer (some ⟨bb3, 0, none⟩)), (6, .pointer (some ⟨bb4, 0, none⟩)), (11, .int .i64 ((i : Nat) : Int))] a ∧ Hp I (.obj bb4 (.cells ([.pointer (some ⟨bb2, 0, none⟩), .pointer (some ⟨bb2, 1, none⟩), .pointer (some ⟨bb2, 2, none⟩), .pointer (some ⟨bb2, 3, none⟩)]).toArray 60) :: .obj bb3 (.cells ([.pointer (some ⟨bb1, 0, none⟩), .pointer (some ⟨bb1, 1, none⟩), .pointer (some ⟨bb1, 2, none⟩), .pointer (some ⟨bb1, 3, none⟩)]).toArray 60) :: .obj bb2 (.cells ([.int .i64 ph2, .int .i64 fl2, .int .i64 of2, .int .i64 nx2, .slice A_rs2 rs2.length c_rs2, .slice A_pd2 pd2.length c_pd2, .slice A_wd2 wd2.length c_wd2, .bool mk2, .bool lg2]).toArray 36) :: .obj bb1 (.cells ([.int .i64 ph, .int .i64 fl, .int .i64 of_, .int .i64 nx, .slice A_rs rs.length c_rs, .slice A_pd pd.length c_pd, .slice A_wd wd.length c_wd, .bool mk, .bool lg]).toArray 36) :: L) w ∧ i ≤ 4 ∧ lessL (fours ph fl of_ nx) (fours ph2 fl2 of2 nx2) = lessL ((fours ph fl of_ nx).drop i) ((fours ph2 fl2 of2 nx2).drop i))
      (fun i => 4 - i) 0 ⟨he.keep [0, 1, 2, 3, 5, 6, 11] rfl, hh, Nat.zero_le _, rfl⟩ fun i a W hinv => ?_
  obtain ⟨he, hh, hi, hinv⟩ := hinv
  refine sq ?_
  refine rg ?_
  refine lt rfl rfl rfl he fun a he => ?_
  refine en ?_
  refine sq ?_
  refine cnd he rfl (fun h5 => ?_) (fun h5 => ?_)
  · replace h5 : i < 4 := by omega
    refine sk ?_
    refine nm_then ?_
    refine sq ?_
    refine bk ?_
    refine sq ?_
    refine rg ?_
    refine mv rfl rfl he fun a he => ?_
    refine asg rfl rfl he fun a he => ?_
    refine en ?_
    refine sq ?_
    rcases (show i = 0 ∨ i = 1 ∨ i = 2 ∨ i = 3 by omega) with hq | hq | hq | hq
    · refine rgd (SH I [.obj bb4 (.cells ([.pointer (some ⟨bb2, 0, none⟩), .pointer (some ⟨bb2, 1, none⟩), .pointer (some ⟨bb2, 2, none⟩), .pointer (some ⟨bb2, 3, none⟩)]).toArray 60), .obj bb3 (.cells ([.pointer (some ⟨bb1, 0, none⟩), .pointer (some ⟨bb1, 1, none⟩), .pointer (some ⟨bb1, 2, none⟩), .pointer (some ⟨bb1, 3, none⟩)]).toArray 60), .obj bb2 (.cells ([.int .i64 ph2, .int .i64 fl2, .int .i64 of2, .int .i64 nx2, .slice A_rs2 rs2.length c_rs2, .slice A_pd2 pd2.length c_pd2, .slice A_wd2 wd2.length c_wd2, .bool mk2, .bool lg2]).toArray 36), .obj bb1 (.cells ([.int .i64 ph, .int .i64 fl, .int .i64 of_, .int .i64 nx, .slice A_rs rs.length c_rs, .slice A_pd pd.length c_pd, .slice A_wd wd.length c_wd, .bool mk, .bool lg]).toArray 36)]) 12 mixo rfl hh fun W hh => ?_
      refine ahp (d := 14) (v := .int .i64 ((i : Nat) : Int)) 0 rfl (by kernel_rfl) (by kernel_rfl) (by kernel_rfl) rfl rfl rfl he ⟨_, _, (Snap.le.refl _), hh⟩ (fun W hS => by
          refine mv rfl rfl he fun a he => ?_
          exact aqe he) fun a he => ?_
      refine ahp (d := 15) (v := .pointer (some ⟨bb3, 0, none⟩)) 1 rfl (by kernel_rfl) (by kernel_rfl) (by kernel_rfl) rfl rfl rfl he ⟨_, _, (Snap.le.refl _), hh⟩ (fun W hS => by
          refine iaa (i) Tryd.underlying60 ti_59 rfl rfl (by omega) rfl he fun a he => ?_
          replace he := he.be (t := 15) (v' := .pointer (some ⟨bb3, 0, none⟩)) rfl (by rw [hq])
          exact aqe he) fun a he => ?_
      refine ahp (d := 16) (v := .pointer (some ⟨bb1, 0, none⟩)) 2 rfl (by kernel_rfl) (by kernel_rfl) (by kernel_rfl) rfl rfl rfl he ⟨_, _, (Snap.le.refl _), hh⟩ (fun W hS => by
          obtain ⟨I6, _, hleI6, hh⟩ := hS
          refine ld rb_59 rfl (ocell hh.at1 rfl) rfl he fun a he => ?_
          exact aqe he) fun a he => ?_
      refine ahk 3 rfl (by kernel_rfl) (by kernel_rfl) (by kernel_rfl) rfl rfl he ⟨_, _, (Snap.le.refl _), hh⟩ fun a he => ?_
      refine ahp (d := 18) (v := .int .i64 ph) 4 rfl (by kernel_rfl) (by kernel_rfl) (by kernel_rfl) rfl rfl rfl he ⟨_, _, (Snap.le.refl _), hh⟩ (fun W hS => by
          obtain ⟨I7, _, hleI7, hh⟩ := hS
          refine ld rb_3 rfl (ocell hh.at3 rfl) rfl he fun a he => ?_
          exact aqe he) fun a he => ?_
      refine ahp (d := 19) (v := .int .i64 ((i : Nat) : Int)) 5 rfl (by kernel_rfl) (by kernel_rfl) (by kernel_rfl) rfl rfl rfl he ⟨_, _, (Snap.le.refl _), hh⟩ (fun W hS => by
          refine mv rfl rfl he fun a he => ?_
          exact aqe he) fun a he => ?_
      refine ahp (d := 20) (v := .pointer (some ⟨bb4, 0, none⟩)) 6 rfl (by kernel_rfl) (by kernel_rfl) (by kernel_rfl) rfl rfl rfl he ⟨_, _, (Snap.le.refl _), hh⟩ (fun W hS => by
          refine iaa (i) Tryd.underlying60 ti_59 rfl rfl (by omega) rfl he fun a he => ?_
          replace he := he.be (t := 20) (v' := .pointer (some ⟨bb4, 0, none⟩)) rfl (by rw [hq])
          exact aqe he) fun a he => ?_
      refine ahp (d := 21) (v := .pointer (some ⟨bb2, 0, none⟩)) 7 rfl (by kernel_rfl) (by kernel_rfl) (by kernel_rfl) rfl rfl rfl he ⟨_, _, (Snap.le.refl _), hh⟩ (fun W hS => by
          obtain ⟨I8, _, hleI8, hh⟩ := hS
          refine ld rb_59 rfl (ocell hh.at0 rfl) rfl he fun a he => ?_
          exact aqe he) fun a he => ?_
      refine ahk 8 rfl (by kernel_rfl) (by kernel_rfl) (by kernel_rfl) rfl rfl he ⟨_, _, (Snap.le.refl _), hh⟩ fun a he => ?_
      refine ahp (d := 23) (v := .int .i64 ph2) 9 rfl (by kernel_rfl) (by kernel_rfl) (by kernel_rfl) rfl rfl rfl he ⟨_, _, (Snap.le.refl _), hh⟩ (fun W hS => by
          obtain ⟨I9, _, hleI9, hh⟩ := hS
          refine ld rb_3 rfl (ocell hh.at2 rfl) rfl he fun a he => ?_
          exact aqe he) fun a he => ?_
      refine aha1 (i := 10) (by kernel_rfl) ?_
      refine aop rfl ?_
      refine cal cb_39 rfl (cmp_Compare _ _ _ ph ph2 hh ) rfl he fun v a W hp he => ?_
      obtain ⟨rfl, hh⟩ := hp
      refine aen ⟨_, _, (Snap.le.refl _), hh⟩ ?_
      refine ahp (d := 8) (v := .int .i64 (cmpN ph ph2)) 11 rfl (by kernel_rfl) (by kernel_rfl) (by kernel_rfl) rfl rfl rfl he ⟨_, _, (Snap.le.refl _), hh⟩ (fun W hS => by
          refine asg rfl rfl he fun a he => ?_
          exact aqe he) fun a he => ?_
      refine ahd (by kernel_rfl) ?_
      refine en ?_
      refine sq ?_
      refine rg ?_
      refine mv rfl rfl he fun a he => ?_
      refine ne rfl rfl rfl he fun a he => ?_
      refine en ?_
      refine cnd he rfl (fun h10 => ?_) (fun h10 => ?_)
      · refine sq ?_
        refine rg ?_
        refine mv rfl rfl he fun a he => ?_
        refine lt rfl rfl rfl he fun a he => ?_
        refine asg rfl rfl he fun a he => ?_
        refine en ?_
        refine rt ?_
        refine rets1 Tryd.results20 he rfl (Ret.mk ?_)
        rw [less_stop hinv (show (fours ph fl of_ nx)[i]? = some ph by rw [hq]; rfl) (show (fours ph2 fl2 of2 nx2)[i]? = some ph2 by rw [hq]; rfl) (by omega)]
        replace hh := hh.drop
        replace hh := hh.drop
        replace hh := hh.drop
        replace hh := hh.drop
        exact ⟨rfl, hh⟩
      · refine sk ?_
        refine nm_blk ?_
        refine nm_then ?_
        refine rg ?_
        refine ad (((i + 1) : Nat) : Int) rfl rfl (w64 (by omega) (by omega)) rfl he fun a he => ?_
        refine mv rfl rfl he fun a he => ?_
        refine en ?_
        replace hh := hh.up3
        replace hh := hh.up3
        replace hh := hh.up3
        replace hh := hh.up3
        exact ⟨i + 1, ⟨he.keep [0, 1, 2, 3, 5, 6, 11] rfl, hh, by omega, less_next hinv (show (fours ph fl of_ nx)[i]? = some ph by rw [hq]; rfl) (show (fours ph2 fl2 of2 nx2)[i]? = some ph2 by rw [hq]; rfl) (by omega)⟩, by show 4 - (i + 1) < 4 - i; omega⟩
    · refine rgd (SH I [.obj bb4 (.cells ([.pointer (some ⟨bb2, 0, none⟩), .pointer (some ⟨bb2, 1, none⟩), .pointer (some ⟨bb2, 2, none⟩), .pointer (some ⟨bb2, 3, none⟩)]).toArray 60), .obj bb3 (.cells ([.pointer (some ⟨bb1, 0, none⟩), .pointer (some ⟨bb1, 1, none⟩), .pointer (some ⟨bb1, 2, none⟩), .pointer (some ⟨bb1, 3, none⟩)]).toArray 60), .obj bb2 (.cells ([.int .i64 ph2, .int .i64 fl2, .int .i64 of2, .int .i64 nx2, .slice A_rs2 rs2.length c_rs2, .slice A_pd2 pd2.length c_pd2, .slice A_wd2 wd2.length c_wd2, .bool mk2, .bool lg2]).toArray 36), .obj bb1 (.cells ([.int .i64 ph, .int .i64 fl, .int .i64 of_, .int .i64 nx, .slice A_rs rs.length c_rs, .slice A_pd pd.length c_pd, .slice A_wd wd.length c_wd, .bool mk, .bool lg]).toArray 36)]) 12 mixo rfl hh fun W hh => ?_
      refine ahp (d := 14) (v := .int .i64 ((i : Nat) : Int)) 0 rfl (by kernel_rfl) (by kernel_rfl) (by kernel_rfl) rfl rfl rfl he ⟨_, _, (Snap.le.refl _), hh⟩ (fun W hS => by
          refine mv rfl rfl he fun a he => ?_
          exact aqe he) fun a he => ?_
      refine ahp (d := 15) (v := .pointer (some ⟨bb3, 1, none⟩)) 1 rfl (by kernel_rfl) (by kernel_rfl) (by kernel_rfl) rfl rfl rfl he ⟨_, _, (Snap.le.refl _), hh⟩ (fun W hS => by
          refine iaa (i) Tryd.underlying60 ti_59 rfl rfl (by omega) rfl he fun a he => ?_
          replace he := he.be (t := 15) (v' := .pointer (some ⟨bb3, 1, none⟩)) rfl (by rw [hq])
          exact aqe he) fun a he => ?_
      refine ahp (d := 16) (v := .pointer (some ⟨bb1, 1, none⟩)) 2 rfl (by kernel_rfl) (by kernel_rfl) (by kernel_rfl) rfl rfl rfl he ⟨_, _, (Snap.le.refl _), hh⟩ (fun W hS => by
          obtain ⟨I11, _, hleI11, hh⟩ := hS
          refine ld rb_59 rfl (ocell hh.at1 rfl) rfl he fun a he => ?_
          exact aqe he) fun a he => ?_
      refine ahk 3 rfl (by kernel_rfl) (by kernel_rfl) (by kernel_rfl) rfl rfl he ⟨_, _, (Snap.le.refl _), hh⟩ fun a he => ?_
      refine ahp (d := 18) (v := .int .i64 fl) 4 rfl (by kernel_rfl) (by kernel_rfl) (by kernel_rfl) rfl rfl rfl he ⟨_, _, (Snap.le.refl _), hh⟩ (fun W hS => by
          obtain ⟨I12, _, hleI12, hh⟩ := hS
          refine ld rb_3 rfl (ocell hh.at3 rfl) rfl he fun a he => ?_
          exact aqe he) fun a he => ?_
      refine ahp (d := 19) (v := .int .i64 ((i : Nat) : Int)) 5 rfl (by kernel_rfl) (by kernel_rfl) (by kernel_rfl) rfl rfl rfl he ⟨_, _, (Snap.le.refl _), hh⟩ (fun W hS => by
          refine mv rfl rfl he fun a he => ?_
          exact aqe he) fun a he => ?_
      refine ahp (d := 20) (v := .pointer (some ⟨bb4, 1, none⟩)) 6 rfl (by kernel_rfl) (by kernel_rfl) (by kernel_rfl) rfl rfl rfl he ⟨_, _, (Snap.le.refl _), hh⟩ (fun W hS => by
          refine iaa (i) Tryd.underlying60 ti_59 rfl rfl (by omega) rfl he fun a he => ?_
          replace he := he.be (t := 20) (v' := .pointer (some ⟨bb4, 1, none⟩)) rfl (by rw [hq])
          exact aqe he) fun a he => ?_
      refine ahp (d := 21) (v := .pointer (some ⟨bb2, 1, none⟩)) 7 rfl (by kernel_rfl) (by kernel_rfl) (by kernel_rfl) rfl rfl rfl he ⟨_, _, (Snap.le.refl _), hh⟩ (fun W hS => by
          obtain ⟨I13, _, hleI13, hh⟩ := hS
          refine ld rb_59 rfl (ocell hh.at0 rfl) rfl he fun a he => ?_
          exact aqe he) fun a he => ?_
      refine ahk 8 rfl (by kernel_rfl) (by kernel_rfl) (by kernel_rfl) rfl rfl he ⟨_, _, (Snap.le.refl _), hh⟩ fun a he => ?_
      refine ahp (d := 23) (v := .int .i64 fl2) 9 rfl (by kernel_rfl) (by kernel_rfl) (by kernel_rfl) rfl rfl rfl he ⟨_, _, (Snap.le.refl _), hh⟩ (fun W hS => by
          obtain ⟨I14, _, hleI14, hh⟩ := hS
          refine ld rb_3 rfl (ocell hh.at2 rfl) rfl he fun a he => ?_
          exact aqe he) fun a he => ?_
      refine aha1 (i := 10) (by kernel_rfl) ?_
      refine aop rfl ?_
      refine cal cb_39 rfl (cmp_Compare _ _ _ fl fl2 hh ) rfl he fun v a W hp he => ?_
      obtain ⟨rfl, hh⟩ := hp
      refine aen ⟨_, _, (Snap.le.refl _), hh⟩ ?_
      refine ahp (d := 8) (v := .int .i64 (cmpN fl fl2)) 11 rfl (by kernel_rfl) (by kernel_rfl) (by kernel_rfl) rfl rfl rfl he ⟨_, _, (Snap.le.refl _), hh⟩ (fun W hS => by
          refine asg rfl rfl he fun a he => ?_
          exact aqe he) fun a he => ?_
      refine ahd (by kernel_rfl) ?_
      refine en ?_
      refine sq ?_
      refine rg ?_
      refine mv rfl rfl he fun a he => ?_
      refine ne rfl rfl rfl he fun a he => ?_
      refine en ?_
      refine cnd he rfl (fun h15 => ?_) (fun h15 => ?_)
      · refine sq ?_
        refine rg ?_
        refine mv rfl rfl he fun a he => ?_
        refine lt rfl rfl rfl he fun a he => ?_
        refine asg rfl rfl he fun a he => ?_
        refine en ?_
        refine rt ?_
        refine rets1 Tryd.results20 he rfl (Ret.mk ?_)
        rw [less_stop hinv (show (fours ph fl of_ nx)[i]? = some fl by rw [hq]; rfl) (show (fours ph2 fl2 of2 nx2)[i]? = some fl2 by rw [hq]; rfl) (by omega)]
        replace hh := hh.drop
        replace hh := hh.drop
        replace hh := hh.drop
        replace hh := hh.drop
        exact ⟨rfl, hh⟩
      · refine sk ?_
        refine nm_blk ?_
        refine nm_then ?_
        refine rg ?_
        refine ad (((i + 1) : Nat) : Int) rfl rfl (w64 (by omega) (by omega)) rfl he fun a he => ?_
        refine mv rfl rfl he fun a he => ?_
        refine en ?_
        replace hh := hh.up3
        replace hh := hh.up3
        replace hh := hh.up3
        replace hh := hh.up3
        exact ⟨i + 1, ⟨he.keep [0, 1, 2, 3, 5, 6, 11] rfl, hh, by omega, less_next hinv (show (fours ph fl of_ nx)[i]? = some fl by rw [hq]; rfl) (show (fours ph2 fl2 of2 nx2)[i]? = some fl2 by rw [hq]; rfl) (by omega)⟩, by show 4 - (i + 1) < 4 - i; omega⟩
    · refine rgd (SH I [.obj bb4 (.cells ([.pointer (some ⟨bb2, 0, none⟩), .pointer (some ⟨bb2, 1, none⟩), .pointer (some ⟨bb2, 2, none⟩), .pointer (some ⟨bb2, 3, none⟩)]).toArray 60), .obj bb3 (.cells ([.pointer (some ⟨bb1, 0, none⟩), .pointer (some ⟨bb1, 1, none⟩), .pointer (some ⟨bb1, 2, none⟩), .pointer (some ⟨bb1, 3, none⟩)]).toArray 60), .obj bb2 (.cells ([.int .i64 ph2, .int .i64 fl2, .int .i64 of2, .int .i64 nx2, .slice A_rs2 rs2.length c_rs2, .slice A_pd2 pd2.length c_pd2, .slice A_wd2 wd2.length c_wd2, .bool mk2, .bool lg2]).toArray 36), .obj bb1 (.cells ([.int .i64 ph, .int .i64 fl, .int .i64 of_, .int .i64 nx, .slice A_rs rs.length c_rs, .slice A_pd pd.length c_pd, .slice A_wd wd.length c_wd, .bool mk, .bool lg]).toArray 36)]) 12 mixo rfl hh fun W hh => ?_
      refine ahp (d := 14) (v := .int .i64 ((i : Nat) : Int)) 0 rfl (by kernel_rfl) (by kernel_rfl) (by kernel_rfl) rfl rfl rfl he ⟨_, _, (Snap.le.refl _), hh⟩ (fun W hS => by
          refine mv rfl rfl he fun a he => ?_
          exact aqe he) fun a he => ?_
      refine ahp (d := 15) (v := .pointer (some ⟨bb3, 2, none⟩)) 1 rfl (by kernel_rfl) (by kernel_rfl) (by kernel_rfl) rfl rfl rfl he ⟨_, _, (Snap.le.refl _), hh⟩ (fun W hS => by
          refine iaa (i) Tryd.underlying60 ti_59 rfl rfl (by omega) rfl he fun a he => ?_
          replace he := he.be (t := 15) (v' := .pointer (some ⟨bb3, 2, none⟩)) rfl (by rw [hq])
          exact aqe he) fun a he => ?_
      refine ahp (d := 16) (v := .pointer (some ⟨bb1, 2, none⟩)) 2 rfl (by kernel_rfl) (by kernel_rfl) (by kernel_rfl) rfl rfl rfl he ⟨_, _, (Snap.le.refl _), hh⟩ (fun W hS => by
          obtain ⟨I16, _, hleI16, hh⟩ := hS
          refine ld rb_59 rfl (ocell hh.at1 rfl) rfl he fun a he => ?_
          exact aqe he) fun a he => ?_
      refine ahk 3 rfl (by kernel_rfl) (by kernel_rfl) (by kernel_rfl) rfl rfl he ⟨_, _, (Snap.le.refl _), hh⟩ fun a he => ?_
      refine ahp (d := 18) (v := .int .i64 of_) 4 rfl (by kernel_rfl) (by kernel_rfl) (by kernel_rfl) rfl rfl rfl he ⟨_, _, (Snap.le.refl _), hh⟩ (fun W hS => by
          obtain ⟨I17, _, hleI17, hh⟩ := hS
          refine ld rb_3 rfl (ocell hh.at3 rfl) rfl he fun a he => ?_
          exact aqe he) fun a he => ?_
      refine ahp (d := 19) (v := .int .i64 ((i : Nat) : Int)) 5 rfl (by kernel_rfl) (by kernel_rfl) (by kernel_rfl) rfl rfl rfl he ⟨_, _, (Snap.le.refl _), hh⟩ (fun W hS => by
          refine mv rfl rfl he fun a he => ?_
          exact aqe he) fun a he => ?_
      refine ahp (d := 20) (v := .pointer (some ⟨bb4, 2, none⟩)) 6 rfl (by kernel_rfl) (by kernel_rfl) (by kernel_rfl) rfl rfl rfl he ⟨_, _, (Snap.le.refl _), hh⟩ (fun W hS => by
          refine iaa (i) Tryd.underlying60 ti_59 rfl rfl (by omega) rfl he fun a he => ?_
          replace he := he.be (t := 20) (v' := .pointer (some ⟨bb4, 2, none⟩)) rfl (by rw [hq])
          exact aqe he) fun a he => ?_
      refine ahp (d := 21) (v := .pointer (some ⟨bb2, 2, none⟩)) 7 rfl (by kernel_rfl) (by kernel_rfl) (by kernel_rfl) rfl rfl rfl he ⟨_, _, (Snap.le.refl _), hh⟩ (fun W hS => by
          obtain ⟨I18, _, hleI18, hh⟩ := hS
          refine ld rb_59 rfl (ocell hh.at0 rfl) rfl he fun a he => ?_
          exact aqe he) fun a he => ?_
      refine ahk 8 rfl (by kernel_rfl) (by kernel_rfl) (by kernel_rfl) rfl rfl he ⟨_, _, (Snap.le.refl _), hh⟩ fun a he => ?_
      refine ahp (d := 23) (v := .int .i64 of2) 9 rfl (by kernel_rfl) (by kernel_rfl) (by kernel_rfl) rfl rfl rfl he ⟨_, _, (Snap.le.refl _), hh⟩ (fun W hS => by
          obtain ⟨I19, _, hleI19, hh⟩ := hS
          refine ld rb_3 rfl (ocell hh.at2 rfl) rfl he fun a he => ?_
          exact aqe he) fun a he => ?_
      refine aha1 (i := 10) (by kernel_rfl) ?_
      refine aop rfl ?_
      refine cal cb_39 rfl (cmp_Compare _ _ _ of_ of2 hh ) rfl he fun v a W hp he => ?_
      obtain ⟨rfl, hh⟩ := hp
      refine aen ⟨_, _, (Snap.le.refl _), hh⟩ ?_
      refine ahp (d := 8) (v := .int .i64 (cmpN of_ of2)) 11 rfl (by kernel_rfl) (by kernel_rfl) (by kernel_rfl) rfl rfl rfl he ⟨_, _, (Snap.le.refl _), hh⟩ (fun W hS => by
          refine asg rfl rfl he fun a he => ?_
          exact aqe he) fun a he => ?_
      refine ahd (by kernel_rfl) ?_
      refine en ?_
      refine sq ?_
      refine rg ?_
      refine mv rfl rfl he fun a he => ?_
      refine ne rfl rfl rfl he fun a he => ?_
      refine en ?_
      refine cnd he rfl (fun h20 => ?_) (fun h20 => ?_)
      · refine sq ?_
        refine rg ?_
        refine mv rfl rfl he fun a he => ?_
        refine lt rfl rfl rfl he fun a he => ?_
        refine asg rfl rfl he fun a he => ?_
        refine en ?_
        refine rt ?_
        refine rets1 Tryd.results20 he rfl (Ret.mk ?_)
        rw [less_stop hinv (show (fours ph fl of_ nx)[i]? = some of_ by rw [hq]; rfl) (show (fours ph2 fl2 of2 nx2)[i]? = some of2 by rw [hq]; rfl) (by omega)]
        replace hh := hh.drop
        replace hh := hh.drop
        replace hh := hh.drop
        replace hh := hh.drop
        exact ⟨rfl, hh⟩
      · refine sk ?_
        refine nm_blk ?_
        refine nm_then ?_
        refine rg ?_
        refine ad (((i + 1) : Nat) : Int) rfl rfl (w64 (by omega) (by omega)) rfl he fun a he => ?_
        refine mv rfl rfl he fun a he => ?_
        refine en ?_
        replace hh := hh.up3
        replace hh := hh.up3
        replace hh := hh.up3
        replace hh := hh.up3
        exact ⟨i + 1, ⟨he.keep [0, 1, 2, 3, 5, 6, 11] rfl, hh, by omega, less_next hinv (show (fours ph fl of_ nx)[i]? = some of_ by rw [hq]; rfl) (show (fours ph2 fl2 of2 nx2)[i]? = some of2 by rw [hq]; rfl) (by omega)⟩, by show 4 - (i + 1) < 4 - i; omega⟩
    · refine rgd (SH I [.obj bb4 (.cells ([.pointer (some ⟨bb2, 0, none⟩), .pointer (some ⟨bb2, 1, none⟩), .pointer (some ⟨bb2, 2, none⟩), .pointer (some ⟨bb2, 3, none⟩)]).toArray 60), .obj bb3 (.cells ([.pointer (some ⟨bb1, 0, none⟩), .pointer (some ⟨bb1, 1, none⟩), .pointer (some ⟨bb1, 2, none⟩), .pointer (some ⟨bb1, 3, none⟩)]).toArray 60), .obj bb2 (.cells ([.int .i64 ph2, .int .i64 fl2, .int .i64 of2, .int .i64 nx2, .slice A_rs2 rs2.length c_rs2, .slice A_pd2 pd2.length c_pd2, .slice A_wd2 wd2.length c_wd2, .bool mk2, .bool lg2]).toArray 36), .obj bb1 (.cells ([.int .i64 ph, .int .i64 fl, .int .i64 of_, .int .i64 nx, .slice A_rs rs.length c_rs, .slice A_pd pd.length c_pd, .slice A_wd wd.length c_wd, .bool mk, .bool lg]).toArray 36)]) 12 mixo rfl hh fun W hh => ?_
      refine ahp (d := 14) (v := .int .i64 ((i : Nat) : Int)) 0 rfl (by kernel_rfl) (by kernel_rfl) (by kernel_rfl) rfl rfl rfl he ⟨_, _, (Snap.le.refl _), hh⟩ (fun W hS => by
          refine mv rfl rfl he fun a he => ?_
          exact aqe he) fun a he => ?_
      refine ahp (d := 15) (v := .pointer (some ⟨bb3, 3, none⟩)) 1 rfl (by kernel_rfl) (by kernel_rfl) (by kernel_rfl) rfl rfl rfl he ⟨_, _, (Snap.le.refl _), hh⟩ (fun W hS => by
          refine iaa (i) Tryd.underlying60 ti_59 rfl rfl (by omega) rfl he fun a he => ?_
          replace he := he.be (t := 15) (v' := .pointer (some ⟨bb3, 3, none⟩)) rfl (by rw [hq])
          exact aqe he) fun a he => ?_
      refine ahp (d := 16) (v := .pointer (some ⟨bb1, 3, none⟩)) 2 rfl (by kernel_rfl) (by kernel_rfl) (by kernel_rfl) rfl rfl rfl he ⟨_, _, (Snap.le.refl _), hh⟩ (fun W hS => by
          obtain ⟨I21, _, hleI21, hh⟩ := hS
          refine ld rb_59 rfl (ocell hh.at1 rfl) rfl he fun a he => ?_
          exact aqe he) fun a he => ?_
      refine ahk 3 rfl (by kernel_rfl) (by kernel_rfl) (by kernel_rfl) rfl rfl he ⟨_, _, (Snap.le.refl _), hh⟩ fun a he => ?_
      refine ahp (d := 18) (v := .int .i64 nx) 4 rfl (by kernel_rfl) (by kernel_rfl) (by kernel_rfl) rfl rfl rfl he ⟨_, _, (Snap.le.refl _), hh⟩ (fun W hS => by
          obtain ⟨I22, _, hleI22, hh⟩ := hS
          refine ld rb_3 rfl (ocell hh.at3 rfl) rfl he fun a he => ?_
          exact aqe he) fun a he => ?_
      refine ahp (d := 19) (v := .int .i64 ((i : Nat) : Int)) 5 rfl (by kernel_rfl) (by kernel_rfl) (by kernel_rfl) rfl rfl rfl he ⟨_, _, (Snap.le.refl _), hh⟩ (fun W hS => by
          refine mv rfl rfl he fun a he => ?_
          exact aqe he) fun a he => ?_
      refine ahp (d := 20) (v := .pointer (some ⟨bb4, 3, none⟩)) 6 rfl (by kernel_rfl) (by kernel_rfl) (by kernel_rfl) rfl rfl rfl he ⟨_, _, (Snap.le.refl _), hh⟩ (fun W hS => by
          refine iaa (i) Tryd.underlying60 ti_59 rfl rfl (by omega) rfl he fun a he => ?_
          replace he := he.be (t := 20) (v' := .pointer (some ⟨bb4, 3, none⟩)) rfl (by rw [hq])
          exact aqe he) fun a he => ?_
      refine ahp (d := 21) (v := .pointer (some ⟨bb2, 3, none⟩)) 7 rfl (by kernel_rfl) (by kernel_rfl) (by kernel_rfl) rfl rfl rfl he ⟨_, _, (Snap.le.refl _), hh⟩ (fun W hS => by
          obtain ⟨I23, _, hleI23, hh⟩ := hS
          refine ld rb_59 rfl (ocell hh.at0 rfl) rfl he fun a he => ?_
          exact aqe he) fun a he => ?_
      refine ahk 8 rfl (by kernel_rfl) (by kernel_rfl) (by kernel_rfl) rfl rfl he ⟨_, _, (Snap.le.refl _), hh⟩ fun a he => ?_
      refine ahp (d := 23) (v := .int .i64 nx2) 9 rfl (by kernel_rfl) (by kernel_rfl) (by kernel_rfl) rfl rfl rfl he ⟨_, _, (Snap.le.refl _), hh⟩ (fun W hS => by
          obtain ⟨I24, _, hleI24, hh⟩ := hS
          refine ld rb_3 rfl (ocell hh.at2 rfl) rfl he fun a he => ?_
          exact aqe he) fun a he => ?_
      refine aha1 (i := 10) (by kernel_rfl) ?_
      refine aop rfl ?_
      refine cal cb_39 rfl (cmp_Compare _ _ _ nx nx2 hh ) rfl he fun v a W hp he => ?_
      obtain ⟨rfl, hh⟩ := hp
      refine aen ⟨_, _, (Snap.le.refl _), hh⟩ ?_
      refine ahp (d := 8) (v := .int .i64 (cmpN nx nx2)) 11 rfl (by kernel_rfl) (by kernel_rfl) (by kernel_rfl) rfl rfl rfl he ⟨_, _, (Snap.le.refl _), hh⟩ (fun W hS => by
          refine asg rfl rfl he fun a he => ?_
          exact aqe he) fun a he => ?_
      refine ahd (by kernel_rfl) ?_
      refine en ?_
      refine sq ?_
      refine rg ?_
      refine mv rfl rfl he fun a he => ?_
      refine ne rfl rfl rfl he fun a he => ?_
      refine en ?_
      refine cnd he rfl (fun h25 => ?_) (fun h25 => ?_)
      · refine sq ?_
        refine rg ?_
        refine mv rfl rfl he fun a he => ?_
        refine lt rfl rfl rfl he fun a he => ?_
        refine asg rfl rfl he fun a he => ?_
        refine en ?_
        refine rt ?_
        refine rets1 Tryd.results20 he rfl (Ret.mk ?_)
        rw [less_stop hinv (show (fours ph fl of_ nx)[i]? = some nx by rw [hq]; rfl) (show (fours ph2 fl2 of2 nx2)[i]? = some nx2 by rw [hq]; rfl) (by omega)]
        replace hh := hh.drop
        replace hh := hh.drop
        replace hh := hh.drop
        replace hh := hh.drop
        exact ⟨rfl, hh⟩
      · refine sk ?_
        refine nm_blk ?_
        refine nm_then ?_
        refine rg ?_
        refine ad (((i + 1) : Nat) : Int) rfl rfl (w64 (by omega) (by omega)) rfl he fun a he => ?_
        refine mv rfl rfl he fun a he => ?_
        refine en ?_
        replace hh := hh.up3
        replace hh := hh.up3
        replace hh := hh.up3
        replace hh := hh.up3
        exact ⟨i + 1, ⟨he.keep [0, 1, 2, 3, 5, 6, 11] rfl, hh, by omega, less_next hinv (show (fours ph fl of_ nx)[i]? = some nx by rw [hq]; rfl) (show (fours ph2 fl2 of2 nx2)[i]? = some nx2 by rw [hq]; rfl) (by omega)⟩, by show 4 - (i + 1) < 4 - i; omega⟩
  · replace h5 : ¬ (i < 4) := by omega
    refine ext ?_
    refine ex_then ?_
    refine ex_then ?_
    refine ex_in ?_
    refine nm_then ?_
    refine sq ?_
    refine rg ?_
    refine asg rfl rfl he fun a he => ?_
    refine en ?_
    refine rt ?_
    refine rets1 Tryd.results20 he rfl (Ret.mk ?_)
    rw [less_end hinv (show (fours ph fl of_ nx).length ≤ i by show 4 ≤ i; omega)]
    replace hh := hh.drop
    replace hh := hh.drop
    replace hh := hh.drop
    replace hh := hh.drop
    exact ⟨rfl, hh⟩

theorem prog_get1 (I : Snap) (L : List Ch) (W : World) (m : Nat) (b_l : Nat) (A_lf : Option Addr) (c_lf : Nat) (lf : List UInt8) (b_e : Nat) (ok : Bool) (hh : Hp I (.obj b_l (.cells #[.slice A_lf lf.length c_lf] 23) :: .obj b_e (.cells #[.bool ok] 4) :: L) W) (h_lf : Fz I A_lf (lf.map b8)) (k_lf : lf.length ≤ c_lf) (hm : m ≤ 1099511627776) :
    Calls Tryd.prog 23 #[.int .u64 ((m : Nat) : Int), .pointer (some ⟨b_l, 0, none⟩), .pointer (some ⟨b_e, 0, none⟩)] W (Ret fun v W => ∃ (A1 : Option Addr) (c1 : Nat), v = .int .i64 (((numberB m lf ok).1 : Nat) : Int) ∧ Fz I A1 (((numberB m lf ok).2.1).map b8) ∧ ((numberB m lf ok).2.1).length ≤ c1 ∧ Hp I (.obj b_l (.cells #[.slice A1 ((numberB m lf ok).2.1).length c1] 23) :: .obj b_e (.cells #[.bool ((numberB m lf ok).2.2)] 4) :: L) W) := by
  refine enter Tryd.func23 rfl Tryd.ntmps23 rfl fun a he => ?_
  refine sq ?_
  refine rg ?_
  refine asg rfl rfl he fun a he => ?_
  refine en ?_
  refine sq ?_
  refine rg ?_
  refine ld rb_23 rfl (ocell hh.at0 rfl) rfl he fun a he => ?_
  refine cal cb_24 rfl (num_Get _ _ _ A_lf c_lf lf hh h_lf k_lf) rfl he fun v a W hp he => ?_
  obtain ⟨rfl, hh⟩ := hp
  refine mv rfl rfl he fun a he => ?_
  refine xt rfl rfl rfl he fun a he => ?_
  refine xt rfl rfl rfl he fun a he => ?_
  refine xt rfl rfl rfl he fun a he => ?_
  refine asg rfl rfl he fun a he => ?_
  refine asg rfl rfl he fun a he => ?_
  refine asg rfl rfl he fun a he => ?_
  refine en ?_
  refine sq ?_
  refine sq ?_
  refine rg ?_
  refine mv rfl rfl he fun a he => ?_
  refine ne rfl rfl rfl he fun a he => ?_
  refine mv rfl rfl he fun a he => ?_
  refine sd he (t := 16) rfl (fun h15 he => ?_) (fun h15 he => ?_)
  · refine gn rfl rfl he rfl rfl fun a he => ?_
    refine gn rfl rfl he rfl rfl fun a he => ?_
    refine gn rfl rfl he rfl rfl fun a he => ?_
    refine pkt rfl rfl rfl he fun a he => ?_
    refine en ?_
    refine cnt he rfl ?_
    refine sq ?_
    refine rg ?_
    replace hh := hh.up1
    refine st #[.bool false] ti_4 rfl rfl rfl rfl (by simp [Value.oneCell']) (by simp) he hh fun W hh => ?_
    replace hh : Hp I (.obj b_e (.cells [.bool false].toArray 4) :: _) W := hh
    refine en ?_
    refine sq ?_
    refine rg ?_
    refine asg rfl rfl he fun a he => ?_
    refine en ?_
    refine rt ?_
    refine rets1 Tryd.results23 he rfl (Ret.mk ?_)
    rw [numberB_bad (by left; exact h15)]
    replace hh := hh.up1
    exact ⟨A_lf, c_lf, rfl, h_lf, k_lf, hh⟩
  · refine gy rfl he rfl ?_
    refine mv rfl rfl he fun a he => ?_
    refine gy rfl he rfl ?_
    refine mv rfl rfl he fun a he => ?_
    refine gy rfl he rfl ?_
    refine gt rfl rfl rfl he fun a he => ?_
    refine pkf rfl rfl rfl he fun a he => ?_
    refine en ?_
    refine cnd he rfl (fun h19 => ?_) (fun h19 => ?_)
    · replace h19 : m < ((numGet lf).1) := by omega
      refine sq ?_
      refine rg ?_
      replace hh := hh.up1
      refine st #[.bool false] ti_4 rfl rfl rfl rfl (by simp [Value.oneCell']) (by simp) he hh fun W hh => ?_
      replace hh : Hp I (.obj b_e (.cells [.bool false].toArray 4) :: _) W := hh
      refine en ?_
      refine sq ?_
      refine rg ?_
      refine asg rfl rfl he fun a he => ?_
      refine en ?_
      refine rt ?_
      refine rets1 Tryd.results23 he rfl (Ret.mk ?_)
      rw [numberB_bad (by right; omega)]
      replace hh := hh.up1
      exact ⟨A_lf, c_lf, rfl, h_lf, k_lf, hh⟩
    · replace h19 : ¬ (m < ((numGet lf).1)) := by omega
      refine sk ?_
      refine nm_then ?_
      refine sq ?_
      refine rg ?_
      refine ld rb_23 rfl (ocell hh.at0 rfl) rfl he fun a he => ?_
      refine mv rfl rfl he fun a he => ?_
      refine slo1 (xs := lf) ((numGet lf).2.1) ts_23 rfl rfl h_lf k_lf (numGet_le (by omega)) rfl he fun A1 cc2 a hf3 hc4 he => ?_
      refine st #[.slice A1 ((lf.drop ((numGet lf).2.1)).length) cc2] ti_23 rfl rfl rfl rfl (by simp [Value.oneCell']) (by simp) he hh fun W hh => ?_
      replace hh : Hp I (.obj b_l (.cells [.slice A1 ((lf.drop ((numGet lf).2.1)).length) cc2].toArray 23) :: _) W := hh
      refine en ?_
      refine sq ?_
      refine rg ?_
      refine mv rfl rfl he fun a he => ?_
      refine ci (((numGet lf).1 : Nat) : Int) .i64 ud_55 Tryd.underlying3 rfl (w64 (by omega) (by omega)) rfl he fun a he => ?_
      refine asg rfl rfl he fun a he => ?_
      refine en ?_
      refine rt ?_
      refine rets1 Tryd.results23 he rfl (Ret.mk ?_)
      have h0 : (numGet lf).2.2 = 0 := by omega
      rw [numberB_good h0 (by omega)]
      replace hh := hh.up1
      replace hh := hh.up1
      exact ⟨A1, cc2, rfl, hf3, hc4, hh⟩

end Go.Proofs.YtndaogkpgoimlaaDoor

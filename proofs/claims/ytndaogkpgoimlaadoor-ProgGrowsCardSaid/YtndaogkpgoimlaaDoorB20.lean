/- Walks through the given program's functions, printed op by op by this session's own program; what each computes is told by the plain functions of the texts S... -/
import Derived.Test.YtndaogkpgoimlaaDoorB17
import Derived.KernelRfl
namespace Go.Proofs.YtndaogkpgoimlaaDoor
open Go Go.RowKit K
set_option linter.unusedVariables false

set_option maxHeartbeats 2000000 in
theorem law_ProgGrows (I : Snap) (L : List Ch) (W : World) (ph : Int) (fl : Int) (of_ : Int) (nx : Int) (A_rs : Option Addr) (c_rs : Nat) (rs : List Int) (A_pd : Option Addr) (c_pd : Nat) (pd : List UInt8) (A_wd : Option Addr) (c_wd : Nat) (wd : List Int) (mk : Bool) (lg : Bool) (hh : Hp I L W) (h_rs : Fz I A_rs (rs.map i64v)) (k_rs : rs.length ≤ c_rs) (h_pd : Fz I A_pd (pd.map b8)) (k_pd : pd.length ≤ c_pd) (h_wd : Fz I A_wd (wd.map r32)) (k_wd : wd.length ≤ c_wd) (hr : (ph < 9223372036854775808 ∧ fl < 9223372036854775808 ∧ of_ < 9223372036854775808 ∧ nx < 9223372036854775808)) (hrs : ∀ c ∈ rs, c < 9223372036854775808) (hc : ∀ c ∈ wd, c < 4294967296) (hnx : -9223372036854775808 ≤ nx) :
    Calls Tryd.prog 7 #[.agg #[.int .i64 ph, .int .i64 fl, .int .i64 of_, .int .i64 nx, .slice A_rs rs.length c_rs, .slice A_pd pd.length c_pd, .slice A_wd wd.length c_wd, .bool mk, .bool lg]] W (Ret fun v W => ∃ (I' : Snap), v = .bool true ∧ I.le I' ∧ Hp I' (L) W) := by
  refine enter Tryd.func7 rfl Tryd.ntmps7 rfl fun a he => ?_
  refine sq ?_
  refine rg ?_
  refine bx #[.int .i64 ph, .int .i64 fl, .int .i64 of_, .int .i64 nx, .slice A_rs rs.length c_rs, .slice A_pd pd.length c_pd, .slice A_wd wd.length c_wd, .bool mk, .bool lg] rfl rfl rfl he hh fun bb1 a W he hh => ?_
  replace hh : Hp I (.obj bb1 (.cells [.int .i64 ph, .int .i64 fl, .int .i64 of_, .int .i64 nx, .slice A_rs rs.length c_rs, .slice A_pd pd.length c_pd, .slice A_wd wd.length c_wd, .bool mk, .bool lg].toArray 28) :: _) W := hh
  refine asg rfl rfl he fun a he => ?_
  refine en ?_
  refine sq ?_
  refine rg ?_
  refine cal cb_8 rfl (law_shown _ _ _  hh ) rfl he fun v a W hp he => ?_
  obtain ⟨I2, rfl, hl3, hh⟩ := hp
  refine asg rfl rfl he fun a he => ?_
  refine en ?_
  refine sq ?_
  refine sq ?_
  refine rg ?_
  refine ldA [.int .i64 ph, .int .i64 fl, .int .i64 of_, .int .i64 nx, .slice A_rs rs.length c_rs, .slice A_pd pd.length c_pd, .slice A_wd wd.length c_wd, .bool mk, .bool lg] rb_28 ti_28 rfl ((Rd.obj hh.at0 0).take 9) rfl rfl he fun a he => ?_
  refine cal cb_9 rfl (law_few _ _ _ ph fl of_ nx A_rs c_rs rs A_pd c_pd pd A_wd c_wd wd mk lg hh (h_rs.up hl3) k_rs (h_pd.up hl3) k_pd (h_wd.up hl3) k_wd) rfl he fun v a W hp he => ?_
  obtain ⟨rfl, hh⟩ := hp
  refine nt rfl rfl he fun a he => ?_
  refine mv rfl rfl he fun a he => ?_
  refine jnl (fun a W => ∃ (I4 : Snap), I2.le I4 ∧ Env 79 [(0, .agg #[.int .i64 ph, .int .i64 fl, .int .i64 of_, .int .i64 nx, .slice A_rs rs.length c_rs, .slice A_pd pd.length c_pd, .slice A_wd wd.length c_wd, .bool mk, .bool lg]), (1, .pointer (some ⟨bb1, 0, none⟩)), (2, .bool false), (3, .bool true), (15, .bool ((!(decide (rs.length ≤ 300) && (decide (pd.length ≤ 300) && decide (wd.length ≤ 300)))) || (!(mayN ph fl of_ nx rs pd wd mk lg))))] a ∧ Hp I4 (.obj bb1 (.cells ([.int .i64 ph, .int .i64 fl, .int .i64 of_, .int .i64 nx, .slice A_rs rs.length c_rs, .slice A_pd pd.length c_pd, .slice A_wd wd.length c_wd, .bool mk, .bool lg]).toArray 28) :: L) W) 5 (fun a W hM => ?_) fun key6 => ?_
  · obtain ⟨I4, hle5, he, hh⟩ := hM
    refine mv rfl rfl he fun a he => ?_
    refine jnl (fun a W => Env 79 [(0, .agg #[.int .i64 ph, .int .i64 fl, .int .i64 of_, .int .i64 nx, .slice A_rs rs.length c_rs, .slice A_pd pd.length c_pd, .slice A_wd wd.length c_wd, .bool mk, .bool lg]), (1, .pointer (some ⟨bb1, 0, none⟩)), (2, .bool false), (3, .bool true), (20, .bool (((!(decide (rs.length ≤ 300) && (decide (pd.length ≤ 300) && decide (wd.length ≤ 300)))) || (!(mayN ph fl of_ nx rs pd wd mk lg))) || (decide ((1099511627776 : Int) ≤ nx))))] a ∧ Hp I4 (.obj bb1 (.cells ([.int .i64 ph, .int .i64 fl, .int .i64 of_, .int .i64 nx, .slice A_rs rs.length c_rs, .slice A_pd pd.length c_pd, .slice A_wd wd.length c_wd, .bool mk, .bool lg]).toArray 28) :: L) W) 4 (fun a W hM => ?_) fun key8 => ?_
    · obtain ⟨he, hh⟩ := hM
      refine en ?_
      refine cnb he rfl (fun h20 => ?_) (fun h20 => ?_)
      · refine sq ?_
        refine rg ?_
        refine mv rfl rfl he fun a he => ?_
        refine asg rfl rfl he fun a he => ?_
        refine en ?_
        refine rt ?_
        refine rets1 Tryd.results7 he rfl (Ret.mk ?_)
        replace hh := hh.drop
        exact ⟨I4, rfl, (hl3.trans hle5), hh⟩
      · have hq : ((rs.length ≤ 300 ∧ pd.length ≤ 300 ∧ wd.length ≤ 300) ∧ mayN ph fl of_ nx rs pd wd mk lg = true) ∧ nx < 1099511627776 := by simpa using h20
        obtain ⟨⟨⟨q1, q2, q3⟩, hm⟩, q4⟩ := hq
        have hph := (mayN_facts hm).2.2.1
        have h0 := (mayN_facts hm).1
        have hp0 := h0 ph (by simp [fours])
        have hm2 := mayN_more hm q1 q4
        refine sk ?_
        refine nm_then ?_
        refine sq ?_
        refine rg ?_
        refine ldA [.int .i64 ph, .int .i64 fl, .int .i64 of_, .int .i64 nx, .slice A_rs rs.length c_rs, .slice A_pd pd.length c_pd, .slice A_wd wd.length c_wd, .bool mk, .bool lg] rb_28 ti_28 rfl ((Rd.obj hh.at0 0).take 9) rfl rfl he fun a he => ?_
        refine al ti_28 rfl he hh fun bb9 a W he hh => ?_
        replace hh : Hp I4 (.obj bb9 (.cells [.int .i64 0, .int .i64 0, .int .i64 0, .int .i64 0, .slice none 0 0, .slice none 0 0, .slice none 0 0, .bool false, .bool false].toArray 28) :: _) W := hh
        refine st #[.int .i64 ph, .int .i64 fl, .int .i64 of_, .int .i64 nx, .slice A_rs rs.length c_rs, .slice A_pd pd.length c_pd, .slice A_wd wd.length c_wd, .bool mk, .bool lg] ti_28 rfl rfl rfl rfl (by simp [Value.oneCell']) (by simp) he hh fun W hh => ?_
        replace hh : Hp I4 (.obj bb9 (.cells [.int .i64 ph, .int .i64 fl, .int .i64 of_, .int .i64 nx, .slice A_rs rs.length c_rs, .slice A_pd pd.length c_pd, .slice A_wd wd.length c_wd, .bool mk, .bool lg].toArray 28) :: _) W := hh
        refine en ?_
        refine sq ?_
        replace hh := hh.up1
        refine rgd (SH I4 [.obj bb1 (.cells ([.int .i64 ph, .int .i64 fl, .int .i64 of_, .int .i64 nx, .slice A_rs rs.length c_rs, .slice A_pd pd.length c_pd, .slice A_wd wd.length c_wd, .bool mk, .bool lg]).toArray 28)]) 10 mixo rfl hh fun W hh => ?_
        refine ahp (d := 24) (v := .pointer (some ⟨bb1, 4, none⟩)) 1 rfl (by kernel_rfl) (by kernel_rfl) (by kernel_rfl) rfl rfl rfl he ⟨_, _, (Snap.le.refl _), hh⟩ (fun W hS => by
            refine fa fo_28_4 rfl rfl he fun a he => ?_
            exact aqe he) fun a he => ?_
        refine ahp (d := 25) (v := .slice A_rs rs.length c_rs) 2 rfl (by kernel_rfl) (by kernel_rfl) (by kernel_rfl) rfl rfl rfl he ⟨_, _, (Snap.le.refl _), hh⟩ (fun W hS => by
            obtain ⟨I10, _, hleI10, hh⟩ := hS
            refine ld rb_22 rfl (ocell hh.at0 rfl) rfl he fun a he => ?_
            exact aqe he) fun a he => ?_
        refine ahp (d := 27) (v := .pointer (some ⟨bb1, 3, none⟩)) 4 rfl (by kernel_rfl) (by kernel_rfl) (by kernel_rfl) rfl rfl rfl he ⟨_, _, (Snap.le.refl _), hh⟩ (fun W hS => by
            refine fa fo_28_3 rfl rfl he fun a he => ?_
            exact aqe he) fun a he => ?_
        refine ahp (d := 28) (v := .int .i64 nx) 5 rfl (by kernel_rfl) (by kernel_rfl) (by kernel_rfl) rfl rfl rfl he ⟨_, _, (Snap.le.refl _), hh⟩ (fun W hS => by
            obtain ⟨I11, _, hleI11, hh⟩ := hS
            refine ld rb_3 rfl (ocell hh.at0 rfl) rfl he fun a he => ?_
            exact aqe he) fun a he => ?_
        refine jnd (fun a W => ∃ (A12 : Option Addr) (cc13 : Nat) (A15 : Option Addr) (cc16 : Nat), Env 79 [(0, .agg #[.int .i64 ph, .int .i64 fl, .int .i64 of_, .int .i64 nx, .slice A_rs rs.length c_rs, .slice A_pd pd.length c_pd, .slice A_wd wd.length c_wd, .bool mk, .bool lg]), (1, .pointer (some ⟨bb1, 0, none⟩)), (2, .bool false), (3, .bool true), (4, .pointer (some ⟨bb9, 0, none⟩)), (20, .bool (((!(decide (rs.length ≤ 300) && (decide (pd.length ≤ 300) && decide (wd.length ≤ 300)))) || (!(mayN ph fl of_ nx rs pd wd mk lg))) || (decide ((1099511627776 : Int) ≤ nx)))), (26, .slice A12 (((rs : List Int)).length) cc13), (29, .slice A15 1 cc16)] a ∧ Hp I4 (.obj bb1 (.cells ([.int .i64 ph, .int .i64 fl, .int .i64 of_, .int .i64 nx, .slice A_rs rs.length c_rs, .slice A_pd pd.length c_pd, .slice A_wd wd.length c_wd, .bool mk, .bool lg]).toArray 28) :: .obj bb9 (.cells ([.int .i64 ph, .int .i64 fl, .int .i64 of_, .int .i64 nx, .slice A_rs rs.length c_rs, .slice A_pd pd.length c_pd, .slice A_wd wd.length c_wd, .bool mk, .bool lg]).toArray 28) :: .row A12 (((rs : List Int)).length) cc13 3 1 (((rs : List Int)).map i64v) :: .row A15 1 cc16 3 1 ([.int .i64 nx]) :: L) W) 3 #[true, true, true, true, true, true, true, false, false, false] (fun a W hM => ?_) fun key19 => ?_
        · obtain ⟨A12, cc13, A15, cc16, he, hh⟩ := hM
          refine aha1 (i := 7) (by kernel_rfl) ?_
          refine aop rfl ?_
          replace hh := hh.up2
          refine ap ts_22 rfl rfl (Ch.rd hh.at3) (by first | rfl | (simp; done) | (simp; omega)) (by simp [Value.oneCell']) (by first | omega | (simp; omega)) rfl he hh fun A20 cc21 a W he hh => ?_
          replace hh := hh.re (n' := (((rs : List Int) ++ [nx])).length) (cs' := (((rs : List Int) ++ [nx])).map i64v) (by first | rfl | (simp; done) | (simp; omega)) (by simp [i64v])
          replace he := he.be (t := 30) (v' := .slice A20 (((rs : List Int) ++ [nx])).length cc21) rfl (by congr 1 <;> (first | rfl | (simp; done) | (simp; omega)))
          replace hh := hh.up3
          replace hh := hh.drop
          replace hh := hh.up1
          refine aen ⟨_, _, (Snap.le.refl _), hh⟩ ?_
          refine ahp (d := 31) (v := .pointer (some ⟨bb9, 4, none⟩)) 8 rfl (by kernel_rfl) (by kernel_rfl) (by kernel_rfl) rfl rfl rfl he ⟨_, _, (Snap.le.refl _), hh⟩ (fun W hS => by
              refine fa fo_28_4 rfl rfl he fun a he => ?_
              exact aqe he) fun a he => ?_
          refine aha1 (i := 9) (by kernel_rfl) ?_
          refine aop rfl ?_
          replace hh := hh.up2
          refine st #[.slice A20 ((((rs : List Int) ++ [nx])).length) cc21] ti_22 rfl rfl rfl rfl (by simp [Value.oneCell']) (by simp) he hh fun W hh => ?_
          replace hh : Hp I4 (.obj bb9 (.cells [.int .i64 ph, .int .i64 fl, .int .i64 of_, .int .i64 nx, .slice A20 ((((rs : List Int) ++ [nx])).length) cc21, .slice A_pd pd.length c_pd, .slice A_wd wd.length c_wd, .bool mk, .bool lg].toArray 28) :: _) W := hh
          replace hh := hh.up1
          refine aen ⟨_, _, (Snap.le.refl _), hh⟩ ?_
          refine ahd (by kernel_rfl) ?_
          refine en ?_
          refine sq ?_
          refine rg ?_
          refine fa fo_28_3 rfl rfl he fun a he => ?_
          refine ld rb_3 rfl (ocell hh.at0 rfl) rfl he fun a he => ?_
          refine ad (nx + 1) rfl rfl (w64 (by omega) (by omega)) rfl he fun a he => ?_
          refine fa fo_28_3 rfl rfl he fun a he => ?_
          replace hh := hh.up1
          refine st #[.int .i64 (nx + 1)] ti_3 rfl rfl rfl rfl (by simp [Value.oneCell']) (by simp) he hh fun W hh => ?_
          replace hh : Hp I4 (.obj bb9 (.cells [.int .i64 ph, .int .i64 fl, .int .i64 of_, .int .i64 (nx + 1), .slice A20 ((((rs : List Int) ++ [nx])).length) cc21, .slice A_pd pd.length c_pd, .slice A_wd wd.length c_wd, .bool mk, .bool lg].toArray 28) :: _) W := hh
          refine en ?_
          refine sq ?_
          refine rg ?_
          refine ldA [.int .i64 ph, .int .i64 fl, .int .i64 of_, .int .i64 (nx + 1), .slice A20 ((((rs : List Int) ++ [nx])).length) cc21, .slice A_pd pd.length c_pd, .slice A_wd wd.length c_wd, .bool mk, .bool lg] rb_28 ti_28 rfl ((Rd.obj hh.at0 0).take 9) rfl rfl he fun a he => ?_
          refine al ti_28 rfl he hh fun bb23 a W he hh => ?_
          replace hh : Hp I4 (.obj bb23 (.cells [.int .i64 0, .int .i64 0, .int .i64 0, .int .i64 0, .slice none 0 0, .slice none 0 0, .slice none 0 0, .bool false, .bool false].toArray 28) :: _) W := hh
          refine st #[.int .i64 ph, .int .i64 fl, .int .i64 of_, .int .i64 (nx + 1), .slice A20 ((((rs : List Int) ++ [nx])).length) cc21, .slice A_pd pd.length c_pd, .slice A_wd wd.length c_wd, .bool mk, .bool lg] ti_28 rfl rfl rfl rfl (by simp [Value.oneCell']) (by simp) he hh fun W hh => ?_
          replace hh : Hp I4 (.obj bb23 (.cells [.int .i64 ph, .int .i64 fl, .int .i64 of_, .int .i64 (nx + 1), .slice A20 ((((rs : List Int) ++ [nx])).length) cc21, .slice A_pd pd.length c_pd, .slice A_wd wd.length c_wd, .bool mk, .bool lg].toArray 28) :: _) W := hh
          refine en ?_
          refine sq ?_
          refine rg ?_
          refine fa fo_28_0 rfl rfl he fun a he => ?_
          refine ld rb_3 rfl (ocell hh.at2 rfl) rfl he fun a he => ?_
          refine ad (ph + 1) rfl rfl (w64 (by omega) (by omega)) rfl he fun a he => ?_
          refine fa fo_28_0 rfl rfl he fun a he => ?_
          refine st #[.int .i64 (ph + 1)] ti_3 rfl rfl rfl rfl (by simp [Value.oneCell']) (by simp) he hh fun W hh => ?_
          replace hh : Hp I4 (.obj bb23 (.cells [.int .i64 (ph + 1), .int .i64 fl, .int .i64 of_, .int .i64 (nx + 1), .slice A20 ((((rs : List Int) ++ [nx])).length) cc21, .slice A_pd pd.length c_pd, .slice A_wd wd.length c_wd, .bool mk, .bool lg].toArray 28) :: _) W := hh
          refine en ?_
          refine sq ?_
          refine rg ?_
          refine fa fo_28_1 rfl rfl he fun a he => ?_
          refine st #[.int .i64 0] ti_3 rfl rfl rfl rfl (by simp [Value.oneCell']) (by simp) he hh fun W hh => ?_
          replace hh : Hp I4 (.obj bb23 (.cells [.int .i64 (ph + 1), .int .i64 0, .int .i64 of_, .int .i64 (nx + 1), .slice A20 ((((rs : List Int) ++ [nx])).length) cc21, .slice A_pd pd.length c_pd, .slice A_wd wd.length c_wd, .bool mk, .bool lg].toArray 28) :: _) W := hh
          refine en ?_
          refine sq ?_
          refine rgd (SH I4 [.obj bb23 (.cells ([.int .i64 (ph + 1), .int .i64 0, .int .i64 of_, .int .i64 (nx + 1), .slice A20 ((((rs : List Int) ++ [nx])).length) cc21, .slice A_pd pd.length c_pd, .slice A_wd wd.length c_wd, .bool mk, .bool lg]).toArray 28), .obj bb9 (.cells ([.int .i64 ph, .int .i64 fl, .int .i64 of_, .int .i64 (nx + 1), .slice A20 ((((rs : List Int) ++ [nx])).length) cc21, .slice A_pd pd.length c_pd, .slice A_wd wd.length c_wd, .bool mk, .bool lg]).toArray 28), .obj bb1 (.cells ([.int .i64 ph, .int .i64 fl, .int .i64 of_, .int .i64 nx, .slice A_rs rs.length c_rs, .slice A_pd pd.length c_pd, .slice A_wd wd.length c_wd, .bool mk, .bool lg]).toArray 28)]) 38 mixo rfl hh fun W hh => ?_
          refine ahp (d := 42) (v := .bool true) 0 rfl (by kernel_rfl) (by kernel_rfl) (by kernel_rfl) rfl rfl rfl he ⟨_, _, (Snap.le.refl _), hh⟩ (fun W hS => by
              refine mv rfl rfl he fun a he => ?_
              exact aqe he) fun a he => ?_
          refine ahp (d := 43) (v := .bool true) 1 rfl (by kernel_rfl) (by kernel_rfl) (by kernel_rfl) rfl rfl rfl he ⟨_, _, (Snap.le.refl _), hh⟩ (fun W hS => by
              refine mv rfl rfl he fun a he => ?_
              exact aqe he) fun a he => ?_
          refine ahp (d := 44) (v := .agg #[.int .i64 ph, .int .i64 fl, .int .i64 of_, .int .i64 (nx + 1), .slice A20 ((((rs : List Int) ++ [nx])).length) cc21, .slice A_pd pd.length c_pd, .slice A_wd wd.length c_wd, .bool mk, .bool lg]) 2 rfl (by kernel_rfl) (by kernel_rfl) (by kernel_rfl) rfl rfl rfl he ⟨_, _, (Snap.le.refl _), hh⟩ (fun W hS => by
              obtain ⟨I24, _, hleI24, hh⟩ := hS
              refine gy rfl he rfl ?_
              refine ldA [.int .i64 ph, .int .i64 fl, .int .i64 of_, .int .i64 (nx + 1), .slice A20 ((((rs : List Int) ++ [nx])).length) cc21, .slice A_pd pd.length c_pd, .slice A_wd wd.length c_wd, .bool mk, .bool lg] rb_28 ti_28 rfl ((Rd.obj hh.at1 0).take 9) rfl rfl he fun a he => ?_
              exact aqe he) fun a he => ?_
          refine aha1 (i := 3) (by kernel_rfl) ?_
          refine aop rfl ?_
          refine gy rfl he rfl ?_
          replace hh := hh.up3
          have hc28 := (Ch.rowcap hh.at0).1
          obtain ⟨I25, hl26, hh, hf27⟩ := hh.freezeRow
          refine cal cb_12 rfl (law_made _ _ _ ph fl of_ (nx + 1) A20 cc21 ((rs : List Int) ++ [nx]) A_pd c_pd pd A_wd c_wd wd mk lg hh hf27 hc28 (h_pd.up ((hl3.trans hle5).trans hl26)) k_pd (h_wd.up ((hl3.trans hle5).trans hl26)) k_wd) rfl he fun v a W hp he => ?_
          obtain ⟨A29, cc30, A31, cc32, A33, cc34, rfl, hf35, hc36, hf37, hc38, hf39, hc40, hh⟩ := hp
          refine aen ⟨_, _, hl26, hh⟩ ?_
          refine aha1 (i := 4) (by kernel_rfl) ?_
          refine aop rfl ?_
          refine gy rfl he rfl ?_
          refine cal cb_13 rfl (prog_May _ _ _ ph fl of_ (nx + 1) A29 cc30 ((rs : List Int) ++ [nx]) A31 cc32 pd A33 cc34 wd mk lg hh hf35 hc36 hf37 hc38 hf39 hc40 (by simp; omega) (by omega) (by omega) hc) rfl he fun v a W hp he => ?_
          obtain ⟨I41, rfl, hl42, hh⟩ := hp
          refine aen ⟨_, _, (hl26.trans hl42), hh⟩ ?_
          refine ahp (d := 47) (v := .bool (mayN ph fl of_ (nx + 1) ((rs : List Int) ++ [nx]) pd wd mk lg)) 5 rfl (by kernel_rfl) (by kernel_rfl) (by kernel_rfl) rfl rfl rfl he ⟨_, _, (hl26.trans hl42), hh⟩ (fun W hS => by
              refine pkt rfl rfl rfl he fun a he => ?_
              exact aqe he) fun a he => ?_
          refine ahp (d := 48) (v := .bool (mayN ph fl of_ (nx + 1) ((rs : List Int) ++ [nx]) pd wd mk lg)) 6 rfl (by kernel_rfl) (by kernel_rfl) (by kernel_rfl) rfl rfl rfl he ⟨_, _, (hl26.trans hl42), hh⟩ (fun W hS => by
              refine mv rfl rfl he fun a he => ?_
              exact aqe he) fun a he => ?_
          replace he := he.be (t := 48) (v' := .bool true) rfl (by exact congrArg Value.bool (by simp [hm2, less_more, less_later, lessL_asymm _ _ (less_more ph fl of_ nx), mayN_later hm2]))
          refine ahp (d := 49) (v := .agg #[.int .i64 ph, .int .i64 fl, .int .i64 of_, .int .i64 nx, .slice A_rs rs.length c_rs, .slice A_pd pd.length c_pd, .slice A_wd wd.length c_wd, .bool mk, .bool lg]) 7 rfl (by kernel_rfl) (by kernel_rfl) (by kernel_rfl) rfl rfl rfl he ⟨_, _, (hl26.trans hl42), hh⟩ (fun W hS => by
              obtain ⟨I44, _, hleI44, hh⟩ := hS
              refine gy rfl he rfl ?_
              refine ldA [.int .i64 ph, .int .i64 fl, .int .i64 of_, .int .i64 nx, .slice A_rs rs.length c_rs, .slice A_pd pd.length c_pd, .slice A_wd wd.length c_wd, .bool mk, .bool lg] rb_28 ti_28 rfl ((Rd.obj hh.at2 0).take 9) rfl rfl he fun a he => ?_
              exact aqe he) fun a he => ?_
          refine ahp (d := 51) (v := .agg #[.int .i64 ph, .int .i64 fl, .int .i64 of_, .int .i64 (nx + 1), .slice A20 ((((rs : List Int) ++ [nx])).length) cc21, .slice A_pd pd.length c_pd, .slice A_wd wd.length c_wd, .bool mk, .bool lg]) 9 rfl (by kernel_rfl) (by kernel_rfl) (by kernel_rfl) rfl rfl rfl he ⟨_, _, (hl26.trans hl42), hh⟩ (fun W hS => by
              obtain ⟨I45, _, hleI45, hh⟩ := hS
              refine gy rfl he rfl ?_
              refine ldA [.int .i64 ph, .int .i64 fl, .int .i64 of_, .int .i64 (nx + 1), .slice A20 ((((rs : List Int) ++ [nx])).length) cc21, .slice A_pd pd.length c_pd, .slice A_wd wd.length c_wd, .bool mk, .bool lg] rb_28 ti_28 rfl ((Rd.obj hh.at1 0).take 9) rfl rfl he fun a he => ?_
              exact aqe he) fun a he => ?_
          refine aha1 (i := 8) (by kernel_rfl) ?_
          refine aop rfl ?_
          refine gy rfl he rfl ?_
          refine cal cb_12 rfl (law_made _ _ _ ph fl of_ nx A_rs c_rs rs A_pd c_pd pd A_wd c_wd wd mk lg hh (h_rs.up (((hl3.trans hle5).trans hl26).trans hl42)) k_rs (h_pd.up (((hl3.trans hle5).trans hl26).trans hl42)) k_pd (h_wd.up (((hl3.trans hle5).trans hl26).trans hl42)) k_wd) rfl he fun v a W hp he => ?_
          obtain ⟨A46, cc47, A48, cc49, A50, cc51, rfl, hf52, hc53, hf54, hc55, hf56, hc57, hh⟩ := hp
          refine aen ⟨_, _, (hl26.trans hl42), hh⟩ ?_
          refine aha1 (i := 10) (by kernel_rfl) ?_
          refine aop rfl ?_
          refine gy rfl he rfl ?_
          refine cal cb_12 rfl (law_made _ _ _ ph fl of_ (nx + 1) A20 cc21 ((rs : List Int) ++ [nx]) A_pd c_pd pd A_wd c_wd wd mk lg hh (hf27.up hl42) hc28 (h_pd.up (((hl3.trans hle5).trans hl26).trans hl42)) k_pd (h_wd.up (((hl3.trans hle5).trans hl26).trans hl42)) k_wd) rfl he fun v a W hp he => ?_
          obtain ⟨A58, cc59, A60, cc61, A62, cc63, rfl, hf64, hc65, hf66, hc67, hf68, hc69, hh⟩ := hp
          refine aen ⟨_, _, (hl26.trans hl42), hh⟩ ?_
          refine aha1 (i := 11) (by kernel_rfl) ?_
          refine aop rfl ?_
          refine gy rfl he rfl ?_
          refine cal cb_20 rfl (prog_Less _ _ _ ph fl of_ nx A46 cc47 rs A48 cc49 pd A50 cc51 wd mk lg ph fl of_ (nx + 1) A58 cc59 ((rs : List Int) ++ [nx]) A60 cc61 pd A62 cc63 wd mk lg hh hf52 hc53 hf54 hc55 hf56 hc57 hf64 hc65 hf66 hc67 hf68 hc69) rfl he fun v a W hp he => ?_
          obtain ⟨rfl, hh⟩ := hp
          refine aen ⟨_, _, (hl26.trans hl42), hh⟩ ?_
          refine ahp (d := 54) (v := .bool (lessL (fours ph fl of_ nx) (fours ph fl of_ (nx + 1)))) 12 rfl (by kernel_rfl) (by kernel_rfl) (by kernel_rfl) rfl rfl rfl he ⟨_, _, (hl26.trans hl42), hh⟩ (fun W hS => by
              refine pkt rfl rfl rfl he fun a he => ?_
              exact aqe he) fun a he => ?_
          refine ahp (d := 55) (v := .bool (lessL (fours ph fl of_ nx) (fours ph fl of_ (nx + 1)))) 13 rfl (by kernel_rfl) (by kernel_rfl) (by kernel_rfl) rfl rfl rfl he ⟨_, _, (hl26.trans hl42), hh⟩ (fun W hS => by
              refine mv rfl rfl he fun a he => ?_
              exact aqe he) fun a he => ?_
          replace he := he.be (t := 55) (v' := .bool true) rfl (by exact congrArg Value.bool (by simp [hm2, less_more, less_later, lessL_asymm _ _ (less_more ph fl of_ nx), mayN_later hm2]))
          refine ahp (d := 56) (v := .agg #[.int .i64 ph, .int .i64 fl, .int .i64 of_, .int .i64 (nx + 1), .slice A20 ((((rs : List Int) ++ [nx])).length) cc21, .slice A_pd pd.length c_pd, .slice A_wd wd.length c_wd, .bool mk, .bool lg]) 14 rfl (by kernel_rfl) (by kernel_rfl) (by kernel_rfl) rfl rfl rfl he ⟨_, _, (hl26.trans hl42), hh⟩ (fun W hS => by
              obtain ⟨I71, _, hleI71, hh⟩ := hS
              refine gy rfl he rfl ?_
              refine ldA [.int .i64 ph, .int .i64 fl, .int .i64 of_, .int .i64 (nx + 1), .slice A20 ((((rs : List Int) ++ [nx])).length) cc21, .slice A_pd pd.length c_pd, .slice A_wd wd.length c_wd, .bool mk, .bool lg] rb_28 ti_28 rfl ((Rd.obj hh.at1 0).take 9) rfl rfl he fun a he => ?_
              exact aqe he) fun a he => ?_
          refine ahp (d := 58) (v := .agg #[.int .i64 ph, .int .i64 fl, .int .i64 of_, .int .i64 nx, .slice A_rs rs.length c_rs, .slice A_pd pd.length c_pd, .slice A_wd wd.length c_wd, .bool mk, .bool lg]) 16 rfl (by kernel_rfl) (by kernel_rfl) (by kernel_rfl) rfl rfl rfl he ⟨_, _, (hl26.trans hl42), hh⟩ (fun W hS => by
              obtain ⟨I72, _, hleI72, hh⟩ := hS
              refine gy rfl he rfl ?_
              refine ldA [.int .i64 ph, .int .i64 fl, .int .i64 of_, .int .i64 nx, .slice A_rs rs.length c_rs, .slice A_pd pd.length c_pd, .slice A_wd wd.length c_wd, .bool mk, .bool lg] rb_28 ti_28 rfl ((Rd.obj hh.at2 0).take 9) rfl rfl he fun a he => ?_
              exact aqe he) fun a he => ?_
          refine aha1 (i := 15) (by kernel_rfl) ?_
          refine aop rfl ?_
          refine gy rfl he rfl ?_
          refine cal cb_12 rfl (law_made _ _ _ ph fl of_ (nx + 1) A20 cc21 ((rs : List Int) ++ [nx]) A_pd c_pd pd A_wd c_wd wd mk lg hh (hf27.up hl42) hc28 (h_pd.up (((hl3.trans hle5).trans hl26).trans hl42)) k_pd (h_wd.up (((hl3.trans hle5).trans hl26).trans hl42)) k_wd) rfl he fun v a W hp he => ?_
          obtain ⟨A73, cc74, A75, cc76, A77, cc78, rfl, hf79, hc80, hf81, hc82, hf83, hc84, hh⟩ := hp
          refine aen ⟨_, _, (hl26.trans hl42), hh⟩ ?_
          refine aha1 (i := 17) (by kernel_rfl) ?_
          refine aop rfl ?_
          refine gy rfl he rfl ?_
          refine cal cb_12 rfl (law_made _ _ _ ph fl of_ nx A_rs c_rs rs A_pd c_pd pd A_wd c_wd wd mk lg hh (h_rs.up (((hl3.trans hle5).trans hl26).trans hl42)) k_rs (h_pd.up (((hl3.trans hle5).trans hl26).trans hl42)) k_pd (h_wd.up (((hl3.trans hle5).trans hl26).trans hl42)) k_wd) rfl he fun v a W hp he => ?_
          obtain ⟨A85, cc86, A87, cc88, A89, cc90, rfl, hf91, hc92, hf93, hc94, hf95, hc96, hh⟩ := hp
          refine aen ⟨_, _, (hl26.trans hl42), hh⟩ ?_
          refine aha1 (i := 18) (by kernel_rfl) ?_
          refine aop rfl ?_
          refine gy rfl he rfl ?_
          refine cal cb_20 rfl (prog_Less _ _ _ ph fl of_ (nx + 1) A73 cc74 ((rs : List Int) ++ [nx]) A75 cc76 pd A77 cc78 wd mk lg ph fl of_ nx A85 cc86 rs A87 cc88 pd A89 cc90 wd mk lg hh hf79 hc80 hf81 hc82 hf83 hc84 hf91 hc92 hf93 hc94 hf95 hc96) rfl he fun v a W hp he => ?_
          obtain ⟨rfl, hh⟩ := hp
          refine aen ⟨_, _, (hl26.trans hl42), hh⟩ ?_
          refine ahp (d := 61) (v := .bool (!(lessL (fours ph fl of_ (nx + 1)) (fours ph fl of_ nx)))) 19 rfl (by kernel_rfl) (by kernel_rfl) (by kernel_rfl) rfl rfl rfl he ⟨_, _, (hl26.trans hl42), hh⟩ (fun W hS => by
              refine gy rfl he rfl ?_
              refine nt rfl rfl he fun a he => ?_
              exact aqe he) fun a he => ?_
          refine ahp (d := 62) (v := .bool (!(lessL (fours ph fl of_ (nx + 1)) (fours ph fl of_ nx)))) 20 rfl (by kernel_rfl) (by kernel_rfl) (by kernel_rfl) rfl rfl rfl he ⟨_, _, (hl26.trans hl42), hh⟩ (fun W hS => by
              refine pkt rfl rfl rfl he fun a he => ?_
              exact aqe he) fun a he => ?_
          refine ahp (d := 63) (v := .bool (!(lessL (fours ph fl of_ (nx + 1)) (fours ph fl of_ nx)))) 21 rfl (by kernel_rfl) (by kernel_rfl) (by kernel_rfl) rfl rfl rfl he ⟨_, _, (hl26.trans hl42), hh⟩ (fun W hS => by
              refine mv rfl rfl he fun a he => ?_
              exact aqe he) fun a he => ?_
          replace he := he.be (t := 63) (v' := .bool true) rfl (by exact congrArg Value.bool (by simp [hm2, less_more, less_later, lessL_asymm _ _ (less_more ph fl of_ nx), mayN_later hm2]))
          refine ahp (d := 64) (v := .agg #[.int .i64 ph, .int .i64 fl, .int .i64 of_, .int .i64 (nx + 1), .slice A20 ((((rs : List Int) ++ [nx])).length) cc21, .slice A_pd pd.length c_pd, .slice A_wd wd.length c_wd, .bool mk, .bool lg]) 22 rfl (by kernel_rfl) (by kernel_rfl) (by kernel_rfl) rfl rfl rfl he ⟨_, _, (hl26.trans hl42), hh⟩ (fun W hS => by
              obtain ⟨I98, _, hleI98, hh⟩ := hS
              refine gy rfl he rfl ?_
              refine ldA [.int .i64 ph, .int .i64 fl, .int .i64 of_, .int .i64 (nx + 1), .slice A20 ((((rs : List Int) ++ [nx])).length) cc21, .slice A_pd pd.length c_pd, .slice A_wd wd.length c_wd, .bool mk, .bool lg] rb_28 ti_28 rfl ((Rd.obj hh.at1 0).take 9) rfl rfl he fun a he => ?_
              exact aqe he) fun a he => ?_
          refine ahp (d := 66) (v := .agg #[.int .i64 (ph + 1), .int .i64 0, .int .i64 of_, .int .i64 (nx + 1), .slice A20 ((((rs : List Int) ++ [nx])).length) cc21, .slice A_pd pd.length c_pd, .slice A_wd wd.length c_wd, .bool mk, .bool lg]) 24 rfl (by kernel_rfl) (by kernel_rfl) (by kernel_rfl) rfl rfl rfl he ⟨_, _, (hl26.trans hl42), hh⟩ (fun W hS => by
              obtain ⟨I99, _, hleI99, hh⟩ := hS
              refine gy rfl he rfl ?_
              refine ldA [.int .i64 (ph + 1), .int .i64 0, .int .i64 of_, .int .i64 (nx + 1), .slice A20 ((((rs : List Int) ++ [nx])).length) cc21, .slice A_pd pd.length c_pd, .slice A_wd wd.length c_wd, .bool mk, .bool lg] rb_28 ti_28 rfl ((Rd.obj hh.at0 0).take 9) rfl rfl he fun a he => ?_
              exact aqe he) fun a he => ?_
          refine aha1 (i := 23) (by kernel_rfl) ?_
          refine aop rfl ?_
          refine gy rfl he rfl ?_
          refine cal cb_12 rfl (law_made _ _ _ ph fl of_ (nx + 1) A20 cc21 ((rs : List Int) ++ [nx]) A_pd c_pd pd A_wd c_wd wd mk lg hh (hf27.up hl42) hc28 (h_pd.up (((hl3.trans hle5).trans hl26).trans hl42)) k_pd (h_wd.up (((hl3.trans hle5).trans hl26).trans hl42)) k_wd) rfl he fun v a W hp he => ?_
          obtain ⟨A100, cc101, A102, cc103, A104, cc105, rfl, hf106, hc107, hf108, hc109, hf110, hc111, hh⟩ := hp
          refine aen ⟨_, _, (hl26.trans hl42), hh⟩ ?_
          refine aha1 (i := 25) (by kernel_rfl) ?_
          refine aop rfl ?_
          refine gy rfl he rfl ?_
          refine cal cb_12 rfl (law_made _ _ _ (ph + 1) 0 of_ (nx + 1) A20 cc21 ((rs : List Int) ++ [nx]) A_pd c_pd pd A_wd c_wd wd mk lg hh (hf27.up hl42) hc28 (h_pd.up (((hl3.trans hle5).trans hl26).trans hl42)) k_pd (h_wd.up (((hl3.trans hle5).trans hl26).trans hl42)) k_wd) rfl he fun v a W hp he => ?_
          obtain ⟨A112, cc113, A114, cc115, A116, cc117, rfl, hf118, hc119, hf120, hc121, hf122, hc123, hh⟩ := hp
          refine aen ⟨_, _, (hl26.trans hl42), hh⟩ ?_
          refine aha1 (i := 26) (by kernel_rfl) ?_
          refine aop rfl ?_
          refine gy rfl he rfl ?_
          refine cal cb_20 rfl (prog_Less _ _ _ ph fl of_ (nx + 1) A100 cc101 ((rs : List Int) ++ [nx]) A102 cc103 pd A104 cc105 wd mk lg (ph + 1) 0 of_ (nx + 1) A112 cc113 ((rs : List Int) ++ [nx]) A114 cc115 pd A116 cc117 wd mk lg hh hf106 hc107 hf108 hc109 hf110 hc111 hf118 hc119 hf120 hc121 hf122 hc123) rfl he fun v a W hp he => ?_
          obtain ⟨rfl, hh⟩ := hp
          refine aen ⟨_, _, (hl26.trans hl42), hh⟩ ?_
          refine ahp (d := 69) (v := .bool (lessL (fours ph fl of_ (nx + 1)) (fours (ph + 1) 0 of_ (nx + 1)))) 27 rfl (by kernel_rfl) (by kernel_rfl) (by kernel_rfl) rfl rfl rfl he ⟨_, _, (hl26.trans hl42), hh⟩ (fun W hS => by
              refine pkt rfl rfl rfl he fun a he => ?_
              exact aqe he) fun a he => ?_
          refine ahp (d := 70) (v := .bool (lessL (fours ph fl of_ (nx + 1)) (fours (ph + 1) 0 of_ (nx + 1)))) 28 rfl (by kernel_rfl) (by kernel_rfl) (by kernel_rfl) rfl rfl rfl he ⟨_, _, (hl26.trans hl42), hh⟩ (fun W hS => by
              refine mv rfl rfl he fun a he => ?_
              exact aqe he) fun a he => ?_
          replace he := he.be (t := 70) (v' := .bool true) rfl (by exact congrArg Value.bool (by simp [hm2, less_more, less_later, lessL_asymm _ _ (less_more ph fl of_ nx), mayN_later hm2]))
          refine ahp (d := 71) (v := .agg #[.int .i64 (ph + 1), .int .i64 0, .int .i64 of_, .int .i64 (nx + 1), .slice A20 ((((rs : List Int) ++ [nx])).length) cc21, .slice A_pd pd.length c_pd, .slice A_wd wd.length c_wd, .bool mk, .bool lg]) 29 rfl (by kernel_rfl) (by kernel_rfl) (by kernel_rfl) rfl rfl rfl he ⟨_, _, (hl26.trans hl42), hh⟩ (fun W hS => by
              obtain ⟨I125, _, hleI125, hh⟩ := hS
              refine gy rfl he rfl ?_
              refine ldA [.int .i64 (ph + 1), .int .i64 0, .int .i64 of_, .int .i64 (nx + 1), .slice A20 ((((rs : List Int) ++ [nx])).length) cc21, .slice A_pd pd.length c_pd, .slice A_wd wd.length c_wd, .bool mk, .bool lg] rb_28 ti_28 rfl ((Rd.obj hh.at0 0).take 9) rfl rfl he fun a he => ?_
              exact aqe he) fun a he => ?_
          refine ahp (d := 74) (v := .pointer (some ⟨bb1, 0, none⟩)) 32 rfl (by kernel_rfl) (by kernel_rfl) (by kernel_rfl) rfl rfl rfl he ⟨_, _, (hl26.trans hl42), hh⟩ (fun W hS => by
              refine gy rfl he rfl ?_
              refine fa fo_28_0 rfl rfl he fun a he => ?_
              exact aqe he) fun a he => ?_
          refine ahp (d := 75) (v := .int .i64 ph) 33 rfl (by kernel_rfl) (by kernel_rfl) (by kernel_rfl) rfl rfl rfl he ⟨_, _, (hl26.trans hl42), hh⟩ (fun W hS => by
              obtain ⟨I126, _, hleI126, hh⟩ := hS
              refine gy rfl he rfl ?_
              refine ld rb_3 rfl (ocell hh.at2 rfl) rfl he fun a he => ?_
              exact aqe he) fun a he => ?_
          refine ahp (d := 76) (v := .bool (decide (ph < 2))) 34 rfl (by kernel_rfl) (by kernel_rfl) (by kernel_rfl) rfl rfl rfl he ⟨_, _, (hl26.trans hl42), hh⟩ (fun W hS => by
              refine gy rfl he rfl ?_
              refine lt rfl rfl rfl he fun a he => ?_
              exact aqe he) fun a he => ?_
          refine aha1 (i := 30) (by kernel_rfl) ?_
          refine aop rfl ?_
          refine gy rfl he rfl ?_
          refine cal cb_12 rfl (law_made _ _ _ (ph + 1) 0 of_ (nx + 1) A20 cc21 ((rs : List Int) ++ [nx]) A_pd c_pd pd A_wd c_wd wd mk lg hh (hf27.up hl42) hc28 (h_pd.up (((hl3.trans hle5).trans hl26).trans hl42)) k_pd (h_wd.up (((hl3.trans hle5).trans hl26).trans hl42)) k_wd) rfl he fun v a W hp he => ?_
          obtain ⟨A127, cc128, A129, cc130, A131, cc132, rfl, hf133, hc134, hf135, hc136, hf137, hc138, hh⟩ := hp
          refine aen ⟨_, _, (hl26.trans hl42), hh⟩ ?_
          refine aha1 (i := 31) (by kernel_rfl) ?_
          refine aop rfl ?_
          refine gy rfl he rfl ?_
          refine cal cb_13 rfl (prog_May _ _ _ (ph + 1) 0 of_ (nx + 1) A127 cc128 ((rs : List Int) ++ [nx]) A129 cc130 pd A131 cc132 wd mk lg hh hf133 hc134 hf135 hc136 hf137 hc138 (by simp; omega) (by omega) (by omega) hc) rfl he fun v a W hp he => ?_
          obtain ⟨I139, rfl, hl140, hh⟩ := hp
          refine aen ⟨_, _, ((hl26.trans hl42).trans hl140), hh⟩ ?_
          refine ahp (d := 77) (v := .bool ((mayN (ph + 1) 0 of_ (nx + 1) ((rs : List Int) ++ [nx]) pd wd mk lg) == (decide (ph < 2)))) 35 rfl (by kernel_rfl) (by kernel_rfl) (by kernel_rfl) rfl rfl rfl he ⟨_, _, ((hl26.trans hl42).trans hl140), hh⟩ (fun W hS => by
              refine gy rfl he rfl ?_
              refine beq' Tryd.underlying4 rfl rfl rfl he fun a he => ?_
              exact aqe he) fun a he => ?_
          refine ahp (d := 78) (v := .bool ((mayN (ph + 1) 0 of_ (nx + 1) ((rs : List Int) ++ [nx]) pd wd mk lg) == (decide (ph < 2)))) 36 rfl (by kernel_rfl) (by kernel_rfl) (by kernel_rfl) rfl rfl rfl he ⟨_, _, ((hl26.trans hl42).trans hl140), hh⟩ (fun W hS => by
              refine pkt rfl rfl rfl he fun a he => ?_
              exact aqe he) fun a he => ?_
          refine ahp (d := 2) (v := .bool ((mayN (ph + 1) 0 of_ (nx + 1) ((rs : List Int) ++ [nx]) pd wd mk lg) == (decide (ph < 2)))) 37 rfl (by kernel_rfl) (by kernel_rfl) (by kernel_rfl) rfl rfl rfl he ⟨_, _, ((hl26.trans hl42).trans hl140), hh⟩ (fun W hS => by
              refine asg rfl rfl he fun a he => ?_
              exact aqe he) fun a he => ?_
          refine ahd (by kernel_rfl) ?_
          refine en ?_
          refine rt ?_
          refine rets1 Tryd.results7 he rfl (Ret.mk ?_)
          replace hh := hh.drop
          replace hh := hh.drop
          replace hh := hh.drop
          exact ⟨I139, congrArg Value.bool (by rw [mayN_later hm2]; simp), ((((hl3.trans hle5).trans hl26).trans hl42).trans hl140), hh⟩
        refine aha2 (i := 0) (j := 6) (by kernel_rfl) ?_ ?_
        · refine aop rfl ?_
          refine bsl [] [] ts_22 rfl rfl rfl rfl rfl rfl rfl he hh fun bb141 a W he hh => ?_
          replace hh := hh.up1
          refine aen ⟨_, _, (Snap.le.refl _), hh⟩ ?_
          refine aha2 (i := 3) (j := 6) (by kernel_rfl) ?_ ?_
          · refine aop rfl ?_
            replace hh := hh.up1
            refine ap ts_22 rfl rfl ((h_rs.up (hl3.trans hle5)).rd hh) (by first | rfl | (simp; done) | (simp; omega)) (one_map (fun _ => rfl) _) (by first | omega | (simp; omega)) rfl he hh fun A142 cc143 a W he hh => ?_
            replace hh := hh.re (n' := ((rs : List Int)).length) (cs' := ((rs : List Int)).map i64v) (by first | rfl | (simp; done) | (simp; omega)) (by simp [i64v])
            replace he := he.be (t := 26) (v' := .slice A142 ((rs : List Int)).length cc143) rfl (by congr 1 <;> (first | rfl | (simp; done) | (simp; omega)))
            replace hh := hh.up1
            refine aen ⟨_, _, (Snap.le.refl _), hh⟩ ?_
            refine aha1 (i := 6) (by kernel_rfl) ?_
            refine aop rfl ?_
            refine bsl [(0, .int .i64 nx)] [.int .i64 nx] ts_22 rfl rfl rfl rfl rfl rfl rfl he hh fun bb145 a W he hh => ?_
            replace hh := hh.up1
            refine aen ⟨_, _, (Snap.le.refl _), hh⟩ ?_
            replace hh := hh.up1
            replace hh := hh.up2
            replace hh := hh.up3
            replace hh := hh.up3
            exact key19 _ _ _ (by kernel_rfl) ⟨A142, cc143, (some ⟨bb145, 0, none⟩), 1, he.keep [0, 1, 2, 3, 4, 20, 26, 29] rfl, hh⟩
          · refine aop rfl ?_
            refine bsl [(0, .int .i64 nx)] [.int .i64 nx] ts_22 rfl rfl rfl rfl rfl rfl rfl he hh fun bb146 a W he hh => ?_
            replace hh := hh.up1
            refine aen ⟨_, _, (Snap.le.refl _), hh⟩ ?_
            refine aha1 (i := 3) (by kernel_rfl) ?_
            refine aop rfl ?_
            replace hh := hh.up2
            refine ap ts_22 rfl rfl ((h_rs.up (hl3.trans hle5)).rd hh) (by first | rfl | (simp; done) | (simp; omega)) (one_map (fun _ => rfl) _) (by first | omega | (simp; omega)) rfl he hh fun A147 cc148 a W he hh => ?_
            replace hh := hh.re (n' := ((rs : List Int)).length) (cs' := ((rs : List Int)).map i64v) (by first | rfl | (simp; done) | (simp; omega)) (by simp [i64v])
            replace he := he.be (t := 26) (v' := .slice A147 ((rs : List Int)).length cc148) rfl (by congr 1 <;> (first | rfl | (simp; done) | (simp; omega)))
            replace hh := hh.up1
            refine aen ⟨_, _, (Snap.le.refl _), hh⟩ ?_
            replace hh := hh.up2
            replace hh := hh.up2
            replace hh := hh.up3
            replace hh := hh.up3
            exact key19 _ _ _ (by kernel_rfl) ⟨A147, cc148, (some ⟨bb146, 0, none⟩), 1, he.keep [0, 1, 2, 3, 4, 20, 26, 29] rfl, hh⟩
        · refine aop rfl ?_
          refine bsl [(0, .int .i64 nx)] [.int .i64 nx] ts_22 rfl rfl rfl rfl rfl rfl rfl he hh fun bb150 a W he hh => ?_
          replace hh := hh.up1
          refine aen ⟨_, _, (Snap.le.refl _), hh⟩ ?_
          refine aha1 (i := 0) (by kernel_rfl) ?_
          refine aop rfl ?_
          refine bsl [] [] ts_22 rfl rfl rfl rfl rfl rfl rfl he hh fun bb151 a W he hh => ?_
          replace hh := hh.up1
          refine aen ⟨_, _, (Snap.le.refl _), hh⟩ ?_
          refine aha1 (i := 3) (by kernel_rfl) ?_
          refine aop rfl ?_
          replace hh := hh.up1
          refine ap ts_22 rfl rfl ((h_rs.up (hl3.trans hle5)).rd hh) (by first | rfl | (simp; done) | (simp; omega)) (one_map (fun _ => rfl) _) (by first | omega | (simp; omega)) rfl he hh fun A152 cc153 a W he hh => ?_
          replace hh := hh.re (n' := ((rs : List Int)).length) (cs' := ((rs : List Int)).map i64v) (by first | rfl | (simp; done) | (simp; omega)) (by simp [i64v])
          replace he := he.be (t := 26) (v' := .slice A152 ((rs : List Int)).length cc153) rfl (by congr 1 <;> (first | rfl | (simp; done) | (simp; omega)))
          replace hh := hh.up1
          refine aen ⟨_, _, (Snap.le.refl _), hh⟩ ?_
          replace hh := hh.up2
          replace hh := hh.up2
          replace hh := hh.up3
          replace hh := hh.up3
          exact key19 _ _ _ (by kernel_rfl) ⟨A152, cc153, (some ⟨bb150, 0, none⟩), 1, he.keep [0, 1, 2, 3, 4, 20, 26, 29] rfl, hh⟩
    refine sb he (t := 16) rfl (fun h155 he => ?_) (fun h155 he => ?_)
    · refine gn rfl rfl he rfl rfl fun a he => ?_
      refine gn rfl rfl he rfl rfl fun a he => ?_
      refine gn rfl rfl he rfl rfl fun a he => ?_
      refine pkt rfl rfl rfl he fun a he => ?_
      replace he := he.be (t := 20) (v' := .bool (((!(decide (rs.length ≤ 300) && (decide (pd.length ≤ 300) && decide (wd.length ≤ 300)))) || (!(mayN ph fl of_ nx rs pd wd mk lg))) || (decide ((1099511627776 : Int) ≤ nx)))) rfl (jo_t h155)
      exact key8 _ _ ⟨he.keep [0, 1, 2, 3, 20] rfl, hh⟩
    · refine gy rfl he rfl ?_
      refine fa fo_28_3 rfl rfl he fun a he => ?_
      refine gy rfl he rfl ?_
      refine ld rb_3 rfl (ocell hh.at0 rfl) rfl he fun a he => ?_
      refine gy rfl he rfl ?_
      refine ge rfl rfl rfl he fun a he => ?_
      refine pkf rfl rfl rfl he fun a he => ?_
      replace he := he.be (t := 20) (v' := .bool (((!(decide (rs.length ≤ 300) && (decide (pd.length ≤ 300) && decide (wd.length ≤ 300)))) || (!(mayN ph fl of_ nx rs pd wd mk lg))) || (decide ((1099511627776 : Int) ≤ nx)))) rfl (jo_f h155)
      exact key8 _ _ ⟨he.keep [0, 1, 2, 3, 20] rfl, hh⟩
  refine sb he (t := 10) rfl (fun h10 he => ?_) (fun h10 he => ?_)
  · refine gn rfl rfl he rfl rfl fun a he => ?_
    refine gn rfl rfl he rfl rfl fun a he => ?_
    refine gn rfl rfl he rfl rfl fun a he => ?_
    refine gn rfl rfl he rfl rfl fun a he => ?_
    refine pkt rfl rfl rfl he fun a he => ?_
    replace he := he.be (t := 15) (v' := .bool ((!(decide (rs.length ≤ 300) && (decide (pd.length ≤ 300) && decide (wd.length ≤ 300)))) || (!(mayN ph fl of_ nx rs pd wd mk lg)))) rfl (jo_t h10)
    exact key6 _ _ ⟨I2, (Snap.le.refl _), he.keep [0, 1, 2, 3, 15] rfl, hh⟩
  · have hq0 : rs.length ≤ 300 ∧ pd.length ≤ 300 ∧ wd.length ≤ 300 := by simpa using h10
    refine gy rfl he rfl ?_
    refine ldA [.int .i64 ph, .int .i64 fl, .int .i64 of_, .int .i64 nx, .slice A_rs rs.length c_rs, .slice A_pd pd.length c_pd, .slice A_wd wd.length c_wd, .bool mk, .bool lg] rb_28 ti_28 rfl ((Rd.obj hh.at0 0).take 9) rfl rfl he fun a he => ?_
    refine gy rfl he rfl ?_
    refine cal cb_12 rfl (law_made _ _ _ ph fl of_ nx A_rs c_rs rs A_pd c_pd pd A_wd c_wd wd mk lg hh (h_rs.up hl3) k_rs (h_pd.up hl3) k_pd (h_wd.up hl3) k_wd) rfl he fun v a W hp he => ?_
    obtain ⟨A158, cc159, A160, cc161, A162, cc163, rfl, hf164, hc165, hf166, hc167, hf168, hc169, hh⟩ := hp
    refine gy rfl he rfl ?_
    refine cal cb_13 rfl (prog_May _ _ _ ph fl of_ nx A158 cc159 rs A160 cc161 pd A162 cc163 wd mk lg hh hf164 hc165 hf166 hc167 hf168 hc169 (by omega) (by omega) (by omega) hc) rfl he fun v a W hp he => ?_
    obtain ⟨I170, rfl, hl171, hh⟩ := hp
    refine gy rfl he rfl ?_
    refine nt rfl rfl he fun a he => ?_
    refine pkf rfl rfl rfl he fun a he => ?_
    replace he := he.be (t := 15) (v' := .bool ((!(decide (rs.length ≤ 300) && (decide (pd.length ≤ 300) && decide (wd.length ≤ 300)))) || (!(mayN ph fl of_ nx rs pd wd mk lg)))) rfl (jo_f h10)
    exact key6 _ _ ⟨I170, hl171, he.keep [0, 1, 2, 3, 15] rfl, hh⟩

end Go.Proofs.YtndaogkpgoimlaaDoor

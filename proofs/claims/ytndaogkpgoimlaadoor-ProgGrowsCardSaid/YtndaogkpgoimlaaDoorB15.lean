/- Walks through the given program's functions, printed op by op by this session's own program; what each computes is told by the plain functions of the texts S... -/
import Derived.Test.YtndaogkpgoimlaaDoorB14
import Derived.Test.YtndaogkpgoimlaaDoorS22
import Derived.KernelRfl
namespace Go.Proofs.YtndaogkpgoimlaaDoor
open Go Go.RowKit K
set_option linter.unusedVariables false
theorem cb_19 : callable Tryd.prog 19 = true := by kernel_rfl
theorem ref22_Put (I : Snap) (L : List Ch) (W : World) (ph : Int) (fl : Int) (of_ : Int) (nx : Int) (A_rs : Option Addr) (c_rs : Nat) (rs : List Int) (A_pd : Option Addr) (c_pd : Nat) (pd : List UInt8) (A_wd : Option Addr) (c_wd : Nat) (wd : List Int) (mk : Bool) (lg : Bool) (hh : Hp I L W) (h_rs : Fz I A_rs (rs.map i64v)) (k_rs : rs.length ≤ c_rs) (h_pd : Fz I A_pd (pd.map b8)) (k_pd : pd.length ≤ c_pd) (h_wd : Fz I A_wd (wd.map r32)) (k_wd : wd.length ≤ c_wd) (hr : (ph < 9223372036854775808 ∧ fl < 9223372036854775808 ∧ of_ < 9223372036854775808 ∧ nx < 9223372036854775808)) (hrs : ∀ c ∈ rs, c < 9223372036854775808) (hrl : rs.length ≤ 1000000000) (hb : pd.length ≤ 100000000000) (hb2 : wd.length ≤ 10000000000) (hc : ∀ c ∈ wd, c < 4294967296) :
    Calls Tryd.prog 18 #[.agg #[.int .i64 ph, .int .i64 fl, .int .i64 of_, .int .i64 nx, .slice A_rs rs.length c_rs, .slice A_pd pd.length c_pd, .slice A_wd wd.length c_wd, .bool mk, .bool lg]] W (Ret fun v W => ∃ (I' : Snap) (A1 : Option Addr) (c1 : Nat), v = .slice A1 (progPut ph fl of_ nx rs pd wd mk lg).length c1 ∧ I.le I' ∧ Hp I' (.row A1 (progPut ph fl of_ nx rs pd wd mk lg).length c1 5 1 ((progPut ph fl of_ nx rs pd wd mk lg).map b8) :: L) W) := by
  refine enter Tryd.func18 rfl Tryd.ntmps18 rfl fun a he => ?_
  refine sq ?_
  refine rg ?_
  refine bx #[.int .i64 ph, .int .i64 fl, .int .i64 of_, .int .i64 nx, .slice A_rs rs.length c_rs, .slice A_pd pd.length c_pd, .slice A_wd wd.length c_wd, .bool mk, .bool lg] rfl rfl rfl he hh fun bb1 a W he hh => ?_
  replace hh : Hp I (.obj bb1 (.cells [.int .i64 ph, .int .i64 fl, .int .i64 of_, .int .i64 nx, .slice A_rs rs.length c_rs, .slice A_pd pd.length c_pd, .slice A_wd wd.length c_wd, .bool mk, .bool lg].toArray 28) :: _) W := hh
  refine asg rfl rfl he fun a he => ?_
  refine en ?_
  refine sq ?_
  refine rgd (SH I [.obj bb1 (.cells ([.int .i64 ph, .int .i64 fl, .int .i64 of_, .int .i64 nx, .slice A_rs rs.length c_rs, .slice A_pd pd.length c_pd, .slice A_wd wd.length c_wd, .bool mk, .bool lg]).toArray 28)]) 11 mixo rfl hh fun W hh => ?_
  refine ahp (d := 6) (v := .agg #[.int .i64 ph, .int .i64 fl, .int .i64 of_, .int .i64 nx, .slice A_rs rs.length c_rs, .slice A_pd pd.length c_pd, .slice A_wd wd.length c_wd, .bool mk, .bool lg]) 0 rfl (by kernel_rfl) (by kernel_rfl) (by kernel_rfl) rfl rfl rfl he ⟨_, _, (Snap.le.refl _), hh⟩ (fun W hS => by
      obtain ⟨I2, _, hleI2, hh⟩ := hS
      refine ldA [.int .i64 ph, .int .i64 fl, .int .i64 of_, .int .i64 nx, .slice A_rs rs.length c_rs, .slice A_pd pd.length c_pd, .slice A_wd wd.length c_wd, .bool mk, .bool lg] rb_28 ti_28 rfl ((Rd.obj hh.at0 0).take 9) rfl rfl he fun a he => ?_
      exact aqe he) fun a he => ?_
  refine ahp (d := 8) (v := .pointer (some ⟨bb1, 4, none⟩)) 2 rfl (by kernel_rfl) (by kernel_rfl) (by kernel_rfl) rfl rfl rfl he ⟨_, _, (Snap.le.refl _), hh⟩ (fun W hS => by
      refine fa fo_28_4 rfl rfl he fun a he => ?_
      exact aqe he) fun a he => ?_
  refine ahp (d := 9) (v := .slice A_rs rs.length c_rs) 3 rfl (by kernel_rfl) (by kernel_rfl) (by kernel_rfl) rfl rfl rfl he ⟨_, _, (Snap.le.refl _), hh⟩ (fun W hS => by
      obtain ⟨I3, _, hleI3, hh⟩ := hS
      refine ld rb_22 rfl (ocell hh.at0 rfl) rfl he fun a he => ?_
      exact aqe he) fun a he => ?_
  refine ahp (d := 10) (v := .int .i64 ((rs.length : Nat) : Int)) 4 rfl (by kernel_rfl) (by kernel_rfl) (by kernel_rfl) rfl rfl rfl he ⟨_, _, (Snap.le.refl _), hh⟩ (fun W hS => by
      refine ln Tryd.underlying22 rfl rfl he fun a he => ?_
      exact aqe he) fun a he => ?_
  refine ahp (d := 13) (v := .pointer (some ⟨bb1, 4, none⟩)) 7 rfl (by kernel_rfl) (by kernel_rfl) (by kernel_rfl) rfl rfl rfl he ⟨_, _, (Snap.le.refl _), hh⟩ (fun W hS => by
      refine fa fo_28_4 rfl rfl he fun a he => ?_
      exact aqe he) fun a he => ?_
  refine ahp (d := 14) (v := .slice A_rs rs.length c_rs) 8 rfl (by kernel_rfl) (by kernel_rfl) (by kernel_rfl) rfl rfl rfl he ⟨_, _, (Snap.le.refl _), hh⟩ (fun W hS => by
      obtain ⟨I4, _, hleI4, hh⟩ := hS
      refine ld rb_22 rfl (ocell hh.at0 rfl) rfl he fun a he => ?_
      exact aqe he) fun a he => ?_
  refine jnd (fun a W => ∃ (A5 : Option Addr) (cc6 : Nat) (A8 : Option Addr) (cc9 : Nat), Env 35 [(0, .agg #[.int .i64 ph, .int .i64 fl, .int .i64 of_, .int .i64 nx, .slice A_rs rs.length c_rs, .slice A_pd pd.length c_pd, .slice A_wd wd.length c_wd, .bool mk, .bool lg]), (1, .pointer (some ⟨bb1, 0, none⟩)), (2, .slice none 0 0), (7, .slice A5 ((fours ph fl of_ nx).length) cc6), (11, .slice A8 1 cc9), (14, .slice A_rs rs.length c_rs)] a ∧ Hp I (.obj bb1 (.cells ([.int .i64 ph, .int .i64 fl, .int .i64 of_, .int .i64 nx, .slice A_rs rs.length c_rs, .slice A_pd pd.length c_pd, .slice A_wd wd.length c_wd, .bool mk, .bool lg]).toArray 28) :: .row A5 ((fours ph fl of_ nx).length) cc6 3 1 ((fours ph fl of_ nx).map i64v) :: .row A8 1 cc9 3 1 ([.int .i64 ((rs.length : Nat) : Int)]) :: L) W) 3 #[true, true, true, true, true, true, false, true, true, false, false] (fun a W hM => ?_) fun key12 => ?_
  · obtain ⟨A5, cc6, A8, cc9, he, hh⟩ := hM
    refine aha1 (i := 6) (by kernel_rfl) ?_
    refine aop rfl ?_
    replace hh := hh.up1
    refine ap ts_22 rfl rfl (Ch.rd hh.at2) (by first | rfl | (simp; done) | (simp; omega)) (by simp [Value.oneCell']) (by first | decide | (simp [fours]; done) | (simp [fours]; omega)) rfl he hh fun A13 cc14 a W he hh => ?_
    replace hh := hh.re (n' := ((fours ph fl of_ nx ++ [((rs.length : Nat) : Int)])).length) (cs' := ((fours ph fl of_ nx ++ [((rs.length : Nat) : Int)])).map i64v) (by first | rfl | (simp; done) | (simp; omega)) (by simp [i64v])
    replace he := he.be (t := 12) (v' := .slice A13 ((fours ph fl of_ nx ++ [((rs.length : Nat) : Int)])).length cc14) rfl (by congr 1 <;> (first | rfl | (simp; done) | (simp; omega)))
    replace hh := hh.up2
    replace hh := hh.drop
    replace hh := hh.up1
    refine aen ⟨_, _, (Snap.le.refl _), hh⟩ ?_
    refine aha1 (i := 9) (by kernel_rfl) ?_
    refine aop rfl ?_
    replace hh := hh.up1
    refine ap ts_22 rfl rfl (h_rs.rd hh) (by first | rfl | (simp; done) | (simp; omega)) (one_map (fun _ => rfl) _) (by simp [fours]; omega) rfl he hh fun A16 cc17 a W he hh => ?_
    replace hh := hh.re (n' := (((fours ph fl of_ nx ++ [((rs.length : Nat) : Int)]) ++ rs)).length) (cs' := (((fours ph fl of_ nx ++ [((rs.length : Nat) : Int)]) ++ rs)).map i64v) (by first | rfl | (simp; done) | (simp; omega)) (by simp [i64v])
    replace he := he.be (t := 15) (v' := .slice A16 (((fours ph fl of_ nx ++ [((rs.length : Nat) : Int)]) ++ rs)).length cc17) rfl (by congr 1 <;> (first | rfl | (simp; done) | (simp; omega)))
    replace hh := hh.up1
    refine aen ⟨_, _, (Snap.le.refl _), hh⟩ ?_
    refine ahp (d := 3) (v := .slice A16 ((((fours ph fl of_ nx ++ [((rs.length : Nat) : Int)]) ++ rs)).length) cc17) 10 rfl (by kernel_rfl) (by kernel_rfl) (by kernel_rfl) rfl rfl rfl he ⟨_, _, (Snap.le.refl _), hh⟩ (fun W hS => by
        refine asg rfl rfl he fun a he => ?_
        exact aqe he) fun a he => ?_
    refine ahd (by kernel_rfl) ?_
    refine en ?_
    refine sq ?_
    replace hh := hh.up1
    have hc22 := (Ch.rowcap hh.at0).1
    obtain ⟨I19, hl20, hh, hf21⟩ := hh.freezeRow
    refine rg ?_
    refine asg rfl rfl he fun a he => ?_
    refine en ?_
    refine sq ?_
    refine sq ?_
    have hLl : ((fours ph fl of_ nx) ++ [((rs.length : Nat) : Int)] ++ rs).length = 5 + rs.length := by simp [fours]; omega
    have hLL : ∀ c ∈ ((fours ph fl of_ nx) ++ [((rs.length : Nat) : Int)] ++ rs), c < 9223372036854775808 := lead_lt hr hrs (by omega)
    refine rg ?_
    refine asg rfl rfl he fun a he => ?_
    refine en ?_
    refine bk ?_
    replace hh := hh.nilrow 5 1
    replace hh := hh.up1
    replace hh := hh.up1
    refine lp (fun (s : Nat × List UInt8) a w => match s with | (i, q) => ∃ (I24 : Snap) (A_4 : Option Addr) (c_4 : Nat), I19.le I24 ∧ Env 35 [(0, .agg #[.int .i64 ph, .int .i64 fl, .int .i64 of_, .int .i64 nx, .slice A_rs rs.length c_rs, .slice A_pd pd.length c_pd, .slice A_wd wd.length c_wd, .bool mk, .bool lg]), (1, .pointer (some ⟨bb1, 0, none⟩)), (2, .slice none 0 0), (3, .slice A16 ((((fours ph fl of_ nx ++ [((rs.length : Nat) : Int)]) ++ rs)).length) cc17), (4, .slice A_4 q.length c_4), (5, .int .i64 ((i : Nat) : Int))] a ∧ Hp I24 (.row A_4 q.length c_4 5 1 (q.map b8) :: .obj bb1 (.cells ([.int .i64 ph, .int .i64 fl, .int .i64 of_, .int .i64 nx, .slice A_rs rs.length c_rs, .slice A_pd pd.length c_pd, .slice A_wd wd.length c_wd, .bool mk, .bool lg]).toArray 28) :: L) w ∧ i ≤ ((fours ph fl of_ nx) ++ [((rs.length : Nat) : Int)] ++ rs).length ∧ q.length ≤ 10 * i ∧ q ++ putAll (((fours ph fl of_ nx) ++ [((rs.length : Nat) : Int)] ++ rs).drop i) = putAll ((fours ph fl of_ nx) ++ [((rs.length : Nat) : Int)] ++ rs))
        (fun s => ((fours ph fl of_ nx) ++ [((rs.length : Nat) : Int)] ++ rs).length - s.1) (0, []) ⟨I19, none, 0, Snap.le.refl _, he.keep [0, 1, 2, 3, 4, 5] rfl, hh, Nat.zero_le _, Nat.le_refl _, by simp⟩ fun s a W hinv => ?_
    obtain ⟨i, q⟩ := s
    obtain ⟨I24, A_4, c_4, hleI24, he, hh, hi, hl, hinv⟩ := hinv
    refine sq ?_
    refine sq ?_
    refine rg ?_
    refine mv rfl rfl he fun a he => ?_
    refine mv rfl rfl he fun a he => ?_
    refine ln Tryd.underlying22 rfl rfl he fun a he => ?_
    refine lt rfl rfl rfl he fun a he => ?_
    refine en ?_
    refine cnd he rfl (fun h25 => ?_) (fun h25 => ?_)
    · replace h25 : i < ((((fours ph fl of_ nx ++ [((rs.length : Nat) : Int)]) ++ rs)).length) := by omega
      refine sk ?_
      refine nm_then ?_
      refine sq ?_
      refine bk ?_
      refine rg ?_
      refine mv rfl rfl he fun a he => ?_
      refine mv rfl rfl he fun a he => ?_
      refine mv rfl rfl he fun a he => ?_
      obtain ⟨x, hx⟩ := idx_some (xs := ((fours ph fl of_ nx ++ [((rs.length : Nat) : Int)]) ++ rs)) (i := i) (by omega)
      refine ia1 (xs := ((fours ph fl of_ nx ++ [((rs.length : Nat) : Int)]) ++ rs)) (i) ts_22 rfl rfl ((hf21.up hleI24).rd hh) hx rfl he fun bb26 oo27 a hc28 he => ?_
      refine ld rb_3 rfl hc28 rfl he fun a he => ?_
      have hxx := hLL x (List.mem_of_getElem? hx)
      refine mx ((x.toNat : Nat) : Int) rfl rfl (by split <;> omega) rfl he fun a he => ?_
      refine ci ((x.toNat : Nat) : Int) .u64 ud_3 Tryd.underlying55 rfl (wu64 (by omega) (by omega)) rfl he fun a he => ?_
      have hc32 := (Ch.rowcap hh.at0).1
      obtain ⟨I29, hl30, hh, hf31⟩ := hh.freezeRow
      refine cal cb_37 rfl (ref01_Put _ _ _ A_4 c_4 q x.toNat hh hf31 hc32 (by omega) (by omega)) rfl he fun v a W hp he => ?_
      obtain ⟨A33, cc34, rfl, hh⟩ := hp
      refine asg rfl rfl he fun a he => ?_
      refine en_blk ?_
      refine nm_then ?_
      refine rg ?_
      refine mv rfl rfl he fun a he => ?_
      refine ad (((i + 1) : Nat) : Int) rfl rfl (w64 (by omega) (by omega)) rfl he fun a he => ?_
      refine asg rfl rfl he fun a he => ?_
      refine en ?_
      replace hh := hh.up1
      replace hh := hh.up1
      exact ⟨(i + 1, q ++ putN x.toNat), ⟨I29, A33, cc34, (hleI24.trans hl30), he.keep [0, 1, 2, 3, 4, 5] rfl, hh, by omega, by have h1 := putN_ten (n := x.toNat) (by omega); rw [List.length_append]; omega, putAll_next hinv hx⟩, by show ((fours ph fl of_ nx) ++ [((rs.length : Nat) : Int)] ++ rs).length - (i + 1) < ((fours ph fl of_ nx) ++ [((rs.length : Nat) : Int)] ++ rs).length - i; omega⟩
    · replace h25 : ¬ (i < ((((fours ph fl of_ nx ++ [((rs.length : Nat) : Int)]) ++ rs)).length)) := by omega
      refine ext ?_
      refine ex_then ?_
      refine ex_then ?_
      refine ex_in ?_
      refine nm_then ?_
      refine sq ?_
      refine rg ?_
      refine mv rfl rfl he fun a he => ?_
      refine fa fo_28_5 rfl rfl he fun a he => ?_
      refine ldA [.slice A_pd pd.length c_pd, .slice A_wd wd.length c_wd, .bool mk, .bool lg] rb_26 ti_26 rfl ((Rd.obj hh.at1 5).take 4) rfl rfl he fun a he => ?_
      refine cal cb_38 rfl (ref07_Put _ _ _ A_pd c_pd pd A_wd c_wd wd mk lg hh (h_pd.up (hl20.trans hleI24)) k_pd (h_wd.up (hl20.trans hleI24)) k_wd hb hb2 hc) rfl he fun v a W hp he => ?_
      obtain ⟨I36, A38, cc39, rfl, hl37, hh⟩ := hp
      replace hh := hh.up1
      refine ap ts_23 rfl rfl (Ch.rd hh.at1) (by first | rfl | (simp; done) | (simp; omega)) (one_map (fun _ => rfl) _) (by have hz := tokPut_len (pd := pd) (wd := wd) mk lg (by omega) (by omega) hc; omega) rfl he hh fun A41 cc42 a W he hh => ?_
      replace hh := hh.re (n' := ((q ++ tokPut pd wd mk lg)).length) (cs' := ((q ++ tokPut pd wd mk lg)).map b8) (by first | rfl | (simp; done) | (simp; omega)) (by first | (simp [b8]; done) | (simp [b8]; omega))
      replace he := he.be (t := 34) (v' := .slice A41 ((q ++ tokPut pd wd mk lg)).length cc42) rfl (by congr 1 <;> (first | rfl | (simp; done) | (simp; omega)))
      refine asg rfl rfl he fun a he => ?_
      refine en ?_
      refine rt ?_
      refine rets1 Tryd.results18 he rfl (Ret.mk ?_)
      have hq := putAll_end hinv (show ((fours ph fl of_ nx) ++ [((rs.length : Nat) : Int)] ++ rs).length ≤ i by omega)
      rw [progPut_lead, ← hq]
      replace hh := hh.up1
      replace hh := hh.drop
      replace hh := hh.up1
      replace hh := hh.drop
      exact ⟨I36, A41, cc42, rfl, ((hl20.trans hleI24).trans hl37), hh⟩
  refine aha2 (i := 1) (j := 5) (by kernel_rfl) ?_ ?_
  · refine aop rfl ?_
    refine cal cb_36 rfl (ref22_four _ _ _ ph fl of_ nx A_rs c_rs rs A_pd c_pd pd A_wd c_wd wd mk lg hh h_rs k_rs h_pd k_pd h_wd k_wd) rfl he fun v a W hp he => ?_
    obtain ⟨A44, cc45, rfl, hh⟩ := hp
    replace hh := hh.up1
    refine aen ⟨_, _, (Snap.le.refl _), hh⟩ ?_
    refine aha1 (i := 5) (by kernel_rfl) ?_
    refine aop rfl ?_
    refine bsl [(0, .int .i64 ((rs.length : Nat) : Int))] [.int .i64 ((rs.length : Nat) : Int)] ts_22 rfl rfl rfl rfl rfl rfl rfl he hh fun bb47 a W he hh => ?_
    replace hh := hh.up1
    refine aen ⟨_, _, (Snap.le.refl _), hh⟩ ?_
    replace hh := hh.up1
    replace hh := hh.up2
    replace hh := hh.up2
    exact key12 _ _ _ (by kernel_rfl) ⟨A44, cc45, (some ⟨bb47, 0, none⟩), 1, he.keep [0, 1, 2, 7, 11, 14] rfl, hh⟩
  · refine aop rfl ?_
    refine bsl [(0, .int .i64 ((rs.length : Nat) : Int))] [.int .i64 ((rs.length : Nat) : Int)] ts_22 rfl rfl rfl rfl rfl rfl rfl he hh fun bb48 a W he hh => ?_
    replace hh := hh.up1
    refine aen ⟨_, _, (Snap.le.refl _), hh⟩ ?_
    refine aha1 (i := 1) (by kernel_rfl) ?_
    refine aop rfl ?_
    refine cal cb_36 rfl (ref22_four _ _ _ ph fl of_ nx A_rs c_rs rs A_pd c_pd pd A_wd c_wd wd mk lg hh h_rs k_rs h_pd k_pd h_wd k_wd) rfl he fun v a W hp he => ?_
    obtain ⟨A49, cc50, rfl, hh⟩ := hp
    replace hh := hh.up1
    refine aen ⟨_, _, (Snap.le.refl _), hh⟩ ?_
    replace hh := hh.up2
    replace hh := hh.up2
    replace hh := hh.up2
    exact key12 _ _ _ (by kernel_rfl) ⟨A49, cc50, (some ⟨bb48, 0, none⟩), 1, he.keep [0, 1, 2, 7, 11, 14] rfl, hh⟩

theorem ref22_Get (I : Snap) (L : List Ch) (W : World) (A_b : Option Addr) (c_b : Nat) (b : List UInt8) (hh : Hp I L W) (h_b : Fz I A_b (b.map b8)) (k_b : b.length ≤ c_b) (hb : b.length ≤ 1000000000) :
    Calls Tryd.prog 17 #[.slice A_b b.length c_b] W (Ret fun v W => ∃ (I' : Snap) (A1 : Option Addr) (c1 : Nat) (A2 : Option Addr) (c2 : Nat) (A3 : Option Addr) (c3 : Nat), v = .tuple #[.agg #[.int .i64 ((ref22G b).ph), .int .i64 ((ref22G b).fl), .int .i64 ((ref22G b).of_), .int .i64 ((ref22G b).nx), .slice A1 ((ref22G b).rs).length c1, .slice A2 ((ref22G b).tk.pd).length c2, .slice A3 ((ref22G b).tk.wd).length c3, .bool ((ref22G b).tk.mrk), .bool ((ref22G b).tk.lg)], .int .i64 ((ref22G b).err)] ∧ I.le I' ∧ Fz I' A1 (((ref22G b).rs).map i64v) ∧ ((ref22G b).rs).length ≤ c1 ∧ Fz I' A2 (((ref22G b).tk.pd).map b8) ∧ ((ref22G b).tk.pd).length ≤ c2 ∧ Fz I' A3 (((ref22G b).tk.wd).map r32) ∧ ((ref22G b).tk.wd).length ≤ c3 ∧ Hp I' (L) W) := by
  refine enter Tryd.func17 rfl Tryd.ntmps17 rfl fun a he => ?_
  refine sq ?_
  refine rg ?_
  refine al ti_28 rfl he hh fun bb1 a W he hh => ?_
  replace hh : Hp I (.obj bb1 (.cells [.int .i64 0, .int .i64 0, .int .i64 0, .int .i64 0, .slice none 0 0, .slice none 0 0, .slice none 0 0, .bool false, .bool false].toArray 28) :: _) W := hh
  refine asg rfl rfl he fun a he => ?_
  refine en ?_
  refine sq ?_
  refine rg ?_
  refine asg rfl rfl he fun a he => ?_
  refine en ?_
  refine sq ?_
  refine rg ?_
  refine asg rfl rfl he fun a he => ?_
  refine en ?_
  refine sq ?_
  refine bk ?_
  replace hh := hh.nilrow 3 1
  replace hh := hh.up1
  replace hh := hh.up1
  refine lp (fun (s : Nat × List Int × Nat) a w => match s with | (p, l, f) => ∃ (A_5 : Option Addr) (c_5 : Nat), Env 88 [(0, .slice A_b b.length c_b), (2, .pointer (some ⟨bb1, 0, none⟩)), (4, .int .i64 ((p : Nat) : Int)), (5, .slice A_5 l.length c_5)] a ∧ Hp I (.row A_5 l.length c_5 3 1 (l.map i64v) :: .obj bb1 (.cells ([.int .i64 0, .int .i64 0, .int .i64 0, .int .i64 0, .slice none 0 0, .slice none 0 0, .slice none 0 0, .bool false, .bool false]).toArray 28) :: L) w ∧ p ≤ b.length ∧ l.length + f = 10006 ∧ ((5 ≤ l.length → 0 ≤ l4 l ∧ l4 l ≤ 10000)) ∧ refL b 10006 [] 0 = refL b f l p)
      (fun s => s.2.2) (0, [], 10006) ⟨none, 0, he.keep [0, 2, 4, 5] rfl, hh, Nat.zero_le _, rfl, (fun h => absurd h (by decide)), rfl⟩ fun s a W hinv => ?_
  obtain ⟨p, l, f⟩ := s
  obtain ⟨A_5, c_5, he, hh, hpb, hf, h4, hR⟩ := hinv
  refine sq ?_
  refine sq ?_
  refine cutr (fun a w => Env 88 [(0, .slice A_b b.length c_b), (2, .pointer (some ⟨bb1, 0, none⟩)), (4, .int .i64 ((p : Nat) : Int)), (5, .slice A_5 l.length c_5), (23, .bool (decide (l.length < 5 ∨ (l.length : Int) < 5 + l4 l)))] a ∧ Hp I (.row A_5 l.length c_5 3 1 (l.map i64v) :: .obj bb1 (.cells ([.int .i64 0, .int .i64 0, .int .i64 0, .int .i64 0, .slice none 0 0, .slice none 0 0, .slice none 0 0, .bool false, .bool false]).toArray 28) :: L) w) ?_ fun a W hM => ?_
  · refine rg ?_
    refine mv rfl rfl he fun a he => ?_
    refine ln Tryd.underlying22 rfl rfl he fun a he => ?_
    refine lt rfl rfl rfl he fun a he => ?_
    refine mv rfl rfl he fun a he => ?_
    refine sd he (t := 15) rfl (fun h14 he => ?_) (fun h14 he => ?_)
    · replace h14 : l.length < 5 := by omega
      refine gn rfl rfl he rfl rfl fun a he => ?_
      refine gn rfl rfl he rfl rfl fun a he => ?_
      refine gn rfl rfl he rfl rfl fun a he => ?_
      refine gn rfl rfl he rfl rfl fun a he => ?_
      refine gn rfl rfl he rfl rfl fun a he => ?_
      refine gn rfl rfl he rfl rfl fun a he => ?_
      refine gn rfl rfl he rfl rfl fun a he => ?_
      refine pkt rfl rfl rfl he fun a he => ?_
      refine en ?_
      replace hh := hh.up1
      replace hh := hh.up1
      replace he := he.be (t := 23) (v' := .bool (decide (l.length < 5 ∨ (l.length : Int) < 5 + l4 l))) rfl (by congr 1; symm; first | (apply decide_eq_true; omega) | (apply decide_eq_decide.2; omega))
      exact ⟨he.keep [0, 2, 4, 5, 23] rfl, hh⟩
    · replace h14 : ¬ (l.length < 5) := by omega
      refine gy rfl he rfl ?_
      refine mv rfl rfl he fun a he => ?_
      refine gy rfl he rfl ?_
      refine ln Tryd.underlying22 rfl rfl he fun a he => ?_
      refine gy rfl he rfl ?_
      refine mv rfl rfl he fun a he => ?_
      refine gy rfl he rfl ?_
      obtain ⟨x, hx4⟩ := idx_some (xs := l) (i := 4) (by omega)
      refine ia1 (xs := l) (4) ts_22 rfl rfl (Ch.rd hh.at0) hx4 rfl he fun bb3 oo4 a hc5 he => ?_
      refine gy rfl he rfl ?_
      refine ld rb_3 rfl hc5 rfl he fun a he => ?_
      have e4 := l4_some hx4
      have hb4 := h4 (by omega)
      refine gy rfl he rfl ?_
      refine ad (5 + x) rfl rfl (w64 (by omega) (by omega)) rfl he fun a he => ?_
      refine gy rfl he rfl ?_
      refine lt rfl rfl rfl he fun a he => ?_
      refine pkf rfl rfl rfl he fun a he => ?_
      refine en ?_
      replace hh := hh.up1
      replace hh := hh.up1
      replace he := he.be (t := 23) (v' := .bool (decide (l.length < 5 ∨ (l.length : Int) < 5 + l4 l))) rfl (by congr 1; symm; first | (apply decide_eq_true; omega) | (apply decide_eq_decide.2; omega))
      exact ⟨he.keep [0, 2, 4, 5, 23] rfl, hh⟩
  obtain ⟨he, hh⟩ := hM
  refine nm_then ?_
  refine cnd he rfl (fun hc => ?_) (fun hc => ?_)
  · refine sk ?_
    refine nm_then ?_
    refine bk ?_
    refine sq ?_
    refine rg ?_
    refine mv rfl rfl he fun a he => ?_
    refine mv rfl rfl he fun a he => ?_
    refine slo1 (xs := b) (p) ts_23 rfl rfl h_b k_b (by omega) rfl he fun A6 cc7 a hf8 hc9 he => ?_
    refine cal cb_34 rfl (ref01_Get _ _ _ A6 cc7 (b.drop p) hh hf8 hc9) rfl he fun v a W hp he => ?_
    obtain ⟨rfl, hh⟩ := hp
    refine mv rfl rfl he fun a he => ?_
    refine xt rfl rfl rfl he fun a he => ?_
    refine xt rfl rfl rfl he fun a he => ?_
    refine xt rfl rfl rfl he fun a he => ?_
    refine asg rfl rfl he fun a he => ?_
    refine asg rfl rfl he fun a he => ?_
    refine asg rfl rfl he fun a he => ?_
    refine en ?_
    refine sq ?_
    refine sq ?_
    refine rg ?_
    refine mv rfl rfl he fun a he => ?_
    refine ne rfl rfl rfl he fun a he => ?_
    refine mv rfl rfl he fun a he => ?_
    refine jnl (fun a W => Env 88 [(0, .slice A_b b.length c_b), (2, .pointer (some ⟨bb1, 0, none⟩)), (4, .int .i64 ((p : Nat) : Int)), (5, .slice A_5 l.length c_5), (6, .int .u64 (((numGet (b.drop p)).1 : Nat) : Int)), (7, .int .i64 (((numGet (b.drop p)).2.1 : Nat) : Int)), (23, .bool (decide (l.length < 5 ∨ (l.length : Int) < 5 + l4 l))), (37, .bool (decide ((((numGet (b.drop p)).2.2) ≠ 0) ∨ ((1099511627776 : Int) < (((numGet (b.drop p)).1 : Nat) : Int)))))] a ∧ Hp I (.row A_5 l.length c_5 3 1 (l.map i64v) :: .obj bb1 (.cells ([.int .i64 0, .int .i64 0, .int .i64 0, .int .i64 0, .slice none 0 0, .slice none 0 0, .slice none 0 0, .bool false, .bool false]).toArray 28) :: L) W) 3 (fun a W hM => ?_) fun key11 => ?_
    · obtain ⟨he, hh⟩ := hM
      refine mv rfl rfl he fun a he => ?_
      refine jnl (fun a W => Env 88 [(0, .slice A_b b.length c_b), (2, .pointer (some ⟨bb1, 0, none⟩)), (4, .int .i64 ((p : Nat) : Int)), (5, .slice A_5 l.length c_5), (6, .int .u64 (((numGet (b.drop p)).1 : Nat) : Int)), (7, .int .i64 (((numGet (b.drop p)).2.1 : Nat) : Int)), (23, .bool (decide (l.length < 5 ∨ (l.length : Int) < 5 + l4 l))), (46, .bool (decide (((((numGet (b.drop p)).2.2) ≠ 0) ∨ ((1099511627776 : Int) < (((numGet (b.drop p)).1 : Nat) : Int))) ∨ ((((l.length : Nat) : Int) = 4) ∧ ((10000 : Int) < (((numGet (b.drop p)).1 : Nat) : Int))))))] a ∧ Hp I (.row A_5 l.length c_5 3 1 (l.map i64v) :: .obj bb1 (.cells ([.int .i64 0, .int .i64 0, .int .i64 0, .int .i64 0, .slice none 0 0, .slice none 0 0, .slice none 0 0, .bool false, .bool false]).toArray 28) :: L) W) 8 (fun a W hM => ?_) fun key13 => ?_
      · obtain ⟨he, hh⟩ := hM
        refine en ?_
        refine cnd he rfl (fun h14 => ?_) (fun h14 => ?_)
        · refine sq ?_
          refine rg ?_
          refine bld #[.int .i64 0, .int .i64 0, .int .i64 0, .int .i64 0, .slice none 0 0, .slice none 0 0, .slice none 0 0, .bool false, .bool false] rfl (by kernel_rfl) rfl he fun a he => ?_
          replace hh := hh.up1
          refine st #[.int .i64 0, .int .i64 0, .int .i64 0, .int .i64 0, .slice none 0 0, .slice none 0 0, .slice none 0 0, .bool false, .bool false] ti_28 rfl rfl rfl rfl (by simp [Value.oneCell']) (by simp) he hh fun W hh => ?_
          replace hh : Hp I (.obj bb1 (.cells [.int .i64 0, .int .i64 0, .int .i64 0, .int .i64 0, .slice none 0 0, .slice none 0 0, .slice none 0 0, .bool false, .bool false].toArray 28) :: _) W := hh
          refine asg rfl rfl he fun a he => ?_
          refine en ?_
          refine rt ?_
          refine retsCT Tryd.results17 he rfl (loadVar_run rb_28 ti_28 ((Rd.obj hh.at0 0).take 9) rfl) rfl (Ret.mk ?_)
          rw [ref22_bad0 (refL_bad hR (by omega) hc (by omega))]
          simp only [progBad]
          replace hh := hh.drop
          replace hh := hh.drop
          exact ⟨I, none, 0, none, 0, none, 0, rfl, (Snap.le.refl _), Fz.nil _ _, Nat.le_refl _, Fz.nil _ _, Nat.le_refl _, Fz.nil _ _, Nat.le_refl _, hh⟩
        · refine sk ?_
          refine nm_then ?_
          refine sq ?_
          have hp3 := drop_num hpb (show (numGet (b.drop p)).2.2 = 0 by omega)
          refine rg ?_
          refine mv rfl rfl he fun a he => ?_
          refine mv rfl rfl he fun a he => ?_
          refine ci (((numGet (b.drop p)).1 : Nat) : Int) .i64 ud_55 Tryd.underlying3 rfl (w64 (by omega) (by omega)) rfl he fun a he => ?_
          refine bsl [(0, .int .i64 (((numGet (b.drop p)).1 : Nat) : Int))] [.int .i64 (((numGet (b.drop p)).1 : Nat) : Int)] ts_22 rfl rfl rfl rfl rfl rfl rfl he hh fun bb15 a W he hh => ?_
          replace hh := hh.up1
          refine ap ts_22 rfl rfl (Ch.rd hh.at1) (by first | rfl | (simp; done) | (simp; omega)) (by simp [Value.oneCell']) (by omega) rfl he hh fun A16 cc17 a W he hh => ?_
          replace hh := hh.re (n' := ((l ++ [(((numGet (b.drop p)).1 : Nat) : Int)])).length) (cs' := ((l ++ [(((numGet (b.drop p)).1 : Nat) : Int)])).map i64v) (by first | rfl | (simp; done) | (simp; omega)) (by simp [i64v])
          replace he := he.be (t := 52) (v' := .slice A16 ((l ++ [(((numGet (b.drop p)).1 : Nat) : Int)])).length cc17) rfl (by congr 1 <;> (first | rfl | (simp; done) | (simp; omega)))
          replace hh := hh.up1
          replace hh := hh.drop
          refine asg rfl rfl he fun a he => ?_
          refine en ?_
          refine rg ?_
          refine mv rfl rfl he fun a he => ?_
          refine mv rfl rfl he fun a he => ?_
          refine ad (((p + (numGet (b.drop p)).2.1) : Nat) : Int) rfl rfl (w64 (by omega) (by omega)) rfl he fun a he => ?_
          refine asg rfl rfl he fun a he => ?_
          refine en_blk ?_
          refine nm_then ?_
          replace hh := hh.up1
          replace hh := hh.up1
          exact ⟨(p + (numGet (b.drop p)).2.1, l ++ [(((numGet (b.drop p)).1 : Nat) : Int)], f - 1), ⟨A16, cc17, he.keep [0, 2, 4, 5] rfl, hh, hp3, by simp; omega, lead_next h4 (by omega), refL_next hR (by omega) hc (by omega)⟩, by show f - 1 < f; omega⟩
      refine sd he (t := 38) rfl (fun h19 he => ?_) (fun h19 he => ?_)
      · refine gn rfl rfl he rfl rfl fun a he => ?_
        refine gn rfl rfl he rfl rfl fun a he => ?_
        refine gn rfl rfl he rfl rfl fun a he => ?_
        refine gn rfl rfl he rfl rfl fun a he => ?_
        refine gnu rfl rfl he rfl fun a he => ?_
        refine gnu rfl rfl he rfl fun a he => ?_
        refine gn rfl rfl he rfl rfl fun a he => ?_
        refine pkt rfl rfl rfl he fun a he => ?_
        replace he := he.be (t := 46) (v' := .bool (decide (((((numGet (b.drop p)).2.2) ≠ 0) ∨ ((1099511627776 : Int) < (((numGet (b.drop p)).1 : Nat) : Int))) ∨ ((((l.length : Nat) : Int) = 4) ∧ ((10000 : Int) < (((numGet (b.drop p)).1 : Nat) : Int)))))) rfl (jod_t h19)
        replace hh := hh.up1
        replace hh := hh.up1
        exact key13 _ _ ⟨he.keep [0, 2, 4, 5, 6, 7, 23, 46] rfl, hh⟩
      · refine gy rfl he rfl ?_
        refine mv rfl rfl he fun a he => ?_
        refine gy rfl he rfl ?_
        refine ln Tryd.underlying22 rfl rfl he fun a he => ?_
        refine gy rfl he rfl ?_
        refine eq rfl rfl rfl he fun a he => ?_
        refine gy rfl he rfl ?_
        refine mv rfl rfl he fun a he => ?_
        refine jnl (fun a W => Env 88 [(0, .slice A_b b.length c_b), (2, .pointer (some ⟨bb1, 0, none⟩)), (4, .int .i64 ((p : Nat) : Int)), (5, .slice A_5 l.length c_5), (6, .int .u64 (((numGet (b.drop p)).1 : Nat) : Int)), (7, .int .i64 (((numGet (b.drop p)).2.1 : Nat) : Int)), (23, .bool (decide (l.length < 5 ∨ (l.length : Int) < 5 + l4 l))), (38, .bool false), (45, .bool (decide ((((l.length : Nat) : Int) = 4) ∧ ((10000 : Int) < (((numGet (b.drop p)).1 : Nat) : Int)))))] a ∧ Hp I (.row A_5 l.length c_5 3 1 (l.map i64v) :: .obj bb1 (.cells ([.int .i64 0, .int .i64 0, .int .i64 0, .int .i64 0, .slice none 0 0, .slice none 0 0, .slice none 0 0, .bool false, .bool false]).toArray 28) :: L) W) 3 (fun a W hM => ?_) fun key22 => ?_
        · obtain ⟨he, hh⟩ := hM
          refine pkf rfl rfl rfl he fun a he => ?_
          replace he := he.be (t := 46) (v' := .bool (decide (((((numGet (b.drop p)).2.2) ≠ 0) ∨ ((1099511627776 : Int) < (((numGet (b.drop p)).1 : Nat) : Int))) ∨ ((((l.length : Nat) : Int) = 4) ∧ ((10000 : Int) < (((numGet (b.drop p)).1 : Nat) : Int)))))) rfl (jod_f h19)
          replace hh := hh.up1
          replace hh := hh.up1
          exact key13 _ _ ⟨he.keep [0, 2, 4, 5, 6, 7, 23, 46] rfl, hh⟩
        refine sd he (t := 42) rfl (fun h23 he => ?_) (fun h23 he => ?_)
        · have hk24 := h23
          replace h23 : l.length = 4 := by omega
          refine gy rfl he rfl ?_
          refine mv rfl rfl he fun a he => ?_
          refine gy rfl he rfl ?_
          refine gt rfl rfl rfl he fun a he => ?_
          refine gy rfl he rfl ?_
          refine pkt rfl rfl rfl he fun a he => ?_
          replace he := he.be (t := 45) (v' := .bool (decide ((((l.length : Nat) : Int) = 4) ∧ ((10000 : Int) < (((numGet (b.drop p)).1 : Nat) : Int))))) rfl (jad_t hk24)
          replace hh := hh.up1
          replace hh := hh.up1
          exact key22 _ _ ⟨he.keep [0, 2, 4, 5, 6, 7, 23, 38, 45] rfl, hh⟩
        · have hk24 := h23
          replace h23 : ¬ (l.length = 4) := by omega
          refine gn rfl rfl he rfl rfl fun a he => ?_
          refine gn rfl rfl he rfl rfl fun a he => ?_
          refine gy rfl he rfl ?_
          refine pkf rfl rfl rfl he fun a he => ?_
          replace he := he.be (t := 45) (v' := .bool (decide ((((l.length : Nat) : Int) = 4) ∧ ((10000 : Int) < (((numGet (b.drop p)).1 : Nat) : Int))))) rfl (jad_f hk24)
          replace hh := hh.up1
          replace hh := hh.up1
          exact key22 _ _ ⟨he.keep [0, 2, 4, 5, 6, 7, 23, 38, 45] rfl, hh⟩
    refine sd he (t := 34) rfl (fun h25 he => ?_) (fun h25 he => ?_)
    · refine gn rfl rfl he rfl rfl fun a he => ?_
      refine gn rfl rfl he rfl rfl fun a he => ?_
      refine pkt rfl rfl rfl he fun a he => ?_
      replace he := he.be (t := 37) (v' := .bool (decide ((((numGet (b.drop p)).2.2) ≠ 0) ∨ ((1099511627776 : Int) < (((numGet (b.drop p)).1 : Nat) : Int))))) rfl (jod_t h25)
      replace hh := hh.up1
      replace hh := hh.up1
      exact key11 _ _ ⟨he.keep [0, 2, 4, 5, 6, 7, 23, 37] rfl, hh⟩
    · refine gy rfl he rfl ?_
      refine mv rfl rfl he fun a he => ?_
      refine gy rfl he rfl ?_
      refine gt rfl rfl rfl he fun a he => ?_
      refine pkf rfl rfl rfl he fun a he => ?_
      replace he := he.be (t := 37) (v' := .bool (decide ((((numGet (b.drop p)).2.2) ≠ 0) ∨ ((1099511627776 : Int) < (((numGet (b.drop p)).1 : Nat) : Int))))) rfl (jod_f h25)
      replace hh := hh.up1
      replace hh := hh.up1
      exact key11 _ _ ⟨he.keep [0, 2, 4, 5, 6, 7, 23, 37] rfl, hh⟩
  · refine ext ?_
    refine ex_then ?_
    refine ex_then ?_
    refine ex_in ?_
    refine nm_then ?_
    refine sq ?_
    refine rg ?_
    refine mv rfl rfl he fun a he => ?_
    refine mv rfl rfl he fun a he => ?_
    refine slo1 (xs := b) (p) ts_23 rfl rfl h_b k_b (by omega) rfl he fun A27 cc28 a hf29 hc30 he => ?_
    refine cal cb_35 rfl (ref07_Get _ _ _ A27 cc28 (b.drop p) hh hf29 hc30 (by simp; omega)) rfl he fun v a W hp he => ?_
    obtain ⟨I31, A33, cc34, A35, cc36, rfl, hl32, hf37, hc38, hf39, hc40, hh⟩ := hp
    refine mv rfl rfl he fun a he => ?_
    refine xt rfl rfl rfl he fun a he => ?_
    refine xt rfl rfl rfl he fun a he => ?_
    refine al ti_26 rfl he hh fun bb41 a W he hh => ?_
    replace hh : Hp I31 (.obj bb41 (.cells [.slice none 0 0, .slice none 0 0, .bool false, .bool false].toArray 26) :: _) W := hh
    refine st #[.slice A33 (((refGet (b.drop p)).pd).length) cc34, .slice A35 (((refGet (b.drop p)).wd).length) cc36, .bool ((refGet (b.drop p)).mrk), .bool ((refGet (b.drop p)).lg)] ti_26 rfl rfl rfl rfl (by simp [Value.oneCell']) (by simp) he hh fun W hh => ?_
    replace hh : Hp I31 (.obj bb41 (.cells [.slice A33 (((refGet (b.drop p)).pd).length) cc34, .slice A35 (((refGet (b.drop p)).wd).length) cc36, .bool ((refGet (b.drop p)).mrk), .bool ((refGet (b.drop p)).lg)].toArray 26) :: _) W := hh
    refine asg rfl rfl he fun a he => ?_
    refine en ?_
    refine sq ?_
    replace hh := hh.up1
    have hc45 := (Ch.rowcap hh.at0).1
    obtain ⟨I42, hl43, hh, hf44⟩ := hh.freezeRow
    have hE := refL_end hR hc
    refine rgd (SH I42 [.obj bb41 (.cells ([.slice A33 (((refGet (b.drop p)).pd).length) cc34, .slice A35 (((refGet (b.drop p)).wd).length) cc36, .bool ((refGet (b.drop p)).mrk), .bool ((refGet (b.drop p)).lg)]).toArray 26), .obj bb1 (.cells ([.int .i64 0, .int .i64 0, .int .i64 0, .int .i64 0, .slice none 0 0, .slice none 0 0, .slice none 0 0, .bool false, .bool false]).toArray 28)]) 18 mixo rfl hh fun W hh => ?_
    refine ahp (d := 63) (v := .slice A_5 l.length c_5) 0 rfl (by kernel_rfl) (by kernel_rfl) (by kernel_rfl) rfl rfl rfl he ⟨_, _, (Snap.le.refl _), hh⟩ (fun W hS => by
        refine mv rfl rfl he fun a he => ?_
        exact aqe he) fun a he => ?_
    obtain ⟨v0, hx0⟩ := idx_some (xs := l) (i := 0) (by omega)
    obtain ⟨bb46, oo47, eA48, hc49⟩ := hf44.adr1 hx0
    replace he := he.be (t := 63) (v' := .slice (some ⟨bb46, oo47, none⟩) l.length c_5) rfl (by rw [eA48])
    refine ahp (d := 64) (v := .pointer (some ⟨bb46, oo47 + 0 * 1, none⟩)) 1 rfl (by kernel_rfl) (by kernel_rfl) (by kernel_rfl) rfl rfl rfl he ⟨_, _, (Snap.le.refl _), hh⟩ (fun W hS => by refine ia (0) ts_22 rfl rfl (List.getElem?_eq_some_iff.1 hx0).1 rfl he fun a he => ?_; exact aqe he) fun a he => ?_
    refine ahp (d := 65) (v := .int .i64 v0) 2 rfl (by kernel_rfl) (by kernel_rfl) (by kernel_rfl) rfl rfl rfl he ⟨_, _, (Snap.le.refl _), hh⟩ (fun W hS => by
        obtain ⟨I50, _, hleI50, hh⟩ := hS
        refine ld rb_3 rfl (hc49 _ _ _ hleI50 hh) rfl he fun a he => ?_
        exact aqe he) fun a he => ?_
    refine ahp (d := 66) (v := .slice A_5 l.length c_5) 3 rfl (by kernel_rfl) (by kernel_rfl) (by kernel_rfl) rfl rfl rfl he ⟨_, _, (Snap.le.refl _), hh⟩ (fun W hS => by
        refine mv rfl rfl he fun a he => ?_
        exact aqe he) fun a he => ?_
    obtain ⟨v1, hx1⟩ := idx_some (xs := l) (i := 1) (by omega)
    obtain ⟨bb51, oo52, eA53, hc54⟩ := hf44.adr1 hx1
    replace he := he.be (t := 66) (v' := .slice (some ⟨bb51, oo52, none⟩) l.length c_5) rfl (by rw [eA53])
    refine ahp (d := 67) (v := .pointer (some ⟨bb51, oo52 + 1 * 1, none⟩)) 4 rfl (by kernel_rfl) (by kernel_rfl) (by kernel_rfl) rfl rfl rfl he ⟨_, _, (Snap.le.refl _), hh⟩ (fun W hS => by refine ia (1) ts_22 rfl rfl (List.getElem?_eq_some_iff.1 hx1).1 rfl he fun a he => ?_; exact aqe he) fun a he => ?_
    refine ahp (d := 68) (v := .int .i64 v1) 5 rfl (by kernel_rfl) (by kernel_rfl) (by kernel_rfl) rfl rfl rfl he ⟨_, _, (Snap.le.refl _), hh⟩ (fun W hS => by
        obtain ⟨I55, _, hleI55, hh⟩ := hS
        refine ld rb_3 rfl (hc54 _ _ _ hleI55 hh) rfl he fun a he => ?_
        exact aqe he) fun a he => ?_
    refine ahp (d := 69) (v := .slice A_5 l.length c_5) 6 rfl (by kernel_rfl) (by kernel_rfl) (by kernel_rfl) rfl rfl rfl he ⟨_, _, (Snap.le.refl _), hh⟩ (fun W hS => by
        refine mv rfl rfl he fun a he => ?_
        exact aqe he) fun a he => ?_
    obtain ⟨v2, hx2⟩ := idx_some (xs := l) (i := 2) (by omega)
    obtain ⟨bb56, oo57, eA58, hc59⟩ := hf44.adr1 hx2
    replace he := he.be (t := 69) (v' := .slice (some ⟨bb56, oo57, none⟩) l.length c_5) rfl (by rw [eA58])
    refine ahp (d := 70) (v := .pointer (some ⟨bb56, oo57 + 2 * 1, none⟩)) 7 rfl (by kernel_rfl) (by kernel_rfl) (by kernel_rfl) rfl rfl rfl he ⟨_, _, (Snap.le.refl _), hh⟩ (fun W hS => by refine ia (2) ts_22 rfl rfl (List.getElem?_eq_some_iff.1 hx2).1 rfl he fun a he => ?_; exact aqe he) fun a he => ?_
    refine ahp (d := 71) (v := .int .i64 v2) 8 rfl (by kernel_rfl) (by kernel_rfl) (by kernel_rfl) rfl rfl rfl he ⟨_, _, (Snap.le.refl _), hh⟩ (fun W hS => by
        obtain ⟨I60, _, hleI60, hh⟩ := hS
        refine ld rb_3 rfl (hc59 _ _ _ hleI60 hh) rfl he fun a he => ?_
        exact aqe he) fun a he => ?_
    refine ahp (d := 72) (v := .slice A_5 l.length c_5) 9 rfl (by kernel_rfl) (by kernel_rfl) (by kernel_rfl) rfl rfl rfl he ⟨_, _, (Snap.le.refl _), hh⟩ (fun W hS => by
        refine mv rfl rfl he fun a he => ?_
        exact aqe he) fun a he => ?_
    obtain ⟨v3, hx3⟩ := idx_some (xs := l) (i := 3) (by omega)
    obtain ⟨bb61, oo62, eA63, hc64⟩ := hf44.adr1 hx3
    replace he := he.be (t := 72) (v' := .slice (some ⟨bb61, oo62, none⟩) l.length c_5) rfl (by rw [eA63])
    refine ahp (d := 73) (v := .pointer (some ⟨bb61, oo62 + 3 * 1, none⟩)) 10 rfl (by kernel_rfl) (by kernel_rfl) (by kernel_rfl) rfl rfl rfl he ⟨_, _, (Snap.le.refl _), hh⟩ (fun W hS => by refine ia (3) ts_22 rfl rfl (List.getElem?_eq_some_iff.1 hx3).1 rfl he fun a he => ?_; exact aqe he) fun a he => ?_
    refine ahp (d := 74) (v := .int .i64 v3) 11 rfl (by kernel_rfl) (by kernel_rfl) (by kernel_rfl) rfl rfl rfl he ⟨_, _, (Snap.le.refl _), hh⟩ (fun W hS => by
        obtain ⟨I65, _, hleI65, hh⟩ := hS
        refine ld rb_3 rfl (hc64 _ _ _ hleI65 hh) rfl he fun a he => ?_
        exact aqe he) fun a he => ?_
    refine ahp (d := 75) (v := .slice A_5 l.length c_5) 12 rfl (by kernel_rfl) (by kernel_rfl) (by kernel_rfl) rfl rfl rfl he ⟨_, _, (Snap.le.refl _), hh⟩ (fun W hS => by
        refine mv rfl rfl he fun a he => ?_
        exact aqe he) fun a he => ?_
    refine ahp (d := 76) (v := (.slice (if c_5 = 5 then A_5 else A_5.map (·.add (5 * 1))) (l.length - 5) (c_5 - 5))) 13 rfl (by kernel_rfl) (by kernel_rfl) (by kernel_rfl) rfl rfl rfl he ⟨_, _, (Snap.le.refl _), hh⟩ (fun W hS => by refine slo (5) ts_22 rfl rfl (by omega) rfl he fun a he => ?_; exact aqe he) fun a he => ?_
    obtain ⟨A66, cc67, eA68, hf69, hc70⟩ := slo_ex (xs := l) (l := 5) hf44 hc45 (by omega)
    rw [eA68] at he
    refine ahp (d := 77) (v := .agg #[.slice A33 (((refGet (b.drop p)).pd).length) cc34, .slice A35 (((refGet (b.drop p)).wd).length) cc36, .bool ((refGet (b.drop p)).mrk), .bool ((refGet (b.drop p)).lg)]) 14 rfl (by kernel_rfl) (by kernel_rfl) (by kernel_rfl) rfl rfl rfl he ⟨_, _, (Snap.le.refl _), hh⟩ (fun W hS => by
        obtain ⟨I71, _, hleI71, hh⟩ := hS
        refine ldA [.slice A33 (((refGet (b.drop p)).pd).length) cc34, .slice A35 (((refGet (b.drop p)).wd).length) cc36, .bool ((refGet (b.drop p)).mrk), .bool ((refGet (b.drop p)).lg)] rb_26 ti_26 rfl ((Rd.obj hh.at0 0).take 4) rfl rfl he fun a he => ?_
        exact aqe he) fun a he => ?_
    refine ahp (d := 78) (v := .agg #[.int .i64 v0, .int .i64 v1, .int .i64 v2, .int .i64 v3, .slice A66 ((l.drop 5).length) cc67, .slice A33 (((refGet (b.drop p)).pd).length) cc34, .slice A35 (((refGet (b.drop p)).wd).length) cc36, .bool ((refGet (b.drop p)).mrk), .bool ((refGet (b.drop p)).lg)]) 15 rfl (by kernel_rfl) (by kernel_rfl) (by kernel_rfl) rfl rfl rfl he ⟨_, _, (Snap.le.refl _), hh⟩ (fun W hS => by
        refine bld #[.int .i64 v0, .int .i64 v1, .int .i64 v2, .int .i64 v3, .slice A66 ((l.drop 5).length) cc67, .slice A33 (((refGet (b.drop p)).pd).length) cc34, .slice A35 (((refGet (b.drop p)).wd).length) cc36, .bool ((refGet (b.drop p)).mrk), .bool ((refGet (b.drop p)).lg)] rfl (by kernel_rfl) rfl he fun a he => ?_
        exact aqe he) fun a he => ?_
    refine aha1 (i := 16) (by kernel_rfl) ?_
    refine aop rfl ?_
    refine al ti_28 rfl he hh fun bb72 a W he hh => ?_
    replace hh : Hp I42 (.obj bb72 (.cells [.int .i64 0, .int .i64 0, .int .i64 0, .int .i64 0, .slice none 0 0, .slice none 0 0, .slice none 0 0, .bool false, .bool false].toArray 28) :: _) W := hh
    replace hh := hh.up2
    replace hh := hh.up2
    refine aen ⟨_, _, (Snap.le.refl _), hh⟩ ?_
    refine aha1 (i := 17) (by kernel_rfl) ?_
    refine aop rfl ?_
    replace hh := hh.up2
    refine st #[.int .i64 v0, .int .i64 v1, .int .i64 v2, .int .i64 v3, .slice A66 ((l.drop 5).length) cc67, .slice A33 (((refGet (b.drop p)).pd).length) cc34, .slice A35 (((refGet (b.drop p)).wd).length) cc36, .bool ((refGet (b.drop p)).mrk), .bool ((refGet (b.drop p)).lg)] ti_28 rfl rfl rfl rfl (by simp [Value.oneCell']) (by simp) he hh fun W hh => ?_
    replace hh : Hp I42 (.obj bb72 (.cells [.int .i64 v0, .int .i64 v1, .int .i64 v2, .int .i64 v3, .slice A66 ((l.drop 5).length) cc67, .slice A33 (((refGet (b.drop p)).pd).length) cc34, .slice A35 (((refGet (b.drop p)).wd).length) cc36, .bool ((refGet (b.drop p)).mrk), .bool ((refGet (b.drop p)).lg)].toArray 28) :: _) W := hh
    replace hh := hh.up2
    replace hh := hh.up2
    refine aen ⟨_, _, (Snap.le.refl _), hh⟩ ?_
    refine ahd (by kernel_rfl) ?_
    refine en ?_
    refine sq ?_
    refine sq ?_
    refine rg ?_
    refine mv rfl rfl he fun a he => ?_
    refine ne rfl rfl rfl he fun a he => ?_
    refine mv rfl rfl he fun a he => ?_
    refine jnl (fun a W => ∃ (I73 : Snap), I42.le I73 ∧ Env 88 [(0, .slice A_b b.length c_b), (2, .pointer (some ⟨bb1, 0, none⟩)), (4, .int .i64 ((p : Nat) : Int)), (5, .slice A_5 l.length c_5), (9, .pointer (some ⟨bb41, 0, none⟩)), (11, .pointer (some ⟨bb72, 0, none⟩)), (23, .bool (decide (l.length < 5 ∨ (l.length : Int) < 5 + l4 l))), (85, .bool ((decide (((refGet (b.drop p)).err) ≠ 0)) || (!(mayN v0 v1 v2 v3 (l.drop 5) ((refGet (b.drop p)).pd) ((refGet (b.drop p)).wd) ((refGet (b.drop p)).mrk) ((refGet (b.drop p)).lg)))))] a ∧ Hp I73 (.obj bb41 (.cells ([.slice A33 (((refGet (b.drop p)).pd).length) cc34, .slice A35 (((refGet (b.drop p)).wd).length) cc36, .bool ((refGet (b.drop p)).mrk), .bool ((refGet (b.drop p)).lg)]).toArray 26) :: .obj bb1 (.cells ([.int .i64 0, .int .i64 0, .int .i64 0, .int .i64 0, .slice none 0 0, .slice none 0 0, .slice none 0 0, .bool false, .bool false]).toArray 28) :: .obj bb72 (.cells ([.int .i64 v0, .int .i64 v1, .int .i64 v2, .int .i64 v3, .slice A66 ((l.drop 5).length) cc67, .slice A33 (((refGet (b.drop p)).pd).length) cc34, .slice A35 (((refGet (b.drop p)).wd).length) cc36, .bool ((refGet (b.drop p)).mrk), .bool ((refGet (b.drop p)).lg)]).toArray 28) :: L) W) 4 (fun a W hM => ?_) fun key75 => ?_
    · obtain ⟨I73, hle74, he, hh⟩ := hM
      refine en ?_
      refine cnb he rfl (fun h85 => ?_) (fun h85 => ?_)
      · refine sq ?_
        refine rg ?_
        refine bld #[.int .i64 0, .int .i64 0, .int .i64 0, .int .i64 0, .slice none 0 0, .slice none 0 0, .slice none 0 0, .bool false, .bool false] rfl (by kernel_rfl) rfl he fun a he => ?_
        replace hh := hh.up1
        refine st #[.int .i64 0, .int .i64 0, .int .i64 0, .int .i64 0, .slice none 0 0, .slice none 0 0, .slice none 0 0, .bool false, .bool false] ti_28 rfl rfl rfl rfl (by simp [Value.oneCell']) (by simp) he hh fun W hh => ?_
        replace hh : Hp I73 (.obj bb1 (.cells [.int .i64 0, .int .i64 0, .int .i64 0, .int .i64 0, .slice none 0 0, .slice none 0 0, .slice none 0 0, .bool false, .bool false].toArray 28) :: _) W := hh
        refine asg rfl rfl he fun a he => ?_
        refine en ?_
        refine rt ?_
        refine retsCT Tryd.results17 he rfl (loadVar_run rb_28 ti_28 ((Rd.obj hh.at0 0).take 9) rfl) rfl (Ret.mk ?_)
        rw [ref22_bad hE hx0 hx1 hx2 hx3 h85]
        simp only [progBad]
        replace hh := hh.drop
        replace hh := hh.drop
        replace hh := hh.drop
        exact ⟨I73, none, 0, none, 0, none, 0, rfl, ((hl32.trans hl43).trans hle74), Fz.nil _ _, Nat.le_refl _, Fz.nil _ _, Nat.le_refl _, Fz.nil _ _, Nat.le_refl _, hh⟩
      · refine sk ?_
        refine nm_then ?_
        refine sq ?_
        refine rg ?_
        refine ldA [.int .i64 v0, .int .i64 v1, .int .i64 v2, .int .i64 v3, .slice A66 ((l.drop 5).length) cc67, .slice A33 (((refGet (b.drop p)).pd).length) cc34, .slice A35 (((refGet (b.drop p)).wd).length) cc36, .bool ((refGet (b.drop p)).mrk), .bool ((refGet (b.drop p)).lg)] rb_28 ti_28 rfl ((Rd.obj hh.at2 0).take 9) rfl rfl he fun a he => ?_
        replace hh := hh.up1
        refine st #[.int .i64 v0, .int .i64 v1, .int .i64 v2, .int .i64 v3, .slice A66 ((l.drop 5).length) cc67, .slice A33 (((refGet (b.drop p)).pd).length) cc34, .slice A35 (((refGet (b.drop p)).wd).length) cc36, .bool ((refGet (b.drop p)).mrk), .bool ((refGet (b.drop p)).lg)] ti_28 rfl rfl rfl rfl (by simp [Value.oneCell']) (by simp) he hh fun W hh => ?_
        replace hh : Hp I73 (.obj bb1 (.cells [.int .i64 v0, .int .i64 v1, .int .i64 v2, .int .i64 v3, .slice A66 ((l.drop 5).length) cc67, .slice A33 (((refGet (b.drop p)).pd).length) cc34, .slice A35 (((refGet (b.drop p)).wd).length) cc36, .bool ((refGet (b.drop p)).mrk), .bool ((refGet (b.drop p)).lg)].toArray 28) :: _) W := hh
        refine asg rfl rfl he fun a he => ?_
        refine en ?_
        refine rt ?_
        refine retsCT Tryd.results17 he rfl (loadVar_run rb_28 ti_28 ((Rd.obj hh.at0 0).take 9) rfl) rfl (Ret.mk ?_)
        rw [ref22_ok hE hx0 hx1 hx2 hx3 h85]
        replace hh := hh.drop
        replace hh := hh.drop
        replace hh := hh.drop
        exact ⟨I73, A66, cc67, A33, cc34, A35, cc36, rfl, ((hl32.trans hl43).trans hle74), (hf69.up hle74), hc70, (hf37.up (hl43.trans hle74)), hc38, (hf39.up (hl43.trans hle74)), hc40, hh⟩
    refine sd he (t := 81) rfl (fun h76 he => ?_) (fun h76 he => ?_)
    · refine gn rfl rfl he rfl rfl fun a he => ?_
      refine gn rfl rfl he rfl rfl fun a he => ?_
      refine gn rfl rfl he rfl rfl fun a he => ?_
      refine pkt rfl rfl rfl he fun a he => ?_
      replace he := he.be (t := 85) (v' := .bool ((decide (((refGet (b.drop p)).err) ≠ 0)) || (!(mayN v0 v1 v2 v3 (l.drop 5) ((refGet (b.drop p)).pd) ((refGet (b.drop p)).wd) ((refGet (b.drop p)).mrk) ((refGet (b.drop p)).lg))))) rfl (jo_t (decide_eq_true h76))
      replace hh := hh.up2
      replace hh := hh.up2
      replace hh := hh.up2
      exact key75 _ _ ⟨I42, (Snap.le.refl _), he.keep [0, 2, 4, 5, 9, 11, 23, 85] rfl, hh⟩
    · refine gy rfl he rfl ?_
      refine ldA [.int .i64 v0, .int .i64 v1, .int .i64 v2, .int .i64 v3, .slice A66 ((l.drop 5).length) cc67, .slice A33 (((refGet (b.drop p)).pd).length) cc34, .slice A35 (((refGet (b.drop p)).wd).length) cc36, .bool ((refGet (b.drop p)).mrk), .bool ((refGet (b.drop p)).lg)] rb_28 ti_28 rfl ((Rd.obj hh.at2 0).take 9) rfl rfl he fun a he => ?_
      refine gy rfl he rfl ?_
      refine cal cb_19 rfl (ref22_May _ _ _ v0 v1 v2 v3 A66 cc67 (l.drop 5) A33 cc34 ((refGet (b.drop p)).pd) A35 cc36 ((refGet (b.drop p)).wd) ((refGet (b.drop p)).mrk) ((refGet (b.drop p)).lg) hh hf69 hc70 (hf37.up hl43) hc38 (hf39.up hl43) hc40 (by simp; omega) (by have := tokGet_pd (b.drop p); rw [ref_tok]; omega) (by have := tokGet_wd (b.drop p); rw [ref_tok]; omega) (fun c hc => by have := tokGet_le (b.drop p) c (by rw [← ref_tok]; exact hc); omega)) rfl he fun v a W hp he => ?_
      obtain ⟨I78, rfl, hl79, hh⟩ := hp
      refine gy rfl he rfl ?_
      refine nt rfl rfl he fun a he => ?_
      refine pkf rfl rfl rfl he fun a he => ?_
      replace he := he.be (t := 85) (v' := .bool ((decide (((refGet (b.drop p)).err) ≠ 0)) || (!(mayN v0 v1 v2 v3 (l.drop 5) ((refGet (b.drop p)).pd) ((refGet (b.drop p)).wd) ((refGet (b.drop p)).mrk) ((refGet (b.drop p)).lg))))) rfl (jo_f (decide_eq_false h76))
      replace hh := hh.up2
      replace hh := hh.up2
      replace hh := hh.up2
      exact key75 _ _ ⟨I78, hl79, he.keep [0, 2, 4, 5, 9, 11, 23, 85] rfl, hh⟩

end Go.Proofs.YtndaogkpgoimlaaDoor

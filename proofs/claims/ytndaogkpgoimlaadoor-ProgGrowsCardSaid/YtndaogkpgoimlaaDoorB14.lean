/- Walks through the given program's functions, printed op by op by this session's own program; what each computes is told by the plain functions of the texts S... -/
import Derived.Test.YtndaogkpgoimlaaDoorB13
import Derived.KernelRfl
namespace Go.Proofs.YtndaogkpgoimlaaDoor
open Go Go.RowKit K
set_option linter.unusedVariables false
theorem cb_32 : callable Tryd.prog 32 = true := by kernel_rfl
theorem cb_35 : callable Tryd.prog 35 = true := by kernel_rfl
theorem cb_38 : callable Tryd.prog 38 = true := by kernel_rfl
theorem ref22_May (I : Snap) (L : List Ch) (W : World) (ph : Int) (fl : Int) (of_ : Int) (nx : Int) (A_rs : Option Addr) (c_rs : Nat) (rs : List Int) (A_pd : Option Addr) (c_pd : Nat) (pd : List UInt8) (A_wd : Option Addr) (c_wd : Nat) (wd : List Int) (mk : Bool) (lg : Bool) (hh : Hp I L W) (h_rs : Fz I A_rs (rs.map i64v)) (k_rs : rs.length ≤ c_rs) (h_pd : Fz I A_pd (pd.map b8)) (k_pd : pd.length ≤ c_pd) (h_wd : Fz I A_wd (wd.map r32)) (k_wd : wd.length ≤ c_wd) (hrl : rs.length ≤ 1000000000) (hb : pd.length ≤ 100000000000) (hb2 : wd.length ≤ 10000000000) (hc : ∀ c ∈ wd, c < 4294967296) :
    Calls Tryd.prog 19 #[.agg #[.int .i64 ph, .int .i64 fl, .int .i64 of_, .int .i64 nx, .slice A_rs rs.length c_rs, .slice A_pd pd.length c_pd, .slice A_wd wd.length c_wd, .bool mk, .bool lg]] W (Ret fun v W => ∃ (I' : Snap), v = .bool (mayN ph fl of_ nx rs pd wd mk lg) ∧ I.le I' ∧ Hp I' (L) W) := by
  refine enter Tryd.func19 rfl Tryd.ntmps19 rfl fun a he => ?_
  refine sq ?_
  refine rg ?_
  refine bx #[.int .i64 ph, .int .i64 fl, .int .i64 of_, .int .i64 nx, .slice A_rs rs.length c_rs, .slice A_pd pd.length c_pd, .slice A_wd wd.length c_wd, .bool mk, .bool lg] rfl rfl rfl he hh fun bb1 a W he hh => ?_
  replace hh : Hp I (.obj bb1 (.cells [.int .i64 ph, .int .i64 fl, .int .i64 of_, .int .i64 nx, .slice A_rs rs.length c_rs, .slice A_pd pd.length c_pd, .slice A_wd wd.length c_wd, .bool mk, .bool lg].toArray 28) :: _) W := hh
  refine asg rfl rfl he fun a he => ?_
  refine en ?_
  refine sq ?_
  refine rg ?_
  refine ldA [.int .i64 ph, .int .i64 fl, .int .i64 of_, .int .i64 nx, .slice A_rs rs.length c_rs, .slice A_pd pd.length c_pd, .slice A_wd wd.length c_wd, .bool mk, .bool lg] rb_28 ti_28 rfl ((Rd.obj hh.at0 0).take 9) rfl rfl he fun a he => ?_
  refine cal cb_36 rfl (ref22_four _ _ _ ph fl of_ nx A_rs c_rs rs A_pd c_pd pd A_wd c_wd wd mk lg hh h_rs k_rs h_pd k_pd h_wd k_wd) rfl he fun v a W hp he => ?_
  obtain ⟨A2, cc3, rfl, hh⟩ := hp
  refine asg rfl rfl he fun a he => ?_
  refine en ?_
  refine sq ?_
  refine sq ?_
  have hc8 := (Ch.rowcap hh.at0).1
  obtain ⟨I5, hl6, hh, hf7⟩ := hh.freezeRow
  have hX : (fours ph fl of_ nx).length = 4 := rfl
  refine rg ?_
  refine asg rfl rfl he fun a he => ?_
  refine en ?_
  refine bk ?_
  refine lp (fun (i : Nat) a w => Env 95 [(0, .agg #[.int .i64 ph, .int .i64 fl, .int .i64 of_, .int .i64 nx, .slice A_rs rs.length c_rs, .slice A_pd pd.length c_pd, .slice A_wd wd.length c_wd, .bool mk, .bool lg]), (1, .pointer (some ⟨bb1, 0, none⟩)), (3, .slice A2 ((fours ph fl of_ nx).length) cc3), (4, .int .i64 ((i : Nat) : Int))] a ∧ Hp I5 (.obj bb1 (.cells ([.int .i64 ph, .int .i64 fl, .int .i64 of_, .int .i64 nx, .slice A_rs rs.length c_rs, .slice A_pd pd.length c_pd, .slice A_wd wd.length c_wd, .bool mk, .bool lg]).toArray 28) :: L) w ∧ i ≤ 4 ∧ ((fours ph fl of_ nx).take i).all in40 = true)
      (fun i => 4 - i) 0 ⟨he.keep [0, 1, 3, 4] rfl, hh, Nat.zero_le _, rfl⟩ fun i a W hinv => ?_
  obtain ⟨he, hh, hi, hinv⟩ := hinv
  refine sq ?_
  refine sq ?_
  refine rg ?_
  refine mv rfl rfl he fun a he => ?_
  refine mv rfl rfl he fun a he => ?_
  refine ln Tryd.underlying22 rfl rfl he fun a he => ?_
  refine lt rfl rfl rfl he fun a he => ?_
  refine en ?_
  refine cnd he rfl (fun h9 => ?_) (fun h9 => ?_)
  · replace h9 : i < ((fours ph fl of_ nx).length) := by omega
    refine sk ?_
    refine nm_then ?_
    refine sq ?_
    refine bk ?_
    refine sq ?_
    refine rg ?_
    refine mv rfl rfl he fun a he => ?_
    refine mv rfl rfl he fun a he => ?_
    obtain ⟨x, hx⟩ := idx_some (xs := fours ph fl of_ nx) (i := i) (by omega)
    refine ia1 (xs := fours ph fl of_ nx) (i) ts_22 rfl rfl (hf7.rd hh) hx rfl he fun bb10 oo11 a hc12 he => ?_
    refine ld rb_3 rfl hc12 rfl he fun a he => ?_
    refine lt rfl rfl rfl he fun a he => ?_
    refine mv rfl rfl he fun a he => ?_
    refine sd he (t := 21) rfl (fun h13 he => ?_) (fun h13 he => ?_)
    · refine gn rfl rfl he rfl rfl fun a he => ?_
      refine gn rfl rfl he rfl rfl fun a he => ?_
      refine gn rfl rfl he rfl rfl fun a he => ?_
      refine gn rfl rfl he rfl rfl fun a he => ?_
      refine gn rfl rfl he rfl rfl fun a he => ?_
      refine pkt rfl rfl rfl he fun a he => ?_
      refine en ?_
      refine cnt he rfl ?_
      refine sq ?_
      refine rg ?_
      refine asg rfl rfl he fun a he => ?_
      refine en ?_
      refine rt ?_
      refine rets1 Tryd.results19 he rfl (Ret.mk ?_)
      replace hh := hh.drop
      exact ⟨I5, by rw [mayN, all_bad hx (by unfold in40; simp; omega)]; rfl, hl6, hh⟩
    · refine gy rfl he rfl ?_
      refine mv rfl rfl he fun a he => ?_
      refine gy rfl he rfl ?_
      refine mv rfl rfl he fun a he => ?_
      refine gy rfl he rfl ?_
      refine ia1 (xs := fours ph fl of_ nx) (i) ts_22 rfl rfl (hf7.rd hh) hx rfl he fun bb14 oo15 a hc16 he => ?_
      refine gy rfl he rfl ?_
      refine ld rb_3 rfl hc16 rfl he fun a he => ?_
      refine gy rfl he rfl ?_
      refine gt rfl rfl rfl he fun a he => ?_
      refine pkf rfl rfl rfl he fun a he => ?_
      refine en ?_
      refine cnd he rfl (fun h17 => ?_) (fun h17 => ?_)
      · refine sq ?_
        refine rg ?_
        refine asg rfl rfl he fun a he => ?_
        refine en ?_
        refine rt ?_
        refine rets1 Tryd.results19 he rfl (Ret.mk ?_)
        replace hh := hh.drop
        exact ⟨I5, by rw [mayN, all_bad hx (by unfold in40; simp; omega)]; rfl, hl6, hh⟩
      · refine sk ?_
        refine nm_blk ?_
        refine nm_then ?_
        refine rg ?_
        refine mv rfl rfl he fun a he => ?_
        refine ad (((i + 1) : Nat) : Int) rfl rfl (w64 (by omega) (by omega)) rfl he fun a he => ?_
        refine asg rfl rfl he fun a he => ?_
        refine en ?_
        exact ⟨i + 1, ⟨he.keep [0, 1, 3, 4] rfl, hh, by omega, take_all_next hinv hx (by unfold in40; simp; omega)⟩, by show 4 - (i + 1) < 4 - i; omega⟩
  · replace h9 : ¬ (i < ((fours ph fl of_ nx).length)) := by omega
    refine ext ?_
    refine ex_then ?_
    refine ex_then ?_
    refine ex_in ?_
    refine nm_then ?_
    refine sq ?_
    refine sq ?_
    refine rg ?_
    refine asg rfl rfl he fun a he => ?_
    refine en ?_
    refine bk ?_
    refine lp (fun (j : Nat) a w => Env 95 [(0, .agg #[.int .i64 ph, .int .i64 fl, .int .i64 of_, .int .i64 nx, .slice A_rs rs.length c_rs, .slice A_pd pd.length c_pd, .slice A_wd wd.length c_wd, .bool mk, .bool lg]), (1, .pointer (some ⟨bb1, 0, none⟩)), (5, .int .i64 ((j : Nat) : Int))] a ∧ Hp I5 (.obj bb1 (.cells ([.int .i64 ph, .int .i64 fl, .int .i64 of_, .int .i64 nx, .slice A_rs rs.length c_rs, .slice A_pd pd.length c_pd, .slice A_wd wd.length c_wd, .bool mk, .bool lg]).toArray 28) :: L) w ∧ j ≤ rs.length ∧ runsOk nx none rs = runsOk nx (prevOf rs j) (rs.drop j))
        (fun j => rs.length - j) 0 ⟨he.keep [0, 1, 5] rfl, hh, Nat.zero_le _, rfl⟩ fun j a W hinv => ?_
    obtain ⟨he, hh, hj, hru⟩ := hinv
    refine sq ?_
    refine sq ?_
    refine rg ?_
    refine mv rfl rfl he fun a he => ?_
    refine fa fo_28_4 rfl rfl he fun a he => ?_
    refine ld rb_22 rfl (ocell hh.at0 rfl) rfl he fun a he => ?_
    refine ln Tryd.underlying22 rfl rfl he fun a he => ?_
    refine lt rfl rfl rfl he fun a he => ?_
    refine en ?_
    refine cnd he rfl (fun h18 => ?_) (fun h18 => ?_)
    · replace h18 : j < rs.length := by omega
      refine sk ?_
      refine nm_then ?_
      refine sq ?_
      refine bk ?_
      refine sq ?_
      refine rgd (SH I5 [.obj bb1 (.cells ([.int .i64 ph, .int .i64 fl, .int .i64 of_, .int .i64 nx, .slice A_rs rs.length c_rs, .slice A_pd pd.length c_pd, .slice A_wd wd.length c_wd, .bool mk, .bool lg]).toArray 28)]) 34 mixo rfl hh fun W hh => ?_
      refine ahp (d := 35) (v := .pointer (some ⟨bb1, 4, none⟩)) 0 rfl (by kernel_rfl) (by kernel_rfl) (by kernel_rfl) rfl rfl rfl he ⟨_, _, (Snap.le.refl _), hh⟩ (fun W hS => by
          refine fa fo_28_4 rfl rfl he fun a he => ?_
          exact aqe he) fun a he => ?_
      refine ahp (d := 36) (v := .slice A_rs rs.length c_rs) 1 rfl (by kernel_rfl) (by kernel_rfl) (by kernel_rfl) rfl rfl rfl he ⟨_, _, (Snap.le.refl _), hh⟩ (fun W hS => by
          obtain ⟨I19, _, hleI19, hh⟩ := hS
          refine ld rb_22 rfl (ocell hh.at0 rfl) rfl he fun a he => ?_
          exact aqe he) fun a he => ?_
      refine ahp (d := 37) (v := .int .i64 ((j : Nat) : Int)) 2 rfl (by kernel_rfl) (by kernel_rfl) (by kernel_rfl) rfl rfl rfl he ⟨_, _, (Snap.le.refl _), hh⟩ (fun W hS => by
          refine mv rfl rfl he fun a he => ?_
          exact aqe he) fun a he => ?_
      obtain ⟨x, hx⟩ := idx_some (xs := rs) (i := j) (by omega)
      obtain ⟨bb20, oo21, eA22, hc23⟩ := (h_rs.up hl6).adr1 hx
      replace he := he.be (t := 36) (v' := .slice (some ⟨bb20, oo21, none⟩) rs.length c_rs) rfl (by rw [eA22])
      refine ahp (d := 38) (v := .pointer (some ⟨bb20, oo21 + j * 1, none⟩)) 3 rfl (by kernel_rfl) (by kernel_rfl) (by kernel_rfl) rfl rfl rfl he ⟨_, _, (Snap.le.refl _), hh⟩ (fun W hS => by refine ia (j) ts_22 rfl rfl (List.getElem?_eq_some_iff.1 hx).1 rfl he fun a he => ?_; exact aqe he) fun a he => ?_
      refine ahp (d := 39) (v := .int .i64 x) 4 rfl (by kernel_rfl) (by kernel_rfl) (by kernel_rfl) rfl rfl rfl he ⟨_, _, (Snap.le.refl _), hh⟩ (fun W hS => by
          obtain ⟨I24, _, hleI24, hh⟩ := hS
          refine ld rb_3 rfl (hc23 _ _ _ hleI24 hh) rfl he fun a he => ?_
          exact aqe he) fun a he => ?_
      refine ahp (d := 40) (v := .bool (decide (x < 0))) 5 rfl (by kernel_rfl) (by kernel_rfl) (by kernel_rfl) rfl rfl rfl he ⟨_, _, (Snap.le.refl _), hh⟩ (fun W hS => by
          refine lt rfl rfl rfl he fun a he => ?_
          exact aqe he) fun a he => ?_
      refine ahp (d := 41) (v := .bool (decide (x < 0))) 6 rfl (by kernel_rfl) (by kernel_rfl) (by kernel_rfl) rfl rfl rfl he ⟨_, _, (Snap.le.refl _), hh⟩ (fun W hS => by
          refine mv rfl rfl he fun a he => ?_
          exact aqe he) fun a he => ?_
      by_cases h25 : x < 0
      · replace he := he.be (t := 41) (v' := .bool true) rfl (by rw [decide_eq_true h25])
        refine ahn 7 rfl (by kernel_rfl) (by kernel_rfl) (by kernel_rfl) rfl rfl he rfl rfl ⟨_, _, (Snap.le.refl _), hh⟩ fun a he => ?_
        refine ahn 8 rfl (by kernel_rfl) (by kernel_rfl) (by kernel_rfl) rfl rfl he rfl rfl ⟨_, _, (Snap.le.refl _), hh⟩ fun a he => ?_
        refine ahn 9 rfl (by kernel_rfl) (by kernel_rfl) (by kernel_rfl) rfl rfl he rfl rfl ⟨_, _, (Snap.le.refl _), hh⟩ fun a he => ?_
        refine ahn 10 rfl (by kernel_rfl) (by kernel_rfl) (by kernel_rfl) rfl rfl he rfl rfl ⟨_, _, (Snap.le.refl _), hh⟩ fun a he => ?_
        refine ahn 11 rfl (by kernel_rfl) (by kernel_rfl) (by kernel_rfl) rfl rfl he rfl rfl ⟨_, _, (Snap.le.refl _), hh⟩ fun a he => ?_
        refine ahn 12 rfl (by kernel_rfl) (by kernel_rfl) (by kernel_rfl) rfl rfl he rfl rfl ⟨_, _, (Snap.le.refl _), hh⟩ fun a he => ?_
        refine ahn 13 rfl (by kernel_rfl) (by kernel_rfl) (by kernel_rfl) rfl rfl he rfl rfl ⟨_, _, (Snap.le.refl _), hh⟩ fun a he => ?_
        refine ahn 14 rfl (by kernel_rfl) (by kernel_rfl) (by kernel_rfl) rfl rfl he rfl rfl ⟨_, _, (Snap.le.refl _), hh⟩ fun a he => ?_
        refine ahp (d := 50) (v := .bool true) 15 rfl (by kernel_rfl) (by kernel_rfl) (by kernel_rfl) rfl rfl rfl he ⟨_, _, (Snap.le.refl _), hh⟩ (fun W hS => by
            refine pkt rfl rfl rfl he fun a he => ?_
            exact aqe he) fun a he => ?_
        refine ahp (d := 51) (v := .bool true) 16 rfl (by kernel_rfl) (by kernel_rfl) (by kernel_rfl) rfl rfl rfl he ⟨_, _, (Snap.le.refl _), hh⟩ (fun W hS => by
            refine mv rfl rfl he fun a he => ?_
            exact aqe he) fun a he => ?_
        refine ahn 17 rfl (by kernel_rfl) (by kernel_rfl) (by kernel_rfl) rfl rfl he rfl rfl ⟨_, _, (Snap.le.refl _), hh⟩ fun a he => ?_
        refine ahn 18 rfl (by kernel_rfl) (by kernel_rfl) (by kernel_rfl) rfl rfl he rfl rfl ⟨_, _, (Snap.le.refl _), hh⟩ fun a he => ?_
        refine ahn 19 rfl (by kernel_rfl) (by kernel_rfl) (by kernel_rfl) rfl rfl he rfl rfl ⟨_, _, (Snap.le.refl _), hh⟩ fun a he => ?_
        refine ahnu 20 rfl (by kernel_rfl) (by kernel_rfl) (by kernel_rfl) rfl rfl he rfl ⟨_, _, (Snap.le.refl _), hh⟩ fun a he => ?_
        refine ahnu 21 rfl (by kernel_rfl) (by kernel_rfl) (by kernel_rfl) rfl rfl he rfl ⟨_, _, (Snap.le.refl _), hh⟩ fun a he => ?_
        refine ahnu 22 rfl (by kernel_rfl) (by kernel_rfl) (by kernel_rfl) rfl rfl he rfl ⟨_, _, (Snap.le.refl _), hh⟩ fun a he => ?_
        refine ahnu 23 rfl (by kernel_rfl) (by kernel_rfl) (by kernel_rfl) rfl rfl he rfl ⟨_, _, (Snap.le.refl _), hh⟩ fun a he => ?_
        refine ahnu 24 rfl (by kernel_rfl) (by kernel_rfl) (by kernel_rfl) rfl rfl he rfl ⟨_, _, (Snap.le.refl _), hh⟩ fun a he => ?_
        refine ahnu 25 rfl (by kernel_rfl) (by kernel_rfl) (by kernel_rfl) rfl rfl he rfl ⟨_, _, (Snap.le.refl _), hh⟩ fun a he => ?_
        refine ahnu 26 rfl (by kernel_rfl) (by kernel_rfl) (by kernel_rfl) rfl rfl he rfl ⟨_, _, (Snap.le.refl _), hh⟩ fun a he => ?_
        refine ahnu 27 rfl (by kernel_rfl) (by kernel_rfl) (by kernel_rfl) rfl rfl he rfl ⟨_, _, (Snap.le.refl _), hh⟩ fun a he => ?_
        refine ahnu 28 rfl (by kernel_rfl) (by kernel_rfl) (by kernel_rfl) rfl rfl he rfl ⟨_, _, (Snap.le.refl _), hh⟩ fun a he => ?_
        refine ahnu 29 rfl (by kernel_rfl) (by kernel_rfl) (by kernel_rfl) rfl rfl he rfl ⟨_, _, (Snap.le.refl _), hh⟩ fun a he => ?_
        refine ahnu 30 rfl (by kernel_rfl) (by kernel_rfl) (by kernel_rfl) rfl rfl he rfl ⟨_, _, (Snap.le.refl _), hh⟩ fun a he => ?_
        refine ahnu 31 rfl (by kernel_rfl) (by kernel_rfl) (by kernel_rfl) rfl rfl he rfl ⟨_, _, (Snap.le.refl _), hh⟩ fun a he => ?_
        refine ahn 32 rfl (by kernel_rfl) (by kernel_rfl) (by kernel_rfl) rfl rfl he rfl rfl ⟨_, _, (Snap.le.refl _), hh⟩ fun a he => ?_
        refine ahp (d := 68) (v := .bool true) 33 rfl (by kernel_rfl) (by kernel_rfl) (by kernel_rfl) rfl rfl rfl he ⟨_, _, (Snap.le.refl _), hh⟩ (fun W hS => by
            refine pkt rfl rfl rfl he fun a he => ?_
            exact aqe he) fun a he => ?_
        refine ahd (by kernel_rfl) ?_
        refine en ?_
        refine cnt he rfl ?_
        refine sq ?_
        refine rg ?_
        refine asg rfl rfl he fun a he => ?_
        refine en ?_
        refine rt ?_
        refine rets1 Tryd.results19 he rfl (Ret.mk ?_)
        replace hh := hh.drop
        exact ⟨I5, by rw [mayN, runs_bad hru hx (.inl (by omega))]; simp, hl6, hh⟩
      · replace he := he.be (t := 41) (v' := .bool false) rfl (by rw [decide_eq_false h25])
        refine ahp (d := 42) (v := .pointer (some ⟨bb1, 4, none⟩)) 7 rfl (by kernel_rfl) (by kernel_rfl) (by kernel_rfl) rfl rfl rfl he ⟨_, _, (Snap.le.refl _), hh⟩ (fun W hS => by
            refine gy rfl he rfl ?_
            refine fa fo_28_4 rfl rfl he fun a he => ?_
            exact aqe he) fun a he => ?_
        refine ahp (d := 43) (v := .slice A_rs rs.length c_rs) 8 rfl (by kernel_rfl) (by kernel_rfl) (by kernel_rfl) rfl rfl rfl he ⟨_, _, (Snap.le.refl _), hh⟩ (fun W hS => by
            obtain ⟨I26, _, hleI26, hh⟩ := hS
            refine gy rfl he rfl ?_
            refine ld rb_22 rfl (ocell hh.at0 rfl) rfl he fun a he => ?_
            exact aqe he) fun a he => ?_
        refine ahp (d := 44) (v := .int .i64 ((j : Nat) : Int)) 9 rfl (by kernel_rfl) (by kernel_rfl) (by kernel_rfl) rfl rfl rfl he ⟨_, _, (Snap.le.refl _), hh⟩ (fun W hS => by
            refine gy rfl he rfl ?_
            refine mv rfl rfl he fun a he => ?_
            exact aqe he) fun a he => ?_
        obtain ⟨bb27, oo28, eA29, hc30⟩ := (h_rs.up hl6).adr1 hx
        replace he := he.be (t := 43) (v' := .slice (some ⟨bb27, oo28, none⟩) rs.length c_rs) rfl (by rw [eA29])
        refine ahp (d := 45) (v := .pointer (some ⟨bb27, oo28 + j * 1, none⟩)) 10 rfl (by kernel_rfl) (by kernel_rfl) (by kernel_rfl) rfl rfl rfl he ⟨_, _, (Snap.le.refl _), hh⟩ (fun W hS => by refine gy rfl he rfl ?_; refine ia (j) ts_22 rfl rfl (List.getElem?_eq_some_iff.1 hx).1 rfl he fun a he => ?_; exact aqe he) fun a he => ?_
        refine ahp (d := 46) (v := .int .i64 x) 11 rfl (by kernel_rfl) (by kernel_rfl) (by kernel_rfl) rfl rfl rfl he ⟨_, _, (Snap.le.refl _), hh⟩ (fun W hS => by
            obtain ⟨I31, _, hleI31, hh⟩ := hS
            refine gy rfl he rfl ?_
            refine ld rb_3 rfl (hc30 _ _ _ hleI31 hh) rfl he fun a he => ?_
            exact aqe he) fun a he => ?_
        refine ahp (d := 47) (v := .pointer (some ⟨bb1, 3, none⟩)) 12 rfl (by kernel_rfl) (by kernel_rfl) (by kernel_rfl) rfl rfl rfl he ⟨_, _, (Snap.le.refl _), hh⟩ (fun W hS => by
            refine gy rfl he rfl ?_
            refine fa fo_28_3 rfl rfl he fun a he => ?_
            exact aqe he) fun a he => ?_
        refine ahp (d := 48) (v := .int .i64 nx) 13 rfl (by kernel_rfl) (by kernel_rfl) (by kernel_rfl) rfl rfl rfl he ⟨_, _, (Snap.le.refl _), hh⟩ (fun W hS => by
            obtain ⟨I32, _, hleI32, hh⟩ := hS
            refine gy rfl he rfl ?_
            refine ld rb_3 rfl (ocell hh.at0 rfl) rfl he fun a he => ?_
            exact aqe he) fun a he => ?_
        refine ahp (d := 49) (v := .bool (decide (nx ≤ x))) 14 rfl (by kernel_rfl) (by kernel_rfl) (by kernel_rfl) rfl rfl rfl he ⟨_, _, (Snap.le.refl _), hh⟩ (fun W hS => by
            refine gy rfl he rfl ?_
            refine ge rfl rfl rfl he fun a he => ?_
            exact aqe he) fun a he => ?_
        refine ahp (d := 50) (v := .bool (decide (nx ≤ x))) 15 rfl (by kernel_rfl) (by kernel_rfl) (by kernel_rfl) rfl rfl rfl he ⟨_, _, (Snap.le.refl _), hh⟩ (fun W hS => by
            refine pkf rfl rfl rfl he fun a he => ?_
            exact aqe he) fun a he => ?_
        refine ahp (d := 51) (v := .bool (decide (nx ≤ x))) 16 rfl (by kernel_rfl) (by kernel_rfl) (by kernel_rfl) rfl rfl rfl he ⟨_, _, (Snap.le.refl _), hh⟩ (fun W hS => by
            refine mv rfl rfl he fun a he => ?_
            exact aqe he) fun a he => ?_
        by_cases h33 : nx ≤ x
        · replace he := he.be (t := 51) (v' := .bool true) rfl (by rw [decide_eq_true h33])
          refine ahn 17 rfl (by kernel_rfl) (by kernel_rfl) (by kernel_rfl) rfl rfl he rfl rfl ⟨_, _, (Snap.le.refl _), hh⟩ fun a he => ?_
          refine ahn 18 rfl (by kernel_rfl) (by kernel_rfl) (by kernel_rfl) rfl rfl he rfl rfl ⟨_, _, (Snap.le.refl _), hh⟩ fun a he => ?_
          refine ahn 19 rfl (by kernel_rfl) (by kernel_rfl) (by kernel_rfl) rfl rfl he rfl rfl ⟨_, _, (Snap.le.refl _), hh⟩ fun a he => ?_
          refine ahnu 20 rfl (by kernel_rfl) (by kernel_rfl) (by kernel_rfl) rfl rfl he rfl ⟨_, _, (Snap.le.refl _), hh⟩ fun a he => ?_
          refine ahnu 21 rfl (by kernel_rfl) (by kernel_rfl) (by kernel_rfl) rfl rfl he rfl ⟨_, _, (Snap.le.refl _), hh⟩ fun a he => ?_
          refine ahnu 22 rfl (by kernel_rfl) (by kernel_rfl) (by kernel_rfl) rfl rfl he rfl ⟨_, _, (Snap.le.refl _), hh⟩ fun a he => ?_
          refine ahnu 23 rfl (by kernel_rfl) (by kernel_rfl) (by kernel_rfl) rfl rfl he rfl ⟨_, _, (Snap.le.refl _), hh⟩ fun a he => ?_
          refine ahnu 24 rfl (by kernel_rfl) (by kernel_rfl) (by kernel_rfl) rfl rfl he rfl ⟨_, _, (Snap.le.refl _), hh⟩ fun a he => ?_
          refine ahnu 25 rfl (by kernel_rfl) (by kernel_rfl) (by kernel_rfl) rfl rfl he rfl ⟨_, _, (Snap.le.refl _), hh⟩ fun a he => ?_
          refine ahnu 26 rfl (by kernel_rfl) (by kernel_rfl) (by kernel_rfl) rfl rfl he rfl ⟨_, _, (Snap.le.refl _), hh⟩ fun a he => ?_
          refine ahnu 27 rfl (by kernel_rfl) (by kernel_rfl) (by kernel_rfl) rfl rfl he rfl ⟨_, _, (Snap.le.refl _), hh⟩ fun a he => ?_
          refine ahnu 28 rfl (by kernel_rfl) (by kernel_rfl) (by kernel_rfl) rfl rfl he rfl ⟨_, _, (Snap.le.refl _), hh⟩ fun a he => ?_
          refine ahnu 29 rfl (by kernel_rfl) (by kernel_rfl) (by kernel_rfl) rfl rfl he rfl ⟨_, _, (Snap.le.refl _), hh⟩ fun a he => ?_
          refine ahnu 30 rfl (by kernel_rfl) (by kernel_rfl) (by kernel_rfl) rfl rfl he rfl ⟨_, _, (Snap.le.refl _), hh⟩ fun a he => ?_
          refine ahnu 31 rfl (by kernel_rfl) (by kernel_rfl) (by kernel_rfl) rfl rfl he rfl ⟨_, _, (Snap.le.refl _), hh⟩ fun a he => ?_
          refine ahn 32 rfl (by kernel_rfl) (by kernel_rfl) (by kernel_rfl) rfl rfl he rfl rfl ⟨_, _, (Snap.le.refl _), hh⟩ fun a he => ?_
          refine ahp (d := 68) (v := .bool true) 33 rfl (by kernel_rfl) (by kernel_rfl) (by kernel_rfl) rfl rfl rfl he ⟨_, _, (Snap.le.refl _), hh⟩ (fun W hS => by
              refine pkt rfl rfl rfl he fun a he => ?_
              exact aqe he) fun a he => ?_
          refine ahd (by kernel_rfl) ?_
          refine en ?_
          refine cnt he rfl ?_
          refine sq ?_
          refine rg ?_
          refine asg rfl rfl he fun a he => ?_
          refine en ?_
          refine rt ?_
          refine rets1 Tryd.results19 he rfl (Ret.mk ?_)
          replace hh := hh.drop
          exact ⟨I5, by rw [mayN, runs_bad hru hx (.inl (by omega))]; simp, hl6, hh⟩
        · replace he := he.be (t := 51) (v' := .bool false) rfl (by rw [decide_eq_false h33])
          refine ahp (d := 52) (v := .int .i64 ((j : Nat) : Int)) 17 rfl (by kernel_rfl) (by kernel_rfl) (by kernel_rfl) rfl rfl rfl he ⟨_, _, (Snap.le.refl _), hh⟩ (fun W hS => by
              refine gy rfl he rfl ?_
              refine mv rfl rfl he fun a he => ?_
              exact aqe he) fun a he => ?_
          refine ahp (d := 53) (v := .bool (decide ((0 : Int) < ((j : Nat) : Int)))) 18 rfl (by kernel_rfl) (by kernel_rfl) (by kernel_rfl) rfl rfl rfl he ⟨_, _, (Snap.le.refl _), hh⟩ (fun W hS => by
              refine gy rfl he rfl ?_
              refine gt rfl rfl rfl he fun a he => ?_
              exact aqe he) fun a he => ?_
          refine ahp (d := 54) (v := .bool (decide ((0 : Int) < ((j : Nat) : Int)))) 19 rfl (by kernel_rfl) (by kernel_rfl) (by kernel_rfl) rfl rfl rfl he ⟨_, _, (Snap.le.refl _), hh⟩ (fun W hS => by
              refine gy rfl he rfl ?_
              refine mv rfl rfl he fun a he => ?_
              exact aqe he) fun a he => ?_
          by_cases h34 : (0 : Int) < ((j : Nat) : Int)
          · replace he := he.be (t := 54) (v' := .bool true) rfl (by rw [decide_eq_true h34])
            replace h34 : 0 < j := by omega
            refine ahp (d := 55) (v := .pointer (some ⟨bb1, 4, none⟩)) 20 rfl (by kernel_rfl) (by kernel_rfl) (by kernel_rfl) rfl rfl rfl he ⟨_, _, (Snap.le.refl _), hh⟩ (fun W hS => by
                refine gy rfl he rfl ?_
                refine fa fo_28_4 rfl rfl he fun a he => ?_
                exact aqe he) fun a he => ?_
            refine ahp (d := 56) (v := .slice A_rs rs.length c_rs) 21 rfl (by kernel_rfl) (by kernel_rfl) (by kernel_rfl) rfl rfl rfl he ⟨_, _, (Snap.le.refl _), hh⟩ (fun W hS => by
                obtain ⟨I35, _, hleI35, hh⟩ := hS
                refine gy rfl he rfl ?_
                refine ld rb_22 rfl (ocell hh.at0 rfl) rfl he fun a he => ?_
                exact aqe he) fun a he => ?_
            refine ahp (d := 57) (v := .int .i64 ((j : Nat) : Int)) 22 rfl (by kernel_rfl) (by kernel_rfl) (by kernel_rfl) rfl rfl rfl he ⟨_, _, (Snap.le.refl _), hh⟩ (fun W hS => by
                refine gy rfl he rfl ?_
                refine mv rfl rfl he fun a he => ?_
                exact aqe he) fun a he => ?_
            refine ahp (d := 58) (v := .int .i64 (((j - 1) : Nat) : Int)) 23 rfl (by kernel_rfl) (by kernel_rfl) (by kernel_rfl) rfl rfl rfl he ⟨_, _, (Snap.le.refl _), hh⟩ (fun W hS => by
                refine gy rfl he rfl ?_
                refine su (((j - 1) : Nat) : Int) rfl rfl (w64 (by omega) (by omega)) rfl he fun a he => ?_
                exact aqe he) fun a he => ?_
            obtain ⟨y, hy⟩ := idx_some (xs := rs) (i := (j - 1)) (by omega)
            obtain ⟨bb36, oo37, eA38, hc39⟩ := (h_rs.up hl6).adr1 hy
            replace he := he.be (t := 56) (v' := .slice (some ⟨bb36, oo37, none⟩) rs.length c_rs) rfl (by rw [eA38])
            refine ahp (d := 59) (v := .pointer (some ⟨bb36, oo37 + (j - 1) * 1, none⟩)) 24 rfl (by kernel_rfl) (by kernel_rfl) (by kernel_rfl) rfl rfl rfl he ⟨_, _, (Snap.le.refl _), hh⟩ (fun W hS => by refine gy rfl he rfl ?_; refine ia ((j - 1)) ts_22 rfl rfl (List.getElem?_eq_some_iff.1 hy).1 rfl he fun a he => ?_; exact aqe he) fun a he => ?_
            refine ahp (d := 60) (v := .int .i64 y) 25 rfl (by kernel_rfl) (by kernel_rfl) (by kernel_rfl) rfl rfl rfl he ⟨_, _, (Snap.le.refl _), hh⟩ (fun W hS => by
                obtain ⟨I40, _, hleI40, hh⟩ := hS
                refine gy rfl he rfl ?_
                refine ld rb_3 rfl (hc39 _ _ _ hleI40 hh) rfl he fun a he => ?_
                exact aqe he) fun a he => ?_
            refine ahp (d := 61) (v := .pointer (some ⟨bb1, 4, none⟩)) 26 rfl (by kernel_rfl) (by kernel_rfl) (by kernel_rfl) rfl rfl rfl he ⟨_, _, (Snap.le.refl _), hh⟩ (fun W hS => by
                refine gy rfl he rfl ?_
                refine fa fo_28_4 rfl rfl he fun a he => ?_
                exact aqe he) fun a he => ?_
            refine ahp (d := 62) (v := .slice A_rs rs.length c_rs) 27 rfl (by kernel_rfl) (by kernel_rfl) (by kernel_rfl) rfl rfl rfl he ⟨_, _, (Snap.le.refl _), hh⟩ (fun W hS => by
                obtain ⟨I41, _, hleI41, hh⟩ := hS
                refine gy rfl he rfl ?_
                refine ld rb_22 rfl (ocell hh.at0 rfl) rfl he fun a he => ?_
                exact aqe he) fun a he => ?_
            refine ahp (d := 63) (v := .int .i64 ((j : Nat) : Int)) 28 rfl (by kernel_rfl) (by kernel_rfl) (by kernel_rfl) rfl rfl rfl he ⟨_, _, (Snap.le.refl _), hh⟩ (fun W hS => by
                refine gy rfl he rfl ?_
                refine mv rfl rfl he fun a he => ?_
                exact aqe he) fun a he => ?_
            obtain ⟨bb42, oo43, eA44, hc45⟩ := (h_rs.up hl6).adr1 hx
            replace he := he.be (t := 62) (v' := .slice (some ⟨bb42, oo43, none⟩) rs.length c_rs) rfl (by rw [eA44])
            refine ahp (d := 64) (v := .pointer (some ⟨bb42, oo43 + j * 1, none⟩)) 29 rfl (by kernel_rfl) (by kernel_rfl) (by kernel_rfl) rfl rfl rfl he ⟨_, _, (Snap.le.refl _), hh⟩ (fun W hS => by refine gy rfl he rfl ?_; refine ia (j) ts_22 rfl rfl (List.getElem?_eq_some_iff.1 hx).1 rfl he fun a he => ?_; exact aqe he) fun a he => ?_
            refine ahp (d := 65) (v := .int .i64 x) 30 rfl (by kernel_rfl) (by kernel_rfl) (by kernel_rfl) rfl rfl rfl he ⟨_, _, (Snap.le.refl _), hh⟩ (fun W hS => by
                obtain ⟨I46, _, hleI46, hh⟩ := hS
                refine gy rfl he rfl ?_
                refine ld rb_3 rfl (hc45 _ _ _ hleI46 hh) rfl he fun a he => ?_
                exact aqe he) fun a he => ?_
            refine ahp (d := 66) (v := .bool (decide (x ≤ y))) 31 rfl (by kernel_rfl) (by kernel_rfl) (by kernel_rfl) rfl rfl rfl he ⟨_, _, (Snap.le.refl _), hh⟩ (fun W hS => by
                refine gy rfl he rfl ?_
                refine ge rfl rfl rfl he fun a he => ?_
                exact aqe he) fun a he => ?_
            refine ahp (d := 67) (v := .bool (decide (x ≤ y))) 32 rfl (by kernel_rfl) (by kernel_rfl) (by kernel_rfl) rfl rfl rfl he ⟨_, _, (Snap.le.refl _), hh⟩ (fun W hS => by
                refine gy rfl he rfl ?_
                refine pkt rfl rfl rfl he fun a he => ?_
                exact aqe he) fun a he => ?_
            refine ahp (d := 68) (v := .bool (decide (x ≤ y))) 33 rfl (by kernel_rfl) (by kernel_rfl) (by kernel_rfl) rfl rfl rfl he ⟨_, _, (Snap.le.refl _), hh⟩ (fun W hS => by
                refine pkf rfl rfl rfl he fun a he => ?_
                exact aqe he) fun a he => ?_
            refine ahd (by kernel_rfl) ?_
            refine en ?_
            refine cnd he rfl (fun h47 => ?_) (fun h47 => ?_)
            · refine sq ?_
              refine rg ?_
              refine asg rfl rfl he fun a he => ?_
              refine en ?_
              refine rt ?_
              refine rets1 Tryd.results19 he rfl (Ret.mk ?_)
              replace hh := hh.drop
              exact ⟨I5, by rw [mayN, runs_bad hru hx (.inr ⟨by omega, y, hy, by omega⟩)]; simp, hl6, hh⟩
            · refine sk ?_
              refine nm_blk ?_
              refine nm_then ?_
              refine rg ?_
              refine mv rfl rfl he fun a he => ?_
              refine ad (((j + 1) : Nat) : Int) rfl rfl (w64 (by omega) (by omega)) rfl he fun a he => ?_
              refine asg rfl rfl he fun a he => ?_
              refine en ?_
              exact ⟨j + 1, ⟨he.keep [0, 1, 5] rfl, hh, by omega, runs_next hru hx (by omega) (by omega) (.inr ⟨y, hy, by omega⟩)⟩, by show rs.length - (j + 1) < rs.length - j; omega⟩
          · replace he := he.be (t := 54) (v' := .bool false) rfl (by rw [decide_eq_false h34])
            replace h34 : ¬ (0 < j) := by omega
            refine ahn 20 rfl (by kernel_rfl) (by kernel_rfl) (by kernel_rfl) rfl rfl he rfl rfl ⟨_, _, (Snap.le.refl _), hh⟩ fun a he => ?_
            refine ahn 21 rfl (by kernel_rfl) (by kernel_rfl) (by kernel_rfl) rfl rfl he rfl rfl ⟨_, _, (Snap.le.refl _), hh⟩ fun a he => ?_
            refine ahn 22 rfl (by kernel_rfl) (by kernel_rfl) (by kernel_rfl) rfl rfl he rfl rfl ⟨_, _, (Snap.le.refl _), hh⟩ fun a he => ?_
            refine ahn 23 rfl (by kernel_rfl) (by kernel_rfl) (by kernel_rfl) rfl rfl he rfl rfl ⟨_, _, (Snap.le.refl _), hh⟩ fun a he => ?_
            refine ahn 24 rfl (by kernel_rfl) (by kernel_rfl) (by kernel_rfl) rfl rfl he rfl rfl ⟨_, _, (Snap.le.refl _), hh⟩ fun a he => ?_
            refine ahn 25 rfl (by kernel_rfl) (by kernel_rfl) (by kernel_rfl) rfl rfl he rfl rfl ⟨_, _, (Snap.le.refl _), hh⟩ fun a he => ?_
            refine ahn 26 rfl (by kernel_rfl) (by kernel_rfl) (by kernel_rfl) rfl rfl he rfl rfl ⟨_, _, (Snap.le.refl _), hh⟩ fun a he => ?_
            refine ahn 27 rfl (by kernel_rfl) (by kernel_rfl) (by kernel_rfl) rfl rfl he rfl rfl ⟨_, _, (Snap.le.refl _), hh⟩ fun a he => ?_
            refine ahn 28 rfl (by kernel_rfl) (by kernel_rfl) (by kernel_rfl) rfl rfl he rfl rfl ⟨_, _, (Snap.le.refl _), hh⟩ fun a he => ?_
            refine ahn 29 rfl (by kernel_rfl) (by kernel_rfl) (by kernel_rfl) rfl rfl he rfl rfl ⟨_, _, (Snap.le.refl _), hh⟩ fun a he => ?_
            refine ahn 30 rfl (by kernel_rfl) (by kernel_rfl) (by kernel_rfl) rfl rfl he rfl rfl ⟨_, _, (Snap.le.refl _), hh⟩ fun a he => ?_
            refine ahn 31 rfl (by kernel_rfl) (by kernel_rfl) (by kernel_rfl) rfl rfl he rfl rfl ⟨_, _, (Snap.le.refl _), hh⟩ fun a he => ?_
            refine ahp (d := 67) (v := .bool false) 32 rfl (by kernel_rfl) (by kernel_rfl) (by kernel_rfl) rfl rfl rfl he ⟨_, _, (Snap.le.refl _), hh⟩ (fun W hS => by
                refine gy rfl he rfl ?_
                refine pkf rfl rfl rfl he fun a he => ?_
                exact aqe he) fun a he => ?_
            refine ahp (d := 68) (v := .bool false) 33 rfl (by kernel_rfl) (by kernel_rfl) (by kernel_rfl) rfl rfl rfl he ⟨_, _, (Snap.le.refl _), hh⟩ (fun W hS => by
                refine pkf rfl rfl rfl he fun a he => ?_
                exact aqe he) fun a he => ?_
            refine ahd (by kernel_rfl) ?_
            refine en ?_
            refine cnf he rfl ?_
            refine sk ?_
            refine nm_blk ?_
            refine nm_then ?_
            refine rg ?_
            refine mv rfl rfl he fun a he => ?_
            refine ad (((j + 1) : Nat) : Int) rfl rfl (w64 (by omega) (by omega)) rfl he fun a he => ?_
            refine asg rfl rfl he fun a he => ?_
            refine en ?_
            exact ⟨j + 1, ⟨he.keep [0, 1, 5] rfl, hh, by omega, runs_next hru hx (by omega) (by omega) (.inl (by omega))⟩, by show rs.length - (j + 1) < rs.length - j; omega⟩
    · replace h18 : ¬ (j < rs.length) := by omega
      refine ext ?_
      refine ex_then ?_
      refine ex_then ?_
      refine ex_in ?_
      refine nm_then ?_
      refine sq ?_
      refine rg ?_
      refine fa fo_28_5 rfl rfl he fun a he => ?_
      refine ldA [.slice A_pd pd.length c_pd, .slice A_wd wd.length c_wd, .bool mk, .bool lg] rb_26 ti_26 rfl ((Rd.obj hh.at0 5).take 4) rfl rfl he fun a he => ?_
      refine cal cb_38 rfl (ref07_Put _ _ _ A_pd c_pd pd A_wd c_wd wd mk lg hh (h_pd.up hl6) k_pd (h_wd.up hl6) k_wd hb hb2 hc) rfl he fun v a W hp he => ?_
      obtain ⟨I48, A50, cc51, rfl, hl49, hh⟩ := hp
      have hc56 := (Ch.rowcap hh.at0).1
      obtain ⟨I53, hl54, hh, hf55⟩ := hh.freezeRow
      refine cal cb_35 rfl (ref07_Get _ _ _ A50 cc51 (tokPut pd wd mk lg) hh hf55 hc56 (by have := tokPut_len (pd := pd) (wd := wd) mk lg (by omega) (by omega) hc; omega)) rfl he fun v a W hp he => ?_
      obtain ⟨I57, A59, cc60, A61, cc62, rfl, hl58, hf63, hc64, hf65, hc66, hh⟩ := hp
      refine mv rfl rfl he fun a he => ?_
      refine xt rfl rfl rfl he fun a he => ?_
      refine xt rfl rfl rfl he fun a he => ?_
      refine al ti_26 rfl he hh fun bb67 a W he hh => ?_
      replace hh : Hp I57 (.obj bb67 (.cells [.slice none 0 0, .slice none 0 0, .bool false, .bool false].toArray 26) :: _) W := hh
      refine st #[.slice A59 (((refGet (tokPut pd wd mk lg)).pd).length) cc60, .slice A61 (((refGet (tokPut pd wd mk lg)).wd).length) cc62, .bool ((refGet (tokPut pd wd mk lg)).mrk), .bool ((refGet (tokPut pd wd mk lg)).lg)] ti_26 rfl rfl rfl rfl (by simp [Value.oneCell']) (by simp) he hh fun W hh => ?_
      replace hh : Hp I57 (.obj bb67 (.cells [.slice A59 (((refGet (tokPut pd wd mk lg)).pd).length) cc60, .slice A61 (((refGet (tokPut pd wd mk lg)).wd).length) cc62, .bool ((refGet (tokPut pd wd mk lg)).mrk), .bool ((refGet (tokPut pd wd mk lg)).lg)].toArray 26) :: _) W := hh
      refine asg rfl rfl he fun a he => ?_
      refine en ?_
      refine sq ?_
      have hrt := ref_tok (tokPut pd wd mk lg)
      refine rg ?_
      refine fa fo_28_0 rfl rfl he fun a he => ?_
      refine ld rb_3 rfl (ocell hh.at1 rfl) rfl he fun a he => ?_
      refine lt rfl rfl rfl he fun a he => ?_
      refine mv rfl rfl he fun a he => ?_
      refine sd he (t := 79) rfl (fun h68 he => ?_) (fun h68 he => ?_)
      · refine gy rfl he rfl ?_
        refine fa fo_28_4 rfl rfl he fun a he => ?_
        refine gy rfl he rfl ?_
        refine ld rb_22 rfl (ocell hh.at1 rfl) rfl he fun a he => ?_
        refine gy rfl he rfl ?_
        refine ln Tryd.underlying22 rfl rfl he fun a he => ?_
        refine gy rfl he rfl ?_
        refine le rfl rfl rfl he fun a he => ?_
        refine pkt rfl rfl rfl he fun a he => ?_
        refine mv rfl rfl he fun a he => ?_
        refine sd he (t := 85) rfl (fun h69 he => ?_) (fun h69 he => ?_)
        · replace h69 : rs.length ≤ 10000 := by omega
          refine gy rfl he rfl ?_
          refine mv rfl rfl he fun a he => ?_
          refine gy rfl he rfl ?_
          refine eq rfl rfl rfl he fun a he => ?_
          refine pkt rfl rfl rfl he fun a he => ?_
          refine mv rfl rfl he fun a he => ?_
          refine sd he (t := 89) rfl (fun h70 he => ?_) (fun h70 he => ?_)
          · refine gy rfl he rfl ?_
            refine ldA [.slice A59 (((refGet (tokPut pd wd mk lg)).pd).length) cc60, .slice A61 (((refGet (tokPut pd wd mk lg)).wd).length) cc62, .bool ((refGet (tokPut pd wd mk lg)).mrk), .bool ((refGet (tokPut pd wd mk lg)).lg)] rb_26 ti_26 rfl ((Rd.obj hh.at0 0).take 4) rfl rfl he fun a he => ?_
            refine gy rfl he rfl ?_
            refine fa fo_28_5 rfl rfl he fun a he => ?_
            refine gy rfl he rfl ?_
            refine ldA [.slice A_pd pd.length c_pd, .slice A_wd wd.length c_wd, .bool mk, .bool lg] rb_26 ti_26 rfl ((Rd.obj hh.at1 5).take 4) rfl rfl he fun a he => ?_
            refine gy rfl he rfl ?_
            refine cal cb_32 rfl (ref07_Same _ _ _ A59 cc60 ((refGet (tokPut pd wd mk lg)).pd) A61 cc62 ((refGet (tokPut pd wd mk lg)).wd) ((refGet (tokPut pd wd mk lg)).mrk) ((refGet (tokPut pd wd mk lg)).lg) A_pd c_pd pd A_wd c_wd wd mk lg hh hf63 hc64 hf65 hc66 (h_pd.up (((hl6.trans hl49).trans hl54).trans hl58)) k_pd (h_wd.up (((hl6.trans hl49).trans hl54).trans hl58)) k_wd (by have := tokGet_wd (tokPut pd wd mk lg); rw [ref_tok]; omega)) rfl he fun v a W hp he => ?_
            obtain ⟨rfl, hh⟩ := hp
            refine pkt rfl rfl rfl he fun a he => ?_
            refine asg rfl rfl he fun a he => ?_
            refine en ?_
            refine rt ?_
            refine rets1 Tryd.results19 he rfl (Ret.mk ?_)
            have hall : (fours ph fl of_ nx).all in40 = true := by
              have := hinv
              rw [List.take_of_length_le (show (fours ph fl of_ nx).length ≤ i by omega)] at this; exact this
            have hrr := runs_end hru (by omega)
            replace hh := hh.drop
            replace hh := hh.drop
            exact ⟨I57, by rw [mayN, hall, hrr, soundN, ← hrt, show decide (ph ≤ 2) = decide (ph < 3) from decide_eq_decide.2 (by omega)]; clear hrt; simp [*], (((hl6.trans hl49).trans hl54).trans hl58), hh⟩
          · refine gn rfl rfl he rfl rfl fun a he => ?_
            refine gn rfl rfl he rfl rfl fun a he => ?_
            refine gn rfl rfl he rfl rfl fun a he => ?_
            refine gn rfl rfl he rfl rfl fun a he => ?_
            refine pkf rfl rfl rfl he fun a he => ?_
            refine asg rfl rfl he fun a he => ?_
            refine en ?_
            refine rt ?_
            refine rets1 Tryd.results19 he rfl (Ret.mk ?_)
            have hall : (fours ph fl of_ nx).all in40 = true := by
              have := hinv
              rw [List.take_of_length_le (show (fours ph fl of_ nx).length ≤ i by omega)] at this; exact this
            have hrr := runs_end hru (by omega)
            replace hh := hh.drop
            replace hh := hh.drop
            exact ⟨I57, by rw [mayN, hall, hrr, soundN, ← hrt, show decide (ph ≤ 2) = decide (ph < 3) from decide_eq_decide.2 (by omega)]; clear hrt; simp [*], (((hl6.trans hl49).trans hl54).trans hl58), hh⟩
        · replace h69 : ¬ (rs.length ≤ 10000) := by omega
          refine gn rfl rfl he rfl rfl fun a he => ?_
          refine gn rfl rfl he rfl rfl fun a he => ?_
          refine pkf rfl rfl rfl he fun a he => ?_
          refine mv rfl rfl he fun a he => ?_
          refine gn rfl rfl he rfl rfl fun a he => ?_
          refine gn rfl rfl he rfl rfl fun a he => ?_
          refine gn rfl rfl he rfl rfl fun a he => ?_
          refine gn rfl rfl he rfl rfl fun a he => ?_
          refine pkf rfl rfl rfl he fun a he => ?_
          refine asg rfl rfl he fun a he => ?_
          refine en ?_
          refine rt ?_
          refine rets1 Tryd.results19 he rfl (Ret.mk ?_)
          have hall : (fours ph fl of_ nx).all in40 = true := by
            have := hinv
            rw [List.take_of_length_le (show (fours ph fl of_ nx).length ≤ i by omega)] at this; exact this
          have hrr := runs_end hru (by omega)
          replace hh := hh.drop
          replace hh := hh.drop
          exact ⟨I57, by rw [mayN, hall, hrr, soundN, ← hrt, show decide (ph ≤ 2) = decide (ph < 3) from decide_eq_decide.2 (by omega)]; clear hrt; simp [*], (((hl6.trans hl49).trans hl54).trans hl58), hh⟩
      · refine gn rfl rfl he rfl rfl fun a he => ?_
        refine gn rfl rfl he rfl rfl fun a he => ?_
        refine gn rfl rfl he rfl rfl fun a he => ?_
        refine gn rfl rfl he rfl rfl fun a he => ?_
        refine pkf rfl rfl rfl he fun a he => ?_
        refine mv rfl rfl he fun a he => ?_
        refine gn rfl rfl he rfl rfl fun a he => ?_
        refine gn rfl rfl he rfl rfl fun a he => ?_
        refine pkf rfl rfl rfl he fun a he => ?_
        refine mv rfl rfl he fun a he => ?_
        refine gn rfl rfl he rfl rfl fun a he => ?_
        refine gn rfl rfl he rfl rfl fun a he => ?_
        refine gn rfl rfl he rfl rfl fun a he => ?_
        refine gn rfl rfl he rfl rfl fun a he => ?_
        refine pkf rfl rfl rfl he fun a he => ?_
        refine asg rfl rfl he fun a he => ?_
        refine en ?_
        refine rt ?_
        refine rets1 Tryd.results19 he rfl (Ret.mk ?_)
        have hall : (fours ph fl of_ nx).all in40 = true := by
          have := hinv
          rw [List.take_of_length_le (show (fours ph fl of_ nx).length ≤ i by omega)] at this; exact this
        have hrr := runs_end hru (by omega)
        replace hh := hh.drop
        replace hh := hh.drop
        exact ⟨I57, by rw [mayN, hall, hrr, soundN, ← hrt, show decide (ph ≤ 2) = decide (ph < 3) from decide_eq_decide.2 (by omega)]; clear hrt; simp [*], (((hl6.trans hl49).trans hl54).trans hl58), hh⟩

theorem ref22_Same (I : Snap) (L : List Ch) (W : World) (ph : Int) (fl : Int) (of_ : Int) (nx : Int) (A_rs : Option Addr) (c_rs : Nat) (rs : List Int) (A_pd : Option Addr) (c_pd : Nat) (pd : List UInt8) (A_wd : Option Addr) (c_wd : Nat) (wd : List Int) (mk : Bool) (lg : Bool) (ph2 : Int) (fl2 : Int) (of2 : Int) (nx2 : Int) (A_rs2 : Option Addr) (c_rs2 : Nat) (rs2 : List Int) (A_pd2 : Option Addr) (c_pd2 : Nat) (pd2 : List UInt8) (A_wd2 : Option Addr) (c_wd2 : Nat) (wd2 : List Int) (mk2 : Bool) (lg2 : Bool) (hh : Hp I L W) (h_rs : Fz I A_rs (rs.map i64v)) (k_rs : rs.length ≤ c_rs) (h_pd : Fz I A_pd (pd.map b8)) (k_pd : pd.length ≤ c_pd) (h_wd : Fz I A_wd (wd.map r32)) (k_wd : wd.length ≤ c_wd) (h_rs2 : Fz I A_rs2 (rs2.map i64v)) (k_rs2 : rs2.length ≤ c_rs2) (h_pd2 : Fz I A_pd2 (pd2.map b8)) (k_pd2 : pd2.length ≤ c_pd2) (h_wd2 : Fz I A_wd2 (wd2.map r32)) (k_wd2 : wd2.length ≤ c_wd2) (hrl : rs.length ≤ 1000000000) (hb : wd.length ≤ 1000000000000) :
    Calls Tryd.prog 14 #[.agg #[.int .i64 ph, .int .i64 fl, .int .i64 of_, .int .i64 nx, .slice A_rs rs.length c_rs, .slice A_pd pd.length c_pd, .slice A_wd wd.length c_wd, .bool mk, .bool lg], .agg #[.int .i64 ph2, .int .i64 fl2, .int .i64 of2, .int .i64 nx2, .slice A_rs2 rs2.length c_rs2, .slice A_pd2 pd2.length c_pd2, .slice A_wd2 wd2.length c_wd2, .bool mk2, .bool lg2]] W (Ret fun v W => v = .bool (decide (rs = rs2) && (decide (ph = ph2) && (decide (fl = fl2) && (decide (of_ = of2) && (decide (nx = nx2) && (decide (pd = pd2) && (decide (wd = wd2) && ((mk == mk2) && (lg == lg2))))))))) ∧ Hp I (L) W) := by
  refine enter Tryd.func14 rfl Tryd.ntmps14 rfl fun a he => ?_
  refine sq ?_
  refine rg ?_
  refine bx #[.int .i64 ph, .int .i64 fl, .int .i64 of_, .int .i64 nx, .slice A_rs rs.length c_rs, .slice A_pd pd.length c_pd, .slice A_wd wd.length c_wd, .bool mk, .bool lg] rfl rfl rfl he hh fun bb1 a W he hh => ?_
  replace hh : Hp I (.obj bb1 (.cells [.int .i64 ph, .int .i64 fl, .int .i64 of_, .int .i64 nx, .slice A_rs rs.length c_rs, .slice A_pd pd.length c_pd, .slice A_wd wd.length c_wd, .bool mk, .bool lg].toArray 28) :: _) W := hh
  refine bx #[.int .i64 ph2, .int .i64 fl2, .int .i64 of2, .int .i64 nx2, .slice A_rs2 rs2.length c_rs2, .slice A_pd2 pd2.length c_pd2, .slice A_wd2 wd2.length c_wd2, .bool mk2, .bool lg2] rfl rfl rfl he hh fun bb2 a W he hh => ?_
  replace hh : Hp I (.obj bb2 (.cells [.int .i64 ph2, .int .i64 fl2, .int .i64 of2, .int .i64 nx2, .slice A_rs2 rs2.length c_rs2, .slice A_pd2 pd2.length c_pd2, .slice A_wd2 wd2.length c_wd2, .bool mk2, .bool lg2].toArray 28) :: _) W := hh
  refine asg rfl rfl he fun a he => ?_
  refine en ?_
  refine sq ?_
  refine sq ?_
  refine rg ?_
  refine fa fo_28_4 rfl rfl he fun a he => ?_
  refine ld rb_22 rfl (ocell hh.at1 rfl) rfl he fun a he => ?_
  refine ln Tryd.underlying22 rfl rfl he fun a he => ?_
  refine fa fo_28_4 rfl rfl he fun a he => ?_
  refine ld rb_22 rfl (ocell hh.at0 rfl) rfl he fun a he => ?_
  refine ln Tryd.underlying22 rfl rfl he fun a he => ?_
  refine ne rfl rfl rfl he fun a he => ?_
  refine en ?_
  refine cnd he rfl (fun h12 => ?_) (fun h12 => ?_)
  · replace h12 : rs.length ≠ rs2.length := by omega
    replace h12 : rs.length ≠ rs2.length := by omega
    refine sq ?_
    refine rg ?_
    refine asg rfl rfl he fun a he => ?_
    refine en ?_
    refine rt ?_
    refine rets1 Tryd.results14 he rfl (Ret.mk ?_)
    replace hh := hh.drop
    replace hh := hh.drop
    exact ⟨by rw [decide_eq_false (fun e : rs = rs2 => h12 (by rw [e])), Bool.false_and], hh⟩
  · replace h12 : ¬ (rs.length ≠ rs2.length) := by omega
    replace h12 : rs.length = rs2.length := by omega
    refine sk ?_
    refine nm_then ?_
    refine sq ?_
    refine sq ?_
    refine rg ?_
    refine asg rfl rfl he fun a he => ?_
    refine en ?_
    refine bk ?_
    replace hh := hh.up1
    replace hh := hh.up1
    refine lp (fun (i : Nat) a w => Env 64 [(0, .agg #[.int .i64 ph, .int .i64 fl, .int .i64 of_, .int .i64 nx, .slice A_rs rs.length c_rs, .slice A_pd pd.length c_pd, .slice A_wd wd.length c_wd, .bool mk, .bool lg]), (1, .agg #[.int .i64 ph2, .int .i64 fl2, .int .i64 of2, .int .i64 nx2, .slice A_rs2 rs2.length c_rs2, .slice A_pd2 pd2.length c_pd2, .slice A_wd2 wd2.length c_wd2, .bool mk2, .bool lg2]), (2, .pointer (some ⟨bb1, 0, none⟩)), (3, .pointer (some ⟨bb2, 0, none⟩)), (5, .int .i64 ((i : Nat) : Int))] a ∧ Hp I (.obj bb2 (.cells ([.int .i64 ph2, .int .i64 fl2, .int .i64 of2, .int .i64 nx2, .slice A_rs2 rs2.length c_rs2, .slice A_pd2 pd2.length c_pd2, .slice A_wd2 wd2.length c_wd2, .bool mk2, .bool lg2]).toArray 28) :: .obj bb1 (.cells ([.int .i64 ph, .int .i64 fl, .int .i64 of_, .int .i64 nx, .slice A_rs rs.length c_rs, .slice A_pd pd.length c_pd, .slice A_wd wd.length c_wd, .bool mk, .bool lg]).toArray 28) :: L) w ∧ i ≤ rs.length ∧ ((∀ j, j < i → rs[j]? = rs2[j]?)))
        (fun i => rs.length - i) 0 ⟨he.keep [0, 1, 2, 3, 5] rfl, hh, Nat.zero_le _, fun j hj => absurd hj (Nat.not_lt_zero _)⟩ fun i a W hinv => ?_
    obtain ⟨he, hh, hi, hs⟩ := hinv
    refine sq ?_
    refine sq ?_
    refine rg ?_
    refine mv rfl rfl he fun a he => ?_
    refine fa fo_28_4 rfl rfl he fun a he => ?_
    refine ld rb_22 rfl (ocell hh.at1 rfl) rfl he fun a he => ?_
    refine ln Tryd.underlying22 rfl rfl he fun a he => ?_
    refine lt rfl rfl rfl he fun a he => ?_
    refine en ?_
    refine cnd he rfl (fun h3 => ?_) (fun h3 => ?_)
    · replace h3 : i < rs.length := by omega
      refine sk ?_
      refine nm_then ?_
      refine sq ?_
      refine bk ?_
      refine sq ?_
      refine rgd (SH I [.obj bb2 (.cells ([.int .i64 ph2, .int .i64 fl2, .int .i64 of2, .int .i64 nx2, .slice A_rs2 rs2.length c_rs2, .slice A_pd2 pd2.length c_pd2, .slice A_wd2 wd2.length c_wd2, .bool mk2, .bool lg2]).toArray 28), .obj bb1 (.cells ([.int .i64 ph, .int .i64 fl, .int .i64 of_, .int .i64 nx, .slice A_rs rs.length c_rs, .slice A_pd pd.length c_pd, .slice A_wd wd.length c_wd, .bool mk, .bool lg]).toArray 28)]) 11 mixo rfl hh fun W hh => ?_
      refine ahp (d := 20) (v := .pointer (some ⟨bb1, 4, none⟩)) 0 rfl (by kernel_rfl) (by kernel_rfl) (by kernel_rfl) rfl rfl rfl he ⟨_, _, (Snap.le.refl _), hh⟩ (fun W hS => by
          refine fa fo_28_4 rfl rfl he fun a he => ?_
          exact aqe he) fun a he => ?_
      refine ahp (d := 21) (v := .slice A_rs rs.length c_rs) 1 rfl (by kernel_rfl) (by kernel_rfl) (by kernel_rfl) rfl rfl rfl he ⟨_, _, (Snap.le.refl _), hh⟩ (fun W hS => by
          obtain ⟨I4, _, hleI4, hh⟩ := hS
          refine ld rb_22 rfl (ocell hh.at1 rfl) rfl he fun a he => ?_
          exact aqe he) fun a he => ?_
      refine ahp (d := 22) (v := .int .i64 ((i : Nat) : Int)) 2 rfl (by kernel_rfl) (by kernel_rfl) (by kernel_rfl) rfl rfl rfl he ⟨_, _, (Snap.le.refl _), hh⟩ (fun W hS => by
          refine mv rfl rfl he fun a he => ?_
          exact aqe he) fun a he => ?_
      obtain ⟨x, hx⟩ := idx_some (xs := rs) (i := i) (by omega)
      obtain ⟨bb5, oo6, eA7, hc8⟩ := h_rs.adr1 hx
      replace he := he.be (t := 21) (v' := .slice (some ⟨bb5, oo6, none⟩) rs.length c_rs) rfl (by rw [eA7])
      refine ahp (d := 23) (v := .pointer (some ⟨bb5, oo6 + i * 1, none⟩)) 3 rfl (by kernel_rfl) (by kernel_rfl) (by kernel_rfl) rfl rfl rfl he ⟨_, _, (Snap.le.refl _), hh⟩ (fun W hS => by refine ia (i) ts_22 rfl rfl (List.getElem?_eq_some_iff.1 hx).1 rfl he fun a he => ?_; exact aqe he) fun a he => ?_
      refine ahp (d := 24) (v := .int .i64 x) 4 rfl (by kernel_rfl) (by kernel_rfl) (by kernel_rfl) rfl rfl rfl he ⟨_, _, (Snap.le.refl _), hh⟩ (fun W hS => by
          obtain ⟨I9, _, hleI9, hh⟩ := hS
          refine ld rb_3 rfl (hc8 _ _ _ hleI9 hh) rfl he fun a he => ?_
          exact aqe he) fun a he => ?_
      refine ahp (d := 25) (v := .pointer (some ⟨bb2, 4, none⟩)) 5 rfl (by kernel_rfl) (by kernel_rfl) (by kernel_rfl) rfl rfl rfl he ⟨_, _, (Snap.le.refl _), hh⟩ (fun W hS => by
          refine fa fo_28_4 rfl rfl he fun a he => ?_
          exact aqe he) fun a he => ?_
      refine ahp (d := 26) (v := .slice A_rs2 rs2.length c_rs2) 6 rfl (by kernel_rfl) (by kernel_rfl) (by kernel_rfl) rfl rfl rfl he ⟨_, _, (Snap.le.refl _), hh⟩ (fun W hS => by
          obtain ⟨I10, _, hleI10, hh⟩ := hS
          refine ld rb_22 rfl (ocell hh.at0 rfl) rfl he fun a he => ?_
          exact aqe he) fun a he => ?_
      refine ahp (d := 27) (v := .int .i64 ((i : Nat) : Int)) 7 rfl (by kernel_rfl) (by kernel_rfl) (by kernel_rfl) rfl rfl rfl he ⟨_, _, (Snap.le.refl _), hh⟩ (fun W hS => by
          refine mv rfl rfl he fun a he => ?_
          exact aqe he) fun a he => ?_
      obtain ⟨y, hy⟩ := idx_some (xs := rs2) (i := i) (by omega)
      obtain ⟨bb11, oo12, eA13, hc14⟩ := h_rs2.adr1 hy
      replace he := he.be (t := 26) (v' := .slice (some ⟨bb11, oo12, none⟩) rs2.length c_rs2) rfl (by rw [eA13])
      refine ahp (d := 28) (v := .pointer (some ⟨bb11, oo12 + i * 1, none⟩)) 8 rfl (by kernel_rfl) (by kernel_rfl) (by kernel_rfl) rfl rfl rfl he ⟨_, _, (Snap.le.refl _), hh⟩ (fun W hS => by refine ia (i) ts_22 rfl rfl (List.getElem?_eq_some_iff.1 hy).1 rfl he fun a he => ?_; exact aqe he) fun a he => ?_
      refine ahp (d := 29) (v := .int .i64 y) 9 rfl (by kernel_rfl) (by kernel_rfl) (by kernel_rfl) rfl rfl rfl he ⟨_, _, (Snap.le.refl _), hh⟩ (fun W hS => by
          obtain ⟨I15, _, hleI15, hh⟩ := hS
          refine ld rb_3 rfl (hc14 _ _ _ hleI15 hh) rfl he fun a he => ?_
          exact aqe he) fun a he => ?_
      refine ahp (d := 30) (v := .bool (decide (x ≠ y))) 10 rfl (by kernel_rfl) (by kernel_rfl) (by kernel_rfl) rfl rfl rfl he ⟨_, _, (Snap.le.refl _), hh⟩ (fun W hS => by
          refine ne rfl rfl rfl he fun a he => ?_
          exact aqe he) fun a he => ?_
      refine ahd (by kernel_rfl) ?_
      refine en ?_
      refine cnd he rfl (fun h30 => ?_) (fun h30 => ?_)
      · refine sq ?_
        refine rg ?_
        refine asg rfl rfl he fun a he => ?_
        refine en ?_
        refine rt ?_
        refine rets1 Tryd.results14 he rfl (Ret.mk ?_)
        replace hh := hh.drop
        replace hh := hh.drop
        exact ⟨by rw [decide_eq_false (same_not hx hy h30), Bool.false_and], hh⟩
      · refine sk ?_
        refine nm_blk ?_
        refine nm_then ?_
        refine rg ?_
        refine mv rfl rfl he fun a he => ?_
        refine ad (((i + 1) : Nat) : Int) rfl rfl (w64 (by omega) (by omega)) rfl he fun a he => ?_
        refine asg rfl rfl he fun a he => ?_
        refine en ?_
        replace hh := hh.up1
        replace hh := hh.up1
        exact ⟨i + 1, ⟨he.keep [0, 1, 2, 3, 5] rfl, hh, by omega, same_next hs hx hy (by omega)⟩, by show rs.length - (i + 1) < rs.length - i; omega⟩
    · replace h3 : ¬ (i < rs.length) := by omega
      refine ext ?_
      refine ex_then ?_
      refine ex_then ?_
      refine ex_in ?_
      refine nm_then ?_
      refine sq ?_
      refine rg ?_
      refine fa fo_28_0 rfl rfl he fun a he => ?_
      refine ld rb_3 rfl (ocell hh.at1 rfl) rfl he fun a he => ?_
      refine fa fo_28_0 rfl rfl he fun a he => ?_
      refine ld rb_3 rfl (ocell hh.at0 rfl) rfl he fun a he => ?_
      refine eq rfl rfl rfl he fun a he => ?_
      refine mv rfl rfl he fun a he => ?_
      refine sd he (t := 36) rfl (fun h16 he => ?_) (fun h16 he => ?_)
      · refine gy rfl he rfl ?_
        refine fa fo_28_1 rfl rfl he fun a he => ?_
        refine gy rfl he rfl ?_
        refine ld rb_3 rfl (ocell hh.at1 rfl) rfl he fun a he => ?_
        refine gy rfl he rfl ?_
        refine fa fo_28_1 rfl rfl he fun a he => ?_
        refine gy rfl he rfl ?_
        refine ld rb_3 rfl (ocell hh.at0 rfl) rfl he fun a he => ?_
        refine gy rfl he rfl ?_
        refine eq rfl rfl rfl he fun a he => ?_
        refine pkt rfl rfl rfl he fun a he => ?_
        refine mv rfl rfl he fun a he => ?_
        refine sd he (t := 43) rfl (fun h17 he => ?_) (fun h17 he => ?_)
        · refine gy rfl he rfl ?_
          refine fa fo_28_2 rfl rfl he fun a he => ?_
          refine gy rfl he rfl ?_
          refine ld rb_3 rfl (ocell hh.at1 rfl) rfl he fun a he => ?_
          refine gy rfl he rfl ?_
          refine fa fo_28_2 rfl rfl he fun a he => ?_
          refine gy rfl he rfl ?_
          refine ld rb_3 rfl (ocell hh.at0 rfl) rfl he fun a he => ?_
          refine gy rfl he rfl ?_
          refine eq rfl rfl rfl he fun a he => ?_
          refine pkt rfl rfl rfl he fun a he => ?_
          refine mv rfl rfl he fun a he => ?_
          refine sd he (t := 50) rfl (fun h18 he => ?_) (fun h18 he => ?_)
          · refine gy rfl he rfl ?_
            refine fa fo_28_3 rfl rfl he fun a he => ?_
            refine gy rfl he rfl ?_
            refine ld rb_3 rfl (ocell hh.at1 rfl) rfl he fun a he => ?_
            refine gy rfl he rfl ?_
            refine fa fo_28_3 rfl rfl he fun a he => ?_
            refine gy rfl he rfl ?_
            refine ld rb_3 rfl (ocell hh.at0 rfl) rfl he fun a he => ?_
            refine gy rfl he rfl ?_
            refine eq rfl rfl rfl he fun a he => ?_
            refine pkt rfl rfl rfl he fun a he => ?_
            refine mv rfl rfl he fun a he => ?_
            refine sd he (t := 57) rfl (fun h19 he => ?_) (fun h19 he => ?_)
            · refine gy rfl he rfl ?_
              refine fa fo_28_5 rfl rfl he fun a he => ?_
              refine gy rfl he rfl ?_
              refine ldA [.slice A_pd pd.length c_pd, .slice A_wd wd.length c_wd, .bool mk, .bool lg] rb_26 ti_26 rfl ((Rd.obj hh.at1 5).take 4) rfl rfl he fun a he => ?_
              refine gy rfl he rfl ?_
              refine fa fo_28_5 rfl rfl he fun a he => ?_
              refine gy rfl he rfl ?_
              refine ldA [.slice A_pd2 pd2.length c_pd2, .slice A_wd2 wd2.length c_wd2, .bool mk2, .bool lg2] rb_26 ti_26 rfl ((Rd.obj hh.at0 5).take 4) rfl rfl he fun a he => ?_
              refine gy rfl he rfl ?_
              refine cal cb_32 rfl (ref07_Same _ _ _ A_pd c_pd pd A_wd c_wd wd mk lg A_pd2 c_pd2 pd2 A_wd2 c_wd2 wd2 mk2 lg2 hh h_pd k_pd h_wd k_wd h_pd2 k_pd2 h_wd2 k_wd2 hb) rfl he fun v a W hp he => ?_
              obtain ⟨rfl, hh⟩ := hp
              refine pkt rfl rfl rfl he fun a he => ?_
              refine asg rfl rfl he fun a he => ?_
              refine en ?_
              refine rt ?_
              refine rets1 Tryd.results14 he rfl (Ret.mk ?_)
              replace hh := hh.drop
              replace hh := hh.drop
              exact ⟨by rw [decide_eq_true (same_all h12 hs (by omega)), Bool.true_and]; first | (simp [*]; done) | (simp [*]; omega), hh⟩
            · refine gn rfl rfl he rfl rfl fun a he => ?_
              refine gn rfl rfl he rfl rfl fun a he => ?_
              refine gn rfl rfl he rfl rfl fun a he => ?_
              refine gn rfl rfl he rfl rfl fun a he => ?_
              refine gn rfl rfl he rfl rfl fun a he => ?_
              refine pkf rfl rfl rfl he fun a he => ?_
              refine asg rfl rfl he fun a he => ?_
              refine en ?_
              refine rt ?_
              refine rets1 Tryd.results14 he rfl (Ret.mk ?_)
              replace hh := hh.drop
              replace hh := hh.drop
              exact ⟨by rw [decide_eq_true (same_all h12 hs (by omega)), Bool.true_and]; first | (simp [*]; done) | (simp [*]; omega), hh⟩
          · refine gn rfl rfl he rfl rfl fun a he => ?_
            refine gn rfl rfl he rfl rfl fun a he => ?_
            refine gn rfl rfl he rfl rfl fun a he => ?_
            refine gn rfl rfl he rfl rfl fun a he => ?_
            refine gn rfl rfl he rfl rfl fun a he => ?_
            refine pkf rfl rfl rfl he fun a he => ?_
            refine mv rfl rfl he fun a he => ?_
            refine gn rfl rfl he rfl rfl fun a he => ?_
            refine gn rfl rfl he rfl rfl fun a he => ?_
            refine gn rfl rfl he rfl rfl fun a he => ?_
            refine gn rfl rfl he rfl rfl fun a he => ?_
            refine gn rfl rfl he rfl rfl fun a he => ?_
            refine pkf rfl rfl rfl he fun a he => ?_
            refine asg rfl rfl he fun a he => ?_
            refine en ?_
            refine rt ?_
            refine rets1 Tryd.results14 he rfl (Ret.mk ?_)
            replace hh := hh.drop
            replace hh := hh.drop
            exact ⟨by rw [decide_eq_true (same_all h12 hs (by omega)), Bool.true_and]; first | (simp [*]; done) | (simp [*]; omega), hh⟩
        · refine gn rfl rfl he rfl rfl fun a he => ?_
          refine gn rfl rfl he rfl rfl fun a he => ?_
          refine gn rfl rfl he rfl rfl fun a he => ?_
          refine gn rfl rfl he rfl rfl fun a he => ?_
          refine gn rfl rfl he rfl rfl fun a he => ?_
          refine pkf rfl rfl rfl he fun a he => ?_
          refine mv rfl rfl he fun a he => ?_
          refine gn rfl rfl he rfl rfl fun a he => ?_
          refine gn rfl rfl he rfl rfl fun a he => ?_
          refine gn rfl rfl he rfl rfl fun a he => ?_
          refine gn rfl rfl he rfl rfl fun a he => ?_
          refine gn rfl rfl he rfl rfl fun a he => ?_
          refine pkf rfl rfl rfl he fun a he => ?_
          refine mv rfl rfl he fun a he => ?_
          refine gn rfl rfl he rfl rfl fun a he => ?_
          refine gn rfl rfl he rfl rfl fun a he => ?_
          refine gn rfl rfl he rfl rfl fun a he => ?_
          refine gn rfl rfl he rfl rfl fun a he => ?_
          refine gn rfl rfl he rfl rfl fun a he => ?_
          refine pkf rfl rfl rfl he fun a he => ?_
          refine asg rfl rfl he fun a he => ?_
          refine en ?_
          refine rt ?_
          refine rets1 Tryd.results14 he rfl (Ret.mk ?_)
          replace hh := hh.drop
          replace hh := hh.drop
          exact ⟨by rw [decide_eq_true (same_all h12 hs (by omega)), Bool.true_and]; first | (simp [*]; done) | (simp [*]; omega), hh⟩
      · refine gn rfl rfl he rfl rfl fun a he => ?_
        refine gn rfl rfl he rfl rfl fun a he => ?_
        refine gn rfl rfl he rfl rfl fun a he => ?_
        refine gn rfl rfl he rfl rfl fun a he => ?_
        refine gn rfl rfl he rfl rfl fun a he => ?_
        refine pkf rfl rfl rfl he fun a he => ?_
        refine mv rfl rfl he fun a he => ?_
        refine gn rfl rfl he rfl rfl fun a he => ?_
        refine gn rfl rfl he rfl rfl fun a he => ?_
        refine gn rfl rfl he rfl rfl fun a he => ?_
        refine gn rfl rfl he rfl rfl fun a he => ?_
        refine gn rfl rfl he rfl rfl fun a he => ?_
        refine pkf rfl rfl rfl he fun a he => ?_
        refine mv rfl rfl he fun a he => ?_
        refine gn rfl rfl he rfl rfl fun a he => ?_
        refine gn rfl rfl he rfl rfl fun a he => ?_
        refine gn rfl rfl he rfl rfl fun a he => ?_
        refine gn rfl rfl he rfl rfl fun a he => ?_
        refine gn rfl rfl he rfl rfl fun a he => ?_
        refine pkf rfl rfl rfl he fun a he => ?_
        refine mv rfl rfl he fun a he => ?_
        refine gn rfl rfl he rfl rfl fun a he => ?_
        refine gn rfl rfl he rfl rfl fun a he => ?_
        refine gn rfl rfl he rfl rfl fun a he => ?_
        refine gn rfl rfl he rfl rfl fun a he => ?_
        refine gn rfl rfl he rfl rfl fun a he => ?_
        refine pkf rfl rfl rfl he fun a he => ?_
        refine asg rfl rfl he fun a he => ?_
        refine en ?_
        refine rt ?_
        refine rets1 Tryd.results14 he rfl (Ret.mk ?_)
        replace hh := hh.drop
        replace hh := hh.drop
        exact ⟨by rw [decide_eq_true (same_all h12 hs (by omega)), Bool.true_and]; first | (simp [*]; done) | (simp [*]; omega), hh⟩

end Go.Proofs.YtndaogkpgoimlaaDoor

/- Walks through the given program's functions, printed op by op by this session's own program; what each computes is told by the plain functions of the texts S... -/
import Derived.Test.YtndaogkpgoimlaaB8
import Derived.Test.YtndaogkpgoimlaaS13
import Derived.KernelRfl
namespace Go.Proofs.Ytndaogkpgoimlaa
open Go Go.RowKit K
set_option linter.unusedVariables false
theorem cb_17 : callable Try.prog 17 = true := by kernel_rfl
theorem cb_18 : callable Try.prog 18 = true := by kernel_rfl
theorem ts_43 : TS Try.prog 43 22 (.slice none 0 0) 1 24 := ⟨Try.underlying43, ⟨by kernel_rfl, rfl⟩, by decide, by decide⟩
theorem law_TokenParts (I : Snap) (L : List Ch) (W : World) (A_cs : Option Addr) (c_cs : Nat) (cs : List Chk) (hh : Hp I L W) (h_cs : Fz I A_cs (cs.map chk)) (k_cs : cs.length ≤ c_cs) (hcs : ∀ x ∈ cs, Fz I x.A (x.l.map b8) ∧ x.l.length ≤ x.c) :
    Calls Try.prog 5 #[.slice A_cs cs.length c_cs] W (Ret fun v W => ∃ (I' : Snap), v = .bool true ∧ I.le I' ∧ Hp I' (L) W) := by
  refine enter Try.func5 rfl Try.ntmps5 rfl fun a he => ?_
  refine sq ?_
  refine rg ?_
  refine asg rfl rfl he fun a he => ?_
  refine en ?_
  refine sq ?_
  refine rg ?_
  refine cal cb_6 rfl (law_shown _ _ _  hh ) rfl he fun v a W hp he => ?_
  obtain ⟨I1, rfl, hl2, hh⟩ := hp
  refine asg rfl rfl he fun a he => ?_
  refine en ?_
  refine sq ?_
  refine rg ?_
  refine asg rfl rfl he fun a he => ?_
  refine en ?_
  refine sq ?_
  refine rg ?_
  refine asg rfl rfl he fun a he => ?_
  refine en ?_
  refine sq ?_
  refine rg ?_
  refine bld #[.slice none 0 0, .slice none 0 0, .bool false, .bool false] rfl (by kernel_rfl) rfl he fun a he => ?_
  refine al ti_30 rfl he hh fun bb3 a W he hh => ?_
  replace hh : Hp I1 (.obj bb3 (.cells [.slice none 0 0, .slice none 0 0, .bool false, .bool false].toArray 30) :: _) W := hh
  refine st #[.slice none 0 0, .slice none 0 0, .bool false, .bool false] ti_30 rfl rfl rfl rfl (by simp [Value.oneCell']) (by simp) he hh fun W hh => ?_
  replace hh : Hp I1 (.obj bb3 (.cells [.slice none 0 0, .slice none 0 0, .bool false, .bool false].toArray 30) :: _) W := hh
  refine en ?_
  refine sq ?_
  refine sq ?_
  refine rg ?_
  refine asg rfl rfl he fun a he => ?_
  refine en ?_
  refine bk ?_
  replace hh := hh.nilrow 5 1
  replace hh := hh.nilrow 9 1
  replace hh := hh.up2
  replace hh := hh.up2
  replace hh := hh.up2
  refine lp (fun (s : Nat × List UInt8 × List ByteArray × List UInt8 × List Int × Bool × Bool) a w => match s with | (i, tot, got, pd, wd, mk, lg) => ∃ (I6 : Snap) (A_4 : Option Addr) (A_5 : Option Addr) (A_p : Option Addr) (A_w : Option Addr) (c_4 : Nat) (c_5 : Nat) (c_p : Nat) (c_w : Nat), I1.le I6 ∧ Env 83 [(0, .slice A_cs cs.length c_cs), (3, .bool true), (4, .slice A_4 tot.length c_4), (5, .slice A_5 got.length c_5), (6, .pointer (some ⟨bb3, 0, none⟩)), (7, .int .i64 ((i : Nat) : Int))] a ∧ Hp I6 (.row A_5 got.length c_5 9 1 (got.map str1) :: .row A_4 tot.length c_4 5 1 (tot.map b8) :: .obj bb3 (.cells ([.slice A_p pd.length c_p, .slice A_w wd.length c_w, .bool mk, .bool lg]).toArray 30) :: L) w ∧ Fz I6 A_p (pd.map b8) ∧ pd.length ≤ c_p ∧ Fz I6 A_w (wd.map r32) ∧ wd.length ≤ c_w ∧ i ≤ 40 ∧ i ≤ cs.length ∧ tot.length ≤ 500 * i ∧ got.length ≤ 600 * i ∧ partJ tot pd wd mk lg got)
      (fun s => 40 - s.1) (0, [], [], [], [], false, false) ⟨I1, none, none, none, none, 0, 0, 0, 0, Snap.le.refl _, he.keep [0, 3, 4, 5, 6, 7] rfl, hh, Fz.nil _ _, Nat.le_refl _, Fz.nil _ _, Nat.le_refl _, Nat.zero_le _, Nat.zero_le _, Nat.le_refl _, Nat.le_refl _, part_start⟩ fun s a W hinv => ?_
  obtain ⟨i, tot, got, pd, wd, mk, lg⟩ := s
  obtain ⟨I6, A_4, A_5, A_p, A_w, c_4, c_5, c_p, c_w, hleI6, he, hh, h_p, k_p, h_w, k_w, hi, hic, hal, hgl, hJ⟩ := hinv
  refine sq ?_
  refine sq ?_
  refine cutr (fun a w => Env 83 [(0, .slice A_cs cs.length c_cs), (3, .bool true), (4, .slice A_4 tot.length c_4), (5, .slice A_5 got.length c_5), (6, .pointer (some ⟨bb3, 0, none⟩)), (7, .int .i64 ((i : Nat) : Int)), (21, .bool (decide (i < cs.length ∧ i < 40)))] a ∧ Hp I6 (.row A_5 got.length c_5 9 1 (got.map str1) :: .row A_4 tot.length c_4 5 1 (tot.map b8) :: .obj bb3 (.cells ([.slice A_p pd.length c_p, .slice A_w wd.length c_w, .bool mk, .bool lg]).toArray 30) :: L) w) ?_ fun a W hM => ?_
  · refine rg ?_
    refine mv rfl rfl he fun a he => ?_
    refine mv rfl rfl he fun a he => ?_
    refine ln Try.underlying43 rfl rfl he fun a he => ?_
    refine lt rfl rfl rfl he fun a he => ?_
    refine mv rfl rfl he fun a he => ?_
    refine sd he (t := 18) rfl (fun h7 he => ?_) (fun h7 he => ?_)
    · replace h7 : i < cs.length := by omega
      refine gy rfl he rfl ?_
      refine mv rfl rfl he fun a he => ?_
      refine gy rfl he rfl ?_
      refine lt rfl rfl rfl he fun a he => ?_
      refine pkt rfl rfl rfl he fun a he => ?_
      refine en ?_
      replace hh := hh.up2
      replace hh := hh.up2
      replace hh := hh.up2
      replace he := he.be (t := 21) (v' := .bool (decide (i < cs.length ∧ i < 40))) rfl (by congr 1; symm; first | (apply decide_eq_true; omega) | (apply decide_eq_false; omega) | (apply decide_eq_decide.2; omega))
      exact ⟨he.keep [0, 3, 4, 5, 6, 7, 21] rfl, hh⟩
    · replace h7 : ¬ (i < cs.length) := by omega
      refine gn rfl rfl he rfl rfl fun a he => ?_
      refine gn rfl rfl he rfl rfl fun a he => ?_
      refine pkf rfl rfl rfl he fun a he => ?_
      refine en ?_
      replace hh := hh.up2
      replace hh := hh.up2
      replace hh := hh.up2
      replace he := he.be (t := 21) (v' := .bool (decide (i < cs.length ∧ i < 40))) rfl (by congr 1; symm; first | (apply decide_eq_true; omega) | (apply decide_eq_false; omega) | (apply decide_eq_decide.2; omega))
      exact ⟨he.keep [0, 3, 4, 5, 6, 7, 21] rfl, hh⟩
  obtain ⟨he, hh⟩ := hM
  refine nm_then ?_
  refine cnd he rfl (fun h21 => ?_) (fun h21 => ?_)
  · refine sk ?_
    refine nm_then ?_
    refine sq ?_
    refine bk ?_
    refine sq ?_
    refine sq ?_
    refine rg ?_
    refine mv rfl rfl he fun a he => ?_
    refine mv rfl rfl he fun a he => ?_
    obtain ⟨x, hx⟩ := idx_some (xs := cs) (i := i) (by omega)
    refine ia1 (xs := cs) (i) ts_43 rfl rfl ((h_cs.up (hl2.trans hleI6)).rd hh) hx rfl he fun bb8 oo9 a hc10 he => ?_
    refine ld rb_22 rfl hc10 rfl he fun a he => ?_
    refine ln Try.underlying22 rfl rfl he fun a he => ?_
    refine gt rfl rfl rfl he fun a he => ?_
    refine en ?_
    refine cnd he rfl (fun h29 => ?_) (fun h29 => ?_)
    · replace h29 : 500 < x.l.length := by omega
      refine sq ?_
      refine rg ?_
      refine mv rfl rfl he fun a he => ?_
      refine asg rfl rfl he fun a he => ?_
      refine en ?_
      refine rt ?_
      refine rets1 Try.results5 he rfl (Ret.mk ?_)
      replace hh := hh.drop
      replace hh := hh.drop
      replace hh := hh.drop
      exact ⟨I6, rfl, (hl2.trans hleI6), hh⟩
    · replace h29 : ¬ (500 < x.l.length) := by omega
      refine sk ?_
      refine nm_then ?_
      refine sq ?_
      refine rg ?_
      refine mv rfl rfl he fun a he => ?_
      refine mv rfl rfl he fun a he => ?_
      refine mv rfl rfl he fun a he => ?_
      refine ia1 (xs := cs) (i) ts_43 rfl rfl ((h_cs.up (hl2.trans hleI6)).rd hh) hx rfl he fun bb11 oo12 a hc13 he => ?_
      refine ld rb_22 rfl hc13 rfl he fun a he => ?_
      replace hh := hh.up1
      refine ap ts_22 rfl rfl (((hcs x (List.mem_of_getElem? hx)).1.up (hl2.trans hleI6)).rd hh) (by simp) (one_map (fun _ => rfl) _) (by first | omega | (simp; omega)) rfl he hh fun A14 cc15 a W he hh => ?_
      replace hh := hh.re (n' := ((tot ++ x.l)).length) (cs' := ((tot ++ x.l)).map b8) (by simp) (by first | (simp [b8]; done) | (simp [b8]; omega))
      replace he := he.be (t := 36) (v' := .slice A14 ((tot ++ x.l)).length cc15) rfl (by congr 1; simp)
      refine asg rfl rfl he fun a he => ?_
      refine en ?_
      refine sq ?_
      have hv := part_valid hJ
      have hvl := hv.len
      have hv2 := hv.2.1
      have hul := utfFeed_len pd x.l
      have hfl := feedW_len (wd, mk, lg) (utfFeed pd x.l).1
      refine cutr (fun a w => ∃ (I17 : Snap) (b9 : Nat) (A8 : Option Addr) (c8 : Nat) (A_q : Option Addr) (c_q : Nat) (A_v : Option Addr) (c_v : Nat), I6.le I17 ∧ Env 83 [(0, .slice A_cs cs.length c_cs), (3, .bool true), (4, .slice A14 (((tot ++ x.l)).length) cc15), (5, .slice A_5 got.length c_5), (6, .pointer (some ⟨bb3, 0, none⟩)), (7, .int .i64 ((i : Nat) : Int)), (8, .slice A8 (((feedW (wd, mk, lg) (utfFeed pd x.l).1).1).length) c8), (9, .pointer (some ⟨b9, 0, none⟩))] a ∧ Hp I17 (.obj b9 (.cells ([.slice A_q (((utfFeed pd x.l).2).length) c_q, .slice A_v (((feedW (wd, mk, lg) (utfFeed pd x.l).1).2.1).length) c_v, .bool ((feedW (wd, mk, lg) (utfFeed pd x.l).1).2.2.1), .bool ((feedW (wd, mk, lg) (utfFeed pd x.l).1).2.2.2)]).toArray 30) :: .row A8 (((feedW (wd, mk, lg) (utfFeed pd x.l).1).1).length) c8 9 1 (((feedW (wd, mk, lg) (utfFeed pd x.l).1).1).map str1) :: .row A14 (((tot ++ x.l)).length) cc15 5 1 (((tot ++ x.l)).map b8) :: .row A_5 got.length c_5 9 1 (got.map str1) :: .obj bb3 (.cells ([.slice A_p pd.length c_p, .slice A_w wd.length c_w, .bool mk, .bool lg]).toArray 30) :: L) w ∧ Fz I17 A_q (((utfFeed pd x.l).2).map b8) ∧ ((utfFeed pd x.l).2).length ≤ c_q ∧ Fz I17 A_v (((feedW (wd, mk, lg) (utfFeed pd x.l).1).2.1).map r32) ∧ ((feedW (wd, mk, lg) (utfFeed pd x.l).1).2.1).length ≤ c_v) ?_ fun a W hM => ?_
      · replace hh := hh.up2
        refine rgd (SH I6 [.obj bb3 (.cells ([.slice A_p pd.length c_p, .slice A_w wd.length c_w, .bool mk, .bool lg]).toArray 30)]) 12 mixo rfl hh fun W hh => ?_
        refine ahp (d := 38) (v := .agg #[.slice A_p pd.length c_p, .slice A_w wd.length c_w, .bool mk, .bool lg]) 0 rfl (by kernel_rfl) (by kernel_rfl) (by kernel_rfl) rfl rfl rfl he ⟨_, _, (Snap.le.refl _), hh⟩ (fun W hS => by
            obtain ⟨I18, _, hleI18, hh⟩ := hS
            refine ldA [.slice A_p pd.length c_p, .slice A_w wd.length c_w, .bool mk, .bool lg] rb_30 ti_30 rfl ((Rd.obj hh.at0 0).take 4) rfl rfl he fun a he => ?_
            exact aqe he) fun a he => ?_
        refine ahp (d := 39) (v := .slice A_cs cs.length c_cs) 1 rfl (by kernel_rfl) (by kernel_rfl) (by kernel_rfl) rfl rfl rfl he ⟨_, _, (Snap.le.refl _), hh⟩ (fun W hS => by
            refine mv rfl rfl he fun a he => ?_
            exact aqe he) fun a he => ?_
        refine ahp (d := 40) (v := .int .i64 ((i : Nat) : Int)) 2 rfl (by kernel_rfl) (by kernel_rfl) (by kernel_rfl) rfl rfl rfl he ⟨_, _, (Snap.le.refl _), hh⟩ (fun W hS => by
            refine mv rfl rfl he fun a he => ?_
            exact aqe he) fun a he => ?_
        obtain ⟨bb19, oo20, eA21, hc22⟩ := (h_cs.up (hl2.trans hleI6)).adr1 hx
        replace he := he.be (t := 39) (v' := .slice (some ⟨bb19, oo20, none⟩) cs.length c_cs) rfl (by rw [eA21])
        refine ahp (d := 41) (v := .pointer (some ⟨bb19, oo20 + i * 1, none⟩)) 3 rfl (by kernel_rfl) (by kernel_rfl) (by kernel_rfl) rfl rfl rfl he ⟨_, _, (Snap.le.refl _), hh⟩ (fun W hS => by refine ia (i) ts_43 rfl rfl (List.getElem?_eq_some_iff.1 hx).1 rfl he fun a he => ?_; exact aqe he) fun a he => ?_
        refine ahp (d := 42) (v := .slice x.A x.l.length x.c) 4 rfl (by kernel_rfl) (by kernel_rfl) (by kernel_rfl) rfl rfl rfl he ⟨_, _, (Snap.le.refl _), hh⟩ (fun W hS => by
            obtain ⟨I23, _, hleI23, hh⟩ := hS
            refine ld rb_22 rfl (hc22 _ _ _ hleI23 hh) rfl he fun a he => ?_
            exact aqe he) fun a he => ?_
        refine aha2 (i := 5) (j := 9) (by kernel_rfl) ?_ ?_
        · refine aop rfl ?_
          refine cal cb_14 rfl (token_Feed _ _ _ A_p c_p pd A_w c_w wd mk lg x.A x.c x.l hh h_p k_p h_w k_w ((hcs x (List.mem_of_getElem? hx)).1.up (hl2.trans hleI6)) ((hcs x (List.mem_of_getElem? hx)).2) (by omega) (by omega)) rfl he fun v a W hp he => ?_
          obtain ⟨I24, A26, cc27, A28, cc29, A30, cc31, rfl, hl25, hf32, hc33, hf34, hc35, hh⟩ := hp
          replace hh := hh.up1
          refine aen ⟨_, _, hl25, hh⟩ ?_
          refine ahp (d := 37) (v := .tuple #[.slice A26 (((feedW (wd, mk, lg) (utfFeed pd x.l).1).1).length) cc27, .agg #[.slice A28 (((utfFeed pd x.l).2).length) cc29, .slice A30 (((feedW (wd, mk, lg) (utfFeed pd x.l).1).2.1).length) cc31, .bool ((feedW (wd, mk, lg) (utfFeed pd x.l).1).2.2.1), .bool ((feedW (wd, mk, lg) (utfFeed pd x.l).1).2.2.2)]]) 6 rfl (by kernel_rfl) (by kernel_rfl) (by kernel_rfl) rfl rfl rfl he ⟨_, _, hl25, hh⟩ (fun W hS => by
              refine mv rfl rfl he fun a he => ?_
              exact aqe he) fun a he => ?_
          refine ahp (d := 44) (v := .slice A26 (((feedW (wd, mk, lg) (utfFeed pd x.l).1).1).length) cc27) 7 rfl (by kernel_rfl) (by kernel_rfl) (by kernel_rfl) rfl rfl rfl he ⟨_, _, hl25, hh⟩ (fun W hS => by
              refine xt rfl rfl rfl he fun a he => ?_
              exact aqe he) fun a he => ?_
          refine ahp (d := 45) (v := .agg #[.slice A28 (((utfFeed pd x.l).2).length) cc29, .slice A30 (((feedW (wd, mk, lg) (utfFeed pd x.l).1).2.1).length) cc31, .bool ((feedW (wd, mk, lg) (utfFeed pd x.l).1).2.2.1), .bool ((feedW (wd, mk, lg) (utfFeed pd x.l).1).2.2.2)]) 8 rfl (by kernel_rfl) (by kernel_rfl) (by kernel_rfl) rfl rfl rfl he ⟨_, _, hl25, hh⟩ (fun W hS => by
              refine xt rfl rfl rfl he fun a he => ?_
              exact aqe he) fun a he => ?_
          refine aha1 (i := 9) (by kernel_rfl) ?_
          refine aop rfl ?_
          refine al ti_30 rfl he hh fun bb37 a W he hh => ?_
          replace hh : Hp I24 (.obj bb37 (.cells [.slice none 0 0, .slice none 0 0, .bool false, .bool false].toArray 30) :: _) W := hh
          replace hh := hh.up1
          refine aen ⟨_, _, hl25, hh⟩ ?_
          refine ahp (d := 8) (v := .slice A26 (((feedW (wd, mk, lg) (utfFeed pd x.l).1).1).length) cc27) 10 rfl (by kernel_rfl) (by kernel_rfl) (by kernel_rfl) rfl rfl rfl he ⟨_, _, hl25, hh⟩ (fun W hS => by
              refine asg rfl rfl he fun a he => ?_
              exact aqe he) fun a he => ?_
          refine aha1 (i := 11) (by kernel_rfl) ?_
          refine aop rfl ?_
          replace hh := hh.up1
          refine st #[.slice A28 (((utfFeed pd x.l).2).length) cc29, .slice A30 (((feedW (wd, mk, lg) (utfFeed pd x.l).1).2.1).length) cc31, .bool ((feedW (wd, mk, lg) (utfFeed pd x.l).1).2.2.1), .bool ((feedW (wd, mk, lg) (utfFeed pd x.l).1).2.2.2)] ti_30 rfl rfl rfl rfl (by simp [Value.oneCell']) (by simp) he hh fun W hh => ?_
          replace hh : Hp I24 (.obj bb37 (.cells [.slice A28 (((utfFeed pd x.l).2).length) cc29, .slice A30 (((feedW (wd, mk, lg) (utfFeed pd x.l).1).2.1).length) cc31, .bool ((feedW (wd, mk, lg) (utfFeed pd x.l).1).2.2.1), .bool ((feedW (wd, mk, lg) (utfFeed pd x.l).1).2.2.2)].toArray 30) :: _) W := hh
          replace hh := hh.up1
          refine aen ⟨_, _, hl25, hh⟩ ?_
          refine ahd (by kernel_rfl) ?_
          refine en ?_
          replace hh := hh.up4
          replace hh := hh.up4
          replace hh := hh.up4
          replace hh := hh.up4
          exact ⟨I24, bb37, A26, cc27, A28, cc29, A30, cc31, hl25, he.keep [0, 3, 4, 5, 6, 7, 8, 9] rfl, hh, hf32, hc33, hf34, hc35⟩
        · refine aop rfl ?_
          refine al ti_30 rfl he hh fun bb38 a W he hh => ?_
          replace hh : Hp I6 (.obj bb38 (.cells [.slice none 0 0, .slice none 0 0, .bool false, .bool false].toArray 30) :: _) W := hh
          replace hh := hh.up1
          refine aen ⟨_, _, (Snap.le.refl _), hh⟩ ?_
          refine aha1 (i := 5) (by kernel_rfl) ?_
          refine aop rfl ?_
          refine cal cb_14 rfl (token_Feed _ _ _ A_p c_p pd A_w c_w wd mk lg x.A x.c x.l hh h_p k_p h_w k_w ((hcs x (List.mem_of_getElem? hx)).1.up (hl2.trans hleI6)) ((hcs x (List.mem_of_getElem? hx)).2) (by omega) (by omega)) rfl he fun v a W hp he => ?_
          obtain ⟨I39, A41, cc42, A43, cc44, A45, cc46, rfl, hl40, hf47, hc48, hf49, hc50, hh⟩ := hp
          replace hh := hh.up1
          refine aen ⟨_, _, hl40, hh⟩ ?_
          refine ahp (d := 37) (v := .tuple #[.slice A41 (((feedW (wd, mk, lg) (utfFeed pd x.l).1).1).length) cc42, .agg #[.slice A43 (((utfFeed pd x.l).2).length) cc44, .slice A45 (((feedW (wd, mk, lg) (utfFeed pd x.l).1).2.1).length) cc46, .bool ((feedW (wd, mk, lg) (utfFeed pd x.l).1).2.2.1), .bool ((feedW (wd, mk, lg) (utfFeed pd x.l).1).2.2.2)]]) 6 rfl (by kernel_rfl) (by kernel_rfl) (by kernel_rfl) rfl rfl rfl he ⟨_, _, hl40, hh⟩ (fun W hS => by
              refine mv rfl rfl he fun a he => ?_
              exact aqe he) fun a he => ?_
          refine ahp (d := 44) (v := .slice A41 (((feedW (wd, mk, lg) (utfFeed pd x.l).1).1).length) cc42) 7 rfl (by kernel_rfl) (by kernel_rfl) (by kernel_rfl) rfl rfl rfl he ⟨_, _, hl40, hh⟩ (fun W hS => by
              refine xt rfl rfl rfl he fun a he => ?_
              exact aqe he) fun a he => ?_
          refine ahp (d := 45) (v := .agg #[.slice A43 (((utfFeed pd x.l).2).length) cc44, .slice A45 (((feedW (wd, mk, lg) (utfFeed pd x.l).1).2.1).length) cc46, .bool ((feedW (wd, mk, lg) (utfFeed pd x.l).1).2.2.1), .bool ((feedW (wd, mk, lg) (utfFeed pd x.l).1).2.2.2)]) 8 rfl (by kernel_rfl) (by kernel_rfl) (by kernel_rfl) rfl rfl rfl he ⟨_, _, hl40, hh⟩ (fun W hS => by
              refine xt rfl rfl rfl he fun a he => ?_
              exact aqe he) fun a he => ?_
          refine ahp (d := 8) (v := .slice A41 (((feedW (wd, mk, lg) (utfFeed pd x.l).1).1).length) cc42) 10 rfl (by kernel_rfl) (by kernel_rfl) (by kernel_rfl) rfl rfl rfl he ⟨_, _, hl40, hh⟩ (fun W hS => by
              refine asg rfl rfl he fun a he => ?_
              exact aqe he) fun a he => ?_
          refine aha1 (i := 11) (by kernel_rfl) ?_
          refine aop rfl ?_
          replace hh := hh.up2
          refine st #[.slice A43 (((utfFeed pd x.l).2).length) cc44, .slice A45 (((feedW (wd, mk, lg) (utfFeed pd x.l).1).2.1).length) cc46, .bool ((feedW (wd, mk, lg) (utfFeed pd x.l).1).2.2.1), .bool ((feedW (wd, mk, lg) (utfFeed pd x.l).1).2.2.2)] ti_30 rfl rfl rfl rfl (by simp [Value.oneCell']) (by simp) he hh fun W hh => ?_
          replace hh : Hp I39 (.obj bb38 (.cells [.slice A43 (((utfFeed pd x.l).2).length) cc44, .slice A45 (((feedW (wd, mk, lg) (utfFeed pd x.l).1).2.1).length) cc46, .bool ((feedW (wd, mk, lg) (utfFeed pd x.l).1).2.2.1), .bool ((feedW (wd, mk, lg) (utfFeed pd x.l).1).2.2.2)].toArray 30) :: _) W := hh
          replace hh := hh.up1
          refine aen ⟨_, _, hl40, hh⟩ ?_
          refine ahd (by kernel_rfl) ?_
          refine en ?_
          replace hh := hh.up4
          replace hh := hh.up4
          replace hh := hh.up4
          replace hh := hh.up4
          exact ⟨I39, bb38, A41, cc42, A43, cc44, A45, cc46, hl40, he.keep [0, 3, 4, 5, 6, 7, 8, 9] rfl, hh, hf47, hc48, hf49, hc50⟩
      obtain ⟨I17, b9, A8, c8, A_q, c_q, A_v, c_v, hleI17, he, hh, h_q, k_q, h_v, k_v⟩ := hM
      refine nm_then ?_
      refine sq ?_
      refine rg ?_
      refine mv rfl rfl he fun a he => ?_
      refine mv rfl rfl he fun a he => ?_
      replace hh := hh.up3
      refine ap ts_44 rfl rfl (Ch.rd hh.at2) (by simp) (one_map (fun _ => rfl) _) (by first | omega | (simp; omega)) rfl he hh fun A52 cc53 a W he hh => ?_
      replace hh := hh.re (n' := ((got ++ (feedW (wd, mk, lg) (utfFeed pd x.l).1).1)).length) (cs' := ((got ++ (feedW (wd, mk, lg) (utfFeed pd x.l).1).1)).map str1) (by simp) (by simp [str1])
      replace he := he.be (t := 48) (v' := .slice A52 ((got ++ (feedW (wd, mk, lg) (utfFeed pd x.l).1).1)).length cc53) rfl (by congr 1; simp)
      refine asg rfl rfl he fun a he => ?_
      refine en ?_
      refine sq ?_
      have hs := part_valid (part_step (k := x.l) hJ)
      have hsl := hs.len
      have hs2 := hs.2.1
      refine rg ?_
      refine ldA [.slice A_q (((utfFeed pd x.l).2).length) c_q, .slice A_v (((feedW (wd, mk, lg) (utfFeed pd x.l).1).2.1).length) c_v, .bool ((feedW (wd, mk, lg) (utfFeed pd x.l).1).2.2.1), .bool ((feedW (wd, mk, lg) (utfFeed pd x.l).1).2.2.2)] rb_30 ti_30 rfl ((Rd.obj hh.at1 0).take 4) rfl rfl he fun a he => ?_
      refine cal cb_9 rfl (token_Put _ _ _ A_q c_q ((utfFeed pd x.l).2) A_v c_v ((feedW (wd, mk, lg) (utfFeed pd x.l).1).2.1) ((feedW (wd, mk, lg) (utfFeed pd x.l).1).2.2.1) ((feedW (wd, mk, lg) (utfFeed pd x.l).1).2.2.2) hh h_q k_q h_v k_v (by omega) (by omega) (fun c hc => by have := hs.2.2 c hc; omega)) rfl he fun v a W hp he => ?_
      obtain ⟨I55, A57, cc58, rfl, hl56, hh⟩ := hp
      have hc63 := (Ch.rowcap hh.at0).1
      obtain ⟨I60, hl61, hh, hf62⟩ := hh.freezeRow
      refine cal cb_7 rfl (token_Get _ _ _ A57 cc58 (tokPut ((utfFeed pd x.l).2) ((feedW (wd, mk, lg) (utfFeed pd x.l).1).2.1) ((feedW (wd, mk, lg) (utfFeed pd x.l).1).2.2.1) ((feedW (wd, mk, lg) (utfFeed pd x.l).1).2.2.2)) hh hf62 hc63) rfl he fun v a W hp he => ?_
      obtain ⟨I64, A66, cc67, A68, cc69, rfl, hl65, hf70, hc71, hf72, hc73, hh⟩ := hp
      have hback := tok_put (part_valid (part_step (k := x.l) hJ)) (feedW (wd, mk, lg) (utfFeed pd x.l).1).2.2.1 (feedW (wd, mk, lg) (utfFeed pd x.l).1).2.2.2
      rw [hback] at he hf70 hc71 hf72 hc73
      refine mv rfl rfl he fun a he => ?_
      refine xt rfl rfl rfl he fun a he => ?_
      refine xt rfl rfl rfl he fun a he => ?_
      refine al ti_30 rfl he hh fun bb74 a W he hh => ?_
      replace hh : Hp I64 (.obj bb74 (.cells [.slice none 0 0, .slice none 0 0, .bool false, .bool false].toArray 30) :: _) W := hh
      refine st #[.slice A66 (((utfFeed pd x.l).2).length) cc67, .slice A68 (((feedW (wd, mk, lg) (utfFeed pd x.l).1).2.1).length) cc69, .bool ((feedW (wd, mk, lg) (utfFeed pd x.l).1).2.2.1), .bool ((feedW (wd, mk, lg) (utfFeed pd x.l).1).2.2.2)] ti_30 rfl rfl rfl rfl (by simp [Value.oneCell']) (by simp) he hh fun W hh => ?_
      replace hh : Hp I64 (.obj bb74 (.cells [.slice A66 (((utfFeed pd x.l).2).length) cc67, .slice A68 (((feedW (wd, mk, lg) (utfFeed pd x.l).1).2.1).length) cc69, .bool ((feedW (wd, mk, lg) (utfFeed pd x.l).1).2.2.1), .bool ((feedW (wd, mk, lg) (utfFeed pd x.l).1).2.2.2)].toArray 30) :: _) W := hh
      refine asg rfl rfl he fun a he => ?_
      refine en ?_
      refine sq ?_
      refine sq ?_
      replace hh := hh.up5
      replace hh := hh.up3
      replace hh := hh.up2
      refine rgd (SH I64 [.obj bb74 (.cells ([.slice A66 (((utfFeed pd x.l).2).length) cc67, .slice A68 (((feedW (wd, mk, lg) (utfFeed pd x.l).1).2.1).length) cc69, .bool ((feedW (wd, mk, lg) (utfFeed pd x.l).1).2.2.1), .bool ((feedW (wd, mk, lg) (utfFeed pd x.l).1).2.2.2)]).toArray 30), .obj b9 (.cells ([.slice A_q (((utfFeed pd x.l).2).length) c_q, .slice A_v (((feedW (wd, mk, lg) (utfFeed pd x.l).1).2.1).length) c_v, .bool ((feedW (wd, mk, lg) (utfFeed pd x.l).1).2.2.1), .bool ((feedW (wd, mk, lg) (utfFeed pd x.l).1).2.2.2)]).toArray 30), .obj bb3 (.cells ([.slice A_p pd.length c_p, .slice A_w wd.length c_w, .bool mk, .bool lg]).toArray 30)]) 10 mixo rfl hh fun W hh => ?_
      replace hh := hh.up2
      replace hh := hh.up2
      replace hh := hh.up2
      refine ahp (d := 55) (v := .int .i64 0) 0 rfl (by kernel_rfl) (by kernel_rfl) (by kernel_rfl) rfl rfl rfl he ⟨_, _, (Snap.le.refl _), hh⟩ (fun W hS => by
          refine mv rfl rfl he fun a he => ?_
          exact aqe he) fun a he => ?_
      replace hh := hh.up2
      replace hh := hh.up2
      replace hh := hh.up2
      refine ahp (d := 56) (v := .bool false) 1 rfl (by kernel_rfl) (by kernel_rfl) (by kernel_rfl) rfl rfl rfl he ⟨_, _, (Snap.le.refl _), hh⟩ (fun W hS => by
          refine ne rfl rfl rfl he fun a he => ?_
          replace he := he.be (t := 56) (v' := .bool false) rfl rfl
          exact aqe he) fun a he => ?_
      replace hh := hh.up2
      replace hh := hh.up2
      replace hh := hh.up2
      refine ahp (d := 57) (v := .bool false) 2 rfl (by kernel_rfl) (by kernel_rfl) (by kernel_rfl) rfl rfl rfl he ⟨_, _, (Snap.le.refl _), hh⟩ (fun W hS => by
          refine mv rfl rfl he fun a he => ?_
          exact aqe he) fun a he => ?_
      replace hh := hh.up2
      replace hh := hh.up2
      replace hh := hh.up2
      refine ahp (d := 58) (v := .agg #[.slice A66 (((utfFeed pd x.l).2).length) cc67, .slice A68 (((feedW (wd, mk, lg) (utfFeed pd x.l).1).2.1).length) cc69, .bool ((feedW (wd, mk, lg) (utfFeed pd x.l).1).2.2.1), .bool ((feedW (wd, mk, lg) (utfFeed pd x.l).1).2.2.2)]) 3 rfl (by kernel_rfl) (by kernel_rfl) (by kernel_rfl) rfl rfl rfl he ⟨_, _, (Snap.le.refl _), hh⟩ (fun W hS => by
          obtain ⟨I75, _, hleI75, hh⟩ := hS
          refine gy rfl he rfl ?_
          refine ldA [.slice A66 (((utfFeed pd x.l).2).length) cc67, .slice A68 (((feedW (wd, mk, lg) (utfFeed pd x.l).1).2.1).length) cc69, .bool ((feedW (wd, mk, lg) (utfFeed pd x.l).1).2.2.1), .bool ((feedW (wd, mk, lg) (utfFeed pd x.l).1).2.2.2)] rb_30 ti_30 rfl ((Rd.obj hh.at0 0).take 4) rfl rfl he fun a he => ?_
          exact aqe he) fun a he => ?_
      replace hh := hh.up2
      replace hh := hh.up2
      replace hh := hh.up2
      refine ahp (d := 60) (v := .agg #[.slice A_q (((utfFeed pd x.l).2).length) c_q, .slice A_v (((feedW (wd, mk, lg) (utfFeed pd x.l).1).2.1).length) c_v, .bool ((feedW (wd, mk, lg) (utfFeed pd x.l).1).2.2.1), .bool ((feedW (wd, mk, lg) (utfFeed pd x.l).1).2.2.2)]) 5 rfl (by kernel_rfl) (by kernel_rfl) (by kernel_rfl) rfl rfl rfl he ⟨_, _, (Snap.le.refl _), hh⟩ (fun W hS => by
          obtain ⟨I76, _, hleI76, hh⟩ := hS
          refine gy rfl he rfl ?_
          refine ldA [.slice A_q (((utfFeed pd x.l).2).length) c_q, .slice A_v (((feedW (wd, mk, lg) (utfFeed pd x.l).1).2.1).length) c_v, .bool ((feedW (wd, mk, lg) (utfFeed pd x.l).1).2.2.1), .bool ((feedW (wd, mk, lg) (utfFeed pd x.l).1).2.2.2)] rb_30 ti_30 rfl ((Rd.obj hh.at1 0).take 4) rfl rfl he fun a he => ?_
          exact aqe he) fun a he => ?_
      refine aha1 (i := 4) (by kernel_rfl) ?_
      refine aop rfl ?_
      refine gy rfl he rfl ?_
      refine cal cb_13 rfl (law_real _ _ _ A66 cc67 ((utfFeed pd x.l).2) A68 cc69 ((feedW (wd, mk, lg) (utfFeed pd x.l).1).2.1) ((feedW (wd, mk, lg) (utfFeed pd x.l).1).2.2.1) ((feedW (wd, mk, lg) (utfFeed pd x.l).1).2.2.2) hh hf70 hc71 hf72 hc73) rfl he fun v a W hp he => ?_
      obtain ⟨A77, cc78, A79, cc80, rfl, hf81, hc82, hf83, hc84, hh⟩ := hp
      replace hh := hh.up2
      replace hh := hh.up2
      replace hh := hh.up2
      refine aen ⟨_, _, (Snap.le.refl _), hh⟩ ?_
      refine aha1 (i := 6) (by kernel_rfl) ?_
      refine aop rfl ?_
      refine gy rfl he rfl ?_
      refine cal cb_13 rfl (law_real _ _ _ A_q c_q ((utfFeed pd x.l).2) A_v c_v ((feedW (wd, mk, lg) (utfFeed pd x.l).1).2.1) ((feedW (wd, mk, lg) (utfFeed pd x.l).1).2.2.1) ((feedW (wd, mk, lg) (utfFeed pd x.l).1).2.2.2) hh (h_q.up ((hl56.trans hl61).trans hl65)) k_q (h_v.up ((hl56.trans hl61).trans hl65)) k_v) rfl he fun v a W hp he => ?_
      obtain ⟨A85, cc86, A87, cc88, rfl, hf89, hc90, hf91, hc92, hh⟩ := hp
      replace hh := hh.up2
      replace hh := hh.up2
      replace hh := hh.up2
      refine aen ⟨_, _, (Snap.le.refl _), hh⟩ ?_
      refine aha1 (i := 7) (by kernel_rfl) ?_
      refine aop rfl ?_
      refine gy rfl he rfl ?_
      refine cal cb_12 rfl (ref07_Same _ _ _ A77 cc78 ((utfFeed pd x.l).2) A79 cc80 ((feedW (wd, mk, lg) (utfFeed pd x.l).1).2.1) ((feedW (wd, mk, lg) (utfFeed pd x.l).1).2.2.1) ((feedW (wd, mk, lg) (utfFeed pd x.l).1).2.2.2) A85 cc86 ((utfFeed pd x.l).2) A87 cc88 ((feedW (wd, mk, lg) (utfFeed pd x.l).1).2.1) ((feedW (wd, mk, lg) (utfFeed pd x.l).1).2.2.1) ((feedW (wd, mk, lg) (utfFeed pd x.l).1).2.2.2) hh hf81 hc82 hf83 hc84 hf89 hc90 hf91 hc92 (by omega)) rfl he fun v a W hp he => ?_
      obtain ⟨rfl, hh⟩ := hp
      replace hh := hh.up2
      replace hh := hh.up2
      replace hh := hh.up2
      refine aen ⟨_, _, (Snap.le.refl _), hh⟩ ?_
      replace hh := hh.up2
      replace hh := hh.up2
      replace hh := hh.up2
      refine ahp (d := 63) (v := .bool (!(decide (((utfFeed pd x.l).2) = ((utfFeed pd x.l).2)) && (decide (((feedW (wd, mk, lg) (utfFeed pd x.l).1).2.1) = ((feedW (wd, mk, lg) (utfFeed pd x.l).1).2.1)) && ((((feedW (wd, mk, lg) (utfFeed pd x.l).1).2.2.1) == ((feedW (wd, mk, lg) (utfFeed pd x.l).1).2.2.1)) && (((feedW (wd, mk, lg) (utfFeed pd x.l).1).2.2.2) == ((feedW (wd, mk, lg) (utfFeed pd x.l).1).2.2.2))))))) 8 rfl (by kernel_rfl) (by kernel_rfl) (by kernel_rfl) rfl rfl rfl he ⟨_, _, (Snap.le.refl _), hh⟩ (fun W hS => by
          refine gy rfl he rfl ?_
          refine nt rfl rfl he fun a he => ?_
          exact aqe he) fun a he => ?_
      replace hh := hh.up2
      replace hh := hh.up2
      replace hh := hh.up2
      refine ahp (d := 64) (v := .bool (!(decide (((utfFeed pd x.l).2) = ((utfFeed pd x.l).2)) && (decide (((feedW (wd, mk, lg) (utfFeed pd x.l).1).2.1) = ((feedW (wd, mk, lg) (utfFeed pd x.l).1).2.1)) && ((((feedW (wd, mk, lg) (utfFeed pd x.l).1).2.2.1) == ((feedW (wd, mk, lg) (utfFeed pd x.l).1).2.2.1)) && (((feedW (wd, mk, lg) (utfFeed pd x.l).1).2.2.2) == ((feedW (wd, mk, lg) (utfFeed pd x.l).1).2.2.2))))))) 9 rfl (by kernel_rfl) (by kernel_rfl) (by kernel_rfl) rfl rfl rfl he ⟨_, _, (Snap.le.refl _), hh⟩ (fun W hS => by
          refine pkf rfl rfl rfl he fun a he => ?_
          exact aqe he) fun a he => ?_
      refine ahd (by kernel_rfl) ?_
      refine en ?_
      replace he := he.be (t := 64) (v' := .bool false) rfl (by simp)
      refine cnf he rfl ?_
      refine sk ?_
      refine nm_then ?_
      refine rg ?_
      refine ldA [.slice A66 (((utfFeed pd x.l).2).length) cc67, .slice A68 (((feedW (wd, mk, lg) (utfFeed pd x.l).1).2.1).length) cc69, .bool ((feedW (wd, mk, lg) (utfFeed pd x.l).1).2.2.1), .bool ((feedW (wd, mk, lg) (utfFeed pd x.l).1).2.2.2)] rb_30 ti_30 rfl ((Rd.obj hh.at0 0).take 4) rfl rfl he fun a he => ?_
      replace hh := hh.up2
      refine st #[.slice A66 (((utfFeed pd x.l).2).length) cc67, .slice A68 (((feedW (wd, mk, lg) (utfFeed pd x.l).1).2.1).length) cc69, .bool ((feedW (wd, mk, lg) (utfFeed pd x.l).1).2.2.1), .bool ((feedW (wd, mk, lg) (utfFeed pd x.l).1).2.2.2)] ti_30 rfl rfl rfl rfl (by simp [Value.oneCell']) (by simp) he hh fun W hh => ?_
      replace hh : Hp I64 (.obj bb3 (.cells [.slice A66 (((utfFeed pd x.l).2).length) cc67, .slice A68 (((feedW (wd, mk, lg) (utfFeed pd x.l).1).2.1).length) cc69, .bool ((feedW (wd, mk, lg) (utfFeed pd x.l).1).2.2.1), .bool ((feedW (wd, mk, lg) (utfFeed pd x.l).1).2.2.2)].toArray 30) :: _) W := hh
      refine en_blk ?_
      refine nm_then ?_
      refine rg ?_
      refine mv rfl rfl he fun a he => ?_
      refine ad (((i + 1) : Nat) : Int) rfl rfl (w64 (by omega) (by omega)) rfl he fun a he => ?_
      refine asg rfl rfl he fun a he => ?_
      refine en ?_
      replace hh := hh.up1
      replace hh := hh.drop
      replace hh := hh.up1
      replace hh := hh.drop
      replace hh := hh.up2
      replace hh := hh.drop
      replace hh := hh.up2
      replace hh := hh.up2
      exact ⟨(i + 1, tot ++ x.l, got ++ (feedW (wd, mk, lg) (utfFeed pd x.l).1).1, (utfFeed pd x.l).2, (feedW (wd, mk, lg) (utfFeed pd x.l).1).2.1, (feedW (wd, mk, lg) (utfFeed pd x.l).1).2.2.1, (feedW (wd, mk, lg) (utfFeed pd x.l).1).2.2.2), ⟨I64, A14, A52, A66, A68, cc15, cc53, cc67, cc69, ((((hleI6.trans hleI17).trans hl56).trans hl61).trans hl65), he.keep [0, 3, 4, 5, 6, 7] rfl, hh, hf70, hc71, hf72, hc73, by omega, by omega, by rw [List.length_append]; omega, by rw [List.length_append]; omega, part_step hJ⟩, by show 40 - (i + 1) < 40 - i; omega⟩
  · refine ext ?_
    refine ex_then ?_
    refine ex_then ?_
    refine ex_in ?_
    refine nm_then ?_
    refine sq ?_
    have hv := part_valid hJ
    have hvl := hv.len
    have hv2 := hv.2.1
    have hend := part_end hJ
    rw [← List.append_assoc] at hend
    have hal2 := utfAll_len tot
    have hul := utfAll_len pd
    have hfl := feedW_len (wd, mk, lg) (utfAll pd)
    have hfl2 := flush_len (feedW (wd, mk, lg) (utfAll pd)).2.1 (feedW (wd, mk, lg) (utfAll pd)).2.2.2
    refine rg ?_
    refine mv rfl rfl he fun a he => ?_
    refine ldA [.slice A_p pd.length c_p, .slice A_w wd.length c_w, .bool mk, .bool lg] rb_30 ti_30 rfl ((Rd.obj hh.at2 0).take 4) rfl rfl he fun a he => ?_
    refine cal cb_15 rfl (token_End _ _ _ A_p c_p pd A_w c_w wd mk lg hh h_p k_p h_w k_w (by omega) (by omega)) rfl he fun v a W hp he => ?_
    obtain ⟨I93, A95, cc96, rfl, hl94, hh⟩ := hp
    replace hh := hh.up1
    refine ap ts_44 rfl rfl (Ch.rd hh.at1) (by simp) (one_map (fun _ => rfl) _) (by simp only [List.length_append]; omega) rfl he hh fun A98 cc99 a W he hh => ?_
    replace hh := hh.re (n' := ((got ++ (feedW (wd, mk, lg) (utfAll pd)).1 ++ flushW (feedW (wd, mk, lg) (utfAll pd)).2.1 (feedW (wd, mk, lg) (utfAll pd)).2.2.2)).length) (cs' := ((got ++ (feedW (wd, mk, lg) (utfAll pd)).1 ++ flushW (feedW (wd, mk, lg) (utfAll pd)).2.1 (feedW (wd, mk, lg) (utfAll pd)).2.2.2)).map str1) (by simp) (by simp [str1])
    replace he := he.be (t := 69) (v' := .slice A98 ((got ++ (feedW (wd, mk, lg) (utfAll pd)).1 ++ flushW (feedW (wd, mk, lg) (utfAll pd)).2.1 (feedW (wd, mk, lg) (utfAll pd)).2.2.2)).length cc99) rfl (by congr 1; simp)
    refine asg rfl rfl he fun a he => ?_
    refine en ?_
    refine sq ?_
    refine rg ?_
    refine mv rfl rfl he fun a he => ?_
    refine mv rfl rfl he fun a he => ?_
    refine gy rfl he rfl ?_
    refine mv rfl rfl he fun a he => ?_
    refine gy rfl he rfl ?_
    refine mv rfl rfl he fun a he => ?_
    refine gy rfl he rfl ?_
    replace hh := hh.up2
    have hc104 := (Ch.rowcap hh.at0).1
    obtain ⟨I101, hl102, hh, hf103⟩ := hh.freezeRow
    refine cal cb_17 rfl (token_All _ _ _ A_4 c_4 tot hh hf103 hc104 (by omega)) rfl he fun v a W hp he => ?_
    obtain ⟨I105, A107, cc108, rfl, hl106, hh⟩ := hp
    refine gy rfl he rfl ?_
    replace hh := hh.up1
    have hc113 := (Ch.rowcap hh.at0).1
    obtain ⟨I110, hl111, hh, hf112⟩ := hh.freezeRow
    have hc117 := (Ch.rowcap hh.at0).1
    obtain ⟨I114, hl115, hh, hf116⟩ := hh.freezeRow
    refine cal cb_16 rfl (ref06_Same _ _ _ A98 cc99 (got ++ (feedW (wd, mk, lg) (utfAll pd)).1 ++ flushW (feedW (wd, mk, lg) (utfAll pd)).2.1 (feedW (wd, mk, lg) (utfAll pd)).2.2.2) A107 cc108 (allW (utfAll tot)) hh (hf112.up hl115) hc113 hf116 hc117 (by simp only [List.length_append]; omega)) rfl he fun v a W hp he => ?_
    obtain ⟨rfl, hh⟩ := hp
    refine pkt rfl rfl rfl he fun a he => ?_
    refine mv rfl rfl he fun a he => ?_
    replace he := he.be (t := 77) (v' := .bool true) rfl (by rw [hend]; simp)
    refine gy rfl he rfl ?_
    refine mv rfl rfl he fun a he => ?_
    refine gy rfl he rfl ?_
    refine mv rfl rfl he fun a he => ?_
    refine gy rfl he rfl ?_
    refine cal cb_18 rfl (ref07_All _ _ _ A_4 c_4 tot hh (hf103.up ((hl106.trans hl111).trans hl115)) hc104 (by omega)) rfl he fun v a W hp he => ?_
    obtain ⟨I118, A120, cc121, rfl, hl119, hh⟩ := hp
    refine gy rfl he rfl ?_
    have hc126 := (Ch.rowcap hh.at0).1
    obtain ⟨I123, hl124, hh, hf125⟩ := hh.freezeRow
    refine cal cb_16 rfl (ref06_Same _ _ _ A98 cc99 (got ++ (feedW (wd, mk, lg) (utfAll pd)).1 ++ flushW (feedW (wd, mk, lg) (utfAll pd)).2.1 (feedW (wd, mk, lg) (utfAll pd)).2.2.2) A120 cc121 (allS (utfAll tot).length (utfAll tot)) hh (hf112.up ((hl115.trans hl119).trans hl124)) hc113 hf125 hc126 (by simp only [List.length_append]; omega)) rfl he fun v a W hp he => ?_
    obtain ⟨rfl, hh⟩ := hp
    refine pkt rfl rfl rfl he fun a he => ?_
    refine asg rfl rfl he fun a he => ?_
    refine en ?_
    refine rt ?_
    refine rets1 Try.results5 he rfl (Ret.mk ?_)
    replace hh := hh.drop
    replace hh := hh.drop
    exact ⟨I123, by rw [hend, all_eq]; simp, ((((((((hl2.trans hleI6).trans hl94).trans hl102).trans hl106).trans hl111).trans hl115).trans hl119).trans hl124), hh⟩

end Go.Proofs.Ytndaogkpgoimlaa

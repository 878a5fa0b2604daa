/- Walks through the given program's functions, printed op by op by this session's own program; what each computes is told by the plain functions of the texts S... -/
import Derived.Test.YtndaogkpgoimlaaDoorB3
import Derived.KernelRfl
namespace Go.Proofs.YtndaogkpgoimlaaDoor
open Go Go.RowKit K
set_option linter.unusedVariables false
theorem cb_34 : callable Tryd.prog 34 = true := by kernel_rfl
theorem cb_37 : callable Tryd.prog 37 = true := by kernel_rfl
theorem cb_44 : callable Tryd.prog 44 = true := by kernel_rfl
theorem cb_46 : callable Tryd.prog 46 = true := by kernel_rfl
theorem fo_26_0 : fieldOff Tryd.prog 26 0 = some 0 := by kernel_rfl
theorem fo_26_1 : fieldOff Tryd.prog 26 1 = some 1 := by kernel_rfl
theorem fo_26_2 : fieldOff Tryd.prog 26 2 = some 2 := by kernel_rfl
theorem fo_26_3 : fieldOff Tryd.prog 26 3 = some 3 := by kernel_rfl
theorem rb_26 : isRowB Tryd.prog 26 = some true := by kernel_rfl
theorem ti_26 : TI Tryd.prog 26 (.agg #[.slice none 0 0, .slice none 0 0, .bool false, .bool false]) 4 56 := ⟨by kernel_rfl, rfl⟩
theorem ref07_Put (I : Snap) (L : List Ch) (W : World) (A_pd : Option Addr) (c_pd : Nat) (pd : List UInt8) (A_wd : Option Addr) (c_wd : Nat) (wd : List Int) (mk : Bool) (lg : Bool) (hh : Hp I L W) (h_pd : Fz I A_pd (pd.map b8)) (k_pd : pd.length ≤ c_pd) (h_wd : Fz I A_wd (wd.map r32)) (k_wd : wd.length ≤ c_wd) (hb : pd.length ≤ 100000000000) (hb2 : wd.length ≤ 10000000000) (hc : ∀ c ∈ wd, c < 4294967296) :
    Calls Tryd.prog 38 #[.agg #[.slice A_pd pd.length c_pd, .slice A_wd wd.length c_wd, .bool mk, .bool lg]] W (Ret fun v W => ∃ (I' : Snap) (A1 : Option Addr) (c1 : Nat), v = .slice A1 (tokPut pd wd mk lg).length c1 ∧ I.le I' ∧ Hp I' (.row A1 (tokPut pd wd mk lg).length c1 5 1 ((tokPut pd wd mk lg).map b8) :: L) W) := by
  refine enter Tryd.func38 rfl Tryd.ntmps38 rfl fun a he => ?_
  refine sq ?_
  refine rg ?_
  refine bx #[.slice A_pd pd.length c_pd, .slice A_wd wd.length c_wd, .bool mk, .bool lg] rfl rfl rfl he hh fun bb1 a W he hh => ?_
  replace hh : Hp I (.obj bb1 (.cells [.slice A_pd pd.length c_pd, .slice A_wd wd.length c_wd, .bool mk, .bool lg].toArray 26) :: _) W := hh
  refine asg rfl rfl he fun a he => ?_
  refine en ?_
  refine sq ?_
  refine rg ?_
  refine fa fo_26_0 rfl rfl he fun a he => ?_
  refine ld rb_23 rfl (ocell hh.at0 rfl) rfl he fun a he => ?_
  refine ln Tryd.underlying23 rfl rfl he fun a he => ?_
  refine ci ((pd.length : Nat) : Int) .u64 ud_3 Tryd.underlying55 rfl (wu64 (by omega) (by omega)) rfl he fun a he => ?_
  refine cal cb_37 rfl (ref01_Put _ _ _ none 0 [] pd.length hh (Fz.nil _ _) (Nat.le_refl _) (by simp) (by omega)) rfl he fun v a W hp he => ?_
  obtain ⟨A2, cc3, rfl, hh⟩ := hp
  refine asg rfl rfl he fun a he => ?_
  refine en ?_
  refine sq ?_
  refine rg ?_
  refine mv rfl rfl he fun a he => ?_
  refine fa fo_26_0 rfl rfl he fun a he => ?_
  refine ld rb_23 rfl (ocell hh.at1 rfl) rfl he fun a he => ?_
  refine ap ts_23 rfl rfl (h_pd.rd hh) (by first | rfl | (simp; done) | (simp; omega)) (one_map (fun _ => rfl) _) (by have h1 := putN_ten (n := pd.length) (by omega); simp only [List.nil_append, List.length_append]; omega) rfl he hh fun A5 cc6 a W he hh => ?_
  replace hh := hh.re (n' := ((([]) ++ putN pd.length ++ pd)).length) (cs' := ((([]) ++ putN pd.length ++ pd)).map b8) (by first | rfl | (simp; done) | (simp; omega)) (by first | (simp [b8]; done) | (simp [b8]; omega))
  replace he := he.be (t := 15) (v' := .slice A5 ((([]) ++ putN pd.length ++ pd)).length cc6) rfl (by congr 1 <;> (first | rfl | (simp; done) | (simp; omega)))
  refine asg rfl rfl he fun a he => ?_
  refine en ?_
  refine sq ?_
  refine rg ?_
  refine mv rfl rfl he fun a he => ?_
  refine fa fo_26_1 rfl rfl he fun a he => ?_
  refine ld rb_24 rfl (ocell hh.at1 rfl) rfl he fun a he => ?_
  refine ln Tryd.underlying24 rfl rfl he fun a he => ?_
  refine ci ((wd.length : Nat) : Int) .u64 ud_3 Tryd.underlying55 rfl (wu64 (by omega) (by omega)) rfl he fun a he => ?_
  have hc11 := (Ch.rowcap hh.at0).1
  obtain ⟨I8, hl9, hh, hf10⟩ := hh.freezeRow
  refine cal cb_37 rfl (ref01_Put _ _ _ A5 cc6 (([]) ++ putN pd.length ++ pd) wd.length hh hf10 hc11 (by have h1 := putN_ten (n := pd.length) (by omega); simp only [List.nil_append, List.length_append]; omega) (by omega)) rfl he fun v a W hp he => ?_
  obtain ⟨A12, cc13, rfl, hh⟩ := hp
  refine asg rfl rfl he fun a he => ?_
  refine en ?_
  refine sq ?_
  refine sq ?_
  refine rg ?_
  refine asg rfl rfl he fun a he => ?_
  refine en ?_
  refine bk ?_
  replace hh := hh.up1
  replace hh := hh.up1
  refine lp (fun (s : Nat × List UInt8) a w => match s with | (i, pre) => ∃ (I15 : Snap) (A_3 : Option Addr) (c_3 : Nat), I8.le I15 ∧ Env 54 [(0, .agg #[.slice A_pd pd.length c_pd, .slice A_wd wd.length c_wd, .bool mk, .bool lg]), (1, .pointer (some ⟨bb1, 0, none⟩)), (2, .slice none 0 0), (3, .slice A_3 pre.length c_3), (4, .int .i64 ((i : Nat) : Int))] a ∧ Hp I15 (.row A_3 pre.length c_3 5 1 (pre.map b8) :: .obj bb1 (.cells ([.slice A_pd pd.length c_pd, .slice A_wd wd.length c_wd, .bool mk, .bool lg]).toArray 26) :: L) w ∧ i ≤ wd.length ∧ pre.length ≤ 200000000000 + 10 * i ∧ pre ++ putWord (wd.drop i) = ((putN pd.length ++ pd) ++ putN wd.length) ++ putWord wd)
      (fun s => wd.length - s.1) (0, ((putN pd.length ++ pd) ++ putN wd.length)) ⟨I8, A12, cc13, Snap.le.refl _, he.keep [0, 1, 2, 3, 4] rfl, hh, Nat.zero_le _, by have h1 := putN_ten (n := pd.length) (by omega); have h2 := putN_ten (n := wd.length) (by omega); simp only [List.length_append]; omega, by simp⟩ fun s a W hinv => ?_
  obtain ⟨i, pre⟩ := s
  obtain ⟨I15, A_3, c_3, hleI15, he, hh, hi, hl, hinv⟩ := hinv
  refine sq ?_
  refine sq ?_
  refine rg ?_
  refine mv rfl rfl he fun a he => ?_
  refine fa fo_26_1 rfl rfl he fun a he => ?_
  refine ld rb_24 rfl (ocell hh.at1 rfl) rfl he fun a he => ?_
  refine ln Tryd.underlying24 rfl rfl he fun a he => ?_
  refine lt rfl rfl rfl he fun a he => ?_
  refine en ?_
  refine cnd he rfl (fun h16 => ?_) (fun h16 => ?_)
  · replace h16 : i < wd.length := by omega
    refine sk ?_
    refine nm_then ?_
    refine sq ?_
    refine bk ?_
    refine sq ?_
    refine rg ?_
    refine asg rfl rfl he fun a he => ?_
    refine en ?_
    refine sq ?_
    refine sq ?_
    refine rg ?_
    refine fa fo_26_1 rfl rfl he fun a he => ?_
    refine ld rb_24 rfl (ocell hh.at1 rfl) rfl he fun a he => ?_
    refine mv rfl rfl he fun a he => ?_
    obtain ⟨c, hx⟩ := idx_some (xs := wd) (i := i) (by omega)
    refine ia1 (xs := wd) (i) ts_24 rfl rfl ((h_wd.up (hl9.trans hleI15)).rd hh) hx rfl he fun bb17 oo18 a hc19 he => ?_
    refine ld rb_21 rfl hc19 rfl he fun a he => ?_
    have hcc := hc c (List.mem_of_getElem? hx)
    refine gt rfl rfl rfl he fun a he => ?_
    refine en ?_
    refine cnd he rfl (fun h34 => ?_) (fun h34 => ?_)
    · refine rg ?_
      refine fa fo_26_1 rfl rfl he fun a he => ?_
      refine ld rb_24 rfl (ocell hh.at1 rfl) rfl he fun a he => ?_
      refine mv rfl rfl he fun a he => ?_
      refine ia1 (xs := wd) (i) ts_24 rfl rfl ((h_wd.up (hl9.trans hleI15)).rd hh) hx rfl he fun bb20 oo21 a hc22 he => ?_
      refine ld rb_21 rfl hc22 rfl he fun a he => ?_
      refine ci ((c.toNat : Nat) : Int) .u64 ud_21 Tryd.underlying55 rfl (wu64 (by omega) (by omega)) rfl he fun a he => ?_
      refine asg rfl rfl he fun a he => ?_
      refine en ?_
      refine rg ?_
      refine mv rfl rfl he fun a he => ?_
      refine mv rfl rfl he fun a he => ?_
      have hc26 := (Ch.rowcap hh.at0).1
      obtain ⟨I23, hl24, hh, hf25⟩ := hh.freezeRow
      refine cal cb_37 rfl (ref01_Put _ _ _ A_3 c_3 pre c.toNat hh hf25 hc26 (by omega) (by omega)) rfl he fun v a W hp he => ?_
      obtain ⟨A27, cc28, rfl, hh⟩ := hp
      refine asg rfl rfl he fun a he => ?_
      refine en_blk ?_
      refine nm_then ?_
      refine rg ?_
      refine mv rfl rfl he fun a he => ?_
      refine ad (((i + 1) : Nat) : Int) rfl rfl (w64 (by omega) (by omega)) rfl he fun a he => ?_
      refine asg rfl rfl he fun a he => ?_
      refine en ?_
      replace hh := hh.up1
      replace hh := hh.up1
      exact ⟨(i + 1, pre ++ putN c.toNat), ⟨I23, A27, cc28, (hleI15.trans hl24), he.keep [0, 1, 2, 3, 4] rfl, hh, by omega, by have h1 := putN_ten (n := c.toNat) (by omega); simp only [List.length_append]; omega, putWord_next hinv hx⟩, by show wd.length - (i + 1) < wd.length - i; omega⟩
    · refine sk ?_
      refine nm_then ?_
      refine rg ?_
      refine mv rfl rfl he fun a he => ?_
      refine mv rfl rfl he fun a he => ?_
      have hc33 := (Ch.rowcap hh.at0).1
      obtain ⟨I30, hl31, hh, hf32⟩ := hh.freezeRow
      refine cal cb_37 rfl (ref01_Put _ _ _ A_3 c_3 pre 0 hh hf32 hc33 (by omega) (by omega)) rfl he fun v a W hp he => ?_
      obtain ⟨A34, cc35, rfl, hh⟩ := hp
      refine asg rfl rfl he fun a he => ?_
      refine en_blk ?_
      refine nm_then ?_
      refine rg ?_
      refine mv rfl rfl he fun a he => ?_
      refine ad (((i + 1) : Nat) : Int) rfl rfl (w64 (by omega) (by omega)) rfl he fun a he => ?_
      refine asg rfl rfl he fun a he => ?_
      refine en ?_
      replace hh := hh.up1
      replace hh := hh.up1
      exact ⟨(i + 1, pre ++ putN 0), ⟨I30, A34, cc35, (hleI15.trans hl31), he.keep [0, 1, 2, 3, 4] rfl, hh, by omega, by have h1 := putN_ten (n := 0) (by omega); simp only [List.length_append]; omega, by have e0 : c.toNat = 0 := (by omega); have := putWord_next hinv hx; rw [e0] at this; exact this⟩, by show wd.length - (i + 1) < wd.length - i; omega⟩
  · replace h16 : ¬ (i < wd.length) := by omega
    refine ext ?_
    refine ex_then ?_
    refine ex_then ?_
    refine ex_in ?_
    refine nm_then ?_
    refine sq ?_
    refine rg ?_
    refine asg rfl rfl he fun a he => ?_
    refine en ?_
    refine sq ?_
    refine sq ?_
    refine rg ?_
    refine fa fo_26_2 rfl rfl he fun a he => ?_
    refine ld rb_4 rfl (ocell hh.at1 rfl) rfl he fun a he => ?_
    refine en ?_
    refine cnb he rfl (fun hm => ?_) (fun hm => ?_)
    · refine rg ?_
      refine asg rfl rfl he fun a he => ?_
      refine en ?_
      refine sq ?_
      refine sq ?_
      refine rg ?_
      refine fa fo_26_3 rfl rfl he fun a he => ?_
      refine ld rb_4 rfl (ocell hh.at1 rfl) rfl he fun a he => ?_
      refine en ?_
      refine cnb he rfl (fun hg => ?_) (fun hg => ?_)
      · refine rg ?_
        refine mv rfl rfl he fun a he => ?_
        refine ad (((1 + 2) : Nat) : Int) rfl rfl (wu8 (by omega) (by omega)) rfl he fun a he => ?_
        refine asg rfl rfl he fun a he => ?_
        refine en ?_
        refine sq ?_
        refine rg ?_
        refine mv rfl rfl he fun a he => ?_
        refine mv rfl rfl he fun a he => ?_
        refine bsl [(0, .int .u8 (((1 + 2) : Nat) : Int))] [.int .u8 (((1 + 2) : Nat) : Int)] ts_23 rfl rfl rfl rfl rfl rfl rfl he hh fun bb37 a W he hh => ?_
        replace hh := hh.up1
        refine ap ts_23 rfl rfl (Ch.rd hh.at1) (by first | rfl | (simp; done) | (simp; omega)) (by simp [Value.oneCell']) (by first | omega | (simp; omega)) rfl he hh fun A38 cc39 a W he hh => ?_
        replace hh := hh.re (n' := ((pre ++ [UInt8.ofNat (1 + 2)])).length) (cs' := ((pre ++ [UInt8.ofNat (1 + 2)])).map b8) (by first | rfl | (simp; done) | (simp; omega)) (by first | (simp [b8]; done) | (simp [b8]; omega))
        replace he := he.be (t := 53) (v' := .slice A38 ((pre ++ [UInt8.ofNat (1 + 2)])).length cc39) rfl (by congr 1 <;> (first | rfl | (simp; done) | (simp; omega)))
        replace hh := hh.up1
        replace hh := hh.drop
        refine asg rfl rfl he fun a he => ?_
        refine en ?_
        refine rt ?_
        refine rets1 Tryd.results38 he rfl (Ret.mk ?_)
        subst hm hg
        rw [tokPut, ← putWord_end hinv (by omega)]
        replace hh := hh.up1
        replace hh := hh.drop
        exact ⟨I15, A38, cc39, rfl, (hl9.trans hleI15), hh⟩
      · refine sk ?_
        refine nm_then ?_
        refine sq ?_
        refine rg ?_
        refine mv rfl rfl he fun a he => ?_
        refine mv rfl rfl he fun a he => ?_
        refine bsl [(0, .int .u8 1)] [.int .u8 1] ts_23 rfl rfl rfl rfl rfl rfl rfl he hh fun bb41 a W he hh => ?_
        replace hh := hh.up1
        refine ap ts_23 rfl rfl (Ch.rd hh.at1) (by first | rfl | (simp; done) | (simp; omega)) (by simp [Value.oneCell']) (by first | omega | (simp; omega)) rfl he hh fun A42 cc43 a W he hh => ?_
        replace hh := hh.re (n' := ((pre ++ [UInt8.ofNat 1])).length) (cs' := ((pre ++ [UInt8.ofNat 1])).map b8) (by first | rfl | (simp; done) | (simp; omega)) (by first | (simp [b8]; done) | (simp [b8]; omega))
        replace he := he.be (t := 53) (v' := .slice A42 ((pre ++ [UInt8.ofNat 1])).length cc43) rfl (by congr 1 <;> (first | rfl | (simp; done) | (simp; omega)))
        replace hh := hh.up1
        replace hh := hh.drop
        refine asg rfl rfl he fun a he => ?_
        refine en ?_
        refine rt ?_
        refine rets1 Tryd.results38 he rfl (Ret.mk ?_)
        subst hm hg
        rw [tokPut, ← putWord_end hinv (by omega)]
        replace hh := hh.up1
        replace hh := hh.drop
        exact ⟨I15, A42, cc43, rfl, (hl9.trans hleI15), hh⟩
    · refine sk ?_
      refine nm_then ?_
      refine sq ?_
      refine sq ?_
      refine rg ?_
      refine fa fo_26_3 rfl rfl he fun a he => ?_
      refine ld rb_4 rfl (ocell hh.at1 rfl) rfl he fun a he => ?_
      refine en ?_
      refine cnb he rfl (fun hg => ?_) (fun hg => ?_)
      · refine rg ?_
        refine mv rfl rfl he fun a he => ?_
        refine ad (((0 + 2) : Nat) : Int) rfl rfl (wu8 (by omega) (by omega)) rfl he fun a he => ?_
        refine asg rfl rfl he fun a he => ?_
        refine en ?_
        refine sq ?_
        refine rg ?_
        refine mv rfl rfl he fun a he => ?_
        refine mv rfl rfl he fun a he => ?_
        refine bsl [(0, .int .u8 (((0 + 2) : Nat) : Int))] [.int .u8 (((0 + 2) : Nat) : Int)] ts_23 rfl rfl rfl rfl rfl rfl rfl he hh fun bb45 a W he hh => ?_
        replace hh := hh.up1
        refine ap ts_23 rfl rfl (Ch.rd hh.at1) (by first | rfl | (simp; done) | (simp; omega)) (by simp [Value.oneCell']) (by first | omega | (simp; omega)) rfl he hh fun A46 cc47 a W he hh => ?_
        replace hh := hh.re (n' := ((pre ++ [UInt8.ofNat (0 + 2)])).length) (cs' := ((pre ++ [UInt8.ofNat (0 + 2)])).map b8) (by first | rfl | (simp; done) | (simp; omega)) (by first | (simp [b8]; done) | (simp [b8]; omega))
        replace he := he.be (t := 53) (v' := .slice A46 ((pre ++ [UInt8.ofNat (0 + 2)])).length cc47) rfl (by congr 1 <;> (first | rfl | (simp; done) | (simp; omega)))
        replace hh := hh.up1
        replace hh := hh.drop
        refine asg rfl rfl he fun a he => ?_
        refine en ?_
        refine rt ?_
        refine rets1 Tryd.results38 he rfl (Ret.mk ?_)
        subst hm hg
        rw [tokPut, ← putWord_end hinv (by omega)]
        replace hh := hh.up1
        replace hh := hh.drop
        exact ⟨I15, A46, cc47, rfl, (hl9.trans hleI15), hh⟩
      · refine sk ?_
        refine nm_then ?_
        refine sq ?_
        refine rg ?_
        refine mv rfl rfl he fun a he => ?_
        refine mv rfl rfl he fun a he => ?_
        refine bsl [(0, .int .u8 0)] [.int .u8 0] ts_23 rfl rfl rfl rfl rfl rfl rfl he hh fun bb49 a W he hh => ?_
        replace hh := hh.up1
        refine ap ts_23 rfl rfl (Ch.rd hh.at1) (by first | rfl | (simp; done) | (simp; omega)) (by simp [Value.oneCell']) (by first | omega | (simp; omega)) rfl he hh fun A50 cc51 a W he hh => ?_
        replace hh := hh.re (n' := ((pre ++ [UInt8.ofNat 0])).length) (cs' := ((pre ++ [UInt8.ofNat 0])).map b8) (by first | rfl | (simp; done) | (simp; omega)) (by first | (simp [b8]; done) | (simp [b8]; omega))
        replace he := he.be (t := 53) (v' := .slice A50 ((pre ++ [UInt8.ofNat 0])).length cc51) rfl (by congr 1 <;> (first | rfl | (simp; done) | (simp; omega)))
        replace hh := hh.up1
        replace hh := hh.drop
        refine asg rfl rfl he fun a he => ?_
        refine en ?_
        refine rt ?_
        refine rets1 Tryd.results38 he rfl (Ret.mk ?_)
        subst hm hg
        rw [tokPut, ← putWord_end hinv (by omega)]
        replace hh := hh.up1
        replace hh := hh.drop
        exact ⟨I15, A50, cc51, rfl, (hl9.trans hleI15), hh⟩

theorem ref07_Same (I : Snap) (L : List Ch) (W : World) (A_pd : Option Addr) (c_pd : Nat) (pd : List UInt8) (A_wd : Option Addr) (c_wd : Nat) (wd : List Int) (mk : Bool) (lg : Bool) (A_pd2 : Option Addr) (c_pd2 : Nat) (pd2 : List UInt8) (A_wd2 : Option Addr) (c_wd2 : Nat) (wd2 : List Int) (mk2 : Bool) (lg2 : Bool) (hh : Hp I L W) (h_pd : Fz I A_pd (pd.map b8)) (k_pd : pd.length ≤ c_pd) (h_wd : Fz I A_wd (wd.map r32)) (k_wd : wd.length ≤ c_wd) (h_pd2 : Fz I A_pd2 (pd2.map b8)) (k_pd2 : pd2.length ≤ c_pd2) (h_wd2 : Fz I A_wd2 (wd2.map r32)) (k_wd2 : wd2.length ≤ c_wd2) (hb : wd.length ≤ 1000000000000) :
    Calls Tryd.prog 32 #[.agg #[.slice A_pd pd.length c_pd, .slice A_wd wd.length c_wd, .bool mk, .bool lg], .agg #[.slice A_pd2 pd2.length c_pd2, .slice A_wd2 wd2.length c_wd2, .bool mk2, .bool lg2]] W (Ret fun v W => v = .bool (decide (pd = pd2) && (decide (wd = wd2) && ((mk == mk2) && (lg == lg2)))) ∧ Hp I (L) W) := by
  refine enter Tryd.func32 rfl Tryd.ntmps32 rfl fun a he => ?_
  refine sq ?_
  refine rg ?_
  refine bx #[.slice A_pd pd.length c_pd, .slice A_wd wd.length c_wd, .bool mk, .bool lg] rfl rfl rfl he hh fun bb1 a W he hh => ?_
  replace hh : Hp I (.obj bb1 (.cells [.slice A_pd pd.length c_pd, .slice A_wd wd.length c_wd, .bool mk, .bool lg].toArray 26) :: _) W := hh
  refine bx #[.slice A_pd2 pd2.length c_pd2, .slice A_wd2 wd2.length c_wd2, .bool mk2, .bool lg2] rfl rfl rfl he hh fun bb2 a W he hh => ?_
  replace hh : Hp I (.obj bb2 (.cells [.slice A_pd2 pd2.length c_pd2, .slice A_wd2 wd2.length c_wd2, .bool mk2, .bool lg2].toArray 26) :: _) W := hh
  refine asg rfl rfl he fun a he => ?_
  refine en ?_
  refine sq ?_
  refine rg ?_
  refine fa fo_26_0 rfl rfl he fun a he => ?_
  refine ld rb_23 rfl (ocell hh.at1 rfl) rfl he fun a he => ?_
  refine cvbs pd Tryd.underlying23 Tryd.underlying5 Tryd.underlying9 rfl (h_pd.rd hh) (by simp) rfl he fun a he => ?_
  refine fa fo_26_0 rfl rfl he fun a he => ?_
  refine ld rb_23 rfl (ocell hh.at0 rfl) rfl he fun a he => ?_
  refine cvbs pd2 Tryd.underlying23 Tryd.underlying5 Tryd.underlying9 rfl (h_pd2.rd hh) (by simp) rfl he fun a he => ?_
  refine seq' rfl rfl rfl he fun a he => ?_
  refine mv rfl rfl he fun a he => ?_
  refine sd he (t := 12) rfl (fun gpd he => ?_) (fun gpd he => ?_)
  · refine gy rfl he rfl ?_
    refine fa fo_26_1 rfl rfl he fun a he => ?_
    refine gy rfl he rfl ?_
    refine ld rb_24 rfl (ocell hh.at1 rfl) rfl he fun a he => ?_
    refine gy rfl he rfl ?_
    refine fa fo_26_1 rfl rfl he fun a he => ?_
    refine gy rfl he rfl ?_
    refine ld rb_24 rfl (ocell hh.at0 rfl) rfl he fun a he => ?_
    refine gy rfl he rfl ?_
    refine cal cb_44 rfl (ref04_Same _ _ _ A_wd c_wd wd A_wd2 c_wd2 wd2 hh h_wd k_wd h_wd2 k_wd2 hb) rfl he fun v a W hp he => ?_
    obtain ⟨rfl, hh⟩ := hp
    refine pkt rfl rfl rfl he fun a he => ?_
    refine mv rfl rfl he fun a he => ?_
    refine sb he (t := 19) rfl (fun h3 he => ?_) (fun h3 he => ?_)
    · refine gy rfl he rfl ?_
      refine fa fo_26_2 rfl rfl he fun a he => ?_
      refine gy rfl he rfl ?_
      refine ld rb_4 rfl (ocell hh.at1 rfl) rfl he fun a he => ?_
      refine gy rfl he rfl ?_
      refine fa fo_26_2 rfl rfl he fun a he => ?_
      refine gy rfl he rfl ?_
      refine ld rb_4 rfl (ocell hh.at0 rfl) rfl he fun a he => ?_
      refine gy rfl he rfl ?_
      refine beq' Tryd.underlying4 rfl rfl rfl he fun a he => ?_
      refine pkt rfl rfl rfl he fun a he => ?_
      refine mv rfl rfl he fun a he => ?_
      refine sb he (t := 26) rfl (fun h4 he => ?_) (fun h4 he => ?_)
      · refine gy rfl he rfl ?_
        refine fa fo_26_3 rfl rfl he fun a he => ?_
        refine gy rfl he rfl ?_
        refine ld rb_4 rfl (ocell hh.at1 rfl) rfl he fun a he => ?_
        refine gy rfl he rfl ?_
        refine fa fo_26_3 rfl rfl he fun a he => ?_
        refine gy rfl he rfl ?_
        refine ld rb_4 rfl (ocell hh.at0 rfl) rfl he fun a he => ?_
        refine gy rfl he rfl ?_
        refine beq' Tryd.underlying4 rfl rfl rfl he fun a he => ?_
        refine pkt rfl rfl rfl he fun a he => ?_
        refine asg rfl rfl he fun a he => ?_
        refine en ?_
        refine rt ?_
        refine rets1 Tryd.results32 he rfl (Ret.mk ?_)
        replace hh := hh.drop
        replace hh := hh.drop
        exact ⟨by simp at gpd; simp [*], hh⟩
      · refine gn rfl rfl he rfl rfl fun a he => ?_
        refine gn rfl rfl he rfl rfl fun a he => ?_
        refine gn rfl rfl he rfl rfl fun a he => ?_
        refine gn rfl rfl he rfl rfl fun a he => ?_
        refine gn rfl rfl he rfl rfl fun a he => ?_
        refine pkf rfl rfl rfl he fun a he => ?_
        refine asg rfl rfl he fun a he => ?_
        refine en ?_
        refine rt ?_
        refine rets1 Tryd.results32 he rfl (Ret.mk ?_)
        replace hh := hh.drop
        replace hh := hh.drop
        exact ⟨by simp at gpd; simp [*], hh⟩
    · refine gn rfl rfl he rfl rfl fun a he => ?_
      refine gn rfl rfl he rfl rfl fun a he => ?_
      refine gn rfl rfl he rfl rfl fun a he => ?_
      refine gn rfl rfl he rfl rfl fun a he => ?_
      refine gn rfl rfl he rfl rfl fun a he => ?_
      refine pkf rfl rfl rfl he fun a he => ?_
      refine mv rfl rfl he fun a he => ?_
      refine gn rfl rfl he rfl rfl fun a he => ?_
      refine gn rfl rfl he rfl rfl fun a he => ?_
      refine gn rfl rfl he rfl rfl fun a he => ?_
      refine gn rfl rfl he rfl rfl fun a he => ?_
      refine gn rfl rfl he rfl rfl fun a he => ?_
      refine pkf rfl rfl rfl he fun a he => ?_
      refine asg rfl rfl he fun a he => ?_
      refine en ?_
      refine rt ?_
      refine rets1 Tryd.results32 he rfl (Ret.mk ?_)
      replace hh := hh.drop
      replace hh := hh.drop
      exact ⟨by simp at gpd; simp [*], hh⟩
  · refine gn rfl rfl he rfl rfl fun a he => ?_
    refine gn rfl rfl he rfl rfl fun a he => ?_
    refine gn rfl rfl he rfl rfl fun a he => ?_
    refine gn rfl rfl he rfl rfl fun a he => ?_
    refine gn rfl rfl he rfl rfl fun a he => ?_
    refine pkf rfl rfl rfl he fun a he => ?_
    refine mv rfl rfl he fun a he => ?_
    refine gn rfl rfl he rfl rfl fun a he => ?_
    refine gn rfl rfl he rfl rfl fun a he => ?_
    refine gn rfl rfl he rfl rfl fun a he => ?_
    refine gn rfl rfl he rfl rfl fun a he => ?_
    refine gn rfl rfl he rfl rfl fun a he => ?_
    refine pkf rfl rfl rfl he fun a he => ?_
    refine mv rfl rfl he fun a he => ?_
    refine gn rfl rfl he rfl rfl fun a he => ?_
    refine gn rfl rfl he rfl rfl fun a he => ?_
    refine gn rfl rfl he rfl rfl fun a he => ?_
    refine gn rfl rfl he rfl rfl fun a he => ?_
    refine gn rfl rfl he rfl rfl fun a he => ?_
    refine pkf rfl rfl rfl he fun a he => ?_
    refine asg rfl rfl he fun a he => ?_
    refine en ?_
    refine rt ?_
    refine rets1 Tryd.results32 he rfl (Ret.mk ?_)
    replace hh := hh.drop
    replace hh := hh.drop
    exact ⟨by simp at gpd; simp [*], hh⟩

theorem ref07_Get (I : Snap) (L : List Ch) (W : World) (A_b : Option Addr) (c_b : Nat) (b : List UInt8) (hh : Hp I L W) (h_b : Fz I A_b (b.map b8)) (k_b : b.length ≤ c_b) (hb : b.length ≤ 140737488351232) :
    Calls Tryd.prog 35 #[.slice A_b b.length c_b] W (Ret fun v W => ∃ (I' : Snap) (A1 : Option Addr) (c1 : Nat) (A2 : Option Addr) (c2 : Nat), v = .tuple #[.agg #[.slice A1 ((refGet b).pd).length c1, .slice A2 ((refGet b).wd).length c2, .bool ((refGet b).mrk), .bool ((refGet b).lg)], .int .i64 ((refGet b).err)] ∧ I.le I' ∧ Fz I' A1 (((refGet b).pd).map b8) ∧ ((refGet b).pd).length ≤ c1 ∧ Fz I' A2 (((refGet b).wd).map r32) ∧ ((refGet b).wd).length ≤ c2 ∧ Hp I' (L) W) := by
  refine enter Tryd.func35 rfl Tryd.ntmps35 rfl fun a he => ?_
  refine sq ?_
  refine rg ?_
  refine al ti_26 rfl he hh fun bb1 a W he hh => ?_
  replace hh : Hp I (.obj bb1 (.cells [.slice none 0 0, .slice none 0 0, .bool false, .bool false].toArray 26) :: _) W := hh
  refine asg rfl rfl he fun a he => ?_
  refine en ?_
  refine sq ?_
  refine rg ?_
  refine bld #[.slice none 0 0, .slice none 0 0, .bool false, .bool false] rfl (by kernel_rfl) rfl he fun a he => ?_
  refine al ti_26 rfl he hh fun bb2 a W he hh => ?_
  replace hh : Hp I (.obj bb2 (.cells [.slice none 0 0, .slice none 0 0, .bool false, .bool false].toArray 26) :: _) W := hh
  refine st #[.slice none 0 0, .slice none 0 0, .bool false, .bool false] ti_26 rfl rfl rfl rfl (by simp [Value.oneCell']) (by simp) he hh fun W hh => ?_
  replace hh : Hp I (.obj bb2 (.cells [.slice none 0 0, .slice none 0 0, .bool false, .bool false].toArray 26) :: _) W := hh
  refine en ?_
  refine sq ?_
  refine rg ?_
  refine mv rfl rfl he fun a he => ?_
  refine cal cb_34 rfl (ref01_Get _ _ _ A_b c_b b hh h_b k_b) rfl he fun v a W hp he => ?_
  obtain ⟨rfl, hh⟩ := hp
  refine mv rfl rfl he fun a he => ?_
  refine xt rfl rfl rfl he fun a he => ?_
  refine xt rfl rfl rfl he fun a he => ?_
  refine xt rfl rfl rfl he fun a he => ?_
  refine asg rfl rfl he fun a he => ?_
  refine asg rfl rfl he fun a he => ?_
  refine asg rfl rfl he fun a he => ?_
  refine en ?_
  refine sq ?_
  refine sq ?_
  refine rg ?_
  refine mv rfl rfl he fun a he => ?_
  refine ne rfl rfl rfl he fun a he => ?_
  refine mv rfl rfl he fun a he => ?_
  refine sd he (t := 24) rfl (fun hbad he => ?_) (fun hbad he => ?_)
  · refine gn rfl rfl he rfl rfl fun a he => ?_
    refine gn rfl rfl he rfl rfl fun a he => ?_
    refine gn rfl rfl he rfl rfl fun a he => ?_
    refine gn rfl rfl he rfl rfl fun a he => ?_
    refine gn rfl rfl he rfl rfl fun a he => ?_
    refine gn rfl rfl he rfl rfl fun a he => ?_
    refine gn rfl rfl he rfl rfl fun a he => ?_
    refine pkt rfl rfl rfl he fun a he => ?_
    refine en ?_
    refine cnt he rfl ?_
    refine sq ?_
    refine rg ?_
    refine bld #[.slice none 0 0, .slice none 0 0, .bool false, .bool false] rfl (by kernel_rfl) rfl he fun a he => ?_
    replace hh := hh.up1
    refine st #[.slice none 0 0, .slice none 0 0, .bool false, .bool false] ti_26 rfl rfl rfl rfl (by simp [Value.oneCell']) (by simp) he hh fun W hh => ?_
    replace hh : Hp I (.obj bb1 (.cells [.slice none 0 0, .slice none 0 0, .bool false, .bool false].toArray 26) :: _) W := hh
    refine asg rfl rfl he fun a he => ?_
    refine en ?_
    refine rt ?_
    refine retsCT Tryd.results35 he rfl (loadVar_run rb_26 ti_26 ((Rd.obj hh.at0 0).take 4) rfl) rfl (Ret.mk ?_)
    rw [ref_bad1 (by omega)]
    simp only [TokR.bad]
    replace hh := hh.drop
    replace hh := hh.drop
    exact ⟨I, none, 0, none, 0, rfl, (Snap.le.refl _), Fz.nil _ _, Nat.le_refl _, Fz.nil _ _, Nat.le_refl _, hh⟩
  · have hle := numGet_le (l := b) (by omega)
    refine gy rfl he rfl ?_
    refine mv rfl rfl he fun a he => ?_
    refine gy rfl he rfl ?_
    refine mv rfl rfl he fun a he => ?_
    refine gy rfl he rfl ?_
    refine ln Tryd.underlying23 rfl rfl he fun a he => ?_
    refine gy rfl he rfl ?_
    refine mv rfl rfl he fun a he => ?_
    refine gy rfl he rfl ?_
    refine su (((b.length - (numGet b).2.1) : Nat) : Int) rfl rfl (w64 (by omega) (by omega)) rfl he fun a he => ?_
    refine gy rfl he rfl ?_
    refine ci (((b.length - (numGet b).2.1) : Nat) : Int) .u64 ud_3 Tryd.underlying55 rfl (wu64 (by omega) (by omega)) rfl he fun a he => ?_
    refine gy rfl he rfl ?_
    refine gt rfl rfl rfl he fun a he => ?_
    refine pkf rfl rfl rfl he fun a he => ?_
    refine en ?_
    refine cnd he rfl (fun h32 => ?_) (fun h32 => ?_)
    · replace h32 : (b.length - (numGet b).2.1) < ((numGet b).1) := by omega
      refine sq ?_
      refine rg ?_
      refine bld #[.slice none 0 0, .slice none 0 0, .bool false, .bool false] rfl (by kernel_rfl) rfl he fun a he => ?_
      replace hh := hh.up1
      refine st #[.slice none 0 0, .slice none 0 0, .bool false, .bool false] ti_26 rfl rfl rfl rfl (by simp [Value.oneCell']) (by simp) he hh fun W hh => ?_
      replace hh : Hp I (.obj bb1 (.cells [.slice none 0 0, .slice none 0 0, .bool false, .bool false].toArray 26) :: _) W := hh
      refine asg rfl rfl he fun a he => ?_
      refine en ?_
      refine rt ?_
      refine retsCT Tryd.results35 he rfl (loadVar_run rb_26 ti_26 ((Rd.obj hh.at0 0).take 4) rfl) rfl (Ret.mk ?_)
      rw [ref_bad1 (by omega)]
      simp only [TokR.bad]
      replace hh := hh.drop
      replace hh := hh.drop
      exact ⟨I, none, 0, none, 0, rfl, (Snap.le.refl _), Fz.nil _ _, Nat.le_refl _, Fz.nil _ _, Nat.le_refl _, hh⟩
    · replace h32 : ¬ ((b.length - (numGet b).2.1) < ((numGet b).1)) := by omega
      refine sk ?_
      refine nm_then ?_
      refine sq ?_
      have g1 : ¬ ((numGet b).2.2 ≠ 0 ∨ b.length - (numGet b).2.1 < (numGet b).1) := by omega
      have hpd : (refPd b).length ≤ b.length := by simp only [refPd, List.length_drop, List.length_take]; omega
      have hp1 : refP1 b ≤ b.length := by unfold refP1; omega
      refine rg ?_
      refine bsl [] [] ts_23 rfl rfl rfl rfl rfl rfl rfl he hh fun bb3 a W he hh => ?_
      refine mv rfl rfl he fun a he => ?_
      refine mv rfl rfl he fun a he => ?_
      refine mv rfl rfl he fun a he => ?_
      refine mv rfl rfl he fun a he => ?_
      refine ci (((numGet b).1 : Nat) : Int) .i64 ud_55 Tryd.underlying3 rfl (w64 (by omega) (by omega)) rfl he fun a he => ?_
      refine ad ((((numGet b).2.1 + (numGet b).1) : Nat) : Int) rfl rfl (w64 (by omega) (by omega)) rfl he fun a he => ?_
      refine slh1 (xs := b) ((numGet b).2.1) (((numGet b).2.1 + (numGet b).1)) ts_23 rfl rfl rfl h_b k_b (by omega) (by omega) rfl he fun A4 cc5 a hf6 hc7 he => ?_
      replace he := he.be (t := 41) (v' := .slice A4 ((refPd b).length) cc5) rfl rfl
      replace hf6 : Fz I A4 ((refPd b).map b8) := hf6
      replace hc7 : (refPd b).length ≤ cc5 := hc7
      refine ap ts_23 rfl rfl (hf6.rd hh) (by first | rfl | (simp; done) | (simp; omega)) (one_map (fun _ => rfl) _) (by have := hpd; omega) rfl he hh fun A8 cc9 a W he hh => ?_
      replace hh := hh.re (n' := (((refPd b) : List UInt8)).length) (cs' := (((refPd b) : List UInt8)).map b8) (by first | rfl | (simp; done) | (simp; omega)) (by first | (simp [b8]; done) | (simp [b8]; omega))
      replace he := he.be (t := 42) (v' := .slice A8 (((refPd b) : List UInt8)).length cc9) rfl (by congr 1 <;> (first | rfl | (simp; done) | (simp; omega)))
      refine fa fo_26_0 rfl rfl he fun a he => ?_
      replace hh := hh.up1
      refine st #[.slice A8 ((((refPd b) : List UInt8)).length) cc9] ti_23 rfl rfl rfl rfl (by simp [Value.oneCell']) (by simp) he hh fun W hh => ?_
      replace hh : Hp I (.obj bb2 (.cells [.slice A8 ((((refPd b) : List UInt8)).length) cc9, .slice none 0 0, .bool false, .bool false].toArray 26) :: _) W := hh
      refine en ?_
      refine sq ?_
      refine sq ?_
      replace hh := hh.up1
      have hc14 := (Ch.rowcap hh.at0).1
      obtain ⟨I11, hl12, hh, hf13⟩ := hh.freezeRow
      refine cutr (fun a w => Env 133 [(0, .slice A_b b.length c_b), (2, .pointer (some ⟨bb1, 0, none⟩)), (3, .int .i64 0), (4, .pointer (some ⟨bb2, 0, none⟩)), (5, .int .u64 (((numGet b).1 : Nat) : Int)), (6, .int .i64 (((numGet b).2.1 : Nat) : Int)), (7, .int .i64 ((numGet b).2.2)), (15, .agg #[.slice none 0 0, .slice none 0 0, .bool false, .bool false]), (16, .tuple #[.int .u64 (((numGet b).1 : Nat) : Int), .int .i64 (((numGet b).2.1 : Nat) : Int), .int .i64 ((numGet b).2.2)]), (17, .slice A_b b.length c_b), (18, .tuple #[.int .u64 (((numGet b).1 : Nat) : Int), .int .i64 (((numGet b).2.1 : Nat) : Int), .int .i64 ((numGet b).2.2)]), (19, .int .u64 (((numGet b).1 : Nat) : Int)), (20, .int .i64 (((numGet b).2.1 : Nat) : Int)), (21, .int .i64 ((numGet b).2.2)), (22, .int .i64 ((numGet b).2.2)), (23, .bool (decide (((numGet b).2.2) ≠ 0))), (24, .bool false), (25, .int .u64 (((numGet b).1 : Nat) : Int)), (26, .slice A_b b.length c_b), (27, .int .i64 ((b.length : Nat) : Int)), (28, .int .i64 (((numGet b).2.1 : Nat) : Int)), (29, .int .i64 (((b.length - (numGet b).2.1) : Nat) : Int)), (30, .int .u64 (((b.length - (numGet b).2.1) : Nat) : Int)), (31, .bool (decide ((((b.length - (numGet b).2.1) : Nat) : Int) < (((numGet b).1 : Nat) : Int)))), (32, .bool (decide ((((b.length - (numGet b).2.1) : Nat) : Int) < (((numGet b).1 : Nat) : Int)))), (34, .slice (some ⟨bb3, 0, none⟩) 0 0), (35, .slice A_b b.length c_b), (36, .int .i64 (((numGet b).2.1 : Nat) : Int)), (37, .int .i64 (((numGet b).2.1 : Nat) : Int)), (38, .int .u64 (((numGet b).1 : Nat) : Int)), (39, .int .i64 (((numGet b).1 : Nat) : Int)), (40, .int .i64 ((((numGet b).2.1 + (numGet b).1) : Nat) : Int)), (41, .slice A4 ((refPd b).length) cc5), (42, .slice A8 ((((refPd b) : List UInt8)).length) cc9), (43, .pointer (some ⟨bb2, 0, none⟩)), (51, .bool (decide (0 < (numGet b).1 ∧ pendR (refPd b) = false)))] a ∧ Hp I11 (.obj bb2 (.cells ([.slice A8 ((((refPd b) : List UInt8)).length) cc9, .slice none 0 0, .bool false, .bool false]).toArray 26) :: .obj bb1 (.cells ([.slice none 0 0, .slice none 0 0, .bool false, .bool false]).toArray 26) :: L) w) ?_ fun a W hM => ?_
      · refine rg ?_
        refine mv rfl rfl he fun a he => ?_
        refine gt rfl rfl rfl he fun a he => ?_
        refine mv rfl rfl he fun a he => ?_
        refine sd he (t := 46) rfl (fun h15 he => ?_) (fun h15 he => ?_)
        · replace h15 : 0 < ((numGet b).1) := by omega
          refine gy rfl he rfl ?_
          refine fa fo_26_0 rfl rfl he fun a he => ?_
          refine gy rfl he rfl ?_
          refine ld rb_23 rfl (ocell hh.at0 rfl) rfl he fun a he => ?_
          refine gy rfl he rfl ?_
          refine cal cb_46 rfl (ref04_Pending _ _ _ A8 cc9 ((refPd b) : List UInt8) hh hf13 hc14) rfl he fun v a W hp he => ?_
          obtain ⟨rfl, hh⟩ := hp
          refine gy rfl he rfl ?_
          refine nt rfl rfl he fun a he => ?_
          refine pkt rfl rfl rfl he fun a he => ?_
          refine en ?_
          replace hh := hh.up1
          replace hh := hh.up1
          replace he := he.be (t := 51) (v' := .bool (decide (0 < (numGet b).1 ∧ pendR (refPd b) = false))) rfl (by congr 1; rw [Bool.eq_iff_iff]; simp; omega)
          exact ⟨he.keep [0, 2, 3, 4, 5, 6, 7, 15, 16, 17, 18, 19, 20, 21, 22, 23, 24, 25, 26, 27, 28, 29, 30, 31, 32, 34, 35, 36, 37, 38, 39, 40, 41, 42, 43, 51] rfl, hh⟩
        · replace h15 : ¬ (0 < ((numGet b).1)) := by omega
          refine gn rfl rfl he rfl rfl fun a he => ?_
          refine gn rfl rfl he rfl rfl fun a he => ?_
          refine gn rfl rfl he rfl rfl fun a he => ?_
          refine gn rfl rfl he rfl rfl fun a he => ?_
          refine pkf rfl rfl rfl he fun a he => ?_
          refine en ?_
          replace hh := hh.up1
          replace hh := hh.up1
          replace he := he.be (t := 51) (v' := .bool (decide (0 < (numGet b).1 ∧ pendR (refPd b) = false))) rfl (by congr 1; symm; apply decide_eq_false; rintro ⟨q, _⟩; omega)
          exact ⟨he.keep [0, 2, 3, 4, 5, 6, 7, 15, 16, 17, 18, 19, 20, 21, 22, 23, 24, 25, 26, 27, 28, 29, 30, 31, 32, 34, 35, 36, 37, 38, 39, 40, 41, 42, 43, 51] rfl, hh⟩
      obtain ⟨he, hh⟩ := hM
      refine nm_then ?_
      refine cnd he rfl (fun h51 => ?_) (fun h51 => ?_)
      · refine sq ?_
        refine rg ?_
        refine bld #[.slice none 0 0, .slice none 0 0, .bool false, .bool false] rfl (by kernel_rfl) rfl he fun a he => ?_
        replace hh := hh.up1
        refine st #[.slice none 0 0, .slice none 0 0, .bool false, .bool false] ti_26 rfl rfl rfl rfl (by simp [Value.oneCell']) (by simp) he hh fun W hh => ?_
        replace hh : Hp I11 (.obj bb1 (.cells [.slice none 0 0, .slice none 0 0, .bool false, .bool false].toArray 26) :: _) W := hh
        refine asg rfl rfl he fun a he => ?_
        refine en ?_
        refine rt ?_
        refine retsCT Tryd.results35 he rfl (loadVar_run rb_26 ti_26 ((Rd.obj hh.at0 0).take 4) rfl) rfl (Ret.mk ?_)
        rw [ref_bad2 g1 h51]
        simp only [TokR.bad]
        replace hh := hh.drop
        replace hh := hh.drop
        exact ⟨I11, none, 0, none, 0, rfl, hl12, Fz.nil _ _, Nat.le_refl _, Fz.nil _ _, Nat.le_refl _, hh⟩
      · refine sk ?_
        refine nm_then ?_
        refine sq ?_
        refine rg ?_
        refine mv rfl rfl he fun a he => ?_
        refine mv rfl rfl he fun a he => ?_
        refine ci (((numGet b).1 : Nat) : Int) .i64 ud_55 Tryd.underlying3 rfl (w64 (by omega) (by omega)) rfl he fun a he => ?_
        refine ad ((((numGet b).2.1 + (numGet b).1) : Nat) : Int) rfl rfl (w64 (by omega) (by omega)) rfl he fun a he => ?_
        refine asg rfl rfl he fun a he => ?_
        refine en ?_
        refine sq ?_
        replace he := he.be (t := 6) (v' := .int .i64 (((refP1 b) : Nat) : Int)) rfl rfl
        have g2 : ¬ (0 < (numGet b).1 ∧ pendR (refPd b) = false) := h51
        refine rg ?_
        refine mv rfl rfl he fun a he => ?_
        refine mv rfl rfl he fun a he => ?_
        refine slo1 (xs := b) ((refP1 b)) ts_23 rfl rfl (h_b.up hl12) k_b (by omega) rfl he fun A16 cc17 a hf18 hc19 he => ?_
        refine cal cb_34 rfl (ref01_Get _ _ _ A16 cc17 (b.drop (refP1 b)) hh hf18 hc19) rfl he fun v a W hp he => ?_
        obtain ⟨rfl, hh⟩ := hp
        replace he := he.be (t := 61) (v' := .tuple #[.int .u64 (((refN2 b).1 : Nat) : Int), .int .i64 (((refN2 b).2.1 : Nat) : Int), .int .i64 ((refN2 b).2.2)]) rfl rfl
        refine mv rfl rfl he fun a he => ?_
        refine xt rfl rfl rfl he fun a he => ?_
        refine xt rfl rfl rfl he fun a he => ?_
        refine xt rfl rfl rfl he fun a he => ?_
        refine asg rfl rfl he fun a he => ?_
        refine asg rfl rfl he fun a he => ?_
        refine asg rfl rfl he fun a he => ?_
        refine en ?_
        refine sq ?_
        refine sq ?_
        refine rg ?_
        refine mv rfl rfl he fun a he => ?_
        refine ne rfl rfl rfl he fun a he => ?_
        refine mv rfl rfl he fun a he => ?_
        refine sd he (t := 67) rfl (fun hb2 he => ?_) (fun hb2 he => ?_)
        · refine gn rfl rfl he rfl rfl fun a he => ?_
          refine gn rfl rfl he rfl rfl fun a he => ?_
          refine pkt rfl rfl rfl he fun a he => ?_
          refine en ?_
          refine cnt he rfl ?_
          refine sq ?_
          refine rg ?_
          refine bld #[.slice none 0 0, .slice none 0 0, .bool false, .bool false] rfl (by kernel_rfl) rfl he fun a he => ?_
          replace hh := hh.up1
          refine st #[.slice none 0 0, .slice none 0 0, .bool false, .bool false] ti_26 rfl rfl rfl rfl (by simp [Value.oneCell']) (by simp) he hh fun W hh => ?_
          replace hh : Hp I11 (.obj bb1 (.cells [.slice none 0 0, .slice none 0 0, .bool false, .bool false].toArray 26) :: _) W := hh
          refine asg rfl rfl he fun a he => ?_
          refine en ?_
          refine rt ?_
          refine retsCT Tryd.results35 he rfl (loadVar_run rb_26 ti_26 ((Rd.obj hh.at0 0).take 4) rfl) rfl (Ret.mk ?_)
          rw [ref_bad3 (by omega)]
          simp only [TokR.bad]
          replace hh := hh.drop
          replace hh := hh.drop
          exact ⟨I11, none, 0, none, 0, rfl, hl12, Fz.nil _ _, Nat.le_refl _, Fz.nil _ _, Nat.le_refl _, hh⟩
        · refine gy rfl he rfl ?_
          refine mv rfl rfl he fun a he => ?_
          refine gy rfl he rfl ?_
          refine gt rfl rfl rfl he fun a he => ?_
          refine pkf rfl rfl rfl he fun a he => ?_
          refine en ?_
          refine cnd he rfl (fun h70 => ?_) (fun h70 => ?_)
          · replace h70 : 32 < ((refN2 b).1) := by omega
            refine sq ?_
            refine rg ?_
            refine bld #[.slice none 0 0, .slice none 0 0, .bool false, .bool false] rfl (by kernel_rfl) rfl he fun a he => ?_
            replace hh := hh.up1
            refine st #[.slice none 0 0, .slice none 0 0, .bool false, .bool false] ti_26 rfl rfl rfl rfl (by simp [Value.oneCell']) (by simp) he hh fun W hh => ?_
            replace hh : Hp I11 (.obj bb1 (.cells [.slice none 0 0, .slice none 0 0, .bool false, .bool false].toArray 26) :: _) W := hh
            refine asg rfl rfl he fun a he => ?_
            refine en ?_
            refine rt ?_
            refine retsCT Tryd.results35 he rfl (loadVar_run rb_26 ti_26 ((Rd.obj hh.at0 0).take 4) rfl) rfl (Ret.mk ?_)
            rw [ref_bad3 (by omega)]
            simp only [TokR.bad]
            replace hh := hh.drop
            replace hh := hh.drop
            exact ⟨I11, none, 0, none, 0, rfl, hl12, Fz.nil _ _, Nat.le_refl _, Fz.nil _ _, Nat.le_refl _, hh⟩
          · replace h70 : ¬ (32 < ((refN2 b).1)) := by omega
            refine sk ?_
            refine nm_then ?_
            refine sq ?_
            have g3 : ¬ ((refN2 b).2.2 ≠ 0 ∨ 32 < (refN2 b).1) := by omega
            have hp2 : refP1 b + (refN2 b).2.1 ≤ b.length := drop_num hp1 (show (refN2 b).2.2 = 0 by omega)
            refine rg ?_
            refine mv rfl rfl he fun a he => ?_
            refine mv rfl rfl he fun a he => ?_
            refine ad ((((refP1 b) + (refN2 b).2.1) : Nat) : Int) rfl rfl (w64 (by omega) (by omega)) rfl he fun a he => ?_
            refine asg rfl rfl he fun a he => ?_
            refine en ?_
            refine sq ?_
            refine sq ?_
            refine rg ?_
            refine asg rfl rfl he fun a he => ?_
            refine en ?_
            refine bk ?_
            replace hh := hh.nilrow 21 1
            replace hh := hh.up2
            replace hh := hh.up2
            replace hh := hh.up2
            refine lp (fun (s : Nat × List Int × Nat) a w => match s with | (i, pre, p) => ∃ (A_4_1 : Option Addr) (c_4_1 : Nat), Env 133 [(0, .slice A_b b.length c_b), (2, .pointer (some ⟨bb1, 0, none⟩)), (4, .pointer (some ⟨bb2, 0, none⟩)), (6, .int .i64 ((p : Nat) : Int)), (8, .int .u64 (((refN2 b).1 : Nat) : Int)), (11, .int .i64 ((i : Nat) : Int))] a ∧ Hp I11 (.row A_4_1 pre.length c_4_1 21 1 (pre.map r32) :: .obj bb2 (.cells ([.slice A8 ((((refPd b) : List UInt8)).length) cc9, .slice A_4_1 pre.length c_4_1, .bool false, .bool false]).toArray 26) :: .obj bb1 (.cells ([.slice none 0 0, .slice none 0 0, .bool false, .bool false]).toArray 26) :: L) w ∧ i ≤ (refN2 b).1 ∧ pre.length ≤ i ∧ p ≤ b.length ∧ refW b (refN2 b).1 (refP1 b + (refN2 b).2.1) = (refW b ((refN2 b).1 - i) p).map fun r => (pre ++ r.1, r.2))
                (fun s => (refN2 b).1 - s.1) (0, [], refP1 b + (refN2 b).2.1) ⟨none, 0, he.keep [0, 2, 4, 6, 8, 11] rfl, hh, Nat.zero_le _, Nat.le_refl _, hp2, by simp⟩ fun s a W hinv => ?_
            obtain ⟨i, pre, p⟩ := s
            obtain ⟨A_4_1, c_4_1, he, hh, hi, hpi, hpb, hW⟩ := hinv
            refine sq ?_
            refine sq ?_
            refine rg ?_
            refine mv rfl rfl he fun a he => ?_
            refine mv rfl rfl he fun a he => ?_
            refine ci (((refN2 b).1 : Nat) : Int) .i64 ud_55 Tryd.underlying3 rfl (w64 (by omega) (by omega)) rfl he fun a he => ?_
            refine lt rfl rfl rfl he fun a he => ?_
            refine en ?_
            refine cnd he rfl (fun h78 => ?_) (fun h78 => ?_)
            · replace h78 : i < ((refN2 b).1) := by omega
              refine sk ?_
              refine nm_then ?_
              refine sq ?_
              refine bk ?_
              refine sq ?_
              refine rg ?_
              refine mv rfl rfl he fun a he => ?_
              refine mv rfl rfl he fun a he => ?_
              refine slo1 (xs := b) (p) ts_23 rfl rfl (h_b.up hl12) k_b (by omega) rfl he fun A21 cc22 a hf23 hc24 he => ?_
              refine cal cb_34 rfl (ref01_Get _ _ _ A21 cc22 (b.drop p) hh hf23 hc24) rfl he fun v a W hp he => ?_
              obtain ⟨rfl, hh⟩ := hp
              refine mv rfl rfl he fun a he => ?_
              refine xt rfl rfl rfl he fun a he => ?_
              refine xt rfl rfl rfl he fun a he => ?_
              refine xt rfl rfl rfl he fun a he => ?_
              refine asg rfl rfl he fun a he => ?_
              refine asg rfl rfl he fun a he => ?_
              refine asg rfl rfl he fun a he => ?_
              refine en ?_
              refine sq ?_
              refine sq ?_
              refine rg ?_
              refine mv rfl rfl he fun a he => ?_
              refine ne rfl rfl rfl he fun a he => ?_
              refine mv rfl rfl he fun a he => ?_
              refine sd he (t := 91) rfl (fun hb3 he => ?_) (fun hb3 he => ?_)
              · refine gn rfl rfl he rfl rfl fun a he => ?_
                refine gn rfl rfl he rfl rfl fun a he => ?_
                refine pkt rfl rfl rfl he fun a he => ?_
                refine en ?_
                refine cnt he rfl ?_
                refine sq ?_
                refine rg ?_
                refine bld #[.slice none 0 0, .slice none 0 0, .bool false, .bool false] rfl (by kernel_rfl) rfl he fun a he => ?_
                replace hh := hh.up2
                refine st #[.slice none 0 0, .slice none 0 0, .bool false, .bool false] ti_26 rfl rfl rfl rfl (by simp [Value.oneCell']) (by simp) he hh fun W hh => ?_
                replace hh : Hp I11 (.obj bb1 (.cells [.slice none 0 0, .slice none 0 0, .bool false, .bool false].toArray 26) :: _) W := hh
                refine asg rfl rfl he fun a he => ?_
                refine en ?_
                refine rt ?_
                refine retsCT Tryd.results35 he rfl (loadVar_run rb_26 ti_26 ((Rd.obj hh.at0 0).take 4) rfl) rfl (Ret.mk ?_)
                rw [ref_on g1 g2 g3, refW_bad hW h78 (by omega)]
                simp only [TokR.bad]
                replace hh := hh.drop
                replace hh := hh.drop
                replace hh := hh.drop
                exact ⟨I11, none, 0, none, 0, rfl, hl12, Fz.nil _ _, Nat.le_refl _, Fz.nil _ _, Nat.le_refl _, hh⟩
              · refine gy rfl he rfl ?_
                refine mv rfl rfl he fun a he => ?_
                refine gy rfl he rfl ?_
                refine gt rfl rfl rfl he fun a he => ?_
                refine pkf rfl rfl rfl he fun a he => ?_
                refine en ?_
                refine cnd he rfl (fun h94 => ?_) (fun h94 => ?_)
                · replace h94 : 1114111 < ((numGet (b.drop p)).1) := by omega
                  refine sq ?_
                  refine rg ?_
                  refine bld #[.slice none 0 0, .slice none 0 0, .bool false, .bool false] rfl (by kernel_rfl) rfl he fun a he => ?_
                  replace hh := hh.up2
                  refine st #[.slice none 0 0, .slice none 0 0, .bool false, .bool false] ti_26 rfl rfl rfl rfl (by simp [Value.oneCell']) (by simp) he hh fun W hh => ?_
                  replace hh : Hp I11 (.obj bb1 (.cells [.slice none 0 0, .slice none 0 0, .bool false, .bool false].toArray 26) :: _) W := hh
                  refine asg rfl rfl he fun a he => ?_
                  refine en ?_
                  refine rt ?_
                  refine retsCT Tryd.results35 he rfl (loadVar_run rb_26 ti_26 ((Rd.obj hh.at0 0).take 4) rfl) rfl (Ret.mk ?_)
                  rw [ref_on g1 g2 g3, refW_bad hW h78 (by omega)]
                  simp only [TokR.bad]
                  replace hh := hh.drop
                  replace hh := hh.drop
                  replace hh := hh.drop
                  exact ⟨I11, none, 0, none, 0, rfl, hl12, Fz.nil _ _, Nat.le_refl _, Fz.nil _ _, Nat.le_refl _, hh⟩
                · replace h94 : ¬ (1114111 < ((numGet (b.drop p)).1)) := by omega
                  refine sk ?_
                  refine nm_then ?_
                  refine sq ?_
                  have hp3 : p + (numGet (b.drop p)).2.1 ≤ b.length := drop_num hpb (by omega)
                  refine rg ?_
                  refine fa fo_26_1 rfl rfl he fun a he => ?_
                  refine ld rb_24 rfl (ocell hh.at1 rfl) rfl he fun a he => ?_
                  refine mv rfl rfl he fun a he => ?_
                  refine ci (((numGet (b.drop p)).1 : Nat) : Int) .i32 ud_55 Tryd.underlying21 rfl (w32 (by omega) (by omega)) rfl he fun a he => ?_
                  refine bsl [(0, .int .i32 (((numGet (b.drop p)).1 : Nat) : Int))] [.int .i32 (((numGet (b.drop p)).1 : Nat) : Int)] ts_24 rfl rfl rfl rfl rfl rfl rfl he hh fun bb25 a W he hh => ?_
                  replace hh := hh.up1
                  refine ap ts_24 rfl rfl (Ch.rd hh.at1) (by first | rfl | (simp; done) | (simp; omega)) (by simp [Value.oneCell']) (by first | omega | (simp; omega)) rfl he hh fun A26 cc27 a W he hh => ?_
                  replace hh := hh.re (n' := ((pre ++ [(((numGet (b.drop p)).1 : Nat) : Int)])).length) (cs' := ((pre ++ [(((numGet (b.drop p)).1 : Nat) : Int)])).map r32) (by first | rfl | (simp; done) | (simp; omega)) (by simp [r32])
                  replace he := he.be (t := 101) (v' := .slice A26 ((pre ++ [(((numGet (b.drop p)).1 : Nat) : Int)])).length cc27) rfl (by congr 1 <;> (first | rfl | (simp; done) | (simp; omega)))
                  replace hh := hh.up1
                  replace hh := hh.drop
                  refine fa fo_26_1 rfl rfl he fun a he => ?_
                  replace hh := hh.up1
                  refine st #[.slice A26 (((pre ++ [(((numGet (b.drop p)).1 : Nat) : Int)])).length) cc27] ti_24 rfl rfl rfl rfl (by simp [Value.oneCell']) (by simp) he hh fun W hh => ?_
                  replace hh : Hp I11 (.obj bb2 (.cells [.slice A8 ((((refPd b) : List UInt8)).length) cc9, .slice A26 (((pre ++ [(((numGet (b.drop p)).1 : Nat) : Int)])).length) cc27, .bool false, .bool false].toArray 26) :: _) W := hh
                  refine en ?_
                  refine rg ?_
                  refine mv rfl rfl he fun a he => ?_
                  refine mv rfl rfl he fun a he => ?_
                  refine ad (((p + (numGet (b.drop p)).2.1) : Nat) : Int) rfl rfl (w64 (by omega) (by omega)) rfl he fun a he => ?_
                  refine asg rfl rfl he fun a he => ?_
                  refine en_blk ?_
                  refine nm_then ?_
                  refine rg ?_
                  refine mv rfl rfl he fun a he => ?_
                  refine ad (((i + 1) : Nat) : Int) rfl rfl (w64 (by omega) (by omega)) rfl he fun a he => ?_
                  refine asg rfl rfl he fun a he => ?_
                  refine en ?_
                  replace hh := hh.up2
                  replace hh := hh.up1
                  replace hh := hh.up2
                  exact ⟨(i + 1, pre ++ [((numGet (b.drop p)).1 : Int)], p + (numGet (b.drop p)).2.1), ⟨A26, cc27, he.keep [0, 2, 4, 6, 8, 11] rfl, hh, by omega, by simp; omega, hp3, refW_next hW h78 (by omega)⟩, by show (refN2 b).1 - (i + 1) < (refN2 b).1 - i; omega⟩
            · replace h78 : ¬ (i < ((refN2 b).1)) := by omega
              refine ext ?_
              refine ex_then ?_
              refine ex_then ?_
              refine ex_in ?_
              refine nm_then ?_
              refine sq ?_
              refine sq ?_
              refine rg ?_
              refine mv rfl rfl he fun a he => ?_
              refine mv rfl rfl he fun a he => ?_
              refine ln Tryd.underlying23 rfl rfl he fun a he => ?_
              refine su (((b.length : Nat) : Int) - 1) rfl rfl (w64 (by omega) (by omega)) rfl he fun a he => ?_
              refine ne rfl rfl rfl he fun a he => ?_
              refine mv rfl rfl he fun a he => ?_
              refine sd he (t := 111) rfl (fun hpe he => ?_) (fun hpe he => ?_)
              · refine gn rfl rfl he rfl rfl fun a he => ?_
                refine gn rfl rfl he rfl rfl fun a he => ?_
                refine gn rfl rfl he rfl rfl fun a he => ?_
                refine gn rfl rfl he rfl rfl fun a he => ?_
                refine gn rfl rfl he rfl rfl fun a he => ?_
                refine pkt rfl rfl rfl he fun a he => ?_
                refine en ?_
                refine cnt he rfl ?_
                refine sq ?_
                refine rg ?_
                refine bld #[.slice none 0 0, .slice none 0 0, .bool false, .bool false] rfl (by kernel_rfl) rfl he fun a he => ?_
                replace hh := hh.up2
                refine st #[.slice none 0 0, .slice none 0 0, .bool false, .bool false] ti_26 rfl rfl rfl rfl (by simp [Value.oneCell']) (by simp) he hh fun W hh => ?_
                replace hh : Hp I11 (.obj bb1 (.cells [.slice none 0 0, .slice none 0 0, .bool false, .bool false].toArray 26) :: _) W := hh
                refine asg rfl rfl he fun a he => ?_
                refine en ?_
                refine rt ?_
                refine retsCT Tryd.results35 he rfl (loadVar_run rb_26 ti_26 ((Rd.obj hh.at0 0).take 4) rfl) rfl (Ret.mk ?_)
                have hres : refGet b = TokR.bad := by
                  rw [ref_on g1 g2 g3, refW_end hW (by omega)]; simp only [refEnd]
                  exact if_pos (by first | (left; omega) | (right; rw [at0_some hf]; omega))
                rw [hres]
                simp only [TokR.bad]
                replace hh := hh.drop
                replace hh := hh.drop
                replace hh := hh.drop
                exact ⟨I11, none, 0, none, 0, rfl, hl12, Fz.nil _ _, Nat.le_refl _, Fz.nil _ _, Nat.le_refl _, hh⟩
              · refine gy rfl he rfl ?_
                refine mv rfl rfl he fun a he => ?_
                refine gy rfl he rfl ?_
                refine mv rfl rfl he fun a he => ?_
                refine gy rfl he rfl ?_
                obtain ⟨f, hf⟩ := idx_some (xs := b) (i := p) (by omega)
                refine ia1 (xs := b) (p) ts_23 rfl rfl ((h_b.up hl12).rd hh) hf rfl he fun bb29 oo30 a hc31 he => ?_
                refine gy rfl he rfl ?_
                refine ld rb_5 rfl hc31 rfl he fun a he => ?_
                refine gy rfl he rfl ?_
                refine gt rfl rfl rfl he fun a he => ?_
                refine pkf rfl rfl rfl he fun a he => ?_
                refine en ?_
                refine cnd he rfl (fun h117 => ?_) (fun h117 => ?_)
                · replace h117 : 3 < f.toNat := by omega
                  refine sq ?_
                  refine rg ?_
                  refine bld #[.slice none 0 0, .slice none 0 0, .bool false, .bool false] rfl (by kernel_rfl) rfl he fun a he => ?_
                  replace hh := hh.up2
                  refine st #[.slice none 0 0, .slice none 0 0, .bool false, .bool false] ti_26 rfl rfl rfl rfl (by simp [Value.oneCell']) (by simp) he hh fun W hh => ?_
                  replace hh : Hp I11 (.obj bb1 (.cells [.slice none 0 0, .slice none 0 0, .bool false, .bool false].toArray 26) :: _) W := hh
                  refine asg rfl rfl he fun a he => ?_
                  refine en ?_
                  refine rt ?_
                  refine retsCT Tryd.results35 he rfl (loadVar_run rb_26 ti_26 ((Rd.obj hh.at0 0).take 4) rfl) rfl (Ret.mk ?_)
                  have hres : refGet b = TokR.bad := by
                    rw [ref_on g1 g2 g3, refW_end hW (by omega)]; simp only [refEnd]
                    exact if_pos (by first | (left; omega) | (right; rw [at0_some hf]; omega))
                  rw [hres]
                  simp only [TokR.bad]
                  replace hh := hh.drop
                  replace hh := hh.drop
                  replace hh := hh.drop
                  exact ⟨I11, none, 0, none, 0, rfl, hl12, Fz.nil _ _, Nat.le_refl _, Fz.nil _ _, Nat.le_refl _, hh⟩
                · replace h117 : ¬ (3 < f.toNat) := by omega
                  refine sk ?_
                  refine nm_then ?_
                  refine sq ?_
                  refine rg ?_
                  refine mv rfl rfl he fun a he => ?_
                  refine mv rfl rfl he fun a he => ?_
                  refine ia1 (xs := b) (p) ts_23 rfl rfl ((h_b.up hl12).rd hh) hf rfl he fun bb32 oo33 a hc34 he => ?_
                  refine ld rb_5 rfl hc34 rfl he fun a he => ?_
                  refine rm (((f.toNat % 2) : Nat) : Int) rfl rfl (by omega) (rfl) rfl he fun a he => ?_
                  refine eq rfl rfl rfl he fun a he => ?_
                  refine fa fo_26_2 rfl rfl he fun a he => ?_
                  replace hh := hh.up1
                  refine st #[.bool (decide ((((f.toNat % 2) : Nat) : Int) = 1))] ti_4 rfl rfl rfl rfl (by simp [Value.oneCell']) (by simp) he hh fun W hh => ?_
                  replace hh : Hp I11 (.obj bb2 (.cells [.slice A8 ((((refPd b) : List UInt8)).length) cc9, .slice A_4_1 pre.length c_4_1, .bool (decide ((((f.toNat % 2) : Nat) : Int) = 1)), .bool false].toArray 26) :: _) W := hh
                  refine en ?_
                  refine sq ?_
                  refine rg ?_
                  refine mv rfl rfl he fun a he => ?_
                  refine mv rfl rfl he fun a he => ?_
                  refine ia1 (xs := b) (p) ts_23 rfl rfl ((h_b.up hl12).rd hh) hf rfl he fun bb35 oo36 a hc37 he => ?_
                  refine ld rb_5 rfl hc37 rfl he fun a he => ?_
                  refine ge rfl rfl rfl he fun a he => ?_
                  refine fa fo_26_3 rfl rfl he fun a he => ?_
                  refine st #[.bool (decide ((2 : Int) ≤ ((f.toNat : Nat) : Int)))] ti_4 rfl rfl rfl rfl (by simp [Value.oneCell']) (by simp) he hh fun W hh => ?_
                  replace hh : Hp I11 (.obj bb2 (.cells [.slice A8 ((((refPd b) : List UInt8)).length) cc9, .slice A_4_1 pre.length c_4_1, .bool (decide ((((f.toNat % 2) : Nat) : Int) = 1)), .bool (decide ((2 : Int) ≤ ((f.toNat : Nat) : Int)))].toArray 26) :: _) W := hh
                  refine en ?_
                  refine sq ?_
                  refine rg ?_
                  refine ldA [.slice A8 ((((refPd b) : List UInt8)).length) cc9, .slice A_4_1 pre.length c_4_1, .bool (decide ((((f.toNat % 2) : Nat) : Int) = 1)), .bool (decide ((2 : Int) ≤ ((f.toNat : Nat) : Int)))] rb_26 ti_26 rfl ((Rd.obj hh.at0 0).take 4) rfl rfl he fun a he => ?_
                  replace hh := hh.up2
                  refine st #[.slice A8 ((((refPd b) : List UInt8)).length) cc9, .slice A_4_1 pre.length c_4_1, .bool (decide ((((f.toNat % 2) : Nat) : Int) = 1)), .bool (decide ((2 : Int) ≤ ((f.toNat : Nat) : Int)))] ti_26 rfl rfl rfl rfl (by simp [Value.oneCell']) (by simp) he hh fun W hh => ?_
                  replace hh : Hp I11 (.obj bb1 (.cells [.slice A8 ((((refPd b) : List UInt8)).length) cc9, .slice A_4_1 pre.length c_4_1, .bool (decide ((((f.toNat % 2) : Nat) : Int) = 1)), .bool (decide ((2 : Int) ≤ ((f.toNat : Nat) : Int)))].toArray 26) :: _) W := hh
                  refine asg rfl rfl he fun a he => ?_
                  refine en ?_
                  refine rt ?_
                  refine retsCT Tryd.results35 he rfl (loadVar_run rb_26 ti_26 ((Rd.obj hh.at0 0).take 4) rfl) rfl (Ret.mk ?_)
                  have hat := at0_some hf
                  have hres : refGet b = ⟨refPd b, pre, decide (f.toNat % 2 = 1), decide (2 ≤ f.toNat), 0⟩ := by
                    rw [ref_on g1 g2 g3, refW_end hW (by omega)]; simp only [refEnd]
                    rw [if_neg (by rw [hat]; omega), hat]
                  rw [hres]
                  have eA : decide (((f.toNat % 2 : Nat) : Int) = 1) = decide (f.toNat % 2 = 1) := decide_eq_decide.2 (by omega)
                  have eB : decide ((2 : Int) ≤ ((f.toNat : Nat) : Int)) = decide (2 ≤ f.toNat) := decide_eq_decide.2 (by omega)
                  replace hh := hh.up2
                  have hc41 := (Ch.rowcap hh.at0).1
                  obtain ⟨I38, hl39, hh, hf40⟩ := hh.freezeRow
                  replace hh := hh.drop
                  replace hh := hh.drop
                  exact ⟨I38, A8, cc9, A_4_1, c_4_1, by rw [eA, eB]; rfl, (hl12.trans hl39), (hf13.up hl39), hc14, hf40, hc41, hh⟩

end Go.Proofs.YtndaogkpgoimlaaDoor

/- Walks through the given program's functions, printed op by op by this session's own program; what each computes is told by the plain functions of the texts S... -/
import Derived.Test.YtndaogkpgoimlaaDoorB1
import Derived.Test.YtndaogkpgoimlaaDoorS3
import Derived.KernelRfl
namespace Go.Proofs.YtndaogkpgoimlaaDoor
open Go Go.RowKit K
set_option linter.unusedVariables false
theorem cb_24 : callable Tryd.prog 24 = true := by kernel_rfl
theorem cb_27 : callable Tryd.prog 27 = true := by kernel_rfl
theorem cb_29 : callable Tryd.prog 29 = true := by kernel_rfl
theorem cb_30 : callable Tryd.prog 30 = true := by kernel_rfl
theorem cb_40 : callable Tryd.prog 40 = true := by kernel_rfl
theorem cb_41 : callable Tryd.prog 41 = true := by kernel_rfl
theorem cb_42 : callable Tryd.prog 42 = true := by kernel_rfl
theorem fo_32_0 : fieldOff Tryd.prog 32 0 = some 0 := by kernel_rfl
theorem fo_32_1 : fieldOff Tryd.prog 32 1 = some 1 := by kernel_rfl
theorem fo_32_2 : fieldOff Tryd.prog 32 2 = some 2 := by kernel_rfl
theorem fo_34_0 : fieldOff Tryd.prog 34 0 = some 0 := by kernel_rfl
theorem fo_34_1 : fieldOff Tryd.prog 34 1 = some 1 := by kernel_rfl
theorem mixo : Tryd.prog.follows .mixedOrders = true := by kernel_rfl
theorem rb_21 : isRowB Tryd.prog 21 = some false := by kernel_rfl
theorem rb_23 : isRowB Tryd.prog 23 = some false := by kernel_rfl
theorem rb_24 : isRowB Tryd.prog 24 = some false := by kernel_rfl
theorem rb_34 : isRowB Tryd.prog 34 = some true := by kernel_rfl
theorem rb_37 : isRowB Tryd.prog 37 = some false := by kernel_rfl
theorem rb_4 : isRowB Tryd.prog 4 = some false := by kernel_rfl
theorem ti_23 : TI Tryd.prog 23 (.slice none 0 0) 1 24 := ⟨by kernel_rfl, rfl⟩
theorem ti_24 : TI Tryd.prog 24 (.slice none 0 0) 1 24 := ⟨by kernel_rfl, rfl⟩
theorem ti_34 : TI Tryd.prog 34 (.agg #[.slice none 0 0, .slice none 0 0, .bool false, .bool false]) 4 56 := ⟨by kernel_rfl, rfl⟩
theorem ti_37 : TI Tryd.prog 37 (.int .i64 0) 1 8 := ⟨by kernel_rfl, rfl⟩
theorem ti_4 : TI Tryd.prog 4 (.bool false) 1 1 := ⟨by kernel_rfl, rfl⟩
theorem ts_24 : TS Tryd.prog 24 21 (.int .i32 0) 1 4 := ⟨Tryd.underlying24, ⟨by kernel_rfl, rfl⟩, by decide, by decide⟩
theorem ud_3 : (Tryd.prog.underlying 3).isSome = true := by kernel_rfl
theorem token_Put (I : Snap) (L : List Ch) (W : World) (A_pd : Option Addr) (c_pd : Nat) (pd : List UInt8) (A_wd : Option Addr) (c_wd : Nat) (wd : List Int) (mk : Bool) (lg : Bool) (hh : Hp I L W) (h_pd : Fz I A_pd (pd.map b8)) (k_pd : pd.length ≤ c_pd) (h_wd : Fz I A_wd (wd.map r32)) (k_wd : wd.length ≤ c_wd) (hb : pd.length ≤ 100000000000) (hb2 : wd.length ≤ 10000000000) (hc : ∀ c ∈ wd, c < 4294967296) :
    Calls Tryd.prog 30 #[.agg #[.slice A_pd pd.length c_pd, .slice A_wd wd.length c_wd, .bool mk, .bool lg]] W (Ret fun v W => ∃ (I' : Snap) (A1 : Option Addr) (c1 : Nat), v = .slice A1 (tokPut pd wd mk lg).length c1 ∧ I.le I' ∧ Hp I' (.row A1 (tokPut pd wd mk lg).length c1 5 1 ((tokPut pd wd mk lg).map b8) :: L) W) := by
  refine enter Tryd.func30 rfl Tryd.ntmps30 rfl fun a he => ?_
  refine sq ?_
  refine rg ?_
  refine bx #[.slice A_pd pd.length c_pd, .slice A_wd wd.length c_wd, .bool mk, .bool lg] rfl rfl rfl he hh fun bb1 a W he hh => ?_
  replace hh : Hp I (.obj bb1 (.cells [.slice A_pd pd.length c_pd, .slice A_wd wd.length c_wd, .bool mk, .bool lg].toArray 34) :: _) W := hh
  refine asg rfl rfl he fun a he => ?_
  refine en ?_
  refine sq ?_
  refine rg ?_
  refine fa fo_34_0 rfl rfl he fun a he => ?_
  refine ld rb_23 rfl (ocell hh.at0 rfl) rfl he fun a he => ?_
  refine ln Tryd.underlying23 rfl rfl he fun a he => ?_
  refine ci ((pd.length : Nat) : Int) .u64 ud_3 Tryd.underlying55 rfl (wu64 (by omega) (by omega)) rfl he fun a he => ?_
  refine cal cb_29 rfl (num_Put _ _ _ none 0 [] pd.length hh (Fz.nil _ _) (Nat.le_refl _) (by simp) (by omega)) rfl he fun v a W hp he => ?_
  obtain ⟨A2, cc3, rfl, hh⟩ := hp
  refine asg rfl rfl he fun a he => ?_
  refine en ?_
  refine sq ?_
  refine rg ?_
  refine mv rfl rfl he fun a he => ?_
  refine fa fo_34_0 rfl rfl he fun a he => ?_
  refine ld rb_23 rfl (ocell hh.at1 rfl) rfl he fun a he => ?_
  refine ap ts_23 rfl rfl (h_pd.rd hh) (by first | rfl | (simp; done) | (simp; omega)) (one_map (fun _ => rfl) _) (by have h1 := putN_ten (n := pd.length) (by omega); simp only [List.nil_append, List.length_append]; omega) rfl he hh fun A5 cc6 a W he hh => ?_
  replace hh := hh.re (n' := ((([]) ++ putN pd.length ++ pd)).length) (cs' := ((([]) ++ putN pd.length ++ pd)).map b8) (by first | rfl | (simp; done) | (simp; omega)) (by first | (simp [b8]; done) | (simp [b8]; omega))
  replace he := he.be (t := 15) (v' := .slice A5 ((([]) ++ putN pd.length ++ pd)).length cc6) rfl (by congr 1 <;> (first | rfl | (simp; done) | (simp; omega)))
  refine asg rfl rfl he fun a he => ?_
  refine en ?_
  refine sq ?_
  refine rg ?_
  refine mv rfl rfl he fun a he => ?_
  refine fa fo_34_1 rfl rfl he fun a he => ?_
  refine fa fo_32_0 rfl rfl he fun a he => ?_
  refine ld rb_24 rfl (ocell hh.at1 rfl) rfl he fun a he => ?_
  refine ln Tryd.underlying24 rfl rfl he fun a he => ?_
  refine ci ((wd.length : Nat) : Int) .u64 ud_3 Tryd.underlying55 rfl (wu64 (by omega) (by omega)) rfl he fun a he => ?_
  have hc11 := (Ch.rowcap hh.at0).1
  obtain ⟨I8, hl9, hh, hf10⟩ := hh.freezeRow
  refine cal cb_29 rfl (num_Put _ _ _ A5 cc6 (([]) ++ putN pd.length ++ pd) wd.length hh hf10 hc11 (by have h1 := putN_ten (n := pd.length) (by omega); simp only [List.nil_append, List.length_append]; omega) (by omega)) rfl he fun v a W hp he => ?_
  obtain ⟨A12, cc13, rfl, hh⟩ := hp
  refine asg rfl rfl he fun a he => ?_
  refine en ?_
  refine sq ?_
  refine sq ?_
  refine rg ?_
  refine fa fo_34_1 rfl rfl he fun a he => ?_
  refine fa fo_32_0 rfl rfl he fun a he => ?_
  refine ld rb_24 rfl (ocell hh.at1 rfl) rfl he fun a he => ?_
  refine ln Tryd.underlying24 rfl rfl he fun a he => ?_
  refine mv rfl rfl he fun a he => ?_
  refine en ?_
  refine bk ?_
  replace hh := hh.up1
  replace hh := hh.up1
  refine lp (fun (s : Nat × List UInt8) a w => match s with | (i, pre) => ∃ (I15 : Snap) (A_3 : Option Addr) (c_3 : Nat), I8.le I15 ∧ Env 51 [(0, .agg #[.slice A_pd pd.length c_pd, .slice A_wd wd.length c_wd, .bool mk, .bool lg]), (1, .pointer (some ⟨bb1, 0, none⟩)), (2, .slice none 0 0), (3, .slice A_3 pre.length c_3), (25, .slice A_wd wd.length c_wd), (26, .int .i64 ((wd.length : Nat) : Int)), (27, .int .i64 ((i : Nat) : Int))] a ∧ Hp I15 (.row A_3 pre.length c_3 5 1 (pre.map b8) :: .obj bb1 (.cells ([.slice A_pd pd.length c_pd, .slice A_wd wd.length c_wd, .bool mk, .bool lg]).toArray 34) :: L) w ∧ i ≤ wd.length ∧ pre.length ≤ 200000000000 + 10 * i ∧ pre ++ putWord (wd.drop i) = ((putN pd.length ++ pd) ++ putN wd.length) ++ putWord wd)
      (fun s => wd.length - s.1) (0, ((putN pd.length ++ pd) ++ putN wd.length)) ⟨I8, A12, cc13, Snap.le.refl _, he.keep [0, 1, 2, 3, 25, 26, 27] rfl, hh, Nat.zero_le _, by have h1 := putN_ten (n := pd.length) (by omega); have h2 := putN_ten (n := wd.length) (by omega); simp only [List.length_append]; omega, by simp⟩ fun s a W hinv => ?_
  obtain ⟨i, pre⟩ := s
  obtain ⟨I15, A_3, c_3, hleI15, he, hh, hi, hl, hinv⟩ := hinv
  refine sq ?_
  refine rg ?_
  refine lt rfl rfl rfl he fun a he => ?_
  refine en ?_
  refine sq ?_
  refine cnd he rfl (fun h16 => ?_) (fun h16 => ?_)
  · replace h16 : i < wd.length := by omega
    refine sk ?_
    refine nm_then ?_
    refine sq ?_
    refine bk ?_
    refine sq ?_
    refine rg ?_
    obtain ⟨c, hx⟩ := idx_some (xs := wd) (i := i) (by omega)
    refine ia1 (xs := wd) (i) ts_24 rfl rfl ((h_wd.up (hl9.trans hleI15)).rd hh) hx rfl he fun bb17 oo18 a hc19 he => ?_
    refine ld rb_21 rfl hc19 rfl he fun a he => ?_
    have hcc := hc c (List.mem_of_getElem? hx)
    refine asg rfl rfl he fun a he => ?_
    refine en ?_
    refine rg ?_
    refine mv rfl rfl he fun a he => ?_
    refine mv rfl rfl he fun a he => ?_
    refine mx ((c.toNat : Nat) : Int) rfl rfl (by split <;> omega) rfl he fun a he => ?_
    refine ci ((c.toNat : Nat) : Int) .u64 ud_21 Tryd.underlying55 rfl (wu64 (by omega) (by omega)) rfl he fun a he => ?_
    have hc23 := (Ch.rowcap hh.at0).1
    obtain ⟨I20, hl21, hh, hf22⟩ := hh.freezeRow
    refine cal cb_29 rfl (num_Put _ _ _ A_3 c_3 pre c.toNat hh hf22 hc23 (by omega) (by omega)) rfl he fun v a W hp he => ?_
    obtain ⟨A24, cc25, rfl, hh⟩ := hp
    refine asg rfl rfl he fun a he => ?_
    refine en_blk ?_
    refine nm_then ?_
    refine rg ?_
    refine ad (((i + 1) : Nat) : Int) rfl rfl (w64 (by omega) (by omega)) rfl he fun a he => ?_
    refine mv rfl rfl he fun a he => ?_
    refine en ?_
    replace hh := hh.up1
    replace hh := hh.up1
    exact ⟨(i + 1, pre ++ putN c.toNat), ⟨I20, A24, cc25, (hleI15.trans hl21), he.keep [0, 1, 2, 3, 25, 26, 27] rfl, hh, by omega, by have h1 := putN_ten (n := c.toNat) (by omega); simp only [List.length_append]; omega, putWord_next hinv hx⟩, by show wd.length - (i + 1) < wd.length - i; omega⟩
  · replace h16 : ¬ (i < wd.length) := by omega
    refine ext ?_
    refine ex_then ?_
    refine ex_then ?_
    refine ex_in ?_
    refine nm_then ?_
    refine sq ?_
    refine rg ?_
    refine asg rfl rfl he fun a he => ?_
    refine en ?_
    refine sq ?_
    refine sq ?_
    refine rg ?_
    refine fa fo_34_1 rfl rfl he fun a he => ?_
    refine fa fo_32_1 rfl rfl he fun a he => ?_
    refine ld rb_4 rfl (ocell hh.at1 rfl) rfl he fun a he => ?_
    refine en ?_
    refine cnb he rfl (fun hm => ?_) (fun hm => ?_)
    · refine rg ?_
      refine mv rfl rfl he fun a he => ?_
      refine or 1 rfl rfl (by decide) rfl he fun a he => ?_
      refine asg rfl rfl he fun a he => ?_
      refine en ?_
      refine sq ?_
      refine sq ?_
      refine rg ?_
      refine fa fo_34_1 rfl rfl he fun a he => ?_
      refine fa fo_32_2 rfl rfl he fun a he => ?_
      refine ld rb_4 rfl (ocell hh.at1 rfl) rfl he fun a he => ?_
      refine en ?_
      refine cnb he rfl (fun hg => ?_) (fun hg => ?_)
      · refine rg ?_
        refine mv rfl rfl he fun a he => ?_
        refine or 3 rfl rfl (by decide) rfl he fun a he => ?_
        refine asg rfl rfl he fun a he => ?_
        refine en ?_
        refine sq ?_
        refine rg ?_
        refine mv rfl rfl he fun a he => ?_
        refine mv rfl rfl he fun a he => ?_
        refine bsl [(0, .int .u8 3)] [.int .u8 3] ts_23 rfl rfl rfl rfl rfl rfl rfl he hh fun bb27 a W he hh => ?_
        replace hh := hh.up1
        refine ap ts_23 rfl rfl (Ch.rd hh.at1) (by first | rfl | (simp; done) | (simp; omega)) (by simp [Value.oneCell']) (by first | omega | (simp; omega)) rfl he hh fun A28 cc29 a W he hh => ?_
        replace hh := hh.re (n' := ((pre ++ [UInt8.ofNat 3])).length) (cs' := ((pre ++ [UInt8.ofNat 3])).map b8) (by first | rfl | (simp; done) | (simp; omega)) (by first | (simp [b8]; done) | (simp [b8]; omega))
        replace he := he.be (t := 50) (v' := .slice A28 ((pre ++ [UInt8.ofNat 3])).length cc29) rfl (by congr 1 <;> (first | rfl | (simp; done) | (simp; omega)))
        replace hh := hh.up1
        replace hh := hh.drop
        refine asg rfl rfl he fun a he => ?_
        refine en ?_
        refine rt ?_
        refine rets1 Tryd.results30 he rfl (Ret.mk ?_)
        subst hm hg
        rw [tokPut, ← putWord_end hinv (by omega)]
        replace hh := hh.up1
        replace hh := hh.drop
        exact ⟨I15, A28, cc29, rfl, (hl9.trans hleI15), hh⟩
      · refine sk ?_
        refine nm_then ?_
        refine sq ?_
        refine rg ?_
        refine mv rfl rfl he fun a he => ?_
        refine mv rfl rfl he fun a he => ?_
        refine bsl [(0, .int .u8 1)] [.int .u8 1] ts_23 rfl rfl rfl rfl rfl rfl rfl he hh fun bb31 a W he hh => ?_
        replace hh := hh.up1
        refine ap ts_23 rfl rfl (Ch.rd hh.at1) (by first | rfl | (simp; done) | (simp; omega)) (by simp [Value.oneCell']) (by first | omega | (simp; omega)) rfl he hh fun A32 cc33 a W he hh => ?_
        replace hh := hh.re (n' := ((pre ++ [UInt8.ofNat 1])).length) (cs' := ((pre ++ [UInt8.ofNat 1])).map b8) (by first | rfl | (simp; done) | (simp; omega)) (by first | (simp [b8]; done) | (simp [b8]; omega))
        replace he := he.be (t := 50) (v' := .slice A32 ((pre ++ [UInt8.ofNat 1])).length cc33) rfl (by congr 1 <;> (first | rfl | (simp; done) | (simp; omega)))
        replace hh := hh.up1
        replace hh := hh.drop
        refine asg rfl rfl he fun a he => ?_
        refine en ?_
        refine rt ?_
        refine rets1 Tryd.results30 he rfl (Ret.mk ?_)
        subst hm hg
        rw [tokPut, ← putWord_end hinv (by omega)]
        replace hh := hh.up1
        replace hh := hh.drop
        exact ⟨I15, A32, cc33, rfl, (hl9.trans hleI15), hh⟩
    · refine sk ?_
      refine nm_then ?_
      refine sq ?_
      refine sq ?_
      refine rg ?_
      refine fa fo_34_1 rfl rfl he fun a he => ?_
      refine fa fo_32_2 rfl rfl he fun a he => ?_
      refine ld rb_4 rfl (ocell hh.at1 rfl) rfl he fun a he => ?_
      refine en ?_
      refine cnb he rfl (fun hg => ?_) (fun hg => ?_)
      · refine rg ?_
        refine mv rfl rfl he fun a he => ?_
        refine or 2 rfl rfl (by decide) rfl he fun a he => ?_
        refine asg rfl rfl he fun a he => ?_
        refine en ?_
        refine sq ?_
        refine rg ?_
        refine mv rfl rfl he fun a he => ?_
        refine mv rfl rfl he fun a he => ?_
        refine bsl [(0, .int .u8 2)] [.int .u8 2] ts_23 rfl rfl rfl rfl rfl rfl rfl he hh fun bb35 a W he hh => ?_
        replace hh := hh.up1
        refine ap ts_23 rfl rfl (Ch.rd hh.at1) (by first | rfl | (simp; done) | (simp; omega)) (by simp [Value.oneCell']) (by first | omega | (simp; omega)) rfl he hh fun A36 cc37 a W he hh => ?_
        replace hh := hh.re (n' := ((pre ++ [UInt8.ofNat 2])).length) (cs' := ((pre ++ [UInt8.ofNat 2])).map b8) (by first | rfl | (simp; done) | (simp; omega)) (by first | (simp [b8]; done) | (simp [b8]; omega))
        replace he := he.be (t := 50) (v' := .slice A36 ((pre ++ [UInt8.ofNat 2])).length cc37) rfl (by congr 1 <;> (first | rfl | (simp; done) | (simp; omega)))
        replace hh := hh.up1
        replace hh := hh.drop
        refine asg rfl rfl he fun a he => ?_
        refine en ?_
        refine rt ?_
        refine rets1 Tryd.results30 he rfl (Ret.mk ?_)
        subst hm hg
        rw [tokPut, ← putWord_end hinv (by omega)]
        replace hh := hh.up1
        replace hh := hh.drop
        exact ⟨I15, A36, cc37, rfl, (hl9.trans hleI15), hh⟩
      · refine sk ?_
        refine nm_then ?_
        refine sq ?_
        refine rg ?_
        refine mv rfl rfl he fun a he => ?_
        refine mv rfl rfl he fun a he => ?_
        refine bsl [(0, .int .u8 0)] [.int .u8 0] ts_23 rfl rfl rfl rfl rfl rfl rfl he hh fun bb39 a W he hh => ?_
        replace hh := hh.up1
        refine ap ts_23 rfl rfl (Ch.rd hh.at1) (by first | rfl | (simp; done) | (simp; omega)) (by simp [Value.oneCell']) (by first | omega | (simp; omega)) rfl he hh fun A40 cc41 a W he hh => ?_
        replace hh := hh.re (n' := ((pre ++ [UInt8.ofNat 0])).length) (cs' := ((pre ++ [UInt8.ofNat 0])).map b8) (by first | rfl | (simp; done) | (simp; omega)) (by first | (simp [b8]; done) | (simp [b8]; omega))
        replace he := he.be (t := 50) (v' := .slice A40 ((pre ++ [UInt8.ofNat 0])).length cc41) rfl (by congr 1 <;> (first | rfl | (simp; done) | (simp; omega)))
        replace hh := hh.up1
        replace hh := hh.drop
        refine asg rfl rfl he fun a he => ?_
        refine en ?_
        refine rt ?_
        refine rets1 Tryd.results30 he rfl (Ret.mk ?_)
        subst hm hg
        rw [tokPut, ← putWord_end hinv (by omega)]
        replace hh := hh.up1
        replace hh := hh.drop
        exact ⟨I15, A40, cc41, rfl, (hl9.trans hleI15), hh⟩

theorem token_number (I : Snap) (L : List Ch) (W : World) (m : Nat) (b_l : Nat) (A_lf : Option Addr) (c_lf : Nat) (lf : List UInt8) (b_e : Nat) (bad : Int) (hh : Hp I (.obj b_l (.cells #[.slice A_lf lf.length c_lf] 23) :: .obj b_e (.cells #[.int .i64 bad] 37) :: L) W) (h_lf : Fz I A_lf (lf.map b8)) (k_lf : lf.length ≤ c_lf) (hm : m ≤ 1114111) :
    Calls Tryd.prog 40 #[.int .u64 ((m : Nat) : Int), .pointer (some ⟨b_l, 0, none⟩), .pointer (some ⟨b_e, 0, none⟩)] W (Ret fun v W => ∃ (A1 : Option Addr) (c1 : Nat), v = .int .i64 (((numberG m lf bad).1 : Nat) : Int) ∧ Fz I A1 (((numberG m lf bad).2.1).map b8) ∧ ((numberG m lf bad).2.1).length ≤ c1 ∧ Hp I (.obj b_l (.cells #[.slice A1 ((numberG m lf bad).2.1).length c1] 23) :: .obj b_e (.cells #[.int .i64 ((numberG m lf bad).2.2)] 37) :: L) W) := by
  refine enter Tryd.func40 rfl Tryd.ntmps40 rfl fun a he => ?_
  refine sq ?_
  refine rg ?_
  refine asg rfl rfl he fun a he => ?_
  refine en ?_
  refine sq ?_
  refine rg ?_
  refine ld rb_23 rfl (ocell hh.at0 rfl) rfl he fun a he => ?_
  refine cal cb_24 rfl (num_Get _ _ _ A_lf c_lf lf hh h_lf k_lf) rfl he fun v a W hp he => ?_
  obtain ⟨rfl, hh⟩ := hp
  refine mv rfl rfl he fun a he => ?_
  refine xt rfl rfl rfl he fun a he => ?_
  refine xt rfl rfl rfl he fun a he => ?_
  refine xt rfl rfl rfl he fun a he => ?_
  refine asg rfl rfl he fun a he => ?_
  refine asg rfl rfl he fun a he => ?_
  refine asg rfl rfl he fun a he => ?_
  refine en ?_
  refine sq ?_
  refine sq ?_
  refine rg ?_
  refine mv rfl rfl he fun a he => ?_
  refine ne rfl rfl rfl he fun a he => ?_
  refine mv rfl rfl he fun a he => ?_
  refine sd he (t := 16) rfl (fun h15 he => ?_) (fun h15 he => ?_)
  · refine gn rfl rfl he rfl rfl fun a he => ?_
    refine gn rfl rfl he rfl rfl fun a he => ?_
    refine gn rfl rfl he rfl rfl fun a he => ?_
    refine pkt rfl rfl rfl he fun a he => ?_
    refine en ?_
    refine cnt he rfl ?_
    refine sq ?_
    refine rg ?_
    replace hh := hh.up1
    refine st #[.int .i64 2] ti_37 rfl rfl rfl rfl (by simp [Value.oneCell']) (by simp) he hh fun W hh => ?_
    replace hh : Hp I (.obj b_e (.cells [.int .i64 2].toArray 37) :: _) W := hh
    refine en ?_
    refine sq ?_
    refine rg ?_
    refine asg rfl rfl he fun a he => ?_
    refine en ?_
    refine rt ?_
    refine rets1 Tryd.results40 he rfl (Ret.mk ?_)
    rw [numberG_bad (by left; exact h15)]
    replace hh := hh.up1
    exact ⟨A_lf, c_lf, rfl, h_lf, k_lf, hh⟩
  · refine gy rfl he rfl ?_
    refine mv rfl rfl he fun a he => ?_
    refine gy rfl he rfl ?_
    refine mv rfl rfl he fun a he => ?_
    refine gy rfl he rfl ?_
    refine gt rfl rfl rfl he fun a he => ?_
    refine pkf rfl rfl rfl he fun a he => ?_
    refine en ?_
    refine cnd he rfl (fun h19 => ?_) (fun h19 => ?_)
    · replace h19 : m < ((numGet lf).1) := by omega
      refine sq ?_
      refine rg ?_
      replace hh := hh.up1
      refine st #[.int .i64 2] ti_37 rfl rfl rfl rfl (by simp [Value.oneCell']) (by simp) he hh fun W hh => ?_
      replace hh : Hp I (.obj b_e (.cells [.int .i64 2].toArray 37) :: _) W := hh
      refine en ?_
      refine sq ?_
      refine rg ?_
      refine asg rfl rfl he fun a he => ?_
      refine en ?_
      refine rt ?_
      refine rets1 Tryd.results40 he rfl (Ret.mk ?_)
      rw [numberG_bad (by right; omega)]
      replace hh := hh.up1
      exact ⟨A_lf, c_lf, rfl, h_lf, k_lf, hh⟩
    · replace h19 : ¬ (m < ((numGet lf).1)) := by omega
      refine sk ?_
      refine nm_then ?_
      refine sq ?_
      refine rg ?_
      refine ld rb_23 rfl (ocell hh.at0 rfl) rfl he fun a he => ?_
      refine mv rfl rfl he fun a he => ?_
      refine slo1 (xs := lf) ((numGet lf).2.1) ts_23 rfl rfl h_lf k_lf (numGet_le (by omega)) rfl he fun A1 cc2 a hf3 hc4 he => ?_
      refine st #[.slice A1 ((lf.drop ((numGet lf).2.1)).length) cc2] ti_23 rfl rfl rfl rfl (by simp [Value.oneCell']) (by simp) he hh fun W hh => ?_
      replace hh : Hp I (.obj b_l (.cells [.slice A1 ((lf.drop ((numGet lf).2.1)).length) cc2].toArray 23) :: _) W := hh
      refine en ?_
      refine sq ?_
      refine rg ?_
      refine mv rfl rfl he fun a he => ?_
      refine ci (((numGet lf).1 : Nat) : Int) .i64 ud_55 Tryd.underlying3 rfl (w64 (by omega) (by omega)) rfl he fun a he => ?_
      refine asg rfl rfl he fun a he => ?_
      refine en ?_
      refine rt ?_
      refine rets1 Tryd.results40 he rfl (Ret.mk ?_)
      have h0 : (numGet lf).2.2 = 0 := by omega
      rw [numberG_good h0 (by omega)]
      replace hh := hh.up1
      replace hh := hh.up1
      exact ⟨A1, cc2, rfl, hf3, hc4, hh⟩

theorem token_Get (I : Snap) (L : List Ch) (W : World) (A_b : Option Addr) (c_b : Nat) (b : List UInt8) (hh : Hp I L W) (h_b : Fz I A_b (b.map b8)) (k_b : b.length ≤ c_b) :
    Calls Tryd.prog 26 #[.slice A_b b.length c_b] W (Ret fun v W => ∃ (I' : Snap) (A1 : Option Addr) (c1 : Nat) (A2 : Option Addr) (c2 : Nat), v = .tuple #[.agg #[.slice A1 ((tokGet b).pd).length c1, .slice A2 ((tokGet b).wd).length c2, .bool ((tokGet b).mrk), .bool ((tokGet b).lg)], .int .i64 ((tokGet b).err)] ∧ I.le I' ∧ Fz I' A1 (((tokGet b).pd).map b8) ∧ ((tokGet b).pd).length ≤ c1 ∧ Fz I' A2 (((tokGet b).wd).map r32) ∧ ((tokGet b).wd).length ≤ c2 ∧ Hp I' (L) W) := by
  refine enter Tryd.func26 rfl Tryd.ntmps26 rfl fun a he => ?_
  refine sq ?_
  refine rg ?_
  refine al ti_34 rfl he hh fun bb1 a W he hh => ?_
  replace hh : Hp I (.obj bb1 (.cells [.slice none 0 0, .slice none 0 0, .bool false, .bool false].toArray 34) :: _) W := hh
  refine asg rfl rfl he fun a he => ?_
  refine en ?_
  refine sq ?_
  refine rg ?_
  refine mv rfl rfl he fun a he => ?_
  refine al ti_23 rfl he hh fun bb2 a W he hh => ?_
  replace hh : Hp I (.obj bb2 (.cells [.slice none 0 0].toArray 23) :: _) W := hh
  refine al ti_37 rfl he hh fun bb3 a W he hh => ?_
  replace hh : Hp I (.obj bb3 (.cells [.int .i64 0].toArray 37) :: _) W := hh
  replace hh := hh.up1
  refine st #[.slice A_b b.length c_b] ti_23 rfl rfl rfl rfl (by simp [Value.oneCell']) (by simp) he hh fun W hh => ?_
  replace hh : Hp I (.obj bb2 (.cells [.slice A_b b.length c_b].toArray 23) :: _) W := hh
  replace hh := hh.up1
  refine st #[.int .i64 0] ti_37 rfl rfl rfl rfl (by simp [Value.oneCell']) (by simp) he hh fun W hh => ?_
  replace hh : Hp I (.obj bb3 (.cells [.int .i64 0].toArray 37) :: _) W := hh
  refine en ?_
  refine sq ?_
  refine rg ?_
  refine mkf (vs := []) (ws := [.pointer (some ⟨bb2, 0, none⟩), .pointer (some ⟨bb3, 0, none⟩)]) rfl rfl rfl he fun a he => ?_
  refine asg rfl rfl he fun a he => ?_
  refine en ?_
  refine sq ?_
  refine rg ?_
  refine al ti_34 rfl he hh fun bb4 a W he hh => ?_
  replace hh : Hp I (.obj bb4 (.cells [.slice none 0 0, .slice none 0 0, .bool false, .bool false].toArray 34) :: _) W := hh
  refine en ?_
  refine sq ?_
  refine rg ?_
  refine mv rfl rfl he fun a he => ?_
  replace hh := hh.up1
  replace hh := hh.up2
  refine calc' (us := [.int .u64 32, .pointer (some ⟨bb2, 0, none⟩), .pointer (some ⟨bb3, 0, none⟩)]) cb_40 rfl rfl (by first | (simp; done) | (simp; rfl)) (token_number _ _ _ 32 bb2 A_b c_b b bb3 0 hh h_b k_b (by decide)) rfl he fun v a W hp he => ?_
  obtain ⟨A5, cc6, rfl, hf7, hc8, hh⟩ := hp
  refine asg rfl rfl he fun a he => ?_
  refine en ?_
  refine sq ?_
  refine rg ?_
  refine mv rfl rfl he fun a he => ?_
  refine ld rb_23 rfl (ocell hh.at0 rfl) rfl he fun a he => ?_
  refine ln Tryd.underlying23 rfl rfl he fun a he => ?_
  refine mn (((tokMin b) : Nat) : Int) rfl rfl (by unfold tokMin; split <;> omega) rfl he fun a he => ?_
  refine asg rfl rfl he fun a he => ?_
  refine en ?_
  refine sq ?_
  refine rg ?_
  refine ld rb_23 rfl (ocell hh.at0 rfl) rfl he fun a he => ?_
  refine mv rfl rfl he fun a he => ?_
  refine shi1 (xs := (numberG 32 b 0).2.1) ((tokMin b)) ts_23 rfl rfl hf7 hc8 (tokMin_le b) rfl he fun a hf11 hc12 he => ?_
  refine cal cb_41 rfl (bytes_Clone _ _ _ A5 cc6 (((numberG 32 b 0).2.1).take (tokMin b)) hh hf11 hc12 (by have := numberG_le 32 b 0; simp only [tokMin, List.length_take]; omega)) rfl he fun v a W hp he => ?_
  obtain ⟨A13, cc14, rfl, hh⟩ := hp
  replace he := he.be (t := 23) (v' := .slice A13 ((tokPd b).length) cc14) rfl rfl
  replace hh : Hp I (.row A13 ((tokPd b).length) cc14 5 1 ((tokPd b).map b8) :: .obj bb2 (.cells ([.slice A5 (((numberG 32 b 0).2.1).length) cc6]).toArray 23) :: .obj bb3 (.cells ([.int .i64 ((numberG 32 b 0).2.2)]).toArray 37) :: .obj bb4 (.cells ([.slice none 0 0, .slice none 0 0, .bool false, .bool false]).toArray 34) :: .obj bb1 (.cells ([.slice none 0 0, .slice none 0 0, .bool false, .bool false]).toArray 34) :: L) W := hh
  refine fa fo_34_0 rfl rfl he fun a he => ?_
  replace hh := hh.up3
  refine st #[.slice A13 ((tokPd b).length) cc14] ti_23 rfl rfl rfl rfl (by simp [Value.oneCell']) (by simp) he hh fun W hh => ?_
  replace hh : Hp I (.obj bb4 (.cells [.slice A13 ((tokPd b).length) cc14, .slice none 0 0, .bool false, .bool false].toArray 34) :: _) W := hh
  refine en ?_
  refine sq ?_
  refine rg ?_
  refine ld rb_23 rfl (ocell hh.at2 rfl) rfl he fun a he => ?_
  refine mv rfl rfl he fun a he => ?_
  refine slo1 (xs := (numberG 32 b 0).2.1) ((tokMin b)) ts_23 rfl rfl hf7 hc8 (tokMin_le b) rfl he fun A16 cc17 a hf18 hc19 he => ?_
  replace he := he.be (t := 27) (v' := .slice A16 ((tokL2 b).length) cc17) rfl rfl
  replace hh := hh.up2
  refine st #[.slice A16 ((tokL2 b).length) cc17] ti_23 rfl rfl rfl rfl (by simp [Value.oneCell']) (by simp) he hh fun W hh => ?_
  replace hh : Hp I (.obj bb2 (.cells [.slice A16 ((tokL2 b).length) cc17].toArray 23) :: _) W := hh
  refine en ?_
  refine sq ?_
  refine sq ?_
  refine rg ?_
  refine mv rfl rfl he fun a he => ?_
  replace hh := hh.up3
  replace hh := hh.up1
  refine calc' (us := [.int .u64 32, .pointer (some ⟨bb2, 0, none⟩), .pointer (some ⟨bb3, 0, none⟩)]) cb_40 rfl rfl (by first | (simp; done) | (simp; rfl)) (token_number _ _ _ 32 bb2 A16 cc17 (tokL2 b) bb3 ((numberG 32 b 0).2.2) hh hf18 hc19 (by decide)) rfl he fun v a W hp he => ?_
  obtain ⟨A20, cc21, rfl, hf22, hc23, hh⟩ := hp
  replace he := he.be (t := 29) (v' := .int .i64 (((tokG2 b).1 : Nat) : Int)) rfl rfl
  replace hh : Hp I (.obj bb2 (.cells ([.slice A20 ((tokG2 b).2.1.length) cc21]).toArray 23) :: .obj bb3 (.cells ([.int .i64 ((tokG2 b).2.2)]).toArray 37) :: .obj bb4 (.cells ([.slice A13 ((tokPd b).length) cc14, .slice none 0 0, .bool false, .bool false]).toArray 34) :: .row A13 ((tokPd b).length) cc14 5 1 ((tokPd b).map b8) :: .obj bb1 (.cells ([.slice none 0 0, .slice none 0 0, .bool false, .bool false]).toArray 34) :: L) W := hh
  refine mv rfl rfl he fun a he => ?_
  refine en ?_
  refine bk ?_
  replace hh := hh.nilrow 21 1
  replace hh := hh.up5
  replace hh := hh.up5
  replace hh := hh.up5
  replace hh := hh.up5
  replace hh := hh.up5
  replace hh := hh.up5
  refine lp (fun (s : Nat × List Int × List UInt8 × Int) a w => match s with | (i, pre, lf, bad) => ∃ (A_7_1 : Option Addr) (A_l : Option Addr) (c_7_1 : Nat) (c_l : Nat), Env 79 [(0, .slice A_b b.length c_b), (2, .pointer (some ⟨bb1, 0, none⟩)), (3, .int .i64 0), (4, .pointer (some ⟨bb2, 0, none⟩)), (5, .pointer (some ⟨bb3, 0, none⟩)), (6, .func (.func 40) #[] #[.pointer (some ⟨bb2, 0, none⟩), .pointer (some ⟨bb3, 0, none⟩)]), (7, .pointer (some ⟨bb4, 0, none⟩)), (29, .int .i64 (((tokG2 b).1 : Nat) : Int)), (30, .int .i64 ((i : Nat) : Int))] a ∧ Hp I (.row A_7_1 pre.length c_7_1 21 1 (pre.map r32) :: .obj bb2 (.cells ([.slice A_l lf.length c_l]).toArray 23) :: .obj bb3 (.cells ([.int .i64 bad]).toArray 37) :: .obj bb4 (.cells ([.slice A13 ((tokPd b).length) cc14, .slice A_7_1 pre.length c_7_1, .bool false, .bool false]).toArray 34) :: .row A13 ((tokPd b).length) cc14 5 1 ((tokPd b).map b8) :: .obj bb1 (.cells ([.slice none 0 0, .slice none 0 0, .bool false, .bool false]).toArray 34) :: L) w ∧ Fz I A_l (lf.map b8) ∧ lf.length ≤ c_l ∧ i ≤ (tokG2 b).1 ∧ pre.length ≤ i ∧ (pre ++ (wordG ((tokG2 b).1 - i) lf bad).1, (wordG ((tokG2 b).1 - i) lf bad).2) = tokW b)
      (fun s => (tokG2 b).1 - s.1) (0, [], (tokG2 b).2.1, (tokG2 b).2.2) ⟨none, A20, 0, cc21, he.keep [0, 2, 3, 4, 5, 6, 7, 29, 30] rfl, hh, hf22, hc23, Nat.zero_le _, Nat.le_refl _, by simp [tokW]⟩ fun s a W hinv => ?_
  obtain ⟨i, pre, lf, bad⟩ := s
  obtain ⟨A_7_1, A_l, c_7_1, c_l, he, hh, h_l, k_l, hi, hpi, hinv⟩ := hinv
  refine sq ?_
  refine rg ?_
  refine lt rfl rfl rfl he fun a he => ?_
  refine en ?_
  refine sq ?_
  refine cnd he rfl (fun h25 => ?_) (fun h25 => ?_)
  · replace h25 : i < ((tokG2 b).1) := by omega
    have hg2 := tokG2_le b
    have hn := numberG_le 1114111 lf bad
    refine sk ?_
    refine nm_then ?_
    refine sq ?_
    refine bk ?_
    replace hh := hh.up5
    refine rgd (SH I [.obj bb1 (.cells ([.slice none 0 0, .slice none 0 0, .bool false, .bool false]).toArray 34)]) 11 mixo rfl hh fun W hh => ?_
    refine ahp (d := 32) (v := .pointer (some ⟨bb4, 1, none⟩)) 0 rfl (by kernel_rfl) (by kernel_rfl) (by kernel_rfl) rfl rfl rfl he ⟨_, _, (Snap.le.refl _), hh⟩ (fun W hS => by
        refine fa fo_34_1 rfl rfl he fun a he => ?_
        exact aqe he) fun a he => ?_
    refine ahp (d := 33) (v := .pointer (some ⟨bb4, 1, none⟩)) 1 rfl (by kernel_rfl) (by kernel_rfl) (by kernel_rfl) rfl rfl rfl he ⟨_, _, (Snap.le.refl _), hh⟩ (fun W hS => by
        refine fa fo_32_0 rfl rfl he fun a he => ?_
        exact aqe he) fun a he => ?_
    refine ahp (d := 35) (v := .func (.func 40) #[] #[.pointer (some ⟨bb2, 0, none⟩), .pointer (some ⟨bb3, 0, none⟩)]) 3 rfl (by kernel_rfl) (by kernel_rfl) (by kernel_rfl) rfl rfl rfl he ⟨_, _, (Snap.le.refl _), hh⟩ (fun W hS => by
        refine mv rfl rfl he fun a he => ?_
        exact aqe he) fun a he => ?_
    refine jnd (fun a W => ∃ (A26 : Option Addr) (cc27 : Nat) (A29 : Option Addr) (cc30 : Nat), Env 79 [(0, .slice A_b b.length c_b), (2, .pointer (some ⟨bb1, 0, none⟩)), (3, .int .i64 0), (4, .pointer (some ⟨bb2, 0, none⟩)), (5, .pointer (some ⟨bb3, 0, none⟩)), (6, .func (.func 40) #[] #[.pointer (some ⟨bb2, 0, none⟩), .pointer (some ⟨bb3, 0, none⟩)]), (7, .pointer (some ⟨bb4, 0, none⟩)), (29, .int .i64 (((tokG2 b).1 : Nat) : Int)), (30, .int .i64 ((i : Nat) : Int)), (31, .bool (decide (((i : Nat) : Int) < (((tokG2 b).1 : Nat) : Int)))), (34, .slice A_7_1 pre.length c_7_1), (38, .slice A26 1 cc27)] a ∧ Hp I (.obj bb1 (.cells ([.slice none 0 0, .slice none 0 0, .bool false, .bool false]).toArray 34) :: .obj bb2 (.cells ([.slice A29 (((numberG 1114111 lf bad).2.1).length) cc30]).toArray 23) :: .obj bb3 (.cells ([.int .i64 ((numberG 1114111 lf bad).2.2)]).toArray 37) :: .row A_7_1 pre.length c_7_1 21 1 (pre.map r32) :: .obj bb4 (.cells ([.slice A13 ((tokPd b).length) cc14, .slice A_7_1 pre.length c_7_1, .bool false, .bool false]).toArray 34) :: .row A13 ((tokPd b).length) cc14 5 1 ((tokPd b).map b8) :: .row A26 1 cc27 21 1 ([.int .i32 (((numberG 1114111 lf bad).1 : Nat) : Int)]) :: L) W ∧ Fz I A29 (((numberG 1114111 lf bad).2.1).map b8) ∧ ((numberG 1114111 lf bad).2.1).length ≤ cc30) 4 #[true, true, true, true, true, true, true, false, false, false, false] (fun a W hM => ?_) fun key34 => ?_
    · obtain ⟨A26, cc27, A29, cc30, he, hh, hf31, hc32⟩ := hM
      refine aha1 (i := 7) (by kernel_rfl) ?_
      refine aop rfl ?_
      replace hh := hh.up3
      refine ap ts_24 rfl rfl (Ch.rd hh.at6) (by first | rfl | (simp; done) | (simp; omega)) (by simp [Value.oneCell']) (by omega) rfl he hh fun A35 cc36 a W he hh => ?_
      replace hh := hh.re (n' := ((pre ++ [(((numberG 1114111 lf bad).1 : Nat) : Int)])).length) (cs' := ((pre ++ [(((numberG 1114111 lf bad).1 : Nat) : Int)])).map r32) (by first | rfl | (simp; done) | (simp; omega)) (by simp [r32])
      replace he := he.be (t := 39) (v' := .slice A35 ((pre ++ [(((numberG 1114111 lf bad).1 : Nat) : Int)])).length cc36) rfl (by congr 1 <;> (first | rfl | (simp; done) | (simp; omega)))
      replace hh := hh.up6
      replace hh := hh.drop
      replace hh := hh.up1
      refine aen ⟨_, _, (Snap.le.refl _), hh⟩ ?_
      refine ahp (d := 40) (v := .pointer (some ⟨bb4, 1, none⟩)) 8 rfl (by kernel_rfl) (by kernel_rfl) (by kernel_rfl) rfl rfl rfl he ⟨_, _, (Snap.le.refl _), hh⟩ (fun W hS => by
          refine fa fo_34_1 rfl rfl he fun a he => ?_
          exact aqe he) fun a he => ?_
      refine ahp (d := 41) (v := .pointer (some ⟨bb4, 1, none⟩)) 9 rfl (by kernel_rfl) (by kernel_rfl) (by kernel_rfl) rfl rfl rfl he ⟨_, _, (Snap.le.refl _), hh⟩ (fun W hS => by
          refine fa fo_32_0 rfl rfl he fun a he => ?_
          exact aqe he) fun a he => ?_
      refine aha1 (i := 10) (by kernel_rfl) ?_
      refine aop rfl ?_
      replace hh := hh.up4
      refine st #[.slice A35 (((pre ++ [(((numberG 1114111 lf bad).1 : Nat) : Int)])).length) cc36] ti_24 rfl rfl rfl rfl (by simp [Value.oneCell']) (by simp) he hh fun W hh => ?_
      replace hh : Hp I (.obj bb4 (.cells [.slice A13 ((tokPd b).length) cc14, .slice A35 (((pre ++ [(((numberG 1114111 lf bad).1 : Nat) : Int)])).length) cc36, .bool false, .bool false].toArray 34) :: _) W := hh
      replace hh := hh.up1
      refine aen ⟨_, _, (Snap.le.refl _), hh⟩ ?_
      refine ahd (by kernel_rfl) ?_
      refine en_blk ?_
      refine nm_then ?_
      refine rg ?_
      refine ad (((i + 1) : Nat) : Int) rfl rfl (w64 (by omega) (by omega)) rfl he fun a he => ?_
      refine mv rfl rfl he fun a he => ?_
      refine en ?_
      replace hh := hh.up5
      replace hh := hh.up2
      replace hh := hh.up5
      replace hh := hh.up5
      replace hh := hh.up5
      exact ⟨(i + 1, pre ++ [((numberG 1114111 lf bad).1 : Int)], (numberG 1114111 lf bad).2.1, (numberG 1114111 lf bad).2.2), ⟨A35, A29, cc36, cc30, he.keep [0, 2, 3, 4, 5, 6, 7, 29, 30] rfl, hh, hf31, hc32, by omega, by simp; omega, wordG_next hinv (by omega)⟩, by show (tokG2 b).1 - (i + 1) < (tokG2 b).1 - i; omega⟩
    refine aha2 (i := 2) (j := 4) (by kernel_rfl) ?_ ?_
    · refine aop rfl ?_
      refine ld rb_24 rfl (ocell hh.at4 rfl) rfl he fun a he => ?_
      refine aen ⟨_, _, (Snap.le.refl _), hh⟩ ?_
      refine aha1 (i := 4) (by kernel_rfl) ?_
      refine aop rfl ?_
      replace hh := hh.up3
      replace hh := hh.up3
      refine calc' (us := [.int .u64 1114111, .pointer (some ⟨bb2, 0, none⟩), .pointer (some ⟨bb3, 0, none⟩)]) cb_40 rfl rfl (by first | (simp; done) | (simp; rfl)) (token_number _ _ _ 1114111 bb2 A_l c_l lf bb3 bad hh h_l k_l (by decide)) rfl he fun v a W hp he => ?_
      obtain ⟨A38, cc39, rfl, hf40, hc41, hh⟩ := hp
      replace hh := hh.up2
      refine aen ⟨_, _, (Snap.le.refl _), hh⟩ ?_
      refine ahp (d := 37) (v := .int .i32 (((numberG 1114111 lf bad).1 : Nat) : Int)) 5 rfl (by kernel_rfl) (by kernel_rfl) (by kernel_rfl) rfl rfl rfl he ⟨_, _, (Snap.le.refl _), hh⟩ (fun W hS => by
          obtain ⟨I42, _, hleI42, hh⟩ := hS
          refine ci (((numberG 1114111 lf bad).1 : Nat) : Int) .i32 ud_3 Tryd.underlying21 rfl (w32 (by omega) (by omega)) rfl he fun a he => ?_
          exact aqe he) fun a he => ?_
      refine aha1 (i := 6) (by kernel_rfl) ?_
      refine aop rfl ?_
      refine bsl [(0, .int .i32 (((numberG 1114111 lf bad).1 : Nat) : Int))] [.int .i32 (((numberG 1114111 lf bad).1 : Nat) : Int)] ts_24 rfl rfl rfl rfl rfl rfl rfl he hh fun bb43 a W he hh => ?_
      replace hh := hh.up1
      refine aen ⟨_, _, (Snap.le.refl _), hh⟩ ?_
      replace hh := hh.up1
      replace hh := hh.up6
      replace hh := hh.up6
      replace hh := hh.up6
      replace hh := hh.up6
      replace hh := hh.up6
      replace hh := hh.up6
      exact key34 _ _ _ (by kernel_rfl) ⟨(some ⟨bb43, 0, none⟩), 1, A38, cc39, he.keep [0, 2, 3, 4, 5, 6, 7, 29, 30, 31, 34, 38] rfl, hh, hf40, hc41⟩
    · refine aop rfl ?_
      replace hh := hh.up3
      replace hh := hh.up3
      refine calc' (us := [.int .u64 1114111, .pointer (some ⟨bb2, 0, none⟩), .pointer (some ⟨bb3, 0, none⟩)]) cb_40 rfl rfl (by first | (simp; done) | (simp; rfl)) (token_number _ _ _ 1114111 bb2 A_l c_l lf bb3 bad hh h_l k_l (by decide)) rfl he fun v a W hp he => ?_
      obtain ⟨A44, cc45, rfl, hf46, hc47, hh⟩ := hp
      replace hh := hh.up2
      refine aen ⟨_, _, (Snap.le.refl _), hh⟩ ?_
      refine ahp (d := 37) (v := .int .i32 (((numberG 1114111 lf bad).1 : Nat) : Int)) 5 rfl (by kernel_rfl) (by kernel_rfl) (by kernel_rfl) rfl rfl rfl he ⟨_, _, (Snap.le.refl _), hh⟩ (fun W hS => by
          obtain ⟨I48, _, hleI48, hh⟩ := hS
          refine ci (((numberG 1114111 lf bad).1 : Nat) : Int) .i32 ud_3 Tryd.underlying21 rfl (w32 (by omega) (by omega)) rfl he fun a he => ?_
          exact aqe he) fun a he => ?_
      refine aha2 (i := 2) (j := 6) (by kernel_rfl) ?_ ?_
      · refine aop rfl ?_
        refine ld rb_24 rfl (ocell hh.at4 rfl) rfl he fun a he => ?_
        refine aen ⟨_, _, (Snap.le.refl _), hh⟩ ?_
        refine aha1 (i := 6) (by kernel_rfl) ?_
        refine aop rfl ?_
        refine bsl [(0, .int .i32 (((numberG 1114111 lf bad).1 : Nat) : Int))] [.int .i32 (((numberG 1114111 lf bad).1 : Nat) : Int)] ts_24 rfl rfl rfl rfl rfl rfl rfl he hh fun bb49 a W he hh => ?_
        replace hh := hh.up1
        refine aen ⟨_, _, (Snap.le.refl _), hh⟩ ?_
        replace hh := hh.up1
        replace hh := hh.up6
        replace hh := hh.up6
        replace hh := hh.up6
        replace hh := hh.up6
        replace hh := hh.up6
        replace hh := hh.up6
        exact key34 _ _ _ (by kernel_rfl) ⟨(some ⟨bb49, 0, none⟩), 1, A44, cc45, he.keep [0, 2, 3, 4, 5, 6, 7, 29, 30, 31, 34, 38] rfl, hh, hf46, hc47⟩
      · refine aop rfl ?_
        refine bsl [(0, .int .i32 (((numberG 1114111 lf bad).1 : Nat) : Int))] [.int .i32 (((numberG 1114111 lf bad).1 : Nat) : Int)] ts_24 rfl rfl rfl rfl rfl rfl rfl he hh fun bb50 a W he hh => ?_
        replace hh := hh.up1
        refine aen ⟨_, _, (Snap.le.refl _), hh⟩ ?_
        refine aha1 (i := 2) (by kernel_rfl) ?_
        refine aop rfl ?_
        refine ld rb_24 rfl (ocell hh.at5 rfl) rfl he fun a he => ?_
        refine aen ⟨_, _, (Snap.le.refl _), hh⟩ ?_
        replace hh := hh.up1
        replace hh := hh.up6
        replace hh := hh.up6
        replace hh := hh.up6
        replace hh := hh.up6
        replace hh := hh.up6
        replace hh := hh.up6
        exact key34 _ _ _ (by kernel_rfl) ⟨(some ⟨bb50, 0, none⟩), 1, A44, cc45, he.keep [0, 2, 3, 4, 5, 6, 7, 29, 30, 31, 34, 38] rfl, hh, hf46, hc47⟩
  · replace h25 : ¬ (i < ((tokG2 b).1)) := by omega
    have hW := wordG_end hinv (by omega)
    have hG : tokG3 b = numberG 3 lf bad := by unfold tokG3; rw [hW]
    have hW1 : (tokW b).1 = pre := by rw [hW]
    have hwl : pre.length ≤ 32 := by rw [← hW1]; exact tokW_len b
    have hG3 := numberG_le 3 lf bad
    have hpl := tokPd_len b
    refine ext ?_
    refine ex_then ?_
    refine ex_then ?_
    refine ex_in ?_
    refine nm_then ?_
    refine sq ?_
    refine rg ?_
    refine mv rfl rfl he fun a he => ?_
    replace hh := hh.up2
    replace hh := hh.up2
    refine calc' (us := [.int .u64 3, .pointer (some ⟨bb2, 0, none⟩), .pointer (some ⟨bb3, 0, none⟩)]) cb_40 rfl rfl (by first | (simp; done) | (simp; rfl)) (token_number _ _ _ 3 bb2 A_l c_l lf bb3 bad hh h_l k_l (by decide)) rfl he fun v a W hp he => ?_
    obtain ⟨A51, cc52, rfl, hf53, hc54, hh⟩ := hp
    refine asg rfl rfl he fun a he => ?_
    refine en ?_
    refine sq ?_
    refine rg ?_
    refine mv rfl rfl he fun a he => ?_
    refine an ((((numberG 3 lf bad).1 &&& 1) : Nat) : Int) rfl rfl (bandi64 _ 1 (by omega) (by decide)) rfl he fun a he => ?_
    refine gt rfl rfl rfl he fun a he => ?_
    refine mv rfl rfl he fun a he => ?_
    refine an ((((numberG 3 lf bad).1 &&& 2) : Nat) : Int) rfl rfl (bandi64 _ 2 (by omega) (by decide)) rfl he fun a he => ?_
    refine gt rfl rfl rfl he fun a he => ?_
    refine fa fo_34_1 rfl rfl he fun a he => ?_
    refine fa fo_32_1 rfl rfl he fun a he => ?_
    replace hh := hh.up3
    refine st #[.bool (decide ((0 : Int) < ((((numberG 3 lf bad).1 &&& 1) : Nat) : Int)))] ti_4 rfl rfl rfl rfl (by simp [Value.oneCell']) (by simp) he hh fun W hh => ?_
    replace hh : Hp I (.obj bb4 (.cells [.slice A13 ((tokPd b).length) cc14, .slice A_7_1 pre.length c_7_1, .bool (decide ((0 : Int) < ((((numberG 3 lf bad).1 &&& 1) : Nat) : Int))), .bool false].toArray 34) :: _) W := hh
    refine fa fo_34_1 rfl rfl he fun a he => ?_
    refine fa fo_32_2 rfl rfl he fun a he => ?_
    refine st #[.bool (decide ((0 : Int) < ((((numberG 3 lf bad).1 &&& 2) : Nat) : Int)))] ti_4 rfl rfl rfl rfl (by simp [Value.oneCell']) (by simp) he hh fun W hh => ?_
    replace hh : Hp I (.obj bb4 (.cells [.slice A13 ((tokPd b).length) cc14, .slice A_7_1 pre.length c_7_1, .bool (decide ((0 : Int) < ((((numberG 3 lf bad).1 &&& 1) : Nat) : Int))), .bool (decide ((0 : Int) < ((((numberG 3 lf bad).1 &&& 2) : Nat) : Int)))].toArray 34) :: _) W := hh
    refine en ?_
    refine sq ?_
    refine rg ?_
    refine fa fo_34_0 rfl rfl he fun a he => ?_
    refine ld rb_23 rfl (ocell hh.at0 rfl) rfl he fun a he => ?_
    refine ln Tryd.underlying23 rfl rfl he fun a he => ?_
    refine eq rfl rfl rfl he fun a he => ?_
    refine mv rfl rfl he fun a he => ?_
    refine sd he (t := 59) rfl (fun gpd he => ?_) (fun gpd he => ?_)
    · replace gpd : ((tokPd b).length) = 0 := by omega
      refine gn rfl rfl he rfl rfl fun a he => ?_
      refine gn rfl rfl he rfl rfl fun a he => ?_
      refine gn rfl rfl he rfl rfl fun a he => ?_
      refine pkt rfl rfl rfl he fun a he => ?_
      refine asg rfl rfl he fun a he => ?_
      refine en ?_
      refine sq ?_
      refine sq ?_
      refine rg ?_
      refine ld rb_37 rfl (ocell hh.at2 rfl) rfl he fun a he => ?_
      refine ne rfl rfl rfl he fun a he => ?_
      refine mv rfl rfl he fun a he => ?_
      refine sd he (t := 66) rfl (fun gbad he => ?_) (fun gbad he => ?_)
      · refine gn rfl rfl he rfl rfl fun a he => ?_
        refine gn rfl rfl he rfl rfl fun a he => ?_
        refine pkt rfl rfl rfl he fun a he => ?_
        refine mv rfl rfl he fun a he => ?_
        refine gn rfl rfl he rfl rfl fun a he => ?_
        refine gn rfl rfl he rfl rfl fun a he => ?_
        refine gn rfl rfl he rfl rfl fun a he => ?_
        refine gn rfl rfl he rfl rfl fun a he => ?_
        refine gn rfl rfl he rfl rfl fun a he => ?_
        refine pkt rfl rfl rfl he fun a he => ?_
        refine en ?_
        refine cnt he rfl ?_
        refine sq ?_
        refine rg ?_
        refine bld #[.slice none 0 0, .slice none 0 0, .bool false, .bool false] rfl (by kernel_rfl) rfl he fun a he => ?_
        replace hh := hh.up5
        refine st #[.slice none 0 0, .slice none 0 0, .bool false, .bool false] ti_34 rfl rfl rfl rfl (by simp [Value.oneCell']) (by simp) he hh fun W hh => ?_
        replace hh : Hp I (.obj bb1 (.cells [.slice none 0 0, .slice none 0 0, .bool false, .bool false].toArray 34) :: _) W := hh
        refine asg rfl rfl he fun a he => ?_
        refine en ?_
        refine rt ?_
        refine retsCT Tryd.results26 he rfl (loadVar_run rb_34 ti_34 ((Rd.obj hh.at0 0).take 4) rfl) rfl (Ret.mk ?_)
        have hok : tokOk b = false := by simp only [tokOk, tokMk, tokLg, hG, hW1]; simp [gpd, gbad]
        rw [tokGet, if_neg (by rw [hok]; decide)]
        replace hh := hh.drop
        replace hh := hh.drop
        replace hh := hh.drop
        replace hh := hh.drop
        replace hh := hh.drop
        replace hh := hh.drop
        exact ⟨I, none, 0, none, 0, rfl, (Snap.le.refl _), Fz.nil _ _, Nat.le_refl _, Fz.nil _ _, Nat.le_refl _, hh⟩
      · refine gy rfl he rfl ?_
        refine mv rfl rfl he fun a he => ?_
        refine gy rfl he rfl ?_
        refine nt rfl rfl he fun a he => ?_
        refine pkf rfl rfl rfl he fun a he => ?_
        refine mv rfl rfl he fun a he => ?_
        refine gy rfl he rfl ?_
        refine ldA [.slice A13 ((tokPd b).length) cc14, .slice A_7_1 pre.length c_7_1, .bool (decide ((0 : Int) < ((((numberG 3 lf bad).1 &&& 1) : Nat) : Int))), .bool (decide ((0 : Int) < ((((numberG 3 lf bad).1 &&& 2) : Nat) : Int)))] rb_34 ti_34 rfl ((Rd.obj hh.at0 0).take 4) rfl rfl he fun a he => ?_
        refine gy rfl he rfl ?_
        replace hh := hh.up4
        have hc58 := (Ch.rowcap hh.at0).1
        obtain ⟨I55, hl56, hh, hf57⟩ := hh.freezeRow
        replace hh := hh.up3
        have hc62 := (Ch.rowcap hh.at0).1
        obtain ⟨I59, hl60, hh, hf61⟩ := hh.freezeRow
        refine cal cb_30 rfl (token_Put _ _ _ A13 cc14 (tokPd b) A_7_1 c_7_1 pre (decide ((0 : Int) < ((((numberG 3 lf bad).1 &&& 1) : Nat) : Int))) (decide ((0 : Int) < ((((numberG 3 lf bad).1 &&& 2) : Nat) : Int))) hh (hf57.up hl60) hc58 hf61 hc62 (by omega) (by omega) (fun c hc => by rw [← hW1] at hc; have := tokW_le b c hc; omega)) rfl he fun v a W hp he => ?_
        obtain ⟨I63, A65, cc66, rfl, hl64, hh⟩ := hp
        refine gy rfl he rfl ?_
        refine mv rfl rfl he fun a he => ?_
        refine gy rfl he rfl ?_
        have hc71 := (Ch.rowcap hh.at0).1
        obtain ⟨I68, hl69, hh, hf70⟩ := hh.freezeRow
        refine cal cb_27 rfl (bytes_Equal _ _ _ A65 cc66 (tokPut (tokPd b) pre (decide ((0 : Int) < ((((numberG 3 lf bad).1 &&& 1) : Nat) : Int))) (decide ((0 : Int) < ((((numberG 3 lf bad).1 &&& 2) : Nat) : Int)))) A_b c_b b hh hf70 hc71 (h_b.up (((hl56.trans hl60).trans hl64).trans hl69)) k_b) rfl he fun v a W hp he => ?_
        obtain ⟨rfl, hh⟩ := hp
        refine gy rfl he rfl ?_
        refine nt rfl rfl he fun a he => ?_
        refine pkf rfl rfl rfl he fun a he => ?_
        refine en ?_
        refine cnb he rfl (fun heq => ?_) (fun heq => ?_)
        · refine sq ?_
          refine rg ?_
          refine bld #[.slice none 0 0, .slice none 0 0, .bool false, .bool false] rfl (by kernel_rfl) rfl he fun a he => ?_
          replace hh := hh.up3
          refine st #[.slice none 0 0, .slice none 0 0, .bool false, .bool false] ti_34 rfl rfl rfl rfl (by simp [Value.oneCell']) (by simp) he hh fun W hh => ?_
          replace hh : Hp I68 (.obj bb1 (.cells [.slice none 0 0, .slice none 0 0, .bool false, .bool false].toArray 34) :: _) W := hh
          refine asg rfl rfl he fun a he => ?_
          refine en ?_
          refine rt ?_
          refine retsCT Tryd.results26 he rfl (loadVar_run rb_34 ti_34 ((Rd.obj hh.at0 0).take 4) rfl) rfl (Ret.mk ?_)
          have hok : tokOk b = false := by simp only [tokOk, tokMk, tokLg, hG, hW1]; generalize decide (tokPut (tokPd b) pre (decide ((0 : Int) < (((numberG 3 lf bad).1 &&& 1 : Nat) : Int))) (decide ((0 : Int) < (((numberG 3 lf bad).1 &&& 2 : Nat) : Int))) = b) = q at heq ⊢; simp at gbad heq; simp [gpd, gbad, heq]
          rw [tokGet, if_neg (by rw [hok]; decide)]
          replace hh := hh.drop
          replace hh := hh.drop
          replace hh := hh.drop
          replace hh := hh.drop
          exact ⟨I68, none, 0, none, 0, rfl, (((hl56.trans hl60).trans hl64).trans hl69), Fz.nil _ _, Nat.le_refl _, Fz.nil _ _, Nat.le_refl _, hh⟩
        · refine sk ?_
          refine nm_then ?_
          refine sq ?_
          refine rg ?_
          refine ldA [.slice A13 ((tokPd b).length) cc14, .slice A_7_1 pre.length c_7_1, .bool (decide ((0 : Int) < ((((numberG 3 lf bad).1 &&& 1) : Nat) : Int))), .bool (decide ((0 : Int) < ((((numberG 3 lf bad).1 &&& 2) : Nat) : Int)))] rb_34 ti_34 rfl ((Rd.obj hh.at0 0).take 4) rfl rfl he fun a he => ?_
          replace hh := hh.up3
          refine st #[.slice A13 ((tokPd b).length) cc14, .slice A_7_1 pre.length c_7_1, .bool (decide ((0 : Int) < ((((numberG 3 lf bad).1 &&& 1) : Nat) : Int))), .bool (decide ((0 : Int) < ((((numberG 3 lf bad).1 &&& 2) : Nat) : Int)))] ti_34 rfl rfl rfl rfl (by simp [Value.oneCell']) (by simp) he hh fun W hh => ?_
          replace hh : Hp I68 (.obj bb1 (.cells [.slice A13 ((tokPd b).length) cc14, .slice A_7_1 pre.length c_7_1, .bool (decide ((0 : Int) < ((((numberG 3 lf bad).1 &&& 1) : Nat) : Int))), .bool (decide ((0 : Int) < ((((numberG 3 lf bad).1 &&& 2) : Nat) : Int)))].toArray 34) :: _) W := hh
          refine asg rfl rfl he fun a he => ?_
          refine en ?_
          refine rt ?_
          refine retsCT Tryd.results26 he rfl (loadVar_run rb_34 ti_34 ((Rd.obj hh.at0 0).take 4) rfl) rfl (Ret.mk ?_)
          have hok : tokOk b = true := by simp only [tokOk, tokMk, tokLg, hG, hW1]; generalize decide (tokPut (tokPd b) pre (decide ((0 : Int) < (((numberG 3 lf bad).1 &&& 1 : Nat) : Int))) (decide ((0 : Int) < (((numberG 3 lf bad).1 &&& 2 : Nat) : Int))) = b) = q at heq ⊢; simp at gbad heq; simp [gpd, gbad, heq]
          rw [tokGet, if_pos hok]
          simp only [tokMk, tokLg, hG, hW1]
          replace hh := hh.drop
          replace hh := hh.drop
          replace hh := hh.drop
          replace hh := hh.drop
          exact ⟨I68, A13, cc14, A_7_1, c_7_1, rfl, (((hl56.trans hl60).trans hl64).trans hl69), (hf57.up ((hl60.trans hl64).trans hl69)), hc58, (hf61.up (hl64.trans hl69)), hc62, hh⟩
    · replace gpd : ¬ (((tokPd b).length) = 0) := by omega
      refine gy rfl he rfl ?_
      refine fa fo_34_0 rfl rfl he fun a he => ?_
      refine gy rfl he rfl ?_
      refine ld rb_23 rfl (ocell hh.at0 rfl) rfl he fun a he => ?_
      refine gy rfl he rfl ?_
      replace hh := hh.up4
      have hc75 := (Ch.rowcap hh.at0).1
      obtain ⟨I72, hl73, hh, hf74⟩ := hh.freezeRow
      refine cal cb_42 rfl (utf_Pending _ _ _ A13 cc14 (tokPd b) hh hf74 hc75) rfl he fun v a W hp he => ?_
      obtain ⟨rfl, hh⟩ := hp
      refine pkf rfl rfl rfl he fun a he => ?_
      refine asg rfl rfl he fun a he => ?_
      refine en ?_
      refine sq ?_
      refine sq ?_
      refine rg ?_
      refine ld rb_37 rfl (ocell hh.at2 rfl) rfl he fun a he => ?_
      refine ne rfl rfl rfl he fun a he => ?_
      refine mv rfl rfl he fun a he => ?_
      refine sd he (t := 66) rfl (fun gbad he => ?_) (fun gbad he => ?_)
      · refine gn rfl rfl he rfl rfl fun a he => ?_
        refine gn rfl rfl he rfl rfl fun a he => ?_
        refine pkt rfl rfl rfl he fun a he => ?_
        refine mv rfl rfl he fun a he => ?_
        refine gn rfl rfl he rfl rfl fun a he => ?_
        refine gn rfl rfl he rfl rfl fun a he => ?_
        refine gn rfl rfl he rfl rfl fun a he => ?_
        refine gn rfl rfl he rfl rfl fun a he => ?_
        refine gn rfl rfl he rfl rfl fun a he => ?_
        refine pkt rfl rfl rfl he fun a he => ?_
        refine en ?_
        refine cnt he rfl ?_
        refine sq ?_
        refine rg ?_
        refine bld #[.slice none 0 0, .slice none 0 0, .bool false, .bool false] rfl (by kernel_rfl) rfl he fun a he => ?_
        replace hh := hh.up4
        refine st #[.slice none 0 0, .slice none 0 0, .bool false, .bool false] ti_34 rfl rfl rfl rfl (by simp [Value.oneCell']) (by simp) he hh fun W hh => ?_
        replace hh : Hp I72 (.obj bb1 (.cells [.slice none 0 0, .slice none 0 0, .bool false, .bool false].toArray 34) :: _) W := hh
        refine asg rfl rfl he fun a he => ?_
        refine en ?_
        refine rt ?_
        refine retsCT Tryd.results26 he rfl (loadVar_run rb_34 ti_34 ((Rd.obj hh.at0 0).take 4) rfl) rfl (Ret.mk ?_)
        have hok : tokOk b = false := by simp only [tokOk, tokMk, tokLg, hG, hW1]; simp [gpd, gbad]
        rw [tokGet, if_neg (by rw [hok]; decide)]
        replace hh := hh.drop
        replace hh := hh.drop
        replace hh := hh.drop
        replace hh := hh.drop
        replace hh := hh.drop
        exact ⟨I72, none, 0, none, 0, rfl, hl73, Fz.nil _ _, Nat.le_refl _, Fz.nil _ _, Nat.le_refl _, hh⟩
      · refine gy rfl he rfl ?_
        refine mv rfl rfl he fun a he => ?_
        refine gy rfl he rfl ?_
        refine nt rfl rfl he fun a he => ?_
        refine pkf rfl rfl rfl he fun a he => ?_
        refine mv rfl rfl he fun a he => ?_
        refine sb he (t := 70) rfl (fun gfine he => ?_) (fun gfine he => ?_)
        · refine gn rfl rfl he rfl rfl fun a he => ?_
          refine gn rfl rfl he rfl rfl fun a he => ?_
          refine gn rfl rfl he rfl rfl fun a he => ?_
          refine gn rfl rfl he rfl rfl fun a he => ?_
          refine gn rfl rfl he rfl rfl fun a he => ?_
          refine pkt rfl rfl rfl he fun a he => ?_
          refine en ?_
          refine cnt he rfl ?_
          refine sq ?_
          refine rg ?_
          refine bld #[.slice none 0 0, .slice none 0 0, .bool false, .bool false] rfl (by kernel_rfl) rfl he fun a he => ?_
          replace hh := hh.up4
          refine st #[.slice none 0 0, .slice none 0 0, .bool false, .bool false] ti_34 rfl rfl rfl rfl (by simp [Value.oneCell']) (by simp) he hh fun W hh => ?_
          replace hh : Hp I72 (.obj bb1 (.cells [.slice none 0 0, .slice none 0 0, .bool false, .bool false].toArray 34) :: _) W := hh
          refine asg rfl rfl he fun a he => ?_
          refine en ?_
          refine rt ?_
          refine retsCT Tryd.results26 he rfl (loadVar_run rb_34 ti_34 ((Rd.obj hh.at0 0).take 4) rfl) rfl (Ret.mk ?_)
          have hok : tokOk b = false := by simp only [tokOk, tokMk, tokLg, hG, hW1]; simp at gfine; simp [gpd, gbad, gfine]
          rw [tokGet, if_neg (by rw [hok]; decide)]
          replace hh := hh.drop
          replace hh := hh.drop
          replace hh := hh.drop
          replace hh := hh.drop
          replace hh := hh.drop
          exact ⟨I72, none, 0, none, 0, rfl, hl73, Fz.nil _ _, Nat.le_refl _, Fz.nil _ _, Nat.le_refl _, hh⟩
        · refine gy rfl he rfl ?_
          refine ldA [.slice A13 ((tokPd b).length) cc14, .slice A_7_1 pre.length c_7_1, .bool (decide ((0 : Int) < ((((numberG 3 lf bad).1 &&& 1) : Nat) : Int))), .bool (decide ((0 : Int) < ((((numberG 3 lf bad).1 &&& 2) : Nat) : Int)))] rb_34 ti_34 rfl ((Rd.obj hh.at0 0).take 4) rfl rfl he fun a he => ?_
          refine gy rfl he rfl ?_
          replace hh := hh.up3
          have hc79 := (Ch.rowcap hh.at0).1
          obtain ⟨I76, hl77, hh, hf78⟩ := hh.freezeRow
          refine cal cb_30 rfl (token_Put _ _ _ A13 cc14 (tokPd b) A_7_1 c_7_1 pre (decide ((0 : Int) < ((((numberG 3 lf bad).1 &&& 1) : Nat) : Int))) (decide ((0 : Int) < ((((numberG 3 lf bad).1 &&& 2) : Nat) : Int))) hh (hf74.up hl77) hc75 hf78 hc79 (by omega) (by omega) (fun c hc => by rw [← hW1] at hc; have := tokW_le b c hc; omega)) rfl he fun v a W hp he => ?_
          obtain ⟨I80, A82, cc83, rfl, hl81, hh⟩ := hp
          refine gy rfl he rfl ?_
          refine mv rfl rfl he fun a he => ?_
          refine gy rfl he rfl ?_
          have hc88 := (Ch.rowcap hh.at0).1
          obtain ⟨I85, hl86, hh, hf87⟩ := hh.freezeRow
          refine cal cb_27 rfl (bytes_Equal _ _ _ A82 cc83 (tokPut (tokPd b) pre (decide ((0 : Int) < ((((numberG 3 lf bad).1 &&& 1) : Nat) : Int))) (decide ((0 : Int) < ((((numberG 3 lf bad).1 &&& 2) : Nat) : Int)))) A_b c_b b hh hf87 hc88 (h_b.up (((hl73.trans hl77).trans hl81).trans hl86)) k_b) rfl he fun v a W hp he => ?_
          obtain ⟨rfl, hh⟩ := hp
          refine gy rfl he rfl ?_
          refine nt rfl rfl he fun a he => ?_
          refine pkf rfl rfl rfl he fun a he => ?_
          refine en ?_
          refine cnb he rfl (fun heq => ?_) (fun heq => ?_)
          · refine sq ?_
            refine rg ?_
            refine bld #[.slice none 0 0, .slice none 0 0, .bool false, .bool false] rfl (by kernel_rfl) rfl he fun a he => ?_
            replace hh := hh.up3
            refine st #[.slice none 0 0, .slice none 0 0, .bool false, .bool false] ti_34 rfl rfl rfl rfl (by simp [Value.oneCell']) (by simp) he hh fun W hh => ?_
            replace hh : Hp I85 (.obj bb1 (.cells [.slice none 0 0, .slice none 0 0, .bool false, .bool false].toArray 34) :: _) W := hh
            refine asg rfl rfl he fun a he => ?_
            refine en ?_
            refine rt ?_
            refine retsCT Tryd.results26 he rfl (loadVar_run rb_34 ti_34 ((Rd.obj hh.at0 0).take 4) rfl) rfl (Ret.mk ?_)
            have hok : tokOk b = false := by simp only [tokOk, tokMk, tokLg, hG, hW1]; generalize decide (tokPut (tokPd b) pre (decide ((0 : Int) < (((numberG 3 lf bad).1 &&& 1 : Nat) : Int))) (decide ((0 : Int) < (((numberG 3 lf bad).1 &&& 2 : Nat) : Int))) = b) = q at heq ⊢; simp at gbad gfine heq; simp [gpd, gbad, gfine, heq]
            rw [tokGet, if_neg (by rw [hok]; decide)]
            replace hh := hh.drop
            replace hh := hh.drop
            replace hh := hh.drop
            replace hh := hh.drop
            exact ⟨I85, none, 0, none, 0, rfl, (((hl73.trans hl77).trans hl81).trans hl86), Fz.nil _ _, Nat.le_refl _, Fz.nil _ _, Nat.le_refl _, hh⟩
          · refine sk ?_
            refine nm_then ?_
            refine sq ?_
            refine rg ?_
            refine ldA [.slice A13 ((tokPd b).length) cc14, .slice A_7_1 pre.length c_7_1, .bool (decide ((0 : Int) < ((((numberG 3 lf bad).1 &&& 1) : Nat) : Int))), .bool (decide ((0 : Int) < ((((numberG 3 lf bad).1 &&& 2) : Nat) : Int)))] rb_34 ti_34 rfl ((Rd.obj hh.at0 0).take 4) rfl rfl he fun a he => ?_
            replace hh := hh.up3
            refine st #[.slice A13 ((tokPd b).length) cc14, .slice A_7_1 pre.length c_7_1, .bool (decide ((0 : Int) < ((((numberG 3 lf bad).1 &&& 1) : Nat) : Int))), .bool (decide ((0 : Int) < ((((numberG 3 lf bad).1 &&& 2) : Nat) : Int)))] ti_34 rfl rfl rfl rfl (by simp [Value.oneCell']) (by simp) he hh fun W hh => ?_
            replace hh : Hp I85 (.obj bb1 (.cells [.slice A13 ((tokPd b).length) cc14, .slice A_7_1 pre.length c_7_1, .bool (decide ((0 : Int) < ((((numberG 3 lf bad).1 &&& 1) : Nat) : Int))), .bool (decide ((0 : Int) < ((((numberG 3 lf bad).1 &&& 2) : Nat) : Int)))].toArray 34) :: _) W := hh
            refine asg rfl rfl he fun a he => ?_
            refine en ?_
            refine rt ?_
            refine retsCT Tryd.results26 he rfl (loadVar_run rb_34 ti_34 ((Rd.obj hh.at0 0).take 4) rfl) rfl (Ret.mk ?_)
            have hok : tokOk b = true := by simp only [tokOk, tokMk, tokLg, hG, hW1]; generalize decide (tokPut (tokPd b) pre (decide ((0 : Int) < (((numberG 3 lf bad).1 &&& 1 : Nat) : Int))) (decide ((0 : Int) < (((numberG 3 lf bad).1 &&& 2 : Nat) : Int))) = b) = q at heq ⊢; simp at gbad gfine heq; simp [gpd, gbad, gfine, heq]
            rw [tokGet, if_pos hok]
            simp only [tokMk, tokLg, hG, hW1]
            replace hh := hh.drop
            replace hh := hh.drop
            replace hh := hh.drop
            replace hh := hh.drop
            exact ⟨I85, A13, cc14, A_7_1, c_7_1, rfl, (((hl73.trans hl77).trans hl81).trans hl86), (hf74.up ((hl77.trans hl81).trans hl86)), hc75, (hf78.up (hl81.trans hl86)), hc79, hh⟩

end Go.Proofs.YtndaogkpgoimlaaDoor

/- Walks through the given program's functions, printed op by op by this session's own program; what each computes is told by the plain functions of the texts S... -/
import Derived.Test.YtndaogkpgoimlaaDoorB7
import Derived.KernelRfl
namespace Go.Proofs.YtndaogkpgoimlaaDoor
open Go Go.RowKit K
set_option linter.unusedVariables false
theorem cb_11 : callable Tryd.prog 11 = true := by kernel_rfl
theorem cb_13 : callable Tryd.prog 13 = true := by kernel_rfl
theorem cb_23 : callable Tryd.prog 23 = true := by kernel_rfl
theorem rb_36 : isRowB Tryd.prog 36 = some true := by kernel_rfl
theorem ti_22 : TI Tryd.prog 22 (.slice none 0 0) 1 24 := ⟨by kernel_rfl, rfl⟩
theorem ti_3 : TI Tryd.prog 3 (.int .i64 0) 1 8 := ⟨by kernel_rfl, rfl⟩
theorem ti_36 : TI Tryd.prog 36 (.agg #[.int .i64 0, .int .i64 0, .int .i64 0, .int .i64 0, .slice none 0 0, .slice none 0 0, .slice none 0 0, .bool false, .bool false]) 9 112 := ⟨by kernel_rfl, rfl⟩
theorem prog_Get (I : Snap) (L : List Ch) (W : World) (A_b : Option Addr) (c_b : Nat) (b : List UInt8) (hh : Hp I L W) (h_b : Fz I A_b (b.map b8)) (k_b : b.length ≤ c_b) :
    Calls Tryd.prog 10 #[.slice A_b b.length c_b] W (Ret fun v W => ∃ (I' : Snap) (A1 : Option Addr) (c1 : Nat) (A2 : Option Addr) (c2 : Nat) (A3 : Option Addr) (c3 : Nat), v = .tuple #[.agg #[.int .i64 ((progGet b).ph), .int .i64 ((progGet b).fl), .int .i64 ((progGet b).of_), .int .i64 ((progGet b).nx), .slice A1 ((progGet b).rs).length c1, .slice A2 ((progGet b).tk.pd).length c2, .slice A3 ((progGet b).tk.wd).length c3, .bool ((progGet b).tk.mrk), .bool ((progGet b).tk.lg)], .int .i64 ((progGet b).err)] ∧ I.le I' ∧ Fz I' A1 (((progGet b).rs).map i64v) ∧ ((progGet b).rs).length ≤ c1 ∧ Fz I' A2 (((progGet b).tk.pd).map b8) ∧ ((progGet b).tk.pd).length ≤ c2 ∧ Fz I' A3 (((progGet b).tk.wd).map r32) ∧ ((progGet b).tk.wd).length ≤ c3 ∧ Hp I' (L) W) := by
  refine enter Tryd.func10 rfl Tryd.ntmps10 rfl fun a he => ?_
  refine sq ?_
  refine rg ?_
  refine al ti_36 rfl he hh fun bb1 a W he hh => ?_
  replace hh : Hp I (.obj bb1 (.cells [.int .i64 0, .int .i64 0, .int .i64 0, .int .i64 0, .slice none 0 0, .slice none 0 0, .slice none 0 0, .bool false, .bool false].toArray 36) :: _) W := hh
  refine asg rfl rfl he fun a he => ?_
  refine en ?_
  refine sq ?_
  refine rg ?_
  refine mv rfl rfl he fun a he => ?_
  refine al ti_23 rfl he hh fun bb2 a W he hh => ?_
  replace hh : Hp I (.obj bb2 (.cells [.slice none 0 0].toArray 23) :: _) W := hh
  refine al ti_4 rfl he hh fun bb3 a W he hh => ?_
  replace hh : Hp I (.obj bb3 (.cells [.bool false].toArray 4) :: _) W := hh
  replace hh := hh.up1
  refine st #[.slice A_b b.length c_b] ti_23 rfl rfl rfl rfl (by simp [Value.oneCell']) (by simp) he hh fun W hh => ?_
  replace hh : Hp I (.obj bb2 (.cells [.slice A_b b.length c_b].toArray 23) :: _) W := hh
  replace hh := hh.up1
  refine st #[.bool true] ti_4 rfl rfl rfl rfl (by simp [Value.oneCell']) (by simp) he hh fun W hh => ?_
  replace hh : Hp I (.obj bb3 (.cells [.bool true].toArray 4) :: _) W := hh
  refine en ?_
  refine sq ?_
  refine rg ?_
  refine mkf (vs := []) (ws := [.pointer (some ⟨bb2, 0, none⟩), .pointer (some ⟨bb3, 0, none⟩)]) rfl rfl rfl he fun a he => ?_
  refine asg rfl rfl he fun a he => ?_
  refine en ?_
  refine sq ?_
  refine rg ?_
  refine al ti_36 rfl he hh fun bb4 a W he hh => ?_
  replace hh : Hp I (.obj bb4 (.cells [.int .i64 0, .int .i64 0, .int .i64 0, .int .i64 0, .slice none 0 0, .slice none 0 0, .slice none 0 0, .bool false, .bool false].toArray 36) :: _) W := hh
  refine en ?_
  refine sq ?_
  refine sq ?_
  refine rg ?_
  refine cal cb_25 rfl (prog_fields _ _ _ bb4 hh ) rfl he fun v a W hp he => ?_
  obtain ⟨rfl, hh⟩ := hp
  refine mv rfl rfl he fun a he => ?_
  refine en ?_
  refine bk ?_
  replace hh := hh.up3
  replace hh := hh.up3
  replace hh := hh.up3
  replace hh := hh.up3
  refine lp (fun (s : Nat × Int × Int × Int × Int × List UInt8 × Bool) a w => match s with | (i, v0, v1, v2, v3, lf, ok) => ∃ (A_l : Option Addr) (c_l : Nat), Env 62 [(0, .slice A_b b.length c_b), (2, .pointer (some ⟨bb1, 0, none⟩)), (3, .int .i64 0), (4, .pointer (some ⟨bb2, 0, none⟩)), (5, .pointer (some ⟨bb3, 0, none⟩)), (6, .func (.func 23) #[] #[.pointer (some ⟨bb2, 0, none⟩), .pointer (some ⟨bb3, 0, none⟩)]), (7, .pointer (some ⟨bb4, 0, none⟩)), (14, .agg #[.pointer (some ⟨bb4, 0, none⟩), .pointer (some ⟨bb4, 1, none⟩), .pointer (some ⟨bb4, 2, none⟩), .pointer (some ⟨bb4, 3, none⟩)]), (15, .int .i64 ((i : Nat) : Int))] a ∧ Hp I (.obj bb4 (.cells ([.int .i64 v0, .int .i64 v1, .int .i64 v2, .int .i64 v3, .slice none 0 0, .slice none 0 0, .slice none 0 0, .bool false, .bool false]).toArray 36) :: .obj bb3 (.cells ([.bool ok]).toArray 4) :: .obj bb2 (.cells ([.slice A_l lf.length c_l]).toArray 23) :: .obj bb1 (.cells ([.int .i64 0, .int .i64 0, .int .i64 0, .int .i64 0, .slice none 0 0, .slice none 0 0, .slice none 0 0, .bool false, .bool false]).toArray 36) :: L) w ∧ Fz I A_l (lf.map b8) ∧ lf.length ≤ c_l ∧ i ≤ 4 ∧ ([v0, v1, v2, v3].take i ++ (numsG (4 - i) lf ok).1, (numsG (4 - i) lf ok).2) = pg4 b)
      (fun s => 4 - s.1) (0, 0, 0, 0, 0, b, true) ⟨A_b, c_b, he.keep [0, 2, 3, 4, 5, 6, 7, 14, 15] rfl, hh, h_b, k_b, Nat.zero_le _, by simp [pg4]⟩ fun s a W hinv => ?_
  obtain ⟨i, v0, v1, v2, v3, lf, ok⟩ := s
  obtain ⟨A_l, c_l, he, hh, h_l, k_l, hi, hinv⟩ := hinv
  refine sq ?_
  refine rg ?_
  refine lt rfl rfl rfl he fun a he => ?_
  refine en ?_
  refine sq ?_
  refine cnd he rfl (fun h5 => ?_) (fun h5 => ?_)
  · replace h5 : i < 4 := by omega
    refine sk ?_
    refine nm_then ?_
    refine sq ?_
    refine bk ?_
    refine sq ?_
    rcases (show i = 0 ∨ i = 1 ∨ i = 2 ∨ i = 3 by omega) with hq | hq | hq | hq
    · refine rg ?_
      refine ixa (vs := [.pointer (some ⟨bb4, 0, none⟩), .pointer (some ⟨bb4, 1, none⟩), .pointer (some ⟨bb4, 2, none⟩), .pointer (some ⟨bb4, 3, none⟩)]) (i) Tryd.underlying60 rb_59 ti_59 rfl rfl (by rw [hq]; rfl) (by omega) rfl he fun a he => ?_
      refine asg rfl rfl he fun a he => ?_
      refine en ?_
      refine rg ?_
      refine mv rfl rfl he fun a he => ?_
      refine mv rfl rfl he fun a he => ?_
      replace hh := hh.up1
      replace hh := hh.up2
      refine calc' (us := [.int .u64 1099511627776, .pointer (some ⟨bb2, 0, none⟩), .pointer (some ⟨bb3, 0, none⟩)]) cb_23 rfl rfl (by first | (simp; done) | (simp; rfl)) (prog_get1 _ _ _ 1099511627776 bb2 A_l c_l lf bb3 ok hh h_l k_l (by decide)) rfl he fun v a W hp he => ?_
      obtain ⟨A6, cc7, rfl, hf8, hc9, hh⟩ := hp
      refine nck rfl rfl he fun a he => ?_
      replace hh := hh.up2
      refine st #[.int .i64 (((numberB 1099511627776 lf ok).1 : Nat) : Int)] ti_3 rfl rfl rfl rfl (by simp [Value.oneCell']) (by simp) he hh fun W hh => ?_
      replace hh : Hp I (.obj bb4 (.cells [.int .i64 (((numberB 1099511627776 lf ok).1 : Nat) : Int), .int .i64 v1, .int .i64 v2, .int .i64 v3, .slice none 0 0, .slice none 0 0, .slice none 0 0, .bool false, .bool false].toArray 36) :: _) W := hh
      refine en_blk ?_
      refine nm_then ?_
      refine rg ?_
      refine ad (((i + 1) : Nat) : Int) rfl rfl (w64 (by omega) (by omega)) rfl he fun a he => ?_
      refine mv rfl rfl he fun a he => ?_
      refine en ?_
      replace hh := hh.up3
      replace hh := hh.up2
      replace hh := hh.up3
      replace hh := hh.up3
      exact ⟨(i + 1, (((numberB 1099511627776 lf ok).1 : Nat) : Int), v1, v2, v3, (numberB 1099511627776 lf ok).2.1, (numberB 1099511627776 lf ok).2.2), ⟨A6, cc7, he.keep [0, 2, 3, 4, 5, 6, 7, 14, 15] rfl, hh, hf8, hc9, by omega, by have := numsG_next hinv (by omega); rw [hq] at this ⊢; exact this⟩, by show 4 - (i + 1) < 4 - i; omega⟩
    · refine rg ?_
      refine ixa (vs := [.pointer (some ⟨bb4, 0, none⟩), .pointer (some ⟨bb4, 1, none⟩), .pointer (some ⟨bb4, 2, none⟩), .pointer (some ⟨bb4, 3, none⟩)]) (i) Tryd.underlying60 rb_59 ti_59 rfl rfl (by rw [hq]; rfl) (by omega) rfl he fun a he => ?_
      refine asg rfl rfl he fun a he => ?_
      refine en ?_
      refine rg ?_
      refine mv rfl rfl he fun a he => ?_
      refine mv rfl rfl he fun a he => ?_
      replace hh := hh.up1
      replace hh := hh.up2
      refine calc' (us := [.int .u64 1099511627776, .pointer (some ⟨bb2, 0, none⟩), .pointer (some ⟨bb3, 0, none⟩)]) cb_23 rfl rfl (by first | (simp; done) | (simp; rfl)) (prog_get1 _ _ _ 1099511627776 bb2 A_l c_l lf bb3 ok hh h_l k_l (by decide)) rfl he fun v a W hp he => ?_
      obtain ⟨A10, cc11, rfl, hf12, hc13, hh⟩ := hp
      refine nck rfl rfl he fun a he => ?_
      replace hh := hh.up2
      refine st #[.int .i64 (((numberB 1099511627776 lf ok).1 : Nat) : Int)] ti_3 rfl rfl rfl rfl (by simp [Value.oneCell']) (by simp) he hh fun W hh => ?_
      replace hh : Hp I (.obj bb4 (.cells [.int .i64 v0, .int .i64 (((numberB 1099511627776 lf ok).1 : Nat) : Int), .int .i64 v2, .int .i64 v3, .slice none 0 0, .slice none 0 0, .slice none 0 0, .bool false, .bool false].toArray 36) :: _) W := hh
      refine en_blk ?_
      refine nm_then ?_
      refine rg ?_
      refine ad (((i + 1) : Nat) : Int) rfl rfl (w64 (by omega) (by omega)) rfl he fun a he => ?_
      refine mv rfl rfl he fun a he => ?_
      refine en ?_
      replace hh := hh.up3
      replace hh := hh.up2
      replace hh := hh.up3
      replace hh := hh.up3
      exact ⟨(i + 1, v0, (((numberB 1099511627776 lf ok).1 : Nat) : Int), v2, v3, (numberB 1099511627776 lf ok).2.1, (numberB 1099511627776 lf ok).2.2), ⟨A10, cc11, he.keep [0, 2, 3, 4, 5, 6, 7, 14, 15] rfl, hh, hf12, hc13, by omega, by have := numsG_next hinv (by omega); rw [hq] at this ⊢; exact this⟩, by show 4 - (i + 1) < 4 - i; omega⟩
    · refine rg ?_
      refine ixa (vs := [.pointer (some ⟨bb4, 0, none⟩), .pointer (some ⟨bb4, 1, none⟩), .pointer (some ⟨bb4, 2, none⟩), .pointer (some ⟨bb4, 3, none⟩)]) (i) Tryd.underlying60 rb_59 ti_59 rfl rfl (by rw [hq]; rfl) (by omega) rfl he fun a he => ?_
      refine asg rfl rfl he fun a he => ?_
      refine en ?_
      refine rg ?_
      refine mv rfl rfl he fun a he => ?_
      refine mv rfl rfl he fun a he => ?_
      replace hh := hh.up1
      replace hh := hh.up2
      refine calc' (us := [.int .u64 1099511627776, .pointer (some ⟨bb2, 0, none⟩), .pointer (some ⟨bb3, 0, none⟩)]) cb_23 rfl rfl (by first | (simp; done) | (simp; rfl)) (prog_get1 _ _ _ 1099511627776 bb2 A_l c_l lf bb3 ok hh h_l k_l (by decide)) rfl he fun v a W hp he => ?_
      obtain ⟨A14, cc15, rfl, hf16, hc17, hh⟩ := hp
      refine nck rfl rfl he fun a he => ?_
      replace hh := hh.up2
      refine st #[.int .i64 (((numberB 1099511627776 lf ok).1 : Nat) : Int)] ti_3 rfl rfl rfl rfl (by simp [Value.oneCell']) (by simp) he hh fun W hh => ?_
      replace hh : Hp I (.obj bb4 (.cells [.int .i64 v0, .int .i64 v1, .int .i64 (((numberB 1099511627776 lf ok).1 : Nat) : Int), .int .i64 v3, .slice none 0 0, .slice none 0 0, .slice none 0 0, .bool false, .bool false].toArray 36) :: _) W := hh
      refine en_blk ?_
      refine nm_then ?_
      refine rg ?_
      refine ad (((i + 1) : Nat) : Int) rfl rfl (w64 (by omega) (by omega)) rfl he fun a he => ?_
      refine mv rfl rfl he fun a he => ?_
      refine en ?_
      replace hh := hh.up3
      replace hh := hh.up2
      replace hh := hh.up3
      replace hh := hh.up3
      exact ⟨(i + 1, v0, v1, (((numberB 1099511627776 lf ok).1 : Nat) : Int), v3, (numberB 1099511627776 lf ok).2.1, (numberB 1099511627776 lf ok).2.2), ⟨A14, cc15, he.keep [0, 2, 3, 4, 5, 6, 7, 14, 15] rfl, hh, hf16, hc17, by omega, by have := numsG_next hinv (by omega); rw [hq] at this ⊢; exact this⟩, by show 4 - (i + 1) < 4 - i; omega⟩
    · refine rg ?_
      refine ixa (vs := [.pointer (some ⟨bb4, 0, none⟩), .pointer (some ⟨bb4, 1, none⟩), .pointer (some ⟨bb4, 2, none⟩), .pointer (some ⟨bb4, 3, none⟩)]) (i) Tryd.underlying60 rb_59 ti_59 rfl rfl (by rw [hq]; rfl) (by omega) rfl he fun a he => ?_
      refine asg rfl rfl he fun a he => ?_
      refine en ?_
      refine rg ?_
      refine mv rfl rfl he fun a he => ?_
      refine mv rfl rfl he fun a he => ?_
      replace hh := hh.up1
      replace hh := hh.up2
      refine calc' (us := [.int .u64 1099511627776, .pointer (some ⟨bb2, 0, none⟩), .pointer (some ⟨bb3, 0, none⟩)]) cb_23 rfl rfl (by first | (simp; done) | (simp; rfl)) (prog_get1 _ _ _ 1099511627776 bb2 A_l c_l lf bb3 ok hh h_l k_l (by decide)) rfl he fun v a W hp he => ?_
      obtain ⟨A18, cc19, rfl, hf20, hc21, hh⟩ := hp
      refine nck rfl rfl he fun a he => ?_
      replace hh := hh.up2
      refine st #[.int .i64 (((numberB 1099511627776 lf ok).1 : Nat) : Int)] ti_3 rfl rfl rfl rfl (by simp [Value.oneCell']) (by simp) he hh fun W hh => ?_
      replace hh : Hp I (.obj bb4 (.cells [.int .i64 v0, .int .i64 v1, .int .i64 v2, .int .i64 (((numberB 1099511627776 lf ok).1 : Nat) : Int), .slice none 0 0, .slice none 0 0, .slice none 0 0, .bool false, .bool false].toArray 36) :: _) W := hh
      refine en_blk ?_
      refine nm_then ?_
      refine rg ?_
      refine ad (((i + 1) : Nat) : Int) rfl rfl (w64 (by omega) (by omega)) rfl he fun a he => ?_
      refine mv rfl rfl he fun a he => ?_
      refine en ?_
      replace hh := hh.up3
      replace hh := hh.up2
      replace hh := hh.up3
      replace hh := hh.up3
      exact ⟨(i + 1, v0, v1, v2, (((numberB 1099511627776 lf ok).1 : Nat) : Int), (numberB 1099511627776 lf ok).2.1, (numberB 1099511627776 lf ok).2.2), ⟨A18, cc19, he.keep [0, 2, 3, 4, 5, 6, 7, 14, 15] rfl, hh, hf20, hc21, by omega, by have := numsG_next hinv (by omega); rw [hq] at this ⊢; exact this⟩, by show 4 - (i + 1) < 4 - i; omega⟩
  · replace h5 : ¬ (i < 4) := by omega
    refine ext ?_
    refine ex_then ?_
    refine ex_then ?_
    refine ex_in ?_
    refine nm_then ?_
    refine sq ?_
    refine sq ?_
    obtain rfl : i = 4 := by omega
    have h4 : pg4 b = ([v0, v1, v2, v3], lf, ok) := numsG_end hinv (Nat.le_refl 4)
    obtain ⟨ha0, ha1, ha2, ha3⟩ := pg4_is h4
    have hN : numberB 10000 lf ok = pgN b := by unfold pgN; rw [h4]
    have hle4 := pg4_le b
    rw [h4] at hle4
    have hNle := pgN_le b
    refine rg ?_
    refine mv rfl rfl he fun a he => ?_
    replace hh := hh.up1
    replace hh := hh.up2
    refine calc' (us := [.int .u64 10000, .pointer (some ⟨bb2, 0, none⟩), .pointer (some ⟨bb3, 0, none⟩)]) cb_23 rfl rfl (by first | (simp; done) | (simp; rfl)) (prog_get1 _ _ _ 10000 bb2 A_l c_l lf bb3 ok hh h_l k_l (by decide)) rfl he fun v a W hp he => ?_
    obtain ⟨A22, cc23, rfl, hf24, hc25, hh⟩ := hp
    rw [hN] at he hh
    rw [hN] at hf24 hc25
    refine mv rfl rfl he fun a he => ?_
    refine en ?_
    refine bk ?_
    replace hh := hh.nilrow 3 1
    replace hh := hh.up4
    replace hh := hh.up4
    replace hh := hh.up4
    replace hh := hh.up4
    replace hh := hh.up4
    refine lp (fun (s : Nat × List Int × List UInt8 × Bool) a w => match s with | (j, pre, lf2, ok2) => ∃ (A_7_4 : Option Addr) (A_l2 : Option Addr) (c_7_4 : Nat) (c_l2 : Nat), Env 62 [(0, .slice A_b b.length c_b), (2, .pointer (some ⟨bb1, 0, none⟩)), (3, .int .i64 0), (4, .pointer (some ⟨bb2, 0, none⟩)), (5, .pointer (some ⟨bb3, 0, none⟩)), (6, .func (.func 23) #[] #[.pointer (some ⟨bb2, 0, none⟩), .pointer (some ⟨bb3, 0, none⟩)]), (7, .pointer (some ⟨bb4, 0, none⟩)), (24, .int .i64 (((pgN b).1 : Nat) : Int)), (25, .int .i64 ((j : Nat) : Int))] a ∧ Hp I (.row A_7_4 pre.length c_7_4 3 1 (pre.map i64v) :: .obj bb2 (.cells ([.slice A_l2 lf2.length c_l2]).toArray 23) :: .obj bb3 (.cells ([.bool ok2]).toArray 4) :: .obj bb4 (.cells ([.int .i64 v0, .int .i64 v1, .int .i64 v2, .int .i64 v3, .slice A_7_4 pre.length c_7_4, .slice none 0 0, .slice none 0 0, .bool false, .bool false]).toArray 36) :: .obj bb1 (.cells ([.int .i64 0, .int .i64 0, .int .i64 0, .int .i64 0, .slice none 0 0, .slice none 0 0, .slice none 0 0, .bool false, .bool false]).toArray 36) :: L) w ∧ Fz I A_l2 (lf2.map b8) ∧ lf2.length ≤ c_l2 ∧ j ≤ (pgN b).1 ∧ pre.length ≤ j ∧ (pre ++ (numsG ((pgN b).1 - j) lf2 ok2).1, (numsG ((pgN b).1 - j) lf2 ok2).2) = pgR b)
        (fun s => (pgN b).1 - s.1) (0, [], (pgN b).2.1, (pgN b).2.2) ⟨none, A22, 0, cc23, he.keep [0, 2, 3, 4, 5, 6, 7, 24, 25] rfl, hh, hf24, hc25, Nat.zero_le _, Nat.le_refl _, by simp [pgR]⟩ fun s a W hinv => ?_
    obtain ⟨j, pre, lf2, ok2⟩ := s
    obtain ⟨A_7_4, A_l2, c_7_4, c_l2, he, hh, h_l2, k_l2, hj, hpj, hinv2⟩ := hinv
    refine sq ?_
    refine rg ?_
    refine lt rfl rfl rfl he fun a he => ?_
    refine en ?_
    refine sq ?_
    refine cnd he rfl (fun h27 => ?_) (fun h27 => ?_)
    · replace h27 : j < ((pgN b).1) := by omega
      refine sk ?_
      refine nm_then ?_
      refine sq ?_
      refine bk ?_
      replace hh := hh.up4
      refine rgd (SH I [.obj bb1 (.cells ([.int .i64 0, .int .i64 0, .int .i64 0, .int .i64 0, .slice none 0 0, .slice none 0 0, .slice none 0 0, .bool false, .bool false]).toArray 36)]) 8 mixo rfl hh fun W hh => ?_
      refine ahp (d := 27) (v := .pointer (some ⟨bb4, 4, none⟩)) 0 rfl (by kernel_rfl) (by kernel_rfl) (by kernel_rfl) rfl rfl rfl he ⟨_, _, (Snap.le.refl _), hh⟩ (fun W hS => by
          refine fa fo_36_4 rfl rfl he fun a he => ?_
          exact aqe he) fun a he => ?_
      refine ahp (d := 29) (v := .func (.func 23) #[] #[.pointer (some ⟨bb2, 0, none⟩), .pointer (some ⟨bb3, 0, none⟩)]) 2 rfl (by kernel_rfl) (by kernel_rfl) (by kernel_rfl) rfl rfl rfl he ⟨_, _, (Snap.le.refl _), hh⟩ (fun W hS => by
          refine mv rfl rfl he fun a he => ?_
          exact aqe he) fun a he => ?_
      refine jnd (fun a W => ∃ (A28 : Option Addr) (cc29 : Nat) (A31 : Option Addr) (cc32 : Nat), Env 62 [(0, .slice A_b b.length c_b), (2, .pointer (some ⟨bb1, 0, none⟩)), (3, .int .i64 0), (4, .pointer (some ⟨bb2, 0, none⟩)), (5, .pointer (some ⟨bb3, 0, none⟩)), (6, .func (.func 23) #[] #[.pointer (some ⟨bb2, 0, none⟩), .pointer (some ⟨bb3, 0, none⟩)]), (7, .pointer (some ⟨bb4, 0, none⟩)), (24, .int .i64 (((pgN b).1 : Nat) : Int)), (25, .int .i64 ((j : Nat) : Int)), (26, .bool (decide (((j : Nat) : Int) < (((pgN b).1 : Nat) : Int)))), (28, .slice A_7_4 pre.length c_7_4), (31, .slice A28 1 cc29)] a ∧ Hp I (.obj bb1 (.cells ([.int .i64 0, .int .i64 0, .int .i64 0, .int .i64 0, .slice none 0 0, .slice none 0 0, .slice none 0 0, .bool false, .bool false]).toArray 36) :: .obj bb2 (.cells ([.slice A31 (((numberB 1099511627776 lf2 ok2).2.1).length) cc32]).toArray 23) :: .obj bb3 (.cells ([.bool ((numberB 1099511627776 lf2 ok2).2.2)]).toArray 4) :: .row A_7_4 pre.length c_7_4 3 1 (pre.map i64v) :: .obj bb4 (.cells ([.int .i64 v0, .int .i64 v1, .int .i64 v2, .int .i64 v3, .slice A_7_4 pre.length c_7_4, .slice none 0 0, .slice none 0 0, .bool false, .bool false]).toArray 36) :: .row A28 1 cc29 3 1 ([.int .i64 (((numberB 1099511627776 lf2 ok2).1 : Nat) : Int)]) :: L) W ∧ Fz I A31 (((numberB 1099511627776 lf2 ok2).2.1).map b8) ∧ ((numberB 1099511627776 lf2 ok2).2.1).length ≤ cc32) 3 #[true, true, true, true, true, false, false, false] (fun a W hM => ?_) fun key36 => ?_
      · obtain ⟨A28, cc29, A31, cc32, he, hh, hf33, hc34⟩ := hM
        refine aha1 (i := 5) (by kernel_rfl) ?_
        refine aop rfl ?_
        replace hh := hh.up3
        refine ap ts_22 rfl rfl (Ch.rd hh.at5) (by first | rfl | (simp; done) | (simp; omega)) (by simp [Value.oneCell']) (by omega) rfl he hh fun A37 cc38 a W he hh => ?_
        replace hh := hh.re (n' := ((pre ++ [(((numberB 1099511627776 lf2 ok2).1 : Nat) : Int)])).length) (cs' := ((pre ++ [(((numberB 1099511627776 lf2 ok2).1 : Nat) : Int)])).map i64v) (by first | rfl | (simp; done) | (simp; omega)) (by simp [i64v])
        replace he := he.be (t := 32) (v' := .slice A37 ((pre ++ [(((numberB 1099511627776 lf2 ok2).1 : Nat) : Int)])).length cc38) rfl (by congr 1 <;> (first | rfl | (simp; done) | (simp; omega)))
        replace hh := hh.up5
        replace hh := hh.drop
        replace hh := hh.up1
        refine aen ⟨_, _, (Snap.le.refl _), hh⟩ ?_
        refine ahp (d := 33) (v := .pointer (some ⟨bb4, 4, none⟩)) 6 rfl (by kernel_rfl) (by kernel_rfl) (by kernel_rfl) rfl rfl rfl he ⟨_, _, (Snap.le.refl _), hh⟩ (fun W hS => by
            refine fa fo_36_4 rfl rfl he fun a he => ?_
            exact aqe he) fun a he => ?_
        refine aha1 (i := 7) (by kernel_rfl) ?_
        refine aop rfl ?_
        replace hh := hh.up4
        refine st #[.slice A37 (((pre ++ [(((numberB 1099511627776 lf2 ok2).1 : Nat) : Int)])).length) cc38] ti_22 rfl rfl rfl rfl (by simp [Value.oneCell']) (by simp) he hh fun W hh => ?_
        replace hh : Hp I (.obj bb4 (.cells [.int .i64 v0, .int .i64 v1, .int .i64 v2, .int .i64 v3, .slice A37 (((pre ++ [(((numberB 1099511627776 lf2 ok2).1 : Nat) : Int)])).length) cc38, .slice none 0 0, .slice none 0 0, .bool false, .bool false].toArray 36) :: _) W := hh
        replace hh := hh.up1
        refine aen ⟨_, _, (Snap.le.refl _), hh⟩ ?_
        refine ahd (by kernel_rfl) ?_
        refine en_blk ?_
        refine nm_then ?_
        refine rg ?_
        refine ad (((j + 1) : Nat) : Int) rfl rfl (w64 (by omega) (by omega)) rfl he fun a he => ?_
        refine mv rfl rfl he fun a he => ?_
        refine en ?_
        replace hh := hh.up1
        replace hh := hh.up4
        replace hh := hh.up4
        replace hh := hh.up4
        exact ⟨(j + 1, pre ++ [(((numberB 1099511627776 lf2 ok2).1 : Nat) : Int)], (numberB 1099511627776 lf2 ok2).2.1, (numberB 1099511627776 lf2 ok2).2.2), ⟨A37, A31, cc38, cc32, he.keep [0, 2, 3, 4, 5, 6, 7, 24, 25] rfl, hh, hf33, hc34, by omega, by simp; omega, numsG_next hinv2 (by omega)⟩, by show (pgN b).1 - (j + 1) < (pgN b).1 - j; omega⟩
      refine aha2 (i := 1) (j := 3) (by kernel_rfl) ?_ ?_
      · refine aop rfl ?_
        refine ld rb_22 rfl (ocell hh.at4 rfl) rfl he fun a he => ?_
        refine aen ⟨_, _, (Snap.le.refl _), hh⟩ ?_
        refine aha1 (i := 3) (by kernel_rfl) ?_
        refine aop rfl ?_
        replace hh := hh.up3
        replace hh := hh.up3
        refine calc' (us := [.int .u64 1099511627776, .pointer (some ⟨bb2, 0, none⟩), .pointer (some ⟨bb3, 0, none⟩)]) cb_23 rfl rfl (by first | (simp; done) | (simp; rfl)) (prog_get1 _ _ _ 1099511627776 bb2 A_l2 c_l2 lf2 bb3 ok2 hh h_l2 k_l2 (by decide)) rfl he fun v a W hp he => ?_
        obtain ⟨A40, cc41, rfl, hf42, hc43, hh⟩ := hp
        replace hh := hh.up2
        refine aen ⟨_, _, (Snap.le.refl _), hh⟩ ?_
        refine aha1 (i := 4) (by kernel_rfl) ?_
        refine aop rfl ?_
        refine bsl [(0, .int .i64 (((numberB 1099511627776 lf2 ok2).1 : Nat) : Int))] [.int .i64 (((numberB 1099511627776 lf2 ok2).1 : Nat) : Int)] ts_22 rfl rfl rfl rfl rfl rfl rfl he hh fun bb44 a W he hh => ?_
        replace hh := hh.up1
        refine aen ⟨_, _, (Snap.le.refl _), hh⟩ ?_
        replace hh := hh.up1
        replace hh := hh.up5
        replace hh := hh.up5
        replace hh := hh.up5
        replace hh := hh.up5
        replace hh := hh.up5
        exact key36 _ _ _ (by kernel_rfl) ⟨(some ⟨bb44, 0, none⟩), 1, A40, cc41, he.keep [0, 2, 3, 4, 5, 6, 7, 24, 25, 26, 28, 31] rfl, hh, hf42, hc43⟩
      · refine aop rfl ?_
        replace hh := hh.up3
        replace hh := hh.up3
        refine calc' (us := [.int .u64 1099511627776, .pointer (some ⟨bb2, 0, none⟩), .pointer (some ⟨bb3, 0, none⟩)]) cb_23 rfl rfl (by first | (simp; done) | (simp; rfl)) (prog_get1 _ _ _ 1099511627776 bb2 A_l2 c_l2 lf2 bb3 ok2 hh h_l2 k_l2 (by decide)) rfl he fun v a W hp he => ?_
        obtain ⟨A45, cc46, rfl, hf47, hc48, hh⟩ := hp
        replace hh := hh.up2
        refine aen ⟨_, _, (Snap.le.refl _), hh⟩ ?_
        refine aha2 (i := 1) (j := 4) (by kernel_rfl) ?_ ?_
        · refine aop rfl ?_
          refine ld rb_22 rfl (ocell hh.at4 rfl) rfl he fun a he => ?_
          refine aen ⟨_, _, (Snap.le.refl _), hh⟩ ?_
          refine aha1 (i := 4) (by kernel_rfl) ?_
          refine aop rfl ?_
          refine bsl [(0, .int .i64 (((numberB 1099511627776 lf2 ok2).1 : Nat) : Int))] [.int .i64 (((numberB 1099511627776 lf2 ok2).1 : Nat) : Int)] ts_22 rfl rfl rfl rfl rfl rfl rfl he hh fun bb49 a W he hh => ?_
          replace hh := hh.up1
          refine aen ⟨_, _, (Snap.le.refl _), hh⟩ ?_
          replace hh := hh.up1
          replace hh := hh.up5
          replace hh := hh.up5
          replace hh := hh.up5
          replace hh := hh.up5
          replace hh := hh.up5
          exact key36 _ _ _ (by kernel_rfl) ⟨(some ⟨bb49, 0, none⟩), 1, A45, cc46, he.keep [0, 2, 3, 4, 5, 6, 7, 24, 25, 26, 28, 31] rfl, hh, hf47, hc48⟩
        · refine aop rfl ?_
          refine bsl [(0, .int .i64 (((numberB 1099511627776 lf2 ok2).1 : Nat) : Int))] [.int .i64 (((numberB 1099511627776 lf2 ok2).1 : Nat) : Int)] ts_22 rfl rfl rfl rfl rfl rfl rfl he hh fun bb50 a W he hh => ?_
          replace hh := hh.up1
          refine aen ⟨_, _, (Snap.le.refl _), hh⟩ ?_
          refine aha1 (i := 1) (by kernel_rfl) ?_
          refine aop rfl ?_
          refine ld rb_22 rfl (ocell hh.at5 rfl) rfl he fun a he => ?_
          refine aen ⟨_, _, (Snap.le.refl _), hh⟩ ?_
          replace hh := hh.up1
          replace hh := hh.up5
          replace hh := hh.up5
          replace hh := hh.up5
          replace hh := hh.up5
          replace hh := hh.up5
          exact key36 _ _ _ (by kernel_rfl) ⟨(some ⟨bb50, 0, none⟩), 1, A45, cc46, he.keep [0, 2, 3, 4, 5, 6, 7, 24, 25, 26, 28, 31] rfl, hh, hf47, hc48⟩
    · replace h27 : ¬ (j < ((pgN b).1)) := by omega
      refine ext ?_
      refine ex_then ?_
      refine ex_then ?_
      refine ex_in ?_
      refine nm_then ?_
      refine sq ?_
      have hR := numsG_end hinv2 (by omega)
      have hT : pgT b = tokGet lf2 := by unfold pgT; rw [hR]
      have hR1 : (pgR b).1 = pre := by rw [hR]
      have hR2 : (pgR b).2.2 = ok2 := by rw [hR]
      have hrle : ∀ c ∈ pre, 0 ≤ c ∧ c ≤ 1099511627776 := by rw [← hR1]; exact numsG_le _ _ _
      have hpl := tokGet_pd lf2
      have hwl := tokGet_wd lf2
      have hwe := tokGet_le lf2
      have hv0 := hle4 v0 (by simp)
      have hv1 := hle4 v1 (by simp)
      have hv2 := hle4 v2 (by simp)
      have hv3 := hle4 v3 (by simp)
      refine rg ?_
      refine ld rb_23 rfl (ocell hh.at1 rfl) rfl he fun a he => ?_
      refine cal cb_26 rfl (token_Get _ _ _ A_l2 c_l2 lf2 hh h_l2 k_l2) rfl he fun v a W hp he => ?_
      obtain ⟨I51, A53, cc54, A55, cc56, rfl, hl52, hf57, hc58, hf59, hc60, hh⟩ := hp
      refine mv rfl rfl he fun a he => ?_
      refine xt rfl rfl rfl he fun a he => ?_
      refine xt rfl rfl rfl he fun a he => ?_
      refine al ti_34 rfl he hh fun bb61 a W he hh => ?_
      replace hh : Hp I51 (.obj bb61 (.cells [.slice none 0 0, .slice none 0 0, .bool false, .bool false].toArray 34) :: _) W := hh
      refine st #[.slice A53 (((tokGet lf2).pd).length) cc54, .slice A55 (((tokGet lf2).wd).length) cc56, .bool ((tokGet lf2).mrk), .bool ((tokGet lf2).lg)] ti_34 rfl rfl rfl rfl (by simp [Value.oneCell']) (by simp) he hh fun W hh => ?_
      replace hh : Hp I51 (.obj bb61 (.cells [.slice A53 (((tokGet lf2).pd).length) cc54, .slice A55 (((tokGet lf2).wd).length) cc56, .bool ((tokGet lf2).mrk), .bool ((tokGet lf2).lg)].toArray 34) :: _) W := hh
      refine asg rfl rfl he fun a he => ?_
      refine en ?_
      refine sq ?_
      refine rg ?_
      refine ldA [.slice A53 (((tokGet lf2).pd).length) cc54, .slice A55 (((tokGet lf2).wd).length) cc56, .bool ((tokGet lf2).mrk), .bool ((tokGet lf2).lg)] rb_34 ti_34 rfl ((Rd.obj hh.at0 0).take 4) rfl rfl he fun a he => ?_
      refine fa fo_36_5 rfl rfl he fun a he => ?_
      replace hh := hh.up4
      refine st #[.slice A53 (((tokGet lf2).pd).length) cc54, .slice A55 (((tokGet lf2).wd).length) cc56, .bool ((tokGet lf2).mrk), .bool ((tokGet lf2).lg)] ti_34 rfl rfl rfl rfl (by simp [Value.oneCell']) (by simp) he hh fun W hh => ?_
      replace hh : Hp I51 (.obj bb4 (.cells [.int .i64 v0, .int .i64 v1, .int .i64 v2, .int .i64 v3, .slice A_7_4 pre.length c_7_4, .slice A53 (((tokGet lf2).pd).length) cc54, .slice A55 (((tokGet lf2).wd).length) cc56, .bool ((tokGet lf2).mrk), .bool ((tokGet lf2).lg)].toArray 36) :: _) W := hh
      refine en ?_
      refine sq ?_
      refine sq ?_
      refine rg ?_
      refine ld rb_4 rfl (ocell hh.at4 rfl) rfl he fun a he => ?_
      refine nt rfl rfl he fun a he => ?_
      refine mv rfl rfl he fun a he => ?_
      refine sb he (t := 44) rfl (fun g1 he => ?_) (fun g1 he => ?_)
      · refine gn rfl rfl he rfl rfl fun a he => ?_
        refine gn rfl rfl he rfl rfl fun a he => ?_
        refine pkt rfl rfl rfl he fun a he => ?_
        refine mv rfl rfl he fun a he => ?_
        refine gn rfl rfl he rfl rfl fun a he => ?_
        refine gn rfl rfl he rfl rfl fun a he => ?_
        refine gn rfl rfl he rfl rfl fun a he => ?_
        refine pkt rfl rfl rfl he fun a he => ?_
        refine mv rfl rfl he fun a he => ?_
        refine gn rfl rfl he rfl rfl fun a he => ?_
        refine gn rfl rfl he rfl rfl fun a he => ?_
        refine gn rfl rfl he rfl rfl fun a he => ?_
        refine gn rfl rfl he rfl rfl fun a he => ?_
        refine gn rfl rfl he rfl rfl fun a he => ?_
        refine pkt rfl rfl rfl he fun a he => ?_
        refine en ?_
        refine cnt he rfl ?_
        refine sq ?_
        refine rg ?_
        refine bld #[.int .i64 0, .int .i64 0, .int .i64 0, .int .i64 0, .slice none 0 0, .slice none 0 0, .slice none 0 0, .bool false, .bool false] rfl (by kernel_rfl) rfl he fun a he => ?_
        replace hh := hh.up5
        refine st #[.int .i64 0, .int .i64 0, .int .i64 0, .int .i64 0, .slice none 0 0, .slice none 0 0, .slice none 0 0, .bool false, .bool false] ti_36 rfl rfl rfl rfl (by simp [Value.oneCell']) (by simp) he hh fun W hh => ?_
        replace hh : Hp I51 (.obj bb1 (.cells [.int .i64 0, .int .i64 0, .int .i64 0, .int .i64 0, .slice none 0 0, .slice none 0 0, .slice none 0 0, .bool false, .bool false].toArray 36) :: _) W := hh
        refine asg rfl rfl he fun a he => ?_
        refine en ?_
        refine rt ?_
        refine retsCT Tryd.results10 he rfl (loadVar_run rb_36 ti_36 ((Rd.obj hh.at0 0).take 9) rfl) rfl (Ret.mk ?_)
        have hok : pgOk b = false := by simp only [pgOk, hT, hR1, hR2, ha0, ha1, ha2, ha3]; simp at g1; simp [g1]
        rw [progGet, if_neg (by rw [hok]; decide)]
        simp only [progBad]
        replace hh := hh.drop
        replace hh := hh.drop
        replace hh := hh.drop
        replace hh := hh.drop
        replace hh := hh.drop
        replace hh := hh.drop
        exact ⟨I51, none, 0, none, 0, none, 0, rfl, hl52, Fz.nil _ _, Nat.le_refl _, Fz.nil _ _, Nat.le_refl _, Fz.nil _ _, Nat.le_refl _, hh⟩
      · refine gy rfl he rfl ?_
        refine mv rfl rfl he fun a he => ?_
        refine gy rfl he rfl ?_
        refine ne rfl rfl rfl he fun a he => ?_
        refine pkf rfl rfl rfl he fun a he => ?_
        refine mv rfl rfl he fun a he => ?_
        refine sd he (t := 48) rfl (fun g2 he => ?_) (fun g2 he => ?_)
        · refine gn rfl rfl he rfl rfl fun a he => ?_
          refine gn rfl rfl he rfl rfl fun a he => ?_
          refine gn rfl rfl he rfl rfl fun a he => ?_
          refine pkt rfl rfl rfl he fun a he => ?_
          refine mv rfl rfl he fun a he => ?_
          refine gn rfl rfl he rfl rfl fun a he => ?_
          refine gn rfl rfl he rfl rfl fun a he => ?_
          refine gn rfl rfl he rfl rfl fun a he => ?_
          refine gn rfl rfl he rfl rfl fun a he => ?_
          refine gn rfl rfl he rfl rfl fun a he => ?_
          refine pkt rfl rfl rfl he fun a he => ?_
          refine en ?_
          refine cnt he rfl ?_
          refine sq ?_
          refine rg ?_
          refine bld #[.int .i64 0, .int .i64 0, .int .i64 0, .int .i64 0, .slice none 0 0, .slice none 0 0, .slice none 0 0, .bool false, .bool false] rfl (by kernel_rfl) rfl he fun a he => ?_
          replace hh := hh.up5
          refine st #[.int .i64 0, .int .i64 0, .int .i64 0, .int .i64 0, .slice none 0 0, .slice none 0 0, .slice none 0 0, .bool false, .bool false] ti_36 rfl rfl rfl rfl (by simp [Value.oneCell']) (by simp) he hh fun W hh => ?_
          replace hh : Hp I51 (.obj bb1 (.cells [.int .i64 0, .int .i64 0, .int .i64 0, .int .i64 0, .slice none 0 0, .slice none 0 0, .slice none 0 0, .bool false, .bool false].toArray 36) :: _) W := hh
          refine asg rfl rfl he fun a he => ?_
          refine en ?_
          refine rt ?_
          refine retsCT Tryd.results10 he rfl (loadVar_run rb_36 ti_36 ((Rd.obj hh.at0 0).take 9) rfl) rfl (Ret.mk ?_)
          have hok : pgOk b = false := by simp only [pgOk, hT, hR1, hR2, ha0, ha1, ha2, ha3]; simp at g1 g2; simp [g1, g2]
          rw [progGet, if_neg (by rw [hok]; decide)]
          simp only [progBad]
          replace hh := hh.drop
          replace hh := hh.drop
          replace hh := hh.drop
          replace hh := hh.drop
          replace hh := hh.drop
          replace hh := hh.drop
          exact ⟨I51, none, 0, none, 0, none, 0, rfl, hl52, Fz.nil _ _, Nat.le_refl _, Fz.nil _ _, Nat.le_refl _, Fz.nil _ _, Nat.le_refl _, hh⟩
        · refine gy rfl he rfl ?_
          refine ldA [.int .i64 v0, .int .i64 v1, .int .i64 v2, .int .i64 v3, .slice A_7_4 pre.length c_7_4, .slice A53 (((tokGet lf2).pd).length) cc54, .slice A55 (((tokGet lf2).wd).length) cc56, .bool ((tokGet lf2).mrk), .bool ((tokGet lf2).lg)] rb_36 ti_36 rfl ((Rd.obj hh.at0 0).take 9) rfl rfl he fun a he => ?_
          refine gy rfl he rfl ?_
          replace hh := hh.up2
          have hc65 := (Ch.rowcap hh.at0).1
          obtain ⟨I62, hl63, hh, hf64⟩ := hh.freezeRow
          refine cal cb_13 rfl (prog_May _ _ _ v0 v1 v2 v3 A_7_4 c_7_4 pre A53 cc54 ((tokGet lf2).pd) A55 cc56 ((tokGet lf2).wd) ((tokGet lf2).mrk) ((tokGet lf2).lg) hh hf64 hc65 (hf57.up hl63) hc58 (hf59.up hl63) hc60 (by omega) (by omega) (by omega) (fun c hc => by have := hwe c hc; omega)) rfl he fun v a W hp he => ?_
          obtain ⟨I66, rfl, hl67, hh⟩ := hp
          refine gy rfl he rfl ?_
          refine nt rfl rfl he fun a he => ?_
          refine pkf rfl rfl rfl he fun a he => ?_
          refine mv rfl rfl he fun a he => ?_
          refine sb he (t := 53) rfl (fun g3 he => ?_) (fun g3 he => ?_)
          · refine gn rfl rfl he rfl rfl fun a he => ?_
            refine gn rfl rfl he rfl rfl fun a he => ?_
            refine gn rfl rfl he rfl rfl fun a he => ?_
            refine gn rfl rfl he rfl rfl fun a he => ?_
            refine gn rfl rfl he rfl rfl fun a he => ?_
            refine pkt rfl rfl rfl he fun a he => ?_
            refine en ?_
            refine cnt he rfl ?_
            refine sq ?_
            refine rg ?_
            refine bld #[.int .i64 0, .int .i64 0, .int .i64 0, .int .i64 0, .slice none 0 0, .slice none 0 0, .slice none 0 0, .bool false, .bool false] rfl (by kernel_rfl) rfl he fun a he => ?_
            replace hh := hh.up4
            refine st #[.int .i64 0, .int .i64 0, .int .i64 0, .int .i64 0, .slice none 0 0, .slice none 0 0, .slice none 0 0, .bool false, .bool false] ti_36 rfl rfl rfl rfl (by simp [Value.oneCell']) (by simp) he hh fun W hh => ?_
            replace hh : Hp I66 (.obj bb1 (.cells [.int .i64 0, .int .i64 0, .int .i64 0, .int .i64 0, .slice none 0 0, .slice none 0 0, .slice none 0 0, .bool false, .bool false].toArray 36) :: _) W := hh
            refine asg rfl rfl he fun a he => ?_
            refine en ?_
            refine rt ?_
            refine retsCT Tryd.results10 he rfl (loadVar_run rb_36 ti_36 ((Rd.obj hh.at0 0).take 9) rfl) rfl (Ret.mk ?_)
            have hok : pgOk b = false := by simp only [pgOk, hT, hR1, hR2, ha0, ha1, ha2, ha3]; simp at g1 g2 g3; simp [g1, g2, g3]
            rw [progGet, if_neg (by rw [hok]; decide)]
            simp only [progBad]
            replace hh := hh.drop
            replace hh := hh.drop
            replace hh := hh.drop
            replace hh := hh.drop
            replace hh := hh.drop
            exact ⟨I66, none, 0, none, 0, none, 0, rfl, ((hl52.trans hl63).trans hl67), Fz.nil _ _, Nat.le_refl _, Fz.nil _ _, Nat.le_refl _, Fz.nil _ _, Nat.le_refl _, hh⟩
          · refine gy rfl he rfl ?_
            refine ldA [.int .i64 v0, .int .i64 v1, .int .i64 v2, .int .i64 v3, .slice A_7_4 pre.length c_7_4, .slice A53 (((tokGet lf2).pd).length) cc54, .slice A55 (((tokGet lf2).wd).length) cc56, .bool ((tokGet lf2).mrk), .bool ((tokGet lf2).lg)] rb_36 ti_36 rfl ((Rd.obj hh.at0 0).take 9) rfl rfl he fun a he => ?_
            refine gy rfl he rfl ?_
            refine cal cb_11 rfl (prog_Put _ _ _ v0 v1 v2 v3 A_7_4 c_7_4 pre A53 cc54 ((tokGet lf2).pd) A55 cc56 ((tokGet lf2).wd) ((tokGet lf2).mrk) ((tokGet lf2).lg) hh (hf64.up hl67) hc65 (hf57.up (hl63.trans hl67)) hc58 (hf59.up (hl63.trans hl67)) hc60 (by omega) (fun c hc => by have := hrle c hc; omega) (by omega) (by omega) (by omega) (fun c hc => by have := hwe c hc; omega)) rfl he fun v a W hp he => ?_
            obtain ⟨I68, A70, cc71, rfl, hl69, hh⟩ := hp
            refine gy rfl he rfl ?_
            refine mv rfl rfl he fun a he => ?_
            refine gy rfl he rfl ?_
            have hc76 := (Ch.rowcap hh.at0).1
            obtain ⟨I73, hl74, hh, hf75⟩ := hh.freezeRow
            refine cal cb_27 rfl (bytes_Equal _ _ _ A70 cc71 (progPut v0 v1 v2 v3 pre ((tokGet lf2).pd) ((tokGet lf2).wd) ((tokGet lf2).mrk) ((tokGet lf2).lg)) A_b c_b b hh hf75 hc76 (h_b.up ((((hl52.trans hl63).trans hl67).trans hl69).trans hl74)) k_b) rfl he fun v a W hp he => ?_
            obtain ⟨rfl, hh⟩ := hp
            refine gy rfl he rfl ?_
            refine nt rfl rfl he fun a he => ?_
            refine pkf rfl rfl rfl he fun a he => ?_
            refine en ?_
            refine cnb he rfl (fun g4 => ?_) (fun g4 => ?_)
            · refine sq ?_
              refine rg ?_
              refine bld #[.int .i64 0, .int .i64 0, .int .i64 0, .int .i64 0, .slice none 0 0, .slice none 0 0, .slice none 0 0, .bool false, .bool false] rfl (by kernel_rfl) rfl he fun a he => ?_
              replace hh := hh.up4
              refine st #[.int .i64 0, .int .i64 0, .int .i64 0, .int .i64 0, .slice none 0 0, .slice none 0 0, .slice none 0 0, .bool false, .bool false] ti_36 rfl rfl rfl rfl (by simp [Value.oneCell']) (by simp) he hh fun W hh => ?_
              replace hh : Hp I73 (.obj bb1 (.cells [.int .i64 0, .int .i64 0, .int .i64 0, .int .i64 0, .slice none 0 0, .slice none 0 0, .slice none 0 0, .bool false, .bool false].toArray 36) :: _) W := hh
              refine asg rfl rfl he fun a he => ?_
              refine en ?_
              refine rt ?_
              refine retsCT Tryd.results10 he rfl (loadVar_run rb_36 ti_36 ((Rd.obj hh.at0 0).take 9) rfl) rfl (Ret.mk ?_)
              have hok : pgOk b = false := by simp only [pgOk, hT, hR1, hR2, ha0, ha1, ha2, ha3]; generalize decide (progPut v0 v1 v2 v3 pre (tokGet lf2).pd (tokGet lf2).wd (tokGet lf2).mrk (tokGet lf2).lg = b) = q at g4 ⊢; simp at g1 g2 g3 g4; simp [g1, g2, g3, g4]
              rw [progGet, if_neg (by rw [hok]; decide)]
              simp only [progBad]
              replace hh := hh.drop
              replace hh := hh.drop
              replace hh := hh.drop
              replace hh := hh.drop
              replace hh := hh.drop
              exact ⟨I73, none, 0, none, 0, none, 0, rfl, ((((hl52.trans hl63).trans hl67).trans hl69).trans hl74), Fz.nil _ _, Nat.le_refl _, Fz.nil _ _, Nat.le_refl _, Fz.nil _ _, Nat.le_refl _, hh⟩
            · refine sk ?_
              refine nm_then ?_
              refine sq ?_
              refine rg ?_
              refine ldA [.int .i64 v0, .int .i64 v1, .int .i64 v2, .int .i64 v3, .slice A_7_4 pre.length c_7_4, .slice A53 (((tokGet lf2).pd).length) cc54, .slice A55 (((tokGet lf2).wd).length) cc56, .bool ((tokGet lf2).mrk), .bool ((tokGet lf2).lg)] rb_36 ti_36 rfl ((Rd.obj hh.at0 0).take 9) rfl rfl he fun a he => ?_
              replace hh := hh.up4
              refine st #[.int .i64 v0, .int .i64 v1, .int .i64 v2, .int .i64 v3, .slice A_7_4 pre.length c_7_4, .slice A53 (((tokGet lf2).pd).length) cc54, .slice A55 (((tokGet lf2).wd).length) cc56, .bool ((tokGet lf2).mrk), .bool ((tokGet lf2).lg)] ti_36 rfl rfl rfl rfl (by simp [Value.oneCell']) (by simp) he hh fun W hh => ?_
              replace hh : Hp I73 (.obj bb1 (.cells [.int .i64 v0, .int .i64 v1, .int .i64 v2, .int .i64 v3, .slice A_7_4 pre.length c_7_4, .slice A53 (((tokGet lf2).pd).length) cc54, .slice A55 (((tokGet lf2).wd).length) cc56, .bool ((tokGet lf2).mrk), .bool ((tokGet lf2).lg)].toArray 36) :: _) W := hh
              refine asg rfl rfl he fun a he => ?_
              refine en ?_
              refine rt ?_
              refine retsCT Tryd.results10 he rfl (loadVar_run rb_36 ti_36 ((Rd.obj hh.at0 0).take 9) rfl) rfl (Ret.mk ?_)
              have hok : pgOk b = true := by simp only [pgOk, hT, hR1, hR2, ha0, ha1, ha2, ha3]; generalize decide (progPut v0 v1 v2 v3 pre (tokGet lf2).pd (tokGet lf2).wd (tokGet lf2).mrk (tokGet lf2).lg = b) = q at g4 ⊢; simp at g1 g2 g3 g4; simp [g1, g2, g3, g4]
              rw [progGet, if_pos hok]
              simp only [hT, hR1, ha0, ha1, ha2, ha3]
              replace hh := hh.drop
              replace hh := hh.drop
              replace hh := hh.drop
              replace hh := hh.drop
              replace hh := hh.drop
              exact ⟨I73, A_7_4, c_7_4, A53, cc54, A55, cc56, rfl, ((((hl52.trans hl63).trans hl67).trans hl69).trans hl74), (hf64.up ((hl67.trans hl69).trans hl74)), hc65, (hf57.up (((hl63.trans hl67).trans hl69).trans hl74)), hc58, (hf59.up (((hl63.trans hl67).trans hl69).trans hl74)), hc60, hh⟩

end Go.Proofs.YtndaogkpgoimlaaDoor

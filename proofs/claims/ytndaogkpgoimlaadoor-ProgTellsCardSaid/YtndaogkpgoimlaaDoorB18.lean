/- Walks through the given program's functions, printed op by op by this session's own program; what each computes is told by the plain functions of the texts S... -/
import Derived.Test.YtndaogkpgoimlaaDoorB17
import Derived.KernelRfl
namespace Go.Proofs.YtndaogkpgoimlaaDoor
open Go Go.RowKit K
set_option linter.unusedVariables false
theorem ud_46 : (Tryd.prog.underlying 46).isSome = true := by kernel_rfl
theorem law_ProgNames (I : Snap) (L : List Ch) (W : World) (n : Nat) (m : Nat) (hh : Hp I L W)  (hn : n < 4294967296) (hm : m < 4294967296) (hp : powTab I) :
    Calls Tryd.prog 4 #[.int .u32 ((n : Nat) : Int), .int .u32 ((m : Nat) : Int)] W (Ret fun v W => ∃ (I' : Snap), v = .bool true ∧ I.le I' ∧ Hp I' (L) W) := by
  refine enter Tryd.func4 rfl Tryd.ntmps4 rfl fun a he => ?_
  refine sq ?_
  refine rg ?_
  refine asg rfl rfl he fun a he => ?_
  refine en ?_
  refine sq ?_
  refine rg ?_
  refine cal cb_8 rfl (law_shown _ _ _  hh ) rfl he fun v a W hp he => ?_
  obtain ⟨I1, rfl, hl2, hh⟩ := hp
  refine asg rfl rfl he fun a he => ?_
  refine en ?_
  refine sq ?_
  refine rg ?_
  refine mv rfl rfl he fun a he => ?_
  refine ci ((n : Nat) : Int) .i64 ud_46 Tryd.underlying3 rfl (w64 (by omega) (by omega)) rfl he fun a he => ?_
  refine cal cb_16 rfl (prog_Name _ _ _ ((n : Nat) : Int) hh (by omega) (.inr (hp.up hl2))) rfl he fun v a W hp he => ?_
  obtain ⟨rfl, hh⟩ := hp
  refine asg rfl rfl he fun a he => ?_
  refine en ?_
  refine sq ?_
  refine sq ?_
  have hs := name_short (n := ((n : Nat) : Int)) (by omega)
  refine rg ?_
  refine asg rfl rfl he fun a he => ?_
  refine en ?_
  refine bk ?_
  refine lp (fun (i : Nat) a w => Env 68 [(0, .int .u32 ((n : Nat) : Int)), (1, .int .u32 ((m : Nat) : Int)), (5, .bool true), (6, .string (nameN ((n : Nat) : Int))), (7, .int .i64 ((i : Nat) : Int))] a ∧ Hp I1 (L) w ∧ i ≤ (nameN ((n : Nat) : Int)).size)
      (fun i => (nameN ((n : Nat) : Int)).size - i) 0 ⟨he.keep [0, 1, 5, 6, 7] rfl, hh, Nat.zero_le _⟩ fun i a W hinv => ?_
  obtain ⟨he, hh, hi⟩ := hinv
  refine sq ?_
  refine sq ?_
  refine rg ?_
  refine mv rfl rfl he fun a he => ?_
  refine mv rfl rfl he fun a he => ?_
  refine slen Tryd.underlying9 rfl rfl he fun a he => ?_
  refine lt rfl rfl rfl he fun a he => ?_
  refine en ?_
  refine cnd he rfl (fun h3 => ?_) (fun h3 => ?_)
  · replace h3 : i < ((nameN ((n : Nat) : Int)).size) := by omega
    refine sk ?_
    refine nm_then ?_
    refine sq ?_
    refine bk ?_
    refine sq ?_
    refine rg ?_
    refine mv rfl rfl he fun a he => ?_
    refine mv rfl rfl he fun a he => ?_
    have hi4 : i < (nameN ((n : Nat) : Int) : ByteArray).size := by omega
    refine sat (i) Tryd.underlying9 rfl rfl hi4 rfl he fun a he => ?_
    refine asg rfl rfl he fun a he => ?_
    refine en ?_
    refine sq ?_
    have hc := name_char i (show i < (nameN ((n : Nat) : Int)).size by omega)
    refine rg ?_
    refine mv rfl rfl he fun a he => ?_
    refine ge rfl rfl rfl he fun a he => ?_
    refine mv rfl rfl he fun a he => ?_
    refine jnl (fun a W => Env 68 [(0, .int .u32 ((n : Nat) : Int)), (1, .int .u32 ((m : Nat) : Int)), (5, .bool true), (6, .string (nameN ((n : Nat) : Int))), (7, .int .i64 ((i : Nat) : Int)), (8, .int .u8 ((((nameN ((n : Nat) : Int))[i]'hi4).toNat : Nat) : Int)), (16, .bool (decide (((i : Nat) : Int) < (((nameN ((n : Nat) : Int)).size : Nat) : Int)))), (27, .bool (decide (((97 : Int) ≤ ((((nameN ((n : Nat) : Int))[i]'hi4).toNat : Nat) : Int)) ∧ (((((nameN ((n : Nat) : Int))[i]'hi4).toNat : Nat) : Int) ≤ 122))))] a ∧ Hp I1 (L) W) 3 (fun a W hM => ?_) fun key6 => ?_
    · obtain ⟨he, hh⟩ := hM
      refine mv rfl rfl he fun a he => ?_
      refine jnl (fun a W => Env 68 [(0, .int .u32 ((n : Nat) : Int)), (1, .int .u32 ((m : Nat) : Int)), (5, .bool true), (6, .string (nameN ((n : Nat) : Int))), (7, .int .i64 ((i : Nat) : Int)), (8, .int .u8 ((((nameN ((n : Nat) : Int))[i]'hi4).toNat : Nat) : Int)), (16, .bool (decide (((i : Nat) : Int) < (((nameN ((n : Nat) : Int)).size : Nat) : Int)))), (35, .bool (decide ((((97 : Int) ≤ ((((nameN ((n : Nat) : Int))[i]'hi4).toNat : Nat) : Int)) ∧ (((((nameN ((n : Nat) : Int))[i]'hi4).toNat : Nat) : Int) ≤ 122)) ∨ (((48 : Int) ≤ ((((nameN ((n : Nat) : Int))[i]'hi4).toNat : Nat) : Int)) ∧ (((((nameN ((n : Nat) : Int))[i]'hi4).toNat : Nat) : Int) ≤ 57)))))] a ∧ Hp I1 (L) W) 7 (fun a W hM => ?_) fun key8 => ?_
      · obtain ⟨he, hh⟩ := hM
        refine mv rfl rfl he fun a he => ?_
        refine jnl (fun a W => Env 68 [(0, .int .u32 ((n : Nat) : Int)), (1, .int .u32 ((m : Nat) : Int)), (5, .bool true), (6, .string (nameN ((n : Nat) : Int))), (7, .int .i64 ((i : Nat) : Int)), (16, .bool (decide (((i : Nat) : Int) < (((nameN ((n : Nat) : Int)).size : Nat) : Int)))), (39, .bool (decide (((((97 : Int) ≤ ((((nameN ((n : Nat) : Int))[i]'hi4).toNat : Nat) : Int)) ∧ (((((nameN ((n : Nat) : Int))[i]'hi4).toNat : Nat) : Int) ≤ 122)) ∨ (((48 : Int) ≤ ((((nameN ((n : Nat) : Int))[i]'hi4).toNat : Nat) : Int)) ∧ (((((nameN ((n : Nat) : Int))[i]'hi4).toNat : Nat) : Int) ≤ 57))) ∨ (((((nameN ((n : Nat) : Int))[i]'hi4).toNat : Nat) : Int) = 45))))] a ∧ Hp I1 (L) W) 3 (fun a W hM => ?_) fun key10 => ?_
        · obtain ⟨he, hh⟩ := hM
          refine nt rfl rfl he fun a he => ?_
          refine en ?_
          replace he := he.be (t := 40) (v' := .bool false) rfl (by exact congrArg Value.bool (by simp; omega))
          refine cnf he rfl ?_
          refine sk ?_
          refine nm_blk ?_
          refine nm_then ?_
          refine rg ?_
          refine mv rfl rfl he fun a he => ?_
          refine ad (((i + 1) : Nat) : Int) rfl rfl (w64 (by omega) (by omega)) rfl he fun a he => ?_
          refine asg rfl rfl he fun a he => ?_
          refine en ?_
          exact ⟨i + 1, ⟨he.keep [0, 1, 5, 6, 7] rfl, hh, by omega⟩, by show (nameN ((n : Nat) : Int)).size - (i + 1) < (nameN ((n : Nat) : Int)).size - i; omega⟩
        refine sd he (t := 36) rfl (fun h11 he => ?_) (fun h11 he => ?_)
        · refine gn rfl rfl he rfl rfl fun a he => ?_
          refine gn rfl rfl he rfl rfl fun a he => ?_
          refine pkt rfl rfl rfl he fun a he => ?_
          replace he := he.be (t := 39) (v' := .bool (decide (((((97 : Int) ≤ ((((nameN ((n : Nat) : Int))[i]'hi4).toNat : Nat) : Int)) ∧ (((((nameN ((n : Nat) : Int))[i]'hi4).toNat : Nat) : Int) ≤ 122)) ∨ (((48 : Int) ≤ ((((nameN ((n : Nat) : Int))[i]'hi4).toNat : Nat) : Int)) ∧ (((((nameN ((n : Nat) : Int))[i]'hi4).toNat : Nat) : Int) ≤ 57))) ∨ (((((nameN ((n : Nat) : Int))[i]'hi4).toNat : Nat) : Int) = 45)))) rfl (jod_t h11)
          exact key10 _ _ ⟨he.keep [0, 1, 5, 6, 7, 16, 39] rfl, hh⟩
        · refine gy rfl he rfl ?_
          refine mv rfl rfl he fun a he => ?_
          refine gy rfl he rfl ?_
          refine eq rfl rfl rfl he fun a he => ?_
          refine pkf rfl rfl rfl he fun a he => ?_
          replace he := he.be (t := 39) (v' := .bool (decide (((((97 : Int) ≤ ((((nameN ((n : Nat) : Int))[i]'hi4).toNat : Nat) : Int)) ∧ (((((nameN ((n : Nat) : Int))[i]'hi4).toNat : Nat) : Int) ≤ 122)) ∨ (((48 : Int) ≤ ((((nameN ((n : Nat) : Int))[i]'hi4).toNat : Nat) : Int)) ∧ (((((nameN ((n : Nat) : Int))[i]'hi4).toNat : Nat) : Int) ≤ 57))) ∨ (((((nameN ((n : Nat) : Int))[i]'hi4).toNat : Nat) : Int) = 45)))) rfl (jod_f h11)
          exact key10 _ _ ⟨he.keep [0, 1, 5, 6, 7, 16, 39] rfl, hh⟩
      refine sd he (t := 28) rfl (fun h13 he => ?_) (fun h13 he => ?_)
      · refine gn rfl rfl he rfl rfl fun a he => ?_
        refine gn rfl rfl he rfl rfl fun a he => ?_
        refine gn rfl rfl he rfl rfl fun a he => ?_
        refine gnu rfl rfl he rfl fun a he => ?_
        refine gnu rfl rfl he rfl fun a he => ?_
        refine gn rfl rfl he rfl rfl fun a he => ?_
        refine pkt rfl rfl rfl he fun a he => ?_
        replace he := he.be (t := 35) (v' := .bool (decide ((((97 : Int) ≤ ((((nameN ((n : Nat) : Int))[i]'hi4).toNat : Nat) : Int)) ∧ (((((nameN ((n : Nat) : Int))[i]'hi4).toNat : Nat) : Int) ≤ 122)) ∨ (((48 : Int) ≤ ((((nameN ((n : Nat) : Int))[i]'hi4).toNat : Nat) : Int)) ∧ (((((nameN ((n : Nat) : Int))[i]'hi4).toNat : Nat) : Int) ≤ 57))))) rfl (jod_t h13)
        exact key8 _ _ ⟨he.keep [0, 1, 5, 6, 7, 8, 16, 35] rfl, hh⟩
      · refine gy rfl he rfl ?_
        refine mv rfl rfl he fun a he => ?_
        refine gy rfl he rfl ?_
        refine ge rfl rfl rfl he fun a he => ?_
        refine gy rfl he rfl ?_
        refine mv rfl rfl he fun a he => ?_
        refine jnl (fun a W => Env 68 [(0, .int .u32 ((n : Nat) : Int)), (1, .int .u32 ((m : Nat) : Int)), (5, .bool true), (6, .string (nameN ((n : Nat) : Int))), (7, .int .i64 ((i : Nat) : Int)), (8, .int .u8 ((((nameN ((n : Nat) : Int))[i]'hi4).toNat : Nat) : Int)), (16, .bool (decide (((i : Nat) : Int) < (((nameN ((n : Nat) : Int)).size : Nat) : Int)))), (28, .bool false), (34, .bool (decide (((48 : Int) ≤ ((((nameN ((n : Nat) : Int))[i]'hi4).toNat : Nat) : Int)) ∧ (((((nameN ((n : Nat) : Int))[i]'hi4).toNat : Nat) : Int) ≤ 57))))] a ∧ Hp I1 (L) W) 3 (fun a W hM => ?_) fun key16 => ?_
        · obtain ⟨he, hh⟩ := hM
          refine pkf rfl rfl rfl he fun a he => ?_
          replace he := he.be (t := 35) (v' := .bool (decide ((((97 : Int) ≤ ((((nameN ((n : Nat) : Int))[i]'hi4).toNat : Nat) : Int)) ∧ (((((nameN ((n : Nat) : Int))[i]'hi4).toNat : Nat) : Int) ≤ 122)) ∨ (((48 : Int) ≤ ((((nameN ((n : Nat) : Int))[i]'hi4).toNat : Nat) : Int)) ∧ (((((nameN ((n : Nat) : Int))[i]'hi4).toNat : Nat) : Int) ≤ 57))))) rfl (jod_f h13)
          exact key8 _ _ ⟨he.keep [0, 1, 5, 6, 7, 8, 16, 35] rfl, hh⟩
        refine sd he (t := 31) rfl (fun h17 he => ?_) (fun h17 he => ?_)
        · have hk18 := h17
          replace h17 : 48 ≤ (((nameN ((n : Nat) : Int))[i]'hi4).toNat) := by omega
          refine gy rfl he rfl ?_
          refine mv rfl rfl he fun a he => ?_
          refine gy rfl he rfl ?_
          refine le rfl rfl rfl he fun a he => ?_
          refine gy rfl he rfl ?_
          refine pkt rfl rfl rfl he fun a he => ?_
          replace he := he.be (t := 34) (v' := .bool (decide (((48 : Int) ≤ ((((nameN ((n : Nat) : Int))[i]'hi4).toNat : Nat) : Int)) ∧ (((((nameN ((n : Nat) : Int))[i]'hi4).toNat : Nat) : Int) ≤ 57)))) rfl (jad_t hk18)
          exact key16 _ _ ⟨he.keep [0, 1, 5, 6, 7, 8, 16, 28, 34] rfl, hh⟩
        · have hk18 := h17
          replace h17 : ¬ (48 ≤ (((nameN ((n : Nat) : Int))[i]'hi4).toNat)) := by omega
          refine gn rfl rfl he rfl rfl fun a he => ?_
          refine gn rfl rfl he rfl rfl fun a he => ?_
          refine gy rfl he rfl ?_
          refine pkf rfl rfl rfl he fun a he => ?_
          replace he := he.be (t := 34) (v' := .bool (decide (((48 : Int) ≤ ((((nameN ((n : Nat) : Int))[i]'hi4).toNat : Nat) : Int)) ∧ (((((nameN ((n : Nat) : Int))[i]'hi4).toNat : Nat) : Int) ≤ 57)))) rfl (jad_f hk18)
          exact key16 _ _ ⟨he.keep [0, 1, 5, 6, 7, 8, 16, 28, 34] rfl, hh⟩
    refine sd he (t := 24) rfl (fun h19 he => ?_) (fun h19 he => ?_)
    · have hk20 := h19
      replace h19 : 97 ≤ (((nameN ((n : Nat) : Int))[i]'hi4).toNat) := by omega
      refine gy rfl he rfl ?_
      refine mv rfl rfl he fun a he => ?_
      refine gy rfl he rfl ?_
      refine le rfl rfl rfl he fun a he => ?_
      refine pkt rfl rfl rfl he fun a he => ?_
      replace he := he.be (t := 27) (v' := .bool (decide (((97 : Int) ≤ ((((nameN ((n : Nat) : Int))[i]'hi4).toNat : Nat) : Int)) ∧ (((((nameN ((n : Nat) : Int))[i]'hi4).toNat : Nat) : Int) ≤ 122)))) rfl (jad_t hk20)
      exact key6 _ _ ⟨he.keep [0, 1, 5, 6, 7, 8, 16, 27] rfl, hh⟩
    · have hk20 := h19
      replace h19 : ¬ (97 ≤ (((nameN ((n : Nat) : Int))[i]'hi4).toNat)) := by omega
      refine gn rfl rfl he rfl rfl fun a he => ?_
      refine gn rfl rfl he rfl rfl fun a he => ?_
      refine pkf rfl rfl rfl he fun a he => ?_
      replace he := he.be (t := 27) (v' := .bool (decide (((97 : Int) ≤ ((((nameN ((n : Nat) : Int))[i]'hi4).toNat : Nat) : Int)) ∧ (((((nameN ((n : Nat) : Int))[i]'hi4).toNat : Nat) : Int) ≤ 122)))) rfl (jad_f hk20)
      exact key6 _ _ ⟨he.keep [0, 1, 5, 6, 7, 8, 16, 27] rfl, hh⟩
  · replace h3 : ¬ (i < ((nameN ((n : Nat) : Int)).size)) := by omega
    refine ext ?_
    refine ex_then ?_
    refine ex_then ?_
    refine ex_in ?_
    refine nm_then ?_
    refine sq ?_
    refine rg ?_
    refine mv rfl rfl he fun a he => ?_
    refine mv rfl rfl he fun a he => ?_
    refine gy rfl he rfl ?_
    refine mv rfl rfl he fun a he => ?_
    refine gy rfl he rfl ?_
    refine mv rfl rfl he fun a he => ?_
    refine gy rfl he rfl ?_
    refine ci ((m : Nat) : Int) .i64 ud_46 Tryd.underlying3 rfl (w64 (by omega) (by omega)) rfl he fun a he => ?_
    refine gy rfl he rfl ?_
    refine cal cb_16 rfl (prog_Name _ _ _ ((m : Nat) : Int) hh (by omega) (.inr (hp.up hl2))) rfl he fun v a W hp he => ?_
    obtain ⟨rfl, hh⟩ := hp
    refine gy rfl he rfl ?_
    refine seq' rfl rfl rfl he fun a he => ?_
    refine gy rfl he rfl ?_
    refine mv rfl rfl he fun a he => ?_
    refine gy rfl he rfl ?_
    refine mv rfl rfl he fun a he => ?_
    refine gy rfl he rfl ?_
    refine eq rfl rfl rfl he fun a he => ?_
    refine gy rfl he rfl ?_
    refine beq' Tryd.underlying4 rfl rfl rfl he fun a he => ?_
    refine pkt rfl rfl rfl he fun a he => ?_
    refine mv rfl rfl he fun a he => ?_
    refine jnl (fun a W => Env 68 [(0, .int .u32 ((n : Nat) : Int)), (6, .string (nameN ((n : Nat) : Int))), (7, .int .i64 ((i : Nat) : Int)), (16, .bool (decide (((i : Nat) : Int) < (((nameN ((n : Nat) : Int)).size : Nat) : Int)))), (57, .bool (((decide ((nameN ((n : Nat) : Int)) = (nameN ((m : Nat) : Int)))) == (decide (((n : Nat) : Int) = ((m : Nat) : Int)))) && (decide ((5 : Int) ≤ (((nameN ((n : Nat) : Int)).size : Nat) : Int)))))] a ∧ Hp I1 (L) W) 4 (fun a W hM => ?_) fun key22 => ?_
    · obtain ⟨he, hh⟩ := hM
      refine mv rfl rfl he fun a he => ?_
      refine jnl (fun a W => Env 68 [(0, .int .u32 ((n : Nat) : Int)), (6, .string (nameN ((n : Nat) : Int))), (7, .int .i64 ((i : Nat) : Int)), (16, .bool (decide (((i : Nat) : Int) < (((nameN ((n : Nat) : Int)).size : Nat) : Int)))), (62, .bool ((((decide ((nameN ((n : Nat) : Int)) = (nameN ((m : Nat) : Int)))) == (decide (((n : Nat) : Int) = ((m : Nat) : Int)))) && (decide ((5 : Int) ≤ (((nameN ((n : Nat) : Int)).size : Nat) : Int)))) && (decide ((((nameN ((n : Nat) : Int)).size : Nat) : Int) ≤ 14))))] a ∧ Hp I1 (L) W) 4 (fun a W hM => ?_) fun key24 => ?_
      · obtain ⟨he, hh⟩ := hM
        refine mv rfl rfl he fun a he => ?_
        refine jnl (fun a W => Env 68 [(0, .int .u32 ((n : Nat) : Int)), (6, .string (nameN ((n : Nat) : Int))), (7, .int .i64 ((i : Nat) : Int)), (16, .bool (decide (((i : Nat) : Int) < (((nameN ((n : Nat) : Int)).size : Nat) : Int)))), (67, .bool (((((decide ((nameN ((n : Nat) : Int)) = (nameN ((m : Nat) : Int)))) == (decide (((n : Nat) : Int) = ((m : Nat) : Int)))) && (decide ((5 : Int) ≤ (((nameN ((n : Nat) : Int)).size : Nat) : Int)))) && (decide ((((nameN ((n : Nat) : Int)).size : Nat) : Int) ≤ 14))) && (decide (((nameN ((n : Nat) : Int)).extract 0 4) = (⟨#[114, 117, 110, 45]⟩ : ByteArray)))))] a ∧ Hp I1 (L) W) 4 (fun a W hM => ?_) fun key26 => ?_
        · obtain ⟨he, hh⟩ := hM
          refine asg rfl rfl he fun a he => ?_
          refine en ?_
          refine rt ?_
          refine rets1 Tryd.results4 he rfl (Ret.mk ?_)
          exact ⟨I1, congrArg Value.bool (by simp [name_inj (n := ((n : Nat) : Int)) (m := ((m : Nat) : Int)) (by omega) (by omega), name_pre]; omega), hl2, hh⟩
        refine sb he (t := 63) rfl (fun h27 he => ?_) (fun h27 he => ?_)
        · refine gy rfl he rfl ?_
          refine mv rfl rfl he fun a he => ?_
          refine gy rfl he rfl ?_
          refine ssh (4) Tryd.underlying9 rfl rfl (by omega) rfl he fun a he => ?_
          refine gy rfl he rfl ?_
          refine seq' rfl rfl rfl he fun a he => ?_
          refine pkt rfl rfl rfl he fun a he => ?_
          replace he := he.be (t := 67) (v' := .bool (((((decide ((nameN ((n : Nat) : Int)) = (nameN ((m : Nat) : Int)))) == (decide (((n : Nat) : Int) = ((m : Nat) : Int)))) && (decide ((5 : Int) ≤ (((nameN ((n : Nat) : Int)).size : Nat) : Int)))) && (decide ((((nameN ((n : Nat) : Int)).size : Nat) : Int) ≤ 14))) && (decide (((nameN ((n : Nat) : Int)).extract 0 4) = (⟨#[114, 117, 110, 45]⟩ : ByteArray))))) rfl (ja_t h27)
          exact key26 _ _ ⟨he.keep [0, 6, 7, 16, 67] rfl, hh⟩
        · refine gn rfl rfl he rfl rfl fun a he => ?_
          refine gn rfl rfl he rfl rfl fun a he => ?_
          refine gn rfl rfl he rfl rfl fun a he => ?_
          refine pkf rfl rfl rfl he fun a he => ?_
          replace he := he.be (t := 67) (v' := .bool (((((decide ((nameN ((n : Nat) : Int)) = (nameN ((m : Nat) : Int)))) == (decide (((n : Nat) : Int) = ((m : Nat) : Int)))) && (decide ((5 : Int) ≤ (((nameN ((n : Nat) : Int)).size : Nat) : Int)))) && (decide ((((nameN ((n : Nat) : Int)).size : Nat) : Int) ≤ 14))) && (decide (((nameN ((n : Nat) : Int)).extract 0 4) = (⟨#[114, 117, 110, 45]⟩ : ByteArray))))) rfl (ja_f h27)
          exact key26 _ _ ⟨he.keep [0, 6, 7, 16, 67] rfl, hh⟩
      refine sb he (t := 58) rfl (fun h29 he => ?_) (fun h29 he => ?_)
      · refine gy rfl he rfl ?_
        refine mv rfl rfl he fun a he => ?_
        refine gy rfl he rfl ?_
        refine slen Tryd.underlying9 rfl rfl he fun a he => ?_
        refine gy rfl he rfl ?_
        refine le rfl rfl rfl he fun a he => ?_
        refine pkt rfl rfl rfl he fun a he => ?_
        replace he := he.be (t := 62) (v' := .bool ((((decide ((nameN ((n : Nat) : Int)) = (nameN ((m : Nat) : Int)))) == (decide (((n : Nat) : Int) = ((m : Nat) : Int)))) && (decide ((5 : Int) ≤ (((nameN ((n : Nat) : Int)).size : Nat) : Int)))) && (decide ((((nameN ((n : Nat) : Int)).size : Nat) : Int) ≤ 14)))) rfl (ja_t h29)
        exact key24 _ _ ⟨he.keep [0, 6, 7, 16, 62] rfl, hh⟩
      · refine gn rfl rfl he rfl rfl fun a he => ?_
        refine gn rfl rfl he rfl rfl fun a he => ?_
        refine gn rfl rfl he rfl rfl fun a he => ?_
        refine pkf rfl rfl rfl he fun a he => ?_
        replace he := he.be (t := 62) (v' := .bool ((((decide ((nameN ((n : Nat) : Int)) = (nameN ((m : Nat) : Int)))) == (decide (((n : Nat) : Int) = ((m : Nat) : Int)))) && (decide ((5 : Int) ≤ (((nameN ((n : Nat) : Int)).size : Nat) : Int)))) && (decide ((((nameN ((n : Nat) : Int)).size : Nat) : Int) ≤ 14)))) rfl (ja_f h29)
        exact key24 _ _ ⟨he.keep [0, 6, 7, 16, 62] rfl, hh⟩
    refine sb he (t := 53) rfl (fun h31 he => ?_) (fun h31 he => ?_)
    · refine gy rfl he rfl ?_
      refine mv rfl rfl he fun a he => ?_
      refine gy rfl he rfl ?_
      refine slen Tryd.underlying9 rfl rfl he fun a he => ?_
      refine gy rfl he rfl ?_
      refine ge rfl rfl rfl he fun a he => ?_
      refine pkt rfl rfl rfl he fun a he => ?_
      replace he := he.be (t := 57) (v' := .bool (((decide ((nameN ((n : Nat) : Int)) = (nameN ((m : Nat) : Int)))) == (decide (((n : Nat) : Int) = ((m : Nat) : Int)))) && (decide ((5 : Int) ≤ (((nameN ((n : Nat) : Int)).size : Nat) : Int))))) rfl (ja_t h31)
      exact key22 _ _ ⟨he.keep [0, 6, 7, 16, 57] rfl, hh⟩
    · refine gn rfl rfl he rfl rfl fun a he => ?_
      refine gn rfl rfl he rfl rfl fun a he => ?_
      refine gn rfl rfl he rfl rfl fun a he => ?_
      refine pkf rfl rfl rfl he fun a he => ?_
      replace he := he.be (t := 57) (v' := .bool (((decide ((nameN ((n : Nat) : Int)) = (nameN ((m : Nat) : Int)))) == (decide (((n : Nat) : Int) = ((m : Nat) : Int)))) && (decide ((5 : Int) ≤ (((nameN ((n : Nat) : Int)).size : Nat) : Int))))) rfl (ja_f h31)
      exact key22 _ _ ⟨he.keep [0, 6, 7, 16, 57] rfl, hh⟩

end Go.Proofs.YtndaogkpgoimlaaDoor

/- Proves: unlike numbers have unlike names of runs, of small letters, digits and '-'; for every input, without conditions; the tables of the library lie as its text lays them (the tie). The proof runs over the translated program: each function's walk is in the texts B.., what each computes in the texts S... -/
import Derived.Test.YtndaogkpgoimlaaDoorRows
import Derived.Test.YtndaogkpgoimlaaDoorB18
import Derived.Test.YtndaogkpgoimlaaDoorT3
import Derived.Test.YtndaogkpgoimlaaDoorT2
import Derived.Test.YtndaogkpgoimlaaDoorCards
import Derived.SevenTiedAt
import Derived.Handed
import Derived.KernelRfl
namespace Go.Proofs.YtndaogkpgoimlaaDoor.progNames
open Go Go.RowKit Go.ChangeShapes Go.WideShapes Go.ChangeAt K
set_option linter.unusedVariables false
theorem own : ownKnob Tryd.prog.godebug = none := by kernel_rfl
theorem laidOut : laidOutB Tryd.prog = true := by kernel_rfl

set_option maxRecDepth 100000 in
theorem lifted (os : Os) (started : os.Started) (H : Type) (enc : TypeId × Value → H) :
    ReturnsInHanded {} Tryd.checked os 4 .any (fun w args => (Rows.progNamesSpec.pre enc Tryd.prog Tryd.f4 [] false w args ∧ laidMetH Tryd.prog Rows.progNamesRow.laid w) ∧ sizedMet enc Tryd.prog Tryd.f4 (OpenSpec.ofChange Rows.progNamesSpec) false w args) (Rows.progNamesSpec.post enc Tryd.prog Tryd.f4 false true false false) := by
  refine returnsInHanded_of_change_and (C := Tryd.checked) (X := fun w _ => laidMetH Tryd.prog Rows.progNamesRow.laid w) (fun _ _ _ hh h => h.of_heap hh) own started (by kernel_rfl) Tryd.func4
    (ChangeSpec.witness_at (enc := enc) (C := Tryd.checked) (os := os) (X := fun w _ => laidMetH Tryd.prog Rows.progNamesRow.laid w) false (laidWorld os) #[.int .u32 0, .int .u32 0] 8 rfl (by kernel_rfl) (by kernel_rfl) (by kernel_rfl) (by kernel_rfl) (by kernel_rfl) (laidWorld_met os _)) ?_
  intro W base args ds gs before hval0 hW hcnd hsz0 hL _
  have hpow := pow_of_laid hL
  have hsz : (DataW.weightsEach Tryd.prog (Tryd.f4.params.toList ++ Rows.progNamesSpec.plain.varTypes Tryd.prog) (ds ++ gs)).all (· ≤ reachBytes) = true := hsz0
  have hval : ∀ (j : Nat) t v, Tryd.f4.params[j]? = some t → args[j]? = some v → Value.okWide Tryd.prog W .any base t v := hval0
  have hW' := hW
  obtain ⟨p, q, hA0, hV, rfl, hfz, hnd⟩ := hW
  have hA : DataW.TrodAll enc Tryd.prog W 0 (fun _ => true) true Tryd.f4.params.toList args.toList ds p := hA0
  rw [Tryd.params4] at hA hval hsz
  obtain ⟨v0, vs0, d0, ds0, p0, q0, hargs, rfl, rfl, h0, r0⟩ := trodAll_cons hA
  obtain ⟨v1, vs1, d1, ds1, p1, q1, rfl, rfl, rfl, h1, r1⟩ := trodAll_cons r0
  obtain ⟨rfl, rfl, rfl⟩ := trodAll_nil r1
  obtain rfl : args = #[v0, v1] := by cases args; simp_all
  obtain ⟨rfl, rfl⟩ := trodVars_none hV
  obtain ⟨a0, rfl, rfl, rfl, w0⟩ := open_int Tryd.underlying46 (hval 0 46 v0 rfl rfl) h0
  obtain ⟨a1, rfl, rfl, rfl, w1⟩ := open_int Tryd.underlying46 (hval 1 46 v1 rfl rfl) h1
  clear hA0 hval0 hsz0 hsz
  have hp := hp_snap W
  refine (names2 a0 a1 w0 w1 hp hpow).mono fun e W' ⟨v, he, I', hv, hle, hp⟩ => ?_
  subst he hv
  have bel := hp.toBelow hle
  exact ⟨_, rfl, _, _, _, [], _, [], hW', trodAll_mk1 (shut_bool Tryd.underlying4 _), (trodAll_cons_mk (shut_int Tryd.underlying46 w0) (trodAll_cons_mk (shut_int Tryd.underlying46 w1) trodAll_mk0)), rfl, bel.frame _, fun h => by cases h⟩
theorem over : Rows.progNamesRow.holds Tryd.pinned (OpenSpec.ofChange Rows.progNamesSpec) :=
  OpenClaim.holds_of_wide 4 Tryd.f4 rfl rfl rfl rfl rfl rfl rfl ⟨rfl, rfl, rfl, rfl, rfl⟩ rfl rfl rfl rfl rfl (by kernel_rfl) Tryd.func4 (by kernel_rfl)
    (of_decide_eq_true (by kernel_rfl)) (by unfold Func.isWrapper; first | (rw [if_pos (by decide +kernel)]; kernel_rfl) | (rw [if_neg (by decide +kernel)]; exact ⟨rfl, rfl⟩))
    (fun os started H enc _ => lifted os started H enc)
end Go.Proofs.YtndaogkpgoimlaaDoor.progNames
namespace Go.Proofs.YtndaogkpgoimlaaDoor
/-- The given statement: the tied card. -/
theorem progNames_holds : Rows.ProgNamesCardSaid :=
  Claim7.holds_tied_plain_at .later [] [.data, .data, .data] true (true, "6c3499f8dcfb7a9d56819d098bff8783b93a2503e2617058b1d6629c0dc3dc6d") false
    progNames.over (fun _ h => by cases h) (by kernel_rfl) (fun _ h => by cases h) progNames_row_tie rfl ⟨rfl, rfl⟩ (by kernel_rfl) rfl
    (fun f fn hf hfn => by
      obtain rfl : f = 4 := Option.some.inj ((show Tryd.prog.funcNamed "mantelet/manteletlaw22.ProgNames" = some 4 by kernel_rfl).symm.trans hf) |>.symm
      obtain rfl : fn = Tryd.f4 := (Option.some.inj (Tryd.func4.symm.trans hfn)).symm
      refine ⟨by kernel_rfl, fun j t ht => ?_⟩
      have h0 : (Tryd.f4.params.toList.all fun t => !Tryd.prog.wantsStandIn t) = true := by kernel_rfl
      have h1 := List.all_eq_true.1 h0 t (by simpa using Array.mem_of_getElem? ht)
      exact (by simpa using h1 : Tryd.prog.wantsStandIn t = false))
    (by kernel_rfl)
end Go.Proofs.YtndaogkpgoimlaaDoor
#print axioms Go.Proofs.YtndaogkpgoimlaaDoor.progNames_holds

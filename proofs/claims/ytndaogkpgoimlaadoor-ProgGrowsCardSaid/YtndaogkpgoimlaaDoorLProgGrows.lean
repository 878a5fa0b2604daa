/- Proves: a state that may be, with one run more, may be, and has come farther; for every input, without conditions; the tables of the library lie as its text lays them (the tie). The proof runs over the translated program: each function's walk is in the texts B.., what each computes in the texts S... -/
import Derived.Test.YtndaogkpgoimlaaDoorRows
import Derived.Test.YtndaogkpgoimlaaDoorB20
import Derived.Test.YtndaogkpgoimlaaDoorT2
import Derived.Test.YtndaogkpgoimlaaDoorCards
import Derived.SevenTiedAt
import Derived.Handed
import Derived.KernelRfl
namespace Go.Proofs.YtndaogkpgoimlaaDoor.progGrows
open Go Go.RowKit Go.ChangeShapes Go.WideShapes Go.ChangeAt K
set_option linter.unusedVariables false
theorem own : ownKnob Tryd.prog.godebug = none := by kernel_rfl
theorem laidOut : laidOutB Tryd.prog = true := by kernel_rfl

set_option maxRecDepth 100000 in
theorem lifted (os : Os) (started : os.Started) (H : Type) (enc : TypeId × Value → H) :
    ReturnsInHanded {} Tryd.checked os 7 .any (fun w args => (Rows.progGrowsSpec.pre enc Tryd.prog Tryd.f7 [] false w args ∧ laidMetH Tryd.prog Rows.progGrowsRow.laid w) ∧ sizedMet enc Tryd.prog Tryd.f7 (OpenSpec.ofChange Rows.progGrowsSpec) false w args) (Rows.progGrowsSpec.post enc Tryd.prog Tryd.f7 false true false false) := by
  refine returnsInHanded_of_change_and (C := Tryd.checked) (X := fun w _ => laidMetH Tryd.prog Rows.progGrowsRow.laid w) (fun _ _ _ hh h => h.of_heap hh) own started (by kernel_rfl) Tryd.func7
    (ChangeSpec.witness_at (enc := enc) (C := Tryd.checked) (os := os) (X := fun w _ => laidMetH Tryd.prog Rows.progGrowsRow.laid w) false (laidWorld os) #[.agg #[.int .i64 0, .int .i64 0, .int .i64 0, .int .i64 0, .slice none 0 0, .slice none 0 0, .slice none 0 0, .bool false, .bool false]] 8 rfl (by kernel_rfl) (by kernel_rfl) (by kernel_rfl) (by kernel_rfl) (by kernel_rfl) (laidWorld_met os _)) ?_
  intro W base args ds gs before hval0 hW hcnd hsz0 hL _
  have hpow := pow_of_laid hL
  have hsz : (DataW.weightsEach Tryd.prog (Tryd.f7.params.toList ++ Rows.progGrowsSpec.plain.varTypes Tryd.prog) (ds ++ gs)).all (· ≤ reachBytes) = true := hsz0
  have hval : ∀ (j : Nat) t v, Tryd.f7.params[j]? = some t → args[j]? = some v → Value.okWide Tryd.prog W .any base t v := hval0
  have hW' := hW
  obtain ⟨p, q, hA0, hV, rfl, hfz, hnd⟩ := hW
  have hA : DataW.TrodAll enc Tryd.prog W 0 (fun _ => true) true Tryd.f7.params.toList args.toList ds p := hA0
  rw [Tryd.params7] at hA hval hsz
  obtain ⟨v0, vs0, d0, ds0, p0, q0, hargs, rfl, rfl, h0, r0⟩ := trodAll_cons hA
  obtain ⟨rfl, rfl, rfl⟩ := trodAll_nil r0
  obtain rfl : args = #[v0] := by cases args; simp_all
  obtain ⟨rfl, rfl⟩ := trodVars_none hV
  have k0 := h0
  have lt0 : ∀ x ∈ p0, x.block < W.heap.size := by obtain ⟨m, hm⟩ := k0; exact DataW.trod_lt m _ _ _ hm
  obtain ⟨ph0, fl0, of0, nx0, A_rs0, c_rs0, rs0, A_pd0, c_pd0, pd0, A_wd0, c_wd0, wd0, mk0, lg0, rfl, hr0, hx0, hrs0, hc0, ⟨h_rs0, k_rs0⟩, ⟨h_pd0, k_pd0⟩, h_wd0, k_wd0⟩ := open_st22 (hval 0 28 v0 rfl rfl) h0
  clear hA0 hval0 hsz0 hsz
  have hp := hp_snap W
  refine (law_ProgGrows _ _ _ ph0 fl0 of0 nx0 A_rs0 c_rs0 rs0 A_pd0 c_pd0 pd0 A_wd0 c_wd0 wd0 mk0 lg0 hp h_rs0 k_rs0 h_pd0 k_pd0 h_wd0 k_wd0 hr0 hrs0 hc0 hx0).mono fun e W' ⟨v, he, I', hv, hle, hp⟩ => ?_
  subst he hv
  have bel := hp.toBelow hle
  exact ⟨_, rfl, _, _, _, [], _, [], hW', trodAll_mk1 (shut_bool Tryd.underlying4 _), (trodAll_cons_mk (Below.trod laidOut (by kernel_rfl) (of_decide_eq_true (by kernel_rfl)) k0 bel lt0) trodAll_mk0), rfl, bel.frame _, fun h => by cases h⟩
theorem over : Rows.progGrowsRow.holds Tryd.pinned (OpenSpec.ofChange Rows.progGrowsSpec) :=
  OpenClaim.holds_of_wide 7 Tryd.f7 rfl rfl rfl rfl rfl rfl rfl ⟨rfl, rfl, rfl, rfl, rfl⟩ rfl rfl rfl rfl rfl (by kernel_rfl) Tryd.func7 (by kernel_rfl)
    (of_decide_eq_true (by kernel_rfl)) (by unfold Func.isWrapper; first | (rw [if_pos (by decide +kernel)]; kernel_rfl) | (rw [if_neg (by decide +kernel)]; exact ⟨rfl, rfl⟩))
    (fun os started H enc _ => lifted os started H enc)
end Go.Proofs.YtndaogkpgoimlaaDoor.progGrows
namespace Go.Proofs.YtndaogkpgoimlaaDoor
/-- The given statement: the tied card. -/
theorem progGrows_holds : Rows.ProgGrowsCardSaid :=
  Claim7.holds_tied_plain_at .later [] [.data, .data, .data] true (true, "6c3499f8dcfb7a9d56819d098bff8783b93a2503e2617058b1d6629c0dc3dc6d") false
    progGrows.over (fun _ h => by cases h) (by kernel_rfl) (fun _ h => by cases h) progGrows_row_tie rfl ⟨rfl, rfl⟩ (by kernel_rfl) rfl
    (fun f fn hf hfn => by
      obtain rfl : f = 7 := Option.some.inj ((show Tryd.prog.funcNamed "mantelet/manteletlaw22.ProgGrows" = some 7 by kernel_rfl).symm.trans hf) |>.symm
      obtain rfl : fn = Tryd.f7 := (Option.some.inj (Tryd.func7.symm.trans hfn)).symm
      refine ⟨by kernel_rfl, fun j t ht => ?_⟩
      have h0 : (Tryd.f7.params.toList.all fun t => !Tryd.prog.wantsStandIn t) = true := by kernel_rfl
      have h1 := List.all_eq_true.1 h0 t (by simpa using Array.mem_of_getElem? ht)
      exact (by simpa using h1 : Tryd.prog.wantsStandIn t = false))
    (by kernel_rfl)
end Go.Proofs.YtndaogkpgoimlaaDoor
#print axioms Go.Proofs.YtndaogkpgoimlaaDoor.progGrows_holds

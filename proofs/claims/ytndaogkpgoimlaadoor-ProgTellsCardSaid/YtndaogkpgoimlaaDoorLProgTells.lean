/- Proves: a state's bytes, whether it may be, the state of bytes, the order and the names are the document's; for every input, without conditions; the tables of the library lie as its text lays them (the tie). The proof runs over the translated program: each function's walk is in the texts B.., what each computes in the texts S... -/
import Derived.Test.YtndaogkpgoimlaaDoorRows
import Derived.Test.YtndaogkpgoimlaaDoorB19
import Derived.Test.YtndaogkpgoimlaaDoorT3
import Derived.Test.YtndaogkpgoimlaaDoorT2
import Derived.Test.YtndaogkpgoimlaaDoorCards
import Derived.SevenTiedAt
import Derived.Handed
import Derived.KernelRfl
namespace Go.Proofs.YtndaogkpgoimlaaDoor.progTells
open Go Go.RowKit Go.ChangeShapes Go.WideShapes Go.ChangeAt K
set_option linter.unusedVariables false
theorem own : ownKnob Tryd.prog.godebug = none := by kernel_rfl
theorem laidOut : laidOutB Tryd.prog = true := by kernel_rfl

set_option maxRecDepth 100000 in
theorem lifted (os : Os) (started : os.Started) (H : Type) (enc : TypeId × Value → H) :
    ReturnsInHanded {} Tryd.checked os 5 .any (fun w args => (Rows.progTellsSpec.pre enc Tryd.prog Tryd.f5 [] false w args ∧ laidMetH Tryd.prog Rows.progTellsRow.laid w) ∧ sizedMet enc Tryd.prog Tryd.f5 (OpenSpec.ofChange Rows.progTellsSpec) false w args) (Rows.progTellsSpec.post enc Tryd.prog Tryd.f5 false true false false) := by
  refine returnsInHanded_of_change_and (C := Tryd.checked) (X := fun w _ => laidMetH Tryd.prog Rows.progTellsRow.laid w) (fun _ _ _ hh h => h.of_heap hh) own started (by kernel_rfl) Tryd.func5
    (ChangeSpec.witness_at (enc := enc) (C := Tryd.checked) (os := os) (X := fun w _ => laidMetH Tryd.prog Rows.progTellsRow.laid w) false (laidWorld os) #[.agg #[.int .i64 0, .int .i64 0, .int .i64 0, .int .i64 0, .slice none 0 0, .slice none 0 0, .slice none 0 0, .bool false, .bool false], .agg #[.int .i64 0, .int .i64 0, .int .i64 0, .int .i64 0, .slice none 0 0, .slice none 0 0, .slice none 0 0, .bool false, .bool false], .slice none 0 0, .int .i64 0] 8 rfl (by kernel_rfl) (by kernel_rfl) (by kernel_rfl) (by kernel_rfl) (by kernel_rfl) (laidWorld_met os _)) ?_
  intro W base args ds gs before hval0 hW hcnd hsz0 hL _
  have hpow := pow_of_laid hL
  have hsz : (DataW.weightsEach Tryd.prog (Tryd.f5.params.toList ++ Rows.progTellsSpec.plain.varTypes Tryd.prog) (ds ++ gs)).all (· ≤ reachBytes) = true := hsz0
  have hval : ∀ (j : Nat) t v, Tryd.f5.params[j]? = some t → args[j]? = some v → Value.okWide Tryd.prog W .any base t v := hval0
  have hW' := hW
  obtain ⟨p, q, hA0, hV, rfl, hfz, hnd⟩ := hW
  have hA : DataW.TrodAll enc Tryd.prog W 0 (fun _ => true) true Tryd.f5.params.toList args.toList ds p := hA0
  rw [Tryd.params5] at hA hval hsz
  obtain ⟨v0, vs0, d0, ds0, p0, q0, hargs, rfl, rfl, h0, r0⟩ := trodAll_cons hA
  obtain ⟨v1, vs1, d1, ds1, p1, q1, rfl, rfl, rfl, h1, r1⟩ := trodAll_cons r0
  obtain ⟨v2, vs2, d2, ds2, p2, q2, rfl, rfl, rfl, h2, r2⟩ := trodAll_cons r1
  obtain ⟨v3, vs3, d3, ds3, p3, q3, rfl, rfl, rfl, h3, r3⟩ := trodAll_cons r2
  obtain ⟨rfl, rfl, rfl⟩ := trodAll_nil r3
  obtain rfl : args = #[v0, v1, v2, v3] := by cases args; simp_all
  obtain ⟨rfl, rfl⟩ := trodVars_none hV
  have k0 := h0
  have lt0 : ∀ x ∈ p0, x.block < W.heap.size := by obtain ⟨m, hm⟩ := k0; exact DataW.trod_lt m _ _ _ hm
  obtain ⟨ph0, fl0, of0, nx0, A_rs0, c_rs0, rs0, A_pd0, c_pd0, pd0, A_wd0, c_wd0, wd0, mk0, lg0, rfl, hr0, hx0, hrs0, hc0, ⟨h_rs0, k_rs0⟩, ⟨h_pd0, k_pd0⟩, h_wd0, k_wd0⟩ := open_st22 (hval 0 28 v0 rfl rfl) h0
  have k1 := h1
  have lt1 : ∀ x ∈ p1, x.block < W.heap.size := by obtain ⟨m, hm⟩ := k1; exact DataW.trod_lt m _ _ _ hm
  obtain ⟨ph1, fl1, of1, nx1, A_rs1, c_rs1, rs1, A_pd1, c_pd1, pd1, A_wd1, c_wd1, wd1, mk1, lg1, rfl, hr1, hx1, hrs1, hc1, ⟨h_rs1, k_rs1⟩, ⟨h_pd1, k_pd1⟩, h_wd1, k_wd1⟩ := open_st22 (hval 1 28 v1 rfl rfl) h1
  obtain ⟨a2, len2, cap2, rfl⟩ := okWide_slice Tryd.underlying23 (hval 2 23 v2 rfl rfl)
  have k2 := h2
  have lt2 : ∀ x ∈ p2, x.block < W.heap.size := by obtain ⟨m, hm⟩ := k2; exact DataW.trod_lt m _ _ _ hm
  have y2 : len2 * 1 ≤ 140737488351232 := row_size hsz (j := 2) (t := 23) rfl rfl Tryd.underlying23 Tryd.underlying5 (by kernel_rfl) (by kernel_rfl) h2
  obtain ⟨l2, rfl, c2, z2⟩ := row_bytes Tryd.underlying23 Tryd.underlying5 (by kernel_rfl) h2
  obtain ⟨a3, rfl, rfl, rfl, w3⟩ := open_int Tryd.underlying3 (hval 3 3 v3 rfl rfl) h3
  clear hA0 hval0 hsz0 hsz
  have hp := hp_snap W
  refine (law_ProgTells _ _ _ ph0 fl0 of0 nx0 A_rs0 c_rs0 rs0 A_pd0 c_pd0 pd0 A_wd0 c_wd0 wd0 mk0 lg0 ph1 fl1 of1 nx1 A_rs1 c_rs1 rs1 A_pd1 c_pd1 pd1 A_wd1 c_wd1 wd1 mk1 lg1 a2 cap2 l2 a3 hp h_rs0 k_rs0 h_pd0 k_pd0 h_wd0 k_wd0 h_rs1 k_rs1 h_pd1 k_pd1 h_wd1 k_wd1 z2 c2 hr0 hrs0 hc0 (int_lt w3) hpow).mono fun e W' ⟨v, he, I', hv, hle, hp⟩ => ?_
  subst he hv
  have bel := hp.toBelow hle
  exact ⟨_, rfl, _, _, _, [], _, [], hW', trodAll_mk1 (shut_bool Tryd.underlying4 _), (trodAll_cons_mk (Below.trod laidOut (by kernel_rfl) (of_decide_eq_true (by kernel_rfl)) k0 bel lt0) (trodAll_cons_mk (Below.trod laidOut (by kernel_rfl) (of_decide_eq_true (by kernel_rfl)) k1 bel lt1) (trodAll_cons_mk (Below.trod laidOut (by kernel_rfl) (of_decide_eq_true (by kernel_rfl)) k2 bel lt2) (trodAll_cons_mk (shut_int Tryd.underlying3 w3) trodAll_mk0)))), rfl, bel.frame _, fun h => by cases h⟩
theorem over : Rows.progTellsRow.holds Tryd.pinned (OpenSpec.ofChange Rows.progTellsSpec) :=
  OpenClaim.holds_of_wide 5 Tryd.f5 rfl rfl rfl rfl rfl rfl rfl ⟨rfl, rfl, rfl, rfl, rfl⟩ rfl rfl rfl rfl rfl (by kernel_rfl) Tryd.func5 (by kernel_rfl)
    (of_decide_eq_true (by kernel_rfl)) (by unfold Func.isWrapper; first | (rw [if_pos (by decide +kernel)]; kernel_rfl) | (rw [if_neg (by decide +kernel)]; exact ⟨rfl, rfl⟩))
    (fun os started H enc _ => lifted os started H enc)
end Go.Proofs.YtndaogkpgoimlaaDoor.progTells
namespace Go.Proofs.YtndaogkpgoimlaaDoor
/-- The given statement: the tied card. -/
theorem progTells_holds : Rows.ProgTellsCardSaid :=
  Claim7.holds_tied_plain_at .later [] [.data, .data, .data] true (true, "6c3499f8dcfb7a9d56819d098bff8783b93a2503e2617058b1d6629c0dc3dc6d") false
    progTells.over (fun _ h => by cases h) (by kernel_rfl) (fun _ h => by cases h) progTells_row_tie rfl ⟨rfl, rfl⟩ (by kernel_rfl) rfl
    (fun f fn hf hfn => by
      obtain rfl : f = 5 := Option.some.inj ((show Tryd.prog.funcNamed "mantelet/manteletlaw22.ProgTells" = some 5 by kernel_rfl).symm.trans hf) |>.symm
      obtain rfl : fn = Tryd.f5 := (Option.some.inj (Tryd.func5.symm.trans hfn)).symm
      refine ⟨by kernel_rfl, fun j t ht => ?_⟩
      have h0 : (Tryd.f5.params.toList.all fun t => !Tryd.prog.wantsStandIn t) = true := by kernel_rfl
      have h1 := List.all_eq_true.1 h0 t (by simpa using Array.mem_of_getElem? ht)
      exact (by simpa using h1 : Tryd.prog.wantsStandIn t = false))
    (by kernel_rfl)
end Go.Proofs.YtndaogkpgoimlaaDoor
#print axioms Go.Proofs.YtndaogkpgoimlaaDoor.progTells_holds

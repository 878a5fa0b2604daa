/- Proves: any state is put as the document says, and any bytes are read as the document says, or refused by both; for every input, without conditions. The proof runs over the translated program: each function's walk is in the texts B.., what each computes in the texts S... -/
import Derived.Test.YtndaogkpgoimlaaRows
import Derived.Test.YtndaogkpgoimlaaB7
import Derived.Test.YtndaogkpgoimlaaR1
import Derived.Test.YtndaogkpgoimlaaChecked
import Derived.KernelRfl
import Derived.Lib.SmallJoins
namespace Go.Proofs.Ytndaogkpgoimlaa.tokenStates
open Go Go.RowKit Go.ChangeShapes Go.WideShapes Go.ChangeAt K
set_option linter.unusedVariables false
theorem own : ownKnob Try.prog.godebug = none := by kernel_rfl
theorem laidOut : laidOutB Try.prog = true := by kernel_rfl

set_option maxRecDepth 100000 in
theorem lifted (os : Os) (started : os.Started) (H : Type) (enc : TypeId × Value → H) :
    ReturnsInHanded {} Try.checked os 3 .any (Rows.tokenStatesSpec.pre6 enc Try.prog Try.f3 Rows.tokenStatesRow.domain false) (Rows.tokenStatesSpec.post enc Try.prog Try.f3 false true false false) := by
  refine returnsInHanded_of_change_sized (C := Try.checked) own started (by kernel_rfl) Try.func3
    (ChangeSpec.witness6 (enc := enc) (C := Try.checked) false ⟨#[], #[.agg #[.slice none 0 0, .slice none 0 0, .bool false, .bool false], .slice none 0 0], []⟩ 8 (by kernel_rfl) (by kernel_rfl) (by kernel_rfl) (by kernel_rfl)) ?_
  intro W base args ds gs before hval0 hW hcnd hsz0 _
  have hsz : (DataW.weightsEach Try.prog (Try.f3.params.toList ++ Rows.tokenStatesSpec.plain.varTypes Try.prog) (ds ++ gs)).all (· ≤ reachBytes) = true := hsz0
  have hval : ∀ (j : Nat) t v, Try.f3.params[j]? = some t → args[j]? = some v → Value.okWide Try.prog W .any base t v := hval0
  have hW' := hW
  obtain ⟨p, q, hA0, hV, rfl, hfz, hnd⟩ := hW
  have hA : DataW.TrodAll enc Try.prog W 0 (fun _ => true) true Try.f3.params.toList args.toList ds p := hA0
  rw [Try.params3] at hA hval hsz
  obtain ⟨v0, vs0, d0, ds0, p0, q0, hargs, rfl, rfl, h0, r0⟩ := trodAll_cons hA
  obtain ⟨v1, vs1, d1, ds1, p1, q1, rfl, rfl, rfl, h1, r1⟩ := trodAll_cons r0
  obtain ⟨rfl, rfl, rfl⟩ := trodAll_nil r1
  obtain rfl : args = #[v0, v1] := by cases args; simp_all
  obtain ⟨rfl, rfl⟩ := trodVars_none hV
  have k0 := h0
  have lt0 : ∀ x ∈ p0, x.block < W.heap.size := by obtain ⟨m, hm⟩ := k0; exact DataW.trod_lt m _ _ _ hm
  obtain ⟨e0, f0, g0, j0, ya0, yb0, yc0, yd0, m0, rfl, rfl, hp0, ha0, hb0, hc0, hd0⟩ := Joins.open_agg4 Try.underlying25 (by kernel_rfl) (by kernel_rfl) (hval 0 25 v0 rfl rfl) h0
  obtain ⟨A0, cp0, pd0, rfl, kp0, zp0⟩ := cell_bytes Try.underlying22 Try.underlying5 (by kernel_rfl) ha0
  obtain ⟨B0, cw0, wd0, rfl, kw0, zw0, ww0⟩ := cell_runes Try.underlying23 Try.underlying21 (by kernel_rfl) hb0
  obtain ⟨mk0, em0, _⟩ := DataW.trod_bool Try.underlying4 hc0
  injection em0 with em0
  subst em0
  obtain ⟨lg0, el0, _⟩ := DataW.trod_bool Try.underlying4 hd0
  injection el0 with el0
  subst el0
  obtain ⟨a1, len1, cap1, rfl⟩ := okWide_slice Try.underlying22 (hval 1 22 v1 rfl rfl)
  have k1 := h1
  have lt1 : ∀ x ∈ p1, x.block < W.heap.size := by obtain ⟨m, hm⟩ := k1; exact DataW.trod_lt m _ _ _ hm
  have y1 : len1 * 1 ≤ 140737488351232 := row_size hsz (j := 1) (t := 22) rfl rfl Try.underlying22 Try.underlying5 (by kernel_rfl) (by kernel_rfl) h1
  obtain ⟨l1, rfl, c1, z1⟩ := row_bytes Try.underlying22 Try.underlying5 (by kernel_rfl) h1
  clear hA0 hval0 hsz0 hsz
  refine (law_TokenStates _ _ _ A0 cp0 pd0 B0 cw0 wd0 mk0 lg0 a1 cap1 l1 (hp_snap W) zp0 kp0 zw0 kw0 z1 c1 (by omega) (fun c hc => by have := ww0 c hc; omega)).mono fun e W' ⟨v, he, I', hv, hle, hp⟩ => ?_
  subst he hv
  have bel := hp.toBelow hle
  exact ⟨_, rfl, _, _, _, [], _, [], hW', trodAll_mk1 (shut_bool Try.underlying4 _), (trodAll_cons_mk (Below.trod laidOut (by kernel_rfl) (of_decide_eq_true (by kernel_rfl)) k0 bel lt0) (trodAll_cons_mk (Below.trod laidOut (by kernel_rfl) (of_decide_eq_true (by kernel_rfl)) k1 bel lt1) trodAll_mk0)), rfl, bel.frame _, fun h => by cases h⟩
theorem over : Rows.tokenStatesRow.holds Try.pinned (OpenSpec.ofChange Rows.tokenStatesSpec) :=
  OpenClaim.holds_of_wide 3 Try.f3 rfl rfl rfl rfl rfl rfl rfl ⟨rfl, rfl, rfl, rfl, rfl⟩ rfl rfl rfl rfl rfl (by kernel_rfl) Try.func3 (by kernel_rfl)
    (of_decide_eq_true (by kernel_rfl)) (by unfold Func.isWrapper; first | (rw [if_pos (by decide +kernel)]; kernel_rfl) | (rw [if_neg (by decide +kernel)]; exact ⟨rfl, rfl⟩))
    (fun os started H enc _ => lifted os started H enc)
end Go.Proofs.Ytndaogkpgoimlaa.tokenStates
namespace Go.Proofs.Ytndaogkpgoimlaa
/-- The given statement. -/
theorem tokenStates_holds : Rows.TokenStatesSaid := tokenStates.over
end Go.Proofs.Ytndaogkpgoimlaa
#print axioms Go.Proofs.Ytndaogkpgoimlaa.tokenStates_holds

/- More of a row's reading: slices of ints, numbers, structs' fields. Holds for every program of the model; no condition. -/
import Derived.Test.YtndaogkpgoimlaaDoorR1
import Derived.Lib.SmallJoins
namespace Go.Proofs.YtndaogkpgoimlaaDoor.K
open Go Go.RowKit Go.ChangeShapes Go.WideShapes
set_option linter.unusedVariables false
set_option linter.unusedSimpArgs false
section
variable {H : Type} {enc : TypeId × Value → H} {P : Program} {W : World} {held : Bool} {t e : TypeId} {d : DataW H} {ps : List MemPlace}
theorem cell_ints {n : Nat} {v : Value} {y : DataW H × List MemPlace} (hu : P.underlying t = some (.slice e)) (he : P.underlying e = some (.int .i64)) (hc : P.cellsOf e = 1) (h : DataW.trod enc P W 0 (fun _ => true) held n t [v] = some y) :
    ∃ (A : Option Addr) (cap : Nat) (l : List Int), v = .slice A l.length cap ∧ l.length ≤ cap ∧ Fz (snap W) A (l.map i64v) ∧ ∀ c ∈ l, -9223372036854775808 ≤ c ∧ c ≤ 9223372036854775807 := by
  rcases open_ints hu he hc h with ⟨hcs, _⟩ | ⟨x, l, c, zs, hcs, _, hl, hm, hz, _, hcell, hwz⟩
  · injection hcs with hcs
    exact ⟨none, 0, [], hcs, Nat.le_refl _, Fz.nil _ _, fun c h => by cases h⟩
  · injection hcs with hcs
    simp at hz
    refine ⟨some x, c, zs.take l, by rw [hcs]; simp; omega, by simp; omega, take_cells l hcell, fun c hc => ?_⟩
    have := hwz c (List.mem_of_mem_take hc)
    simp [Lit.wf, IntKind.min, IntKind.max, IntKind.signed, IntKind.bits] at this
    omega
theorem cell_int {n : Nat} {v : Value} {y : DataW H × List MemPlace} (hu : P.underlying t = some (.int .i64)) (h : DataW.trod enc P W 0 (fun _ => true) held n t [v] = some y) : ∃ x : Int, v = .int .i64 x ∧ -9223372036854775808 ≤ x ∧ x ≤ 9223372036854775807 := by
  obtain ⟨x, hx, _, hw⟩ := DataW.trod_int hu h
  injection hx with hx
  simp [Lit.wf, IntKind.min, IntKind.max, IntKind.signed, IntKind.bits] at hw
  exact ⟨x, hx, by omega, by omega⟩
theorem cell_bool {n : Nat} {v : Value} {y : DataW H × List MemPlace} (hu : P.underlying t = some .bool) (h : DataW.trod enc P W 0 (fun _ => true) held n t [v] = some y) : ∃ x : Bool, v = .bool x := by
  obtain ⟨x, hx, _⟩ := DataW.trod_bool hu h
  injection hx with hx
  exact ⟨x, hx⟩
/-- A struct's field. -/
theorem field_at {n : Nat} {fs : Array Field} {cs : List Value} {y : DataW H × List MemPlace} (hu : P.underlying t = some (.struct fs)) (h : DataW.trod enc P W 0 (fun _ => true) held n t cs = some y) (i : Nat) {f : Field} (hf : fs[i]? = some f) {k o : Nat} (ho : f.offset = o) (hk : P.cellsOf f.type = k) :
    ∃ m z, DataW.trod enc P W 0 (fun _ => true) held m f.type ((cs.drop o).take k) = some z := by
  subst ho hk
  obtain ⟨xs, m, _, rfl, hl, hlen, hall⟩ := DataW.trod_struct hu h
  have hi := (Array.getElem?_eq_some_iff.1 hf).1
  have hx : i < xs.length := by simpa [hlen] using hi
  exact ⟨m, _, by simpa [hx] using hall i f hf⟩
theorem array9 {α : Type} {cs : Array α} (h : cs.size = 9) : ∃ a b c d e f g i j, cs = #[a, b, c, d, e, f, g, i, j] := by
  rcases cs with ⟨l⟩
  rcases l with _ | ⟨a, _ | ⟨b, _ | ⟨c, _ | ⟨d, _ | ⟨e, _ | ⟨f, _ | ⟨g, _ | ⟨i, _ | ⟨j, _ | ⟨k, l⟩⟩⟩⟩⟩⟩⟩⟩⟩⟩ <;> simp at h
  exact ⟨a, b, c, d, e, f, g, i, j, rfl⟩
end
end Go.Proofs.YtndaogkpgoimlaaDoor.K

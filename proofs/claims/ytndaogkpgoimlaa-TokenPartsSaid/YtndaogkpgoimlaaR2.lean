/- From a row's reading of a slice of slices of bytes to what the walks take up. Holds for every program of the model; no condition. -/
import Derived.Test.YtndaogkpgoimlaaR1
import Derived.Test.YtndaogkpgoimlaaS13
namespace Go.Proofs.Ytndaogkpgoimlaa
open Go Go.RowKit Go.ChangeShapes Go.WideShapes K
set_option linter.unusedVariables false
theorem list_of {α : Type} {Q : Nat → α → Prop} : ∀ (len : Nat), (∀ i, i < len → ∃ x, Q i x) → ∃ cs : List α, cs.length = len ∧ ∀ i x, cs[i]? = some x → Q i x
  | 0, _ => ⟨[], rfl, fun i x h => by simp at h⟩
  | len + 1, h => by
    obtain ⟨cs, h1, h2⟩ := list_of len fun i hi => h i (by omega)
    obtain ⟨x, hx⟩ := h len (by omega)
    refine ⟨cs ++ [x], by simp [h1], fun i y hy => ?_⟩
    by_cases hi : i < cs.length
    · rw [List.getElem?_append_left hi] at hy; exact h2 i y hy
    · have hlt := (List.getElem?_eq_some_iff.1 hy).1
      simp at hlt
      obtain rfl : i = len := by omega
      rw [List.getElem?_append_right (by omega), h1] at hy
      simp at hy; subst hy; exact hx
section
variable {H : Type} {enc : TypeId × Value → H} {P : Program} {W : World} {held : Bool} {t e e2 : TypeId} {d : DataW H} {ps : List MemPlace}
theorem cells_bytes {n : Nat} {cs : List Value} {y : DataW H × List MemPlace} (hu : P.underlying t = some (.slice e)) (he : P.underlying e = some (.int .u8)) (hc : P.cellsOf e = 1) (h : DataW.trod enc P W 0 (fun _ => true) held n t cs = some y) :
    ∃ x : Chk, cs = [chk x] ∧ Fz (snap W) x.A (x.l.map b8) ∧ x.l.length ≤ x.c := by
  rcases open_ints hu he hc h with ⟨hcs, _⟩ | ⟨x, l, c, zs, hcs, _, hl, hm, hz, _, hcell, hwz⟩
  · exact ⟨⟨none, 0, []⟩, hcs, Fz.nil _ _, Nat.le_refl _⟩
  · simp at hz
    refine ⟨⟨some x, c, bytesOf (zs.take l)⟩, by rw [hcs]; simp [chk, bytesOf]; omega, ?_, by simp [bytesOf]; omega⟩
    show Fz (snap W) (some x) ((bytesOf (zs.take l)).map b8)
    rw [bytesOf_map fun n hn => hwz n (List.mem_of_mem_take hn)]
    exact take_cells l hcell
theorem row_mat {A : Option Addr} {len cap : Nat} (hu : P.underlying t = some (.slice e)) (h1 : P.cellsOf e = 1) (hu2 : P.underlying e = some (.slice e2)) (he : P.underlying e2 = some (.int .u8)) (hc : P.cellsOf e2 = 1) (h : DataW.Trod enc P W 0 (fun _ => true) held t (.slice A len cap) d ps) :
    ∃ cs : List Chk, len = cs.length ∧ cs.length ≤ cap ∧ Fz (snap W) A (cs.map chk) ∧ ∀ x ∈ cs, Fz (snap W) x.A (x.l.map b8) ∧ x.l.length ≤ x.c := by
  obtain ⟨fuel, hf⟩ := h
  rcases DataW.trod_slice hu hf with ⟨hcs, _⟩ | ⟨a, l, c, elems, rest, n, _, hcs, _, hb, hl, hm, hlen, hel, _, _⟩
  · simp [Value.cells] at hcs
    obtain ⟨rfl, rfl, rfl⟩ := hcs
    exact ⟨[], rfl, Nat.le_refl _, Fz.nil _ _, fun x hx => by cases hx⟩
  · simp [Value.cells] at hcs
    obtain ⟨rfl, rfl, rfl⟩ := hcs
    obtain ⟨cs, hn, hq⟩ := list_of (Q := fun i x => W.cell? (a.add i) = some (chk x) ∧ Fz (snap W) x.A (x.l.map b8) ∧ x.l.length ≤ x.c) len fun i hi => by
      have := hel i hi
      rw [h1, Nat.mul_one, List.getElem?_eq_getElem (by omega), Option.bind_eq_some_iff] at this
      obtain ⟨vs, hvs, hy⟩ := this
      obtain ⟨x, rfl, hx1, hx2⟩ := cells_bytes hu2 he hc hy
      exact ⟨x, cell_of_cells?_one hvs, hx1, hx2⟩
    refine ⟨cs, hn.symm, by omega, Fz.of fun j v hj => ?_, fun x hx => ?_⟩
    · rw [List.getElem?_map] at hj
      obtain ⟨x, hx, rfl⟩ := Option.map_eq_some_iff.1 hj
      exact (hq j x hx).1
    · obtain ⟨i, hi⟩ := List.getElem?_of_mem hx
      exact (hq i x hi).2
end
end Go.Proofs.Ytndaogkpgoimlaa

/- From a row's reading to what the walks take up, and back. Holds for every program of the model; no condition. -/
import Derived.Test.YtndaogkpgoimlaaDoorK7
import Derived.ProofKit
import Derived.OpenShut
import Derived.ShutString
import Derived.ChangeOld
import Derived.Below
import Derived.SizedLaws
namespace Go.Proofs.YtndaogkpgoimlaaDoor.K
open Go Go.RowKit Go.ChangeShapes Go.WideShapes
set_option linter.unusedVariables false
set_option linter.unusedSimpArgs false
/-- All that the memory holds at the start, nobody's to change. -/
def snap (w : World) : Snap := ⟨w.os, w.tape, w.output, fun b => w.heap[b]?⟩
theorem hp_snap (w : World) : Hp (snap w) [] w := ⟨rfl, rfl, rfl, fun _ _ h => h, (fun _ h => by cases h), List.Pairwise.nil, (fun _ h => by cases h)⟩
theorem Hp.toBelow {I : Snap} {L : List Ch} {w w' : World} (h : Hp I L w') (hle : (snap w).le I) : Below w.heap.size w w' := by
  have hb : ∀ k, k < w.heap.size → w'.heap[k]? = w.heap[k]? := fun k hk => by
    have h1 : w.heap[k]? = some w.heap[k] := Array.getElem?_eq_getElem hk
    rw [h1]; exact h.imm k _ (hle.blk k _ h1)
  refine ⟨h.os.trans hle.os, h.tape.trans hle.tape, h.output.trans hle.output, ?_, hb⟩
  rcases Nat.lt_or_ge w'.heap.size w.heap.size with hlt | hge
  · have := hb w'.heap.size hlt
    rw [Array.getElem?_eq_none (Nat.le_refl _), Array.getElem?_eq_getElem hlt] at this; cases this
  · exact hge
theorem Fz.of {w : World} {x : Addr} {cs : List Value} (h : ∀ j v, cs[j]? = some v → w.cell? (x.add j) = some v) : Fz (snap w) (some x) cs := fun j v hj => by
  have hsp : x.spot = none := by
    have hlen := (List.getElem?_eq_some_iff.1 hj).1
    have h0 := h 0 _ (List.getElem?_eq_getElem (by omega : 0 < cs.length))
    unfold World.cell? at h0
    simp only [Addr.add, if_pos] at h0
    split at h0
    · split at h0
      · cases h0
      · rename_i hn; simpa using hn
    · cases h0
  have hj' := h j v hj
  obtain ⟨b, o, sp⟩ := x
  simp only at hsp; subst hsp
  unfold World.cell? at hj'
  split at hj'
  · rename_i c t f hh
    split at hj'
    · cases hj'
    · refine ⟨b, o, c, t, f, rfl, ?_, ?_⟩
      · have e : (Addr.add ⟨b, o, none⟩ j).block = b := by unfold Addr.add; split <;> rfl
        rw [e] at hh; exact hh
      · have e : (Addr.add ⟨b, o, none⟩ j).off = o + j := by unfold Addr.add; split <;> simp_all
        rw [e] at hj'; exact hj'
  · cases hj'
def bytesOf (zs : List Int) : List UInt8 := zs.map fun z => UInt8.ofNat z.toNat
theorem bytesOf_map {zs : List Int} (h : ∀ n ∈ zs, (Lit.int .u8 n).wf = true) : (bytesOf zs).map b8 = zs.map fun z => .int .u8 z := by
  rw [bytesOf, List.map_map]
  apply List.map_congr_left
  intro z hz
  have := h z hz
  simp [Lit.wf, IntKind.min, IntKind.max, IntKind.signed, IntKind.bits] at this
  simp [b8]; omega
theorem take_cells {k : IntKind} {w : World} {x : Addr} {zs : List Int} (len : Nat) (hcell : ∀ i, i < zs.length → w.cell? (x.add i) = some (.int k (zs.getD i 0))) : Fz (snap w) (some x) ((zs.take len).map fun z => .int k z) := Fz.of fun j v hj => by
  rw [List.getElem?_map] at hj
  obtain ⟨z, hz, rfl⟩ := Option.map_eq_some_iff.1 hj
  have hz2 : zs[j]? = some z := by
    rw [List.getElem?_take] at hz
    split at hz
    · exact hz
    · cases hz
  have hlt := (List.getElem?_eq_some_iff.1 hz2).1
  rw [hcell j hlt, List.getD, hz2]; rfl
section
variable {H : Type} {enc : TypeId × Value → H} {P : Program} {W : World} {held : Bool} {t e : TypeId} {d : DataW H} {ps : List MemPlace}
/-- A slice of bytes that a row reads. -/
theorem row_bytes {A : Option Addr} {len cap : Nat} (hu : P.underlying t = some (.slice e)) (he : P.underlying e = some (.int .u8)) (hc : P.cellsOf e = 1) (h : DataW.Trod enc P W 0 (fun _ => true) held t (.slice A len cap) d ps) :
    ∃ l : List UInt8, len = l.length ∧ l.length ≤ cap ∧ Fz (snap W) A (l.map b8) := by
  obtain ⟨fuel, hf⟩ := h
  rcases open_ints hu he hc hf with ⟨hcs, _⟩ | ⟨x, l, c, zs, hcs, _, hl, hm, hz, _, hcell, hwz⟩
  · simp [Value.cells] at hcs
    obtain ⟨rfl, rfl, rfl⟩ := hcs
    exact ⟨[], rfl, Nat.le_refl _, Fz.nil _ _⟩
  · simp [Value.cells] at hcs
    obtain ⟨rfl, rfl, rfl⟩ := hcs
    simp at hz
    refine ⟨bytesOf (zs.take len), by simp [bytesOf]; omega, by simp [bytesOf]; omega, ?_⟩
    rw [bytesOf_map fun n hn => hwz n (List.mem_of_mem_take hn)]
    exact take_cells len hcell
/-- A slice of runes that a row reads. -/
theorem row_runes {A : Option Addr} {len cap : Nat} (hu : P.underlying t = some (.slice e)) (he : P.underlying e = some (.int .i32)) (hc : P.cellsOf e = 1) (h : DataW.Trod enc P W 0 (fun _ => true) held t (.slice A len cap) d ps) :
    ∃ l : List Int, len = l.length ∧ l.length ≤ cap ∧ Fz (snap W) A (l.map r32) ∧ ∀ c ∈ l, -2147483648 ≤ c ∧ c ≤ 2147483647 := by
  obtain ⟨fuel, hf⟩ := h
  rcases open_ints hu he hc hf with ⟨hcs, _⟩ | ⟨x, l, c, zs, hcs, _, hl, hm, hz, _, hcell, hwz⟩
  · simp [Value.cells] at hcs
    obtain ⟨rfl, rfl, rfl⟩ := hcs
    exact ⟨[], rfl, Nat.le_refl _, Fz.nil _ _, fun c h => by cases h⟩
  · simp [Value.cells] at hcs
    obtain ⟨rfl, rfl, rfl⟩ := hcs
    simp at hz
    refine ⟨zs.take len, by simp; omega, by simp; omega, take_cells len hcell, fun c hc => ?_⟩
    have := hwz c (List.mem_of_mem_take hc)
    simp [Lit.wf, IntKind.min, IntKind.max, IntKind.signed, IntKind.bits] at this
    omega
/-- The same of a struct's field. -/
theorem cell_bytes {n : Nat} {v : Value} {y : DataW H × List MemPlace} (hu : P.underlying t = some (.slice e)) (he : P.underlying e = some (.int .u8)) (hc : P.cellsOf e = 1) (h : DataW.trod enc P W 0 (fun _ => true) held n t [v] = some y) :
    ∃ (A : Option Addr) (cap : Nat) (l : List UInt8), v = .slice A l.length cap ∧ l.length ≤ cap ∧ Fz (snap W) A (l.map b8) := by
  rcases open_ints hu he hc h with ⟨hcs, _⟩ | ⟨x, l, c, zs, hcs, _, hl, hm, hz, _, hcell, hwz⟩
  · injection hcs with hcs
    exact ⟨none, 0, [], hcs, Nat.le_refl _, Fz.nil _ _⟩
  · injection hcs with hcs
    simp at hz
    refine ⟨some x, c, bytesOf (zs.take l), by rw [hcs]; simp [bytesOf]; omega, by simp [bytesOf]; omega, ?_⟩
    rw [bytesOf_map fun n hn => hwz n (List.mem_of_mem_take hn)]
    exact take_cells l hcell
theorem cell_runes {n : Nat} {v : Value} {y : DataW H × List MemPlace} (hu : P.underlying t = some (.slice e)) (he : P.underlying e = some (.int .i32)) (hc : P.cellsOf e = 1) (h : DataW.trod enc P W 0 (fun _ => true) held n t [v] = some y) :
    ∃ (A : Option Addr) (cap : Nat) (l : List Int), v = .slice A l.length cap ∧ l.length ≤ cap ∧ Fz (snap W) A (l.map r32) ∧ ∀ c ∈ l, -2147483648 ≤ c ∧ c ≤ 2147483647 := by
  rcases open_ints hu he hc h with ⟨hcs, _⟩ | ⟨x, l, c, zs, hcs, _, hl, hm, hz, _, hcell, hwz⟩
  · injection hcs with hcs
    exact ⟨none, 0, [], hcs, Nat.le_refl _, Fz.nil _ _, fun c h => by cases h⟩
  · injection hcs with hcs
    simp at hz
    refine ⟨some x, c, zs.take l, by rw [hcs]; simp; omega, by simp; omega, take_cells l hcell, fun c hc => ?_⟩
    have := hwz c (List.mem_of_mem_take hc)
    simp [Lit.wf, IntKind.min, IntKind.max, IntKind.signed, IntKind.bits] at this
    omega
/-- It is no longer than its weight allows. -/
theorem row_size {k : IntKind} {A : Option Addr} {len cap j : Nat} {ts : List TypeId} {ds : List (DataW H)} {B : Nat} (hsz : (DataW.weightsEach P ts ds).all (· ≤ reachBytes) = true) (ht : ts[j]? = some t) (hd : ds[j]? = some d) (hu : P.underlying t = some (.slice e)) (he : P.underlying e = some (.int k)) (hc : P.cellsOf e = 1)
    (hB : P.bytesOf e = B) (h : DataW.Trod enc P W 0 (fun _ => true) held t (.slice A len cap) d ps) : len * B ≤ 140737488351232 := by
  obtain ⟨fuel, hf⟩ := h
  rcases open_ints hu he hc hf with ⟨hcs, _⟩ | ⟨x, l, c, zs, hcs, _, hl, _, hz, hx, _, _⟩
  · simp [Value.cells] at hcs
    obtain ⟨rfl, rfl, rfl⟩ := hcs
    simp
  · simp [Value.cells] at hcs
    obtain ⟨rfl, rfl, rfl⟩ := hcs
    obtain ⟨hx, _⟩ := Prod.mk.inj hx
    subst hx
    have z := sized_slice hsz ht hd hu
    rw [hB] at z
    simp at hz
    have h1 : (lits (H := H) k (zs.take len)).length + (lits (H := H) k (zs.drop len)).length = zs.length := by
      simp [lits]; omega
    rw [h1] at z
    exact Nat.le_trans (Nat.mul_le_mul_right _ (by omega)) z
end
end Go.Proofs.YtndaogkpgoimlaaDoor.K

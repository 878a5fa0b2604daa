/- Rules for arrays, new slices, strings' slices. Holds for every program of the model; no condition. -/
import Derived.Test.YtndaogkpgoimlaaDoorK7
namespace Go.Proofs.YtndaogkpgoimlaaDoor.K
open Go Go.RowKit
set_option linter.unusedVariables false
set_option linter.unusedSimpArgs false
section
variable {P : Program} {ops : Array Oper} {Q : Exit → Act → World → Prop} {rest : List Oper} {a : Act} {W : World} {n : Nat} {E : List (Nat × Value)} {I : Snap} {L : List Ch}
  {d : Nat} {dd : Option Nat} {ty : TypeId} {pos : String} {af : Array Edge} {v x y z : Value} {s t u : Operand} {T T' e : TypeId} {A : Option Addr} {c bt sz m : Nat}
theorem szTI {w : World} (hi : TI P T z sz bt) : (sizeOf T).run P w = .ok sz w := by
  obtain ⟨i, h1, h2, h3, h4⟩ := hi.get
  simp [sizeOf, typeInfo, h1, h3]
/-- An element of an array that is a value. -/
theorem ixa {vs : List Value} (i : Nat) (hT : P.underlying T = some (.array m e)) (hS : isRowB P e = some false) (hZ : TI P e z 1 bt) (hx : ev E s = some (.agg vs.toArray)) (hy : ev E t = some (.int .i64 i)) (hv : vs[i]? = some v) (hi : i < m) (hd : Nat.blt d n = true) (he : Env n E a)
    (k : ∀ a, Env n ((d, v) :: E) a → wpList P ops Q rest a W) : wpList P ops Q (⟨some d, .index T s t, ty, pos, af, none⟩ :: rest) a W :=
  step_val rfl (by
    have h1 : (0 : Int) ≤ (i : Int) ∧ (i : Int) < (m : Int) := ⟨by omega, by omega⟩
    have h2 : i < vs.length := (List.getElem?_eq_some_iff.1 hv).1
    have h3 : vs[i] = v := (List.getElem?_eq_some_iff.1 hv).2
    simp [execOp, he.ev hx, he.ev hy, Instr.index, asIntOf, run_underlying hT, part, isAgg_run hS, szTI hZ, h1, hi, hv, Result.andThen]) (k _ (he.put hd))
/-- The address of an array's element. -/
theorem iaa {b o : Nat} (i : Nat) (hT : P.underlying T = some (.array m e)) (hZ : TI P e z sz bt) (hx : ev E s = some (.pointer (some ⟨b, o, none⟩))) (hy : ev E t = some (.int .i64 i)) (hi : i < m) (hd : Nat.blt d n = true) (he : Env n E a)
    (k : ∀ a, Env n ((d, .pointer (some ⟨b, o + i * sz, none⟩)) :: E) a → wpList P ops Q rest a W) : wpList P ops Q (⟨some d, .indexAddr T s t, ty, pos, af, none⟩ :: rest) a W :=
  step_val (v := .pointer (some ⟨b, o + i * sz, none⟩)) rfl (by
    have h1 : (0 : Int) ≤ (i : Int) ∧ (i : Int) < (m : Int) := ⟨by omega, by omega⟩
    simp [execOp, he.ev hx, he.ev hy, Instr.indexAt, asIntOf, Instr.sureAddr, run_underlying hT, szTI hZ, h1, hi, Result.andThen, Addr.add_mid]) (k _ (he.put hd))
/-- A new slice of zeros. -/
theorem msl {q : Nat} (hT : TS P T e z sz bt) (hx : ev E s = some (.int .i64 q)) (hy : ev E t = some (.int .i64 q)) (h1 : q * sz ≤ 16777216) (h2 : bt * q ≤ 281474976710656) (hd : Nat.blt d n = true) (he : Env n E a) (hh : Hp I L W)
    (k : ∀ b a W, Env n ((d, .slice (some ⟨b, 0, none⟩) q q) :: E) a → Hp I (.row (some ⟨b, 0, none⟩) q q e sz (madeCells z.cells (q * sz)).toList :: L) W → wpList P ops Q rest a W) :
    wpList P ops Q (⟨some d, .makeSlice T s t, ty, pos, af, none⟩ :: rest) a W := by
  obtain ⟨ie, hie, hz, hs, hbt⟩ := hT.i.get
  have hq : q ≤ maxLen := by
    have := Nat.le_mul_of_pos_right q hT.pos
    simp only [maxLen]; omega
  obtain ⟨w', hr, hown, hg⟩ := run_makeSlice_full (P := P) (w := W) 0 T e ie z sz hT.u hie hz hs .i64 .i64 q h1 (by rw [hbt]; exact h2) hq (Nat.zero_le _)
  refine step_val (v := .slice (some ⟨W.heap.size, 0, none⟩) q q) (W' := w') rfl (by simp [execOp, he.ev hx, he.ev hy, hr]) (k _ _ _ (he.put hd) ?_)
  refine (hh.nilrow e sz).turn (.row (some ⟨W.heap.size, 0, none⟩) q q e sz (madeCells z.cells (q * sz)).toList) hg.os hg.tape hg.output (fun b hb hne => hg.block b hb (by simp)) hown ?_
  intro b hb
  right
  simp [Ch.blk] at hb; omega
/-- s[:h], s[l:] of strings. -/
theorem ssh {q : ByteArray} (h : Nat) (hT : P.underlying T = some .string) (hx : ev E s = some (.string q)) (hy : ev E t = some (.int .i64 h)) (h2 : h ≤ q.size) (hd : Nat.blt d n = true) (he : Env n E a)
    (k : ∀ a, Env n ((d, .string (q.extract 0 h)) :: E) a → wpList P ops Q rest a W) : wpList P ops Q (⟨some d, .slice T s none (some t) none, ty, pos, af, none⟩ :: rest) a W :=
  step_val (v := .string (q.extract 0 h)) rfl (by
    have := run_slice_string_h (P := P) W T q hT .i64 h (by omega) (by omega)
    simp [execOp, he.ev hx, he.ev hy, run_sliceAt_string (P := P) W T _ _ _ _ hT, this]) (k _ (he.put hd))
theorem ssl {q : ByteArray} (l : Nat) (hT : P.underlying T = some .string) (hx : ev E s = some (.string q)) (hy : ev E t = some (.int .i64 l)) (h2 : l ≤ q.size) (hd : Nat.blt d n = true) (he : Env n E a)
    (k : ∀ a, Env n ((d, .string (q.extract l q.size)) :: E) a → wpList P ops Q rest a W) : wpList P ops Q (⟨some d, .slice T s (some t) none none, ty, pos, af, none⟩ :: rest) a W :=
  step_val (v := .string (q.extract l q.size)) rfl (by
    have := run_slice_string_l (P := P) W T q hT .i64 l (by omega) (by omega)
    simp [execOp, he.ev hx, he.ev hy, run_sliceAt_string (P := P) W T _ _ _ _ hT, this]) (k _ (he.put hd))
/-- A pointer that is none of nil, in a drawn region. -/
theorem ahk {S : World → Prop} {listed : Array Bool} {fuel : Nat} {p : Addr} (i : Nat) (hi : ops[i]? = some ⟨some d, .nilCheck s, ty, pos, af, none⟩) (hs : Region.noSelect ops = true) (hf : Region.free .any ops listed i = true) (hr : (Region.ready .any ops listed).contains i = true)
    (hx : ev E s = some (.pointer (some p))) (hd : Nat.blt d n = true) (he : Env n E a) (hS : S W) (k : ∀ a, Env n ((d, .pointer (some p)) :: E) a → wpAnyH P .any ops (Qd Q) S fuel (listed.setIfInBounds i true) a W) :
    wpAnyH P .any ops (Qd Q) S (fuel + 1) listed a W :=
  wpAnyH_take (v := .pointer (some p)) hi hs hf hr (fun c a w h => by cases h.1) (.inl ⟨by simp [Region.wanted], fun w _ => by simp [execOp, he.ev hx]⟩) hS (k _ (he.put hd))
end
end Go.Proofs.YtndaogkpgoimlaaDoor.K

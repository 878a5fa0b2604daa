/- Rules for slices as lists, and arithmetic's small words. Holds for every program of the model; no condition. -/
import Derived.Test.YtndaogkpgoimlaaDoorK4
namespace Go.Proofs.YtndaogkpgoimlaaDoor.K
open Go Go.RowKit
set_option linter.unusedVariables false
set_option linter.unusedSimpArgs false

/-! ### Numbers that fit their kind -/
theorem w64 {x r : Int} (h : -9223372036854775808 ≤ x ∧ x < 9223372036854775808) (e : x = r) : IntKind.i64.wrap x = r := by
  subst e; unfold IntKind.wrap; simp [IntKind.bits, IntKind.signed]; omega
theorem w32 {x r : Int} (h : -2147483648 ≤ x ∧ x < 2147483648) (e : x = r) : IntKind.i32.wrap x = r := by
  subst e; unfold IntKind.wrap; simp [IntKind.bits, IntKind.signed]; omega
theorem wu64 {x r : Int} (h : 0 ≤ x ∧ x < 18446744073709551616) (e : x = r) : IntKind.u64.wrap x = r := by
  subst e; unfold IntKind.wrap; simp [IntKind.bits, IntKind.signed]; omega
theorem wu32 {x r : Int} (h : 0 ≤ x ∧ x < 4294967296) (e : x = r) : IntKind.u32.wrap x = r := by
  subst e; unfold IntKind.wrap; simp [IntKind.bits, IntKind.signed]; omega
theorem wu8 {x r : Int} (h : 0 ≤ x ∧ x < 256) (e : x = r) : IntKind.u8.wrap x = r := by
  subst e; unfold IntKind.wrap; simp [IntKind.bits, IntKind.signed]; omega
theorem wu8_mod (x : Int) : IntKind.u8.wrap x = x % 256 := by unfold IntKind.wrap; simp [IntKind.bits, IntKind.signed]
theorem wu32_mod (x : Int) : IntKind.u32.wrap x = x % 4294967296 := by unfold IntKind.wrap; simp [IntKind.bits, IntKind.signed]
theorem wu64_mod (x : Int) : IntKind.u64.wrap x = x % 18446744073709551616 := by unfold IntKind.wrap; simp [IntKind.bits, IntKind.signed]

/-! ### What is frozen -/
theorem Fz.cut {I A} {cs : List Value} (h : Fz I A cs) (l c sz m : Nat) (hm : cs.length = m * sz) (hc : m ≤ c) : Fz I (if c = l then A else A.map (·.add (l * sz))) (cs.drop (l * sz)) := by
  split
  · rename_i e
    have : cs.drop (l * sz) = [] := List.drop_eq_nil_of_le (by rw [hm]; exact Nat.mul_le_mul_right _ (by omega))
    rw [this]; exact Fz.nil _ _
  · exact h.drop _

/-- The same row, told by another list. -/
theorem Hp.re {I A n n' c e sz} {cs cs' : List Value} {L w} (h : Hp I (.row A n c e sz cs :: L) w) (hn : n = n') (hc : cs = cs') : Hp I (.row A n' c e sz cs' :: L) w := by subst hn hc; exact h
theorem one_map {α : Type} {enc : α → Value} (h : ∀ x, (enc x).oneCell' = true) (l : List α) : ∀ u ∈ l.map enc, u.oneCell' = true := fun u hu => by obtain ⟨x, _, rfl⟩ := List.mem_map.1 hu; exact h x

section
variable {P : Program} {ops : Array Oper} {Q : Exit → Act → World → Prop} {rest : List Oper} {a : Act} {W : World} {n : Nat} {E : List (Nat × Value)} {I : Snap} {L : List Ch}
  {d : Nat} {dd : Option Nat} {ty : TypeId} {pos : String} {af : Array Edge} {v x y z : Value} {s t u : Operand} {T T' e : TypeId} {α : Type} {enc : α → Value} {xs : List α} {A : Option Addr} {c bt : Nat}
/-- xs[l:], xs[:h], xs[l:h] of what is frozen. -/
theorem slo1 (l : Nat) (hT : TS P T e z 1 bt) (hx : ev E s = some (.slice A xs.length c)) (hy : ev E t = some (.int .i64 l)) (hr : Fz I A (xs.map enc)) (hc : xs.length ≤ c) (h1 : l ≤ xs.length) (hd : Nat.blt d n = true) (he : Env n E a)
    (k : ∀ A' c' a, Fz I A' ((xs.drop l).map enc) → (xs.drop l).length ≤ c' → Env n ((d, .slice A' (xs.drop l).length c') :: E) a → wpList P ops Q rest a W) : wpList P ops Q (⟨some d, .slice T s (some t) none none, ty, pos, af, none⟩ :: rest) a W :=
  slo l hT hx hy h1 hd he fun a he => by
    have hf := hr.cut l c 1 xs.length (by simp) hc
    simp only [Nat.mul_one] at hf he
    rw [← List.map_drop] at hf
    refine k _ (c - l) a hf (by simp; omega) ?_
    rw [List.length_drop]; exact he
theorem shi1 (h : Nat) (hT : TS P T e z 1 bt) (hx : ev E s = some (.slice A xs.length c)) (hy : ev E t = some (.int .i64 h)) (hr : Fz I A (xs.map enc)) (hc : xs.length ≤ c) (h1 : h ≤ xs.length) (hd : Nat.blt d n = true) (he : Env n E a)
    (k : ∀ a, Fz I A ((xs.take h).map enc) → (xs.take h).length ≤ c → Env n ((d, .slice A (xs.take h).length c) :: E) a → wpList P ops Q rest a W) : wpList P ops Q (⟨some d, .slice T s none (some t) none, ty, pos, af, none⟩ :: rest) a W :=
  shi h hT hx hy (by omega) hd he fun a he => by
    refine k a (by rw [List.map_take]; exact hr.take h) (by simp; omega) ?_
    rw [List.length_take, Nat.min_eq_left h1]; exact he
theorem slh1 (l h : Nat) (hT : TS P T e z 1 bt) (hx : ev E s = some (.slice A xs.length c)) (hy : ev E t = some (.int .i64 l)) (hz : ev E u = some (.int .i64 h)) (hr : Fz I A (xs.map enc)) (hc : xs.length ≤ c) (h1 : l ≤ h) (h2 : h ≤ xs.length) (hd : Nat.blt d n = true) (he : Env n E a)
    (k : ∀ A' c' a, Fz I A' (((xs.take h).drop l).map enc) → ((xs.take h).drop l).length ≤ c' → Env n ((d, .slice A' ((xs.take h).drop l).length c') :: E) a → wpList P ops Q rest a W) : wpList P ops Q (⟨some d, .slice T s (some t) (some u) none, ty, pos, af, none⟩ :: rest) a W :=
  slh l h hT hx hy hz h1 (by omega) hd he fun a he => by
    have hf := (hr.take h).cut l c 1 h (by simp; omega) (by omega)
    simp only [Nat.mul_one] at hf he
    rw [← List.map_take, ← List.map_drop] at hf
    refine k _ (c - l) a hf (by simp; omega) ?_
    rw [List.length_drop, List.length_take, Nat.min_eq_left h2]; exact he
/-- The address of an element, and what lies there. -/
theorem ia1 {xx : α} (i : Nat) (hT : TS P T e z 1 bt) (hx : ev E s = some (.slice A xs.length c)) (hy : ev E t = some (.int .i64 i)) (hr : Rd W A (xs.map enc)) (hi : xs[i]? = some xx) (hd : Nat.blt d n = true) (he : Env n E a)
    (k : ∀ b o a, W.cell? ⟨b, o, none⟩ = some (enc xx) → Env n ((d, .pointer (some ⟨b, o, none⟩)) :: E) a → wpList P ops Q rest a W) : wpList P ops Q (⟨some d, .indexAddr T s t, ty, pos, af, none⟩ :: rest) a W := by
  have hlt : i < xs.length := (List.getElem?_eq_some_iff.1 hi).1
  have hj : (xs.map enc)[i]? = some (enc xx) := by rw [List.getElem?_map, hi]; rfl
  obtain ⟨b, o, rfl⟩ := hr.adr hj
  refine ia i hT hx hy hlt hd he fun a he => k b (o + i * 1) a ?_ he
  rw [Nat.mul_one]; exact hr.cell hj
theorem idx_some {xs : List α} {i : Nat} (h : i < xs.length) : ∃ x, xs[i]? = some x := ⟨xs[i], List.getElem?_eq_getElem h⟩
end
end Go.Proofs.YtndaogkpgoimlaaDoor.K

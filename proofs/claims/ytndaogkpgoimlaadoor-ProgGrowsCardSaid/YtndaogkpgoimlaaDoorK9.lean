/- Joins: several ways come to one state. Holds for every program of the model; no condition. -/
import Derived.Test.YtndaogkpgoimlaaDoorK8
namespace Go.Proofs.YtndaogkpgoimlaaDoor.K
open Go Go.RowKit
section
variable {P : Program} {ops : Array Oper} {Q : Exit → Act → World → Prop} {a : Act} {W : World} {S : World → Prop} {listed : Array Bool} {fuel : Nat} {l : List Oper}
/-- In a drawn region: all orders come to M, with these listed. -/
theorem jnd (M : Act → World → Prop) (f2 : Nat) (L2 : Array Bool) (h2 : ∀ a W, M a W → wpAnyH P .any ops (Qd Q) S f2 L2 a W)
    (h1 : (∀ a W l, l = L2 → M a W → wpAnyH P .any ops (Qd Q) S f2 l a W) → wpAnyH P .any ops (Qd Q) S fuel listed a W) : wpAnyH P .any ops (Qd Q) S fuel listed a W :=
  h1 fun a W l hl hM => by subst hl; exact h2 a W hM
/-- In the midst of a region: both ways of a guard come to M. -/
theorem jnl (M : Act → World → Prop) (k : Nat) (h2 : ∀ a W, M a W → wpList P ops Q (l.drop k) a W)
    (h1 : (∀ a W, M a W → wpList P ops Q (l.drop k) a W) → wpList P ops Q l a W) : wpList P ops Q l a W := h1 h2
end
theorem ja_t {G X : Bool} (h : G = true) : Value.bool X = .bool (G && X) := by rw [h]; rfl
theorem ja_f {G X : Bool} (h : G = false) : Value.bool false = .bool (G && X) := by rw [h]; rfl
theorem jo_t {G X : Bool} (h : G = true) : Value.bool true = .bool (G || X) := by rw [h]; rfl
theorem jo_f {G X : Bool} (h : G = false) : Value.bool X = .bool (G || X) := by rw [h]; rfl
theorem jad_t {G X : Prop} [Decidable G] [Decidable X] (h : G) : Value.bool (decide X) = .bool (decide (G ∧ X)) := by simp [h]
theorem jad_f {G X : Prop} [Decidable G] [Decidable X] (h : ¬ G) : Value.bool false = .bool (decide (G ∧ X)) := by simp [h]
theorem jod_t {G X : Prop} [Decidable G] [Decidable X] (h : G) : Value.bool true = .bool (decide (G ∨ X)) := by simp [h]
theorem jod_f {G X : Prop} [Decidable G] [Decidable X] (h : ¬ G) : Value.bool (decide X) = .bool (decide (G ∨ X)) := by simp [h]
end Go.Proofs.YtndaogkpgoimlaaDoor.K

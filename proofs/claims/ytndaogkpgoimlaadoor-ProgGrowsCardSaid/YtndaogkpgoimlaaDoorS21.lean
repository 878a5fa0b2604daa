/- Which of two states has come less far: an order; plain laws, no program in sight. -/
import Derived.Test.YtndaogkpgoimlaaDoorS20
namespace Go.Proofs.YtndaogkpgoimlaaDoor
open Go
theorem cmpN_self (x : Int) : cmpN x x = 0 := cmpN_eq.2 rfl
theorem lessL_cons (x y : Int) (xs ys : List Int) : lessL (x :: xs) (y :: ys) = true ↔ x < y ∨ (x = y ∧ lessL xs ys = true) := by
  rw [lessL]
  split
  · rename_i h
    have hne : x ≠ y := fun e => h (cmpN_eq.2 e)
    simp only [decide_eq_true_eq]
    rw [cmpN_lt]; omega
  · rename_i h
    have he : x = y := cmpN_eq.1 (by omega)
    subst he
    constructor
    · intro q; exact .inr ⟨rfl, q⟩
    · rintro (q | ⟨_, q⟩)
      · omega
      · exact q
theorem lessL_nil (ys : List Int) : lessL [] ys = false := by cases ys <;> rfl
theorem lessL_irrefl : ∀ (xs : List Int), lessL xs xs = false
  | [] => rfl
  | x :: xs => by
    cases h : lessL (x :: xs) (x :: xs) with
    | false => rfl
    | true =>
      rcases (lessL_cons _ _ _ _).1 h with q | ⟨_, q⟩
      · omega
      · rw [lessL_irrefl xs] at q; cases q
theorem lessL_trans : ∀ (xs ys zs : List Int), lessL xs ys = true → lessL ys zs = true → lessL xs zs = true
  | [], ys, zs, h, _ => by rw [lessL_nil] at h; cases h
  | x :: xs, [], zs, h, _ => by simp [lessL] at h
  | x :: xs, y :: ys, [], _, h => by simp [lessL] at h
  | x :: xs, y :: ys, z :: zs, h1, h2 => by
    rw [lessL_cons] at h1 h2 ⊢
    rcases h1 with q1 | ⟨rfl, q1⟩ <;> rcases h2 with q2 | ⟨rfl, q2⟩
    · left; omega
    · left; exact q1
    · left; exact q2
    · right; exact ⟨rfl, lessL_trans xs ys zs q1 q2⟩
theorem lessL_asymm (xs ys : List Int) (h : lessL xs ys = true) : lessL ys xs = false := by
  cases h2 : lessL ys xs with
  | false => rfl
  | true => have := lessL_trans _ _ _ h h2; rw [lessL_irrefl] at this; cases this
theorem less_asymm2 (xs ys : List Int) : (!(lessL xs ys && lessL ys xs)) = true := by
  cases h : lessL xs ys with
  | false => rfl
  | true => rw [lessL_asymm _ _ h]; rfl
theorem less_trans2 (xs ys zs : List Int) : (((!lessL xs ys) || (!lessL ys zs)) || lessL xs zs) = true := by
  cases h : lessL xs ys with
  | false => rfl
  | true =>
    cases h2 : lessL ys zs with
    | false => rfl
    | true => rw [lessL_trans _ _ _ h h2]; rfl
end Go.Proofs.YtndaogkpgoimlaaDoor

/- Letters and words as the document tells them, and as the program does: plain laws, no program in sight. -/
import Derived.Test.YtndaogkpgoimlaaS8
namespace Go.Proofs.Ytndaogkpgoimlaa
open Go
def refEven (c : Int) : Prop := c.tmod 2 = 0 ∧ (256 ≤ c ∧ c ≤ 302 ∨ 306 ≤ c ∧ c ≤ 310 ∨ 330 ≤ c ∧ c ≤ 374)
def refOdd (c : Int) : Prop := c.tmod 2 = 1 ∧ (313 ≤ c ∧ c ≤ 327 ∨ 377 ≤ c ∧ c ≤ 381)
def refTwenty (c : Int) : Prop := 65 ≤ c ∧ c ≤ 90 ∨ 192 ≤ c ∧ c ≤ 222 ∧ c ≠ 215 ∨ 913 ≤ c ∧ c ≤ 939 ∧ c ≠ 930 ∨ 1040 ≤ c ∧ c ≤ 1071
instance (c : Int) : Decidable (refEven c) := by unfold refEven; infer_instance
instance (c : Int) : Decidable (refOdd c) := by unfold refOdd; infer_instance
instance (c : Int) : Decidable (refTwenty c) := by unfold refTwenty; infer_instance
def refFold (c : Int) : Int := if refTwenty c then c + 32 else if refEven c ∨ refOdd c ∨ c = 962 then c + 1 else if c = 376 then 255 else if 1024 ≤ c ∧ c ≤ 1039 then c + 80 else c
def refPlain (c : Int) : Prop := 65 ≤ c ∧ c ≤ 90 ∨ 97 ≤ c ∧ c ≤ 122
def refLatin (c : Int) : Prop := 192 ≤ c ∧ c ≤ 383 ∧ c ≠ 215 ∧ c ≠ 247
def refGreek (c : Int) : Prop := 913 ≤ c ∧ c ≤ 974 ∧ c ≠ 930
instance (c : Int) : Decidable (refPlain c) := by unfold refPlain; infer_instance
instance (c : Int) : Decidable (refLatin c) := by unfold refLatin; infer_instance
instance (c : Int) : Decidable (refGreek c) := by unfold refGreek; infer_instance
def refLetter (c : Int) : Bool := decide (refPlain c ∨ refLatin c ∨ refGreek c ∨ 1024 ≤ c ∧ c ≤ 1119)
theorem spansF_in : ∀ x ∈ spansF, 65 ≤ x.lo ∧ x.hi ≤ 1119 := by
  intro x h; simp only [spansF, List.mem_cons, List.not_mem_nil, or_false] at h
  rcases h with rfl | rfl | rfl | rfl | rfl | rfl | rfl | rfl | rfl | rfl | rfl | rfl | rfl | rfl <;> simp
theorem spansL_in : ∀ x ∈ spansL, 65 ≤ x.lo ∧ x.hi ≤ 1119 := by
  intro x h; simp only [spansL, List.mem_cons, List.not_mem_nil, or_false] at h
  rcases h with rfl | rfl | rfl | rfl | rfl | rfl | rfl | rfl <;> simp
theorem fold_out {c : Int} (h : c < 65 ∨ 1119 < c) : foldN c = c := by
  have : spansF.find? (·.has c) = none := by
    rw [List.find?_eq_none]
    intro x hx hc
    have h1 := spansF_in x hx
    have h2 := has_bounds hc
    omega
  rw [foldN, this]
theorem letter_out {c : Int} (h : c < 65 ∨ 1119 < c) : letterN c = false := by
  have : spansL.findIdx? (·.has c) = none := by
    rw [List.findIdx?_eq_none_iff]
    intro x hx
    cases hc : x.has c with
    | false => rfl
    | true =>
      have h1 := spansL_in x hx
      have h2 := has_bounds hc
      omega
  rw [letterN, idxSpan, this]; rfl
theorem fold_small : ∀ n : Fin 1120, refFold (n.val : Int) = foldN (n.val : Int) := by decide +kernel
theorem letter_small : ∀ n : Fin 1120, refLetter (n.val : Int) = letterN (n.val : Int) := by decide +kernel
theorem fold_eq (c : Int) : refFold c = foldN c := by
  by_cases h : c < 65 ∨ 1119 < c
  · rw [fold_out h, refFold, if_neg (by unfold refTwenty; omega), if_neg (by unfold refEven refOdd; omega), if_neg (by omega), if_neg (by omega)]
  · have := fold_small ⟨c.toNat, by omega⟩
    simp only [Int.toNat_of_nonneg (show 0 ≤ c by omega)] at this
    exact this
theorem letter_eq (c : Int) : refLetter c = letterN c := by
  by_cases h : c < 65 ∨ 1119 < c
  · rw [letter_out h, refLetter, decide_eq_false]; unfold refPlain refLatin refGreek; omega
  · have := letter_small ⟨c.toNat, by omega⟩
    simp only [Int.toNat_of_nonneg (show 0 ≤ c by omega)] at this
    exact this
theorem fold_range : ∀ n : Fin 1120, 0 ≤ foldN (n.val : Int) ∧ foldN (n.val : Int) ≤ 1200 := by decide +kernel
theorem letter_fold {c : Int} (h : letterN c = true) : 0 ≤ foldN c ∧ foldN c ≤ 1200 := by
  by_cases ho : c < 65 ∨ 1119 < c
  · rw [letter_out ho] at h; cases h
  · have := fold_range ⟨c.toNat, by omega⟩
    simp only [Int.toNat_of_nonneg (show 0 ≤ c by omega)] at this
    exact this
end Go.Proofs.Ytndaogkpgoimlaa

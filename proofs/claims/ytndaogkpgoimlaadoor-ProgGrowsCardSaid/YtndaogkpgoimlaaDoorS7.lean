/- The program's and the document's pending bytes are the same; a state's bytes are read as that state by both: plain laws, no program in sight. -/
import Derived.Test.YtndaogkpgoimlaaDoorS6
namespace Go.Proofs.YtndaogkpgoimlaaDoor
open Go
theorem app_mk (a b : Array UInt8) : (⟨a⟩ : ByteArray) ++ ⟨b⟩ = ⟨a ++ b⟩ := by apply ByteArray.ext; simp
theorem pend1 (a : UInt8) : utfPending [a] = true ↔ 194 ≤ a.toNat ∧ a.toNat ≤ 244 := by
  have h1 := well2 a 128
  have h2 := well3 a 128 128
  have h3 := well4 a 128 128 128
  have h4 := well4 a 144 128 128
  have h5 := well3 a 160 128
  have h6 := well3 a 144 128
  simp only [W2, W3, W4, show (128 : UInt8).toNat = 128 from rfl, show (144 : UInt8).toNat = 144 from rfl, show (160 : UInt8).toNat = 160 from rfl] at h1 h2 h3 h4 h5 h6
  unfold utfPending tailsS
  simp only [List.any_cons, List.any_nil, app_mk, List.length_singleton, Bool.or_false, Bool.and_eq_true, Bool.or_eq_true, decide_eq_true_eq]
  simp only [List.append_toArray, List.cons_append, List.nil_append, List.size_toArray]
  show (1 ≤ 1 ∧ 1 ≤ 3 ∧ (utfWell ⟨#[a, 128]⟩ = true ∨ utfWell ⟨#[a, 128, 128]⟩ = true ∨ utfWell ⟨#[a, 128, 128, 128]⟩ = true ∨ utfWell ⟨#[a, 144, 128, 128]⟩ = true ∨ utfWell ⟨#[a, 160, 128]⟩ = true ∨ utfWell ⟨#[a, 144, 128]⟩ = true)) ↔ _
  rw [h1, h2, h3, h4, h5, h6]
  have := a.toNat_lt
  omega
theorem pend2 (a b : UInt8) : utfPending [a, b] = true ↔ (224 ≤ a.toNat ∧ a.toNat ≤ 244 ∧ fitsN a.toNat 1 b.toNat = true) := by
  have h1 := well3 a b 128
  have h2 := well4 a b 128 128
  have h3 := well4 a b 160 128
  have h4 := well4 a b 144 128
  simp only [W3, W4, show (128 : UInt8).toNat = 128 from rfl, show (144 : UInt8).toNat = 144 from rfl, show (160 : UInt8).toNat = 160 from rfl] at h1 h2 h3 h4
  have w5 : utfWell ⟨#[a, b, 128, 128, 128]⟩ = false := well_long (show 4 < 5 by decide)
  have w6 : utfWell ⟨#[a, b, 144, 128, 128]⟩ = false := well_long (show 4 < 5 by decide)
  unfold utfPending tailsS
  simp only [List.any_cons, List.any_nil, app_mk, Bool.or_false, Bool.and_eq_true, Bool.or_eq_true, decide_eq_true_eq]
  show (1 ≤ 2 ∧ 2 ≤ 3 ∧ (utfWell ⟨#[a, b, 128]⟩ = true ∨ utfWell ⟨#[a, b, 128, 128]⟩ = true ∨ utfWell ⟨#[a, b, 128, 128, 128]⟩ = true ∨ utfWell ⟨#[a, b, 144, 128, 128]⟩ = true ∨ utfWell ⟨#[a, b, 160, 128]⟩ = true ∨ utfWell ⟨#[a, b, 144, 128]⟩ = true)) ↔ _
  rw [h1, h2, h3, h4, w5, w6]
  simp only [Bool.false_eq_true, or_false, false_or]
  have hf : fitsN a.toNat 1 b.toNat = true ↔ ((a.toNat = 224 ∧ 160 ≤ b.toNat ∧ b.toNat ≤ 191) ∨ (a.toNat = 237 ∧ 128 ≤ b.toNat ∧ b.toNat ≤ 159) ∨ (a.toNat = 240 ∧ 144 ≤ b.toNat ∧ b.toNat ≤ 191) ∨ (a.toNat = 244 ∧ 128 ≤ b.toNat ∧ b.toNat ≤ 143) ∨ (a.toNat ≠ 224 ∧ a.toNat ≠ 237 ∧ a.toNat ≠ 240 ∧ a.toNat ≠ 244 ∧ 128 ≤ b.toNat ∧ b.toNat ≤ 191)) := by
    unfold fitsN
    (repeat' split) <;> simp only [decide_eq_true_eq] <;> omega
  rw [hf]
  have := a.toNat_lt
  omega
theorem pend3 (a b c : UInt8) : utfPending [a, b, c] = true ↔ W4 a.toNat b.toNat c.toNat 128 := by
  have h1 := well4 a b c 128
  have w5 : utfWell ⟨#[a, b, c, 128, 128]⟩ = false := well_long (show 4 < 5 by decide)
  have w6 : utfWell ⟨#[a, b, c, 128, 128, 128]⟩ = false := well_long (show 4 < 6 by decide)
  have w7 : utfWell ⟨#[a, b, c, 144, 128, 128]⟩ = false := well_long (show 4 < 6 by decide)
  have w8 : utfWell ⟨#[a, b, c, 160, 128]⟩ = false := well_long (show 4 < 5 by decide)
  have w9 : utfWell ⟨#[a, b, c, 144, 128]⟩ = false := well_long (show 4 < 5 by decide)
  unfold utfPending tailsS
  simp only [List.any_cons, List.any_nil, app_mk, Bool.or_false, Bool.and_eq_true, Bool.or_eq_true, decide_eq_true_eq]
  show (1 ≤ 3 ∧ 3 ≤ 3 ∧ (utfWell ⟨#[a, b, c, 128]⟩ = true ∨ utfWell ⟨#[a, b, c, 128, 128]⟩ = true ∨ utfWell ⟨#[a, b, c, 128, 128, 128]⟩ = true ∨ utfWell ⟨#[a, b, c, 144, 128, 128]⟩ = true ∨ utfWell ⟨#[a, b, c, 160, 128]⟩ = true ∨ utfWell ⟨#[a, b, c, 144, 128]⟩ = true)) ↔ _
  rw [h1, w5, w6, w7, w8, w9]
  simp
theorem sizeN_or (c : Nat) : (c < 128 ∧ sizeN c = 1) ∨ (194 ≤ c ∧ c ≤ 223 ∧ sizeN c = 2) ∨ (224 ≤ c ∧ c ≤ 239 ∧ sizeN c = 3) ∨ (240 ≤ c ∧ c ≤ 244 ∧ sizeN c = 4) ∨ (128 ≤ c ∧ (c < 194 ∨ 244 < c) ∧ sizeN c = 0) := by
  unfold sizeN; (repeat' split) <;> omega
theorem fits_cont {a c : Nat} {i : Nat} (hi : i ≠ 1) : fitsN a i c = true ↔ 128 ≤ c ∧ c ≤ 191 := by
  unfold fitsN
  rw [if_neg (by omega), if_neg (by omega), if_neg (by omega), if_neg (by omega)]; simp
theorem fits_one (a b : Nat) : fitsN a 1 b = true ↔ ((a = 224 ∧ 160 ≤ b ∧ b ≤ 191) ∨ (a = 237 ∧ 128 ≤ b ∧ b ≤ 159) ∨ (a = 240 ∧ 144 ≤ b ∧ b ≤ 191) ∨ (a = 244 ∧ 128 ≤ b ∧ b ≤ 143) ∨ (a ≠ 224 ∧ a ≠ 237 ∧ a ≠ 240 ∧ a ≠ 244 ∧ 128 ≤ b ∧ b ≤ 191)) := by
  unfold fitsN
  (repeat' split) <;> simp only [decide_eq_true_eq] <;> omega
theorem pend_eq (l : List UInt8) : pendR l = utfPending l := by
  rw [Bool.eq_iff_iff]
  match l with
  | [] => decide
  | [a] =>
    rw [pend1]
    have hs := sizeN_or a.toNat
    have hg : goodN [a] = if sizeN a.toNat = 0 then 0 else 1 := by
      unfold goodN; simp [at0]
      split
      · rfl
      · simp [goodAt]
    unfold pendR
    simp only [Bool.and_eq_true, decide_eq_true_eq, hg, List.length_singleton, show at0 [a] 0 = a.toNat from rfl]
    split <;> omega
  | [a, b] =>
    rw [pend2]
    have hs := sizeN_or a.toNat
    have hf := fits_one a.toNat b.toNat
    have hg : goodN [a, b] = if sizeN a.toNat = 0 then 0 else if 1 < sizeN a.toNat ∧ fitsN a.toNat 1 b.toNat = true then 2 else 1 := by
      unfold goodN; simp [at0]
      split
      · rfl
      · simp [goodAt, at0]
    unfold pendR
    simp only [Bool.and_eq_true, decide_eq_true_eq, hg, List.length_cons, List.length_nil, show at0 [a, b] 0 = a.toNat from rfl]
    split
    · constructor <;> intro h <;> omega
    · split
      · rename_i h1 h2
        constructor
        · intro h; exact ⟨by omega, by omega, h2.2⟩
        · intro h; omega
      · rename_i h1 h2
        constructor
        · intro h; omega
        · intro h; exact absurd ⟨by omega, h.2.2⟩ h2
  | [a, b, c] =>
    rw [pend3]
    have hs := sizeN_or a.toNat
    have hf := fits_one a.toNat b.toNat
    have hf2 := fits_cont (a := a.toNat) (c := c.toNat) (i := 2) (by decide)
    have hg : goodN [a, b, c] = if sizeN a.toNat = 0 then 0 else if 1 < sizeN a.toNat ∧ fitsN a.toNat 1 b.toNat = true then (if 2 < sizeN a.toNat ∧ fitsN a.toNat 2 c.toNat = true then 3 else 2) else 1 := by
      unfold goodN; simp [at0]
      split
      · rfl
      · simp [goodAt, at0]
    unfold pendR W4
    simp only [Bool.and_eq_true, decide_eq_true_eq, hg, List.length_cons, List.length_nil, show at0 [a, b, c] 0 = a.toNat from rfl]
    split
    · constructor <;> intro h <;> omega
    · split
      · rename_i h1 h2
        rw [hf] at h2
        split
        · rename_i h3
          rw [hf2] at h3
          constructor <;> intro h <;> omega
        · rename_i h3
          rw [hf2] at h3
          constructor <;> intro h <;> omega
      · rename_i h1 h2
        rw [hf] at h2
        constructor <;> intro h <;> omega
  | a :: b :: c :: d :: r =>
    have h1 : ¬ (a :: b :: c :: d :: r).length ≤ 3 := by simp
    simp only [pendR, utfPending, decide_eq_false h1, Bool.false_and, Bool.and_false]
end Go.Proofs.YtndaogkpgoimlaaDoor

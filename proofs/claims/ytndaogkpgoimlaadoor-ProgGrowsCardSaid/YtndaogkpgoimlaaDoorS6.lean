/- Which bytes may begin a rune: two tellings are one; plain laws, no program in sight. -/
import Derived.Test.YtndaogkpgoimlaaDoorS5
namespace Go.Proofs.YtndaogkpgoimlaaDoor
open Go
/-! ### Decoding by numbers -/
def byteAt (s : ByteArray) (p : Nat) : Nat := (s.get! p).toNat
def decN (n A B C D : Nat) : Nat × Nat :=
  if A < 128 then (A, 1)
  else if A / 32 = 6 ∧ 1 < n ∧ B / 64 = 2 then (if 128 ≤ A % 32 * 64 + B % 64 then (A % 32 * 64 + B % 64, 2) else (65533, 1))
  else if A / 16 = 14 ∧ 1 < n ∧ B / 64 = 2 ∧ 2 < n ∧ C / 64 = 2 then (if 2048 ≤ A % 16 * 4096 + B % 64 * 64 + C % 64 ∧ (A % 16 * 4096 + B % 64 * 64 + C % 64 < 55296 ∨ 57344 ≤ A % 16 * 4096 + B % 64 * 64 + C % 64) then (A % 16 * 4096 + B % 64 * 64 + C % 64, 3) else (65533, 1))
  else if A / 8 = 30 ∧ 1 < n ∧ B / 64 = 2 ∧ 2 < n ∧ C / 64 = 2 ∧ 3 < n ∧ D / 64 = 2 then (if 65536 ≤ A % 8 * 262144 + B % 64 * 4096 + C % 64 * 64 + D % 64 ∧ A % 8 * 262144 + B % 64 * 4096 + C % 64 * 64 + D % 64 ≤ 1114111 then (A % 8 * 262144 + B % 64 * 4096 + C % 64 * 64 + D % 64, 4) else (65533, 1))
  else (65533, 1)
theorem decode_eq (s : ByteArray) (p : Nat) : Utf8.decode s p = decN (s.size - p) (byteAt s p) (byteAt s (p + 1)) (byteAt s (p + 2)) (byteAt s (p + 3)) := by
  have hc : ∀ k, p + k < s.size ↔ k < s.size - p := fun k => by omega
  have h1 : ∀ k, (p + k < s.size) = (k < s.size - p) := fun k => propext (hc k)
  unfold Utf8.decode decN byteAt Utf8.valid Utf8.runeError
  simp only [h1, Nat.add_zero, Bool.and_eq_true, decide_eq_true_eq, beq_iff_eq, and_assoc, Bool.or_eq_true, ge_iff_le]
  split
  · rfl
  · split
    · rfl
    · split
      · congr 1
        apply propext
        constructor <;> intro h <;> omega
      · split
        · congr 1
          apply propext
          constructor <;> intro h <;> omega
        · rfl
def encS (c : Nat) : Nat := if c < 128 then 1 else if c < 2048 then 2 else if c < 55296 ∨ (57344 ≤ c ∧ c ≤ 1114111) then (if c < 65536 then 3 else 4) else 3
theorem enc_size (c : Nat) : (Utf8.encode (c : Int)).size = encS c := by
  have hv : Utf8.valid (c : Int) = decide (c < 55296 ∨ (57344 ≤ c ∧ c ≤ 1114111)) := by
    unfold Utf8.valid; rw [Bool.eq_iff_iff]; simp only [Bool.or_eq_true, Bool.and_eq_true, decide_eq_true_eq]; omega
  unfold Utf8.encode encS
  rw [hv]
  by_cases h3 : c < 55296 ∨ (57344 ≤ c ∧ c ≤ 1114111)
  · simp only [decide_eq_true h3, if_true, Int.toNat_natCast, if_pos h3]
    by_cases h1 : c < 128
    · rw [if_pos h1, if_pos h1]; rfl
    · rw [if_neg h1, if_neg h1]
      by_cases h2 : c < 2048
      · rw [if_pos h2, if_pos h2]; rfl
      · rw [if_neg h2, if_neg h2]
        by_cases h4 : c < 65536
        · rw [if_pos h4, if_pos h4]; rfl
        · rw [if_neg h4, if_neg h4]; rfl
  · rw [decide_eq_false h3, if_neg (show ¬ c < 128 by omega), if_neg (show ¬ c < 2048 by omega), if_neg h3]; rfl
theorem encS_or (c : Nat) : (c < 128 ∧ encS c = 1) ∨ (128 ≤ c ∧ c < 2048 ∧ encS c = 2) ∨ (2048 ≤ c ∧ c < 65536 ∧ encS c = 3) ∨ (65536 ≤ c ∧ c ≤ 1114111 ∧ encS c = 4) ∨ (1114111 < c ∧ encS c = 3) := by
  unfold encS
  by_cases h1 : c < 128
  · rw [if_pos h1]; omega
  · rw [if_neg h1]
    by_cases h2 : c < 2048
    · rw [if_pos h2]; omega
    · rw [if_neg h2]
      by_cases h3 : c < 55296 ∨ (57344 ≤ c ∧ c ≤ 1114111)
      · rw [if_pos h3]
        by_cases h4 : c < 65536
        · rw [if_pos h4]; omega
        · rw [if_neg h4]; omega
      · rw [if_neg h3]; omega
def c2 (A B : Nat) : Nat := A % 32 * 64 + B % 64
def c3 (A B C : Nat) : Nat := A % 16 * 4096 + B % 64 * 64 + C % 64
def c4 (A B C D : Nat) : Nat := A % 8 * 262144 + B % 64 * 4096 + C % 64 * 64 + D % 64
theorem decN_or (n A B C D : Nat) : (A < 128 ∧ decN n A B C D = (A, 1)) ∨ (A / 32 = 6 ∧ 1 < n ∧ B / 64 = 2 ∧ 128 ≤ c2 A B ∧ decN n A B C D = (c2 A B, 2)) ∨
    (A / 16 = 14 ∧ 1 < n ∧ B / 64 = 2 ∧ 2 < n ∧ C / 64 = 2 ∧ 2048 ≤ c3 A B C ∧ (c3 A B C < 55296 ∨ 57344 ≤ c3 A B C) ∧ decN n A B C D = (c3 A B C, 3)) ∨
    (A / 8 = 30 ∧ 1 < n ∧ B / 64 = 2 ∧ 2 < n ∧ C / 64 = 2 ∧ 3 < n ∧ D / 64 = 2 ∧ 65536 ≤ c4 A B C D ∧ c4 A B C D ≤ 1114111 ∧ decN n A B C D = (c4 A B C D, 4)) ∨
    (128 ≤ A ∧ ¬ (A / 32 = 6 ∧ 1 < n ∧ B / 64 = 2 ∧ 128 ≤ c2 A B) ∧ ¬ (A / 16 = 14 ∧ 1 < n ∧ B / 64 = 2 ∧ 2 < n ∧ C / 64 = 2 ∧ 2048 ≤ c3 A B C ∧ (c3 A B C < 55296 ∨ 57344 ≤ c3 A B C)) ∧
      ¬ (A / 8 = 30 ∧ 1 < n ∧ B / 64 = 2 ∧ 2 < n ∧ C / 64 = 2 ∧ 3 < n ∧ D / 64 = 2 ∧ 65536 ≤ c4 A B C D ∧ c4 A B C D ≤ 1114111) ∧ decN n A B C D = (65533, 1)) := by
  unfold decN
  by_cases h1 : A < 128
  · left; exact ⟨h1, if_pos h1⟩
  · rw [if_neg h1]
    by_cases h2 : A / 32 = 6 ∧ 1 < n ∧ B / 64 = 2
    · rw [if_pos h2]
      by_cases h : 128 ≤ c2 A B
      · right; left; exact ⟨h2.1, h2.2.1, h2.2.2, h, if_pos h⟩
      · right; right; right; right; exact ⟨by omega, fun q => h q.2.2.2, by omega, by omega, if_neg h⟩
    · rw [if_neg h2]
      by_cases h3 : A / 16 = 14 ∧ 1 < n ∧ B / 64 = 2 ∧ 2 < n ∧ C / 64 = 2
      · rw [if_pos h3]
        by_cases h : 2048 ≤ c3 A B C ∧ (c3 A B C < 55296 ∨ 57344 ≤ c3 A B C)
        · right; right; left; exact ⟨h3.1, h3.2.1, h3.2.2.1, h3.2.2.2.1, h3.2.2.2.2, h.1, h.2, if_pos h⟩
        · right; right; right; right; exact ⟨by omega, by omega, fun q => h q.2.2.2.2.2, by omega, if_neg h⟩
      · rw [if_neg h3]
        by_cases h4 : A / 8 = 30 ∧ 1 < n ∧ B / 64 = 2 ∧ 2 < n ∧ C / 64 = 2 ∧ 3 < n ∧ D / 64 = 2
        · rw [if_pos h4]
          by_cases h : 65536 ≤ c4 A B C D ∧ c4 A B C D ≤ 1114111
          · right; right; right; left; exact ⟨h4.1, h4.2.1, h4.2.2.1, h4.2.2.2.1, h4.2.2.2.2.1, h4.2.2.2.2.2.1, h4.2.2.2.2.2.2, h.1, h.2, if_pos h⟩
          · right; right; right; right; exact ⟨by omega, by omega, by omega, fun q => h q.2.2.2.2.2.2.2, if_neg h⟩
        · rw [if_neg h4]; right; right; right; right; exact ⟨by omega, by omega, by omega, by omega, rfl⟩
def W2 (A B : Nat) : Prop := 194 ≤ A ∧ A ≤ 223 ∧ 128 ≤ B ∧ B ≤ 191
def W3 (A B C : Nat) : Prop := 224 ≤ A ∧ A ≤ 239 ∧ 128 ≤ B ∧ B ≤ 191 ∧ 128 ≤ C ∧ C ≤ 191 ∧ (A = 224 → 160 ≤ B) ∧ (A = 237 → B ≤ 159)
def W4 (A B C D : Nat) : Prop := 240 ≤ A ∧ A ≤ 244 ∧ 128 ≤ B ∧ B ≤ 191 ∧ 128 ≤ C ∧ C ≤ 191 ∧ 128 ≤ D ∧ D ≤ 191 ∧ (A = 240 → 144 ≤ B) ∧ (A = 244 → B ≤ 143)
/-- What the program asks of bytes, by the rune that they begin with. -/
theorem well_iff (s : ByteArray) : utfWell s = true ↔ 1 < s.size ∧ s.size = encS (decN s.size (byteAt s 0) (byteAt s 1) (byteAt s 2) (byteAt s 3)).1 ∧ ((decN s.size (byteAt s 0) (byteAt s 1) (byteAt s 2) (byteAt s 3)).1 ≠ 65533 ∨ s = ⟨#[239, 191, 189]⟩) := by
  unfold utfWell
  rw [decode_eq, enc_size]
  simp only [Bool.and_eq_true, Bool.or_eq_true, decide_eq_true_eq, Nat.sub_zero, Nat.zero_add]
  constructor
  · rintro ⟨_, h2, h3, h4⟩; exact ⟨h3, h2, h4⟩
  · rintro ⟨h2, h3, h4⟩; exact ⟨by omega, h3, h2, h4⟩
theorem well2 (a b : UInt8) : utfWell ⟨#[a, b]⟩ = true ↔ W2 a.toNat b.toNat := by
  have ha := a.toNat_lt
  have hb := b.toNat_lt
  rw [well_iff]
  have hs : (⟨#[a, b]⟩ : ByteArray).size = 2 := rfl
  have h0 : byteAt ⟨#[a, b]⟩ 0 = a.toNat := rfl
  have h1 : byteAt ⟨#[a, b]⟩ 1 = b.toNat := rfl
  rw [hs, h0, h1]
  generalize byteAt ⟨#[a, b]⟩ 2 = C
  generalize byteAt ⟨#[a, b]⟩ 3 = D
  generalize a.toNat = A at *
  generalize b.toNat = B at *
  unfold W2
  constructor
  · rintro ⟨_, h2, _⟩
    rcases decN_or 2 A B C D with h | h | h | h | h
    · rw [h.2] at h2; dsimp only at h2; have := encS_or A; omega
    · rw [h.2.2.2.2] at h2; dsimp only at h2; have := encS_or (c2 A B); have e : c2 A B = A % 32 * 64 + B % 64 := rfl; omega
    · omega
    · omega
    · have q := h.2.2.2.2; clear h; rw [q] at h2; dsimp only at h2; have := encS_or 65533; omega
  · intro hw
    have e : c2 A B = A % 32 * 64 + B % 64 := rfl
    rcases decN_or 2 A B C D with h | h | h | h | h
    · omega
    · rw [h.2.2.2.2]; dsimp only; have := encS_or (c2 A B); exact ⟨by omega, by omega, .inl (by omega)⟩
    · omega
    · omega
    · refine absurd ⟨?_, ?_, ?_, ?_⟩ h.2.1 <;> clear h <;> omega
theorem well3 (a b c : UInt8) : utfWell ⟨#[a, b, c]⟩ = true ↔ W3 a.toNat b.toNat c.toNat := by
  have ha := a.toNat_lt
  have hb := b.toNat_lt
  have hc := c.toNat_lt
  rw [well_iff]
  have hs : (⟨#[a, b, c]⟩ : ByteArray).size = 3 := rfl
  have h0 : byteAt ⟨#[a, b, c]⟩ 0 = a.toNat := rfl
  have h1 : byteAt ⟨#[a, b, c]⟩ 1 = b.toNat := rfl
  have h2 : byteAt ⟨#[a, b, c]⟩ 2 = c.toNat := rfl
  have hl : (⟨#[a, b, c]⟩ : ByteArray) = ⟨#[239, 191, 189]⟩ ↔ a.toNat = 239 ∧ b.toNat = 191 ∧ c.toNat = 189 := by
    constructor
    · intro h; injection h with h; simp at h; obtain ⟨rfl, rfl, rfl⟩ := h; decide
    · rintro ⟨q1, q2, q3⟩
      have e1 : a = 239 := UInt8.toNat_inj.1 q1
      have e2 : b = 191 := UInt8.toNat_inj.1 q2
      have e3 : c = 189 := UInt8.toNat_inj.1 q3
      subst e1 e2 e3; rfl
  rw [hs, h0, h1, h2, hl]
  generalize byteAt ⟨#[a, b, c]⟩ 3 = D
  generalize a.toNat = A at *
  generalize b.toNat = B at *
  generalize c.toNat = C at *
  unfold W3
  have e : c2 A B = A % 32 * 64 + B % 64 := rfl
  have e' : c3 A B C = A % 16 * 4096 + B % 64 * 64 + C % 64 := rfl
  constructor
  · rintro ⟨_, h2, h3⟩
    rcases decN_or 3 A B C D with h | h | h | h | h
    · rw [h.2] at h2; dsimp only at h2; have := encS_or A; omega
    · rw [h.2.2.2.2] at h2; dsimp only at h2; have := encS_or (c2 A B); omega
    · rw [h.2.2.2.2.2.2.2] at h2; dsimp only at h2; have := encS_or (c3 A B C); omega
    · omega
    · have q := h.2.2.2.2; rw [q] at h3; simp only [ne_eq, not_true, false_or] at h3
      refine absurd ⟨?_, ?_, ?_, ?_, ?_, ?_, ?_⟩ h.2.2.1 <;> clear h h2 q <;> omega
  · intro hw
    rcases decN_or 3 A B C D with h | h | h | h | h
    · omega
    · omega
    · rw [h.2.2.2.2.2.2.2]; dsimp only; have := encS_or (c3 A B C); exact ⟨by omega, by omega, by omega⟩
    · omega
    · refine absurd ⟨?_, ?_, ?_, ?_, ?_, ?_, ?_⟩ h.2.2.1 <;> clear h <;> omega
theorem well4 (a b c d : UInt8) : utfWell ⟨#[a, b, c, d]⟩ = true ↔ W4 a.toNat b.toNat c.toNat d.toNat := by
  have ha := a.toNat_lt
  have hb := b.toNat_lt
  have hc := c.toNat_lt
  have hd := d.toNat_lt
  rw [well_iff]
  have hs : (⟨#[a, b, c, d]⟩ : ByteArray).size = 4 := rfl
  have h0 : byteAt ⟨#[a, b, c, d]⟩ 0 = a.toNat := rfl
  have h1 : byteAt ⟨#[a, b, c, d]⟩ 1 = b.toNat := rfl
  have h2 : byteAt ⟨#[a, b, c, d]⟩ 2 = c.toNat := rfl
  have h3 : byteAt ⟨#[a, b, c, d]⟩ 3 = d.toNat := rfl
  rw [hs, h0, h1, h2, h3]
  generalize a.toNat = A at *
  generalize b.toNat = B at *
  generalize c.toNat = C at *
  generalize d.toNat = D at *
  unfold W4
  have e : c2 A B = A % 32 * 64 + B % 64 := rfl
  have e' : c3 A B C = A % 16 * 4096 + B % 64 * 64 + C % 64 := rfl
  have e2 : c4 A B C D = A % 8 * 262144 + B % 64 * 4096 + C % 64 * 64 + D % 64 := rfl
  constructor
  · rintro ⟨_, h2, h3⟩
    rcases decN_or 4 A B C D with h | h | h | h | h
    · rw [h.2] at h2; dsimp only at h2; have := encS_or A; omega
    · rw [h.2.2.2.2] at h2; dsimp only at h2; have := encS_or (c2 A B); omega
    · rw [h.2.2.2.2.2.2.2] at h2; dsimp only at h2; have := encS_or (c3 A B C); omega
    · rw [h.2.2.2.2.2.2.2.2.2] at h2; dsimp only at h2; have := encS_or (c4 A B C D); omega
    · have q := h.2.2.2.2; clear h; rw [q] at h2; dsimp only at h2; have := encS_or 65533; omega
  · intro hw
    rcases decN_or 4 A B C D with h | h | h | h | h
    · omega
    · omega
    · omega
    · rw [h.2.2.2.2.2.2.2.2.2]; dsimp only; have := encS_or (c4 A B C D); exact ⟨by omega, by omega, .inl (by omega)⟩
    · refine absurd ⟨?_, ?_, ?_, ?_, ?_, ?_, ?_, ?_, ?_⟩ h.2.2.2.1 <;> clear h <;> omega
theorem well_long {s : ByteArray} (h : 4 < s.size) : utfWell s = false := by
  cases hw : utfWell s with
  | false => rfl
  | true =>
    rw [well_iff] at hw
    have := encS_or (decN s.size (byteAt s 0) (byteAt s 1) (byteAt s 2) (byteAt s 3)).1
    omega
end Go.Proofs.YtndaogkpgoimlaaDoor

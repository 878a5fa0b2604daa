/- What the document's answers of layers 1, 4, 7 compute, as functions of lists: plain definitions, no program in sight. -/
import Derived.Test.YtndaogkpgoimlaaDoorS3
namespace Go.Proofs.YtndaogkpgoimlaaDoor
open Go
/-! ### Numbers, once more -/
theorem ref_val {l : List UInt8} {i : Nat} {c : UInt8} (hc : l[i]? = some c) : valN l i 0 + c.toNat % 128 * 128 ^ i = valN l (i + 1) 0 := by
  rw [valN_snoc, Nat.zero_add, hc]; simp [Nat.mul_comm]
theorem pow9 : (128 : Nat) ^ 9 = 9223372036854775808 := by decide
theorem ref_fit {l : List UInt8} {i : Nat} {c : UInt8} (hi : i < 10) (h9 : i = 9 → c.toNat % 128 ≤ 1) (hc : l[i]? = some c) : c.toNat % 128 * 128 ^ i < 18446744073709551616 ∧ valN l (i + 1) 0 < 18446744073709551616 := by
  have hv := ref_val hc
  have h1 := valN_lt l i 0
  have h2 : (128 : Nat) ^ i ≤ 128 ^ 9 := Nat.pow_le_pow_right (by omega) (by omega)
  rw [pow9] at h2
  by_cases h : i = 9
  · subst h
    have := h9 rfl
    rw [pow9] at hv h1 ⊢
    generalize c.toNat % 128 = q at *
    have : q = 0 ∨ q = 1 := by omega
    rcases this with rfl | rfl <;> omega
  · have h3 : (128 : Nat) ^ i ≤ 128 ^ 8 := Nat.pow_le_pow_right (by omega) (by omega)
    have h4 : (128 : Nat) ^ 8 = 72057594037927936 := by decide
    rw [h4] at h3
    have h5 : c.toNat % 128 * 128 ^ i ≤ 127 * 72057594037927936 := Nat.mul_le_mul (by omega) h3
    omega
theorem pow_fit {i : Nat} (hi : i < 9) : (128 : Nat) ^ (i + 1) ≤ 9223372036854775808 := by
  rw [← pow9]; exact Nat.pow_le_pow_right (by omega) (by omega)

theorem get_ok {l : List UInt8} {f i : Nat} {c : UInt8} (hs : scanTo l 10 0 = scanTo l f i) (hf : f + i = 10) (hi : i < 10) (hc : l[i]? = some c) (hl : c.toNat < 128) (h9 : i = 9 → ¬ 1 < c.toNat) (h0 : 0 < i → c.toNat ≠ 0) : numGet l = (valN l (i + 1) 0, i + 1, 0) := by
  refine get_good (scan_here hs hf hi hc hl) ?_
  rintro (q | ⟨q, r⟩ | ⟨q, r⟩)
  · omega
  · have := h9 q
    subst q; rw [hc] at r; exact this r
  · rw [hc] at r; exact h0 q r
theorem get_tenth {l : List UInt8} {f i : Nat} {c : UInt8} (hs : scanTo l 10 0 = scanTo l f i) (hf : f + i = 10) (hi : i = 9) (hc : l[i]? = some c) (hb : 1 < c.toNat) : numGet l = (0, 0, 2) := by
  by_cases hlt : c.toNat < 128
  · exact get_bad (scan_here hs hf (by omega) hc hlt) (.inr (.inl ⟨hi, by subst hi; rw [hc]; exact hb⟩))
  · obtain ⟨h1, h2⟩ := scan_on hs hf (by omega) hc hlt
    exact get_bad (scan_ten h1 h2 (by omega) (by omega)).1 (.inl (by omega))
theorem get_nought {l : List UInt8} {f i : Nat} {c : UInt8} (hs : scanTo l 10 0 = scanTo l f i) (hf : f + i = 10) (hi : i < 10) (hc : l[i]? = some c) (h0 : 0 < i) (hz : c.toNat = 0) : numGet l = (0, 0, 2) :=
  get_bad (scan_here hs hf hi hc (by omega)) (.inr (.inr ⟨h0, by rw [hc]; exact hz⟩))
/-! ### Bytes that may begin a rune -/
def sizeN (c : Nat) : Nat := if c < 128 then 1 else if 194 ≤ c ∧ c ≤ 223 then 2 else if 224 ≤ c ∧ c ≤ 239 then 3 else if 240 ≤ c ∧ c ≤ 244 then 4 else 0
def fitsN (a : Nat) (i : Nat) (c : Nat) : Bool :=
  if i = 1 ∧ a = 224 then decide (160 ≤ c ∧ c ≤ 191) else if i = 1 ∧ a = 237 then decide (128 ≤ c ∧ c ≤ 159) else if i = 1 ∧ a = 240 then decide (144 ≤ c ∧ c ≤ 191) else if i = 1 ∧ a = 244 then decide (128 ≤ c ∧ c ≤ 143) else decide (128 ≤ c ∧ c ≤ 191)
def at0 (l : List UInt8) (i : Nat) : Nat := (l[i]?.getD 0).toNat
/-- How many bytes behind this one fit. -/
def goodAt (l : List UInt8) : Nat → Nat → Nat
  | 0, n => n
  | f + 1, n => if n < l.length ∧ n < sizeN (at0 l 0) ∧ fitsN (at0 l 0) n (at0 l n) = true then goodAt l f (n + 1) else n
def goodN (l : List UInt8) : Nat := if l.length = 0 ∨ sizeN (at0 l 0) = 0 then 0 else goodAt l l.length 1
def pendR (l : List UInt8) : Bool := decide (1 ≤ l.length) && (decide (l.length ≤ 3) && (decide (goodN l = l.length) && decide (l.length < sizeN (at0 l 0))))
theorem at0_some {l : List UInt8} {i : Nat} {c : UInt8} (h : l[i]? = some c) : at0 l i = c.toNat := by rw [at0, h]; rfl
theorem good_on {l : List UInt8} {f n : Nat} {R : Nat} (h : R = goodAt l f n) (hf : l.length ≤ f + n) (h1 : n < l.length) (h2 : n < sizeN (at0 l 0)) (h3 : fitsN (at0 l 0) n (at0 l n) = true) : R = goodAt l (f - 1) (n + 1) ∧ l.length ≤ (f - 1) + (n + 1) := by
  obtain ⟨g, rfl⟩ : ∃ g, f = g + 1 := ⟨f - 1, by omega⟩
  rw [h, goodAt, if_pos ⟨h1, h2, h3⟩]; exact ⟨rfl, by omega⟩
theorem good_end {l : List UInt8} {f n : Nat} {R : Nat} (h : R = goodAt l f n) (h2 : ¬ (n < l.length ∧ n < sizeN (at0 l 0) ∧ fitsN (at0 l 0) n (at0 l n) = true)) : R = n := by
  rw [h]; cases f with
  | zero => rfl
  | succ f => rw [goodAt, if_neg h2]
theorem sizeN_le (c : Nat) : sizeN c ≤ 4 := by unfold sizeN; split; omega; split; omega; split; omega; split <;> omega
theorem goodAt_le (l : List UInt8) : ∀ (f n : Nat), n ≤ l.length → goodAt l f n ≤ l.length
  | 0, n, h => h
  | f + 1, n, h => by
    rw [goodAt]; split
    · rename_i h2; exact goodAt_le l f (n + 1) (by omega)
    · exact h

/-! ### A state out of bytes, as the document tells it -/
def TokR.bad : TokR := ⟨[], [], false, false, 2⟩
def refW (b : List UInt8) : Nat → Nat → Option (List Int × Nat)
  | 0, p => some ([], p)
  | k + 1, p => if (numGet (b.drop p)).2.2 ≠ 0 ∨ 1114111 < (numGet (b.drop p)).1 then none else (refW b k (p + (numGet (b.drop p)).2.1)).map fun r => (((numGet (b.drop p)).1 : Int) :: r.1, r.2)
def refPd (b : List UInt8) : List UInt8 := (b.take ((numGet b).2.1 + (numGet b).1)).drop (numGet b).2.1
def refP1 (b : List UInt8) : Nat := (numGet b).2.1 + (numGet b).1
def refN2 (b : List UInt8) : Nat × Nat × Int := numGet (b.drop (refP1 b))
def refEnd (b : List UInt8) (w : List Int) (p : Nat) : TokR := if p + 1 ≠ b.length ∨ 3 < at0 b p then TokR.bad else ⟨refPd b, w, decide (at0 b p % 2 = 1), decide (2 ≤ at0 b p), 0⟩
def refGet (b : List UInt8) : TokR :=
  if (numGet b).2.2 ≠ 0 ∨ b.length - (numGet b).2.1 < (numGet b).1 then TokR.bad
  else if 0 < (numGet b).1 ∧ pendR (refPd b) = false then TokR.bad
  else if (refN2 b).2.2 ≠ 0 ∨ 32 < (refN2 b).1 then TokR.bad
  else match refW b (refN2 b).1 (refP1 b + (refN2 b).2.1) with
    | none => TokR.bad
    | some r => refEnd b r.1 r.2
theorem ref_bad1 {b : List UInt8} (h : (numGet b).2.2 ≠ 0 ∨ b.length - (numGet b).2.1 < (numGet b).1) : refGet b = TokR.bad := by rw [refGet, if_pos h]
theorem ref_bad2 {b : List UInt8} (h1 : ¬ ((numGet b).2.2 ≠ 0 ∨ b.length - (numGet b).2.1 < (numGet b).1)) (h : 0 < (numGet b).1 ∧ pendR (refPd b) = false) : refGet b = TokR.bad := by rw [refGet, if_neg h1, if_pos h]
theorem ref_bad3 {b : List UInt8} (h : (refN2 b).2.2 ≠ 0 ∨ 32 < (refN2 b).1) : refGet b = TokR.bad := by
  unfold refGet
  split
  · rfl
  · split
    · rfl
    · first | rfl | rw [if_pos h]
theorem ref_on {b : List UInt8} (h1 : ¬ ((numGet b).2.2 ≠ 0 ∨ b.length - (numGet b).2.1 < (numGet b).1)) (h2 : ¬ (0 < (numGet b).1 ∧ pendR (refPd b) = false)) (h3 : ¬ ((refN2 b).2.2 ≠ 0 ∨ 32 < (refN2 b).1)) :
    refGet b = match refW b (refN2 b).1 (refP1 b + (refN2 b).2.1) with
    | none => TokR.bad
    | some r => refEnd b r.1 r.2 := by rw [refGet, if_neg h1, if_neg h2, if_neg h3]
theorem refW_bad {b : List UInt8} {n i p : Nat} {pre : List Int} {R : Option (List Int × Nat)} (h : R = (refW b (n - i) p).map fun r => (pre ++ r.1, r.2)) (hi : i < n) (hb : (numGet (b.drop p)).2.2 ≠ 0 ∨ 1114111 < (numGet (b.drop p)).1) : R = none := by
  obtain ⟨k, hk⟩ : ∃ k, n - i = k + 1 := ⟨n - i - 1, by omega⟩
  rw [h, hk, refW, if_pos hb]; rfl
theorem refW_next {b : List UInt8} {n i p : Nat} {pre : List Int} {R : Option (List Int × Nat)} (h : R = (refW b (n - i) p).map fun r => (pre ++ r.1, r.2)) (hi : i < n) (hb : ¬ ((numGet (b.drop p)).2.2 ≠ 0 ∨ 1114111 < (numGet (b.drop p)).1)) :
    R = (refW b (n - (i + 1)) (p + (numGet (b.drop p)).2.1)).map fun r => ((pre ++ [((numGet (b.drop p)).1 : Int)]) ++ r.1, r.2) := by
  obtain ⟨k, hk⟩ : ∃ k, n - i = k + 1 := ⟨n - i - 1, by omega⟩
  have e : n - (i + 1) = k := by omega
  rw [h, hk, refW, if_neg hb, e, Option.map_map]
  congr 1; funext r; simp
theorem refW_end {b : List UInt8} {n i p : Nat} {pre : List Int} {R : Option (List Int × Nat)} (h : R = (refW b (n - i) p).map fun r => (pre ++ r.1, r.2)) (hi : n ≤ i) : R = some (pre, p) := by
  have e : n - i = 0 := by omega
  rw [h, e, refW]; simp
theorem drop_num {b : List UInt8} {p : Nat} (hp : p ≤ b.length) (h : (numGet (b.drop p)).2.2 = 0) : p + (numGet (b.drop p)).2.1 ≤ b.length := by
  have := numGet_le h
  rw [List.length_drop] at this; omega
end Go.Proofs.YtndaogkpgoimlaaDoor

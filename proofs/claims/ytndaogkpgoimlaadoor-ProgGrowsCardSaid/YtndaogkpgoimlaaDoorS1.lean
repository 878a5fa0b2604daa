/- What layers 1, 4 compute, as functions of lists: plain definitions, no program in sight. -/
import Derived.Laws.RangeAny
import Derived.Laws.Cover4
namespace Go.Proofs.YtndaogkpgoimlaaDoor
open Go
/-- One well-formed sequence of more than a byte? -/
def utfWell (s : ByteArray) : Bool := decide (0 < s.size) && (decide (s.size = (Utf8.encode (((Utf8.decode s 0).1 : Nat) : Int)).size) && (decide (1 < s.size) && (decide ((Utf8.decode s 0).1 ≠ 65533) || decide (s = ⟨#[239, 191, 189]⟩))))
def tailsS : List ByteArray := [⟨#[128]⟩, ⟨#[128, 128]⟩, ⟨#[128, 128, 128]⟩, ⟨#[144, 128, 128]⟩, ⟨#[160, 128]⟩, ⟨#[144, 128]⟩]
def utfPending (l : List UInt8) : Bool := decide (1 ≤ l.length) && (decide (l.length ≤ 3) && tailsS.any fun t => utfWell (⟨l.toArray⟩ ++ t))
theorem sz_mk (l : List UInt8) : (⟨l.toArray⟩ : ByteArray).size = l.length := by simp [ByteArray.size]
theorem tails_size {j : Nat} {t : ByteArray} (h : tailsS[j]? = some t) : t.size ≤ 3 := by
  have : t ∈ tailsS := List.mem_of_getElem? h
  simp only [tailsS, List.mem_cons, List.not_mem_nil, or_false] at this
  rcases this with rfl | rfl | rfl | rfl | rfl | rfl <;> decide
theorem pending_no {l : List UInt8} (h : ∀ j, j < 6 → ∀ t, tailsS[j]? = some t → utfWell (⟨l.toArray⟩ ++ t) = false) : utfPending l = false := by
  have : (tailsS.any fun t => utfWell (⟨l.toArray⟩ ++ t)) = false := by
    rw [List.any_eq_false]
    intro t ht
    obtain ⟨j, hj⟩ := List.getElem?_of_mem ht
    have hlt := (List.getElem?_eq_some_iff.1 hj).1
    rw [h j hlt t hj]; simp
  simp [utfPending, this]
theorem pending_yes {l : List UInt8} {j : Nat} {t : ByteArray} (h1 : ¬ l.length < 1) (h2 : ¬ 3 < l.length) (ht : tailsS[j]? = some t) (h : utfWell (⟨l.toArray⟩ ++ t) = true) : utfPending l = true := by
  have : (tailsS.any fun t => utfWell (⟨l.toArray⟩ ++ t)) = true := List.any_eq_true.2 ⟨t, List.mem_of_getElem? ht, h⟩
  simp [utfPending, this]; omega
theorem pending_short {l : List UInt8} (h : l.length < 1) : utfPending l = false := by simp [utfPending]; omega
theorem pending_long {l : List UInt8} (h : 3 < l.length) : utfPending l = false := by simp [utfPending]; omega
/-- The runes of a text from a place on. -/
def runesAt (s : ByteArray) : Nat → Nat → List Int
  | 0, _ => []
  | f + 1, p => if p < s.size then (((Utf8.decode s p).1 : Nat) : Int) :: runesAt s f (p + (Utf8.decode s p).2) else []
def utfAll (l : List UInt8) : List Int := runesAt ⟨l.toArray⟩ l.length 0
/-- The runes of bytes up to where what is left is pending; and that. -/
def feedAt (l : List UInt8) : Nat → Nat → List Int × List UInt8
  | 0, _ => ([], [])
  | f + 1, p => if p < l.length then if utfPending (l.drop p) then ([], l.drop p) else
      ((((Utf8.decode ⟨l.toArray⟩ p).1 : Nat) : Int) :: (feedAt l f (p + (Utf8.decode ⟨l.toArray⟩ p).2)).1, (feedAt l f (p + (Utf8.decode ⟨l.toArray⟩ p).2)).2) else ([], [])
def utfFeed (pend chunk : List UInt8) : List Int × List UInt8 := feedAt (pend ++ chunk) (pend ++ chunk).length 0
theorem decode_wd (s : ByteArray) (p : Nat) (h : p < s.size) : 1 ≤ (Utf8.decode s p).2 := by
  by_cases ha : (s[p]'h).toNat < 128
  · rw [decode_ascii s p h ha]; exact Nat.le_refl _
  · exact (decode_high s p h (by omega)).2
theorem runesAt_end (s : ByteArray) (f p : Nat) (h : ¬ p < s.size) : runesAt s f p = [] := by
  cases f with
  | zero => rfl
  | succ f => simp [runesAt, h]
theorem runesAt_step (s : ByteArray) (f p : Nat) (h : p < s.size) : runesAt s (f + 1) p = (((Utf8.decode s p).1 : Nat) : Int) :: runesAt s f (p + (Utf8.decode s p).2) := by
  simp [runesAt, h]
theorem feedAt_end (l : List UInt8) (f p : Nat) (h : ¬ p < l.length) : feedAt l f p = ([], []) := by
  cases f with
  | zero => rfl
  | succ f => simp [feedAt, h]

theorem all_step {s : ByteArray} {pre R : List Int} {f p : Nat} (h : pre ++ runesAt s f p = R) (hf : s.size ≤ p + f) (hp : p < s.size) :
    (pre ++ [(((Utf8.decode s p).1 : Nat) : Int)]) ++ runesAt s (f - 1) (p + (Utf8.decode s p).2) = R ∧ s.size ≤ p + (Utf8.decode s p).2 + (f - 1) := by
  obtain ⟨g, rfl⟩ : ∃ g, f = g + 1 := ⟨f - 1, by omega⟩
  rw [runesAt_step s g p hp] at h
  have := decode_wd s p hp
  exact ⟨by simpa using h, by omega⟩
theorem all_end {s : ByteArray} {pre R : List Int} {f p : Nat} (h : pre ++ runesAt s f p = R) (hp : ¬ p < s.size) : pre = R := by
  rw [runesAt_end s f p hp] at h; simpa using h
theorem feedAt_step {l : List UInt8} {f p : Nat} (hp : p < l.length) (hq : utfPending (l.drop p) = false) :
    feedAt l (f + 1) p = ((((Utf8.decode ⟨l.toArray⟩ p).1 : Nat) : Int) :: (feedAt l f (p + (Utf8.decode ⟨l.toArray⟩ p).2)).1, (feedAt l f (p + (Utf8.decode ⟨l.toArray⟩ p).2)).2) := by
  simp [feedAt, hp, hq]
theorem feedAt_stop {l : List UInt8} {f p : Nat} (hp : p < l.length) (hq : utfPending (l.drop p) = true) : feedAt l (f + 1) p = ([], l.drop p) := by
  simp [feedAt, hp, hq]
theorem feed_step {l : List UInt8} {pre : List Int} {R : List Int × List UInt8} {f p : Nat} (h : (pre ++ (feedAt l f p).1, (feedAt l f p).2) = R) (hf : l.length ≤ p + f) (hp : p < l.length) (hq : utfPending (l.drop p) = false) :
    ((pre ++ [(((Utf8.decode ⟨l.toArray⟩ p).1 : Nat) : Int)]) ++ (feedAt l (f - 1) (p + (Utf8.decode ⟨l.toArray⟩ p).2)).1, (feedAt l (f - 1) (p + (Utf8.decode ⟨l.toArray⟩ p).2)).2) = R ∧ l.length ≤ p + (Utf8.decode ⟨l.toArray⟩ p).2 + (f - 1) := by
  obtain ⟨g, rfl⟩ : ∃ g, f = g + 1 := ⟨f - 1, by omega⟩
  rw [feedAt_step hp hq] at h
  have := decode_wd ⟨l.toArray⟩ p (by rw [sz_mk]; exact hp)
  exact ⟨by simpa using h, by omega⟩
theorem feed_stop {l : List UInt8} {pre : List Int} {R : List Int × List UInt8} {f p : Nat} (h : (pre ++ (feedAt l f p).1, (feedAt l f p).2) = R) (hf : l.length ≤ p + f) (hp : p < l.length) (hq : utfPending (l.drop p) = true) : (pre, l.drop p) = R := by
  obtain ⟨g, rfl⟩ : ∃ g, f = g + 1 := ⟨f - 1, by omega⟩
  rw [feedAt_stop hp hq] at h; simpa using h
theorem feed_end {l : List UInt8} {pre : List Int} {R : List Int × List UInt8} {f p : Nat} (h : (pre ++ (feedAt l f p).1, (feedAt l f p).2) = R) (hp : ¬ p < l.length) : (pre, []) = R := by
  rw [feedAt_end l f p hp] at h; simpa using h

/-! ### Numbers as bytes -/
def putN (n : Nat) : List UInt8 := if n < 128 then [UInt8.ofNat n] else UInt8.ofNat (n % 128 + 128) :: putN (n / 128)
decreasing_by omega
theorem putN_lt {n : Nat} (h : n < 128) : putN n = [UInt8.ofNat n] := by rw [putN, if_pos h]
theorem putN_ge {n : Nat} (h : ¬ n < 128) : putN n = UInt8.ofNat (n % 128 + 128) :: putN (n / 128) := by rw [putN, if_neg h]
theorem put_step {pre R : List UInt8} {m f : Nat} (h : pre ++ putN m = R) (hm : 128 ≤ m) (hf : m < 128 ^ f) : (pre ++ [UInt8.ofNat (m % 128 + 128)]) ++ putN (m / 128) = R ∧ m / 128 < 128 ^ (f - 1) ∧ 1 ≤ f := by
  rw [putN_ge (by omega)] at h
  obtain ⟨g, rfl⟩ : ∃ g, f = g + 1 := by
    cases f with
    | zero => simp at hf; omega
    | succ g => exact ⟨g, rfl⟩
  refine ⟨by simpa using h, ?_, by omega⟩
  rw [Nat.pow_succ] at hf
  exact Nat.div_lt_of_lt_mul (by rw [Nat.mul_comm]; exact hf)
theorem put_end {pre R : List UInt8} {m : Nat} (h : pre ++ putN m = R) (hm : ¬ 128 ≤ m) : pre ++ [UInt8.ofNat m] = R := by rw [putN_lt (by omega)] at h; exact h
theorem put_ten {x : Nat} (h : x < 18446744073709551616) : x < 128 ^ 10 := Nat.lt_of_lt_of_le h (by decide)
/-- Where the number with which bytes begin ends; nothing: they end before. -/
def scanTo (l : List UInt8) : Nat → Nat → Option Nat
  | 0, i => some i
  | f + 1, i => match l[i]? with
    | none => none
    | some c => if c.toNat < 128 then some i else scanTo l f (i + 1)
/-- The number of the bytes from a place up to another one, the lowest first. -/
def valN (l : List UInt8) : Nat → Nat → Nat
  | 0, _ => 0
  | f + 1, i => (l[i]?.getD 0).toNat % 128 + 128 * valN l f (i + 1)
def numGet (l : List UInt8) : Nat × Nat × Int := match scanTo l 10 0 with
  | none => (0, 0, 3)
  | some i => if i = 10 ∨ (i = 9 ∧ 1 < (l[9]?.getD 0).toNat) ∨ (0 < i ∧ (l[i]?.getD 0).toNat = 0) then (0, 0, 2) else (valN l (i + 1) 0, i + 1, 0)
theorem scan_short {l : List UInt8} {f i : Nat} {R : Option Nat} (h : R = scanTo l f i) (hf : f + i = 10) (hi : i < 10) (he : i = l.length) : R = none := by
  obtain ⟨g, rfl⟩ : ∃ g, f = g + 1 := ⟨f - 1, by omega⟩
  rw [h, scanTo, List.getElem?_eq_none (by omega)]
theorem scan_here {l : List UInt8} {f i : Nat} {R : Option Nat} {c : UInt8} (h : R = scanTo l f i) (hf : f + i = 10) (hi : i < 10) (hc : l[i]? = some c) (hl : c.toNat < 128) : R = some i := by
  obtain ⟨g, rfl⟩ : ∃ g, f = g + 1 := ⟨f - 1, by omega⟩
  rw [h, scanTo, hc]; simp [hl]
theorem scan_on {l : List UInt8} {f i : Nat} {R : Option Nat} {c : UInt8} (h : R = scanTo l f i) (hf : f + i = 10) (hi : i < 10) (hc : l[i]? = some c) (hl : ¬ c.toNat < 128) : R = scanTo l (f - 1) (i + 1) ∧ (f - 1) + (i + 1) = 10 := by
  obtain ⟨g, rfl⟩ : ∃ g, f = g + 1 := ⟨f - 1, by omega⟩
  rw [h, scanTo, hc]; simp [hl]; omega
theorem scan_ten {l : List UInt8} {f i : Nat} {R : Option Nat} (h : R = scanTo l f i) (hf : f + i = 10) (hi : ¬ i < 10) (h2 : i ≤ 10) : R = some i ∧ i = 10 := by
  obtain rfl : f = 0 := by omega
  exact ⟨h, by omega⟩
theorem valN_lt (l : List UInt8) : ∀ (f i : Nat), valN l f i < 128 ^ f
  | 0, i => by simp [valN]
  | f + 1, i => by
    have := valN_lt l f (i + 1)
    have h2 : 128 ^ (f + 1) = 128 * 128 ^ f := by rw [Nat.pow_succ]; omega
    simp only [valN]; omega
theorem valN_snoc (l : List UInt8) : ∀ (f i : Nat), valN l (f + 1) i = valN l f i + 128 ^ f * ((l[i + f]?.getD 0).toNat % 128)
  | 0, i => by simp [valN]
  | f + 1, i => by
    have h := valN_snoc l f (i + 1)
    have e : i + 1 + f = i + (f + 1) := by omega
    rw [e] at h
    rw [valN, h, valN, Nat.mul_add, Nat.pow_succ]
    generalize (l[i + (f + 1)]?.getD 0).toNat % 128 = q
    rw [← Nat.add_assoc, Nat.mul_comm (128 ^ f) 128, Nat.mul_assoc]
theorem val_fits {l : List UInt8} {i : Nat} (h : i ≤ 9) (h9 : ¬ (i = 9 ∧ 1 < (l[9]?.getD 0).toNat)) : valN l (i + 1) 0 < 18446744073709551616 := by
  by_cases hi : i = 9
  · subst hi
    rw [valN_snoc]
    have := valN_lt l 9 0
    have h2 : (l[0 + 9]?.getD 0).toNat % 128 ≤ 1 := by simp at h9 ⊢; omega
    have h3 : (128 : Nat) ^ 9 = 9223372036854775808 := by decide
    rw [h3] at this ⊢
    generalize (l[0 + 9]?.getD 0).toNat % 128 = q at h2
    have : q = 0 ∨ q = 1 := by omega
    rcases this with rfl | rfl <;> omega
  · have := valN_lt l (i + 1) 0
    have h3 : (128 : Nat) ^ (i + 1) ≤ 128 ^ 9 := Nat.pow_le_pow_right (by omega) (by omega)
    have h4 : (128 : Nat) ^ 9 = 9223372036854775808 := by decide
    omega
theorem val_step {l : List UInt8} {k i : Nat} {c : UInt8} (h : k ≤ i) (hc : l[i - k]? = some c) : (valN l k (i + 1 - k) % 18446744073709551616 * 128 + c.toNat % 128) % 18446744073709551616 = valN l (k + 1) (i + 1 - (k + 1)) % 18446744073709551616 := by
  have e : i + 1 - (k + 1) = i - k := by omega
  have e2 : i - k + 1 = i + 1 - k := by omega
  rw [e, valN, e2, hc]
  simp only [Option.getD_some]
  omega
theorem get_short {l : List UInt8} (h : scanTo l 10 0 = none) : numGet l = (0, 0, 3) := by rw [numGet, h]
theorem get_bad {l : List UInt8} {i : Nat} (h : scanTo l 10 0 = some i) (hb : i = 10 ∨ (i = 9 ∧ 1 < (l[9]?.getD 0).toNat) ∨ (0 < i ∧ (l[i]?.getD 0).toNat = 0)) : numGet l = (0, 0, 2) := by rw [numGet, h]; simp only; rw [if_pos hb]
theorem get_good {l : List UInt8} {i : Nat} (h : scanTo l 10 0 = some i) (hb : ¬ (i = 10 ∨ (i = 9 ∧ 1 < (l[9]?.getD 0).toNat) ∨ (0 < i ∧ (l[i]?.getD 0).toNat = 0))) : numGet l = (valN l (i + 1) 0, i + 1, 0) := by rw [numGet, h]; simp only; rw [if_neg hb]
end Go.Proofs.YtndaogkpgoimlaaDoor

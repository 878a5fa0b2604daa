/- What the document's decoding and its words compute: plain definitions and laws, no program in sight. -/
import Derived.Test.YtndaogkpgoimlaaS11
namespace Go.Proofs.Ytndaogkpgoimlaa
open Go
def oneC (l : List UInt8) : Nat → Nat → Int → Int
  | 0, _, c => c
  | k + 1, i, c => oneC l k (i + 1) (c * 64 + (at0 l i : Int) - 128)
def oneOff (n : Nat) : Int := if n = 2 then 192 else if n = 3 then 224 else if n = 4 then 240 else 0
theorem good_is {l : List UInt8} (h0 : l ≠ []) (hs : sizeN (at0 l 0) ≠ 0) : goodN l =
    if 1 < l.length ∧ 1 < sizeN (at0 l 0) ∧ fitsN (at0 l 0) 1 (at0 l 1) = true then
      if 2 < l.length ∧ 2 < sizeN (at0 l 0) ∧ fitsN (at0 l 0) 2 (at0 l 2) = true then
        if 3 < l.length ∧ 3 < sizeN (at0 l 0) ∧ fitsN (at0 l 0) 3 (at0 l 3) = true then 4 else 3 else 2 else 1 := by
  have hl : 0 < l.length := List.length_pos_iff.2 h0
  have h4 := sizeN_le (at0 l 0)
  obtain ⟨f, hf⟩ : ∃ f, l.length = f + 1 := ⟨l.length - 1, by omega⟩
  rw [goodN, if_neg (by omega)]
  generalize hL : l.length = L at hl hf ⊢
  subst hf
  rw [goodAt, hL]
  split
  · rename_i h1
    obtain ⟨g, rfl⟩ : ∃ g, f = g + 1 := ⟨f - 1, by omega⟩
    rw [goodAt, hL]
    split
    · rename_i h2
      obtain ⟨k, rfl⟩ : ∃ k, g = k + 1 := ⟨g - 1, by omega⟩
      rw [goodAt, hL]
      split
      · cases k with
        | zero => rfl
        | succ m => rw [goodAt, if_neg (by omega)]
      · rfl
    · rfl
  · rfl
theorem one_bad {l : List UInt8} (h0 : l ≠ []) (h : sizeN (at0 l 0) = 0 ∨ goodN l < sizeN (at0 l 0)) : Utf8.decode ⟨l.toArray⟩ 0 = (65533, 1) := by
  rw [decode_mk]
  simp only [Nat.sub_zero, Nat.zero_add]
  have hs := sizeN_or (at0 l 0)
  have hA := at0_lt l 0
  have hB := at0_lt l 1
  have hC := at0_lt l 2
  have hD := at0_lt l 3
  have hf1 := fits_one (at0 l 0) (at0 l 1)
  have hf2 := fits_cont (a := at0 l 0) (c := at0 l 2) (i := 2) (by decide)
  have hf3 := fits_cont (a := at0 l 0) (c := at0 l 3) (i := 3) (by decide)
  have hg := fun q => good_is h0 q
  have e1 : c2 (at0 l 0) (at0 l 1) = at0 l 0 % 32 * 64 + at0 l 1 % 64 := rfl
  have e2 : c3 (at0 l 0) (at0 l 1) (at0 l 2) = at0 l 0 % 16 * 4096 + at0 l 1 % 64 * 64 + at0 l 2 % 64 := rfl
  have e3 : c4 (at0 l 0) (at0 l 1) (at0 l 2) (at0 l 3) = at0 l 0 % 8 * 262144 + at0 l 1 % 64 * 4096 + at0 l 2 % 64 * 64 + at0 l 3 % 64 := rfl
  simp only [hf1, hf2, hf3] at hg
  clear hf1 hf2 hf3
  generalize at0 l 0 = A at *
  generalize at0 l 1 = B at *
  generalize at0 l 2 = C at *
  generalize at0 l 3 = D at *
  rcases hs with hs | hs | hs | hs | hs
  · have hg := hg (by omega)
    exfalso
    split at hg
    · split at hg
      · split at hg <;> omega
      · omega
    · omega
  · have hg := hg (by omega)
    have h5 : ¬ (1 < l.length ∧ 128 ≤ B ∧ B ≤ 191) := by
      intro q
      rw [if_pos ⟨q.1, by omega, by omega⟩] at hg
      split at hg
      · split at hg <;> omega
      · omega
    clear hg
    rcases decN_or l.length A B C D with h1 | h1 | h1 | h1 | h1
    · omega
    · omega
    · omega
    · omega
    · exact h1.2.2.2.2
  · have hg := hg (by omega)
    have h5 : ¬ (1 < l.length ∧ 128 ≤ B ∧ B ≤ 191 ∧ (A = 224 → 160 ≤ B) ∧ (A = 237 → B ≤ 159) ∧ 2 < l.length ∧ 128 ≤ C ∧ C ≤ 191) := by
      intro q
      rw [if_pos ⟨q.1, by omega, by omega⟩, if_pos ⟨by omega, by omega, by omega⟩] at hg
      split at hg <;> omega
    clear hg
    rcases decN_or l.length A B C D with h1 | h1 | h1 | h1 | h1
    · omega
    · omega
    · omega
    · omega
    · exact h1.2.2.2.2
  · have hg := hg (by omega)
    have h5 : ¬ (1 < l.length ∧ 128 ≤ B ∧ B ≤ 191 ∧ (A = 240 → 144 ≤ B) ∧ (A = 244 → B ≤ 143) ∧ 2 < l.length ∧ 128 ≤ C ∧ C ≤ 191 ∧ 3 < l.length ∧ 128 ≤ D ∧ D ≤ 191) := by
      intro q
      rw [if_pos ⟨q.1, by omega, by omega⟩, if_pos ⟨by omega, by omega, by omega⟩, if_pos ⟨by omega, by omega, by omega⟩] at hg
      omega
    clear hg
    rcases decN_or l.length A B C D with h1 | h1 | h1 | h1 | h1
    · omega
    · omega
    · omega
    · omega
    · exact h1.2.2.2.2
  · clear hg
    rcases decN_or l.length A B C D with h1 | h1 | h1 | h1 | h1
    · omega
    · omega
    · omega
    · omega
    · exact h1.2.2.2.2
theorem one_good {l : List UInt8} (h0 : l ≠ []) (h : ¬ (sizeN (at0 l 0) = 0 ∨ goodN l < sizeN (at0 l 0))) :
    (Utf8.decode ⟨l.toArray⟩ 0).2 = sizeN (at0 l 0) ∧ (((Utf8.decode ⟨l.toArray⟩ 0).1 : Nat) : Int) = oneC l (sizeN (at0 l 0) - 1) 1 ((at0 l 0 : Int) - oneOff (sizeN (at0 l 0))) := by
  rw [decode_mk]
  simp only [Nat.sub_zero, Nat.zero_add]
  have hs := sizeN_or (at0 l 0)
  have hA := at0_lt l 0
  have hB := at0_lt l 1
  have hC := at0_lt l 2
  have hD := at0_lt l 3
  have hf1 := fits_one (at0 l 0) (at0 l 1)
  have hf2 := fits_cont (a := at0 l 0) (c := at0 l 2) (i := 2) (by decide)
  have hf3 := fits_cont (a := at0 l 0) (c := at0 l 3) (i := 3) (by decide)
  have hg := good_is h0 (by omega)
  have e1 : c2 (at0 l 0) (at0 l 1) = at0 l 0 % 32 * 64 + at0 l 1 % 64 := rfl
  have e2 : c3 (at0 l 0) (at0 l 1) (at0 l 2) = at0 l 0 % 16 * 4096 + at0 l 1 % 64 * 64 + at0 l 2 % 64 := rfl
  have e3 : c4 (at0 l 0) (at0 l 1) (at0 l 2) (at0 l 3) = at0 l 0 % 8 * 262144 + at0 l 1 % 64 * 4096 + at0 l 2 % 64 * 64 + at0 l 3 % 64 := rfl
  simp only [hf1, hf2, hf3] at hg
  clear hf1 hf2 hf3
  have hv1 : ∀ c, oneC l 0 1 c = c := fun _ => rfl
  have hv2 : ∀ c, oneC l 1 1 c = c * 64 + (at0 l 1 : Int) - 128 := fun _ => rfl
  have hv3 : ∀ c, oneC l 2 1 c = (c * 64 + (at0 l 1 : Int) - 128) * 64 + (at0 l 2 : Int) - 128 := fun _ => rfl
  have hv4 : ∀ c, oneC l 3 1 c = ((c * 64 + (at0 l 1 : Int) - 128) * 64 + (at0 l 2 : Int) - 128) * 64 + (at0 l 3 : Int) - 128 := fun _ => rfl
  generalize at0 l 0 = A at *
  generalize at0 l 1 = B at *
  generalize at0 l 2 = C at *
  generalize at0 l 3 = D at *
  rcases hs with hs | hs | hs | hs | hs
  · rw [hs.2]
    rcases decN_or l.length A B C D with h1 | h1 | h1 | h1 | h1
    · rw [h1.2]; refine ⟨rfl, ?_⟩; show (A : Int) = oneC l 0 1 _; rw [hv1]; simp [oneOff]
    all_goals (exfalso; omega)
  · rw [hs.2.2]
    have h5 : 1 < l.length ∧ 128 ≤ B ∧ B ≤ 191 := by
      split at hg
      · omega
      · omega
    clear hg
    rcases decN_or l.length A B C D with h1 | h1 | h1 | h1 | h1
    · exfalso; omega
    · rw [h1.2.2.2.2]; refine ⟨rfl, ?_⟩; show ((c2 A B : Nat) : Int) = oneC l 1 1 _; rw [hv2, show oneOff 2 = 192 from rfl]; omega
    · exfalso; omega
    · exfalso; omega
    · exfalso; refine absurd ⟨?_, ?_, ?_, ?_⟩ h1.2.1 <;> clear h1 h <;> omega
  · rw [hs.2.2]
    have h5 : 1 < l.length ∧ 128 ≤ B ∧ B ≤ 191 ∧ (A = 224 → 160 ≤ B) ∧ (A = 237 → B ≤ 159) ∧ 2 < l.length ∧ 128 ≤ C ∧ C ≤ 191 := by
      split at hg
      · split at hg
        · omega
        · omega
      · omega
    clear hg
    rcases decN_or l.length A B C D with h1 | h1 | h1 | h1 | h1
    · exfalso; omega
    · exfalso; omega
    · rw [h1.2.2.2.2.2.2.2]; refine ⟨rfl, ?_⟩; show ((c3 A B C : Nat) : Int) = oneC l 2 1 _; rw [hv3, show oneOff 3 = 224 from rfl]; omega
    · exfalso; omega
    · exfalso; refine absurd ⟨?_, ?_, ?_, ?_, ?_, ?_, ?_⟩ h1.2.2.1 <;> clear h1 h <;> omega
  · rw [hs.2.2]
    have h5 : 1 < l.length ∧ 128 ≤ B ∧ B ≤ 191 ∧ (A = 240 → 144 ≤ B) ∧ (A = 244 → B ≤ 143) ∧ 2 < l.length ∧ 128 ≤ C ∧ C ≤ 191 ∧ 3 < l.length ∧ 128 ≤ D ∧ D ≤ 191 := by
      split at hg
      · split at hg
        · split at hg
          · omega
          · omega
        · omega
      · omega
    clear hg
    rcases decN_or l.length A B C D with h1 | h1 | h1 | h1 | h1
    · exfalso; omega
    · exfalso; omega
    · exfalso; omega
    · rw [h1.2.2.2.2.2.2.2.2.2]; refine ⟨rfl, ?_⟩; show ((c4 A B C D : Nat) : Int) = oneC l 3 1 _; rw [hv4, show oneOff 4 = 240 from rfl]; omega
    · exfalso; refine absurd ⟨?_, ?_, ?_, ?_, ?_, ?_, ?_, ?_, ?_⟩ h1.2.2.2.1 <;> clear h1 h <;> omega
  · exfalso; omega
theorem goodN_le (l : List UInt8) : goodN l ≤ l.length := by
  unfold goodN; split
  · exact Nat.zero_le _
  · exact goodAt_le l _ 1 (by omega)
theorem oneC_step {l : List UInt8} {n i : Nat} {c : Int} {R : Int} (h : R = oneC l (n - i) i c) (hi : i < n) : R = oneC l (n - (i + 1)) (i + 1) (c * 64 + (at0 l i : Int) - 128) := by
  obtain ⟨k, hk⟩ : ∃ k, n - i = k + 1 := ⟨n - i - 1, by omega⟩
  rw [h, hk, oneC, show n - (i + 1) = k by omega]
theorem oneC_end {l : List UInt8} {n i : Nat} {c : Int} {R : Int} (h : R = oneC l (n - i) i c) (hi : n ≤ i) : R = c := by
  rw [h, show n - i = 0 by omega]; rfl
/-! ### Letters at places -/
def getI (l : List Int) (i : Int) : Option Int := if 0 ≤ i then l[i.toNat]? else none
def letR (l : List Int) (i : Int) : Bool := match getI l i with
  | some c => letterN c
  | none => false
def marR (l : List Int) (i : Int) : Bool := match getI l i with
  | some c => markN c
  | none => false
def wthn (l : List Int) (i : Int) : Bool := letR l i || (marR l i && (letR l (i - 1) && letR l (i + 1)))
theorem getI_neg {l : List Int} {i : Int} (h : ¬ 0 ≤ i) : getI l i = none := if_neg h
theorem getI_out {l : List Int} {i : Int} (h : ¬ i < (l.length : Int)) : getI l i = none := by
  unfold getI; split
  · exact List.getElem?_eq_none (by omega)
  · rfl
theorem getI_at {l : List Int} {i : Int} {c : Int} (h0 : 0 ≤ i) (hx : l[i.toNat]? = some c) : getI l i = some c := by rw [getI, if_pos h0, hx]
theorem getI_nat (l : List Int) (q : Nat) : getI l (q : Int) = l[q]? := by rw [getI, if_pos (by omega)]; simp
theorem letR_none {l : List Int} {i : Int} (h : getI l i = none) : letR l i = false := by rw [letR, h]
theorem letR_some {l : List Int} {i : Int} {c : Int} (h : getI l i = some c) : letR l i = letterN c := by rw [letR, h]
theorem marR_none {l : List Int} {i : Int} (h : getI l i = none) : marR l i = false := by rw [marR, h]
theorem marR_some {l : List Int} {i : Int} {c : Int} (h : getI l i = some c) : marR l i = markN c := by rw [marR, h]
theorem head_drop (l : List Int) (q : Nat) : headL (l.drop q) = letR l (q : Int) := by
  unfold letR
  rw [getI_nat]
  cases h : l[q]? with
  | none => rw [List.drop_eq_nil_of_le (List.getElem?_eq_none_iff.1 h)]; rfl
  | some c =>
    obtain ⟨hq, rfl⟩ := List.getElem?_eq_some_iff.1 h
    rw [List.drop_eq_getElem_cons hq]; rfl
theorem run_end {l : List Int} {q : Nat} (h : ¬ q < l.length ∨ wthn l (q : Int) = false) : runS (letR l ((q : Int) - 1)) (l.drop q) = ([], 0) := by
  by_cases hq : q < l.length
  · have hw : wthn l (q : Int) = false := by rcases h with h | h; exact absurd hq h; exact h
    have hg : getI l (q : Int) = some l[q] := by rw [getI_nat]; exact List.getElem?_eq_getElem hq
    rw [List.drop_eq_getElem_cons hq, runS]
    unfold wthn at hw
    rw [letR_some hg, marR_some hg] at hw
    rw [head_drop]
    simp only [Bool.or_eq_false_iff] at hw
    rw [if_neg (by rw [hw.1]; decide), if_neg (by rw [show ((q + 1 : Nat) : Int) = (q : Int) + 1 by omega, hw.2]; decide)]
  · rw [List.drop_eq_nil_of_le (by omega)]; rfl
theorem run_letter {l : List Int} {q : Nat} {c : Int} (hx : l[q]? = some c) (h : letterN c = true) : runS (letR l ((q : Int) - 1)) (l.drop q) = (foldN c :: (runS (letR l (((q + 1 : Nat) : Int) - 1)) (l.drop (q + 1))).1, (runS (letR l (((q + 1 : Nat) : Int) - 1)) (l.drop (q + 1))).2 + 1) := by
  obtain ⟨hq, rfl⟩ := List.getElem?_eq_some_iff.1 hx
  have hg : letR l (((q + 1 : Nat) : Int) - 1) = true := by
    rw [show ((q + 1 : Nat) : Int) - 1 = (q : Int) by omega, letR_some (by rw [getI_nat]; exact hx), h]
  rw [List.drop_eq_getElem_cons hq, runS, if_pos h, hg]
theorem run_mark {l : List Int} {q : Nat} (hq : q < l.length) (hw : wthn l (q : Int) = true) (hl : letR l (q : Int) = false) : runS (letR l ((q : Int) - 1)) (l.drop q) = (39 :: (runS (letR l (((q + 1 : Nat) : Int) - 1)) (l.drop (q + 1))).1, (runS (letR l (((q + 1 : Nat) : Int) - 1)) (l.drop (q + 1))).2 + 1) := by
  have hg : getI l (q : Int) = some l[q] := by rw [getI_nat]; exact List.getElem?_eq_getElem hq
  have hl2 : letR l (((q + 1 : Nat) : Int) - 1) = false := by rw [show ((q + 1 : Nat) : Int) - 1 = (q : Int) by omega]; exact hl
  unfold wthn at hw
  rw [hl, Bool.false_or] at hw
  rw [letR_some hg] at hl
  rw [marR_some hg] at hw
  rw [List.drop_eq_getElem_cons hq, runS, if_neg (by rw [hl]; decide), head_drop, if_pos (by rw [show ((q + 1 : Nat) : Int) = (q : Int) + 1 by omega]; exact hw), hl2]
theorem run_next {p q : Nat} {w : List Int} {x : Int} {r r' : List Int × Nat} {R : List Int × Nat} (h : (w ++ r.1, (q - p) + r.2) = R) (hp : p ≤ q) (hr : r = (x :: r'.1, r'.2 + 1)) : ((w ++ [x]) ++ r'.1, (q + 1 - p) + r'.2) = R := by
  rw [← h, hr]; simp; omega
theorem dec_wd (l : List UInt8) (p : Nat) (h : p < l.length) : 1 ≤ (Utf8.decode ⟨l.toArray⟩ p).2 ∧ p + (Utf8.decode ⟨l.toArray⟩ p).2 ≤ l.length := by
  rw [decode_mk]
  have := decN_wd (n := l.length - p) (A := at0 l p) (B := at0 l (p + 1)) (C := at0 l (p + 2)) (D := at0 l (p + 3)) (by omega)
  omega
theorem run_stop {p q : Nat} {w : List Int} {r : List Int × Nat} {R : List Int × Nat} (h : (w ++ r.1, (q - p) + r.2) = R) (hr : r = ([], 0)) : (w, q - p) = R := by
  rw [← h, hr]; simp
theorem allS_next {l : List Int} {f p q : Nat} {w : List Int} {pre : List ByteArray} {R : List ByteArray} (h : pre ++ allS f (l.drop p) = R) (hf : l.length ≤ p + f) (hp : p < l.length) (hpq : p ≤ q) (hr : (w, q - p) = runS false (l.drop p)) :
    (pre ++ outS (w, q - p)) ++ allS (f - 1) (l.drop (q + 1)) = R ∧ l.length ≤ (q + 1) + (f - 1) := by
  obtain ⟨g, rfl⟩ : ∃ g, f = g + 1 := ⟨f - 1, by omega⟩
  rw [List.drop_eq_getElem_cons hp, allS_cons, ← List.drop_eq_getElem_cons hp, ← hr] at h
  simp only at h
  rw [List.drop_drop, show p + (q - p + 1) = q + 1 by omega] at h
  exact ⟨by simpa using h, by omega⟩
theorem allS_end {l : List Int} {f p : Nat} {pre : List ByteArray} {R : List ByteArray} (h : pre ++ allS f (l.drop p) = R) (hp : ¬ p < l.length) : pre = R := by
  rw [List.drop_eq_nil_of_le (by omega), allS_nil] at h; simpa using h
end Go.Proofs.Ytndaogkpgoimlaa

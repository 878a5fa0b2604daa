/- Numbers and states as bytes, and back: plain laws, no program in sight. -/
import Derived.Test.YtndaogkpgoimlaaDoorS4
namespace Go.Proofs.YtndaogkpgoimlaaDoor
open Go
/-! ### A number's bytes are read as that number -/
theorem putN_pos (n : Nat) : 0 < (putN n).length := by
  by_cases h : n < 128
  · rw [putN_lt h]; exact Nat.zero_lt_one
  · rw [putN_ge h]; exact Nat.succ_pos _
theorem get_mid {p q : List UInt8} {c : UInt8} : (p ++ c :: q)[p.length]? = some c := by simp
theorem scan_put : ∀ (f n : Nat) (p r : List UInt8), (putN n).length ≤ f → scanTo (p ++ (putN n ++ r)) f p.length = some (p.length + ((putN n).length - 1))
  | 0, n, p, r, h => by have := putN_pos n; omega
  | f + 1, n, p, r, h => by
    by_cases hn : n < 128
    · have hc : (p ++ (putN n ++ r))[p.length]? = some (UInt8.ofNat n) := by rw [putN_lt hn]; exact get_mid
      have ht : (UInt8.ofNat n).toNat < 128 := by simp; omega
      rw [scanTo, hc]; simp only [ht, if_true, putN_lt hn]; rfl
    · have hc : (p ++ (putN n ++ r))[p.length]? = some (UInt8.ofNat (n % 128 + 128)) := by rw [putN_ge hn]; exact get_mid
      have ht : ¬ (UInt8.ofNat (n % 128 + 128)).toNat < 128 := by simp; omega
      have hl : (putN n).length = (putN (n / 128)).length + 1 := by rw [putN_ge hn]; rfl
      have ih := scan_put f (n / 128) (p ++ [UInt8.ofNat (n % 128 + 128)]) r (by omega)
      have e : p ++ [UInt8.ofNat (n % 128 + 128)] ++ (putN (n / 128) ++ r) = p ++ (putN n ++ r) := by rw [putN_ge hn]; simp
      rw [e] at ih
      rw [scanTo, hc]; simp only [ht, if_false]
      have e2 : (p ++ [UInt8.ofNat (n % 128 + 128)]).length = p.length + 1 := by simp
      rw [e2] at ih
      rw [ih]; congr 1
      have := putN_pos (n / 128); omega
theorem val_put : ∀ (f n : Nat) (p r : List UInt8), (putN n).length = f → valN (p ++ (putN n ++ r)) f p.length = n
  | 0, n, p, r, h => by have := putN_pos n; omega
  | f + 1, n, p, r, h => by
    by_cases hn : n < 128
    · have hf : f = 0 := by rw [putN_lt hn] at h; simpa using h.symm
      subst hf
      have hc : (p ++ (putN n ++ r))[p.length]? = some (UInt8.ofNat n) := by rw [putN_lt hn]; exact get_mid
      rw [valN, hc, valN]; simp; omega
    · have hc : (p ++ (putN n ++ r))[p.length]? = some (UInt8.ofNat (n % 128 + 128)) := by rw [putN_ge hn]; exact get_mid
      have hl : (putN n).length = (putN (n / 128)).length + 1 := by rw [putN_ge hn]; rfl
      have ih := val_put f (n / 128) (p ++ [UInt8.ofNat (n % 128 + 128)]) r (by omega)
      have e : p ++ [UInt8.ofNat (n % 128 + 128)] ++ (putN (n / 128) ++ r) = p ++ (putN n ++ r) := by rw [putN_ge hn]; simp
      have e2 : (p ++ [UInt8.ofNat (n % 128 + 128)]).length = p.length + 1 := by simp
      rw [e, e2] at ih
      rw [valN, hc, ih]; simp; omega
/-- The last byte is the highest digit. -/
theorem last_put : ∀ (f n : Nat), (putN n).length = f + 1 → ∃ c, (putN n)[f]? = some c ∧ c.toNat * 128 ^ f ≤ n ∧ c.toNat < 128 ∧ (0 < f → c.toNat ≠ 0)
  | 0, n, h => by
    by_cases hn : n < 128
    · exact ⟨UInt8.ofNat n, by rw [putN_lt hn]; rfl, by simp; omega, by simp; omega, fun h => by omega⟩
    · rw [putN_ge hn] at h
      have := putN_pos (n / 128)
      rw [List.length_cons] at h; omega
  | f + 1, n, h => by
    by_cases hn : n < 128
    · rw [putN_lt hn] at h; simp at h
    · have hl : (putN (n / 128)).length = f + 1 := by rw [putN_ge hn] at h; simpa using h
      obtain ⟨c, h1, h2, h3, h4⟩ := last_put f (n / 128) hl
      refine ⟨c, by rw [putN_ge hn]; simpa using h1, ?_, h3, fun _ => ?_⟩
      · have : c.toNat * 128 ^ (f + 1) = c.toNat * 128 ^ f * 128 := by rw [Nat.pow_succ, Nat.mul_assoc]
        omega
      · cases f with
        | zero =>
          have hn2 : n / 128 < 128 := by
            by_cases h5 : n / 128 < 128
            · exact h5
            · rw [putN_ge h5] at hl
              have := putN_pos (n / 128 / 128)
              rw [List.length_cons] at hl; omega
          rw [putN_lt hn2] at h1
          simp at h1; subst h1
          simp; omega
        | succ f => exact h4 (by omega)
theorem get_put {n : Nat} (h : n < 18446744073709551616) (r : List UInt8) : numGet (putN n ++ r) = (n, (putN n).length, 0) := by
  have hl := putN_ten h
  have h0 := putN_pos n
  obtain ⟨f, hf⟩ : ∃ f, (putN n).length = f + 1 := ⟨(putN n).length - 1, by omega⟩
  have hs := scan_put 10 n [] r hl
  have hv := val_put (f + 1) n [] r hf
  simp only [List.nil_append, List.length_nil, Nat.zero_add, hf, Nat.add_sub_cancel] at hs hv
  obtain ⟨c, h1, h2, h3, h4⟩ := last_put f n hf
  have hc : (putN n ++ r)[f]? = some c := by rw [List.getElem?_append_left (by omega)]; exact h1
  rw [get_good hs ?_, hv, hf]
  rintro (q | ⟨q, w⟩ | ⟨q, w⟩)
  · omega
  · subst q
    rw [hc] at w
    simp only [Option.getD_some] at w
    rw [pow9] at h2
    omega
  · rw [hc] at w; exact h4 q w
/-- What is read is so put. -/
theorem val_pos (l : List UInt8) : ∀ (k i : Nat) (c : UInt8), l[i + k]? = some c → c.toNat % 128 ≠ 0 → 1 ≤ valN l (k + 1) i
  | 0, i, c, h, h0 => by rw [Nat.add_zero] at h; rw [valN, h]; simp only [Option.getD_some]; omega
  | k + 1, i, c, h, h0 => by
    have := val_pos l k (i + 1) c (by rw [show i + 1 + k = i + (k + 1) by omega]; exact h) h0
    rw [valN]; omega
theorem put_val (l : List UInt8) : ∀ (k i : Nat) (c : UInt8), (∀ j, j < k → ∃ d, l[i + j]? = some d ∧ ¬ d.toNat < 128) → l[i + k]? = some c → c.toNat < 128 → (0 < k → c.toNat ≠ 0) → putN (valN l (k + 1) i) = (l.drop i).take (k + 1)
  | 0, i, c, _, hc, hl, _ => by
    rw [Nat.add_zero] at hc
    obtain ⟨hi, rfl⟩ := List.getElem?_eq_some_iff.1 hc
    have e : valN l 1 i = l[i].toNat := by rw [valN, hc, valN]; simp; omega
    rw [e, putN_lt hl, List.drop_eq_getElem_cons hi, UInt8.ofNat_toNat]; rfl
  | k + 1, i, c, hj, hc, hl, h0 => by
    obtain ⟨d, hd, hdl⟩ := hj 0 (by omega)
    rw [Nat.add_zero] at hd
    obtain ⟨hi, rfl⟩ := List.getElem?_eq_some_iff.1 hd
    have hc' : l[i + 1 + k]? = some c := by rw [show i + 1 + k = i + (k + 1) by omega]; exact hc
    have ih := put_val l k (i + 1) c (fun j hjk => by
      obtain ⟨d, h1, h2⟩ := hj (j + 1) (by omega)
      exact ⟨d, by rw [show i + 1 + j = i + (j + 1) by omega]; exact h1, h2⟩) hc' hl (fun _ => h0 (by omega))
    have hp := val_pos l k (i + 1) c hc' (by have := h0 (by omega); omega)
    have hlt := l[i].toNat_lt
    rw [valN, hd]
    simp only [Option.getD_some]
    rw [putN_ge (by omega), List.drop_eq_getElem_cons hi, List.take_succ_cons, ← ih]
    have e1 : (l[i].toNat % 128 + 128 * valN l (k + 1) (i + 1)) / 128 = valN l (k + 1) (i + 1) := by omega
    have e2 : (l[i].toNat % 128 + 128 * valN l (k + 1) (i + 1)) % 128 + 128 = l[i].toNat := by omega
    rw [e1, e2]; simp
theorem scan_facts {l : List UInt8} : ∀ {f i j : Nat}, scanTo l f i = some j → j < i + f → i ≤ j ∧ (∃ c, l[j]? = some c ∧ c.toNat < 128) ∧ ∀ q, i ≤ q → q < j → ∃ d, l[q]? = some d ∧ ¬ d.toNat < 128
  | 0, i, j, h, hj => by simp [scanTo] at h; omega
  | f + 1, i, j, h, hj => by
    rw [scanTo] at h
    cases hc : l[i]? with
    | none => rw [hc] at h; cases h
    | some c =>
      rw [hc] at h
      simp only at h
      by_cases hl : c.toNat < 128
      · rw [if_pos hl] at h
        injection h with h; subst h
        exact ⟨Nat.le_refl _, ⟨c, hc, hl⟩, fun q h1 h2 => by omega⟩
      · rw [if_neg hl] at h
        obtain ⟨h1, h2, h3⟩ := scan_facts h (by omega)
        refine ⟨by omega, h2, fun q hq1 hq2 => ?_⟩
        by_cases e : q = i
        · subst e; exact ⟨c, hc, hl⟩
        · exact h3 q (by omega) hq2
theorem scan_le {l : List UInt8} : ∀ {f i j : Nat}, scanTo l f i = some j → j ≤ i + f
  | 0, i, j, h => by simp [scanTo] at h; omega
  | f + 1, i, j, h => by
    rw [scanTo] at h
    cases hc : l[i]? with
    | none => rw [hc] at h; cases h
    | some c =>
      rw [hc] at h
      simp only at h
      split at h
      · injection h with h; omega
      · have := scan_le h; omega
theorem put_get {l : List UInt8} (h : (numGet l).2.2 = 0) : putN (numGet l).1 ++ l.drop (numGet l).2.1 = l ∧ (putN (numGet l).1).length = (numGet l).2.1 ∧ (numGet l).1 < 18446744073709551616 := by
  have hle := numGet_le h
  unfold numGet at h hle ⊢
  cases hs : scanTo l 10 0 with
  | none => rw [hs] at h; cases h
  | some i =>
    rw [hs] at h hle
    simp only at h hle ⊢
    by_cases hb : i = 10 ∨ (i = 9 ∧ 1 < (l[9]?.getD 0).toNat) ∨ (0 < i ∧ (l[i]?.getD 0).toNat = 0)
    · rw [if_pos hb] at h; cases h
    · rw [if_neg hb] at h hle ⊢
      simp only at h hle ⊢
      have hi : i < 10 := by
        rcases scan_some hs with h1 | h1
        · exact absurd (.inl (by omega)) hb
        · rcases Nat.lt_or_ge i 10 with h2 | h2
          · exact h2
          · exact absurd (.inl (by have := scan_le hs; omega)) hb
      obtain ⟨_, ⟨c, hc, hcl⟩, hq⟩ := scan_facts hs (by omega)
      have hput := put_val l i 0 c (fun j hj => by rw [Nat.zero_add]; exact hq j (by omega) hj) (by rw [Nat.zero_add]; exact hc) hcl (fun h0 hz => hb (.inr (.inr ⟨h0, by rw [hc]; exact hz⟩)))
      rw [hput]
      refine ⟨by simp, by simp; omega, val_fits (by omega) fun ⟨h1, h2⟩ => hb (.inr (.inl ⟨h1, h2⟩))⟩
end Go.Proofs.YtndaogkpgoimlaaDoor

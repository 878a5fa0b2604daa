/- Runes of bytes: as the document decodes them, and whatever the bytes' parting: plain laws, no program in sight. -/
import Derived.Test.YtndaogkpgoimlaaS10
namespace Go.Proofs.Ytndaogkpgoimlaa
open Go
theorem byteAt_mk (l : List UInt8) (k : Nat) : byteAt ⟨l.toArray⟩ k = at0 l k := by
  unfold byteAt at0
  show ((l.toArray)[k]!).toNat = _
  rw [getElem!_def]
  cases h : l[k]? with
  | none => simp [h]; rfl
  | some c => simp [h]
theorem decode_mk (l : List UInt8) (p : Nat) : Utf8.decode ⟨l.toArray⟩ p = decN (l.length - p) (at0 l p) (at0 l (p + 1)) (at0 l (p + 2)) (at0 l (p + 3)) := by
  rw [decode_eq, sz_mk, byteAt_mk, byteAt_mk, byteAt_mk, byteAt_mk]
theorem at0_drop (l : List UInt8) (p k : Nat) : at0 (l.drop p) k = at0 l (p + k) := by simp [at0, List.getElem?_drop]
theorem dec_drop (l : List UInt8) (p : Nat) : Utf8.decode ⟨(l.drop p).toArray⟩ 0 = Utf8.decode ⟨l.toArray⟩ p := by
  rw [decode_mk, decode_mk, at0_drop, at0_drop, at0_drop, at0_drop, List.length_drop]; simp
theorem at0_lt (l : List UInt8) (k : Nat) : at0 l k < 256 := by unfold at0; exact UInt8.toNat_lt _
theorem decN_wd {n A B C D : Nat} (h : 0 < n) : 1 ≤ (decN n A B C D).2 ∧ (decN n A B C D).2 ≤ n := by
  rcases decN_or n A B C D with h1 | h1 | h1 | h1 | h1
  · rw [h1.2]; exact ⟨Nat.le_refl _, h⟩
  · rw [h1.2.2.2.2]; dsimp only; omega
  · rw [h1.2.2.2.2.2.2.2]; dsimp only; omega
  · rw [h1.2.2.2.2.2.2.2.2.2]; dsimp only; omega
  · rw [h1.2.2.2.2]; dsimp only; omega
/-! ### What isn't pending decodes alike, whatever follows -/
theorem dec_one {A B C D B' C' D' n : Nat} (hA : A < 256) (h : ¬ (194 ≤ A ∧ A ≤ 244)) : decN 1 A B C D = decN n A B' C' D' := by
  have e1 : ∀ x y, c2 x y = x % 32 * 64 + y % 64 := fun _ _ => rfl
  have e2 : ∀ x y z, c3 x y z = x % 16 * 4096 + y % 64 * 64 + z % 64 := fun _ _ _ => rfl
  have e3 : ∀ x y z w, c4 x y z w = x % 8 * 262144 + y % 64 * 4096 + z % 64 * 64 + w % 64 := fun _ _ _ _ => rfl
  have f1 := e1 A B'
  have f2 := e2 A B' C'
  have f3 := e3 A B' C' D'
  clear e1 e2 e3
  rcases decN_or 1 A B C D with h1 | h1 | h1 | h1 | h1 <;> rcases decN_or n A B' C' D' with h2 | h2 | h2 | h2 | h2
  all_goals first
    | (rw [h1.2, h2.2]; done)
    | (rw [h1.2.2.2.2, h2.2.2.2.2]; done)
    | (exfalso; clear h1; omega)
    | (exfalso; clear h2; omega)
    | (exfalso; omega)
theorem dec_two {A B C D C' D' n : Nat} (hA : A < 256) (hB : B < 256) (hn : 2 ≤ n) (h : ¬ (224 ≤ A ∧ A ≤ 244 ∧ fitsN A 1 B = true)) : decN 2 A B C D = decN n A B C' D' := by
  rw [fits_one] at h
  have f2 : c3 A B C' = A % 16 * 4096 + B % 64 * 64 + C' % 64 := rfl
  have f3 : c4 A B C' D' = A % 8 * 262144 + B % 64 * 4096 + C' % 64 * 64 + D' % 64 := rfl
  rcases decN_or 2 A B C D with h1 | h1 | h1 | h1 | h1 <;> rcases decN_or n A B C' D' with h2 | h2 | h2 | h2 | h2
  all_goals first
    | (rw [h1.2, h2.2]; done)
    | (rw [h1.2.2.2.2, h2.2.2.2.2]; done)
    | (exfalso; clear h1; omega)
    | (exfalso; clear h2; omega)
    | (exfalso; have q1 := h1.1; have q2 := h2.1; clear h1 h2; omega)
    | (exfalso; have q1 := h1.1; have q2 := h2.2.1; clear h1; exact q2 ⟨by omega, by omega, by omega, by omega⟩)
    | (exfalso; have q1 := h2.1; have q2 := h1.2.1; clear h2; exact q2 ⟨by omega, by omega, by omega, by omega⟩)
    | (exfalso; have q1 := h1.2.1; have q2 := h2.1; have q3 := h2.2.2.2.1; exact q1 ⟨q2, by omega, h2.2.2.1, q3⟩)
    | (exfalso; have q1 := h2.2.1; have q2 := h1.1; have q3 := h1.2.2.2.1; exact q1 ⟨q2, by omega, h1.2.2.1, q3⟩)
theorem dec_three {A B C D D' n : Nat} (hA : A < 256) (hB : B < 256) (hC : C < 256) (hn : 3 ≤ n) (h : ¬ W4 A B C 128) : decN 3 A B C D = decN n A B C D' := by
  unfold W4 at h
  have f3 : c4 A B C D' = A % 8 * 262144 + B % 64 * 4096 + C % 64 * 64 + D' % 64 := rfl
  rcases decN_or 3 A B C D with h1 | h1 | h1 | h1 | h1 <;> rcases decN_or n A B C D' with h2 | h2 | h2 | h2 | h2
  all_goals first
    | (rw [h1.2, h2.2]; done)
    | (rw [h1.2.2.2.2, h2.2.2.2.2]; done)
    | (rw [h1.2.2.2.2.2.2.2, h2.2.2.2.2.2.2.2]; done)
    | (exfalso; clear h1; omega)
    | (exfalso; clear h2; omega)
    | (exfalso; have q1 := h1.1; have q2 := h2.1; clear h1 h2; omega)
    | (exfalso; have q1 := h1.2.1; exact q1 ⟨h2.1, by omega, h2.2.2.1, h2.2.2.2.1⟩)
    | (exfalso; have q1 := h2.2.1; exact q1 ⟨h1.1, by omega, h1.2.2.1, h1.2.2.2.1⟩)
    | (exfalso; have q1 := h1.2.2.1; exact q1 ⟨h2.1, by omega, h2.2.2.1, by omega, h2.2.2.2.2.1, h2.2.2.2.2.2.1, h2.2.2.2.2.2.2.1⟩)
    | (exfalso; have q1 := h2.2.2.1; exact q1 ⟨h1.1, by omega, h1.2.2.1, by omega, h1.2.2.2.2.1, h1.2.2.2.2.2.1, h1.2.2.2.2.2.2.1⟩)
theorem dec_four {A B C D n m : Nat} (hn : 4 ≤ n) (hm : 4 ≤ m) : decN n A B C D = decN m A B C D := by
  unfold decN
  simp only [show (1 < n) = True from eq_true (by omega), show (2 < n) = True from eq_true (by omega), show (3 < n) = True from eq_true (by omega), show (1 < m) = True from eq_true (by omega), show (2 < m) = True from eq_true (by omega), show (3 < m) = True from eq_true (by omega)]
theorem dec_app {t : List UInt8} (h0 : t ≠ []) (h : utfPending t = false) (r : List UInt8) : Utf8.decode ⟨(t ++ r).toArray⟩ 0 = Utf8.decode ⟨t.toArray⟩ 0 := by
  rw [decode_mk, decode_mk]
  simp only [Nat.sub_zero, Nat.zero_add, List.length_append]
  have hp : ¬ utfPending t = true := by rw [h]; decide
  have e : ∀ k, k < t.length → at0 (t ++ r) k = at0 t k := fun k hk => by unfold at0; rw [List.getElem?_append_left hk]
  rcases t with _ | ⟨a, _ | ⟨b, _ | ⟨c, _ | ⟨d, q⟩⟩⟩⟩
  · exact absurd rfl h0
  · rw [pend1] at hp
    rw [e 0 (Nat.zero_lt_one)]
    exact (dec_one a.toNat_lt hp).symm
  · rw [pend2] at hp
    rw [e 0 (Nat.succ_pos _), e 1 (Nat.lt_of_lt_of_le (by decide : 1 < 2) (Nat.le_refl _))]
    exact (dec_two a.toNat_lt b.toNat_lt (Nat.le_add_right 2 _) hp).symm
  · rw [pend3] at hp
    rw [e 0 (Nat.succ_pos _), e 1 (Nat.lt_of_lt_of_le (by decide : 1 < 3) (Nat.le_refl _)), e 2 (Nat.lt_of_lt_of_le (by decide : 2 < 3) (Nat.le_refl _))]
    exact (dec_three a.toNat_lt b.toNat_lt c.toNat_lt (Nat.le_add_right 3 _) hp).symm
  · have hl : 4 ≤ (a :: b :: c :: d :: q).length := Nat.le_add_left 4 _
    rw [e 0 (by omega), e 1 (by omega), e 2 (by omega), e 3 (by omega)]
    exact dec_four (by omega) hl
/-! ### All runes, one by one -/
theorem runesAt_drop (l : List UInt8) : ∀ (f p : Nat), runesAt ⟨l.toArray⟩ f p = runesAt ⟨(l.drop p).toArray⟩ f 0
  | 0, p => rfl
  | f + 1, p => by
    by_cases hp : p < l.length
    · rw [runesAt_step _ _ _ (by rw [sz_mk]; exact hp), runesAt_step _ _ _ (by rw [sz_mk]; simp; omega), dec_drop, runesAt_drop l f (p + _), runesAt_drop (l.drop p) f (0 + _)]
      rw [List.drop_drop, Nat.zero_add]
    · rw [runesAt_end _ _ _ (by rw [sz_mk]; exact hp), runesAt_end _ _ _ (by rw [sz_mk]; simp; omega)]
theorem runes_fuel (s : ByteArray) : ∀ (f g p : Nat), s.size ≤ p + f → s.size ≤ p + g → runesAt s f p = runesAt s g p
  | 0, g, p, hf, _ => by rw [runesAt_end s 0 p (by omega), runesAt_end s g p (by omega)]
  | f + 1, 0, p, _, hg => by rw [runesAt_end s _ p (by omega), runesAt_end s 0 p (by omega)]
  | f + 1, g + 1, p, hf, hg => by
    by_cases hp : p < s.size
    · have := decode_wd s p hp
      rw [runesAt_step s f p hp, runesAt_step s g p hp, runes_fuel s f g _ (by omega) (by omega)]
    · rw [runesAt_end s _ p hp, runesAt_end s _ p hp]
theorem utfAll_nil : utfAll [] = [] := rfl
theorem utfAll_cons {l : List UInt8} (h : l ≠ []) : utfAll l = (((Utf8.decode ⟨l.toArray⟩ 0).1 : Nat) : Int) :: utfAll (l.drop (Utf8.decode ⟨l.toArray⟩ 0).2) := by
  have hl : 0 < l.length := List.length_pos_iff.2 h
  unfold utfAll
  obtain ⟨f, hf⟩ : ∃ f, l.length = f + 1 := ⟨l.length - 1, by omega⟩
  rw [hf, runesAt_step _ _ _ (by rw [sz_mk]; exact hl), runesAt_drop, Nat.zero_add]
  congr 1
  have := decode_wd ⟨l.toArray⟩ 0 (by rw [sz_mk]; exact hl)
  exact runes_fuel _ _ _ _ (by rw [sz_mk]; simp; omega) (by rw [sz_mk]; simp)
theorem feed_all (l r : List UInt8) : ∀ (f p : Nat), l.length ≤ p + f → p ≤ l.length → utfAll (l.drop p ++ r) = (feedAt l f p).1 ++ utfAll ((feedAt l f p).2 ++ r) ∧ ((feedAt l f p).2 = [] ∨ utfPending (feedAt l f p).2 = true)
  | 0, p, hf, hp => by
    have : l.drop p = [] := List.drop_eq_nil_of_le (by omega)
    rw [this, feedAt_end l 0 p (by omega)]; simp
  | f + 1, p, hf, hp => by
    by_cases hlt : p < l.length
    · have hne : l.drop p ≠ [] := by intro h; have := congrArg List.length h; simp at this; omega
      cases hq : utfPending (l.drop p) with
      | true => rw [feedAt_stop hlt hq]; exact ⟨by simp, .inr hq⟩
      | false =>
        rw [feedAt_step hlt hq]
        have hw := decN_wd (n := l.length - p) (A := at0 l p) (B := at0 l (p + 1)) (C := at0 l (p + 2)) (D := at0 l (p + 3)) (by omega)
        rw [← decode_mk] at hw
        obtain ⟨ih1, ih2⟩ := feed_all l r f (p + (Utf8.decode ⟨l.toArray⟩ p).2) (by omega) (by omega)
        refine ⟨?_, ih2⟩
        rw [utfAll_cons (by simp [hne]), dec_app hne hq, dec_drop]
        have hd : (l.drop p ++ r).drop (Utf8.decode ⟨l.toArray⟩ p).2 = l.drop (p + (Utf8.decode ⟨l.toArray⟩ p).2) ++ r := by
          rw [List.drop_append_of_le_length (by simp; omega), List.drop_drop]
        rw [hd, ih1]; rfl
    · have : l.drop p = [] := List.drop_eq_nil_of_le (by omega)
      rw [this, feedAt_end l _ p hlt]; simp
theorem utfFeed_all (q k r : List UInt8) : utfAll ((q ++ k) ++ r) = (utfFeed q k).1 ++ utfAll ((utfFeed q k).2 ++ r) := by
  have := (feed_all (q ++ k) r (q ++ k).length 0 (by omega) (by omega)).1
  simpa [utfFeed] using this
theorem utfFeed_pend (q k : List UInt8) : (utfFeed q k).2 = [] ∨ utfPending (utfFeed q k).2 = true := (feed_all (q ++ k) [] (q ++ k).length 0 (by omega) (by omega)).2
end Go.Proofs.Ytndaogkpgoimlaa

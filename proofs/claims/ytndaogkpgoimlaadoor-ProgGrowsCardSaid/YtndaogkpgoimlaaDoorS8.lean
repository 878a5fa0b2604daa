/- A state's bytes are read as that state, by the program and by the document; so both read any bytes alike: plain laws, no program in sight. -/
import Derived.Test.YtndaogkpgoimlaaDoorS7
namespace Go.Proofs.YtndaogkpgoimlaaDoor
open Go
def validS (pd : List UInt8) (wd : List Int) : Prop := (pd.length = 0 ∨ utfPending pd = true) ∧ wd.length ≤ 32 ∧ ∀ c ∈ wd, 0 ≤ c ∧ c ≤ 1114111
theorem pend_len {pd : List UInt8} (h : utfPending pd = true) : pd.length ≤ 3 := by
  simp only [utfPending, Bool.and_eq_true, decide_eq_true_eq] at h; exact h.2.1
theorem validS.len {pd wd} (h : validS pd wd) : pd.length ≤ 3 := by
  rcases h.1 with h1 | h1
  · omega
  · exact pend_len h1
theorem numberG_put {m n : Nat} (hn : n ≤ m) (hm : m < 18446744073709551616) (r : List UInt8) (bad : Int) : numberG m (putN n ++ r) bad = (n, r, bad) := by
  have hg := get_put (show n < 18446744073709551616 by omega) r
  have h1 : (numGet (putN n ++ r)).1 = n := by rw [hg]
  have h2 : (numGet (putN n ++ r)).2.1 = (putN n).length := by rw [hg]
  have h3 : (numGet (putN n ++ r)).2.2 = 0 := by rw [hg]
  rw [numberG_good h3 (by rw [h1]; omega), h1, h2]; simp
theorem putWord_cons (c : Int) (cs : List Int) (r : List UInt8) : putWord (c :: cs) ++ r = putN c.toNat ++ (putWord cs ++ r) := by simp [putWord]
theorem wordG_put : ∀ (wd : List Int), (∀ c ∈ wd, 0 ≤ c ∧ c ≤ 1114111) → ∀ (r : List UInt8) (bad : Int), wordG wd.length (putWord wd ++ r) bad = (wd, r, bad)
  | [], _, r, bad => rfl
  | c :: cs, h, r, bad => by
    have hc := h c (by simp)
    rw [putWord_cons, List.length_cons, wordG, numberG_put (by omega) (by omega)]
    simp only
    rw [wordG_put cs (fun d hd => h d (by simp [hd]))]
    simp only
    rw [Int.toNat_of_nonneg hc.1]
theorem tokPut_assoc (pd : List UInt8) (wd : List Int) (mk lg : Bool) : tokPut pd wd mk lg = putN pd.length ++ (pd ++ (putN wd.length ++ (putWord wd ++ [flagN mk lg]))) := by simp [tokPut]
theorem flag_put (mk lg : Bool) : [flagN mk lg] = putN (flagN mk lg).toNat ++ [] := by
  cases mk <;> cases lg <;> (rw [putN_lt (by decide)]; decide)
theorem tok_put {pd : List UInt8} {wd : List Int} (h : validS pd wd) (mk lg : Bool) : tokGet (tokPut pd wd mk lg) = ⟨pd, wd, mk, lg, 0⟩ := by
  have hl := h.len
  have h1 : numberG 32 (tokPut pd wd mk lg) 0 = (pd.length, pd ++ (putN wd.length ++ (putWord wd ++ [flagN mk lg])), 0) := by
    rw [tokPut_assoc]; exact numberG_put (by omega) (by omega) _ _
  have hm : tokMin (tokPut pd wd mk lg) = pd.length := by
    unfold tokMin; rw [h1]; simp only [List.length_append]; omega
  have hp : tokPd (tokPut pd wd mk lg) = pd := by unfold tokPd; rw [hm, h1]; simp
  have h2 : tokL2 (tokPut pd wd mk lg) = putN wd.length ++ (putWord wd ++ [flagN mk lg]) := by unfold tokL2; rw [hm, h1]; simp
  have h3 : tokG2 (tokPut pd wd mk lg) = (wd.length, putWord wd ++ [flagN mk lg], 0) := by
    unfold tokG2; rw [h2, h1]; exact numberG_put h.2.1 (by omega) _ _
  have h4 : tokW (tokPut pd wd mk lg) = (wd, [flagN mk lg], 0) := by unfold tokW; rw [h3]; exact wordG_put wd h.2.2 _ _
  have h5 : tokG3 (tokPut pd wd mk lg) = ((flagN mk lg).toNat, [], 0) := by
    unfold tokG3; rw [h4]; simp only; rw [flag_put]; exact numberG_put (by cases mk <;> cases lg <;> decide) (by omega) _ _
  have h6 : tokMk (tokPut pd wd mk lg) = mk := by unfold tokMk; rw [h5]; cases mk <;> cases lg <;> decide
  have h7 : tokLg (tokPut pd wd mk lg) = lg := by unfold tokLg; rw [h5]; cases mk <;> cases lg <;> decide
  have hok : tokOk (tokPut pd wd mk lg) = true := by
    unfold tokOk
    rw [h5, hp, h4, h6, h7]
    have := h.1
    simpa using this
  rw [tokGet, if_pos hok, hp, h4, h6, h7]
theorem tok_valid {b : List UInt8} (h : (tokGet b).err = 0) : validS (tokGet b).pd (tokGet b).wd := by
  unfold tokGet at h ⊢
  split
  · rename_i hk
    simp only [tokOk, Bool.and_eq_true, Bool.or_eq_true, decide_eq_true_eq] at hk
    exact ⟨hk.2.1, tokW_len b, tokW_le b⟩
  · rename_i hk; rw [if_neg hk] at h; cases h
theorem refW_put (b : List UInt8) : ∀ (wd : List Int) (p : Nat) (r : List UInt8), (∀ c ∈ wd, 0 ≤ c ∧ c ≤ 1114111) → b.drop p = putWord wd ++ r → refW b wd.length p = some (wd, p + (putWord wd).length)
  | [], p, r, _, _ => by simp [refW, putWord]
  | c :: cs, p, r, h, hb => by
    have hc := h c (by simp)
    rw [putWord_cons] at hb
    have hg := get_put (show c.toNat < 18446744073709551616 by omega) (putWord cs ++ r)
    rw [← hb] at hg
    have h1 : (numGet (b.drop p)).1 = c.toNat := by rw [hg]
    have h2 : (numGet (b.drop p)).2.1 = (putN c.toNat).length := by rw [hg]
    have h3 : (numGet (b.drop p)).2.2 = 0 := by rw [hg]
    have hb2 : b.drop (p + (putN c.toNat).length) = putWord cs ++ r := by
      rw [← List.drop_drop, hb]; simp
    rw [List.length_cons, refW, if_neg (by rw [h1, h3]; omega), h2, refW_put b cs _ r (fun d hd => h d (by simp [hd])) hb2, h1]
    simp only [Option.map_some, Option.some.injEq, Prod.mk.injEq]
    refine ⟨by rw [Int.toNat_of_nonneg hc.1], ?_⟩
    simp [putWord]; omega
theorem flag_at {b q : List UInt8} {f : UInt8} (h : b = q ++ [f]) : at0 b q.length = f.toNat := by
  subst h; simp [at0]
theorem ref_put {pd : List UInt8} {wd : List Int} (h : validS pd wd) (mk lg : Bool) : refGet (tokPut pd wd mk lg) = ⟨pd, wd, mk, lg, 0⟩ := by
  have hl := h.len
  have hb : tokPut pd wd mk lg = putN pd.length ++ (pd ++ (putN wd.length ++ (putWord wd ++ [flagN mk lg]))) := tokPut_assoc pd wd mk lg
  generalize hbb : tokPut pd wd mk lg = b at hb ⊢
  have hg : numGet b = (pd.length, (putN pd.length).length, 0) := by rw [hb]; exact get_put (by omega) _
  have hpd : refPd b = pd := by
    unfold refPd; rw [hg, hb]; simp only
    rw [List.take_length_add_append]; simp
  have hp1 : refP1 b = (putN pd.length).length + pd.length := by unfold refP1; rw [hg]
  have hd1 : b.drop (refP1 b) = putN wd.length ++ (putWord wd ++ [flagN mk lg]) := by rw [hp1, hb]; simp [← List.drop_drop]
  have hn2 : refN2 b = (wd.length, (putN wd.length).length, 0) := by unfold refN2; rw [hd1]; exact get_put (by have := h.2.1; omega) _
  have hd2 : b.drop (refP1 b + (refN2 b).2.1) = putWord wd ++ [flagN mk lg] := by rw [← List.drop_drop, hd1, hn2]; simp
  have hw := refW_put b wd (refP1 b + (refN2 b).2.1) [flagN mk lg] h.2.2 hd2
  have hlen : b.length = (putN pd.length).length + (pd.length + ((putN wd.length).length + ((putWord wd).length + 1))) := by rw [hb]; simp
  have hf : at0 b (refP1 b + (refN2 b).2.1 + (putWord wd).length) = (flagN mk lg).toNat := by
    have e : b = (putN pd.length ++ (pd ++ (putN wd.length ++ putWord wd))) ++ [flagN mk lg] := by rw [hb]; simp
    have := flag_at e
    rw [← this]; congr 1
    rw [hp1, hn2]; simp; omega
  have hf3 : (flagN mk lg).toNat ≤ 3 := by cases mk <;> cases lg <;> decide
  rw [ref_on (by rw [hg]; simp only; omega) (by rw [hg, hpd, pend_eq]; rcases h.1 with h1 | h1 <;> simp [h1]) (by rw [hn2]; simp only; have := h.2.1; omega)]
  rw [show (refN2 b).1 = wd.length by rw [hn2], hw]
  simp only [refEnd]
  rw [if_neg (by rw [hf]; rw [hp1, hn2]; simp only; omega), hf, hpd]
  cases mk <;> cases lg <;> rfl
theorem refW_back (b : List UInt8) : ∀ (n p : Nat) (w : List Int) (q : Nat), p ≤ b.length → refW b n p = some (w, q) → b.drop p = putWord w ++ b.drop q ∧ w.length = n ∧ q ≤ b.length ∧ ∀ c ∈ w, 0 ≤ c ∧ c ≤ 1114111
  | 0, p, w, q, hp, h => by
    simp only [refW, Option.some.injEq, Prod.mk.injEq] at h
    obtain ⟨rfl, rfl⟩ := h
    exact ⟨by simp [putWord], rfl, hp, fun c h => by cases h⟩
  | n + 1, p, w, q, hp, h => by
    rw [refW] at h
    by_cases hb : (numGet (b.drop p)).2.2 ≠ 0 ∨ 1114111 < (numGet (b.drop p)).1
    · rw [if_pos hb] at h; cases h
    · rw [if_neg hb] at h
      obtain ⟨⟨w', q'⟩, h1, h2⟩ := Option.map_eq_some_iff.1 h
      simp only [Prod.mk.injEq] at h2
      obtain ⟨rfl, rfl⟩ := h2
      have h0 : (numGet (b.drop p)).2.2 = 0 := by omega
      have hle := drop_num hp h0
      obtain ⟨i1, i2, i3, i4⟩ := refW_back b n _ w' q' hle h1
      obtain ⟨g1, g2, g3⟩ := put_get h0
      refine ⟨?_, by simp [i2], i3, ?_⟩
      · rw [putWord_cons, Int.toNat_natCast, ← i1, ← List.drop_drop, g1]
      · intro c hc
        rcases List.mem_cons.1 hc with rfl | hc
        · omega
        · exact i4 c hc
theorem ref_back {b : List UInt8} (h : (refGet b).err = 0) : validS (refGet b).pd (refGet b).wd ∧ tokPut (refGet b).pd (refGet b).wd (refGet b).mrk (refGet b).lg = b := by
  by_cases h1 : (numGet b).2.2 ≠ 0 ∨ b.length - (numGet b).2.1 < (numGet b).1
  · rw [ref_bad1 h1] at h; cases h
  by_cases h2 : 0 < (numGet b).1 ∧ pendR (refPd b) = false
  · rw [ref_bad2 h1 h2] at h; cases h
  by_cases h3 : (refN2 b).2.2 ≠ 0 ∨ 32 < (refN2 b).1
  · rw [ref_bad3 h3] at h; cases h
  have hg0 : (numGet b).2.2 = 0 := by omega
  have hle := numGet_le hg0
  obtain ⟨g1, g2, g3⟩ := put_get hg0
  have hp1 : refP1 b ≤ b.length := by unfold refP1; omega
  have hpl : (refPd b).length = (numGet b).1 := by simp only [refPd, List.length_drop, List.length_take]; omega
  have hn0 : (numGet (b.drop (refP1 b))).2.2 = 0 := by show (refN2 b).2.2 = 0; omega
  have hp2 : refP1 b + (refN2 b).2.1 ≤ b.length := drop_num hp1 hn0
  obtain ⟨n1, n2, n3⟩ := put_get hn0
  rw [ref_on h1 h2 h3] at h ⊢
  cases hw : refW b (refN2 b).1 (refP1 b + (refN2 b).2.1) with
  | none => rw [hw] at h; cases h
  | some r =>
    obtain ⟨w, q⟩ := r
    rw [hw] at h
    obtain ⟨i1, i2, i3, i4⟩ := refW_back b _ _ w q hp2 hw
    simp only [refEnd] at h ⊢
    by_cases he : q + 1 ≠ b.length ∨ 3 < at0 b q
    · rw [if_pos he] at h; cases h
    · rw [if_neg he] at h ⊢
      simp only
      have hq : q < b.length := by omega
      have hat : at0 b q = b[q].toNat := at0_some (List.getElem?_eq_getElem hq)
      have hdq : b.drop q = [b[q]] := by
        rw [List.drop_eq_getElem_cons hq, List.drop_eq_nil_of_le (by omega)]
      have hflag : flagN (decide (at0 b q % 2 = 1)) (decide (2 ≤ at0 b q)) = b[q] := by
        apply UInt8.toNat_inj.1
        have h3 : at0 b q ≤ 3 := by omega
        rw [← hat]
        generalize at0 b q = f at h3
        have : f = 0 ∨ f = 1 ∨ f = 2 ∨ f = 3 := by omega
        rcases this with rfl | rfl | rfl | rfl <;> decide
      refine ⟨⟨?_, by rw [i2]; omega, i4⟩, ?_⟩
      · rw [hpl, ← pend_eq]
        by_cases h0 : (numGet b).1 = 0
        · exact .inl h0
        · right
          cases hpr : pendR (refPd b) with
          | true => rfl
          | false => exact absurd ⟨by omega, hpr⟩ h2
      · rw [tokPut_assoc, hflag, hpl, i2, ← hdq, ← i1]
        have e1 : b.drop (refP1 b) = putN (refN2 b).1 ++ b.drop (refP1 b + (refN2 b).2.1) := by
          rw [← List.drop_drop]; exact n1.symm
        rw [← e1]
        have e2 : refPd b ++ b.drop (refP1 b) = b.drop (numGet b).2.1 := by
          unfold refPd refP1
          rw [← List.drop_drop, List.drop_take, Nat.add_sub_cancel_left, List.take_append_drop]
        rw [e2, g1]
theorem ref_bad {b : List UInt8} (h : (refGet b).err ≠ 0) : refGet b = TokR.bad := by
  unfold refGet at h ⊢
  split at h
  · rename_i h1; rw [if_pos h1]
  · rename_i h1
    rw [if_neg h1]
    split at h
    · rename_i h2; rw [if_pos h2]
    · rename_i h2
      rw [if_neg h2]
      split at h
      · rename_i h3; rw [if_pos h3]
      · rename_i h3
        rw [if_neg h3]
        split at h
        · rfl
        · rename_i r h4
          simp only [refEnd] at h ⊢
          split at h
          · rename_i h5; rw [if_pos h5]
          · exact absurd rfl h
/-- Both read any bytes alike. -/
theorem ref_tok (b : List UInt8) : refGet b = tokGet b := by
  by_cases h : (refGet b).err = 0
  · obtain ⟨h1, h2⟩ := ref_back h
    have h3 := tok_put h1 (refGet b).mrk (refGet b).lg
    rw [h2] at h3
    rw [h3, ← h]
  · by_cases h4 : (tokGet b).err = 0
    · have h5 := ref_put (tok_valid h4) (tokGet b).mrk (tokGet b).lg
      rw [tok_back h4] at h5
      rw [h5] at h; exact absurd rfl h
    · rw [ref_bad h, tok_bad h4]; rfl
end Go.Proofs.YtndaogkpgoimlaaDoor

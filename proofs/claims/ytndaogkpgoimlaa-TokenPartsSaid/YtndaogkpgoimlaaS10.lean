/- Words as the document tells them, in runs, are the words that the program tells, letter by letter: plain laws, no program in sight. -/
import Derived.Test.YtndaogkpgoimlaaS9
namespace Go.Proofs.Ytndaogkpgoimlaa
open Go
def headL : List Int → Bool
  | [] => false
  | c :: _ => letterN c
/-- The run of letters, and of marks between letters, with which these begin; was the one before a letter? -/
def runS : Bool → List Int → List Int × Nat
  | _, [] => ([], 0)
  | pl, c :: cs => if letterN c then (foldN c :: (runS true cs).1, (runS true cs).2 + 1) else if markN c && (pl && headL cs) then (39 :: (runS false cs).1, (runS false cs).2 + 1) else ([], 0)
def outS (r : List Int × Nat) : List ByteArray := if 0 < r.2 ∧ r.2 ≤ 32 then [runesBytes r.1] else []
def allS : Nat → List Int → List ByteArray
  | 0, _ => []
  | f + 1, cs => if cs.length = 0 then [] else outS (runS false cs) ++ allS f (cs.drop ((runS false cs).2 + 1))
theorem runS_len : ∀ (pl : Bool) (cs : List Int), (runS pl cs).1.length = (runS pl cs).2 ∧ (runS pl cs).2 ≤ cs.length
  | _, [] => ⟨rfl, Nat.le_refl _⟩
  | pl, c :: cs => by
    have h1 := runS_len true cs
    have h2 := runS_len false cs
    rw [runS]
    split
    · simp only [List.length_cons]; omega
    · split
      · simp only [List.length_cons]; omega
      · exact ⟨rfl, Nat.zero_le _⟩
theorem allS_nil (f : Nat) : allS f [] = [] := by cases f <;> rfl
theorem allS_cons (f : Nat) (c : Int) (cs : List Int) : allS (f + 1) (c :: cs) = outS (runS false (c :: cs)) ++ allS f ((c :: cs).drop ((runS false (c :: cs)).2 + 1)) := by
  rw [allS, if_neg (by simp)]
theorem allS_fuel : ∀ (f g : Nat) (cs : List Int), cs.length ≤ f → cs.length ≤ g → allS f cs = allS g cs
  | 0, g, cs, hf, _ => by
    obtain rfl : cs = [] := List.eq_nil_of_length_eq_zero (by omega)
    rw [allS_nil, allS_nil]
  | f + 1, 0, cs, _, hg => by
    obtain rfl : cs = [] := List.eq_nil_of_length_eq_zero (by omega)
    rw [allS_nil, allS_nil]
  | f + 1, g + 1, cs, hf, hg => by
    rw [allS, allS]
    split
    · rfl
    · rw [allS_fuel f g _ (by simp; omega) (by simp; omega)]
/-- The state in the midst of a run. -/
def stS (t : List Int) : List Int × Bool × Bool := if t.length ≤ 32 then (t, false, false) else ([], false, true)
def finS (r : List ByteArray × List Int × Bool × Bool) : List ByteArray := r.1 ++ flushW r.2.1 r.2.2.2
theorem fin_cons (o : List ByteArray) (r : List ByteArray × List Int × Bool × Bool) : finS (o ++ r.1, r.2) = o ++ finS r := by simp [finS]
theorem feed_cons (s : List Int × Bool × Bool) (c : Int) (cs : List Int) : finS (feedW s (c :: cs)) = (stepW s c).1 ++ finS (feedW (stepW s c).2 cs) := by rw [feedW]; exact fin_cons _ _
theorem st_in {t : List Int} (h : t.length ≤ 32) : stS t = (t, false, false) := if_pos h
theorem st_long {t : List Int} (h : ¬ t.length ≤ 32) : stS t = ([], false, true) := if_neg h
theorem letterW_one (t : List Int) (c : Int) : letterW t false false c = stS (t ++ [foldN c]) := by
  have e : ((t ++ if (false : Bool) = true then [39] else []) ++ [foldN c]) = t ++ [foldN c] := by simp
  by_cases h : 32 < (t ++ [foldN c]).length
  · rw [letterW_over (by rw [e]; exact h), st_long (by omega)]
  · rw [letterW_in (by rw [e]; exact h), e, st_in (by omega)]
theorem letterW_two (t : List Int) (c : Int) : letterW t true false c = stS (t ++ [39, foldN c]) := by
  have e : ((t ++ if (true : Bool) = true then [39] else []) ++ [foldN c]) = t ++ [39, foldN c] := by simp
  by_cases h : 32 < (t ++ [39, foldN c]).length
  · rw [letterW_over (by rw [e]; exact h), st_long (by omega)]
  · rw [letterW_in (by rw [e]; exact h), e, st_in (by omega)]
theorem step_in (t : List Int) (c : Int) (h : letterN c = true) : stepW (stS t) c = ([], stS (t ++ [foldN c])) := by
  unfold stepW
  rw [if_pos h]
  by_cases ht : t.length ≤ 32
  · rw [st_in ht, letterW_one]
  · rw [st_long ht, letterW_long, st_long (by rw [List.length_append]; omega)]
theorem flush_st (t : List Int) : flushW (stS t).1 (stS t).2.2 = outS (t, t.length) := by
  unfold stS outS
  by_cases ht : t.length ≤ 32
  · rw [if_pos ht]
    by_cases h0 : 0 < t.length
    · rw [if_pos ⟨h0, ht⟩, flushW, if_pos (by simp [h0])]
    · rw [if_neg (by omega), flushW, if_neg (by simp [h0])]
  · rw [if_neg ht, if_neg (by omega)]; rfl
theorem on_st (t : List Int) : onW (stS t).1 (stS t).2.2 = decide (0 < t.length) := by
  unfold stS onW
  by_cases ht : t.length ≤ 32
  · rw [if_pos ht]; simp
  · rw [if_neg ht]; simp; omega
theorem step_two (t : List Int) (c d : Int) (hc : letterN c = false) (hm : markN c = true) (ht : 0 < t.length) (hd : letterN d = true) : stepW (stS t) c = ([], ((stS t).1, true, (stS t).2.2)) ∧ stepW ((stS t).1, true, (stS t).2.2) d = ([], stS (t ++ [39, foldN d])) := by
  constructor
  · unfold stepW
    have hon := on_st t
    have hmk : (stS t).2.1 = false := by unfold stS; split <;> rfl
    simp [hc, hm, hon, ht, hmk]
  · unfold stepW
    rw [if_pos hd]
    by_cases h32 : t.length ≤ 32
    · rw [st_in h32, letterW_two]
    · rw [st_long h32, letterW_long, st_long (by rw [List.length_append]; omega)]
theorem words_run : ∀ (n : Nat) (cs t : List Int), cs.length ≤ n → finS (feedW (stS t) cs) = outS (t ++ (runS (decide (0 < t.length)) cs).1, t.length + (runS (decide (0 < t.length)) cs).2) ++ allS n (cs.drop ((runS (decide (0 < t.length)) cs).2 + 1))
  | n, [], t, _ => by
    simp only [feedW, finS, List.nil_append, runS, List.append_nil, Nat.add_zero, List.drop_nil, allS_nil]
    exact flush_st t
  | 0, c :: cs, t, h => by simp at h
  | n + 1, c :: cs, t, h => by
    have hcs : cs.length ≤ n := by simpa using h
    rw [feed_cons]
    by_cases hl : letterN c = true
    · rw [step_in t c hl, words_run n cs (t ++ [foldN c]) hcs]
      have e : decide (0 < (t ++ [foldN c]).length) = true := by simp
      rw [e, runS, if_pos hl]
      simp only [List.nil_append, List.append_assoc, List.singleton_append, List.length_append, List.length_singleton, List.drop_succ_cons]
      rw [show t.length + 1 + (runS true cs).2 = t.length + ((runS true cs).2 + 1) by omega]
      congr 1
      exact allS_fuel _ _ _ (by simp; omega) (by simp; omega)
    · have hl' : letterN c = false := by simpa using hl
      by_cases hm : (markN c && (decide (0 < t.length) && headL cs)) = true
      · simp only [Bool.and_eq_true, decide_eq_true_eq] at hm
        cases cs with
        | nil => exact absurd hm.2.2 (by decide)
        | cons d ds =>
          have hd : letterN d = true := hm.2.2
          obtain ⟨s1, s2⟩ := step_two t c d hl' hm.1 hm.2.1 hd
          have hds : ds.length ≤ n := by simp at hcs; omega
          rw [s1]
          simp only [List.nil_append]
          rw [feed_cons, s2, words_run n ds (t ++ [39, foldN d]) hds]
          have e : decide (0 < (t ++ [39, foldN d]).length) = true := by simp
          rw [e, runS, if_neg hl, if_pos (by simp [hm.1, hm.2.1, headL, hd])]
          rw [runS, if_pos hd]
          simp only [List.nil_append, List.append_assoc, List.cons_append, List.length_append, List.length_cons, List.length_nil, List.drop_succ_cons]
          rw [show t.length + (0 + 1 + 1) + (runS true ds).2 = t.length + ((runS true ds).2 + 1 + 1) by omega]
          congr 1
          exact allS_fuel _ _ _ (by simp; omega) (by simp; omega)
      · -- the run ends here
        have hr : runS (decide (0 < t.length)) (c :: cs) = ([], 0) := by rw [runS, if_neg hl, if_neg hm]
        rw [hr]
        simp only [List.append_nil, Nat.add_zero, Nat.zero_add, List.drop_succ_cons, List.drop_zero]
        have hmk : (stS t).2.1 = false := by unfold stS; split <;> rfl
        by_cases hq : (markN c && decide (0 < t.length)) = true
        · -- a mark behind a letter, and no letter behind it
          simp only [Bool.and_eq_true, decide_eq_true_eq] at hq
          have hh : headL cs = false := by
            cases hx : headL cs with
            | false => rfl
            | true => exact absurd (by simp [hq.1, hq.2, hx]) hm
          have hs : stepW (stS t) c = ([], ((stS t).1, true, (stS t).2.2)) := by
            unfold stepW; simp [hl', hq.1, on_st, hq.2, hmk]
          rw [hs]
          cases cs with
          | nil =>
            simp only [feedW, finS, List.nil_append, allS_nil, List.append_nil]
            exact flush_st t
          | cons d ds =>
            have hd : letterN d = false := hh
            simp only [List.nil_append]
            have hs2 : stepW ((stS t).1, true, (stS t).2.2) d = (flushW (stS t).1 (stS t).2.2, ([], false, false)) := by
              unfold stepW; simp [hd]
            have hds : ds.length ≤ n := by simp at hcs; omega
            rw [feed_cons, hs2, flush_st]
            simp only
            have ih := words_run n ds [] hds
            have e0 : stS [] = ([], false, false) := rfl
            rw [e0] at ih
            rw [ih]
            congr 1
            have ef : decide (0 < ([] : List Int).length) = false := rfl
            rw [ef]
            cases n with
            | zero => simp at hcs
            | succ m =>
              have hr2 : runS false (d :: ds) = ([], 0) := by rw [runS, if_neg (by rw [hd]; decide), if_neg (by simp)]
              rw [allS_cons, hr2]
              simp only [Nat.zero_add, List.drop_succ_cons, List.drop_zero]
              have : outS ([], 0) = [] := rfl
              rw [this, List.nil_append]
              cases ds with
              | nil => simp [runS, allS_nil, outS]
              | cons d2 ds2 =>
                cases m with
                | zero => simp at hds hcs
                | succ m2 =>
                  rw [allS_cons]
                  simp only [List.nil_append, List.length_nil, Nat.zero_add]
                  congr 1
                  exact allS_fuel _ _ _ (by simp at hds hcs ⊢; omega) (by simp at hds hcs ⊢; omega)
        · have hs : stepW (stS t) c = (flushW (stS t).1 (stS t).2.2, ([], false, false)) := by
            unfold stepW; rw [if_neg hl, if_neg]
            rw [on_st, hmk]
            intro hx; apply hq
            simp only [Bool.and_eq_true, decide_eq_true_eq] at hx ⊢
            exact ⟨hx.1, hx.2.1⟩
          rw [hs, flush_st]
          simp only
          have ih := words_run n cs [] hcs
          have e0 : stS [] = ([], false, false) := rfl
          rw [e0] at ih
          rw [ih]
          have ef : decide (0 < ([] : List Int).length) = false := rfl
          rw [ef]
          congr 1
          cases cs with
          | nil => simp [runS, allS_nil, outS]
          | cons d2 ds2 =>
            rw [allS_cons]
            simp only [List.nil_append, List.length_nil, Nat.zero_add]
theorem all_eq (l : List Int) : allW l = allS l.length l := by
  have h := words_run l.length l [] (Nat.le_refl _)
  have e0 : stS [] = ([], false, false) := rfl
  have ef : decide (0 < ([] : List Int).length) = false := rfl
  rw [e0, ef] at h
  show finS (feedW ([], false, false) l) = _
  rw [h]
  cases l with
  | nil => rfl
  | cons c cs =>
    rw [List.length_cons, allS_cons]
    simp only [List.nil_append, List.length_nil, Nat.zero_add]
    congr 1
    exact allS_fuel _ _ _ (by simp <;> omega) (by simp <;> omega)
end Go.Proofs.Ytndaogkpgoimlaa

/- What layer 22 computes, as functions of lists: plain definitions, no program in sight. -/
import Derived.Test.YtndaogkpgoimlaaDoorS8
namespace Go.Proofs.YtndaogkpgoimlaaDoor
open Go
/-- Numbers one behind the other; below nought as nought. -/
def putAll (l : List Int) : List UInt8 := l.flatMap fun c => putN c.toNat
theorem putAll_next {pre R : List UInt8} {l : List Int} {i : Nat} {c : Int} (h : pre ++ putAll (l.drop i) = R) (hx : l[i]? = some c) : (pre ++ putN c.toNat) ++ putAll (l.drop (i + 1)) = R := putWord_next h hx
theorem putAll_end {pre R : List UInt8} {l : List Int} {i : Nat} (h : pre ++ putAll (l.drop i) = R) (hi : l.length ≤ i) : pre = R := putWord_end h hi
def fours (ph fl of_ nx : Int) : List Int := [ph, fl, of_, nx]
def progPut (ph fl of_ nx : Int) (rs : List Int) (pd : List UInt8) (wd : List Int) (mk lg : Bool) : List UInt8 :=
  ((putAll (fours ph fl of_ nx) ++ putN rs.length) ++ putAll rs) ++ tokPut pd wd mk lg
theorem putWord_len : ∀ (wd : List Int), (∀ c ∈ wd, c < 4294967296) → (putWord wd).length ≤ 10 * wd.length
  | [], _ => Nat.le_refl _
  | c :: cs, h => by
    have h1 := putN_ten (n := c.toNat) (by have := h c (by simp); omega)
    have h2 := putWord_len cs fun d hd => h d (by simp [hd])
    have e : (putWord (c :: cs)).length = (putN c.toNat).length + (putWord cs).length := by simp [putWord]
    rw [e, List.length_cons]; omega
theorem tokPut_len {pd : List UInt8} {wd : List Int} (mk lg : Bool) (hp : pd.length ≤ 100000000000) (hw : wd.length ≤ 10000000000) (hc : ∀ c ∈ wd, c < 4294967296) : (tokPut pd wd mk lg).length ≤ 300000000000 := by
  have h1 := putN_ten (n := pd.length) (by omega)
  have h2 := putN_ten (n := wd.length) (by omega)
  have h3 := putWord_len wd hc
  simp only [tokPut, List.length_append, List.length_singleton]; omega
/-! ### What a state may be -/
def cmpN (x y : Int) : Int := if x < y then -1 else if y < x then 1 else 0
def soundN (pd : List UInt8) (wd : List Int) (mk lg : Bool) : Bool :=
  decide ((tokGet (tokPut pd wd mk lg)).err = 0) && (decide ((tokGet (tokPut pd wd mk lg)).pd = pd) && (decide ((tokGet (tokPut pd wd mk lg)).wd = wd) && (((tokGet (tokPut pd wd mk lg)).mrk == mk) && ((tokGet (tokPut pd wd mk lg)).lg == lg))))
def in40 (n : Int) : Bool := decide (0 ≤ n) && decide (n ≤ 1099511627776)
def gtPrev (p : Option Int) (n : Int) : Bool := match p with
  | none => true
  | some q => decide (q < n)
def runsOk (nx : Int) : Option Int → List Int → Bool
  | _, [] => true
  | p, n :: r => (decide (0 ≤ n) && (decide (n < nx) && gtPrev p n)) && runsOk nx (some n) r
def prevOf (l : List Int) (i : Nat) : Option Int := if i = 0 then none else l[i - 1]?
def mayN (ph fl of_ nx : Int) (rs : List Int) (pd : List UInt8) (wd : List Int) (mk lg : Bool) : Bool :=
  (fours ph fl of_ nx).all in40 && (runsOk nx none rs && (decide (ph ≤ 2) && (decide (rs.length ≤ 10000) && soundN pd wd mk lg)))
theorem take_all_next {α : Type} {p : α → Bool} {l : List α} {i : Nat} {x : α} (h : (l.take i).all p = true) (hx : l[i]? = some x) (hp : p x = true) : (l.take (i + 1)).all p = true := by
  obtain ⟨hi, rfl⟩ := List.getElem?_eq_some_iff.1 hx
  rw [List.take_succ_eq_append_getElem hi, List.all_append, h]; simp [hp]
theorem all_bad {α : Type} {p : α → Bool} {l : List α} {i : Nat} {x : α} (hx : l[i]? = some x) (hp : p x = false) : l.all p = false := by
  rw [List.all_eq_false]; exact ⟨x, List.mem_of_getElem? hx, by simp [hp]⟩
theorem prev_next {l : List Int} {i : Nat} {x : Int} (hx : l[i]? = some x) : prevOf l (i + 1) = some x := by rw [prevOf, if_neg (by omega)]; simpa using hx
theorem runs_step {nx : Int} {l : List Int} {i : Nat} {x : Int} (hx : l[i]? = some x) : runsOk nx (prevOf l i) (l.drop i) = ((decide (0 ≤ x) && (decide (x < nx) && gtPrev (prevOf l i) x)) && runsOk nx (prevOf l (i + 1)) (l.drop (i + 1))) := by
  obtain ⟨hi, rfl⟩ := List.getElem?_eq_some_iff.1 hx
  rw [List.drop_eq_getElem_cons hi, runsOk, prev_next hx]
theorem runs_next {nx : Int} {l : List Int} {i : Nat} {x : Int} {R : Bool} (h : R = runsOk nx (prevOf l i) (l.drop i)) (hx : l[i]? = some x) (h0 : 0 ≤ x) (h1 : x < nx) (h2 : i = 0 ∨ ∃ y, l[i - 1]? = some y ∧ y < x) : R = runsOk nx (prevOf l (i + 1)) (l.drop (i + 1)) := by
  rw [h, runs_step hx]
  rcases h2 with rfl | ⟨y, hy, hlt⟩
  · simp [prevOf, gtPrev, h0, h1]
  · by_cases hz : i = 0
    · subst hz; simp [prevOf, gtPrev, h0, h1]
    · have e : prevOf l i = some y := by rw [prevOf, if_neg hz]; exact hy
      rw [e]; simp [gtPrev, h0, h1, hlt]
theorem runs_bad {nx : Int} {l : List Int} {i : Nat} {x : Int} {R : Bool} (h : R = runsOk nx (prevOf l i) (l.drop i)) (hx : l[i]? = some x) (hb : ¬ (0 ≤ x ∧ x < nx) ∨ (0 < i ∧ ∃ y, l[i - 1]? = some y ∧ x ≤ y)) : R = false := by
  rw [h, runs_step hx]
  rcases hb with hb | ⟨hi, y, hy, hle⟩
  · by_cases h0 : 0 ≤ x
    · have : ¬ x < nx := fun q => hb ⟨h0, q⟩
      simp [this]
    · simp [h0]
  · have e : prevOf l i = some y := by rw [prevOf, if_neg (by omega)]; exact hy
    rw [e]; have : ¬ y < x := by omega
    simp [gtPrev, this]
theorem runs_end {nx : Int} {l : List Int} {i : Nat} {R : Bool} (h : R = runsOk nx (prevOf l i) (l.drop i)) (hi : l.length ≤ i) : R = true := by
  rw [h, List.drop_eq_nil_of_le hi, runsOk]
/-! ### Which of two has come less far -/
def lessL : List Int → List Int → Bool
  | x :: xs, y :: ys => if cmpN x y ≠ 0 then decide (cmpN x y < 0) else lessL xs ys
  | _, _ => false
theorem less_next {X Y : List Int} {i : Nat} {x y : Int} {R : Bool} (h : R = lessL (X.drop i) (Y.drop i)) (hx : X[i]? = some x) (hy : Y[i]? = some y) (hc : cmpN x y = 0) : R = lessL (X.drop (i + 1)) (Y.drop (i + 1)) := by
  obtain ⟨h1, rfl⟩ := List.getElem?_eq_some_iff.1 hx
  obtain ⟨h2, rfl⟩ := List.getElem?_eq_some_iff.1 hy
  rw [h, List.drop_eq_getElem_cons h1, List.drop_eq_getElem_cons h2, lessL, if_neg (by simp [hc])]
theorem less_stop {X Y : List Int} {i : Nat} {x y : Int} {R : Bool} (h : R = lessL (X.drop i) (Y.drop i)) (hx : X[i]? = some x) (hy : Y[i]? = some y) (hc : cmpN x y ≠ 0) : R = decide (cmpN x y < 0) := by
  obtain ⟨h1, rfl⟩ := List.getElem?_eq_some_iff.1 hx
  obtain ⟨h2, rfl⟩ := List.getElem?_eq_some_iff.1 hy
  rw [h, List.drop_eq_getElem_cons h1, List.drop_eq_getElem_cons h2, lessL, if_pos hc]
theorem less_end {X Y : List Int} {i : Nat} {R : Bool} (h : R = lessL (X.drop i) (Y.drop i)) (hi : X.length ≤ i) : R = false := by
  rw [h, List.drop_eq_nil_of_le hi, lessL]; simp
/-! ### Numbers, read -/
def numberB (m : Nat) (lf : List UInt8) (ok : Bool) : Nat × List UInt8 × Bool :=
  if (numGet lf).2.2 ≠ 0 ∨ m < (numGet lf).1 then (0, lf, false) else ((numGet lf).1, lf.drop (numGet lf).2.1, ok)
theorem numberB_bad {m : Nat} {lf : List UInt8} {ok : Bool} (h : (numGet lf).2.2 ≠ 0 ∨ m < (numGet lf).1) : numberB m lf ok = (0, lf, false) := by rw [numberB, if_pos h]
theorem numberB_good {m : Nat} {lf : List UInt8} {ok : Bool} (h : (numGet lf).2.2 = 0) (h2 : ¬ m < (numGet lf).1) : numberB m lf ok = ((numGet lf).1, lf.drop (numGet lf).2.1, ok) := by rw [numberB, if_neg (by simp [h]; omega)]
theorem numberB_le (m : Nat) (lf : List UInt8) (ok : Bool) : (numberB m lf ok).1 ≤ m := by
  unfold numberB; split
  · exact Nat.zero_le _
  · rename_i h; show (numGet lf).1 ≤ m; omega
/-- So many numbers of what is left. -/
def numsG : Nat → List UInt8 → Bool → List Int × List UInt8 × Bool
  | 0, lf, ok => ([], lf, ok)
  | k + 1, lf, ok => (((numberB 1099511627776 lf ok).1 : Int) :: (numsG k (numberB 1099511627776 lf ok).2.1 (numberB 1099511627776 lf ok).2.2).1, (numsG k (numberB 1099511627776 lf ok).2.1 (numberB 1099511627776 lf ok).2.2).2)
theorem numsG_next {pre : List Int} {lf : List UInt8} {ok : Bool} {n i : Nat} {R : List Int × List UInt8 × Bool} (h : (pre ++ (numsG (n - i) lf ok).1, (numsG (n - i) lf ok).2) = R) (hi : i < n) :
    ((pre ++ [((numberB 1099511627776 lf ok).1 : Int)]) ++ (numsG (n - (i + 1)) (numberB 1099511627776 lf ok).2.1 (numberB 1099511627776 lf ok).2.2).1, (numsG (n - (i + 1)) (numberB 1099511627776 lf ok).2.1 (numberB 1099511627776 lf ok).2.2).2) = R := by
  obtain ⟨k, hk⟩ : ∃ k, n - i = k + 1 := ⟨n - i - 1, by omega⟩
  have e : n - (i + 1) = k := by omega
  rw [hk, numsG] at h
  rw [e]; simpa using h
theorem numsG_end {pre : List Int} {lf : List UInt8} {ok : Bool} {n i : Nat} {R : List Int × List UInt8 × Bool} (h : (pre ++ (numsG (n - i) lf ok).1, (numsG (n - i) lf ok).2) = R) (hi : n ≤ i) : R = (pre, lf, ok) := by
  have e : n - i = 0 := by omega
  rw [e, numsG] at h; rw [← h]; simp
theorem numsG_len : ∀ (k : Nat) (lf : List UInt8) (ok : Bool), (numsG k lf ok).1.length = k
  | 0, _, _ => rfl
  | k + 1, lf, ok => by simp only [numsG, List.length_cons, numsG_len k]
theorem numsG_le : ∀ (k : Nat) (lf : List UInt8) (ok : Bool), ∀ c ∈ (numsG k lf ok).1, 0 ≤ c ∧ c ≤ 1099511627776
  | 0, lf, ok, c, h => by simp [numsG] at h
  | k + 1, lf, ok, c, h => by
    simp only [numsG, List.mem_cons] at h
    rcases h with rfl | h
    · have := numberB_le 1099511627776 lf ok; omega
    · exact numsG_le k _ _ c h
structure ProgR where
  ph : Int
  fl : Int
  of_ : Int
  nx : Int
  rs : List Int
  tk : TokR
  err : Int
def pg4 (b : List UInt8) : List Int × List UInt8 × Bool := numsG 4 b true
def pgN (b : List UInt8) : Nat × List UInt8 × Bool := numberB 10000 (pg4 b).2.1 (pg4 b).2.2
def pgR (b : List UInt8) : List Int × List UInt8 × Bool := numsG (pgN b).1 (pgN b).2.1 (pgN b).2.2
def pgT (b : List UInt8) : TokR := tokGet (pgR b).2.1
def pgA (b : List UInt8) (k : Nat) : Int := (pg4 b).1[k]?.getD 0
def pgOk (b : List UInt8) : Bool := (pgR b).2.2 && (decide ((pgT b).err = 0) && (mayN (pgA b 0) (pgA b 1) (pgA b 2) (pgA b 3) (pgR b).1 (pgT b).pd (pgT b).wd (pgT b).mrk (pgT b).lg &&
  decide (progPut (pgA b 0) (pgA b 1) (pgA b 2) (pgA b 3) (pgR b).1 (pgT b).pd (pgT b).wd (pgT b).mrk (pgT b).lg = b)))
def progBad : ProgR := ⟨0, 0, 0, 0, [], ⟨[], [], false, false, 0⟩, 2⟩
def progGet (b : List UInt8) : ProgR := if pgOk b then ⟨pgA b 0, pgA b 1, pgA b 2, pgA b 3, (pgR b).1, pgT b, 0⟩ else progBad
theorem pg4_is {b : List UInt8} {v0 v1 v2 v3 : Int} {lf : List UInt8} {ok : Bool} (h : pg4 b = ([v0, v1, v2, v3], lf, ok)) : pgA b 0 = v0 ∧ pgA b 1 = v1 ∧ pgA b 2 = v2 ∧ pgA b 3 = v3 := by
  unfold pgA; rw [h]; exact ⟨rfl, rfl, rfl, rfl⟩
theorem pgN_le (b : List UInt8) : (pgN b).1 ≤ 10000 := numberB_le _ _ _
theorem pg4_le (b : List UInt8) : ∀ c ∈ (pg4 b).1, 0 ≤ c ∧ c ≤ 1099511627776 := numsG_le _ _ _
theorem cmpN_eq {x y : Int} : cmpN x y = 0 ↔ x = y := by unfold cmpN; split <;> (try split) <;> omega
theorem cmpN_lt {x y : Int} : cmpN x y < 0 ↔ x < y := by unfold cmpN; split <;> (try split) <;> omega
end Go.Proofs.YtndaogkpgoimlaaDoor

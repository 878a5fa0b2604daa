/- What layer 7 computes, as functions of lists: plain definitions, no program in sight. -/
import Derived.Test.YtndaogkpgoimlaaDoorS2
namespace Go.Proofs.YtndaogkpgoimlaaDoor
open Go
theorem feedAt_len (l : List UInt8) : ∀ (f p : Nat), (feedAt l f p).1.length ≤ f
  | 0, p => Nat.le_refl _
  | f + 1, p => by
    by_cases hp : p < l.length
    · cases hq : utfPending (l.drop p) with
      | true => rw [feedAt_stop hp hq]; exact Nat.zero_le _
      | false =>
        rw [feedAt_step hp hq]
        have := feedAt_len l f (p + (Utf8.decode ⟨l.toArray⟩ p).2)
        simp only [List.length_cons]; omega
    · rw [feedAt_end l _ p hp]; exact Nat.zero_le _
theorem utfFeed_len (q k : List UInt8) : (utfFeed q k).1.length ≤ q.length + k.length := by
  have := feedAt_len (q ++ k) (q ++ k).length 0
  rw [List.length_append] at this
  simpa [utfFeed] using this
theorem runesAt_len (s : ByteArray) : ∀ (f p : Nat), (runesAt s f p).length ≤ f
  | 0, p => Nat.le_refl _
  | f + 1, p => by
    by_cases hp : p < s.size
    · rw [runesAt_step s f p hp]
      have := runesAt_len s f (p + (Utf8.decode s p).2)
      simp only [List.length_cons]; omega
    · rw [runesAt_end s _ p hp]; exact Nat.zero_le _
theorem utfAll_len (l : List UInt8) : (utfAll l).length ≤ l.length := runesAt_len _ _ _
theorem putN_len : ∀ (f n : Nat), n < 128 ^ f → (putN n).length ≤ max f 1
  | 0, n, h => by
    simp at h; subst h; rw [putN_lt (by omega)]; simp
  | f + 1, n, h => by
    by_cases hn : n < 128
    · rw [putN_lt hn]; simp
    · rw [putN_ge hn]
      have h2 : n / 128 < 128 ^ f := by
        rw [Nat.pow_succ] at h
        exact Nat.div_lt_of_lt_mul (by rw [Nat.mul_comm]; exact h)
      have := putN_len f (n / 128) h2
      have h0 : f ≠ 0 := by rintro rfl; simp at h2; omega
      simp only [List.length_cons]; omega
theorem putN_ten {n : Nat} (h : n < 18446744073709551616) : (putN n).length ≤ 10 := putN_len 10 n (put_ten h)

/-! ### A state as bytes -/
def flagN (mk lg : Bool) : UInt8 := UInt8.ofNat ((if mk then 1 else 0) + (if lg then 2 else 0))
def putWord (wd : List Int) : List UInt8 := wd.flatMap fun c => putN c.toNat
def tokPut (pd : List UInt8) (wd : List Int) (mk lg : Bool) : List UInt8 := (((putN pd.length ++ pd) ++ putN wd.length) ++ putWord wd) ++ [flagN mk lg]
theorem putWord_next {pre R : List UInt8} {wd : List Int} {i : Nat} {c : Int} (h : pre ++ putWord (wd.drop i) = R) (hx : wd[i]? = some c) : (pre ++ putN c.toNat) ++ putWord (wd.drop (i + 1)) = R := by
  obtain ⟨hi, he⟩ := List.getElem?_eq_some_iff.1 hx
  rw [List.drop_eq_getElem_cons hi, he] at h
  simpa [putWord] using h
theorem putWord_end {pre R : List UInt8} {wd : List Int} {i : Nat} (h : pre ++ putWord (wd.drop i) = R) (hi : wd.length ≤ i) : pre = R := by
  rw [List.drop_eq_nil_of_le hi] at h; simpa [putWord] using h
/-- The next number of what is left, if it isn't greater than this. -/
def numberG (m : Nat) (lf : List UInt8) (bad : Int) : Nat × List UInt8 × Int :=
  if (numGet lf).2.2 ≠ 0 ∨ m < (numGet lf).1 then (0, lf, 2) else ((numGet lf).1, lf.drop (numGet lf).2.1, bad)
theorem scan_some {l : List UInt8} : ∀ {f i j : Nat}, scanTo l f i = some j → j = i + f ∨ j < l.length
  | 0, i, j, h => by simp [scanTo] at h; omega
  | f + 1, i, j, h => by
    rw [scanTo] at h
    cases hc : l[i]? with
    | none => rw [hc] at h; cases h
    | some c =>
      rw [hc] at h
      simp only at h
      have hi := (List.getElem?_eq_some_iff.1 hc).1
      split at h
      · injection h with h; subst h; exact .inr hi
      · rcases scan_some h with h | h
        · exact .inl (by omega)
        · exact .inr h
theorem numGet_le {l : List UInt8} (h : (numGet l).2.2 = 0) : (numGet l).2.1 ≤ l.length := by
  unfold numGet at h ⊢
  split
  · simp
  · rename_i i hs
    simp only [hs] at h
    split
    · simp
    · rename_i hb
      rcases scan_some hs with h1 | h1
      · exact absurd (.inl (by omega)) hb
      · show i + 1 ≤ l.length; omega
theorem numberG_bad {m : Nat} {lf : List UInt8} {bad : Int} (h : (numGet lf).2.2 ≠ 0 ∨ m < (numGet lf).1) : numberG m lf bad = (0, lf, 2) := by rw [numberG, if_pos h]
theorem numberG_good {m : Nat} {lf : List UInt8} {bad : Int} (h : (numGet lf).2.2 = 0) (h2 : ¬ m < (numGet lf).1) : numberG m lf bad = ((numGet lf).1, lf.drop (numGet lf).2.1, bad) := by rw [numberG, if_neg (by simp [h]; omega)]
theorem numberG_le (m : Nat) (lf : List UInt8) (bad : Int) : (numberG m lf bad).1 ≤ m := by
  unfold numberG; split
  · exact Nat.zero_le _
  · rename_i h; show (numGet lf).1 ≤ m; omega
/-- So many runes of what is left. -/
def wordG : Nat → List UInt8 → Int → List Int × List UInt8 × Int
  | 0, lf, bad => ([], lf, bad)
  | k + 1, lf, bad => (((numberG 1114111 lf bad).1 : Int) :: (wordG k (numberG 1114111 lf bad).2.1 (numberG 1114111 lf bad).2.2).1, (wordG k (numberG 1114111 lf bad).2.1 (numberG 1114111 lf bad).2.2).2)
theorem wordG_next {pre : List Int} {lf : List UInt8} {bad : Int} {n i : Nat} {R : List Int × List UInt8 × Int} (h : (pre ++ (wordG (n - i) lf bad).1, (wordG (n - i) lf bad).2) = R) (hi : i < n) :
    ((pre ++ [((numberG 1114111 lf bad).1 : Int)]) ++ (wordG (n - (i + 1)) (numberG 1114111 lf bad).2.1 (numberG 1114111 lf bad).2.2).1, (wordG (n - (i + 1)) (numberG 1114111 lf bad).2.1 (numberG 1114111 lf bad).2.2).2) = R := by
  obtain ⟨k, hk⟩ : ∃ k, n - i = k + 1 := ⟨n - i - 1, by omega⟩
  have e : n - (i + 1) = k := by omega
  rw [hk, wordG] at h
  rw [e]; simpa using h
theorem wordG_end {pre : List Int} {lf : List UInt8} {bad : Int} {n i : Nat} {R : List Int × List UInt8 × Int} (h : (pre ++ (wordG (n - i) lf bad).1, (wordG (n - i) lf bad).2) = R) (hi : n ≤ i) : R = (pre, lf, bad) := by
  have e : n - i = 0 := by omega
  rw [e, wordG] at h; rw [← h]; simp
theorem wordG_le : ∀ (k : Nat) (lf : List UInt8) (bad : Int), ∀ c ∈ (wordG k lf bad).1, 0 ≤ c ∧ c ≤ 1114111
  | 0, lf, bad, c, h => by simp [wordG] at h
  | k + 1, lf, bad, c, h => by
    simp only [wordG, List.mem_cons] at h
    rcases h with rfl | h
    · have := numberG_le 1114111 lf bad; omega
    · exact wordG_le k _ _ c h
theorem wordG_len : ∀ (k : Nat) (lf : List UInt8) (bad : Int), (wordG k lf bad).1.length = k
  | 0, lf, bad => rfl
  | k + 1, lf, bad => by simp only [wordG, List.length_cons, wordG_len k]
structure TokR where
  pd : List UInt8
  wd : List Int
  mrk : Bool
  lg : Bool
  err : Int
def tokMin (b : List UInt8) : Nat := min (numberG 32 b 0).1 (numberG 32 b 0).2.1.length
def tokPd (b : List UInt8) : List UInt8 := (numberG 32 b 0).2.1.take (tokMin b)
def tokL2 (b : List UInt8) : List UInt8 := (numberG 32 b 0).2.1.drop (tokMin b)
def tokG2 (b : List UInt8) : Nat × List UInt8 × Int := numberG 32 (tokL2 b) (numberG 32 b 0).2.2
def tokW (b : List UInt8) : List Int × List UInt8 × Int := wordG (tokG2 b).1 (tokG2 b).2.1 (tokG2 b).2.2
def tokG3 (b : List UInt8) : Nat × List UInt8 × Int := numberG 3 (tokW b).2.1 (tokW b).2.2
theorem tokMin_le (b : List UInt8) : tokMin b ≤ (numberG 32 b 0).2.1.length := Nat.min_le_right _ _
theorem tokPd_len (b : List UInt8) : (tokPd b).length ≤ 32 := by
  have := numberG_le 32 b 0
  simp only [tokPd, tokMin, List.length_take]; omega
theorem tokG2_le (b : List UInt8) : (tokG2 b).1 ≤ 32 := numberG_le _ _ _
theorem tokW_len (b : List UInt8) : (tokW b).1.length ≤ 32 := by rw [tokW, wordG_len]; exact tokG2_le b
theorem tokW_le (b : List UInt8) : ∀ c ∈ (tokW b).1, 0 ≤ c ∧ c ≤ 1114111 := wordG_le _ _ _
def tokMk (b : List UInt8) : Bool := decide ((0 : Int) < (((tokG3 b).1 &&& 1 : Nat) : Int))
def tokLg (b : List UInt8) : Bool := decide ((0 : Int) < (((tokG3 b).1 &&& 2 : Nat) : Int))
def tokOk (b : List UInt8) : Bool := decide ((tokG3 b).2.2 = 0) && ((decide ((tokPd b).length = 0) || utfPending (tokPd b)) && decide (tokPut (tokPd b) (tokW b).1 (tokMk b) (tokLg b) = b))
def tokGet (b : List UInt8) : TokR := if tokOk b then ⟨tokPd b, (tokW b).1, tokMk b, tokLg b, 0⟩ else ⟨[], [], false, false, 2⟩
/-! ### The example that the laws show -/
def dont : List UInt8 := [68, 111, 110, 226, 128, 153, 116]
def shU1 : List Int × List UInt8 := utfFeed [] (dont.take 4)
def shW1 : List ByteArray × List Int × Bool × Bool := feedW ([], false, false) shU1.1
def shU2 : List Int × List UInt8 := utfFeed shU1.2 ((dont.take 5).drop 4)
def shW2 : List ByteArray × List Int × Bool × Bool := feedW (shW1.2.1, shW1.2.2.1, shW1.2.2.2) shU2.1
def shU3 : List Int × List UInt8 := utfFeed shU2.2 (dont.drop 5)
def shW3 : List ByteArray × List Int × Bool × Bool := feedW (shW2.2.1, shW2.2.2.1, shW2.2.2.2) shU3.1
def shEnd : List ByteArray := (feedW (shW3.2.1, shW3.2.2.1, shW3.2.2.2) (utfAll shU3.2)).1 ++ flushW (feedW (shW3.2.1, shW3.2.2.1, shW3.2.2.2) (utfAll shU3.2)).2.1 (feedW (shW3.2.1, shW3.2.2.1, shW3.2.2.2) (utfAll shU3.2)).2.2.2
theorem tok_bad {b : List UInt8} (h : (tokGet b).err ≠ 0) : tokGet b = ⟨[], [], false, false, 2⟩ := by
  unfold tokGet at h ⊢
  split
  · rename_i hk; rw [if_pos hk] at h; exact absurd rfl h
  · rfl
theorem tok_back {b : List UInt8} (h : (tokGet b).err = 0) : tokPut (tokGet b).pd (tokGet b).wd (tokGet b).mrk (tokGet b).lg = b := by
  unfold tokGet at h ⊢
  split
  · rename_i hk
    simp only [tokOk, Bool.and_eq_true, decide_eq_true_eq] at hk
    exact hk.2.2
  · rename_i hk; rw [if_neg hk] at h; cases h
theorem tokGet_pd (b : List UInt8) : (tokGet b).pd.length ≤ 32 := by unfold tokGet; split; exact tokPd_len b; exact Nat.zero_le _
theorem tokGet_wd (b : List UInt8) : (tokGet b).wd.length ≤ 32 := by unfold tokGet; split; exact tokW_len b; exact Nat.zero_le _
theorem tokGet_le (b : List UInt8) : ∀ c ∈ (tokGet b).wd, 0 ≤ c ∧ c ≤ 1114111 := by unfold tokGet; split; exact tokW_le b; exact fun c h => by cases h
theorem same_all {α : Type} {xs ys : List α} {i : Nat} (hl : xs.length = ys.length) (h : ∀ j, j < i → xs[j]? = ys[j]?) (hi : xs.length ≤ i) : xs = ys := by
  apply List.ext_getElem? 
  intro j
  by_cases hj : j < i
  · exact h j hj
  · rw [List.getElem?_eq_none (by omega), List.getElem?_eq_none (by omega)]
theorem same_next {α : Type} {xs ys : List α} {i : Nat} {x y : α} (h : ∀ j, j < i → xs[j]? = ys[j]?) (hx : xs[i]? = some x) (hy : ys[i]? = some y) (he : x = y) : ∀ j, j < i + 1 → xs[j]? = ys[j]? := fun j hj => by
  by_cases e : j = i
  · subst e; rw [hx, hy, he]
  · exact h j (by omega)
theorem same_not {α : Type} {xs ys : List α} {i : Nat} {x y : α} (hx : xs[i]? = some x) (hy : ys[i]? = some y) (he : x ≠ y) : xs ≠ ys := fun e => by subst e; rw [hx] at hy; injection hy with hy; exact he hy
end Go.Proofs.YtndaogkpgoimlaaDoor

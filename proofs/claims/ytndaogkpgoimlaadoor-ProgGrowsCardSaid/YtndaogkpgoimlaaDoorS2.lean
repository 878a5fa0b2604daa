/- What layers 5, 6, 7 compute, as functions of lists: plain definitions, no program in sight. -/
import Derived.Test.YtndaogkpgoimlaaDoorS1
import Derived.Test.YtndaogkpgoimlaaDoorK4
namespace Go.Proofs.YtndaogkpgoimlaaDoor
open Go
structure Span where
  lo : Int
  hi : Int
  step : Int
  by_ : Int
def spanc (x : Span) : List Value := [.int .i32 x.lo, .int .i32 x.hi, .int .i32 x.step, .int .i32 x.by_]
theorem spanc_len : ∀ x, (spanc x).length = 4 := fun _ => rfl
def spanHas (lo hi st c : Int) : Bool := decide (lo ≤ c) && (decide (c ≤ hi) && decide ((c - lo).tmod st = 0))
def Span.has (x : Span) (c : Int) : Bool := spanHas x.lo x.hi x.step c
def spansF : List Span := [⟨65, 90, 1, 32⟩, ⟨192, 214, 1, 32⟩, ⟨216, 222, 1, 32⟩, ⟨256, 302, 2, 1⟩, ⟨306, 310, 2, 1⟩, ⟨313, 327, 2, 1⟩, ⟨330, 374, 2, 1⟩, ⟨376, 376, 1, -121⟩, ⟨377, 381, 2, 1⟩, ⟨913, 929, 1, 32⟩, ⟨931, 939, 1, 32⟩, ⟨962, 962, 1, 1⟩, ⟨1024, 1039, 1, 80⟩, ⟨1040, 1071, 1, 32⟩]
def spansL : List Span := [⟨65, 90, 1, 0⟩, ⟨97, 122, 1, 0⟩, ⟨192, 214, 1, 0⟩, ⟨216, 246, 1, 0⟩, ⟨248, 383, 1, 0⟩, ⟨913, 929, 1, 0⟩, ⟨931, 974, 1, 0⟩, ⟨1024, 1119, 1, 0⟩]
def Span.ok (x : Span) : Prop := 0 ≤ x.lo ∧ x.hi ≤ 1114111 ∧ 0 < x.step ∧ -121 ≤ x.by_ ∧ x.by_ ≤ 80
theorem spansF_ok : ∀ x ∈ spansF, x.ok := by intro x h; simp only [spansF, List.mem_cons, List.not_mem_nil, or_false] at h; rcases h with rfl | rfl | rfl | rfl | rfl | rfl | rfl | rfl | rfl | rfl | rfl | rfl | rfl | rfl <;> simp [Span.ok]
theorem spansL_ok : ∀ x ∈ spansL, x.ok := by intro x h; simp only [spansL, List.mem_cons, List.not_mem_nil, or_false] at h; rcases h with rfl | rfl | rfl | rfl | rfl | rfl | rfl | rfl <;> simp [Span.ok]
def foldN (c : Int) : Int := match spansF.find? (·.has c) with
  | some x => c + x.by_
  | none => c
def idxSpan (xs : List Span) (c : Int) : Int := match xs.findIdx? (·.has c) with
  | some i => (i : Int)
  | none => -1
def letterN (c : Int) : Bool := decide (0 ≤ idxSpan spansL c)
def markN (c : Int) : Bool := decide (c = 39) || decide (c = 8217)
theorem find_at {α : Type} {p : α → Bool} {xs : List α} {i : Nat} {x : α} (h : ∀ j, j < i → ∀ y, xs[j]? = some y → p y = false) (hx : xs[i]? = some x) (hp : p x = true) : xs.find? p = some x := by
  rw [List.find?_eq_some_iff_getElem]
  obtain ⟨hi, rfl⟩ := List.getElem?_eq_some_iff.1 hx
  refine ⟨hp, i, hi, rfl, fun j hj => ?_⟩
  simp [h j hj _ (List.getElem?_eq_getElem (by omega))]
theorem find_no {α : Type} {p : α → Bool} {xs : List α} {i : Nat} (h : ∀ j, j < i → ∀ y, xs[j]? = some y → p y = false) (hi : xs.length ≤ i) : xs.find? p = none := by
  rw [List.find?_eq_none]
  intro x hx
  obtain ⟨j, hj⟩ := List.getElem?_of_mem hx
  have := (List.getElem?_eq_some_iff.1 hj).1
  simp [h j (by omega) x hj]
theorem findIdx_at {α : Type} {p : α → Bool} {xs : List α} {i : Nat} {x : α} (h : ∀ j, j < i → ∀ y, xs[j]? = some y → p y = false) (hx : xs[i]? = some x) (hp : p x = true) : xs.findIdx? p = some i := by
  rw [List.findIdx?_eq_some_iff_getElem]
  obtain ⟨hi, rfl⟩ := List.getElem?_eq_some_iff.1 hx
  refine ⟨hi, hp, fun j hj => ?_⟩
  simp [h j hj _ (List.getElem?_eq_getElem (by omega))]
theorem findIdx_no {α : Type} {p : α → Bool} {xs : List α} {i : Nat} (h : ∀ j, j < i → ∀ y, xs[j]? = some y → p y = false) (hi : xs.length ≤ i) : xs.findIdx? p = none := by
  rw [List.findIdx?_eq_none_iff]
  intro x hx
  obtain ⟨j, hj⟩ := List.getElem?_of_mem hx
  have := (List.getElem?_eq_some_iff.1 hj).1
  exact h j (by omega) x hj
theorem no_next {α : Type} {p : α → Bool} {xs : List α} {i : Nat} {x : α} (h : ∀ j, j < i → ∀ y, xs[j]? = some y → p y = false) (hx : xs[i]? = some x) (hp : p x = false) : ∀ j, j < i + 1 → ∀ y, xs[j]? = some y → p y = false := fun j hj y hy => by
  by_cases e : j = i
  · subst e; rw [hx] at hy; cases hy; exact hp
  · exact h j (by omega) y hy
theorem foldN_at {c : Int} {i : Nat} {x : Span} (h : ∀ j, j < i → ∀ y, spansF[j]? = some y → y.has c = false) (hx : spansF[i]? = some x) (hp : x.has c = true) : foldN c = c + x.by_ := by
  rw [foldN, find_at h hx hp]
theorem foldN_no {c : Int} {i : Nat} (h : ∀ j, j < i → ∀ y, spansF[j]? = some y → y.has c = false) (hi : 14 ≤ i) : foldN c = c := by
  rw [foldN, find_no h hi]
theorem has_bounds {x : Span} {c : Int} (h : x.has c = true) : x.lo ≤ c ∧ c ≤ x.hi := by
  simp only [Span.has, spanHas, Bool.and_eq_true, decide_eq_true_eq] at h; exact ⟨h.1, h.2.1⟩
theorem idx_at {xs : List Span} {c : Int} {i : Nat} {x : Span} (h : ∀ j, j < i → ∀ y, xs[j]? = some y → y.has c = false) (hx : xs[i]? = some x) (hp : x.has c = true) : idxSpan xs c = i := by
  rw [idxSpan, findIdx_at h hx hp]
theorem idx_no {xs : List Span} {c : Int} {i : Nat} (h : ∀ j, j < i → ∀ y, xs[j]? = some y → y.has c = false) (hi : xs.length ≤ i) : idxSpan xs c = -1 := by
  rw [idxSpan, findIdx_no h hi]

/-! ### Words -/
def flushW (wd : List Int) (lg : Bool) : List ByteArray := if decide (0 < wd.length) && !lg then [runesBytes wd] else []
def letterW (wd : List Int) (mk lg : Bool) (c : Int) : List Int × Bool × Bool :=
  if lg then ([], false, true) else if 32 < ((wd ++ if mk then [39] else []) ++ [foldN c]).length then ([], false, true) else ((wd ++ if mk then [39] else []) ++ [foldN c], false, false)
def onW (wd : List Int) (lg : Bool) : Bool := decide (0 < wd.length) || lg
def stepW (s : List Int × Bool × Bool) (c : Int) : List ByteArray × List Int × Bool × Bool :=
  if letterN c then ([], letterW s.1 s.2.1 s.2.2 c) else if markN c && (onW s.1 s.2.2 && !s.2.1) then ([], (s.1, true, s.2.2)) else (flushW s.1 s.2.2, ([], false, false))
def feedW : List Int × Bool × Bool → List Int → List ByteArray × List Int × Bool × Bool
  | s, [] => ([], s)
  | s, c :: cs => ((stepW s c).1 ++ (feedW (stepW s c).2 cs).1, (feedW (stepW s c).2 cs).2)
def allW (l : List Int) : List ByteArray := (feedW ([], false, false) l).1 ++ flushW (feedW ([], false, false) l).2.1 (feedW ([], false, false) l).2.2.2
theorem flush_yes {wd : List Int} {lg : Bool} (h : (decide (0 < wd.length) && !lg) = true) : flushW wd lg = [runesBytes wd] := by rw [flushW, if_pos h]
theorem flush_no {wd : List Int} {lg : Bool} (h : (decide (0 < wd.length) && !lg) = false) : flushW wd lg = [] := by rw [flushW, if_neg (by rw [h]; decide)]
theorem flush_len (wd : List Int) (lg : Bool) : (flushW wd lg).length ≤ 1 := by unfold flushW; split <;> simp
theorem letterW_len (wd : List Int) (mk lg : Bool) (c : Int) : (letterW wd mk lg c).1.length ≤ 32 := by
  unfold letterW
  by_cases h1 : lg = true
  · rw [if_pos h1]; exact Nat.zero_le _
  · rw [if_neg h1]
    generalize ((wd ++ if mk then [39] else []) ++ [foldN c]) = n
    by_cases h2 : 32 < n.length
    · rw [if_pos h2]; exact Nat.zero_le _
    · rw [if_neg h2]; show n.length ≤ 32; omega
theorem letterW_long (wd : List Int) (mk : Bool) (c : Int) : letterW wd mk true c = ([], false, true) := rfl
theorem letterW_over {wd : List Int} {mk : Bool} {c : Int} (h : 32 < ((wd ++ if mk then [39] else []) ++ [foldN c]).length) : letterW wd mk false c = ([], false, true) := by simp only [letterW, if_pos h]; rfl
theorem letterW_in {wd : List Int} {mk : Bool} {c : Int} (h : ¬ 32 < ((wd ++ if mk then [39] else []) ++ [foldN c]).length) : letterW wd mk false c = ((wd ++ if mk then [39] else []) ++ [foldN c], false, false) := by simp only [letterW, if_neg h]; rfl
theorem stepW_len (s : List Int × Bool × Bool) (c : Int) : (stepW s c).1.length ≤ 1 := by
  unfold stepW
  by_cases h1 : letterN c = true
  · rw [if_pos h1]; exact Nat.zero_le _
  · rw [if_neg h1]
    by_cases h2 : (markN c && (onW s.1 s.2.2 && !s.2.1)) = true
    · rw [if_pos h2]; exact Nat.zero_le _
    · rw [if_neg h2]; exact flush_len _ _
theorem feedW_len : ∀ (s : List Int × Bool × Bool) (xs : List Int), (feedW s xs).1.length ≤ xs.length
  | s, [] => Nat.le_refl _
  | s, c :: cs => by
    have h1 := stepW_len s c
    have h2 := feedW_len (stepW s c).2 cs
    simp only [feedW, List.length_append, List.length_cons]; omega
theorem feed_next {pre o : List ByteArray} {s s' : List Int × Bool × Bool} {xs : List Int} {R : List ByteArray × List Int × Bool × Bool} {i : Nat} {c : Int} (h : (pre ++ (feedW s (xs.drop i)).1, (feedW s (xs.drop i)).2) = R) (hx : xs[i]? = some c) (hs : stepW s c = (o, s')) :
    ((pre ++ o) ++ (feedW s' (xs.drop (i + 1))).1, (feedW s' (xs.drop (i + 1))).2) = R := by
  obtain ⟨hi, he⟩ := List.getElem?_eq_some_iff.1 hx
  rw [List.drop_eq_getElem_cons hi, he, feedW, hs] at h
  simpa using h
theorem feedW_end {pre : List ByteArray} {s : List Int × Bool × Bool} {xs : List Int} {R : List ByteArray × List Int × Bool × Bool} {i : Nat} (h : (pre ++ (feedW s (xs.drop i)).1, (feedW s (xs.drop i)).2) = R) (hi : xs.length ≤ i) : (pre, s) = R := by
  rw [List.drop_eq_nil_of_le hi, feedW] at h; simpa using h
end Go.Proofs.YtndaogkpgoimlaaDoor

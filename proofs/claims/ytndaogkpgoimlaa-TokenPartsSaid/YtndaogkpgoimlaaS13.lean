/- However bytes are parted, all words are those of all bytes: plain laws, no program in sight. -/
import Derived.Test.YtndaogkpgoimlaaS12
namespace Go.Proofs.Ytndaogkpgoimlaa
open Go
structure Chk where
  A : Option Addr
  c : Nat
  l : List UInt8
def chk (x : Chk) : Value := .slice x.A x.l.length x.c
def vW (wd : List Int) : Prop := wd.length ≤ 32 ∧ ∀ c ∈ wd, 0 ≤ c ∧ c ≤ 1114111
theorem vW_nil : vW [] := ⟨Nat.zero_le _, fun c h => by cases h⟩
theorem vW_letter {wd : List Int} {mk lg : Bool} {c : Int} (h : vW wd) (hc : letterN c = true) : vW (letterW wd mk lg c).1 := by
  refine ⟨letterW_len wd mk lg c, ?_⟩
  have hf := letter_fold hc
  unfold letterW
  by_cases h1 : lg = true
  · rw [if_pos h1]; intro c h; cases h
  · rw [if_neg h1]
    by_cases h2 : 32 < ((wd ++ if mk then [39] else []) ++ [foldN c]).length
    · rw [if_pos h2]; intro c h; cases h
    · rw [if_neg h2]
      intro d hd
      simp only [List.mem_append, List.mem_singleton] at hd
      rcases hd with (hd | hd) | rfl
      · exact h.2 d hd
      · cases mk with
        | true => simp at hd; omega
        | false => simp at hd
      · omega
theorem vW_step {s : List Int × Bool × Bool} (h : vW s.1) (c : Int) : vW (stepW s c).2.1 := by
  unfold stepW
  by_cases h1 : letterN c = true
  · rw [if_pos h1]; exact vW_letter h h1
  · rw [if_neg h1]
    split
    · exact h
    · exact vW_nil
theorem vW_feed : ∀ (xs : List Int) (s : List Int × Bool × Bool), vW s.1 → vW (feedW s xs).2.1
  | [], s, h => h
  | c :: cs, s, h => vW_feed cs _ (vW_step h c)
theorem feedW_app : ∀ (xs ys : List Int) (s : List Int × Bool × Bool), feedW s (xs ++ ys) = ((feedW s xs).1 ++ (feedW (feedW s xs).2 ys).1, (feedW (feedW s xs).2 ys).2)
  | [], ys, s => by simp [feedW]
  | c :: cs, ys, s => by
    rw [List.cons_append, feedW, feedW_app cs ys, feedW]; simp
/-- What is known after some chunks. -/
def partJ (al pd : List UInt8) (wd : List Int) (mk lg : Bool) (got : List ByteArray) : Prop :=
  (∃ dn, (∀ r, utfAll (al ++ r) = dn ++ utfAll (pd ++ r)) ∧ feedW ([], false, false) dn = (got, wd, mk, lg)) ∧ (pd = [] ∨ utfPending pd = true) ∧ vW wd
theorem part_start : partJ [] [] [] false false [] := ⟨⟨[], fun r => by simp, rfl⟩, .inl rfl, vW_nil⟩
theorem part_step {al pd k : List UInt8} {wd : List Int} {mk lg : Bool} {got : List ByteArray} (h : partJ al pd wd mk lg got) :
    partJ (al ++ k) (utfFeed pd k).2 (feedW (wd, mk, lg) (utfFeed pd k).1).2.1 (feedW (wd, mk, lg) (utfFeed pd k).1).2.2.1 (feedW (wd, mk, lg) (utfFeed pd k).1).2.2.2 (got ++ (feedW (wd, mk, lg) (utfFeed pd k).1).1) := by
  obtain ⟨⟨dn, h1, h2⟩, h3, h4⟩ := h
  refine ⟨⟨dn ++ (utfFeed pd k).1, fun r => ?_, ?_⟩, utfFeed_pend pd k, vW_feed _ _ h4⟩
  · rw [List.append_assoc, h1 (k ++ r), ← List.append_assoc pd, utfFeed_all, List.append_assoc]
  · rw [feedW_app, h2]
theorem part_valid {al pd wd mk lg got} (h : partJ al pd wd mk lg got) : validS pd wd := ⟨by rcases h.2.1 with h | h; exact .inl (by rw [h]; rfl); exact .inr h, h.2.2.1, h.2.2.2⟩
theorem part_end {al pd : List UInt8} {wd : List Int} {mk lg : Bool} {got : List ByteArray} (h : partJ al pd wd mk lg got) :
    got ++ ((feedW (wd, mk, lg) (utfAll pd)).1 ++ flushW (feedW (wd, mk, lg) (utfAll pd)).2.1 (feedW (wd, mk, lg) (utfAll pd)).2.2.2) = allW (utfAll al) := by
  obtain ⟨⟨dn, h1, h2⟩, _, _⟩ := h
  have := h1 []
  simp only [List.append_nil] at this
  rw [this, allW, feedW_app, h2]; simp
end Go.Proofs.Ytndaogkpgoimlaa

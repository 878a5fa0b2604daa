/- The words of this claim's walks: what is known of slots (Env) and of memory (Hp), and one rule for each operation. Holds for every program of the model; no condition. -/
import Derived.WalkKit
namespace Go.Proofs.YtndaogkpgoimlaaDoor.K
open Go Go.RowKit

/-! ### Slots -/
/-- The slots that are known; the first entry of a slot counts. -/
structure Env (n : Nat) (E : List (Nat × Value)) (a : Act) : Prop where
  size : a.tmps.size = n
  defers : a.defers = []
  get : ∀ t v, E.lookup t = some v → a.tmps[t]? = some v

def ev (E : List (Nat × Value)) : Operand → Option Value
  | .tmp t => E.lookup t
  | .const v => some v
  | .global g => some (.pointer (some ⟨g, 0, none⟩))
  | .func f => some (.func (.func f) #[] #[])
def evl (E : List (Nat × Value)) : List Operand → Option (List Value)
  | [] => some []
  | x :: xs => match ev E x, evl E xs with
    | some v, some vs => some (v :: vs)
    | _, _ => none
theorem Env.ev {n E a x v} (he : Env n E a) (h : ev E x = some v) : a.eval x = v := by
  cases x with
  | tmp t =>
    have := he.get t v h
    simp [Act.eval, this]
  | const u => simpa [K.ev, Act.eval] using h
  | global g => simpa [K.ev, Act.eval] using h
  | func f => simpa [K.ev, Act.eval] using h
theorem Env.evl {n E a} (he : Env n E a) : ∀ {xs vs}, evl E xs = some vs → xs.map a.eval = vs
  | [], vs, h => by simpa [K.evl] using h
  | x :: xs, vs, h => by
    simp only [K.evl] at h
    split at h
    · rename_i v ws h1 h2
      injection h with h
      subst h
      simp [he.ev h1, Env.evl he h2]
    · cases h
theorem Env.put {n E a d v} (he : Env n E a) (hd : Nat.blt d n = true) : Env n ((d, v) :: E) (a.put (some d) v) := by
  have hdn : d < a.tmps.size := by rw [he.size]; simpa using hd
  refine ⟨by simpa [Act.put] using he.size, he.defers, fun t u h => ?_⟩
  simp only [List.lookup_cons] at h
  by_cases ht : t = d
  · subst ht
    simp at h
    subst h
    simp [Act.put, hdn]
  · have : (t == d) = false := by simpa using ht
    rw [this] at h
    have := he.get t u h
    simp only [Act.put]
    rw [Array.getElem?_setIfInBounds_ne (by omega)]
    exact this
/-- Only some of what is known is kept. -/
theorem Env.sub {n E E' a} (he : Env n E a) (h : ∀ p ∈ E', E.lookup p.1 = some p.2) : Env n E' a := by
  refine ⟨he.size, he.defers, fun t v hl => ?_⟩
  have : (t, v) ∈ E' := by
    induction E' with
    | nil => simp at hl
    | cons p r ih =>
      obtain ⟨q, u⟩ := p
      simp only [List.lookup_cons] at hl
      by_cases hq : t = q
      · subst hq; simp at hl; subst hl; simp
      · have e : (t == q) = false := by simpa using hq
        rw [e] at hl
        exact List.mem_cons_of_mem _ (ih (fun p hp => h p (List.mem_cons_of_mem _ hp)) hl)
  exact he.get t v (h _ this)
def subb : List (Nat × Value) → List Nat → Option (List (Nat × Value))
  | _, [] => some []
  | E, t :: ts => match E.lookup t, subb E ts with
    | some v, some r => some ((t, v) :: r)
    | _, _ => none
theorem Env.keep {n E E' a} (ts : List Nat) (he : Env n E a) (h : subb E ts = some E') : Env n E' a := by
  refine he.sub ?_
  induction ts generalizing E' with
  | nil => simp [subb] at h; subst h; simp
  | cons t ts ih =>
    simp only [subb] at h
    split at h
    · rename_i v r h1 h2
      injection h with h
      subst h
      intro p hp
      rcases List.mem_cons.1 hp with rfl | hp
      · exact h1
      · exact ih h2 p hp
    · cases h

/-! ### Memory -/
inductive Ch where
  | obj (b : Nat) (o : Obj)
  | row (A : Option Addr) (n c : Nat) (e : TypeId) (sz : Nat) (cs : List Value)
def Ch.blk : Ch → Option Nat
  | .obj b _ => some b
  | .row A _ _ _ _ _ => A.map (·.block)
def Ch.sat (w : World) : Ch → Prop
  | .obj b o => w.heap[b]? = some o
  | .row A n c e sz cs => w.ownsRow 0 e sz (.slice A n c) n cs
structure Snap where
  os : Os
  tape : Nat → Question → Nat
  output : Array (Nat × ByteArray)
  blk : Nat → Option Obj
/-- What the memory holds: blocks that nobody changes any more (I), and chunks that are the walk's own, no two of them sharing a block. -/
structure Hp (I : Snap) (L : List Ch) (w : World) : Prop where
  os : w.os = I.os
  tape : w.tape = I.tape
  output : w.output = I.output
  imm : ∀ b o, I.blk b = some o → w.heap[b]? = some o
  sat : ∀ c ∈ L, c.sat w
  nd : L.Pairwise (fun c d => ∀ b, c.blk = some b → d.blk ≠ some b)
  off : ∀ c ∈ L, ∀ b, c.blk = some b → I.blk b = none
/-- I' has all that I has. -/
structure Snap.le (I I' : Snap) : Prop where
  os : I'.os = I.os
  tape : I'.tape = I.tape
  output : I'.output = I.output
  blk : ∀ b o, I.blk b = some o → I'.blk b = some o
theorem Snap.le.refl (I : Snap) : I.le I := ⟨rfl, rfl, rfl, fun _ _ h => h⟩
theorem Snap.le.trans {I J M : Snap} (h : I.le J) (k : J.le M) : I.le M := ⟨k.os.trans h.os, k.tape.trans h.tape, k.output.trans h.output, fun b o hb => k.blk b o (h.blk b o hb)⟩
theorem Ch.lt {w c b} (h : Ch.sat w c) (hb : c.blk = some b) : b < w.heap.size := by
  cases c with
  | obj g o =>
    simp only [Ch.blk, Option.some.injEq] at hb
    subst hb
    exact (Array.getElem?_eq_some_iff.1 h).1
  | row A n c e sz cs => exact (World.ownsRow.lt h b (by cases A <;> simp_all [Ch.blk, Value.ownBlock])).2
theorem Hp.lt {I L w} (h : Hp I L w) {c} (hc : c ∈ L) {b} (hb : c.blk = some b) : b < w.heap.size := Ch.lt (h.sat c hc) hb
theorem Hp.immlt {I L w} (h : Hp I L w) {b o} (hb : I.blk b = some o) : b < w.heap.size := (Array.getElem?_eq_some_iff.1 (h.imm b o hb)).1
theorem Ch.move {w w' : World} {c : Ch} (h : Ch.sat w c) (hk : ∀ b, c.blk = some b → w'.heap[b]? = w.heap[b]?) : Ch.sat w' c := by
  cases c with
  | obj g o => exact (hk g rfl).trans h
  | row A n c e sz cs =>
    obtain ⟨h1, h2⟩ := h
    refine ⟨h1, ?_⟩
    rcases h2 with h2 | ⟨g, cap, cur, he, hg, hh, r⟩
    · exact .inl h2
    · have hA : A = some ⟨g, 0, none⟩ := by injection he
      exact .inr ⟨g, cap, cur, he, hg, (hk g (by simp [Ch.blk, hA])).trans hh, r⟩
theorem Hp.perm {I L L' w} (h : Hp I L w) (hp : L.Perm L') : Hp I L' w :=
  ⟨h.os, h.tape, h.output, h.imm, fun c hc => h.sat c (hp.mem_iff.2 hc), hp.pairwise h.nd (fun hxy b hb he => hxy b he hb), fun c hc => h.off c (hp.mem_iff.2 hc)⟩
theorem Hp.drop {I c L w} (h : Hp I (c :: L) w) : Hp I L w :=
  ⟨h.os, h.tape, h.output, h.imm, fun d hd => h.sat d (List.mem_cons_of_mem _ hd), (List.pairwise_cons.1 h.nd).2, fun d hd => h.off d (List.mem_cons_of_mem _ hd)⟩
theorem Hp.dropL {I L' w} : ∀ {L : List Ch}, Hp I (L ++ L') w → Hp I L' w
  | [], h => h
  | _ :: _, h => Hp.dropL (h.drop)
/-- The world turned nowhere that is known. -/
theorem Hp.move {I L w w'} (h : Hp I L w) (ho : w'.os = w.os) (ht : w'.tape = w.tape) (hu : w'.output = w.output) (hb : ∀ b, b < w.heap.size → w'.heap[b]? = w.heap[b]?) : Hp I L w' :=
  ⟨ho.trans h.os, ht.trans h.tape, hu.trans h.output, fun b o hi => (hb b (h.immlt hi)).trans (h.imm b o hi), fun c hc => Ch.move (h.sat c hc) fun b hbk => hb b (h.lt hc hbk), h.nd, h.off⟩
theorem Hp.drew {I L w} (h : Hp I L w) : Hp I L w.drew := h.move rfl rfl rfl (fun _ _ => rfl)
theorem Hp.below {I L w w'} (h : Hp I L w) (hb : Below w.heap.size w w') : Hp I L w' := h.move hb.os hb.tape hb.output hb.block
theorem Hp.alloc {I L w} (h : Hp I L w) (o : Obj) : Hp I (.obj w.heap.size o :: L) (w.alloc o) := by
  have h' : Hp I L (w.alloc o) := h.move rfl rfl rfl (fun b hb => Below.heap_alloc w o b hb)
  refine ⟨h'.os, h'.tape, h'.output, h'.imm, ?_, ?_, ?_⟩
  · intro c hc
    rcases List.mem_cons.1 hc with rfl | hc
    · show (w.heap.push o)[w.heap.size]? = _
      simp
    · exact h'.sat c hc
  · refine List.pairwise_cons.2 ⟨fun d hd b hb he => ?_, h.nd⟩
    simp only [Ch.blk, Option.some.injEq] at hb
    have := h.lt hd he
    omega
  · intro c hc b hb
    rcases List.mem_cons.1 hc with rfl | hc
    · simp only [Ch.blk, Option.some.injEq] at hb
      cases hi : I.blk b with
      | none => rfl
      | some q => have := h.immlt hi; omega
    · exact h.off c hc b hb
/-- A chunk's block turns into another one of the same block. -/
theorem Hp.turn {I c L w w'} (c' : Ch) (h : Hp I (c :: L) w) (ho : w'.os = w.os) (ht : w'.tape = w.tape) (hu : w'.output = w.output)
    (hb : ∀ b, b < w.heap.size → c.blk ≠ some b → w'.heap[b]? = w.heap[b]?) (hs : c'.sat w') (hk : ∀ b, c'.blk = some b → c.blk = some b ∨ w.heap.size ≤ b) : Hp I (c' :: L) w' := by
  have hd := List.pairwise_cons.1 h.nd
  refine ⟨ho.trans h.os, ht.trans h.tape, hu.trans h.output, ?_, ?_, ?_, ?_⟩
  · intro b o hi
    refine (hb b (h.immlt hi) fun hc => ?_).trans (h.imm b o hi)
    have := h.off c (by simp) b hc
    rw [hi] at this; cases this
  · intro d hm
    rcases List.mem_cons.1 hm with rfl | hm
    · exact hs
    · refine Ch.move (h.sat d (by simp [hm])) fun b hbk => hb b (h.lt (by simp [hm]) hbk) fun hc => hd.1 d hm b hc hbk
  · refine List.pairwise_cons.2 ⟨fun d hm b hbc hbd => ?_, hd.2⟩
    rcases hk b hbc with hc | hge
    · exact hd.1 d hm b hc hbd
    · have := h.lt (c := d) (by simp [hm]) hbd; omega
  · intro d hm b hbk
    rcases List.mem_cons.1 hm with rfl | hm
    · rcases hk b hbk with hc | hge
      · exact h.off c (by simp) b hc
      · cases hi : I.blk b with
        | none => rfl
        | some q => have := h.immlt hi; omega
    · exact h.off d (by simp [hm]) b hbk
def Snap.add (I : Snap) (b : Nat) (o : Obj) : Snap := { I with blk := fun k => if k = b then some o else I.blk k }
theorem Snap.le_add {I : Snap} {b o} (h : I.blk b = none) : I.le (I.add b o) :=
  ⟨rfl, rfl, rfl, fun k q hk => by
    simp only [Snap.add]
    split
    · rename_i e; subst e; rw [h] at hk; cases hk
    · exact hk⟩
/-- A block that nobody will change any more. -/
theorem Hp.freeze {I b o L w} (h : Hp I (.obj b o :: L) w) : I.le (I.add b o) ∧ Hp (I.add b o) L w := by
  have hn : I.blk b = none := h.off (.obj b o) (by simp) b rfl
  have hd := List.pairwise_cons.1 h.nd
  refine ⟨Snap.le_add hn, h.os, h.tape, h.output, ?_, fun c hc => h.sat c (by simp [hc]), hd.2, ?_⟩
  · intro k q hk
    simp only [Snap.add] at hk
    split at hk
    · rename_i e; subst e; injection hk with hk; subst hk; exact h.sat (.obj k o) (by simp)
    · exact h.imm k q hk
  · intro c hc k hk
    simp only [Snap.add]
    split
    · rename_i e; subst e; exact absurd hk (hd.1 c hc k rfl)
    · exact h.off c (by simp [hc]) k hk
end Go.Proofs.YtndaogkpgoimlaaDoor.K

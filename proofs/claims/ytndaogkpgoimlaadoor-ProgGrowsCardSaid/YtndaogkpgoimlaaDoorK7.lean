/- More rules: bits of small numbers, cuts that let returns through, slices whose elements have several cells. Holds for every program of the model; no condition. -/
import Derived.Test.YtndaogkpgoimlaaDoorK6
import Derived.Laws.Bits64b
import Derived.Scope
namespace Go.Proofs.YtndaogkpgoimlaaDoor.K
open Go Go.RowKit
set_option linter.unusedVariables false
set_option linter.unusedSimpArgs false

/-! ### Bits -/
theorem bv8 (a : Nat) (ha : a < 256) : (BitVec.ofInt 8 (a : Int)).toNat = a := by
  rw [BitVec.ofInt_natCast, BitVec.toNat_ofNat]; exact Nat.mod_eq_of_lt (by omega)
theorem bv32 (a : Nat) (ha : a < 4294967296) : (BitVec.ofInt 32 (a : Int)).toNat = a := by
  rw [BitVec.ofInt_natCast, BitVec.toNat_ofNat]; exact Nat.mod_eq_of_lt (by omega)
theorem bv64 (a : Nat) (ha : a < 18446744073709551616) : (BitVec.ofInt 64 (a : Int)).toNat = a := by
  rw [BitVec.ofInt_natCast, BitVec.toNat_ofNat]; exact Nat.mod_eq_of_lt (by omega)
theorem bor8 (a b : Nat) (ha : a < 256) (hb : b < 256) : bits .or .u8 (a : Int) (b : Int) = ((a ||| b : Nat) : Int) := by
  have hx : a ||| b < 2 ^ 8 := Nat.or_lt_two_pow (by omega) (by omega)
  show IntKind.u8.wrap ((BitVec.ofInt 8 (a : Int) ||| BitVec.ofInt 8 (b : Int)).toNat : Int) = _
  rw [BitVec.toNat_or, bv8 a ha, bv8 b hb]
  exact wu8 (by omega) rfl
theorem band8 (a b : Nat) (ha : a < 256) (hb : b < 256) : bits .and .u8 (a : Int) (b : Int) = ((a &&& b : Nat) : Int) := by
  have hx : a &&& b < 2 ^ 8 := Nat.and_lt_two_pow _ (by omega)
  show IntKind.u8.wrap ((BitVec.ofInt 8 (a : Int) &&& BitVec.ofInt 8 (b : Int)).toNat : Int) = _
  rw [BitVec.toNat_and, bv8 a ha, bv8 b hb]
  exact wu8 (by omega) rfl
theorem bor64 (a b : Nat) (ha : a < 18446744073709551616) (hb : b < 18446744073709551616) : bits .or .u64 (a : Int) (b : Int) = ((a ||| b : Nat) : Int) := bits_or_u64_nat a b ha hb
theorem band64 (a b : Nat) (ha : a < 18446744073709551616) (hb : b < 18446744073709551616) : bits .and .u64 (a : Int) (b : Int) = ((a &&& b : Nat) : Int) := bits_and_u64_nat a b ha hb
theorem bandi64 (a b : Nat) (ha : a < 9223372036854775808) (hb : b < 9223372036854775808) : bits .and .i64 (a : Int) (b : Int) = ((a &&& b : Nat) : Int) := by
  have hx : a &&& b < 2 ^ 63 := Nat.and_lt_two_pow _ (by omega)
  show IntKind.i64.wrap ((BitVec.ofInt 64 (a : Int) &&& BitVec.ofInt 64 (b : Int)).toNat : Int) = _
  rw [BitVec.toNat_and, bv64 a (by omega), bv64 b (by omega)]
  exact w64 (by omega) rfl
theorem or128 : ∀ a : Fin 256, (a.val ||| 128) = a.val % 128 + 128 := by decide +kernel
theorem and127 (a : Nat) : a &&& 127 = a % 128 := Nat.and_two_pow_sub_one_eq_mod a 7
theorem shl7or (n d : Nat) (hd : d < 128) : (n * 128 % 18446744073709551616) ||| d = (n * 128 + d) % 18446744073709551616 := by
  have h1 : n * 128 % 18446744073709551616 = (n % 144115188075855872) <<< 7 := by rw [Nat.shiftLeft_eq]; omega
  rw [h1, ← Nat.shiftLeft_add_eq_or_of_lt (show d < 2 ^ 7 by omega), Nat.shiftLeft_eq]
  omega

theorem bor8_128 (m : Nat) (h : m < 256) : bits .or .u8 (m : Int) 128 = ((m % 128 + 128 : Nat) : Int) := by
  rw [show (128 : Int) = ((128 : Nat) : Int) from rfl, bor8 _ _ h (by decide)]; exact congrArg _ (or128 ⟨m, h⟩)
theorem shr7 (m : Nat) : (m : Int).fdiv (2 ^ (min (7 : Int).toNat IntKind.u64.bits)) = ((m / 128 : Nat) : Int) := by
  show (m : Int).fdiv 128 = _
  rw [Int.fdiv_eq_ediv_of_nonneg _ (by decide)]; rfl
theorem shl7 (m : Nat) : IntKind.u64.wrap ((m : Int) * 2 ^ (min (7 : Int).toNat IntKind.u64.bits)) = ((m * 128 % 18446744073709551616 : Nat) : Int) := by
  show IntKind.u64.wrap ((m : Int) * 128) = _
  rw [wu64_mod]; omega
theorem tmodN (m k : Nat) : (m : Int).tmod (k : Int) = ((m % k : Nat) : Int) := rfl
theorem tdivN (m k : Nat) : (m : Int).tdiv (k : Int) = ((m / k : Nat) : Int) := rfl
theorem b8_of (m : Nat) (h : m < 256) : b8 (UInt8.ofNat m) = .int .u8 (m : Int) := by
  simp [b8]; omega

section
variable {P : Program} {ops : Array Oper} {Q : Exit → Act → World → Prop} {rest : List Oper} {a : Act} {W : World} {n : Nat} {E : List (Nat × Value)} {I : Snap} {L : List Ch}
  {d : Nat} {dd : Option Nat} {ty : TypeId} {pos : String} {af : Array Edge} {v x y z : Value} {s t u : Operand} {T T' e : TypeId} {A : Option Addr} {c bt sz : Nat}
theorem sp {c : Code} {w} (h : c.wp P (Exit.noGoto Q) a w) : (Code.scope c).wp P Q a w := wp_scope_straight h
theorem nm_sc {w} (h : Q .normal a w) : Exit.noGoto Q .normal a w := h
theorem en_sc {w} (h : Q .normal a w) : wpList P ops (Exit.noGoto Q) [] a w := h
theorem ex_sc {id : Nat} {w} (h : Q (.exit id) a w) : Exit.noGoto Q (.exit id) a w := h
/-- A piece of code ends normally, and then this holds, or it leaves otherwise; what follows a normal end is shown out of it alone. -/
theorem cutr {c : Code} {w} (M : Act → World → Prop) (h : c.wp P (Exit.then M Q) a w) (k : ∀ a w, M a w → Q .normal a w) : c.wp P Q a w :=
  wp_mono h fun e a w hq => by cases e <;> first | exact k _ _ hq | exact hq
theorem Fz.empty {α : Type} {enc : α → Value} {xs : List α} (h : Fz I .none (xs.map enc)) : xs = [] := by
  cases xs with
  | nil => rfl
  | cons x xs => obtain ⟨b, o, _, _, _, h, _⟩ := h 0 (enc x) (by simp); cases h

/-! ### Variables that nobody changes any more -/
theorem Hp.freezeObj {b o} (h : Hp I (.obj b o :: L) W) : ∃ I', I.le I' ∧ Hp I' L W ∧ I'.blk b = some o := by
  obtain ⟨h1, h2⟩ := h.freeze
  exact ⟨_, h1, h2, by simp [Snap.add]⟩
theorem Hp.icell {b cs t f o} (h : Hp I L W) (hi : I.blk b = some (.cells cs t f)) (hv : cs[o]? = some v) : W.cell? ⟨b, o, none⟩ = some v := ocell (b := b) (cs := cs) (t := t) (f := f) (h.imm b _ hi) hv
theorem Hp.ird {b cs t f} (h : Hp I L W) (hi : I.blk b = some (.cells cs t f)) (o : Nat) : Rd W (some ⟨b, o, none⟩) (cs.toList.drop o) := Rd.obj (b := b) (cs := cs) (t := t) (f := f) (h.imm b _ hi) o

theorem Hp.down {I' : Snap} (h : Hp I' L W) (hle : I.le I') : Hp I L W :=
  ⟨h.os.trans hle.os, h.tape.trans hle.tape, h.output.trans hle.output, fun b o hb => h.imm b o (hle.blk b o hb), h.sat, h.nd, fun c hc b hb => by
    have := h.off c hc b hb
    cases hi : I.blk b with
    | none => rfl
    | some o => rw [hle.blk b o hi] at this; cases this⟩
/-- Where an element lies, in whatever world that has the same frozen blocks. -/
theorem Fz.adr1 {α : Type} {enc : α → Value} {xs : List α} {xx : α} {i : Nat} (h : Fz I A (xs.map enc)) (hx : xs[i]? = some xx) : ∃ b o, A = some ⟨b, o, none⟩ ∧ ∀ I' L W, I.le I' → Hp I' L W → W.cell? ⟨b, o + i * 1, none⟩ = some (enc xx) := by
  have hj : (xs.map enc)[i]? = some (enc xx) := by rw [List.getElem?_map, hx]; rfl
  obtain ⟨b, o, cs, t, f, hA, hb, hv⟩ := h i _ hj
  exact ⟨b, o, hA, fun I' L W hle hh => by rw [Nat.mul_one]; exact hh.icell (hle.blk _ _ hb) hv⟩

/-- A literal's bytes as they are: the row gets a mark behind its last cell, and nobody changes it. -/
theorem cvss {g m c : Nat} {cs : List Value} (hs : P.underlying T = some (.slice e)) (he' : P.underlying e = some (.int .u8)) (hx : ev E s = some (.slice (some ⟨g, 0, none⟩) m c)) (hd : Nat.blt d n = true) (he : Env n E a) (hh : Hp I (.row (some ⟨g, 0, none⟩) m c e 1 cs :: L) W)
    (k : ∀ I' a W, I.le I' → Fz I' (some ⟨g, 0, none⟩) cs → m ≤ c → Env n ((d, .slice (some ⟨g, 0, none⟩) m c) :: E) a → Hp I' L W → wpList P ops Q rest a W) : wpList P ops Q (⟨some d, .convert T T s, ty, pos, af, none⟩ :: rest) a W := by
  obtain ⟨h1, h3⟩ := hh.at0
  rcases h3 with ⟨hv, _⟩ | ⟨g', cap, cur, hv, _, hg, hc, hm, hcs, htk⟩
  · cases hv
  · simp only [Value.slice.injEq, Option.some.injEq, Addr.mk.injEq] at hv
    obtain ⟨⟨rfl, _⟩, _, rfl⟩ := hv
    have hsh : W.shape? g = some (e, cur.size) := by unfold World.shape?; rw [hg]
    have hlt := (Array.getElem?_eq_some_iff.1 hg).1
    have hnew : (W.freeze ⟨g, cur.size, none⟩ 1).heap[g]? = some (.cells cur e (cur.size, cur.size + 1)) := by
      unfold World.freeze
      rw [if_neg (by decide)]
      show (W.heap.modify g _)[g]? = _
      rw [Array.getElem?_modify, if_pos rfl, hg]; rfl
    have hold : ∀ b, b ≠ g → (W.freeze ⟨g, cur.size, none⟩ 1).heap[b]? = W.heap[b]? := fun b hb => by
      unfold World.freeze
      rw [if_neg (by decide)]
      show (W.heap.modify g _)[b]? = _
      rw [Array.getElem?_modify, if_neg (Ne.symm hb)]
    have hos : (W.freeze ⟨g, cur.size, none⟩ 1).os = W.os ∧ (W.freeze ⟨g, cur.size, none⟩ 1).tape = W.tape ∧ (W.freeze ⟨g, cur.size, none⟩ 1).output = W.output := by
      unfold World.freeze; rw [if_neg (by decide)]; exact ⟨rfl, rfl, rfl⟩
    have hp : Hp I (.obj g (.cells cur e (cur.size, cur.size + 1)) :: L) (W.freeze ⟨g, cur.size, none⟩ 1) :=
      hh.turn _ hos.1 hos.2.1 hos.2.2 (fun b _ hne => hold b fun e => hne (by simp [Ch.blk, e])) hnew (fun b hb => .inl hb)
    obtain ⟨hle, hp'⟩ := hp.freeze
    refine step_val (v := .slice (some ⟨g, 0, none⟩) m c) (W' := W.freeze ⟨g, cur.size, none⟩ 1) rfl ?_ (k _ _ _ hle ?_ hc (he.put hd) hp')
    · simp [execOp, he.ev hx, convert, run_underlying hs, run_underlying he', markStringish, hsh]
    · intro j v hj
      have hj2 : (cur.toList.take (m * 1))[j]? = some v := by rw [htk]; exact hj
      have hjl : j < m * 1 := by
        have := (List.getElem?_eq_some_iff.1 hj2).1; simp at this; omega
      rw [List.getElem?_take_of_lt hjl] at hj2
      exact ⟨g, 0, cur, e, (cur.size, cur.size + 1), rfl, by simp [Snap.add], by simpa using hj2⟩

/-! ### Elements of several cells -/
theorem flat_get {α : Type} (enc : α → List Value) (hs : ∀ x, (enc x).length = sz) : ∀ (xs : List α) (i j : Nat) (x : α) (v : Value), xs[i]? = some x → (enc x)[j]? = some v → (xs.flatMap enc)[i * sz + j]? = some v
  | [], i, j, x, v, h, _ => by simp at h
  | y :: ys, 0, j, x, v, h, hv => by
    simp at h; subst h
    have hj := (List.getElem?_eq_some_iff.1 hv).1
    rw [List.flatMap_cons, Nat.zero_mul, Nat.zero_add, List.getElem?_append_left hj]; exact hv
  | y :: ys, i + 1, j, x, v, h, hv => by
    have := flat_get enc hs ys i j x v (by simpa using h) hv
    rw [List.flatMap_cons, List.getElem?_append_right (by rw [hs, Nat.add_mul]; omega), hs]
    rw [← this]; congr 1; rw [Nat.add_mul]; omega
theorem flat_len {α : Type} (enc : α → List Value) (hs : ∀ x, (enc x).length = sz) (xs : List α) : (xs.flatMap enc).length = xs.length * sz := by
  induction xs with
  | nil => simp
  | cons x xs ih => rw [List.flatMap_cons, List.length_append, hs, ih, List.length_cons, Nat.add_mul]; omega
theorem Rd.at {α : Type} {enc : α → List Value} {xs : List α} {xx : α} {i : Nat} (hr : Rd W A (xs.flatMap enc)) (hs : ∀ x, (enc x).length = sz) (h0 : 0 < sz) (hi : xs[i]? = some xx) : ∃ b o, A = some ⟨b, o, none⟩ ∧ Rd W (some ⟨b, o + i * sz, none⟩) (enc xx) := by
  have hv0 : (enc xx)[0]? = some ((enc xx)[0]'(by rw [hs]; exact h0)) := List.getElem?_eq_getElem _
  obtain ⟨b, o, rfl⟩ := hr.adr (flat_get enc hs xs i 0 xx _ hi hv0)
  refine ⟨b, o, rfl, fun j v hj => ⟨b, o + i * sz, rfl, ?_⟩⟩
  have := hr.cell (flat_get enc hs xs i j xx v hi hj)
  rw [← Nat.add_assoc] at this; exact this
/-- The address of an element of several cells, and what lies there. -/
theorem ian {α : Type} {enc : α → List Value} {xs : List α} {xx : α} (i : Nat) (hT : TS P T e z sz bt) (h0 : 0 < sz) (hs : ∀ x, (enc x).length = sz) (hx : ev E s = some (.slice A xs.length c)) (hy : ev E t = some (.int .i64 i)) (hr : Rd W A (xs.flatMap enc)) (hi : xs[i]? = some xx) (hd : Nat.blt d n = true) (he : Env n E a)
    (k : ∀ b o a, Rd W (some ⟨b, o, none⟩) (enc xx) → Env n ((d, .pointer (some ⟨b, o, none⟩)) :: E) a → wpList P ops Q rest a W) : wpList P ops Q (⟨some d, .indexAddr T s t, ty, pos, af, none⟩ :: rest) a W := by
  have hlt : i < xs.length := (List.getElem?_eq_some_iff.1 hi).1
  obtain ⟨b, o, rfl, hr'⟩ := hr.at hs h0 hi
  exact ia i hT hx hy hlt hd he fun a he => k b (o + i * sz) a hr' he
end
end Go.Proofs.YtndaogkpgoimlaaDoor.K

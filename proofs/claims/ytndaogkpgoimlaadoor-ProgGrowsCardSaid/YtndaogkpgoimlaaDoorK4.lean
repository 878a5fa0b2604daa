/- Rules for calls, conversions, ranges over strings, least and greatest numbers. Holds for every program of the model; no condition. -/
import Derived.Test.YtndaogkpgoimlaaDoorK3
import Derived.Lib.ConvBytes
namespace Go.Proofs.YtndaogkpgoimlaaDoor.K
open Go Go.RowKit
set_option linter.unusedVariables false
set_option linter.unusedSimpArgs false

/-- Bytes, runes, strings as values. -/
def b8 (b : UInt8) : Value := .int .u8 (b.toNat : Int)
def r32 (r : Int) : Value := .int .i32 r
def i64v (r : Int) : Value := .int .i64 r
def str (l : List UInt8) : Value := .string ⟨l.toArray⟩
def str1 (s : ByteArray) : Value := .string s
theorem str_eta (s : ByteArray) : (⟨s.data.toList.toArray⟩ : ByteArray) = s := by cases s; simp
theorem b8_one (l : List UInt8) : ∀ u ∈ l.map b8, u.oneCell' = true := fun u h => by obtain ⟨x, _, rfl⟩ := List.mem_map.1 h; rfl
theorem r32_one (l : List Int) : ∀ u ∈ l.map r32, u.oneCell' = true := fun u h => by obtain ⟨x, _, rfl⟩ := List.mem_map.1 h; rfl
theorem i64_one (l : List Int) : ∀ u ∈ l.map i64v, u.oneCell' = true := fun u h => by obtain ⟨x, _, rfl⟩ := List.mem_map.1 h; rfl
theorem str1_one (l : List ByteArray) : ∀ u ∈ l.map str1, u.oneCell' = true := fun u h => by obtain ⟨x, _, rfl⟩ := List.mem_map.1 h; rfl

def callable (P : Program) (f : FuncId) : Bool := match P.funcs[f]? with
  | some fn => !(fn.name == "runtime.NumGoroutine") && fn.body.isSome
  | none => false
theorem callFunc_run {P f} (h : callable P f = true) (vs : Array Value) (W : World) : (callFunc f vs).run P W = .ok (.enter f vs) W := by
  unfold callable at h
  split at h
  · rename_i fn hf
    simp only [Bool.and_eq_true, Bool.not_eq_true'] at h
    have h1 : ¬ fn.name = "runtime.NumGoroutine" := by simpa using h.1
    have h2 : ¬ fn.body = none := by have := h.2; cases hb : fn.body <;> simp_all
    simp [callFunc, hf, h1, h2]
  · cases h

section
variable {P : Program} {ops : Array Oper} {Q : Exit → Act → World → Prop} {rest : List Oper} {a : Act} {W : World} {n : Nat} {E : List (Nat × Value)} {I : Snap} {L : List Ch}
  {d : Nat} {dd : Option Nat} {ty : TypeId} {pos : String} {af : Array Edge} {v x y z : Value} {s t : Operand} {T T' : TypeId}

/-! ### Calls -/
theorem step_call {o : Oper} {f : FuncId} {args : Array Value} {p : Value → World → Prop} (hg : o.guard = none) (hr : (execOp a.eval o).run P W = .ok (.enter f args) W) (hc : Calls P f args W (Ret p))
    (k : ∀ v W', p v W' → wpList P ops Q rest (a.put o.dst v) W') : wpList P ops Q (o :: rest) a W := by
  unfold wpList
  rw [if_pos (by simp [Region.wanted, hg])]
  left
  simp only [Oper.wp, hr, Oper.upon_enter]
  refine hc.mono fun e w' ⟨v, he, hp⟩ => ?_
  subst he
  exact k v w' hp
/-- A call of a function by its name. -/
theorem cal {f : FuncId} {fs : List Operand} {vs : List Value} {ts : Array TypeId} {p : Value → World → Prop} (hf : callable P f = true) (hx : evl E fs = some vs) (hc : Calls P f vs.toArray W (Ret p)) (hd : Nat.blt d n = true) (he : Env n E a)
    (k : ∀ v a W, p v W → Env n ((d, v) :: E) a → wpList P ops Q rest a W) : wpList P ops Q (⟨some d, .call { callee := .value (.func f), args := fs.toArray, argTypes := ts }, ty, pos, af, none⟩ :: rest) a W :=
  step_call rfl (by simp [execOp, resolve, Act.eval, Deferred.ofValue, invoke, he.evl hx, callFunc_run hf]) hc fun v W' hp => k v _ W' hp (he.put hd)
/-- A call of a closure that is known. -/
theorem calc' {f : FuncId} {fs : List Operand} {vs us : List Value} {fv cv : Array Value} {ts : Array TypeId} {p : Value → World → Prop} (hf : callable P f = true) (hs : ev E s = some (.func (.func f) fv cv)) (hx : evl E fs = some vs) (hu : fv ++ vs.toArray ++ cv = us.toArray)
    (hc : Calls P f us.toArray W (Ret p)) (hd : Nat.blt d n = true) (he : Env n E a)
    (k : ∀ v a W, p v W → Env n ((d, v) :: E) a → wpList P ops Q rest a W) : wpList P ops Q (⟨some d, .call { callee := .value s, args := fs.toArray, argTypes := ts }, ty, pos, af, none⟩ :: rest) a W :=
  step_call (args := us.toArray) rfl (by
    have h1 : (fs.toArray.map a.eval) = vs.toArray := by simp [he.evl hx]
    simp only [execOp, resolve, he.ev hs, Deferred.ofValue, h1]
    simp only [Sem.run_bind, Sem.run_pure, Result.andThen_ok, invoke, hu, callFunc_run hf]) hc fun v W' hp => k v _ W' hp (he.put hd)

/-! ### Comparisons with nil -/
theorem sni {A : Option Addr} {m c : Nat} {e : TypeId} (hT : P.underlying T = some (.slice e)) (hx : ev E s = some (.slice A m c)) (hy : ev E t = some (.slice none 0 0)) (hd : Nat.blt d n = true) (he : Env n E a)
    (k : ∀ a, Env n ((d, .bool A.isNone) :: E) a → wpList P ops Q rest a W) : wpList P ops Q (⟨some d, .binOp .eql T s t T', ty, pos, af, none⟩ :: rest) a W := by
  have h : (binOp .eql T (.slice A m c) (.slice none 0 0)).run P W = .ok (.bool A.isNone) W := by
    show (Sem.bind (Op.equalIn 10000 T (.slice A m c) (.slice none 0 0)) _).run P W = _
    rw [Sem.run_bind']
    have : (Op.equalIn 10000 T (.slice A m c) (.slice none 0 0)).run P W = .ok A.isNone W := by
      rw [show (10000 : Nat) = 9999 + 1 from rfl]
      unfold Op.equalIn
      cases A <;> simp [run_underlying hT]
    rw [this]; rfl
  exact step_val rfl (by simp [execOp, he.ev hx, he.ev hy, eqGuard_at_slice, h]) (k _ (he.put hd))
theorem pni {A : Option Addr} {e : TypeId} (hT : P.underlying T = some (.pointer e)) (hx : ev E s = some (.pointer A)) (hy : ev E t = some (.pointer none)) (hd : Nat.blt d n = true) (he : Env n E a)
    (k : ∀ a, Env n ((d, .bool A.isNone) :: E) a → wpList P ops Q rest a W) : wpList P ops Q (⟨some d, .binOp .eql T s t T', ty, pos, af, none⟩ :: rest) a W := by
  have h : (binOp .eql T (.pointer A) (.pointer none)).run P W = .ok (.bool A.isNone) W := by
    show (Sem.bind (Op.equalIn 10000 T (.pointer A) (.pointer none)) _).run P W = _
    rw [Sem.run_bind']
    have : (Op.equalIn 10000 T (.pointer A) (.pointer none)).run P W = .ok A.isNone W := by
      rw [show (10000 : Nat) = 9999 + 1 from rfl]
      unfold Op.equalIn
      cases A <;> simp [run_underlying hT]
    rw [this]; rfl
  exact step_val rfl (by simp [execOp, he.ev hx, he.ev hy, eqGuard_at_pointer, h]) (k _ (he.put hd))

/-! ### Conversions -/
theorem pushes (l : List UInt8) : ∀ s : ByteArray, ((l.map fun b => (b.toNat : Int)).foldl (fun r n => r.push (UInt8.ofNat n.toNat)) s) = s ++ ⟨l.toArray⟩ := by
  induction l with
  | nil =>
    intro s
    have : (⟨([] : List UInt8).toArray⟩ : ByteArray) = ByteArray.empty := rfl
    simp only [List.map_nil, List.foldl_nil, this, ByteArray.append_empty]
  | cons b l ih =>
    intro s
    simp only [List.map_cons, List.foldl_cons]
    rw [ih]
    obtain ⟨c⟩ := s
    simp [ByteArray.ext_iff, ByteArray.push]
theorem cvbs {e : TypeId} {A : Option Addr} {m c : Nat} (l : List UInt8) (hs : P.underlying T = some (.slice e)) (he' : P.underlying e = some (.int .u8)) (hdst : P.underlying T' = some .string) (hx : ev E s = some (.slice A m c)) (hr : Rd W A (l.map b8)) (hm : l.length = m) (hd : Nat.blt d n = true) (he : Env n E a)
    (k : ∀ a, Env n ((d, str l) :: E) a → wpList P ops Q rest a W) : wpList P ops Q (⟨some d, .convert T T' s, ty, pos, af, none⟩ :: rest) a W := by
  have h : (convert T T' (.slice A m c)).run P W = .ok (str l) W := by
    rw [run_convert_bytes_string W T T' e A m c hs he' hdst]
    cases A with
    | none =>
      have : l = [] := by
        cases l with
        | nil => rfl
        | cons b l => obtain ⟨b', o, h, _⟩ := hr 0 (b8 b) rfl; cases h
      subst this
      simp only [Conv.bytesToString, str]
      rfl
    | some ad =>
      have hl := hr.load (P := P) ad rfl
      simp only [List.length_map, hm] at hl
      rw [run_bytesToString W ad m c (l.map fun b => (b.toNat : Int)) (by rw [hl]; congr 1; simp [b8, Function.comp_def]), pushes]
      simp only [ByteArray.empty_append]
      rfl
  exact step_val rfl (by simp [execOp, he.ev hx, h]) (k _ (he.put hd))
theorem cvrs {e : TypeId} {A : Option Addr} {m c : Nat} (l : List Int) (hs : P.underlying T = some (.slice e)) (he' : P.underlying e = some (.int .i32)) (hdst : P.underlying T' = some .string) (hx : ev E s = some (.slice A m c)) (hr : Rd W A (l.map r32)) (hm : l.length = m) (hd : Nat.blt d n = true) (he : Env n E a)
    (k : ∀ a, Env n ((d, .string (runesBytes l)) :: E) a → wpList P ops Q rest a W) : wpList P ops Q (⟨some d, .convert T T' s, ty, pos, af, none⟩ :: rest) a W := by
  have h : (convert T T' (.slice A m c)).run P W = .ok (.string (runesBytes l)) W := by
    rw [run_convert_runes_string W T T' e A m c hs he' hdst]
    cases A with
    | none =>
      have : l = [] := by
        cases l with
        | nil => rfl
        | cons b l => obtain ⟨b', o, h, _⟩ := hr 0 (r32 b) rfl; cases h
      subst this
      simp [Conv.runesToString, runesBytes]
    | some ad =>
      have hl := hr.load (P := P) ad rfl
      simp only [List.length_map, hm] at hl
      exact run_runesToString W ad m c l hl
  exact step_val rfl (by simp [execOp, he.ev hx, h]) (k _ (he.put hd))
theorem cvis {kk : IntKind} {i : Int} (hs : (P.underlying T).isSome = true) (hdst : P.underlying T' = some .string) (hx : ev E s = some (.int kk i)) (hd : Nat.blt d n = true) (he : Env n E a)
    (k : ∀ a, Env n ((d, .string (Utf8.encode i)) :: E) a → wpList P ops Q rest a W) : wpList P ops Q (⟨some d, .convert T T' s, ty, pos, af, none⟩ :: rest) a W :=
  step_val rfl (by simp [execOp, he.ev hx, run_convert_int_string W T T' kk i hs hdst]) (k _ (he.put hd))
/-- []byte(s): new bytes, which nobody changes. -/
theorem cvsb {e : TypeId} {l : List UInt8} (hs : (P.underlying T).isSome = true) (hdst : P.underlying T' = some (.slice e)) (he' : P.underlying e = some (.int .u8)) (hx : ev E s = some (str l)) (hd : Nat.blt d n = true) (he : Env n E a) (hh : Hp I L W)
    (k : ∀ I' A c a W, I.le I' → Fz I' A (l.map b8) → l.length ≤ c → Env n ((d, .slice A l.length c) :: E) a → Hp I' L W → wpList P ops Q rest a W) : wpList P ops Q (⟨some d, .convert T T' s, ty, pos, af, none⟩ :: rest) a W := by
  obtain ⟨u, hu⟩ := Option.isSome_iff_exists.1 hs
  have hrun := Lib.run_convert_string_bytes (P := P) W T T' e ⟨l.toArray⟩ hu hdst he'
  have hal : Hp I (.obj W.heap.size (.cells (Lib.bytesCells W e ⟨l.toArray⟩) e ((Lib.bytesCells W e ⟨l.toArray⟩).size, (Lib.bytesCells W e ⟨l.toArray⟩).size + 1)) :: L) (Lib.bytesWorld W e ⟨l.toArray⟩) := by
    refine Hp.turn (c := .obj W.heap.size (.cells #[] e)) _ (hh.alloc _) rfl rfl rfl (fun b hb hne => ?_) (Lib.bytesWorld_at_new W e _) (fun b hb => .inl hb)
    have hb' : b < W.heap.size := by
      simp at hb
      have : b ≠ W.heap.size := fun e => hne (by simp [Ch.blk, e])
      omega
    rw [Lib.bytesWorld_at_old W e _ b hb', Below.heap_alloc W _ b hb']
  obtain ⟨hle, hp⟩ := hal.freeze
  have hsz : (⟨l.toArray⟩ : ByteArray).size = l.length := by simp [ByteArray.size]
  refine step_val (v := .slice (some ⟨W.heap.size, 0, none⟩) l.length (grownCap W l.length 0 e)) (W' := Lib.bytesWorld W e ⟨l.toArray⟩) rfl ?_ (k _ _ _ _ _ hle ?_ (grownCap_ge W l.length 0 e) (he.put hd) hp)
  · rw [hsz] at hrun
    have hx' : a.eval s = .string ⟨l.toArray⟩ := he.ev hx
    simp [execOp, hx', hrun]
  · intro j v hj
    refine ⟨W.heap.size, 0, Lib.bytesCells W e ⟨l.toArray⟩, e, ((Lib.bytesCells W e ⟨l.toArray⟩).size, (Lib.bytesCells W e ⟨l.toArray⟩).size + 1), rfl, by simp [Snap.add], ?_⟩
    have hjl : j < l.length := by
      rcases Nat.lt_or_ge j l.length with h | h
      · exact h
      · rw [List.getElem?_eq_none (by simpa using h)] at hj; cases hj
    simp only [Nat.zero_add, Lib.bytesCells]
    rw [Array.getElem?_append_left (by simpa using hjl)]
    simp [hjl] at hj
    simp [hjl, ← hj, b8]

/-! ### Ranges over strings -/
theorem rgs {c : ByteArray} (hT : P.underlying T = some .string) (hx : ev E s = some (.string c)) (hd : Nat.blt d n = true) (he : Env n E a) (hh : Hp I L W)
    (k : ∀ b a W, Env n ((d, .pointer (some ⟨b, 0, none⟩)) :: E) a → Hp I (.obj b (.stringIter c 0) :: L) W → wpList P ops Q rest a W) : wpList P ops Q (⟨some d, .range T s, ty, pos, af, none⟩ :: rest) a W :=
  step_val (v := .pointer (some ⟨W.heap.size, 0, none⟩)) (W' := W.alloc (.stringIter c 0)) rfl (by simp [execOp, he.ev hx, run_range_string W T c hT, World.iter]) (k _ _ _ (he.put hd) (hh.alloc _))
theorem nxs {b : Nat} {c : ByteArray} {p : Nat} (hx : ev E s = some (.pointer (some ⟨b, 0, none⟩))) (hp : p < c.size) (hd : Nat.blt d n = true) (he : Env n E a) (hh : Hp I (.obj b (.stringIter c p) :: L) W)
    (k : ∀ a W, Env n ((d, .tuple #[.bool true, .int .i64 p, .int .i32 (Utf8.decode c p).1]) :: E) a → Hp I (.obj b (.stringIter c (p + (Utf8.decode c p).2)) :: L) W → wpList P ops Q rest a W) :
    wpList P ops Q (⟨some d, .next s true, ty, pos, af, none⟩ :: rest) a W := by
  have hg : W.heap[b]? = some (.stringIter c p) := hh.at0
  have hlt := (Array.getElem?_eq_some_iff.1 hg).1
  refine step_val (v := .tuple #[.bool true, .int .i64 p, .int .i32 (Utf8.decode c p).1]) (W' := { W with heap := W.heap.setIfInBounds b (.stringIter c (p + (Utf8.decode c p).2)) }) rfl ?_ (k _ _ (he.put hd) ?_)
  · simp only [execOp, he.ev hx, Instr.next, getObj, setObj, Sem.run_bind, Sem.run, hg, Result.andThen, hp, if_true]
    simp [goInt, Sem.run, hg]
  · refine hh.turn _ rfl rfl rfl (fun b' _ hne => ?_) ?_ (fun _ h => .inl h)
    · have : b ≠ b' := fun e => hne (by simp [Ch.blk, e])
      simp [Array.getElem?_setIfInBounds_ne this]
    · simp [Ch.sat, hlt]
theorem nxe {b : Nat} {c : ByteArray} {p : Nat} (hx : ev E s = some (.pointer (some ⟨b, 0, none⟩))) (hp : ¬ p < c.size) (hd : Nat.blt d n = true) (he : Env n E a) (hh : Hp I (.obj b (.stringIter c p) :: L) W)
    (k : ∀ a, Env n ((d, .tuple #[.bool false]) :: E) a → wpList P ops Q rest a W) : wpList P ops Q (⟨some d, .next s true, ty, pos, af, none⟩ :: rest) a W := by
  have hg : W.heap[b]? = some (.stringIter c p) := hh.at0
  exact step_val (v := .tuple #[.bool false]) (W' := W) rfl (by simp [execOp, he.ev hx, Instr.next, getObj, Sem.run, hg, hp]) (k _ (he.put hd))

/-! ### min, max -/
theorem mn {kk k' : IntKind} {i j : Int} {ts : Array TypeId} (r : Int) (hx : ev E s = some (.int kk i)) (hy : ev E t = some (.int k' j)) (hr : (if j < i then j else i) = r) (hd : Nat.blt d n = true) (he : Env n E a) (k : ∀ a, Env n ((d, .int kk r) :: E) a → wpList P ops Q rest a W) :
    wpList P ops Q (⟨some d, .call { callee := .builtin .min, args := #[s, t], argTypes := ts }, ty, pos, af, none⟩ :: rest) a W :=
  step_val (v := .int kk r) (W' := W) rfl (by simp only [execOp, resolve, invoke, builtin]; simp [he.ev hx, he.ev hy, run_min_int2, hr]) (k _ (he.put hd))
theorem mx {kk k' : IntKind} {i j : Int} {ts : Array TypeId} (r : Int) (hx : ev E s = some (.int kk i)) (hy : ev E t = some (.int k' j)) (hr : (if j > i then j else i) = r) (hd : Nat.blt d n = true) (he : Env n E a) (k : ∀ a, Env n ((d, .int kk r) :: E) a → wpList P ops Q rest a W) :
    wpList P ops Q (⟨some d, .call { callee := .builtin .max, args := #[s, t], argTypes := ts }, ty, pos, af, none⟩ :: rest) a W :=
  step_val (v := .int kk r) (W' := W) rfl (by simp only [execOp, resolve, invoke, builtin]; simp [he.ev hx, he.ev hy, run_max_int2, hr]) (k _ (he.put hd))
end
end Go.Proofs.YtndaogkpgoimlaaDoor.K

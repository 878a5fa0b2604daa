/- Rules for the operations that touch memory. Holds for every program of the model; no condition. -/
import Derived.Test.YtndaogkpgoimlaaDoorK2
import Derived.Deep.MidRow
import Derived.Great.BuildSlice
import Derived.Maps.AppendAt
import Derived.Laws.Cover4
namespace Go.Proofs.YtndaogkpgoimlaaDoor.K
open Go Go.RowKit
set_option linter.unusedVariables false
set_option linter.unusedSimpArgs false

/-! ### Chunks: the front, and those behind -/
section
variable {I : Snap} {L : List Ch} {w : World} {c0 c1 c2 c3 c4 c5 c6 c7 c8 : Ch}
theorem Hp.at0 (h : Hp I (c0 :: L) w) : c0.sat w := h.sat _ (by simp)
theorem Hp.at1 (h : Hp I (c0 :: c1 :: L) w) : c1.sat w := h.sat _ (by simp)
theorem Hp.at2 (h : Hp I (c0 :: c1 :: c2 :: L) w) : c2.sat w := h.sat _ (by simp)
theorem Hp.at3 (h : Hp I (c0 :: c1 :: c2 :: c3 :: L) w) : c3.sat w := h.sat _ (by simp)
theorem Hp.at4 (h : Hp I (c0 :: c1 :: c2 :: c3 :: c4 :: L) w) : c4.sat w := h.sat _ (by simp)
theorem Hp.at5 (h : Hp I (c0 :: c1 :: c2 :: c3 :: c4 :: c5 :: L) w) : c5.sat w := h.sat _ (by simp)
theorem Hp.at6 (h : Hp I (c0 :: c1 :: c2 :: c3 :: c4 :: c5 :: c6 :: L) w) : c6.sat w := h.sat _ (by simp)
theorem Hp.at7 (h : Hp I (c0 :: c1 :: c2 :: c3 :: c4 :: c5 :: c6 :: c7 :: L) w) : c7.sat w := h.sat _ (by simp)
theorem up_perm (L1 : List Ch) (c : Ch) (L2 : List Ch) : (L1 ++ c :: L2).Perm (c :: (L1 ++ L2)) := List.perm_middle
theorem Hp.up1 (h : Hp I (c0 :: c1 :: L) w) : Hp I (c1 :: c0 :: L) w := h.perm (up_perm [c0] c1 L)
theorem Hp.up2 (h : Hp I (c0 :: c1 :: c2 :: L) w) : Hp I (c2 :: c0 :: c1 :: L) w := h.perm (up_perm [c0, c1] c2 L)
theorem Hp.up3 (h : Hp I (c0 :: c1 :: c2 :: c3 :: L) w) : Hp I (c3 :: c0 :: c1 :: c2 :: L) w := h.perm (up_perm [c0, c1, c2] c3 L)
theorem Hp.up4 (h : Hp I (c0 :: c1 :: c2 :: c3 :: c4 :: L) w) : Hp I (c4 :: c0 :: c1 :: c2 :: c3 :: L) w := h.perm (up_perm [c0, c1, c2, c3] c4 L)
theorem Hp.up5 (h : Hp I (c0 :: c1 :: c2 :: c3 :: c4 :: c5 :: L) w) : Hp I (c5 :: c0 :: c1 :: c2 :: c3 :: c4 :: L) w := h.perm (up_perm [c0, c1, c2, c3, c4] c5 L)
theorem Hp.up6 (h : Hp I (c0 :: c1 :: c2 :: c3 :: c4 :: c5 :: c6 :: L) w) : Hp I (c6 :: c0 :: c1 :: c2 :: c3 :: c4 :: c5 :: L) w := h.perm (up_perm [c0, c1, c2, c3, c4, c5] c6 L)
theorem Hp.up7 (h : Hp I (c0 :: c1 :: c2 :: c3 :: c4 :: c5 :: c6 :: c7 :: L) w) : Hp I (c7 :: c0 :: c1 :: c2 :: c3 :: c4 :: c5 :: c6 :: L) w := h.perm (up_perm [c0, c1, c2, c3, c4, c5, c6] c7 L)
end

/-! ### What is read -/
/-- These cells lie from this address on. -/
def Rd (w : World) (A : Option Addr) (cs : List Value) : Prop := ∀ j v, cs[j]? = some v → ∃ b o, A = some ⟨b, o, none⟩ ∧ w.cell? ⟨b, o + j, none⟩ = some v
/-- The same, in blocks that nobody changes any more. -/
def Fz (I : Snap) (A : Option Addr) (cs : List Value) : Prop := ∀ j v, cs[j]? = some v → ∃ b o c t f, A = some ⟨b, o, none⟩ ∧ I.blk b = some (.cells c t f) ∧ c[o + j]? = some v
theorem Fz.up {I I' : Snap} {A cs} (h : Fz I A cs) (hle : I.le I') : Fz I' A cs := fun j v hj => by
  obtain ⟨b, o, c, t, f, hA, hI, hc⟩ := h j v hj
  exact ⟨b, o, c, t, f, hA, hle.blk _ _ hI, hc⟩
theorem Fz.nil (I : Snap) (A : Option Addr) : Fz I A [] := fun j v h => by simp at h
theorem Rd.nil (w : World) (A : Option Addr) : Rd w A [] := fun j v h => by simp at h
theorem Fz.rd {I L w A cs} (h : Fz I A cs) (hh : Hp I L w) : Rd w A cs := fun j v hj => by
  obtain ⟨b, o, c, t, f, hA, hI, hc⟩ := h j v hj
  exact ⟨b, o, hA, by simp [World.cell?, hh.imm _ _ hI, hc]⟩
theorem Fz.take {I A cs} (h : Fz I A cs) (k : Nat) : Fz I A (cs.take k) := fun j v hj => by
  rw [List.getElem?_take] at hj
  split at hj
  · exact h j v hj
  · cases hj
theorem Fz.drop {I A cs} (h : Fz I A cs) (k : Nat) : Fz I (A.map (·.add k)) (cs.drop k) := fun j v hj => by
  rw [List.getElem?_drop] at hj
  obtain ⟨b, o, c, t, f, rfl, hI, hc⟩ := h (k + j) v hj
  exact ⟨b, o + k, c, t, f, by simp [Addr.add_mid], hI, by rw [Nat.add_assoc]; exact hc⟩
theorem Rd.take {w A cs} (h : Rd w A cs) (k : Nat) : Rd w A (cs.take k) := fun j v hj => by
  rw [List.getElem?_take] at hj
  split at hj
  · exact h j v hj
  · cases hj
theorem Rd.drop {w A cs} (h : Rd w A cs) (k : Nat) : Rd w (A.map (·.add k)) (cs.drop k) := fun j v hj => by
  rw [List.getElem?_drop] at hj
  obtain ⟨b, o, rfl, hc⟩ := h (k + j) v hj
  exact ⟨b, o + k, by simp [Addr.add_mid], by rw [Nat.add_assoc]; exact hc⟩
theorem Ch.rd {w A n c e sz cs} (h : (Ch.row A n c e sz cs).sat w) : Rd w A cs := fun j v hj => by
  have h2 : ∀ g, (Value.slice A n c).ownBlock = some g → ∀ j u, cs[j]? = some u → w.cell? ((⟨g, 0, none⟩ : Addr).add j) = some u := fun g hg => World.ownsRow.cells h hg
  obtain ⟨h1, h3⟩ := h
  rcases h3 with ⟨hv, hn⟩ | ⟨g, cap, cur, hv, _⟩
  · subst hn
    simp at h1; subst h1; simp at hj
  · have hA : A = some ⟨g, 0, none⟩ := by injection hv
    have := h2 g (by simp [Value.ownBlock, hA]) j v hj
    exact ⟨g, 0, hA, by rw [← Addr.add_mid]; exact this⟩
theorem ocell {w b cs t f o v} (h : (Ch.obj b (.cells cs t f)).sat w) (hv : cs[o]? = some v) : w.cell? ⟨b, o, none⟩ = some v := by
  have h' : w.heap[b]? = some (.cells cs t f) := h
  simp [World.cell?, h', hv]
theorem Rd.obj {w b cs t f} (h : (Ch.obj b (.cells cs t f)).sat w) (o : Nat) : Rd w (some ⟨b, o, none⟩) (cs.toList.drop o) := fun j v hj => by
  rw [List.getElem?_drop] at hj
  exact ⟨b, o, rfl, ocell h (by simpa using hj)⟩
theorem Rd.cell {w b o} {j : Nat} {v : Value} {cs : List Value} (h : Rd w (some ⟨b, o, none⟩) cs) (hj : cs[j]? = some v) : w.cell? ⟨b, o + j, none⟩ = some v := by
  obtain ⟨b', o', hA, hc⟩ := h j v hj
  simp only [Option.some.injEq, Addr.mk.injEq, and_true] at hA
  obtain ⟨rfl, rfl⟩ := hA
  exact hc
theorem Rd.adr {w A} {j : Nat} {v : Value} {cs : List Value} (h : Rd w A cs) (hj : cs[j]? = some v) : ∃ b o, A = some ⟨b, o, none⟩ := by
  obtain ⟨b, o, hA, _⟩ := h j v hj
  exact ⟨b, o, hA⟩
theorem Rd.load {P w A cs} (h : Rd w A cs) (a : Addr) (hA : A = some a) : (loadCells a cs.length).run P w = .ok cs.toArray w :=
  run_loadCells_list (P := P) w a cs (fun j v hv => by
    obtain ⟨b, o, hA', hc⟩ := h j v hv
    rw [hA] at hA'
    injection hA' with hA'
    subst hA'
    rw [Addr.add_mid]; exact hc)
theorem Ch.rowlen {w A n c e sz cs} (h : (Ch.row A n c e sz cs).sat w) : cs.length = n * sz := h.1
theorem Ch.rowcap {w A n c e sz cs} (h : (Ch.row A n c e sz cs).sat w) : n ≤ c ∧ c ≤ maxLen := by
  obtain ⟨h1, h3⟩ := h
  rcases h3 with ⟨hv, hn⟩ | ⟨g, cap, cur, hv, _, _, hc, hm, _⟩
  · injection hv with _ h2 h3
    subst h2 h3
    exact ⟨Nat.le_refl _, Nat.zero_le _⟩
  · injection hv with _ _ h3
    subst h3
    exact ⟨hc, hm⟩
/-- An empty row that nobody has made yet. -/
theorem Hp.nilrow {I L w} (h : Hp I L w) (e : TypeId) (sz : Nat) : Hp I (.row none 0 0 e sz [] :: L) w :=
  ⟨h.os, h.tape, h.output, h.imm, fun c hc => by
    rcases List.mem_cons.1 hc with rfl | hc
    · exact World.ownsRow_nil w 0 e sz
    · exact h.sat c hc, List.pairwise_cons.2 ⟨fun d hd b hb => by simp [Ch.blk] at hb, h.nd⟩, fun c hc b hb => by
    rcases List.mem_cons.1 hc with rfl | hc
    · simp [Ch.blk] at hb
    · exact h.off c hc b hb⟩
/-- A row that nobody will change any more. -/
theorem Hp.freezeRow {I A n c e sz cs L w} (h : Hp I (.row A n c e sz cs :: L) w) : ∃ I', I.le I' ∧ Hp I' L w ∧ Fz I' A cs := by
  obtain ⟨h1, h3⟩ := h.at0
  rcases h3 with ⟨hv, hn⟩ | ⟨g, cap, cur, hv, hg0, hg, hc, hm, hcs, htk⟩
  · subst hn
    simp at h1; subst h1
    exact ⟨I, Snap.le.refl I, h.drop, Fz.nil _ _⟩
  · have hA : A = some ⟨g, 0, none⟩ := by injection hv
    have h' : Hp I (.obj g (.cells cur e (0, 0)) :: L) w := by
      have hd := List.pairwise_cons.1 h.nd
      have hb : (Ch.row A n c e sz cs).blk = some g := by simp [Ch.blk, hA]
      refine ⟨h.os, h.tape, h.output, h.imm, ?_, ?_, ?_⟩
      · intro d hd
        rcases List.mem_cons.1 hd with rfl | hd
        · exact hg
        · exact h.sat d (by simp [hd])
      · refine List.pairwise_cons.2 ⟨fun d hm b hb' => ?_, hd.2⟩
        simp only [Ch.blk, Option.some.injEq] at hb'
        subst hb'
        exact hd.1 d hm g hb
      · intro d hm b hb'
        rcases List.mem_cons.1 hm with rfl | hm
        · simp only [Ch.blk, Option.some.injEq] at hb'
          subst hb'
          exact h.off _ (by simp) _ hb
        · exact h.off d (by simp [hm]) b hb'
    obtain ⟨hle, hp⟩ := h'.freeze
    refine ⟨_, hle, hp, fun j v hj => ⟨g, 0, cur, e, (0, 0), hA, by simp [Snap.add], ?_⟩⟩
    rw [← htk, List.getElem?_take] at hj
    split at hj
    · simpa using hj
    · cases hj

/-! ### Types -/
structure TI (P : Program) (t : TypeId) (z : Value) (sz bt : Nat) : Prop where
  ex : (P.info? t).map (fun i => (i.zero, i.size, i.bytes)) = some (some z, sz, bt)
  zs : z.cells.size = sz
theorem TI.get {P t z sz bt} (h : TI P t z sz bt) : ∃ i, P.info? t = some i ∧ i.zero = some z ∧ i.size = sz ∧ i.bytes = bt := by
  obtain ⟨i, hi, he⟩ := Option.map_eq_some_iff.1 h.ex
  simp only [Prod.mk.injEq] at he
  exact ⟨i, hi, he⟩
/-- A type of one cell that is no struct and no array. -/
def isRowB (P : Program) (t : TypeId) : Option Bool := (P.underlying t).map fun | .struct _ | .array _ _ => true | _ => false
theorem isAgg_run {P t b} (h : isRowB P t = some b) (w : World) : (isAgg t).run P w = .ok b w := by
  obtain ⟨d, hd, he⟩ := Option.map_eq_some_iff.1 h
  unfold isAgg
  rw [Sem.run_bind, run_underlying hd w]
  cases d <;> simp_all
def fieldOff (P : Program) (s : TypeId) (i : Nat) : Option Nat :=
  match P.underlying s with
  | some (.struct fs) => match fs[i]? with
    | some f => match P.info? f.type with
      | some ti => if ti.size = 0 then none else some f.offset
      | none => none
    | none => none
  | _ => none
theorem fieldAt_run {P s i o'} (h : fieldOff P s i = some o') (w : World) (b o : Nat) : (Instr.fieldAt s (.pointer (some ⟨b, o, none⟩)) i).run P w = .ok (.pointer (some ⟨b, o + o', none⟩)) w := by
  unfold fieldOff at h
  split at h
  · rename_i fs hu
    split at h
    · rename_i f hf
      split at h
      · rename_i ti hti
        split at h
        · cases h
        · rename_i hz
          injection h with h
          subst h
          simp [Instr.fieldAt, run_underlying hu, hf, Instr.sureAddr, fieldPlace, sizeOf, typeInfo, hti, hz, Addr.add_mid]
      · cases h
    · cases h
  · cases h

section
variable {P : Program} {ops : Array Oper} {Q : Exit → Act → World → Prop} {rest : List Oper} {a : Act} {W : World} {n : Nat} {E : List (Nat × Value)} {I : Snap} {L : List Ch}
  {d : Nat} {ty : TypeId} {pos : String} {af : Array Edge} {v x y z : Value} {s t : Operand} {T T' : TypeId}

/-! ### Variables -/
theorem bx (cs : Array Value) (hx : ev E s = some v) (hc : v.cells = cs) (hd : Nat.blt d n = true) (he : Env n E a) (hh : Hp I L W)
    (k : ∀ b a W, Env n ((d, .pointer (some ⟨b, 0, none⟩)) :: E) a → Hp I (.obj b (.cells cs T) :: L) W → wpList P ops Q rest a W) :
    wpList P ops Q (⟨some d, .box T s, ty, pos, af, none⟩ :: rest) a W :=
  step_val (v := .pointer (some ⟨W.heap.size, 0, none⟩)) (W' := W.alloc (.cells cs T)) rfl (by simp [execOp, he.ev hx, Instr.box, newVar, newRow, hc]) (k _ _ _ (he.put hd) (hh.alloc _))
theorem al {z sz bt} (hT : TI P T z sz bt) (hd : Nat.blt d n = true) (he : Env n E a) (hh : Hp I L W)
    (k : ∀ b a W, Env n ((d, .pointer (some ⟨b, 0, none⟩)) :: E) a → Hp I (.obj b (.cells z.cells T) :: L) W → wpList P ops Q rest a W) :
    wpList P ops Q (⟨some d, .alloc T, ty, pos, af, none⟩ :: rest) a W := by
  obtain ⟨i, hi, hz, _, _⟩ := hT.get
  exact step_val (v := .pointer (some ⟨W.heap.size, 0, none⟩)) (W' := W.alloc (.cells z.cells T)) rfl (by simp [execOp, Instr.alloc, zeroValue, typeInfo, hi, hz, newVar, newRow]) (k _ _ _ (he.put hd) (hh.alloc _))
theorem fa {i b o o'} (hf : fieldOff P T i = some o') (hx : ev E s = some (.pointer (some ⟨b, o, none⟩))) (hd : Nat.blt d n = true) (he : Env n E a)
    (k : ∀ a, Env n ((d, .pointer (some ⟨b, o + o', none⟩)) :: E) a → wpList P ops Q rest a W) : wpList P ops Q (⟨some d, .fieldAddr T s i, ty, pos, af, none⟩ :: rest) a W :=
  step_val rfl (by simp [execOp, he.ev hx, fieldAt_run hf]) (k _ (he.put hd))
theorem ld {ad} (hT : isRowB P T = some false) (hx : ev E s = some (.pointer (some ad))) (hc : W.cell? ad = some v) (hd : Nat.blt d n = true) (he : Env n E a)
    (k : ∀ a, Env n ((d, v) :: E) a → wpList P ops Q rest a W) : wpList P ops Q (⟨some d, .load T s, ty, pos, af, none⟩ :: rest) a W :=
  step_val rfl (by simp [execOp, he.ev hx, Instr.loadAt, Instr.sureAddr, loadVar, isAgg_run hT, hc]) (k _ (he.put hd))
theorem loadVar_run {T z sz bt cs b o} (hT : isRowB P T = some true) (hi : TI P T z sz bt) (hr : Rd W (some ⟨b, o, none⟩) cs) (hl : cs.length = sz) : (loadVar T ⟨b, o, none⟩).run P W = .ok (.agg cs.toArray) W := by
  obtain ⟨i, hi1, _, hs, _⟩ := hi.get
  have := hr.load (P := P) ⟨b, o, none⟩ rfl
  simp [loadVar, isAgg_run hT, sizeOf, typeInfo, hi1, hs, ← hl, this]
theorem loadVar_one {T ad} (hT : isRowB P T = some false) (hc : W.cell? ad = some v) : (loadVar T ad).run P W = .ok v W := by
  simp [loadVar, isAgg_run hT, hc]
theorem ldA {b o z sz bt} (cs : List Value) (hT : isRowB P T = some true) (hi : TI P T z sz bt) (hx : ev E s = some (.pointer (some ⟨b, o, none⟩))) (hr : Rd W (some ⟨b, o, none⟩) cs) (hl : cs.length = sz) (hd : Nat.blt d n = true) (he : Env n E a)
    (k : ∀ a, Env n ((d, .agg cs.toArray) :: E) a → wpList P ops Q rest a W) : wpList P ops Q (⟨some d, .load T s, ty, pos, af, none⟩ :: rest) a W :=
  step_val (v := .agg cs.toArray) rfl (by simp [execOp, he.ev hx, Instr.loadAt, Instr.sureAddr, loadVar_run hT hi hr hl]) (k _ (he.put hd))

def putl (cs : List Value) (o : Nat) (vs : List Value) : List Value := cs.take o ++ vs ++ cs.drop (o + vs.length)
theorem heap_setRow_other (w : World) (g : Nat) (cs : Array Value) (b : Nat) (h : b ≠ g) : (w.setRow g cs).heap[b]? = w.heap[b]? := by
  simp only [World.setRow, Array.getElem?_modify]
  rw [if_neg (by omega)]
theorem Hp.set {g cs e fz L} (cs' : Array Value) (h : Hp I (.obj g (.cells cs e fz) :: L) W) : Hp I (.obj g (.cells cs' e fz) :: L) (W.setRow g cs') := by
  have hg : W.heap[g]? = some (.cells cs e fz) := h.at0
  refine h.turn (.obj g (.cells cs' e fz)) rfl rfl rfl (fun b _ hne => heap_setRow_other W g cs' b fun e => hne (by simp [Ch.blk, e])) ?_ (fun b hb => .inl hb)
  exact setRow_heap W g cs cs' e fz hg
theorem storeVar_run {g o e cs vs z sz bt} (hi : TI P T z sz bt) (hg : (Ch.obj g (.cells cs e)).sat W) (hc : v.cells = vs) (hs : vs.size = sz) (h1 : ∀ u ∈ vs.toList, u.oneCell' = true) (ho : o + sz ≤ cs.size) :
    (storeVar T ⟨g, o, none⟩ v).run P W = .ok () (W.setRow g (putl cs.toList o vs.toList).toArray) := by
  obtain ⟨i, hi1, _, hsz, _⟩ := hi.get
  have := run_storeCells_at P g o e vs.toList 0 cs W hg (by simp; omega) h1
  simp only [Nat.add_zero] at this
  simp [storeVar, sizeOf, typeInfo, hi1, hsz, hc, hs, putl, this]
theorem st {g o e z sz bt} {cs : List Value} (vs : Array Value) (hi : TI P T z sz bt) (hx : ev E s = some (.pointer (some ⟨g, o, none⟩))) (hy : ev E t = some v) (hc : v.cells = vs) (hs : vs.size = sz) (h1 : ∀ u ∈ vs.toList, u.oneCell' = true)
    (ho : o + sz ≤ cs.length) (he : Env n E a) (hh : Hp I (.obj g (.cells cs.toArray e) :: L) W)
    (k : ∀ W, Hp I (.obj g (.cells (putl cs o vs.toList).toArray e) :: L) W → wpList P ops Q rest a W) : wpList P ops Q (⟨none, .store T s t, ty, pos, af, none⟩ :: rest) a W := by
  refine step_skip' rfl rfl ?_ (k _ (hh.set _))
  have := storeVar_run (P := P) (o := o) hi hh.at0 hc hs h1 (by simpa using ho)
  simp only [List.toList_toArray] at this
  simp [execOp, he.ev hx, he.ev hy, Instr.storeAt, Instr.sureAddr, this]
theorem bd {parts : List (Nat × Operand)} (cells : Array Value) (hb : P.built T (parts.map fun (i, x) => (i, a.eval x)) = some cells) (hd : Nat.blt d n = true) (he : Env n E a)
    (k : ∀ a, Env n ((d, .agg cells) :: E) a → wpList P ops Q rest a W) : wpList P ops Q (⟨some d, .build T parts.toArray, ty, pos, af, none⟩ :: rest) a W :=
  step_val (v := .agg cells) (W' := W) rfl (by
    have := run_build (P := P) W T (parts.toArray.map fun (i, x) => (i, a.eval x)) cells (by simpa using hb)
    simp only [execOp, Sem.run_bind, this, Result.andThen_ok, Sem.run_pure]) (k _ (he.put hd))
def evp (E : List (Nat × Value)) : List (Nat × Operand) → Option (List (Nat × Value))
  | [] => some []
  | (i, x) :: xs => match ev E x, evp E xs with
    | some v, some vs => some ((i, v) :: vs)
    | _, _ => none
theorem Env.evp (he : Env n E a) : ∀ {xs vs}, K.evp E xs = some vs → xs.map (fun (i, x) => (i, a.eval x)) = vs
  | [], vs, h => by simpa [K.evp] using h
  | (i, x) :: xs, vs, h => by
    simp only [K.evp] at h
    split at h
    · rename_i v ws h1 h2
      injection h with h
      subst h
      simp [he.ev h1, Env.evp he h2]
    · cases h
theorem bld {parts : List (Nat × Operand)} {ps} (cells : Array Value) (hx : evp E parts = some ps) (hb : P.built T ps = some cells) (hd : Nat.blt d n = true) (he : Env n E a)
    (k : ∀ a, Env n ((d, .agg cells) :: E) a → wpList P ops Q rest a W) : wpList P ops Q (⟨some d, .build T parts.toArray, ty, pos, af, none⟩ :: rest) a W :=
  bd cells (by rw [he.evp hx]; exact hb) hd he k

/-! ### Slices -/
structure TS (P : Program) (T e : TypeId) (z : Value) (sz bt : Nat) : Prop where
  u : P.underlying T = some (.slice e)
  i : TI P e z sz bt
  pos : 0 < sz
  bpos : 0 < bt
theorem TS.el {T e z sz bt} (h : TS P T e z sz bt) : P.elem T = e := by simp [Program.elem, h.u]
theorem TS.u' {T e z sz bt} (h : TS P T e z sz bt) : P.underlying T = some (.slice (P.elem T)) := by rw [h.el]; exact h.u
theorem TS.szr {T e z sz bt} (h : TS P T e z sz bt) (w : World) : (sizeOf (P.elem T)).run P w = .ok sz w := by
  obtain ⟨i, hi, _, hs, _⟩ := h.i.get
  simp [h.el, sizeOf, typeInfo, hi, hs]
theorem ln {e : TypeId} {A : Option Addr} {m c : Nat} (hT : P.underlying T = some (.slice e)) (hx : ev E s = some (.slice A m c)) (hd : Nat.blt d n = true) (he : Env n E a) (k : ∀ a, Env n ((d, .int .i64 m) :: E) a → wpList P ops Q rest a W) :
    wpList P ops Q (⟨some d, .call { callee := .builtin .len, args := #[s], argTypes := #[T] }, ty, pos, af, none⟩ :: rest) a W :=
  step_val rfl (by simp [execOp, resolve, invoke, builtin, he.ev hx, Builtin.len_, run_underlying hT, goInt]) (k _ (he.put hd))
/-- The address of an element. -/
theorem ia {e z sz bt b o m c} (i : Nat) (hT : TS P T e z sz bt) (hx : ev E s = some (.slice (some ⟨b, o, none⟩) m c)) (hy : ev E t = some (.int .i64 i)) (hi : i < m) (hd : Nat.blt d n = true) (he : Env n E a)
    (k : ∀ a, Env n ((d, .pointer (some ⟨b, o + i * sz, none⟩)) :: E) a → wpList P ops Q rest a W) : wpList P ops Q (⟨some d, .indexAddr T s t, ty, pos, af, none⟩ :: rest) a W :=
  step_val (v := .pointer (some ⟨b, o + i * sz, none⟩)) rfl (by
    have h1 : (0 : Int) ≤ (i : Int) ∧ (i : Int) < (m : Int) := ⟨by omega, by omega⟩
    have := run_indexAt_slice (P := P) (w := W) T ⟨b, o, none⟩ m c .i64 i hT.u'
    rw [if_pos h1, hT.szr] at this
    simp [execOp, he.ev hx, he.ev hy, this, Addr.add_mid]) (k _ (he.put hd))
theorem sliced_none {A : Option Addr} {l h m sz : Nat} : sliced A l h m sz = .slice (if m = l then A else A.map (·.add (l * sz))) (h - l) (m - l) := rfl
/-- x[lo:hi], x[lo:], x[:hi]: the address is the old one where nothing is left behind it. -/
theorem slh {e z sz bt} {A : Option Addr} {m c : Nat} {u : Operand} (l h : Nat) (hT : TS P T e z sz bt) (hx : ev E s = some (.slice A m c)) (hy : ev E t = some (.int .i64 l)) (hz : ev E u = some (.int .i64 h)) (h1 : l ≤ h) (h2 : h ≤ c) (hd : Nat.blt d n = true) (he : Env n E a)
    (k : ∀ a, Env n ((d, .slice (if c = l then A else A.map (·.add (l * sz))) (h - l) (c - l)) :: E) a → wpList P ops Q rest a W) : wpList P ops Q (⟨some d, .slice T s (some t) (some u) none, ty, pos, af, none⟩ :: rest) a W :=
  step_val rfl (by
    have := run_slice_lh (P := P) W T A m c hT.u' .i64 .i64 l h (by omega) (by omega) (by omega)
    rw [hT.szr] at this
    simp [execOp, he.ev hx, he.ev hy, he.ev hz, run_sliceAt_slice W T _ _ _ _ hT.u', this, sliced]) (k _ (he.put hd))
theorem slo {e z sz bt} {A : Option Addr} {m c : Nat} (l : Nat) (hT : TS P T e z sz bt) (hx : ev E s = some (.slice A m c)) (hy : ev E t = some (.int .i64 l)) (h1 : l ≤ m) (hd : Nat.blt d n = true) (he : Env n E a)
    (k : ∀ a, Env n ((d, .slice (if c = l then A else A.map (·.add (l * sz))) (m - l) (c - l)) :: E) a → wpList P ops Q rest a W) : wpList P ops Q (⟨some d, .slice T s (some t) none none, ty, pos, af, none⟩ :: rest) a W :=
  step_val rfl (by
    have := run_slice_l (P := P) W T A m c hT.u' .i64 l (by omega) (by omega)
    rw [hT.szr] at this
    simp [execOp, he.ev hx, he.ev hy, run_sliceAt_slice W T _ _ _ _ hT.u', this, sliced]) (k _ (he.put hd))
theorem shi {e z sz bt} {A : Option Addr} {m c : Nat} (h : Nat) (hT : TS P T e z sz bt) (hx : ev E s = some (.slice A m c)) (hy : ev E t = some (.int .i64 h)) (h2 : h ≤ c) (hd : Nat.blt d n = true) (he : Env n E a)
    (k : ∀ a, Env n ((d, .slice A h c) :: E) a → wpList P ops Q rest a W) : wpList P ops Q (⟨some d, .slice T s none (some t) none, ty, pos, af, none⟩ :: rest) a W :=
  step_val (v := .slice A h c) rfl (by
    have := run_slice_h (P := P) W T A m c hT.u' .i64 h (by omega) (by omega)
    rw [hT.szr] at this
    have hA : A.map (fun x => x.add 0) = A := by cases A <;> simp [Addr.add]
    simp only [sliced_none, Nat.sub_zero, Nat.zero_mul, hA] at this
    simp [execOp, he.ev hx, he.ev hy, run_sliceAt_slice W T _ _ _ _ hT.u', this]) (k _ (he.put hd))
/-- A literal: every element is given, in order. -/
def litCells (sz : Nat) : List Value → Nat → Option (List Value)
  | [], _ => some []
  | v :: vs, i => if v.cells.size = sz then (litCells sz vs (i + 1)).map (v.cells.toList ++ ·) else none
theorem putrun (cs : Array Value) : ∀ (l : List Value) (k o : Nat), o + k + l.length ≤ cs.size →
    (l.zipIdx k).foldl (fun cs (c, j) => cs.setIfInBounds (o + j) c) cs = (cs.toList.take (o + k) ++ l ++ cs.toList.drop (o + k + l.length)).toArray
  | [], k, o, _ => by simp
  | v :: l, k, o, h => by
    simp only [List.zipIdx_cons, List.foldl_cons]
    rw [putrun (cs.setIfInBounds (o + k) v) l (k + 1) o (by simp at h ⊢; omega)]
    simp only [List.length_cons] at h ⊢
    apply Array.ext'
    simp only [List.toList_toArray, Array.toList_setIfInBounds]
    rw [show o + (k + 1) = o + k + 1 by omega, show o + k + 1 + l.length = o + k + (l.length + 1) by omega]
    rw [List.take_set, List.drop_set_of_lt (by omega)]
    have hl : o + k < cs.toList.length := by simp; omega
    rw [List.take_succ_eq_append_getElem hl, List.set_append_right _ _ (by simp; omega)]
    simp
    rw [show o + k - min (o + k) cs.size = 0 by omega]
    simp
theorem fill_lit (sz : Nat) (hs : 0 < sz) : ∀ (vs : List Value) (i : Nat) (cs : Array Value) (out : List Value), litCells sz vs i = some out → (i + vs.length) * sz ≤ cs.size →
    Instr.fill (fun i => some (i * sz, sz)) cs (vs.zipIdx i |>.map fun x => (x.2, x.1)) = some (cs.toList.take (i * sz) ++ out ++ cs.toList.drop ((i + vs.length) * sz)).toArray
  | [], i, cs, out, h, hl => by
    simp only [litCells, Option.some.injEq] at h
    subst h
    simp [Instr.fill]
  | v :: vs, i, cs, out, h, hl => by
    simp only [litCells] at h
    split at h
    · rename_i hv
      obtain ⟨o', ho, rfl⟩ := Option.map_eq_some_iff.1 h
      simp only [List.length_cons] at hl
      have hl' : (i + 1 + vs.length) * sz ≤ cs.size := by rw [show i + 1 + vs.length = i + (vs.length + 1) by omega]; exact hl
      have hb : i * sz + sz ≤ cs.size := by
        have : (i + 1) * sz ≤ (i + 1 + vs.length) * sz := Nat.mul_le_mul_right _ (by omega)
        rw [Nat.add_mul, Nat.one_mul] at this; omega
      simp only [List.zipIdx_cons, List.map_cons, Instr.fill]
      rw [if_neg (by simp [hv]; omega)]
      have hp := putrun cs v.cells.toList 0 (i * sz) (by simp [hv]; omega)
      have hz : (v.cells.zipIdx.foldl (fun cs (c, j) => cs.setIfInBounds (i * sz + j) c) cs) = (cs.toList.take (i * sz) ++ v.cells.toList ++ cs.toList.drop (i * sz + sz)).toArray := by
        rw [← Array.foldl_toList]
        simp only [Array.toList_zipIdx]
        simpa [hv] using hp
      rw [hz, fill_lit sz hs vs (i + 1) _ o' ho (by simp [hv]; omega)]
      congr 2
      simp only [List.toList_toArray]
      have e1 : (i + 1) * sz = i * sz + sz := by rw [Nat.add_mul, Nat.one_mul]
      have e2 : (i + 1 + vs.length) * sz = i * sz + sz + vs.length * sz := by rw [Nat.add_mul, Nat.add_mul, Nat.one_mul]
      have e3 : (List.take (i * sz) cs.toList ++ v.cells.toList).length = i * sz + sz := by simp [hv]; omega
      have e4 : (i + (v :: vs).length) * sz = i * sz + sz + vs.length * sz := by rw [← e2]; congr 1; simp; omega
      rw [e1, e2, e4, List.take_left' e3, ← List.drop_drop, List.drop_left' e3, List.drop_drop]
      simp [List.append_assoc]
    · cases h
theorem bsl {e z sz bt m} {parts : List (Nat × Operand)} (ps : List (Nat × Value)) (cs : List Value) (hT : TS P T e z sz bt) (hx : evp E parts = some ps) (hp : ps = (ps.map (·.2)).zipIdx.map fun x => (x.2, x.1)) (hm : ps.length = m) (hc : litCells sz (ps.map (·.2)) 0 = some cs)
    (hcl : cs.length = m * sz) (hsm : Nat.ble (m * sz) (2 ^ 24) = true) (hd : Nat.blt d n = true) (he : Env n E a) (hh : Hp I L W)
    (k : ∀ b a W, Env n ((d, .slice (some ⟨b, 0, none⟩) m m) :: E) a → Hp I (.row (some ⟨b, 0, none⟩) m m e sz cs :: L) W → wpList P ops Q rest a W) :
    wpList P ops Q (⟨some d, .buildSlice T m parts.toArray, ty, pos, af, none⟩ :: rest) a W := by
  obtain ⟨ie, hie, hz, hs, hb⟩ := hT.i.get
  have hsm' : m * sz ≤ 2 ^ 24 := by simpa using hsm
  have hrun : (Instr.buildSlice T m (parts.toArray.map fun (i, x) => (i, a.eval x))).run P W = .ok (.slice (some ⟨W.heap.size, 0, none⟩) m m) (W.alloc (.cells cs.toArray e)) := by
    have hpe : (parts.toArray.map fun (i, x) => (i, a.eval x)).toList = ps := by simpa using he.evp hx
    by_cases h0 : m = 0
    · subst h0
      have : ps = [] := List.eq_nil_of_length_eq_zero hm
      subst this
      simp [litCells] at hc
      subst hc
      have hpn : parts = [] := by
        cases parts with
        | nil => rfl
        | cons p r => obtain ⟨i, x⟩ := p; simp only [K.evp] at hx; split at hx <;> simp at hx
      subst hpn
      simp [Instr.buildSlice, run_underlying hT.u, sizeOf, typeInfo, hie, hs, Instr.fill, newRow, Array.range_zero']
    · have hne : ¬ m * sz = 0 := by
        have := Nat.mul_pos (Nat.pos_of_ne_zero h0) hT.pos; omega
      refine run_buildSlice W T e m _ cs.toArray ie z hT.u hie hz (by rw [hs]; omega) (by rw [hs]; exact hne) ?_
      rw [hpe, hp, hs]
      have := fill_lit sz hT.pos (ps.map (·.2)) 0 ((Array.range (m * sz)).map (z.cells[· % z.cells.size]!)) cs hc (by simp [hm])
      rw [this]
      simp [hm]
  refine step_val (v := .slice (some ⟨W.heap.size, 0, none⟩) m m) (W' := W.alloc (.cells cs.toArray e)) rfl (by simp only [execOp, Sem.run_bind, hrun, Result.andThen_ok, Sem.run_pure]) (k _ _ _ (he.put hd) ?_)
  have hal := hh.alloc (.cells cs.toArray e)
  refine Hp.turn (.row (some ⟨W.heap.size, 0, none⟩) m m e sz cs) hal rfl rfl rfl (fun _ _ _ => rfl) ?_ (fun b hb => .inl hb)
  have hml : m ≤ maxLen := by
    have : m ≤ m * sz := Nat.le_mul_of_pos_right _ hT.pos
    simp only [maxLen]; omega
  refine ⟨hcl, .inr ⟨W.heap.size, m, cs.toArray, rfl, Nat.zero_le _, hal.at0, Nat.le_refl _, hml, by simpa using hcl, by simp [← hcl]⟩⟩
/-- append(x, y...): x is a row of the walk's own; y is read. -/
theorem ap {e z sz bt A m c B q c' ys cs} (hT : TS P T e z sz bt) (hx : ev E s = some (.slice A m c)) (hy : ev E t = some (.slice B q c')) (hr : Rd W B ys) (hl : ys.length = q * sz) (h1 : ∀ u ∈ ys, u.oneCell' = true) (hb : (m + q) * bt ≤ 140737488355328)
    (hd : Nat.blt d n = true) (he : Env n E a) (hh : Hp I (.row A m c e sz cs :: L) W)
    (k : ∀ A c a W, Env n ((d, .slice A (m + q) c) :: E) a → Hp I (.row A (m + q) c e sz (cs ++ ys) :: L) W → wpList P ops Q rest a W) :
    wpList P ops Q (⟨some d, .call { callee := .builtin .append, args := #[s, t], argTypes := #[T, T] }, ty, pos, af, none⟩ :: rest) a W := by
  obtain ⟨ie, hie, hz, hs, hbt⟩ := hT.i.get
  have hlen : m + q ≤ 140737488355328 := Nat.le_trans (Nat.le_mul_of_pos_right _ hT.bpos) hb
  have hown : W.ownsRow 0 e sz (.slice A m c) m cs := hh.at0
  have hrun : ∃ v' w', (Builtin.append_ #[T, T] ty #[.slice A m c, .slice B q c']).run P W = .ok v' w' ∧ w'.ownsRow 0 e sz v' (m + q) (cs ++ ys) ∧ W.grownBy w' (Value.slice A m c).ownBlock ∧ (v'.ownBlock = (Value.slice A m c).ownBlock ∨ v'.ownBlock = some W.heap.size) := by
    rcases B with _ | ad
    · have h0 : ys = [] := by
        cases ys with
        | nil => rfl
        | cons u us => obtain ⟨b, o, h, _⟩ := hr 0 u rfl; cases h
      subst h0
      have hq : q = 0 := by
        have := hT.pos
        rcases Nat.eq_zero_or_pos q with h | h
        · exact h
        · have := Nat.mul_pos h hT.pos; simp at hl; omega
      subst hq
      refine ⟨.slice A m c, W, ?_, by simpa using hown, World.grownBy.refl W _, .inl rfl⟩
      rcases hown.2 with ⟨hv, hn⟩ | ⟨g, cap, cur, hv, _, _, hnc, _⟩
      · injection hv with e1 e2 e3
        subst e1 e2 e3
        simp [Builtin.append_, run_underlying hT.u, sizeOf, typeInfo, hie, Builtin.lenOf, Builtin.firstCells]
      · injection hv with e1 e2 e3
        subst e1 e3
        simp [Builtin.append_, run_underlying hT.u, sizeOf, typeInfo, hie, Builtin.lenOf, Builtin.firstCells, hnc, storeCells]
    · have hcells : ∀ j u, ys[j]? = some u → W.cell? (ad.add j) = some u := fun j u hu => by
        obtain ⟨b, o, hA, hc⟩ := hr j u hu
        injection hA with hA
        subst hA
        rw [Addr.add_mid]; exact hc
      obtain ⟨v1, w1, hr, h2, h3, _, h5⟩ := run_append_own_at (P := P) W 0 T ty e ie z sz bt hT.u hie hz hs hbt hT.i.zs hT.pos _ m cs hown ad q c' ys hl hcells h1 (by simp only [maxLen]; omega) hb (Nat.zero_le _)
      exact ⟨v1, w1, hr, h2, h3, h5⟩
  obtain ⟨v', w', hr', hown', hg, hat⟩ := hrun
  obtain ⟨A', c1, rfl⟩ : ∃ A' c1, v' = .slice A' (m + q) c1 := by
    rcases hown'.2 with ⟨rfl, h0⟩ | ⟨g, cap, cur, rfl, _⟩
    · exact ⟨none, 0, by rw [h0]⟩
    · exact ⟨_, _, rfl⟩
  refine step_val (v := .slice A' (m + q) c1) (W' := w') rfl (by simp [execOp, resolve, invoke, builtin, he.ev hx, he.ev hy, hr']) (k _ _ _ _ (he.put hd) ?_)
  have hob : ∀ (X : Option Addr) (i j : Nat), (Value.slice X i j).ownBlock = X.map (·.block) := fun X i j => by cases X <;> rfl
  refine hh.turn (.row A' (m + q) c1 e sz (cs ++ ys)) hg.os hg.tape hg.output (fun b hb hne => hg.block b hb ?_) hown' ?_
  · rw [hob]; exact fun e => hne e.symm
  · intro b hb
    simp only [hob] at hat
    rcases hat with h | h
    · left; rw [← hb]; exact h.symm
    · right
      have : some b = some W.heap.size := by rw [← hb]; exact h
      injection this with this
      omega
end
end Go.Proofs.YtndaogkpgoimlaaDoor.K

/- One rule for each plain operation and each form of control. Holds for every program of the model; no condition. -/
import Derived.Test.YtndaogkpgoimlaaDoorK1
namespace Go.Proofs.YtndaogkpgoimlaaDoor.K
open Go Go.RowKit
set_option linter.unusedVariables false
set_option linter.unusedSimpArgs false

/-! ### How a contract ends -/
/-- The call returns, with a value and a world of which this holds. -/
def Ret (p : Value → World → Prop) (e : Ending) (w : World) : Prop := ∃ v, e = .returned v ∧ p v w
theorem Ret.mk {p : Value → World → Prop} {v w} (h : p v w) : Ret p (.returned v) w := ⟨v, rfl, h⟩

section
variable {P : Program} {ops : Array Oper} {Q : Exit → Act → World → Prop} {rest : List Oper} {a : Act} {W : World} {n : Nat} {E : List (Nat × Value)} {I : Snap} {L : List Ch}
  {d : Nat} {ty : TypeId} {pos : String} {af : Array Edge} {v x y z : Value} {b : Nat}

/-! ### Control -/
def args0 : Nat → List Value → List (Nat × Value)
  | _, [] => []
  | k, v :: vs => (k, v) :: args0 (k + 1) vs
theorem args0_lookup : ∀ (vs : List Value) (k t : Nat) (v : Value), (args0 k vs).lookup t = some v → ∃ j, t = k + j ∧ vs[j]? = some v
  | [], _, _, _, h => by simp [args0] at h
  | u :: vs, k, t, v, h => by
    simp only [args0, List.lookup_cons] at h
    by_cases ht : t = k
    · subst ht; simp at h; subst h; exact ⟨0, rfl, rfl⟩
    · have e : (t == k) = false := by simpa using ht
      rw [e] at h
      obtain ⟨j, hj, hv⟩ := args0_lookup vs (k + 1) t v h
      exact ⟨j + 1, by omega, by simpa using hv⟩
theorem enter {f : FuncId} {fn : Func} {c : Code} {vs : List Value} {w : World} {R : Ending → World → Prop} (hf : P.funcs[f]? = some fn) (hb : fn.body = some c) (hn : fn.ntmps = n) (hs : Nat.ble vs.length n = true)
    (h : ∀ a, Env n (args0 0 vs) a → c.wp P (bodyPost P fn R) a w) : Calls P f vs.toArray w R := by
  have hs' : vs.length ≤ n := by simpa using hs
  refine calls_of_wp hf hb (h _ ⟨by simp [hn]; omega, rfl, fun t v hl => ?_⟩)
  obtain ⟨j, hj, hv⟩ := args0_lookup vs 0 t v hl
  have hlt : j < vs.length := by
    rcases Nat.lt_or_ge j vs.length with h | h
    · exact h
    · simp [List.getElem?_eq_none h] at hv
  have : t = j := by omega
  subst this
  rw [Array.getElem?_append_left (by simpa using hlt)]
  simpa using hv
theorem sq {c1 c2 : Code} {w} (h : c1.wp P (Exit.then (c2.wp P Q) Q) a w) : (Code.seq c1 c2).wp P Q a w := wp_seq h
theorem rg {id l w} (h : wpList P l.toArray Q l a w) : (Code.region id l.toArray false).wp P Q a w := wp_region_lit h
theorem en {K w} (h : K a w) : wpList P ops (Exit.then K Q) [] a w := h
theorem en_blk {id w} (h : Q .normal a w) : wpList P ops (Exit.inBlock id Q) [] a w := h
theorem nm_then {K w} (h : K a w) : Exit.then K Q .normal a w := h
theorem nm_blk {id w} (h : Q .normal a w) : Exit.inBlock id Q .normal a w := h
theorem ex_then {K i w} (h : Q (.exit i) a w) : Exit.then K Q (.exit i) a w := h
theorem ex_in {i w} (h : Q .normal a w) : Exit.inBlock i Q (.exit i) a w := by simpa [Exit.inBlock] using h
theorem ex_by {i j w} (hj : Nat.beq i j = false) (h : Q (.exit i) a w) : Exit.inBlock j Q (.exit i) a w := by
  have : i ≠ j := by intro e; subst e; simp at hj
  simpa [Exit.inBlock, this] using h
theorem bk {id c w} (h : Code.wp P c (Exit.inBlock id Q) a w) : (Code.block id c).wp P Q a w := wp_block h
theorem sk {w} (h : Q .normal a w) : Code.skip.wp P Q a w := wp_skip h
theorem ext {id w} (h : Q (.exit id) a w) : (Code.exit id).wp P Q a w := wp_exit h
theorem rt {w} (h : Q .ret a w) : Code.ret.wp P Q a w := wp_ret h
theorem cnt {c : Operand} {t e : Code} {w} (he : Env n E a) (hx : ev E c = some (.bool true)) (h : t.wp P Q a w) : (Code.cond c t e).wp P Q a w := wp_cond_true (he.ev hx) h
theorem cnf {c : Operand} {t e : Code} {w} (he : Env n E a) (hx : ev E c = some (.bool false)) (h : e.wp P Q a w) : (Code.cond c t e).wp P Q a w := wp_cond_false (he.ev hx) h
theorem cnb {c : Operand} {p : Bool} {t e : Code} {w} (he : Env n E a) (hx : ev E c = some (.bool p)) (ht : p = true → t.wp P Q a w) (hf : p = false → e.wp P Q a w) : (Code.cond c t e).wp P Q a w := wp_cond_split (he.ev hx) ht hf
theorem cnd {c : Operand} {p : Prop} [Decidable p] {t e : Code} {w} (he : Env n E a) (hx : ev E c = some (.bool (decide p))) (ht : p → t.wp P Q a w) (hf : ¬ p → e.wp P Q a w) : (Code.cond c t e).wp P Q a w :=
  wp_cond_split (he.ev hx) (fun h => ht (of_decide_eq_true h)) (fun h => hf (of_decide_eq_false h))
theorem lp {σ : Type} {c : Code} {w} (Inv : σ → Act → World → Prop) (μ : σ → Nat) (s0 : σ) (h0 : Inv s0 a w)
    (round : ∀ s a w, Inv s a w → c.wp P (Exit.then (fun a' w' => ∃ s', Inv s' a' w' ∧ μ s' < μ s) Q) a w) : (Code.loop c).wp P Q a w := by
  classical
  have hm : ∀ (a : Act) (w : World), (∃ s, Inv s a w) → ∃ s, Inv s a w ∧ ∀ s', Inv s' a w → μ s ≤ μ s' := by
    intro a w ⟨s, hs⟩
    suffices ∀ k s, μ s = k → Inv s a w → ∃ s, Inv s a w ∧ ∀ s', Inv s' a w → μ s ≤ μ s' from this _ s rfl hs
    intro k
    induction k using Nat.strongRecOn with
    | _ k ih =>
      intro s hk hs
      by_cases h : ∃ s', Inv s' a w ∧ μ s' < μ s
      · obtain ⟨s', h1, h2⟩ := h
        exact ih (μ s') (by omega) s' rfl h1
      · exact ⟨s, hs, fun s' hs' => Nat.le_of_not_lt fun hlt => h ⟨s', hs', hlt⟩⟩
  let m : Act → World → Nat := fun a w => if h : ∃ s, Inv s a w then μ (hm a w h).choose else 0
  refine wp_loop (fun a w => ∃ s, Inv s a w) m ⟨s0, h0⟩ fun a w hs => ?_
  have hc := (hm a w hs).choose_spec
  have e : m a w = μ (hm a w hs).choose := by simp only [m]; rw [dif_pos hs]
  refine wp_mono (round _ a w hc.1) fun e' a' w' hq => ?_
  cases e' with
  | normal =>
    obtain ⟨s', h1, h2⟩ := hq
    refine ⟨⟨s', h1⟩, ?_⟩
    have e2 : m a' w' = μ (hm a' w' ⟨s', h1⟩).choose := by simp only [m]; rw [dif_pos ⟨s', h1⟩]
    have := (hm a' w' ⟨s', h1⟩).choose_spec.2 s' h1
    rw [e, e2]; omega
  | exit id => exact hq
  | goto l => exact hq
  | ret => exact hq
  | panic c => exact hq
  | outgrown => exact hq
/-- A piece of code ends normally, and then this holds; what follows is shown out of it alone. -/
theorem cut {c : Code} {w} (M : Act → World → Prop) (h : c.wp P (fun e a w => e = .normal ∧ M a w) a w) (k : ∀ a w, M a w → Q .normal a w) : c.wp P Q a w :=
  wp_mono h fun e a w ⟨he, hM⟩ => by subst he; exact k a w hM
theorem cut_end {M : Act → World → Prop} {w} (h : M a w) : wpList P ops (fun e a w => e = .normal ∧ M a w) [] a w := ⟨rfl, h⟩
theorem nm_cut {M : Act → World → Prop} {w} (h : M a w) : (fun (e : Exit) (a : Act) (w : World) => e = .normal ∧ M a w) .normal a w := ⟨rfl, h⟩

/-! ### The end of a function -/
section
variable {fn : Func} {R : Ending → World → Prop} {w : World}
theorem rets0 (hr : fn.results = #[]) (he : Env n E a) (h : R (.returned (.tuple #[])) w) : bodyPost P fn R .ret a w :=
  ⟨he.defers, .tuple #[], results_none hr _ _ _, h⟩
theorem rets0' (hr : fn.results = #[]) (he : Env n E a) (h : R (.returned (.tuple #[])) w) : bodyPost P fn R .normal a w :=
  ⟨he.defers, .tuple #[], results_none hr _ _ _, h⟩
theorem rets1 {t} (hr : fn.results = #[.tmp t]) (he : Env n E a) (hx : E.lookup t = some v) (h : R (.returned v) w) : bodyPost P fn R .ret a w :=
  ⟨he.defers, v, by rw [results_tmp hr]; simp [he.get t v hx], h⟩
theorem rets2 {t u} (hr : fn.results = #[.tmp t, .tmp u]) (he : Env n E a) (hx : E.lookup t = some v) (hy : E.lookup u = some x) (h : R (.returned (.tuple #[v, x])) w) : bodyPost P fn R .ret a w :=
  ⟨he.defers, .tuple #[v, x], by rw [results_tmp2 hr]; simp [he.get t v hx, he.get u x hy], h⟩
theorem rets3 {t u s} (hr : fn.results = #[.tmp t, .tmp u, .tmp s]) (he : Env n E a) (hx : E.lookup t = some v) (hy : E.lookup u = some x) (hz : E.lookup s = some y) (h : R (.returned (.tuple #[v, x, y])) w) : bodyPost P fn R .ret a w :=
  ⟨he.defers, .tuple #[v, x, y], by simp [results, hr, he.get t v hx, he.get u x hy, he.get s y hz], h⟩
theorem retsC {t T p} (hr : fn.results = #[.cell t T]) (he : Env n E a) (hx : E.lookup t = some (.pointer (some p))) (hl : (loadVar T p).run P w = .ok v w) (h : R (.returned v) w) : bodyPost P fn R .ret a w :=
  ⟨he.defers, v, by simp [results, hr, he.get t _ hx, asAddr, hl], h⟩
theorem retsCT {t T p u} (hr : fn.results = #[.cell t T, .tmp u]) (he : Env n E a) (hx : E.lookup t = some (.pointer (some p))) (hl : (loadVar T p).run P w = .ok v w) (hy : E.lookup u = some x)
    (h : R (.returned (.tuple #[v, x])) w) : bodyPost P fn R .ret a w :=
  ⟨he.defers, .tuple #[v, x], by simp [results, hr, he.get t _ hx, asAddr, hl, he.get u x hy], h⟩
theorem retsTC {t T p u} (hr : fn.results = #[.tmp u, .cell t T]) (he : Env n E a) (hx : E.lookup t = some (.pointer (some p))) (hl : (loadVar T p).run P w = .ok v w) (hy : E.lookup u = some x)
    (h : R (.returned (.tuple #[x, v])) w) : bodyPost P fn R .ret a w :=
  ⟨he.defers, .tuple #[x, v], by simp [results, hr, he.get t _ hx, asAddr, hl, he.get u x hy], h⟩
end

/-! ### One operation -/
theorem step_val {o : Oper} {W'} (hg : o.guard = none) (hr : (execOp a.eval o).run P W = .ok (.value v) W') (k : wpList P ops Q rest (a.put o.dst v) W') : wpList P ops Q (o :: rest) a W := by
  unfold wpList
  rw [if_pos (by simp [Region.wanted, hg])]
  left
  simp only [Oper.wp, hr, Oper.upon_value]
  exact k
theorem step_skip' {o : Oper} {W'} (hg : o.guard = none) (hd : o.dst = none) (hr : (execOp a.eval o).run P W = .ok .skip W') (k : wpList P ops Q rest a W') : wpList P ops Q (o :: rest) a W := by
  unfold wpList
  rw [if_pos (by simp [Region.wanted, hg])]
  left
  simp only [Oper.wp, hr, Oper.upon_skip, hd, Act.put]
  exact k
/-- A guarded operation that is performed; one that is passed over. -/
theorem gy {dd : Option Nat} {op : Op} {j : Nat} {w t} (hj : (ops[j]?).bind (·.dst) = some t) (he : Env n E a) (hx : E.lookup t = some (.bool w)) (k : wpList P ops Q (⟨dd, op, ty, pos, af, none⟩ :: rest) a W) :
    wpList P ops Q (⟨dd, op, ty, pos, af, some (j, w)⟩ :: rest) a W := by
  have hw : Region.wanted (⟨dd, op, ty, pos, af, some (j, w)⟩ : Oper) (yielded ops a.tmps) = true := by
    simp [Region.wanted, yielded, hj, he.get t _ hx]
  unfold wpList at k ⊢
  rw [if_pos hw]
  rw [if_pos (by simp [Region.wanted])] at k
  exact k
theorem gn {op : Op} {j : Nat} {w u : Bool} {t} (hj : (ops[j]?).bind (·.dst) = some t) (hd : Nat.blt d n = true) (he : Env n E a) (hx : E.lookup t = some (.bool u)) (hne : (u == w) = false) (k : ∀ a, Env n ((d, undef) :: E) a → wpList P ops Q rest a W) :
    wpList P ops Q (⟨some d, op, ty, pos, af, some (j, w)⟩ :: rest) a W := by
  have hw : Region.wanted (⟨some d, op, ty, pos, af, some (j, w)⟩ : Oper) (yielded ops a.tmps) = false := by
    simpa [Region.wanted, yielded, hj, he.get t _ hx] using hne
  unfold wpList
  rw [if_neg (by simp [hw])]
  exact k _ (he.put hd)
theorem gn0 {op : Op} {j : Nat} {w u : Bool} {t} (hj : (ops[j]?).bind (·.dst) = some t) (he : Env n E a) (hx : E.lookup t = some (.bool u)) (hne : (u == w) = false) (k : wpList P ops Q rest a W) :
    wpList P ops Q (⟨none, op, ty, pos, af, some (j, w)⟩ :: rest) a W := by
  have hw : Region.wanted (⟨none, op, ty, pos, af, some (j, w)⟩ : Oper) (yielded ops a.tmps) = false := by
    simpa [Region.wanted, yielded, hj, he.get t _ hx] using hne
  unfold wpList
  rw [if_neg (by simp [hw])]
  exact k
theorem gnu {op : Op} {j : Nat} {w : Bool} {t} (hj : (ops[j]?).bind (·.dst) = some t) (hd : Nat.blt d n = true) (he : Env n E a) (hx : E.lookup t = some undef) (k : ∀ a, Env n ((d, undef) :: E) a → wpList P ops Q rest a W) :
    wpList P ops Q (⟨some d, op, ty, pos, af, some (j, w)⟩ :: rest) a W := by
  have hw : Region.wanted (⟨some d, op, ty, pos, af, some (j, w)⟩ : Oper) (yielded ops a.tmps) = false := by
    simp [Region.wanted, yielded, hj, he.get t _ hx, undef]
  unfold wpList
  rw [if_neg (by simp [hw])]
  exact k _ (he.put hd)
/-- A slot's test is decided: both ways. -/
theorem sb {p : Bool} {t : Nat} {G : Prop} (he : Env n E a) (hx : E.lookup t = some (.bool p)) (ht : p = true → Env n ((t, .bool true) :: E) a → G) (hf : p = false → Env n ((t, .bool false) :: E) a → G) : G := by
  have key : ∀ q, p = q → Env n ((t, .bool q) :: E) a := fun q hq => ⟨he.size, he.defers, fun s v h => by
    simp only [List.lookup_cons] at h
    by_cases hs : s = t
    · subst hs; simp at h; subst h; subst hq; exact he.get _ _ hx
    · have e : (s == t) = false := by simpa using hs
      rw [e] at h
      exact he.get s v h⟩
  cases hp : p
  · exact hf hp (key _ hp)
  · exact ht hp (key _ hp)
theorem sd {p : Prop} [Decidable p] {t : Nat} {G : Prop} (he : Env n E a) (hx : E.lookup t = some (.bool (decide p))) (ht : p → Env n ((t, .bool true) :: E) a → G) (hf : ¬ p → Env n ((t, .bool false) :: E) a → G) : G :=
  sb he hx (fun h => ht (of_decide_eq_true h)) (fun h => hf (of_decide_eq_false h))
/-- A slot's value by another name. -/
theorem Env.be {t : Nat} {v v' : Value} (he : Env n E a) (hx : E.lookup t = some v) (h : v = v') : Env n ((t, v') :: E) a := ⟨he.size, he.defers, fun s u hs => by
  simp only [List.lookup_cons] at hs
  by_cases e : s = t
  · subst e; simp at hs; subst hs; subst h; exact he.get _ _ hx
  · have e' : (s == t) = false := by simpa using e
    rw [e'] at hs
    exact he.get s u hs⟩

theorem mv {s} (hx : ev E s = some v) (hd : Nat.blt d n = true) (he : Env n E a) (k : ∀ a, Env n ((d, v) :: E) a → wpList P ops Q rest a W) : wpList P ops Q (⟨some d, .move s, ty, pos, af, none⟩ :: rest) a W :=
  step_val rfl (by simp [execOp, he.ev hx]) (k _ (he.put hd))
theorem asg {s} (hx : ev E s = some v) (hd : Nat.blt d n = true) (he : Env n E a) (k : ∀ a, Env n ((d, v) :: E) a → wpList P ops Q rest a W) : wpList P ops Q (⟨some d, .assign s, ty, pos, af, none⟩ :: rest) a W :=
  step_val rfl (by simp [execOp, he.ev hx]) (k _ (he.put hd))
theorem pkt {c s t} (hc : ev E c = some (.bool true)) (hx : ev E s = some v) (hd : Nat.blt d n = true) (he : Env n E a) (k : ∀ a, Env n ((d, v) :: E) a → wpList P ops Q rest a W) :
    wpList P ops Q (⟨some d, .pick c s t, ty, pos, af, none⟩ :: rest) a W :=
  step_val rfl (by simp [execOp, he.ev hc, he.ev hx, asBool]) (k _ (he.put hd))
theorem pkf {c s t} (hc : ev E c = some (.bool false)) (hx : ev E t = some v) (hd : Nat.blt d n = true) (he : Env n E a) (k : ∀ a, Env n ((d, v) :: E) a → wpList P ops Q rest a W) :
    wpList P ops Q (⟨some d, .pick c s t, ty, pos, af, none⟩ :: rest) a W :=
  step_val rfl (by simp [execOp, he.ev hc, he.ev hx, asBool]) (k _ (he.put hd))
theorem xt {s} {i : Nat} {vs : List Value} (hx : ev E s = some (.tuple vs.toArray)) (hv : vs[i]? = some v) (hd : Nat.blt d n = true) (he : Env n E a) (k : ∀ a, Env n ((d, v) :: E) a → wpList P ops Q rest a W) :
    wpList P ops Q (⟨some d, .extract s i, ty, pos, af, none⟩ :: rest) a W :=
  step_val rfl (by simp [execOp, he.ev hx, Instr.extract, hv]) (k _ (he.put hd))
theorem nt {s t} {p : Bool} (hx : ev E s = some (.bool p)) (hd : Nat.blt d n = true) (he : Env n E a) (k : ∀ a, Env n ((d, .bool (!p)) :: E) a → wpList P ops Q rest a W) :
    wpList P ops Q (⟨some d, .unOp .not t s, ty, pos, af, none⟩ :: rest) a W :=
  step_val rfl (by simp [execOp, he.ev hx, Op.unary]) (k _ (he.put hd))
theorem ng {s t kk} {i : Int} (hx : ev E s = some (.int kk i)) (hd : Nat.blt d n = true) (he : Env n E a) (k : ∀ a, Env n ((d, .int kk (kk.wrap (-i))) :: E) a → wpList P ops Q rest a W) :
    wpList P ops Q (⟨some d, .unOp .neg t s, ty, pos, af, none⟩ :: rest) a W :=
  step_val rfl (by simp [execOp, he.ev hx, Op.unary, Op.intArith]) (k _ (he.put hd))
theorem ux {s t kk} {i : Int} (hx : ev E s = some (.int kk i)) (hd : Nat.blt d n = true) (he : Env n E a) (k : ∀ a, Env n ((d, .int kk (bits .xor kk (if kk.signed then -1 else kk.max) i)) :: E) a → wpList P ops Q rest a W) :
    wpList P ops Q (⟨some d, .unOp .xor t s, ty, pos, af, none⟩ :: rest) a W :=
  step_val rfl (by simp [execOp, he.ev hx, Op.unary, intBits_xor]) (k _ (he.put hd))
theorem mkf {f fs cs} {vs ws : List Value} (hx : evl E fs = some vs) (hy : evl E cs = some ws) (hd : Nat.blt d n = true) (he : Env n E a) (k : ∀ a, Env n ((d, .func f vs.toArray ws.toArray) :: E) a → wpList P ops Q rest a W) :
    wpList P ops Q (⟨some d, .makeFunc f fs.toArray cs.toArray, ty, pos, af, none⟩ :: rest) a W :=
  step_val rfl (by simp [execOp, Instr.makeFunc, he.evl hx, he.evl hy]) (k _ (he.put hd))
theorem nck {s p} (hx : ev E s = some (.pointer (some p))) (hd : Nat.blt d n = true) (he : Env n E a) (k : ∀ a, Env n ((d, .pointer (some p)) :: E) a → wpList P ops Q rest a W) :
    wpList P ops Q (⟨some d, .nilCheck s, ty, pos, af, none⟩ :: rest) a W :=
  step_val rfl (by simp [execOp, he.ev hx]) (k _ (he.put hd))

/-! ### Whole numbers -/
section
variable {s t : Operand} {T T' : TypeId} {kk : IntKind} {i j : Int}
theorem bo {op : BinOp} {v : Value} (hx : ev E s = some (.int kk i)) (hy : ev E t = some (.int kk j)) (hr : ∀ W, (binOp op T (.int kk i) (.int kk j)).run P W = .ok v W) (hd : Nat.blt d n = true) (he : Env n E a)
    (k : ∀ a, Env n ((d, v) :: E) a → wpList P ops Q rest a W) : wpList P ops Q (⟨some d, .binOp op T s t T', ty, pos, af, none⟩ :: rest) a W :=
  step_val rfl (by simp [execOp, he.ev hx, he.ev hy, eqGuard_at_int, hr]) (k _ (he.put hd))
theorem lt (hx : ev E s = some (.int kk i)) (hy : ev E t = some (.int kk j)) (hd : Nat.blt d n = true) (he : Env n E a) (k : ∀ a, Env n ((d, .bool (decide (i < j))) :: E) a → wpList P ops Q rest a W) :
    wpList P ops Q (⟨some d, .binOp .lss T s t T', ty, pos, af, none⟩ :: rest) a W := bo hx hy (fun _ => by simp [binOp_lss]) hd he k
theorem le (hx : ev E s = some (.int kk i)) (hy : ev E t = some (.int kk j)) (hd : Nat.blt d n = true) (he : Env n E a) (k : ∀ a, Env n ((d, .bool (decide (i ≤ j))) :: E) a → wpList P ops Q rest a W) :
    wpList P ops Q (⟨some d, .binOp .leq T s t T', ty, pos, af, none⟩ :: rest) a W := bo hx hy (fun _ => by simp [binOp_leq]) hd he k
theorem gt (hx : ev E s = some (.int kk i)) (hy : ev E t = some (.int kk j)) (hd : Nat.blt d n = true) (he : Env n E a) (k : ∀ a, Env n ((d, .bool (decide (j < i))) :: E) a → wpList P ops Q rest a W) :
    wpList P ops Q (⟨some d, .binOp .gtr T s t T', ty, pos, af, none⟩ :: rest) a W := bo hx hy (fun _ => by simp [binOp_gtr]) hd he k
theorem ge (hx : ev E s = some (.int kk i)) (hy : ev E t = some (.int kk j)) (hd : Nat.blt d n = true) (he : Env n E a) (k : ∀ a, Env n ((d, .bool (decide (j ≤ i))) :: E) a → wpList P ops Q rest a W) :
    wpList P ops Q (⟨some d, .binOp .geq T s t T', ty, pos, af, none⟩ :: rest) a W := bo hx hy (fun _ => by simp [binOp_geq]) hd he k
theorem eq (hx : ev E s = some (.int kk i)) (hy : ev E t = some (.int kk j)) (hd : Nat.blt d n = true) (he : Env n E a) (k : ∀ a, Env n ((d, .bool (decide (i = j))) :: E) a → wpList P ops Q rest a W) :
    wpList P ops Q (⟨some d, .binOp .eql T s t T', ty, pos, af, none⟩ :: rest) a W := bo hx hy (fun _ => by simp [binOp_eql]; rfl) hd he k
theorem ne (hx : ev E s = some (.int kk i)) (hy : ev E t = some (.int kk j)) (hd : Nat.blt d n = true) (he : Env n E a) (k : ∀ a, Env n ((d, .bool (decide (i ≠ j))) :: E) a → wpList P ops Q rest a W) :
    wpList P ops Q (⟨some d, .binOp .neq T s t T', ty, pos, af, none⟩ :: rest) a W := bo hx hy (fun _ => by simp [binOp_neq, bne, decide_not]; rfl) hd he k
/-- The result r is given, with why it is no less and no more than the sum (difference, product) in its kind. -/
theorem ad (r : Int) (hx : ev E s = some (.int kk i)) (hy : ev E t = some (.int kk j)) (hr : kk.wrap (i + j) = r) (hd : Nat.blt d n = true) (he : Env n E a) (k : ∀ a, Env n ((d, .int kk r) :: E) a → wpList P ops Q rest a W) :
    wpList P ops Q (⟨some d, .binOp .add T s t T', ty, pos, af, none⟩ :: rest) a W := bo hx hy (fun _ => by simp [binOp_add, Op.intArith, hr]) hd he k
theorem su (r : Int) (hx : ev E s = some (.int kk i)) (hy : ev E t = some (.int kk j)) (hr : kk.wrap (i - j) = r) (hd : Nat.blt d n = true) (he : Env n E a) (k : ∀ a, Env n ((d, .int kk r) :: E) a → wpList P ops Q rest a W) :
    wpList P ops Q (⟨some d, .binOp .sub T s t T', ty, pos, af, none⟩ :: rest) a W := bo hx hy (fun _ => by simp [binOp_sub, Op.intArith, hr]) hd he k
theorem mu (r : Int) (hx : ev E s = some (.int kk i)) (hy : ev E t = some (.int kk j)) (hr : kk.wrap (i * j) = r) (hd : Nat.blt d n = true) (he : Env n E a) (k : ∀ a, Env n ((d, .int kk r) :: E) a → wpList P ops Q rest a W) :
    wpList P ops Q (⟨some d, .binOp .mul T s t T', ty, pos, af, none⟩ :: rest) a W := bo hx hy (fun _ => by simp [binOp_mul, Op.intArith, hr]) hd he k
theorem dv (r : Int) (hx : ev E s = some (.int kk i)) (hy : ev E t = some (.int kk j)) (h0 : j ≠ 0) (hr : kk.wrap (i.tdiv j) = r) (hd : Nat.blt d n = true) (he : Env n E a) (k : ∀ a, Env n ((d, .int kk r) :: E) a → wpList P ops Q rest a W) :
    wpList P ops Q (⟨some d, .binOp .quo T s t T', ty, pos, af, none⟩ :: rest) a W := bo hx hy (fun _ => by simp [binOp_quo, Op.intDiv, h0, hr]) hd he k
theorem rm (r : Int) (hx : ev E s = some (.int kk i)) (hy : ev E t = some (.int kk j)) (h0 : j ≠ 0) (hr : i.tmod j = r) (hd : Nat.blt d n = true) (he : Env n E a) (k : ∀ a, Env n ((d, .int kk r) :: E) a → wpList P ops Q rest a W) :
    wpList P ops Q (⟨some d, .binOp .rem T s t T', ty, pos, af, none⟩ :: rest) a W := bo hx hy (fun _ => by simp [binOp_rem, Op.intDiv, h0, hr]) hd he k
theorem an (r : Int) (hx : ev E s = some (.int kk i)) (hy : ev E t = some (.int kk j)) (hr : bits .and kk i j = r) (hd : Nat.blt d n = true) (he : Env n E a) (k : ∀ a, Env n ((d, .int kk r) :: E) a → wpList P ops Q rest a W) :
    wpList P ops Q (⟨some d, .binOp .and T s t T', ty, pos, af, none⟩ :: rest) a W := bo hx hy (fun _ => by simp [binOp_and, intBits_and, hr]) hd he k
theorem or (r : Int) (hx : ev E s = some (.int kk i)) (hy : ev E t = some (.int kk j)) (hr : bits .or kk i j = r) (hd : Nat.blt d n = true) (he : Env n E a) (k : ∀ a, Env n ((d, .int kk r) :: E) a → wpList P ops Q rest a W) :
    wpList P ops Q (⟨some d, .binOp .or T s t T', ty, pos, af, none⟩ :: rest) a W := bo hx hy (fun _ => by simp [binOp_or, intBits_or, hr]) hd he k
theorem xo (r : Int) (hx : ev E s = some (.int kk i)) (hy : ev E t = some (.int kk j)) (hr : bits .xor kk i j = r) (hd : Nat.blt d n = true) (he : Env n E a) (k : ∀ a, Env n ((d, .int kk r) :: E) a → wpList P ops Q rest a W) :
    wpList P ops Q (⟨some d, .binOp .xor T s t T', ty, pos, af, none⟩ :: rest) a W := bo hx hy (fun _ => by simp [binOp_xor, intBits_xor, hr]) hd he k
theorem sl {yk : IntKind} (r : Int) (hx : ev E s = some (.int kk i)) (hy : ev E t = some (.int yk j)) (h0 : 0 ≤ j) (hr : kk.wrap (i * 2 ^ (min j.toNat kk.bits)) = r) (hd : Nat.blt d n = true) (he : Env n E a) (k : ∀ a, Env n ((d, .int kk r) :: E) a → wpList P ops Q rest a W) :
    wpList P ops Q (⟨some d, .binOp .shl T s t T', ty, pos, af, none⟩ :: rest) a W :=
  step_val rfl (by simp [execOp, he.ev hx, he.ev hy, eqGuard_at_int, binOp_shl, Op.shift, show ¬ j < 0 by omega, hr]) (k _ (he.put hd))
theorem sr {yk : IntKind} (r : Int) (hx : ev E s = some (.int kk i)) (hy : ev E t = some (.int yk j)) (h0 : 0 ≤ j) (hr : i.fdiv (2 ^ (min j.toNat kk.bits)) = r) (hd : Nat.blt d n = true) (he : Env n E a) (k : ∀ a, Env n ((d, .int kk r) :: E) a → wpList P ops Q rest a W) :
    wpList P ops Q (⟨some d, .binOp .shr T s t T', ty, pos, af, none⟩ :: rest) a W :=
  step_val rfl (by simp [execOp, he.ev hx, he.ev hy, eqGuard_at_int, binOp_shr, Op.shift, show ¬ j < 0 by omega, hr]) (k _ (he.put hd))
theorem ci (r : Int) (kd : IntKind) (hs : (P.underlying T).isSome = true) (hdst : P.underlying T' = some (.int kd)) (hx : ev E s = some (.int kk i)) (hr : kd.wrap i = r) (hd : Nat.blt d n = true) (he : Env n E a) (k : ∀ a, Env n ((d, .int kd r) :: E) a → wpList P ops Q rest a W) :
    wpList P ops Q (⟨some d, .convert T T' s, ty, pos, af, none⟩ :: rest) a W := by
  obtain ⟨u, hu⟩ := Option.isSome_iff_exists.1 hs
  refine step_val (v := .int kd r) rfl ?_ (k _ (he.put hd))
  simp [execOp, he.ev hx, convert, run_underlying hu, run_underlying hdst, Conv.intToInt, hr]
end
/-! ### Bools and strings -/
section
variable {s t : Operand} {T T' : TypeId} {p q : Bool} {c e : ByteArray}
theorem run_eq_bool (hT : P.underlying T = some .bool) (W : World) : (binOp .eql T (.bool p) (.bool q)).run P W = .ok (.bool (p == q)) W := by
  show (Sem.bind (Op.equalIn 10000 T (.bool p) (.bool q)) _).run P W = _
  rw [Sem.run_bind']
  have : (Op.equalIn 10000 T (.bool p) (.bool q)).run P W = .ok (p == q) W := by
    rw [show (10000 : Nat) = 9999 + 1 from rfl]
    unfold Op.equalIn
    simp [run_underlying hT]
  rw [this]; rfl
theorem run_ne_bool (hT : P.underlying T = some .bool) (W : World) : (binOp .neq T (.bool p) (.bool q)).run P W = .ok (.bool (!(p == q))) W := by
  show (Sem.bind (Op.equalIn 10000 T (.bool p) (.bool q)) _).run P W = _
  rw [Sem.run_bind']
  have : (Op.equalIn 10000 T (.bool p) (.bool q)).run P W = .ok (p == q) W := by
    rw [show (10000 : Nat) = 9999 + 1 from rfl]
    unfold Op.equalIn
    simp [run_underlying hT]
  rw [this]; rfl
theorem beq' (hT : P.underlying T = some .bool) (hx : ev E s = some (.bool p)) (hy : ev E t = some (.bool q)) (hd : Nat.blt d n = true) (he : Env n E a) (k : ∀ a, Env n ((d, .bool (p == q)) :: E) a → wpList P ops Q rest a W) :
    wpList P ops Q (⟨some d, .binOp .eql T s t T', ty, pos, af, none⟩ :: rest) a W :=
  step_val rfl (by simp [execOp, he.ev hx, he.ev hy, eqGuard_at_bool, run_eq_bool hT]) (k _ (he.put hd))
theorem bne' (hT : P.underlying T = some .bool) (hx : ev E s = some (.bool p)) (hy : ev E t = some (.bool q)) (hd : Nat.blt d n = true) (he : Env n E a) (k : ∀ a, Env n ((d, .bool (!(p == q))) :: E) a → wpList P ops Q rest a W) :
    wpList P ops Q (⟨some d, .binOp .neq T s t T', ty, pos, af, none⟩ :: rest) a W :=
  step_val rfl (by simp [execOp, he.ev hx, he.ev hy, eqGuard_at_bool, run_ne_bool hT]) (k _ (he.put hd))
theorem bs_toList_inj {c e : ByteArray} : (c.toList == e.toList) = decide (c = e) := by
  have key : c.toList = e.toList ↔ c = e := by
    constructor
    · intro h
      have h' : c.data.toList = e.data.toList := by rw [← ByteArray.toList_eq, ← ByteArray.toList_eq]; exact h
      cases c; cases e; simpa using h'
    · intro h; rw [h]
  by_cases h : c = e
  · subst h; simp
  · have : ¬ c.toList = e.toList := fun he => h (key.1 he)
    simp [h, this]
theorem seq' (hx : ev E s = some (.string c)) (hy : ev E t = some (.string e)) (hd : Nat.blt d n = true) (he : Env n E a) (k : ∀ a, Env n ((d, .bool (decide (c = e))) :: E) a → wpList P ops Q rest a W) :
    wpList P ops Q (⟨some d, .binOp .eql T s t T', ty, pos, af, none⟩ :: rest) a W :=
  step_val rfl (by simp only [execOp, he.ev hx, he.ev hy, eqGuard_at_string, binOp, Op.stringOp, bs_toList_inj]; simp) (k _ (he.put hd))
theorem sne' (hx : ev E s = some (.string c)) (hy : ev E t = some (.string e)) (hd : Nat.blt d n = true) (he : Env n E a) (k : ∀ a, Env n ((d, .bool (decide (c ≠ e))) :: E) a → wpList P ops Q rest a W) :
    wpList P ops Q (⟨some d, .binOp .neq T s t T', ty, pos, af, none⟩ :: rest) a W :=
  step_val rfl (by simp only [execOp, he.ev hx, he.ev hy, eqGuard_at_string, binOp, Op.stringOp, bs_toList_inj]; simp) (k _ (he.put hd))
theorem sad (hx : ev E s = some (.string c)) (hy : ev E t = some (.string e)) (hm : c.size + e.size ≤ 9223372036854775807) (hd : Nat.blt d n = true) (he : Env n E a) (k : ∀ a, Env n ((d, .string (c ++ e)) :: E) a → wpList P ops Q rest a W) :
    wpList P ops Q (⟨some d, .binOp .add T s t T', ty, pos, af, none⟩ :: rest) a W :=
  step_val rfl (by
    have : ¬ (((c.size + e.size : Nat) : Int) > IntKind.i64.max) := by rw [IntKind.max_i64]; omega
    simp only [execOp, he.ev hx, he.ev hy, eqGuard_at_string, binOp, Op.stringOp, if_neg this]; simp) (k _ (he.put hd))
theorem slen (hT : P.underlying T = some .string) (hx : ev E s = some (.string c)) (hd : Nat.blt d n = true) (he : Env n E a) (k : ∀ a, Env n ((d, .int .i64 c.size) :: E) a → wpList P ops Q rest a W) :
    wpList P ops Q (⟨some d, .call { callee := .builtin .len, args := #[s], argTypes := #[T] }, ty, pos, af, none⟩ :: rest) a W :=
  step_val rfl (by simp [execOp, resolve, invoke, builtin, he.ev hx, Builtin.len_, run_underlying hT, goInt]) (k _ (he.put hd))
theorem sat (i : Nat) (hT : P.underlying T = some .string) (hx : ev E s = some (.string c)) (hy : ev E t = some (.int .i64 i)) (hi : i < c.size) (hd : Nat.blt d n = true) (he : Env n E a) (k : ∀ a, Env n ((d, .int .u8 (c[i]'hi).toNat) :: E) a → wpList P ops Q rest a W) :
    wpList P ops Q (⟨some d, .index T s t, ty, pos, af, none⟩ :: rest) a W :=
  step_val rfl (by simp [execOp, he.ev hx, he.ev hy, Instr.index, asIntOf, run_underlying hT, hi]) (k _ (he.put hd))
end
end
end Go.Proofs.YtndaogkpgoimlaaDoor.K

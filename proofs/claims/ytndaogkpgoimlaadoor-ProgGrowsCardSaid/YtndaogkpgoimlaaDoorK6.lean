/- Rules for regions whose order is drawn: what only reads is taken first, all else in whatever order comes up. Holds for every program of the model; no condition. -/
import Derived.Test.YtndaogkpgoimlaaDoorK5
import Derived.OrdersHeld
namespace Go.Proofs.YtndaogkpgoimlaaDoor.K
open Go Go.RowKit
set_option linter.unusedVariables false
set_option linter.unusedSimpArgs false

/-- What holds through a region: these chunks lie where they lay. -/
def SH (I : Snap) (Lc : List Ch) (w : World) : Prop := ∃ I' L', I.le I' ∧ Hp I' (Lc ++ L') w
def Qd (Q : Exit → Act → World → Prop) (e : Exit) (a : Act) (w : World) : Prop := e = .normal ∧ Q .normal a w
def Qp (d : Nat) (v : Value) (n : Nat) (W : World) (e : Exit) (a : Act) (w : World) : Prop := e = .normal ∧ w = W ∧ ∃ E, Env n ((d, v) :: E) a
/-- Operations that call nobody. -/
def plainOp : Op → Bool
  | .move _ | .assign _ | .load .. | .build .. | .binOp .. | .unOp .. | .convert .. | .makeFunc .. | .slice .. | .fieldAddr .. | .field .. | .indexAddr .. | .index .. | .extract .. | .pick .. => true
  | .call c => match c.callee with
    | .builtin b => match b with
      | .len | .min | .max => true
      | _ => false
    | _ => false
  | _ => false
theorem vrun {s : Sem Value} {P : Program} {W W' : World} {m : Next} (h : (do let x ← s; pure (Next.value x) : Sem Next).run P W = .ok m W') : ∃ v, m = .value v := by
  rw [Sem.run_bind] at h
  cases hs : s.run P W with
  | ok v w => rw [hs] at h; simp only [Result.andThen] at h; simp at h; exact ⟨v, h.1.symm⟩
  | halt x w => rw [hs] at h; simp only [Result.andThen] at h; cases h
theorem plain_call {ρ : Operand → Value} {c : Call} {t : TypeId} {P : Program} {W W' : World} {m : Next} (hp : plainOp (.call c) = true) (h : (do let d ← resolve ρ c t; invoke d.target d.args : Sem Next).run P W = .ok m W') : ∃ v, m = .value v := by
  cases hc : c.callee with
  | builtin b =>
    simp only [plainOp, hc] at hp
    simp only [resolve, hc, pure_bind, invoke] at h
    cases b <;> simp at hp <;> exact vrun h
  | _ => simp [plainOp, hc] at hp
theorem plain_exec {ρ : Operand → Value} {o : Oper} {P : Program} {W W' : World} {m : Next} (hp : plainOp o.op = true) (h : (execOp ρ o).run P W = .ok m W') : ∃ v, m = .value v := by
  unfold execOp at h
  split at h <;> rename_i heq <;> rw [heq] at hp <;> first
    | exact vrun h
    | exact plain_call hp h
    | (simp at h; exact ⟨_, h.1.symm⟩)
    | (dsimp only at h; rw [Sem.run_bind] at h; generalize (asBool _).run P W = r at h; cases r <;> simp [Result.andThen] at h <;> exact ⟨_, h.1.symm⟩)
    | exact absurd hp (by decide)
    | (simp [plainOp] at hp)
    | skip

section
variable {P : Program} {ops : Array Oper} {Q : Exit → Act → World → Prop} {a : Act} {W : World} {n : Nat} {E : List (Nat × Value)} {I : Snap} {L : List Ch} {S : World → Prop} {d : Nat} {v : Value} {listed : Array Bool} {fuel : Nat}
theorem rgd {id : Nat} {l : List Oper} (S : World → Prop) (m : Nat) (hm : P.follows .mixedOrders = true) (hn : l.length = m) (hh : Hp I L W) (k : ∀ W, Hp I L W → wpAnyH P .any l.toArray (Qd Q) S m (Array.replicate m false) a W) : (Code.region id l.toArray true).wp P Q a W :=
  wp_mono (Q := Qd Q) (wp_region_held (S := S) hm (by simp only [List.size_toArray, hn]; exact k _ hh.drew)) fun e a w ⟨he, hq⟩ => by subst he; exact hq
theorem aqe {W} (he : Env n ((d, v) :: E) a) : wpList P ops (Qp d v n W) [] a W := ⟨rfl, rfl, E, he⟩
theorem ahp {o : Oper} (i : Nat) (hi : ops[i]? = some o) (hs : Region.noSelect ops = true) (hf : Region.free .any ops listed i = true) (hr : (Region.ready .any ops listed).contains i = true) (ho : o.dst = some d) (hp : plainOp o.op = true)
    (hd : Nat.blt d n = true) (he : Env n E a) (hS : S W) (hy : ∀ W, S W → wpList P ops (Qp d v n W) [o] a W) (k : ∀ a, Env n ((d, v) :: E) a → wpAnyH P .any ops (Qd Q) S fuel (listed.setIfInBounds i true) a W) :
    wpAnyH P .any ops (Qd Q) S (fuel + 1) listed a W := by
  have hsz : d < a.tmps.size := by rw [he.size]; simpa using hd
  have hput : ∀ u, (a.put (some d) u).tmps[d]? = some u := fun u => by simp [Act.put, hsz]
  refine wpAnyH_take (v := v) hi hs hf hr (fun c a w h => by cases h.1) ?_ hS (by rw [ho]; exact k _ (he.put hd))
  by_cases hw : Region.wanted o (yielded ops a.tmps) = true
  · refine .inl ⟨hw, fun w hSw => ?_⟩
    have h := hy w hSw
    unfold wpList at h
    rw [if_pos hw] at h
    rcases h with h | ⟨_, a', w', h, _⟩
    · unfold Oper.wp at h
      cases hx : (execOp a.eval o).run P w with
      | ok m w' =>
        obtain ⟨u, rfl⟩ := plain_exec hp hx
        rw [hx] at h
        simp only [Oper.upon_value, wpList, ho] at h
        obtain ⟨_, rfl, E', hE⟩ := h
        have := hE.get d v (by simp)
        rw [hput u] at this
        injection this with this
        rw [this]
      | halt x w' =>
        rw [hx] at h
        cases x <;> simp only [Oper.upon] at h
        · cases h.1
    · cases h
  · have hw' : Region.wanted o (yielded ops a.tmps) = false := by simpa using hw
    refine .inr ⟨hw', ?_⟩
    have h := hy W hS
    unfold wpList at h
    rw [if_neg (by simp [hw'])] at h
    simp only [wpList, ho] at h
    obtain ⟨_, _, E', hE⟩ := h
    have := hE.get d v (by simp)
    rw [hput undef] at this
    injection this with this
    exact this.symm
/-- One that is passed over. -/
theorem ahn {op : Op} {ty : TypeId} {pos : String} {af : Array Edge} {j t : Nat} {w u : Bool} (i : Nat) (hi : ops[i]? = some ⟨some d, op, ty, pos, af, some (j, w)⟩) (hs : Region.noSelect ops = true) (hf : Region.free .any ops listed i = true) (hr : (Region.ready .any ops listed).contains i = true)
    (hj : (ops[j]?).bind (·.dst) = some t) (hd : Nat.blt d n = true) (he : Env n E a) (hx : E.lookup t = some (.bool u)) (hne : (u == w) = false) (hS : S W) (k : ∀ a, Env n ((d, undef) :: E) a → wpAnyH P .any ops (Qd Q) S fuel (listed.setIfInBounds i true) a W) :
    wpAnyH P .any ops (Qd Q) S (fuel + 1) listed a W :=
  wpAnyH_take (v := undef) hi hs hf hr (fun c a w h => by cases h.1) (.inr ⟨by simpa [Region.wanted, yielded, hj, he.get t _ hx] using hne, rfl⟩) hS (k _ (he.put hd))
theorem ahnu {op : Op} {ty : TypeId} {pos : String} {af : Array Edge} {j t : Nat} {w : Bool} (i : Nat) (hi : ops[i]? = some ⟨some d, op, ty, pos, af, some (j, w)⟩) (hs : Region.noSelect ops = true) (hf : Region.free .any ops listed i = true) (hr : (Region.ready .any ops listed).contains i = true)
    (hj : (ops[j]?).bind (·.dst) = some t) (hd : Nat.blt d n = true) (he : Env n E a) (hx : E.lookup t = some undef) (hS : S W) (k : ∀ a, Env n ((d, undef) :: E) a → wpAnyH P .any ops (Qd Q) S fuel (listed.setIfInBounds i true) a W) :
    wpAnyH P .any ops (Qd Q) S (fuel + 1) listed a W :=
  wpAnyH_take (v := undef) hi hs hf hr (fun c a w h => by cases h.1) (.inr ⟨by simp [Region.wanted, yielded, hj, he.get t _ hx, undef], rfl⟩) hS (k _ (he.put hd))
/-- Behind an operation that came up. -/
def Qn (ops : Array Oper) (P : Program) (Q : Exit → Act → World → Prop) (S : World → Prop) (fuel : Nat) (listed : Array Bool) (e : Exit) (a : Act) (w : World) : Prop := e = .normal ∧ S w ∧ wpAnyH P .any ops (Qd Q) S fuel listed a w
theorem aop {o : Oper} {i : Nat} (hi : ops[i]? = some o) (h : wpList P ops (Qn ops P Q S fuel (listed.setIfInBounds i true)) [o] a W) :
    wpOp P ops (Qd Q) i (fun a' w' => S w' ∧ wpAnyH P .any ops (Qd Q) S fuel (listed.setIfInBounds i true) a' w') a W := by
  unfold wpOp
  simp only [hi]
  unfold wpList at h
  split
  · rename_i hw
    rw [if_pos hw] at h
    rcases h with h | ⟨_, a', w', h, _⟩
    · refine .inl ?_
      unfold Oper.wp at h ⊢
      cases hx : (execOp a.eval o).run P W with
      | ok m w' =>
        rw [hx] at h
        cases m <;> simp only [Oper.upon, wpList] at h ⊢ <;> first
          | exact h.2
          | exact Calls.mono h (fun e w'' he => by cases e <;> first | exact he.2 | cases he.1 | (obtain ⟨a', w', h, _⟩ := he; cases h))
          | exact Rows.mono h (fun _ _ he => he.2)
      | halt x w' =>
        rw [hx] at h
        cases x <;> simp only [Oper.upon] at h ⊢ <;> first
          | cases h.1
          | exact h
    · cases h
  · rename_i hw
    rw [if_neg hw] at h
    exact h.2
theorem aen {listed : Array Bool} (hS : S W) (h : wpAnyH P .any ops (Qd Q) S fuel listed a W) : wpList P ops (Qn ops P Q S fuel listed) [] a W := ⟨rfl, hS, h⟩
theorem aha1 {i : Nat} (hr : Region.ready .any ops listed = [i]) (h : wpOp P ops (Qd Q) i (fun a' w' => S w' ∧ wpAnyH P .any ops (Qd Q) S fuel (listed.setIfInBounds i true) a' w') a W) : wpAnyH P .any ops (Qd Q) S (fuel + 1) listed a W :=
  wpAnyH_all hr (by simp) (by simpa using h)
theorem aha2 {i j : Nat} (hr : Region.ready .any ops listed = [i, j]) (h : wpOp P ops (Qd Q) i (fun a' w' => S w' ∧ wpAnyH P .any ops (Qd Q) S fuel (listed.setIfInBounds i true) a' w') a W)
    (h2 : wpOp P ops (Qd Q) j (fun a' w' => S w' ∧ wpAnyH P .any ops (Qd Q) S fuel (listed.setIfInBounds j true) a' w') a W) : wpAnyH P .any ops (Qd Q) S (fuel + 1) listed a W :=
  wpAnyH_all hr (by simp) (by simpa using ⟨h, h2⟩)
theorem aha3 {i j q : Nat} (hr : Region.ready .any ops listed = [i, j, q]) (h : wpOp P ops (Qd Q) i (fun a' w' => S w' ∧ wpAnyH P .any ops (Qd Q) S fuel (listed.setIfInBounds i true) a' w') a W)
    (h2 : wpOp P ops (Qd Q) j (fun a' w' => S w' ∧ wpAnyH P .any ops (Qd Q) S fuel (listed.setIfInBounds j true) a' w') a W)
    (h3 : wpOp P ops (Qd Q) q (fun a' w' => S w' ∧ wpAnyH P .any ops (Qd Q) S fuel (listed.setIfInBounds q true) a' w') a W) : wpAnyH P .any ops (Qd Q) S (fuel + 1) listed a W :=
  wpAnyH_all hr (by simp) (by simpa using ⟨h, h2, h3⟩)
theorem ahd (hr : Region.ready .any ops listed = []) (h : wpList P ops Q [] a W) : wpAnyH P .any ops (Qd Q) S fuel listed a W := wpAnyH_done hr ⟨rfl, h⟩ fuel
/-- What xs[l:], xs[:h], xs[l:h] are, of what is frozen. -/
theorem slo_ex {α : Type} {enc : α → Value} {xs : List α} {A : Option Addr} {c l : Nat} (hr : Fz I A (xs.map enc)) (hc : xs.length ≤ c) (h1 : l ≤ xs.length) :
    ∃ A' c', (Value.slice (if c = l then A else A.map (·.add (l * 1))) (xs.length - l) (c - l)) = .slice A' (xs.drop l).length c' ∧ Fz I A' ((xs.drop l).map enc) ∧ (xs.drop l).length ≤ c' := by
  have hf := hr.cut l c 1 xs.length (by simp) hc
  simp only [Nat.mul_one] at hf ⊢
  rw [← List.map_drop] at hf
  exact ⟨_, c - l, by rw [List.length_drop], hf, by simp; omega⟩
theorem shi_ex {α : Type} {enc : α → Value} {xs : List α} {A : Option Addr} {c h : Nat} (hr : Fz I A (xs.map enc)) (hc : xs.length ≤ c) (h1 : h ≤ xs.length) :
    ∃ A' c', (Value.slice A h c) = .slice A' (xs.take h).length c' ∧ Fz I A' ((xs.take h).map enc) ∧ (xs.take h).length ≤ c' :=
  ⟨A, c, by rw [List.length_take, Nat.min_eq_left h1], by rw [List.map_take]; exact hr.take h, by simp; omega⟩
theorem slh_ex {α : Type} {enc : α → Value} {xs : List α} {A : Option Addr} {c l h : Nat} (hr : Fz I A (xs.map enc)) (hc : xs.length ≤ c) (h1 : l ≤ h) (h2 : h ≤ xs.length) :
    ∃ A' c', (Value.slice (if c = l then A else A.map (·.add (l * 1))) (h - l) (c - l)) = .slice A' ((xs.take h).drop l).length c' ∧ Fz I A' (((xs.take h).drop l).map enc) ∧ ((xs.take h).drop l).length ≤ c' := by
  have hf := (hr.take h).cut l c 1 h (by simp; omega) (by omega)
  simp only [Nat.mul_one] at hf ⊢
  rw [← List.map_take, ← List.map_drop] at hf
  exact ⟨_, c - l, by rw [List.length_drop, List.length_take, Nat.min_eq_left h2], hf, by simp; omega⟩
end
end Go.Proofs.YtndaogkpgoimlaaDoor.K

/- Layer 22: what may be is got as it was put; the document's reading is the program's. Plain laws, no program in sight. -/
import Derived.Test.YtndaogkpgoimlaaDoorS21
namespace Go.Proofs.YtndaogkpgoimlaaDoor
open Go
theorem putAll_append (a b : List Int) : putAll (a ++ b) = putAll a ++ putAll b := by simp [putAll]
theorem putAll_cons (c : Int) (cs : List Int) : putAll (c :: cs) = putN c.toNat ++ putAll cs := by simp [putAll]
theorem progPut_lead (ph fl of_ nx : Int) (rs : List Int) (pd : List UInt8) (wd : List Int) (mk lg : Bool) :
    progPut ph fl of_ nx rs pd wd mk lg = putAll ((fours ph fl of_ nx ++ [((rs.length : Nat) : Int)]) ++ rs) ++ tokPut pd wd mk lg := by
  rw [putAll_append, putAll_append, progPut, putAll_cons ((rs.length : Nat) : Int) []]; simp [putAll]
theorem lead_lt {ph fl of_ nx : Int} {rs : List Int} (hr : ph < 9223372036854775808 ∧ fl < 9223372036854775808 ∧ of_ < 9223372036854775808 ∧ nx < 9223372036854775808) (hrs : ∀ c ∈ rs, c < 9223372036854775808) (hl : rs.length ≤ 1000000000) :
    ∀ c ∈ (fours ph fl of_ nx ++ [((rs.length : Nat) : Int)]) ++ rs, c < 9223372036854775808 := by
  intro c hc
  simp only [fours, List.mem_append, List.mem_cons, List.not_mem_nil, or_false] at hc
  rcases hc with (h | rfl) | h
  · rcases h with rfl | rfl | rfl | rfl <;> omega
  · omega
  · exact hrs c h
/-! ### What is put is got -/
theorem numberB_put {m n : Nat} (hn : n ≤ m) (hm : m < 18446744073709551616) (r : List UInt8) (ok : Bool) : numberB m (putN n ++ r) ok = (n, r, ok) := by
  have h := get_put (n := n) (by omega) r
  rw [numberB_good (by rw [h]) (by rw [h]; show ¬ m < n; omega), h]
  simp
theorem numsG_put : ∀ (vs : List Int), (∀ c ∈ vs, 0 ≤ c ∧ c ≤ 1099511627776) → ∀ (r : List UInt8) (ok : Bool), numsG vs.length (putAll vs ++ r) ok = (vs, r, ok)
  | [], _, r, ok => by simp [numsG, putAll]
  | c :: cs, h, r, ok => by
    have hc := h c (by simp)
    have hb : numberB 1099511627776 (putAll (c :: cs) ++ r) ok = (c.toNat, putAll cs ++ r, ok) := by
      rw [putAll_cons, List.append_assoc, numberB_put (by omega) (by decide)]
    rw [List.length_cons, numsG, hb]
    simp only
    rw [numsG_put cs (fun d hd => h d (by simp [hd]))]
    have e : ((c.toNat : Nat) : Int) = c := by omega
    rw [e]
theorem mayN_facts {ph fl of_ nx : Int} {rs : List Int} {pd : List UInt8} {wd : List Int} {mk lg : Bool} (h : mayN ph fl of_ nx rs pd wd mk lg = true) :
    (∀ c ∈ fours ph fl of_ nx, 0 ≤ c ∧ c ≤ 1099511627776) ∧ runsOk nx none rs = true ∧ ph ≤ 2 ∧ rs.length ≤ 10000 ∧ soundN pd wd mk lg = true := by
  simp only [mayN, Bool.and_eq_true, List.all_eq_true, decide_eq_true_eq] at h
  obtain ⟨h1, h2, h3, h4, h5⟩ := h
  exact ⟨fun c hc => by have := h1 c hc; simpa [in40] using this, h2, h3, h4, h5⟩
theorem runsOk_all {nx : Int} : ∀ {p : Option Int} {l : List Int}, runsOk nx p l = true → ∀ c ∈ l, 0 ≤ c ∧ c < nx
  | _, [], _, c, hc => by cases hc
  | p, n :: r, h, c, hc => by
    simp only [runsOk, Bool.and_eq_true, decide_eq_true_eq] at h
    rcases List.mem_cons.1 hc with rfl | hc
    · exact ⟨h.1.1, h.1.2.1⟩
    · exact runsOk_all h.2 c hc
theorem sound_tok {pd : List UInt8} {wd : List Int} {mk lg : Bool} (h : soundN pd wd mk lg = true) : tokGet (tokPut pd wd mk lg) = ⟨pd, wd, mk, lg, 0⟩ := by
  simp only [soundN, Bool.and_eq_true, decide_eq_true_eq, beq_iff_eq] at h
  obtain ⟨h1, h2, h3, h4, h5⟩ := h
  rcases e : tokGet (tokPut pd wd mk lg) with ⟨a, b, c, d, f⟩
  rw [e] at h1 h2 h3 h4 h5
  simp only at h1 h2 h3 h4 h5
  subst h1 h2 h3 h4 h5; rfl
theorem mayN_reads {ph fl of_ nx : Int} {rs : List Int} {pd : List UInt8} {wd : List Int} {mk lg : Bool} (h : mayN ph fl of_ nx rs pd wd mk lg = true) :
    pg4 (progPut ph fl of_ nx rs pd wd mk lg) = (fours ph fl of_ nx, putN rs.length ++ (putAll rs ++ tokPut pd wd mk lg), true) ∧
    pgN (progPut ph fl of_ nx rs pd wd mk lg) = (rs.length, putAll rs ++ tokPut pd wd mk lg, true) ∧ pgR (progPut ph fl of_ nx rs pd wd mk lg) = (rs, tokPut pd wd mk lg, true) := by
  obtain ⟨h4, hr, hph, hl, hs⟩ := mayN_facts h
  have hnx := h4 nx (by simp [fours])
  have e4 : pg4 (progPut ph fl of_ nx rs pd wd mk lg) = (fours ph fl of_ nx, putN rs.length ++ (putAll rs ++ tokPut pd wd mk lg), true) := by
    have := numsG_put (fours ph fl of_ nx) h4 (putN rs.length ++ (putAll rs ++ tokPut pd wd mk lg)) true
    rw [pg4, progPut, List.append_assoc, List.append_assoc]; exact this
  have eN : pgN (progPut ph fl of_ nx rs pd wd mk lg) = (rs.length, putAll rs ++ tokPut pd wd mk lg, true) := by rw [pgN, e4]; exact numberB_put hl (by decide) _ _
  refine ⟨e4, eN, ?_⟩
  rw [pgR, eN]
  exact numsG_put rs (fun c hc => by have := runsOk_all hr c hc; omega) _ _
/-- What may be is got as it was put. -/
theorem progGet_put {ph fl of_ nx : Int} {rs : List Int} {pd : List UInt8} {wd : List Int} {mk lg : Bool} (h : mayN ph fl of_ nx rs pd wd mk lg = true) :
    progGet (progPut ph fl of_ nx rs pd wd mk lg) = ⟨ph, fl, of_, nx, rs, ⟨pd, wd, mk, lg, 0⟩, 0⟩ := by
  obtain ⟨e4, eN, eR⟩ := mayN_reads h
  have hs := sound_tok (mayN_facts h).2.2.2.2
  have eT : pgT (progPut ph fl of_ nx rs pd wd mk lg) = ⟨pd, wd, mk, lg, 0⟩ := by rw [pgT, eR]; exact hs
  obtain ⟨a0, a1, a2, a3⟩ := pg4_is e4
  have hok : pgOk (progPut ph fl of_ nx rs pd wd mk lg) = true := by simp [pgOk, eR, eT, a0, a1, a2, a3, h]
  rw [progGet, if_pos hok, a0, a1, a2, a3, eR, eT]
/-- What is got may be, and has the very bytes. -/
theorem progGet_ok {b : List UInt8} (h : (progGet b).err = 0) : mayN (progGet b).ph (progGet b).fl (progGet b).of_ (progGet b).nx (progGet b).rs (progGet b).tk.pd (progGet b).tk.wd (progGet b).tk.mrk (progGet b).tk.lg = true ∧
    progPut (progGet b).ph (progGet b).fl (progGet b).of_ (progGet b).nx (progGet b).rs (progGet b).tk.pd (progGet b).tk.wd (progGet b).tk.mrk (progGet b).tk.lg = b := by
  by_cases hok : pgOk b = true
  · rw [progGet, if_pos hok]
    simp only [pgOk, Bool.and_eq_true, decide_eq_true_eq] at hok
    exact ⟨hok.2.2.1, hok.2.2.2⟩
  · rw [progGet, if_neg hok] at h; exact absurd h (by decide)
theorem progGet_err (b : List UInt8) : (progGet b).err = 0 ∨ progGet b = progBad := by
  unfold progGet; split
  · exact .inl rfl
  · exact .inr rfl
/-! ### The document's reading -/
def refL (b : List UInt8) : Nat → List Int → Nat → Option (List Int × Nat)
  | 0, l, p => some (l, p)
  | f + 1, l, p => if l.length < 5 ∨ (l.length : Int) < 5 + l[4]?.getD 0 then
      (if (numGet (b.drop p)).2.2 ≠ 0 ∨ 1099511627776 < (numGet (b.drop p)).1 ∨ (l.length = 4 ∧ 10000 < (numGet (b.drop p)).1) then none else refL b f (l ++ [((numGet (b.drop p)).1 : Int)]) (p + (numGet (b.drop p)).2.1)) else some (l, p)
def lAt (l : List Int) (k : Nat) : Int := l[k]?.getD 0
def ref22G (b : List UInt8) : ProgR := match refL b 10006 [] 0 with
  | none => progBad
  | some (l, p) => if (refGet (b.drop p)).err ≠ 0 ∨ mayN (lAt l 0) (lAt l 1) (lAt l 2) (lAt l 3) (l.drop 5) (refGet (b.drop p)).pd (refGet (b.drop p)).wd (refGet (b.drop p)).mrk (refGet (b.drop p)).lg = false then progBad
    else ⟨lAt l 0, lAt l 1, lAt l 2, lAt l 3, l.drop 5, refGet (b.drop p), 0⟩
theorem refL_bad {b : List UInt8} {f p : Nat} {l : List Int} {R : Option (List Int × Nat)} (h : R = refL b f l p) (hf : 0 < f) (hc : l.length < 5 ∨ (l.length : Int) < 5 + l[4]?.getD 0) (hb : (numGet (b.drop p)).2.2 ≠ 0 ∨ 1099511627776 < (numGet (b.drop p)).1 ∨ (l.length = 4 ∧ 10000 < (numGet (b.drop p)).1)) : R = none := by
  obtain ⟨k, rfl⟩ : ∃ k, f = k + 1 := ⟨f - 1, by omega⟩
  rw [h, refL, if_pos hc, if_pos hb]
theorem refL_next {b : List UInt8} {f p : Nat} {l : List Int} {R : Option (List Int × Nat)} (h : R = refL b f l p) (hf : 0 < f) (hc : l.length < 5 ∨ (l.length : Int) < 5 + l[4]?.getD 0) (hb : ¬ ((numGet (b.drop p)).2.2 ≠ 0 ∨ 1099511627776 < (numGet (b.drop p)).1 ∨ (l.length = 4 ∧ 10000 < (numGet (b.drop p)).1))) :
    R = refL b (f - 1) (l ++ [((numGet (b.drop p)).1 : Int)]) (p + (numGet (b.drop p)).2.1) := by
  obtain ⟨k, rfl⟩ : ∃ k, f = k + 1 := ⟨f - 1, by omega⟩
  rw [h, refL, if_pos hc, if_neg hb]; rfl
theorem refL_end {b : List UInt8} {f p : Nat} {l : List Int} {R : Option (List Int × Nat)} (h : R = refL b f l p) (hc : ¬ (l.length < 5 ∨ (l.length : Int) < 5 + l[4]?.getD 0)) : R = some (l, p) := by
  rw [h]; cases f with
  | zero => rfl
  | succ k => rw [refL, if_neg hc]
/-- So many numbers, from a place on: or they fail. -/
theorem numsG_off : ∀ (k : Nat) (lf : List UInt8), (numsG k lf false).2.2 = false
  | 0, _ => rfl
  | k + 1, lf => by
    have e : (numberB 1099511627776 lf false).2.2 = false := by unfold numberB; split <;> rfl
    simp only [numsG, e]; exact numsG_off k _
theorem refL_run {b : List UInt8} : ∀ (k f p : Nat) (l : List Int), (l.length + k ≤ 4 ∨ (5 ≤ l.length ∧ ((l.length + k : Nat) : Int) ≤ 5 + l[4]?.getD 0)) →
    ((numsG k (b.drop p) true).2.2 = false ∧ refL b (f + k) l p = none) ∨ ∃ q, (numsG k (b.drop p) true).2.2 = true ∧ (numsG k (b.drop p) true).2.1 = b.drop q ∧ refL b (f + k) l p = refL b f (l ++ (numsG k (b.drop p) true).1) q
  | 0, f, p, l, _ => .inr ⟨p, rfl, rfl, by simp [numsG]⟩
  | k + 1, f, p, l, hk => by
    have hc : l.length < 5 ∨ (l.length : Int) < 5 + l[4]?.getD 0 := by omega
    by_cases hb : (numGet (b.drop p)).2.2 ≠ 0 ∨ 1099511627776 < (numGet (b.drop p)).1
    · have e : numberB 1099511627776 (b.drop p) true = (0, b.drop p, false) := numberB_bad hb
      refine .inl ⟨by simp only [numsG, e]; exact numsG_off k _, ?_⟩
      exact refL_bad rfl (by omega) hc (by rcases hb with hb | hb; exact .inl hb; exact .inr (.inl hb))
    · have e : numberB 1099511627776 (b.drop p) true = ((numGet (b.drop p)).1, b.drop (p + (numGet (b.drop p)).2.1), true) := by
        rw [numberB_good (by omega) (by omega), List.drop_drop]
      have hn := refL_next (b := b) (f := f + k + 1) (p := p) (l := l) rfl (by omega) hc (by omega)
      have hle : (l ++ [((numGet (b.drop p)).1 : Int)]).length + k ≤ 4 ∨ (5 ≤ (l ++ [((numGet (b.drop p)).1 : Int)]).length ∧ (((l ++ [((numGet (b.drop p)).1 : Int)]).length + k : Nat) : Int) ≤ 5 + (l ++ [((numGet (b.drop p)).1 : Int)])[4]?.getD 0) := by
        rw [List.length_append, List.length_singleton]
        rcases hk with hk | ⟨h5, hk⟩
        · left; omega
        · right
          rw [List.getElem?_append_left (by omega)]
          exact ⟨by omega, by omega⟩
      have ih := refL_run (b := b) k f (p + (numGet (b.drop p)).2.1) (l ++ [((numGet (b.drop p)).1 : Int)]) hle
      have e2 : refL b (f + (k + 1)) l p = refL b (f + k) (l ++ [((numGet (b.drop p)).1 : Int)]) (p + (numGet (b.drop p)).2.1) := hn
      rw [e2]; simp only [numsG, e]
      rcases ih with ⟨h1, h2⟩ | ⟨q, h1, h2, h3⟩
      · exact .inl ⟨h1, h2⟩
      · exact .inr ⟨q, h1, h2, by rw [h3]; simp⟩
theorem numsG_back : ∀ (k : Nat) (lf : List UInt8), (numsG k lf true).2.2 = true → putAll (numsG k lf true).1 ++ (numsG k lf true).2.1 = lf
  | 0, lf, _ => by simp [numsG, putAll]
  | k + 1, lf, h => by
    by_cases hb : (numGet lf).2.2 ≠ 0 ∨ 1099511627776 < (numGet lf).1
    · rw [numsG, numberB_bad hb] at h
      rw [show (numsG k lf false).2.2 = false from numsG_off k lf] at h; cases h
    · have e : numberB 1099511627776 lf true = ((numGet lf).1, lf.drop (numGet lf).2.1, true) := numberB_good (by omega) (by omega)
      simp only [numsG, e] at h ⊢
      rw [putAll_cons, List.append_assoc, numsG_back k _ h]
      exact (put_get (l := lf) (by omega)).1
theorem numberB_off (m : Nat) (lf : List UInt8) : (numberB m lf false).2.2 = false := by unfold numberB; split <;> rfl
theorem pgOk_off {b : List UInt8} (h : (pgR b).2.2 = false) : progGet b = progBad := by rw [progGet, if_neg (by simp [pgOk, h])]
/-- The document's reading is the program's. -/
theorem ref22_is (b : List UInt8) : ref22G b = progGet b := by
  have h4 := refL_run (b := b) 4 10002 0 [] (.inl (by simp))
  simp only [List.drop_zero, List.nil_append] at h4
  rcases h4 with ⟨h1, h2⟩ | ⟨q4, h1, h2, h3⟩
  · have hN : (pgN b).2.2 = false := by
      have : (pg4 b).2.2 = false := h1
      rw [pgN, this]; exact numberB_off _ _
    have hR : (pgR b).2.2 = false := by rw [pgR, hN]; exact numsG_off _ _
    rw [pgOk_off hR, ref22G, show refL b 10006 [] 0 = none from h2]
  · have h4b : (pg4 b).2.1 = b.drop q4 := h2
    have h4c : (pg4 b).2.2 = true := h1
    have hlen : (pg4 b).1.length = 4 := numsG_len 4 b true
    have e1 : refL b 10006 [] 0 = refL b 10002 (pg4 b).1 q4 := h3
    have hc : (pg4 b).1.length < 5 ∨ ((pg4 b).1.length : Int) < 5 + (pg4 b).1[4]?.getD 0 := .inl (by omega)
    by_cases hb : (numGet (b.drop q4)).2.2 ≠ 0 ∨ 10000 < (numGet (b.drop q4)).1
    · have hN : (pgN b).2.2 = false := by rw [pgN, h4b, numberB_bad hb]
      have hR : (pgR b).2.2 = false := by rw [pgR, hN]; exact numsG_off _ _
      rw [pgOk_off hR, ref22G, e1, refL_bad rfl (by omega) hc (by rcases hb with hb | hb; exact .inl hb; exact .inr (.inr ⟨hlen, hb⟩))]
    · have eN : pgN b = ((numGet (b.drop q4)).1, b.drop (q4 + (numGet (b.drop q4)).2.1), true) := by rw [pgN, h4b, numberB_good (by omega) (by omega), h4c, List.drop_drop]
      have e2 := refL_next (b := b) (f := 10002) (p := q4) (l := (pg4 b).1) rfl (by omega) hc (by omega)
      have hx4 : ((pg4 b).1 ++ [((numGet (b.drop q4)).1 : Int)])[4]?.getD 0 = ((numGet (b.drop q4)).1 : Int) := by
        rw [List.getElem?_append_right (by omega), hlen]; rfl
      obtain ⟨g, hg⟩ : ∃ g, (10002 - 1 : Nat) = g + (numGet (b.drop q4)).1 := ⟨10001 - (numGet (b.drop q4)).1, by omega⟩
      have h5 := refL_run (b := b) (numGet (b.drop q4)).1 g (q4 + (numGet (b.drop q4)).2.1) ((pg4 b).1 ++ [((numGet (b.drop q4)).1 : Int)]) (.inr ⟨by simp; omega, by rw [hx4]; simp; omega⟩)
      rw [hg] at e2
      have eR : pgR b = numsG (numGet (b.drop q4)).1 (b.drop (q4 + (numGet (b.drop q4)).2.1)) true := by rw [pgR, eN]
      rw [← eR] at h5
      rcases h5 with ⟨k1, k2⟩ | ⟨q5, k1, k2, k3⟩
      · rw [pgOk_off k1, ref22G, e1, e2, k2]
      · have hrl : (pgR b).1.length = (numGet (b.drop q4)).1 := by rw [eR]; exact numsG_len _ _ _
        have hx5 : ((pg4 b).1 ++ [((numGet (b.drop q4)).1 : Int)] ++ (pgR b).1)[4]?.getD 0 = ((numGet (b.drop q4)).1 : Int) := by
          rw [List.getElem?_append_left (by simp; omega)]; exact hx4
        have e3 := refL_end (b := b) (f := g) (p := q5) (l := (pg4 b).1 ++ [((numGet (b.drop q4)).1 : Int)] ++ (pgR b).1) rfl (by rw [hx5]; simp; omega)
        have eL : refL b 10006 [] 0 = some ((pg4 b).1 ++ [((numGet (b.drop q4)).1 : Int)] ++ (pgR b).1, q5) := by rw [e1, e2, k3, e3]
        have hk : ∀ k, k < 4 → lAt ((pg4 b).1 ++ [((numGet (b.drop q4)).1 : Int)] ++ (pgR b).1) k = pgA b k := fun k hk => by
          rw [lAt, pgA, List.append_assoc, List.getElem?_append_left (by omega)]
        have hd : ((pg4 b).1 ++ [((numGet (b.drop q4)).1 : Int)] ++ (pgR b).1).drop 5 = (pgR b).1 := by
          rw [List.drop_append_of_le_length (by simp; omega), List.drop_eq_nil_of_le (by simp; omega)]; rfl
        have hT : refGet (b.drop q5) = pgT b := by rw [ref_tok, pgT, k2]
        have hput : ∀ (he : (pgT b).err = 0), progPut (pgA b 0) (pgA b 1) (pgA b 2) (pgA b 3) (pgR b).1 (pgT b).pd (pgT b).wd (pgT b).mrk (pgT b).lg = b := fun he => by
          have hf : fours (pgA b 0) (pgA b 1) (pgA b 2) (pgA b 3) = (pg4 b).1 := by
            unfold pgA
            rcases e : (pg4 b).1 with _ | ⟨a, _ | ⟨a1, _ | ⟨a2, _ | ⟨a3, _ | ⟨a4, r⟩⟩⟩⟩⟩ <;> rw [e] at hlen <;> simp at hlen
            rfl
          have ht : tokPut (pgT b).pd (pgT b).wd (pgT b).mrk (pgT b).lg = (pgR b).2.1 := tok_back he
          have hpr : putAll (pgR b).1 ++ (pgR b).2.1 = b.drop (q4 + (numGet (b.drop q4)).2.1) := by rw [eR] at k1 ⊢; exact numsG_back _ _ k1
          have hpn : putN (pgR b).1.length ++ b.drop (q4 + (numGet (b.drop q4)).2.1) = b.drop q4 := by
            rw [hrl, ← List.drop_drop]; exact (put_get (l := b.drop q4) (by omega)).1
          have hp4 : putAll (pg4 b).1 ++ b.drop q4 = b := by rw [← h4b]; exact numsG_back 4 b h4c
          rw [progPut, hf, ht, List.append_assoc, List.append_assoc, hpr, hpn, hp4]
        rw [ref22G, eL]
        simp only
        rw [hk 0 (by omega), hk 1 (by omega), hk 2 (by omega), hk 3 (by omega), hd, hT]
        by_cases he : (pgT b).err = 0
        · cases hm : mayN (pgA b 0) (pgA b 1) (pgA b 2) (pgA b 3) (pgR b).1 (pgT b).pd (pgT b).wd (pgT b).mrk (pgT b).lg with
          | false => rw [if_pos (.inr rfl), progGet, if_neg (by simp [pgOk, hm])]
          | true => rw [if_neg (by simp [he]), progGet, if_pos (by simp [pgOk, hm, k1, he, hput he])]
        · rw [if_pos (.inl he), progGet, if_neg (by simp [pgOk, he])]
theorem ref22_bad0 {b : List UInt8} (h : refL b 10006 [] 0 = none) : ref22G b = progBad := by rw [ref22G, h]
theorem ref22_bad {b : List UInt8} {l : List Int} {p : Nat} {v0 v1 v2 v3 : Int} (h : refL b 10006 [] 0 = some (l, p)) (h0 : l[0]? = some v0) (h1 : l[1]? = some v1) (h2 : l[2]? = some v2) (h3 : l[3]? = some v3)
    (hb : (decide ((refGet (b.drop p)).err ≠ 0) || !(mayN v0 v1 v2 v3 (l.drop 5) (refGet (b.drop p)).pd (refGet (b.drop p)).wd (refGet (b.drop p)).mrk (refGet (b.drop p)).lg)) = true) : ref22G b = progBad := by
  rw [ref22G, h]; simp only [lAt, h0, h1, h2, h3, Option.getD_some]
  rw [if_pos]
  simpa using hb
theorem ref22_ok {b : List UInt8} {l : List Int} {p : Nat} {v0 v1 v2 v3 : Int} (h : refL b 10006 [] 0 = some (l, p)) (h0 : l[0]? = some v0) (h1 : l[1]? = some v1) (h2 : l[2]? = some v2) (h3 : l[3]? = some v3)
    (hb : (decide ((refGet (b.drop p)).err ≠ 0) || !(mayN v0 v1 v2 v3 (l.drop 5) (refGet (b.drop p)).pd (refGet (b.drop p)).wd (refGet (b.drop p)).mrk (refGet (b.drop p)).lg)) = false) : ref22G b = ⟨v0, v1, v2, v3, l.drop 5, refGet (b.drop p), 0⟩ := by
  rw [ref22G, h]; simp only [lAt, h0, h1, h2, h3, Option.getD_some]
  rw [if_neg]
  simpa using hb
def l4 (l : List Int) : Int := l[4]?.getD 0
theorem l4_some {l : List Int} {x : Int} (h : l[4]? = some x) : l4 l = x := by rw [l4, h]; rfl
theorem lead_next {l : List Int} {n : Nat} (h : 5 ≤ l.length → 0 ≤ l4 l ∧ l4 l ≤ 10000) (hn : l.length = 4 → n ≤ 10000) : 5 ≤ (l ++ [(n : Int)]).length → 0 ≤ l4 (l ++ [(n : Int)]) ∧ l4 (l ++ [(n : Int)]) ≤ 10000 := by
  intro h5
  rw [List.length_append, List.length_singleton] at h5
  by_cases h4 : l.length = 4
  · have e : l4 (l ++ [(n : Int)]) = n := l4_some (by rw [List.getElem?_append_right (by omega), h4]; rfl)
    have := hn h4
    rw [e]; omega
  · have e : l4 (l ++ [(n : Int)]) = l4 l := by rw [l4, List.getElem?_append_left (by omega)]; rfl
    rw [e]; exact h (by omega)
/-! ### What is read is bounded -/
theorem pgA_bnd (b : List UInt8) (k : Nat) : 0 ≤ pgA b k ∧ pgA b k ≤ 1099511627776 := by
  unfold pgA
  cases h : (pg4 b).1[k]? with
  | none => exact ⟨by decide, by decide⟩
  | some c => exact pg4_le b c (List.mem_of_getElem? h)
theorem pgR_len (b : List UInt8) : (pgR b).1.length ≤ 10000 := by rw [pgR, numsG_len]; exact pgN_le b
theorem progGet_bnd (b : List UInt8) : ((progGet b).ph < 9223372036854775808 ∧ (progGet b).fl < 9223372036854775808 ∧ (progGet b).of_ < 9223372036854775808 ∧ (progGet b).nx < 9223372036854775808) ∧ (∀ c ∈ (progGet b).rs, c < 9223372036854775808) ∧ (progGet b).rs.length ≤ 10000 ∧ (progGet b).tk.pd.length ≤ 32 ∧ (progGet b).tk.wd.length ≤ 32 ∧ ∀ c ∈ (progGet b).tk.wd, c < 4294967296 := by
  unfold progGet; split
  · have h0 := pgA_bnd b 0
    have h1 := pgA_bnd b 1
    have h2 := pgA_bnd b 2
    have h3 := pgA_bnd b 3
    refine ⟨⟨by simp only; omega, by simp only; omega, by simp only; omega, by simp only; omega⟩, fun c hc => ?_, pgR_len b, (by simp only [pgT]; exact tokGet_pd _), (by simp only [pgT]; exact tokGet_wd _), fun c hc => ?_⟩
    · have := numsG_le _ _ _ c (by simpa only [pgR] using hc); omega
    · have := tokGet_le _ c (by simpa only [pgT] using hc); omega
  · refine ⟨by decide, fun c hc => (by cases hc), by decide, by decide, by decide, fun c hc => (by cases hc)⟩
/-! ### What may be, and one run more -/
theorem runsOk_up {nx n2 : Int} (h : nx ≤ n2) : ∀ {p : Option Int} {l : List Int}, runsOk nx p l = true → runsOk n2 p l = true
  | _, [], _ => rfl
  | p, n :: r, hr => by
    simp only [runsOk, Bool.and_eq_true, decide_eq_true_eq] at hr ⊢
    exact ⟨⟨hr.1.1, by omega, hr.1.2.2⟩, runsOk_up h hr.2⟩
theorem runsOk_snoc {nx : Int} (h0 : 0 ≤ nx) : ∀ {p : Option Int} {l : List Int}, runsOk nx p l = true → (∀ q, p = some q → q < nx) → runsOk (nx + 1) p (l ++ [nx]) = true
  | p, [], _, hp => by
    simp only [List.nil_append, runsOk, Bool.and_eq_true, decide_eq_true_eq]
    refine ⟨⟨h0, by omega, ?_⟩, trivial⟩
    cases p with
    | none => rfl
    | some q => exact decide_eq_true (hp q rfl)
  | p, n :: r, hr, _ => by
    simp only [List.cons_append, runsOk, Bool.and_eq_true, decide_eq_true_eq] at hr ⊢
    exact ⟨⟨hr.1.1, by omega, hr.1.2.2⟩, runsOk_snoc h0 hr.2 fun q hq => by injection hq with hq; subst hq; exact hr.1.2.1⟩
theorem mayN_more {ph fl of_ nx : Int} {rs : List Int} {pd : List UInt8} {wd : List Int} {mk lg : Bool} (h : mayN ph fl of_ nx rs pd wd mk lg = true) (hl : rs.length ≤ 300) (hn : nx < 1099511627776) : mayN ph fl of_ (nx + 1) (rs ++ [nx]) pd wd mk lg = true := by
  obtain ⟨h4, hr, hph, _, hs⟩ := mayN_facts h
  have a0 := h4 ph (by simp [fours])
  have a1 := h4 fl (by simp [fours])
  have a2 := h4 of_ (by simp [fours])
  have a3 := h4 nx (by simp [fours])
  simp only [mayN, fours, List.all_cons, List.all_nil, in40, runsOk_snoc a3.1 hr (fun q hq => by cases hq), hs, Bool.and_eq_true, decide_eq_true_eq, List.length_append, List.length_singleton, and_true, true_and]
  refine ⟨⟨⟨by omega, by omega⟩, ⟨by omega, by omega⟩, ⟨by omega, by omega⟩, by omega, by omega⟩, by omega, by omega⟩
theorem mayN_later {ph fl of_ nx : Int} {rs : List Int} {pd : List UInt8} {wd : List Int} {mk lg : Bool} (h : mayN ph fl of_ nx rs pd wd mk lg = true) : mayN (ph + 1) 0 of_ nx rs pd wd mk lg = decide (ph < 2) := by
  obtain ⟨h4, hr, hph, hl, hs⟩ := mayN_facts h
  have a0 := h4 ph (by simp [fours])
  have a2 := h4 of_ (by simp [fours])
  have a3 := h4 nx (by simp [fours])
  have e : ∀ c : Int, 0 ≤ c ∧ c ≤ 1099511627776 → in40 c = true := fun c hc => by simp [in40, hc]
  simp only [mayN, fours, List.all_cons, List.all_nil, hr, hs, hl, e (ph + 1) (by omega), e 0 (by omega), e of_ a2, e nx a3, decide_true, Bool.true_and, Bool.and_true]
  exact decide_eq_decide.2 (by omega)
theorem less_more (ph fl of_ nx : Int) : lessL (fours ph fl of_ nx) (fours ph fl of_ (nx + 1)) = true := by
  simp only [fours]; rw [lessL_cons, lessL_cons, lessL_cons, lessL_cons]
  exact .inr ⟨rfl, .inr ⟨rfl, .inr ⟨rfl, .inl (by omega)⟩⟩⟩
theorem less_later (ph fl of_ nx f2 : Int) : lessL (fours ph fl of_ nx) (fours (ph + 1) f2 of_ nx) = true := by
  simp only [fours]; rw [lessL_cons]; exact .inl (by omega)
end Go.Proofs.YtndaogkpgoimlaaDoor

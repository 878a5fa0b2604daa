/- Runs' names: what they are, that unlike numbers have unlike ones. Plain laws; no program in sight. -/
import Derived.Test.YtndaogkpgoimlaaDoorJ1
namespace Go.Proofs.YtndaogkpgoimlaaDoor
open Go
theorem mk_add (a b : List UInt8) : (⟨a.toArray⟩ : ByteArray) ++ ⟨b.toArray⟩ = ⟨(a ++ b).toArray⟩ := by
  apply ByteArray.ext
  simp
theorem mk_inj {a b : List UInt8} (h : (⟨a.toArray⟩ : ByteArray) = ⟨b.toArray⟩) : a = b := by
  have : a.toArray = b.toArray := congrArg ByteArray.data h
  simpa using this
theorem mk_nil {a : List UInt8} : (⟨a.toArray⟩ : ByteArray) = ⟨#[]⟩ ↔ a = [] := ⟨fun h => mk_inj (b := []) h, fun h => by rw [h]⟩
def runB : List UInt8 := [114, 117, 110, 45]
def nameL (n : Int) : List UInt8 := runB ++ Lib.decDigits (max n 0).toNat
theorem nameN_eq (n : Int) : nameN n = ⟨(nameL n).toArray⟩ := by
  rw [nameN, nameL, ← mk_add, Lib.itoa, if_neg (by omega)]; rfl
theorem dec_lt {m : Nat} (h : m < 10) : Lib.decDigits m = [UInt8.ofNat (48 + m % 10)] := by rw [Lib.decDigits, dif_pos h, Nat.mod_eq_of_lt h]
theorem dec_step {N m : Nat} {acc : List UInt8} (h : Lib.decDigits N = Lib.decDigits m ++ acc) (hm : ¬ m < 10) : Lib.decDigits N = Lib.decDigits (m / 10) ++ (UInt8.ofNat (48 + m % 10) :: acc) := by
  rw [h, Lib.decDigits, dif_neg hm]; simp
theorem name_one {n : Int} {m : Nat} {acc : List UInt8} (h : Lib.decDigits (max n 0).toNat = Lib.decDigits m ++ acc) (hm : m < 10) : (⟨#[114, 117, 110, 45]⟩ : ByteArray) ++ ⟨(UInt8.ofNat (48 + m % 10) :: acc).toArray⟩ = nameN n := by
  rw [nameN_eq, nameL, h, dec_lt hm, show (⟨#[114, 117, 110, 45]⟩ : ByteArray) = ⟨runB.toArray⟩ from rfl, mk_add]; rfl
theorem name_two {n : Int} {m : Nat} {acc : List UInt8} (h : Lib.decDigits (max n 0).toNat = Lib.decDigits m ++ acc) (hm : m < 10) : ((⟨#[114, 117, 110, 45]⟩ : ByteArray) ++ ⟨([UInt8.ofNat (48 + m)] : List UInt8).toArray⟩) ++ ⟨acc.toArray⟩ = nameN n := by
  rw [nameN_eq, nameL, h, dec_lt hm, show (⟨#[114, 117, 110, 45]⟩ : ByteArray) = ⟨runB.toArray⟩ from rfl, mk_add, mk_add, Nat.mod_eq_of_lt hm]; simp
/-! ### Unlike numbers, unlike names -/
theorem dec_pos (u : Nat) : 0 < (Lib.decDigits u).length := by
  rw [Lib.decDigits]; split <;> simp
def digN (l : List UInt8) : Nat := l.foldl (fun n c => n * 10 + (c.toNat - 48)) 0
theorem digN_dec (u : Nat) : digN (Lib.decDigits u) = u := by
  induction u using Nat.strongRecOn with
  | ind u ih =>
    rw [Lib.decDigits]
    split
    · simp [digN]; omega
    · rename_i h
      have := ih (u / 10) (by omega)
      rw [digN] at this
      rw [digN, List.foldl_append, this]
      simp; omega
theorem dec_inj {u v : Nat} (h : Lib.decDigits u = Lib.decDigits v) : u = v := by rw [← digN_dec u, h, digN_dec]
theorem dec_char (u : Nat) : ∀ c ∈ Lib.decDigits u, 48 ≤ c.toNat ∧ c.toNat ≤ 57 := by
  induction u using Nat.strongRecOn with
  | ind u ih =>
    rw [Lib.decDigits]
    split
    · intro c hc; simp at hc; subst hc; simp; omega
    · rename_i h
      intro c hc
      rcases List.mem_append.1 hc with hc | hc
      · exact ih (u / 10) (by omega) c hc
      · simp at hc; subst hc; simp; omega
theorem dec_len : ∀ (f u : Nat), u < 10 ^ f → (Lib.decDigits u).length ≤ max f 1
  | 0, u, h => by
    rw [Lib.decDigits, dif_pos (by simp at h; omega)]; simp
  | f + 1, u, h => by
    rw [Lib.decDigits]
    split
    · simp
    · rename_i h2
      have := dec_len f (u / 10) (by rw [Nat.pow_succ] at h; omega)
      have h0 : f ≠ 0 := fun e => by subst e; simp at h; omega
      simp; omega
theorem name_inj {n m : Int} (h0 : 0 ≤ n) (h1 : 0 ≤ m) : nameN n = nameN m ↔ n = m := by
  constructor
  · intro h
    rw [nameN_eq, nameN_eq] at h
    have := dec_inj (List.append_cancel_left (mk_inj h))
    omega
  · rintro rfl; rfl
theorem name_size (n : Int) : (nameN n).size = 4 + (Lib.decDigits (max n 0).toNat).length := by rw [nameN_eq, sz_mk, nameL]; simp [runB]; omega
theorem name_short {n : Int} (h1 : n < 4294967296) : 5 ≤ (nameN n).size ∧ (nameN n).size ≤ 14 := by
  have h2 := dec_len 10 (max n 0).toNat (Nat.lt_of_lt_of_le (m := 4294967296) (by omega) (by decide))
  have h3 := dec_pos (max n 0).toNat
  rw [name_size]; omega
theorem name_char {n : Int} (i : Nat) (h : i < (nameN n).size) : ((97 ≤ ((nameN n)[i]'h).toNat ∧ ((nameN n)[i]'h).toNat ≤ 122) ∨ (48 ≤ ((nameN n)[i]'h).toNat ∧ ((nameN n)[i]'h).toNat ≤ 57)) ∨ ((nameN n)[i]'h).toNat = 45 := by
  have e : (nameN n)[i]'h ∈ nameL n := by
    have h2 : i < (nameL n).length := by rw [nameN_eq, sz_mk] at h; exact h
    have : (nameN n)[i]'h = (nameL n)[i]'h2 := by simp only [nameN_eq]; rfl
    rw [this]; exact List.getElem_mem h2
  rw [nameL] at e
  rcases List.mem_append.1 e with e | e
  · generalize (nameN n)[i]'h = c at e ⊢
    revert c; decide
  · exact .inl (.inr (dec_char _ _ e))
theorem name_pre (n : Int) : (nameN n).extract 0 4 = ⟨#[114, 117, 110, 45]⟩ := by
  rw [nameN_eq]
  apply ByteArray.ext
  simp [ByteArray.data_extract, nameL, runB]
end Go.Proofs.YtndaogkpgoimlaaDoor

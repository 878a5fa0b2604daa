/- Walks through the given program's functions, printed op by op by this session's own program; what each computes is told by the plain functions of the texts S... -/
import Derived.Test.YtndaogkpgoimlaaDoorB15
import Derived.Test.YtndaogkpgoimlaaDoorJ2
import Derived.KernelRfl
namespace Go.Proofs.YtndaogkpgoimlaaDoor
open Go Go.RowKit K
set_option linter.unusedVariables false

theorem ref22_Name (I : Snap) (L : List Ch) (W : World) (n : Int) (hh : Hp I L W)  (h1 : n < 9223372036854775808) :
    Calls Tryd.prog 22 #[.int .i64 n] W (Ret fun v W => v = .string (nameN n) ∧ Hp I (L) W) := by
  refine enter Tryd.func22 rfl Tryd.ntmps22 rfl fun a he => ?_
  refine sq ?_
  refine rg ?_
  refine asg rfl rfl he fun a he => ?_
  refine en ?_
  refine sq ?_
  refine sq ?_
  refine rg ?_
  refine mv rfl rfl he fun a he => ?_
  refine lt rfl rfl rfl he fun a he => ?_
  refine en ?_
  refine cutr (fun a w => Env 34 [(0, .int .i64 (((max n 0).toNat : Nat) : Int)), (2, .string (⟨#[]⟩)), (4, .int .i64 n), (5, .bool (decide (n < 0)))] a ∧ Hp I (L) w) ?_ fun a W hM => ?_
  · refine cnd he rfl (fun h1 => ?_) (fun h1 => ?_)
    · refine rg ?_
      refine asg rfl rfl he fun a he => ?_
      refine en ?_
      replace he := he.be (t := 0) (v' := .int .i64 (((max n 0).toNat : Nat) : Int)) rfl (by congr 1; omega)
      exact ⟨he.keep [0, 2, 4, 5] rfl, hh⟩
    · refine sk ?_
      refine nm_then ?_
      replace he := he.be (t := 0) (v' := .int .i64 (((max n 0).toNat : Nat) : Int)) rfl (by congr 1; omega)
      exact ⟨he.keep [0, 2, 4, 5] rfl, hh⟩
  obtain ⟨he, hh⟩ := hM
  refine nm_then ?_
  refine sq ?_
  refine rg ?_
  refine asg rfl rfl he fun a he => ?_
  refine en ?_
  refine sq ?_
  refine bk ?_
  refine lp (fun (s : Nat × List UInt8 × Nat) a w => match s with | (m, acc, f) => Env 34 [(0, .int .i64 ((m : Nat) : Int)), (3, .string (⟨acc.toArray⟩))] a ∧ Hp I (L) w ∧ Lib.decDigits (max n 0).toNat = Lib.decDigits m ++ acc ∧ m < 10 ^ f ∧ acc.length + f ≤ 20 ∧ m < 9223372036854775808)
      (fun s => s.1) ((max n 0).toNat, [], 19) ⟨he.keep [0, 3] rfl, hh, by simp, Nat.lt_of_lt_of_le (show (max n 0).toNat < 9223372036854775808 by omega) (by decide), by decide, by omega⟩ fun s a W hinv => ?_
  obtain ⟨m, acc, f⟩ := s
  obtain ⟨he, hh, hinv, hm, hl, hm2⟩ := hinv
  refine sq ?_
  refine sq ?_
  have hsz := sz_mk acc
  refine rg ?_
  refine mv rfl rfl he fun a he => ?_
  refine gt rfl rfl rfl he fun a he => ?_
  refine mv rfl rfl he fun a he => ?_
  refine jnl (fun a W => Env 34 [(0, .int .i64 ((m : Nat) : Int)), (3, .string (⟨acc.toArray⟩)), (11, .bool (decide (((9 : Int) < ((m : Nat) : Int)) ∨ ((⟨acc.toArray⟩ : ByteArray) = (⟨#[]⟩ : ByteArray)))))] a ∧ Hp I (L) W) 3 (fun a W hM => ?_) fun key3 => ?_
  · obtain ⟨he, hh⟩ := hM
    refine en ?_
    refine cnd he rfl (fun hc => ?_) (fun hc => ?_)
    · refine sk ?_
      refine nm_then ?_
      refine bk ?_
      refine sq ?_
      refine rg ?_
      refine mv rfl rfl he fun a he => ?_
      refine rm (((m % 10) : Nat) : Int) rfl rfl (by omega) (tmodN _ 10) rfl he fun a he => ?_
      refine ad (((48 + (m % 10)) : Nat) : Int) rfl rfl (w64 (by omega) (by omega)) rfl he fun a he => ?_
      refine ci (((48 + (m % 10)) : Nat) : Int) .u8 ud_3 Tryd.underlying5 rfl (wu8 (by omega) (by omega)) rfl he fun a he => ?_
      refine bsl [(0, .int .u8 (((48 + (m % 10)) : Nat) : Int))] [.int .u8 (((48 + (m % 10)) : Nat) : Int)] ts_23 rfl rfl rfl rfl rfl rfl rfl he hh fun bb4 a W he hh => ?_
      replace hh := hh.re (n' := ([UInt8.ofNat (48 + m % 10)]).length) (cs' := (([UInt8.ofNat (48 + m % 10)]).map b8)) (by rfl) (by simp [b8]; omega)
      replace he := he.be (t := 16) (v' := .slice (some ⟨bb4, 0, none⟩) ([UInt8.ofNat (48 + m % 10)]).length 1) rfl (by congr 1 <;> rfl)
      refine cvbs ([UInt8.ofNat (48 + m % 10)] : List UInt8) Tryd.underlying23 Tryd.underlying5 Tryd.underlying9 rfl (Ch.rd hh.at0) (by simp) rfl he fun a he => ?_
      refine mv rfl rfl he fun a he => ?_
      refine sad rfl rfl (by rw [sz_mk]; simp; omega) rfl he fun a he => ?_
      replace he := he.be (t := 19) (v' := .string ⟨(UInt8.ofNat (48 + m % 10) :: acc).toArray⟩) rfl (by rw [mk_add]; rfl)
      refine asg rfl rfl he fun a he => ?_
      refine en ?_
      refine sq ?_
      refine sq ?_
      refine rg ?_
      refine mv rfl rfl he fun a he => ?_
      refine lt rfl rfl rfl he fun a he => ?_
      refine en ?_
      refine cnd he rfl (fun h5 => ?_) (fun h5 => ?_)
      · replace h5 : m < 10 := by omega
        refine sq ?_
        refine rg ?_
        refine mv rfl rfl he fun a he => ?_
        refine sad rfl rfl (by rw [sz_mk]; simp [ByteArray.size]; omega) rfl he fun a he => ?_
        refine asg rfl rfl he fun a he => ?_
        refine en ?_
        refine rt ?_
        refine rets1 Tryd.results22 he rfl (Ret.mk ?_)
        replace hh := hh.drop
        exact ⟨by rw [name_one hinv (by omega)], hh⟩
      · replace h5 : ¬ (m < 10) := by omega
        refine sk ?_
        refine nm_then ?_
        refine rg ?_
        refine mv rfl rfl he fun a he => ?_
        refine dv (((m / 10) : Nat) : Int) rfl rfl (by omega) ((congrArg IntKind.i64.wrap (tdivN m 10)).trans (w64 (by omega) rfl)) rfl he fun a he => ?_
        refine asg rfl rfl he fun a he => ?_
        refine en_blk ?_
        refine nm_then ?_
        replace hh := hh.drop
        have hb := dec_step hinv (by omega)
        obtain ⟨k, rfl⟩ : ∃ k, f = k + 1 := ⟨f - 1, by rcases f with _ | f; simp at hm; omega; omega⟩
        rw [Nat.pow_succ] at hm
        exact ⟨(m / 10, UInt8.ofNat (48 + m % 10) :: acc, k), ⟨he.keep [0, 3] rfl, hh, hb, by omega, by simp at hl ⊢; omega, by omega⟩, by show m / 10 < m; omega⟩
    · refine ext ?_
      refine ex_then ?_
      refine ex_then ?_
      refine ex_in ?_
      refine nm_then ?_
      refine sq ?_
      refine rg ?_
      refine mv rfl rfl he fun a he => ?_
      refine ad (((48 + m) : Nat) : Int) rfl rfl (w64 (by omega) (by omega)) rfl he fun a he => ?_
      refine ci (((48 + m) : Nat) : Int) .u8 ud_3 Tryd.underlying5 rfl (wu8 (by omega) (by omega)) rfl he fun a he => ?_
      refine bsl [(0, .int .u8 (((48 + m) : Nat) : Int))] [.int .u8 (((48 + m) : Nat) : Int)] ts_23 rfl rfl rfl rfl rfl rfl rfl he hh fun bb6 a W he hh => ?_
      replace hh := hh.re (n' := ([UInt8.ofNat (48 + m)]).length) (cs' := (([UInt8.ofNat (48 + m)]).map b8)) (by rfl) (by simp [b8]; omega)
      replace he := he.be (t := 29) (v' := .slice (some ⟨bb6, 0, none⟩) ([UInt8.ofNat (48 + m)]).length 1) rfl (by congr 1 <;> rfl)
      refine cvbs ([UInt8.ofNat (48 + m)] : List UInt8) Tryd.underlying23 Tryd.underlying5 Tryd.underlying9 rfl (Ch.rd hh.at0) (by simp) rfl he fun a he => ?_
      refine sad rfl rfl (by rw [sz_mk]; simp [ByteArray.size]) rfl he fun a he => ?_
      refine mv rfl rfl he fun a he => ?_
      refine sad rfl rfl (by simp [ByteArray.size]; omega) rfl he fun a he => ?_
      refine asg rfl rfl he fun a he => ?_
      refine en ?_
      refine rt ?_
      refine rets1 Tryd.results22 he rfl (Ret.mk ?_)
      replace hh := hh.drop
      exact ⟨by rw [name_two hinv (by omega)], hh⟩
  refine sd he (t := 8) rfl (fun h7 he => ?_) (fun h7 he => ?_)
  · have hk8 := h7
    replace h7 : 9 < m := by omega
    refine gn rfl rfl he rfl rfl fun a he => ?_
    refine gn rfl rfl he rfl rfl fun a he => ?_
    refine pkt rfl rfl rfl he fun a he => ?_
    replace he := he.be (t := 11) (v' := .bool (decide (((9 : Int) < ((m : Nat) : Int)) ∨ ((⟨acc.toArray⟩ : ByteArray) = (⟨#[]⟩ : ByteArray))))) rfl (jod_t hk8)
    exact key3 _ _ ⟨he.keep [0, 3, 11] rfl, hh⟩
  · have hk8 := h7
    replace h7 : ¬ (9 < m) := by omega
    refine gy rfl he rfl ?_
    refine mv rfl rfl he fun a he => ?_
    refine gy rfl he rfl ?_
    refine seq' rfl rfl rfl he fun a he => ?_
    refine pkf rfl rfl rfl he fun a he => ?_
    replace he := he.be (t := 11) (v' := .bool (decide (((9 : Int) < ((m : Nat) : Int)) ∨ ((⟨acc.toArray⟩ : ByteArray) = (⟨#[]⟩ : ByteArray))))) rfl (jod_f hk8)
    exact key3 _ _ ⟨he.keep [0, 3, 11] rfl, hh⟩

end Go.Proofs.YtndaogkpgoimlaaDoor

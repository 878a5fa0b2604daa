/- Walks through the given program's functions, printed op by op by this session's own program; what each computes is told by the plain functions of the texts S... -/
import Derived.Test.YtndaogkpgoimlaaDoorB10
import Derived.Test.YtndaogkpgoimlaaDoorJ1
import Derived.KernelRfl
namespace Go.Proofs.YtndaogkpgoimlaaDoor
open Go Go.RowKit K
set_option linter.unusedVariables false
theorem cb_33 : callable Tryd.prog 33 = true := by kernel_rfl
theorem prog_Name (I : Snap) (L : List Ch) (W : World) (n : Int) (hh : Hp I L W)  (h1 : n < 9223372036854775808) (ht : n < 100 ∨ powTab I) :
    Calls Tryd.prog 16 #[.int .i64 n] W (Ret fun v W => v = .string (nameN n) ∧ Hp I (L) W) := by
  refine enter Tryd.func16 rfl Tryd.ntmps16 rfl fun a he => ?_
  refine sq ?_
  refine rg ?_
  refine asg rfl rfl he fun a he => ?_
  refine en ?_
  refine sq ?_
  refine rg ?_
  refine mv rfl rfl he fun a he => ?_
  refine mx (max n 0) rfl rfl (by split <;> omega) rfl he fun a he => ?_
  refine cal cb_33 rfl (lib_Itoa _ _ _ (max n 0) hh (by omega) (by omega) (by rcases ht with q | q; exact .inl (by omega); exact .inr q)) rfl he fun v a W hp he => ?_
  obtain ⟨rfl, hh⟩ := hp
  refine sad rfl rfl (by have hz := Lib.itoa_length_le (max n 0) (by omega) (by omega); have e1 : (⟨(Lib.itoa (max n 0)).toArray⟩ : ByteArray).size = (Lib.itoa (max n 0)).length := sz_mk _; have e2 : (⟨#[114, 117, 110, 45]⟩ : ByteArray).size = 4 := rfl; omega) rfl he fun a he => ?_
  refine asg rfl rfl he fun a he => ?_
  refine en ?_
  refine rt ?_
  refine rets1 Tryd.results16 he rfl (Ret.mk ?_)
  exact ⟨rfl, hh⟩

end Go.Proofs.YtndaogkpgoimlaaDoor

/- What the listed package variables give a walk, and a world that meets the rows' conditions on them. -/
import Derived.Test.YtndaogkpgoimlaaDoorR1
import Derived.Test.YtndaogkpgoimlaaDoorJ1
import Derived.Test.YtndaogkpgoimlaaDoorRows
import Derived.Test.YtndaogkpgoimlaaDoorTie
import Derived.Lib.LaidTab
import Derived.Lib.LaidIn
import Derived.LaidLaws
import Derived.Stop.Joined
import Derived.ProofKit
import Derived.KernelRfl
namespace Go.Proofs.YtndaogkpgoimlaaDoor
open Go Go.RowKit Go.ChangeShapes Go.WideShapes Go.ChangeAt K
set_option linter.unusedVariables false
def laids : List (String × DataW Unit) := [("math/bits.deBruijn32tab", Rows.laid_math_bits_deBruijn32tab), ("math/bits.deBruijn64tab", Rows.laid_math_bits_deBruijn64tab), ("internal/strconv.uint64pow10", Rows.laid_internal_strconv_uint64pow10)]
theorem pow_of_laid {W : World} (h : laidMetH Tryd.prog laids W) : powTab (snap W) := by
  have h' : laidMet Tryd.prog laids W := h
  obtain ⟨ps, h1, _, _⟩ := h'
  obtain ⟨_, _, _, _, _, _, _, _, _, _, h2, _⟩ := h1
  obtain ⟨_, _, _, _, _, _, _, _, _, _, h3, _⟩ := h2
  obtain ⟨g', t', cs, fuel, p, q, hg', ht', hvar, hd, _, _⟩ := h3
  have hg : Tryd.prog.globalNamed "internal/strconv.uint64pow10" = some 0 := by kernel_rfl
  have hty : (Tryd.prog.globals[0]?).map (·.type) = some 95 := by kernel_rfl
  obtain rfl := Option.some.inj (hg.symm.trans hg')
  obtain rfl := Option.some.inj (hty.symm.trans ht')
  have hc : cs.toList = Lib.pow10Tab.map fun z => Value.int .u64 z := Lib.cells_of_tab (zs := Lib.pow10Tab) Tryd.underlying95 Tryd.underlying55 (by kernel_rfl) (by kernel_rfl) hd
  unfold World.var? at hvar
  rw [hg] at hvar
  simp only [Option.bind_some] at hvar
  split at hvar
  · rename_i c t f hb
    injection hvar with hvar
    exact ⟨0, t, f, hg, by show W.heap[0]? = _; rw [hb, hvar, ← hc]⟩
  · cases hvar
def cells_math_bits_deBruijn32tab : Array Value := ([0, 1, 28, 2, 29, 14, 24, 3, 30, 22, 20, 15, 25, 17, 4, 8, 31, 27, 13, 23, 21, 19, 16, 7, 26, 12, 18, 6, 11, 5, 10, 9].map fun z => Value.int .u8 z).toArray
def cells_math_bits_deBruijn64tab : Array Value := ([0, 1, 56, 2, 57, 49, 28, 3, 61, 58, 42, 50, 38, 29, 17, 4, 62, 47, 59, 36, 45, 43, 51, 22, 53, 39, 33, 30, 24, 18, 12, 5, 63, 55, 48, 27, 60, 41, 37, 16, 46, 35, 44, 21, 52, 32, 23, 11, 54, 26, 40, 15, 34, 20, 31, 10, 25, 14, 19, 9, 13, 8, 7, 6].map fun z => Value.int .u8 z).toArray
def cells_internal_strconv_uint64pow10 : Array Value := ([1, 10, 100, 1000, 10000, 100000, 1000000, 10000000, 100000000, 1000000000, 10000000000, 100000000000, 1000000000000, 10000000000000, 100000000000000, 1000000000000000, 10000000000000000, 100000000000000000, 1000000000000000000, 10000000000000000000].map fun z => Value.int .u64 z).toArray
/-- A world that meets the conditions: the settled one, the tables laid. -/
noncomputable def laidWorld (os : Os) : World :=
  let w0 := World.holding Tryd.prog os ⟨#[], #[], []⟩
  { w0 with heap := (((w0.heap).modify 1 fun | .cells _ t frozen => .cells cells_math_bits_deBruijn32tab t frozen | o => o).modify 2 fun | .cells _ t frozen => .cells cells_math_bits_deBruijn64tab t frozen | o => o).modify 0 fun | .cells _ t frozen => .cells cells_internal_strconv_uint64pow10 t frozen | o => o }
theorem laidWorld_met (os : Os) (args : Array Value) : laidMetH Tryd.prog laids ((laidWorld os).forCall (fun _ _ => 0) ⟨#[], args, []⟩).memory :=
  (LaidIn.of_run [0, 1, 2] 80 (by kernel_rfl) (by kernel_rfl) (by kernel_rfl) (by kernel_rfl)).met
end Go.Proofs.YtndaogkpgoimlaaDoor

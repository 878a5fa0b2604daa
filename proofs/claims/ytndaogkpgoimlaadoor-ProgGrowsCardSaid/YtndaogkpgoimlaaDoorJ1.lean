/- The library's contract for decimal numerals, in the walks' words. Holds for the given program; where a number of a hundred or more is told, the library's table lies as its text lays it. -/
import Derived.Test.YtndaogkpgoimlaaDoorK8
import Derived.Test.YtndaogkpgoimlaaDoorShelf
import Derived.Lib.AppendIntMem
import Derived.Lib.ItoaLen
import Derived.Test.YtndaogkpgoimlaaDoorS1
namespace Go.Proofs.YtndaogkpgoimlaaDoor
open Go Go.RowKit K
/-- The library's table of powers of ten lies frozen. -/
def powTab (I : Snap) : Prop := ∃ g e f, Tryd.prog.globalNamed "internal/strconv.uint64pow10" = some g ∧ I.blk g = some (.cells (Lib.pow10Tab.map fun z => Value.int .u64 z).toArray e f)
theorem powTab.up {I I' : Snap} (h : powTab I) (hle : I.le I') : powTab I' := by
  obtain ⟨g, e, f, h1, h2⟩ := h
  exact ⟨g, e, f, h1, hle.blk _ _ h2⟩
def nameN (n : Int) : ByteArray := (⟨#[114, 117, 110, 45]⟩ : ByteArray) ++ ⟨(Lib.itoa (max n 0)).toArray⟩
theorem lib_Itoa (I : Snap) (L : List Ch) (W : World) (x : Int) (hh : Hp I L W) (h0 : 0 ≤ x) (h1 : x < 9223372036854775808) (ht : x < 100 ∨ powTab I) :
    Calls Tryd.prog 33 #[.int .i64 x] W (Ret fun v W => v = .string (⟨(Lib.itoa x).toArray⟩) ∧ Hp I L W) := by
  rcases ht with ht | ⟨g, e, f, hg, hb⟩
  · have hx : x = ((x.toNat : Nat) : Int) := by omega
    have hi : Lib.itoa x = Lib.decDigits x.toNat := by rw [Lib.itoa, if_neg (by omega)]
    rw [hi]
    have := Tryd.strconv_Itoa_small x.toNat (by omega) W
    rw [← hx] at this
    exact this.mono fun e w' ⟨he, hw⟩ => ⟨_, he, rfl, by subst hw; exact hh⟩
  · refine (Tryd.strconv_Itoa x (by omega) (by omega) W ?_).mono fun e w' ⟨he, k, os, hw⟩ => ⟨_, he, rfl, by subst hw; exact hh.below (Lib.below_grow _ W (Nat.le_refl _) k os)⟩
    have := hh.imm g _ hb
    unfold Lib.TabIs World.var?
    simp [hg, this]
end Go.Proofs.YtndaogkpgoimlaaDoor

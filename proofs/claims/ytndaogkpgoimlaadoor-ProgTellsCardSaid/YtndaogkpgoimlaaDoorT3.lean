/- Numbers that a row reads, for the laws of names. -/
import Derived.Test.YtndaogkpgoimlaaDoorB18
namespace Go.Proofs.YtndaogkpgoimlaaDoor
open Go Go.RowKit K
theorem int_lt {x : Int} (h : (Lit.int .i64 x).wf = true) : x < 9223372036854775808 := by
  simp [Lit.wf, IntKind.min, IntKind.max, IntKind.signed, IntKind.bits] at h; omega
theorem names2 {I : Snap} {L : List Ch} {W : World} (a b : Int) (ha : (Lit.int .u32 a).wf = true) (hb : (Lit.int .u32 b).wf = true) (hh : Hp I L W) (hp : powTab I) :
    Calls Tryd.prog 4 #[.int .u32 a, .int .u32 b] W (Ret fun v W => ∃ (I' : Snap), v = .bool true ∧ I.le I' ∧ Hp I' L W) := by
  simp [Lit.wf, IntKind.min, IntKind.max, IntKind.signed, IntKind.bits] at ha hb
  obtain ⟨n, rfl⟩ : ∃ n : Nat, a = n := ⟨a.toNat, by omega⟩
  obtain ⟨m, rfl⟩ : ∃ m : Nat, b = m := ⟨b.toNat, by omega⟩
  exact law_ProgNames I L W n m hh (by omega) (by omega) hp
end Go.Proofs.YtndaogkpgoimlaaDoor

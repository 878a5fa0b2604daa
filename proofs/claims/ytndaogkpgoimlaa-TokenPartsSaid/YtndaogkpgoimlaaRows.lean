/-
  No cell of these rows narrows 'for every input' (looked for: loops, veiled, ifaces, maps, wideKeys, modest, calm, conditions, laid).
  DERIVED. THE GIVEN ROWS OF THIS SEAT. 3 by the template 'for every input the law returns true; each argument reads behind the call as it read before'; 0 by the template 'total and deterministic' (their statements: YtndaogkpgoimlaaTotals.lean).
  GIVEN WITH THE SEED: the statements are not yours to turn. If you find one false, say at which input.
  Laid BY PROGRAM, IN A SANDBOX (cutbox-rows.mjs): the forced cells as the released guide's own fill.sh prints them over the translation ae4711fad89666de… (all of the seat's roots in one cut). By AI agents, Wed Nov 11 2026. No macro, syntax, notation, axiom, sorry.
-/
import Derived.Test.YtndaogkpgoimlaaChecked
import GoSem.Claim
import GoSem.ClaimJoined
import GoSem.ClaimMapViews
import Derived.JoinedTies
import Derived.KernelRfl
namespace Go.Proofs.Ytndaogkpgoimlaa
/- THE CELL 'sum', in the pinned program and in every row, IS THE sha256 OF THE DUMP (.gsa) THAT YtndaogkpgoimlaaProg.lean LOADS. Nothing in Lean hashes anything: it is a label: what it is worth is what the hold of that sum in a sandbox is worth. -/
noncomputable def Try.pinned : Pinned := { name := "ytndaogkpgoimlaa", sum := "ae4711fad89666ded11a2d163cca4d5890aaf6f320c2597500876d5dce224059", checked := Try.checked }
namespace Rows
def none {H : Type} : Left H := { results := [], args := [] }

/-- 'manteletlaw07.TokenStates': WHATEVER THE INPUT: true; the input reads as it did. -/
def tokenStatesSpec : ChangeSpec := { name := "tokenStates", fn := fun _ => fun
  | [d1, d2] => { results := [.lit (.bool true)], args := [d1, d2] }
  | _ => none }
def tokenStatesRow : OpenClaim := { program := "ytndaogkpgoimlaa", sum := "ae4711fad89666ded11a2d163cca4d5890aaf6f320c2597500876d5dce224059", func := "mantelet/manteletlaw07.TokenStates", spec := "tokenStates", unfollowed := true, recurses := true, apart := false }
def TokenStatesSaid : Prop := tokenStatesRow.holds Try.pinned (OpenSpec.ofChange tokenStatesSpec)

/-- ITS FALSE NEIGHBOUR: 'it returns false'. Refute it at one input. -/
def tokenStatesWrong : ChangeSpec := { name := "tokenStates", fn := fun _ => fun
  | [d1, d2] => { results := [.lit (.bool false)], args := [d1, d2] }
  | _ => none }
def TokenStatesWrongFalsely : Prop := tokenStatesRow.holds Try.pinned (OpenSpec.ofChange tokenStatesWrong)

/-- 'manteletlaw07.TokenBack': WHATEVER THE INPUT: true; the input reads as it did. -/
def tokenBackSpec : ChangeSpec := { name := "tokenBack", fn := fun _ => fun
  | [d] => { results := [.lit (.bool true)], args := [d] }
  | _ => none }
def tokenBackRow : OpenClaim := { program := "ytndaogkpgoimlaa", sum := "ae4711fad89666ded11a2d163cca4d5890aaf6f320c2597500876d5dce224059", func := "mantelet/manteletlaw07.TokenBack", spec := "tokenBack", unfollowed := true, recurses := true, apart := false }
def TokenBackSaid : Prop := tokenBackRow.holds Try.pinned (OpenSpec.ofChange tokenBackSpec)

/-- ITS FALSE NEIGHBOUR: 'it returns false'. Refute it at one input. -/
def tokenBackWrong : ChangeSpec := { name := "tokenBack", fn := fun _ => fun
  | [d] => { results := [.lit (.bool false)], args := [d] }
  | _ => none }
def TokenBackWrongFalsely : Prop := tokenBackRow.holds Try.pinned (OpenSpec.ofChange tokenBackWrong)

/-- 'manteletlaw07.TokenParts': WHATEVER THE INPUT: true; the input reads as it did. -/
def tokenPartsSpec : ChangeSpec := { name := "tokenParts", fn := fun _ => fun
  | [d] => { results := [.lit (.bool true)], args := [d] }
  | _ => none }
def tokenPartsRow : OpenClaim := { program := "ytndaogkpgoimlaa", sum := "ae4711fad89666ded11a2d163cca4d5890aaf6f320c2597500876d5dce224059", func := "mantelet/manteletlaw07.TokenParts", spec := "tokenParts", unfollowed := true, recurses := true, apart := false }
def TokenPartsSaid : Prop := tokenPartsRow.holds Try.pinned (OpenSpec.ofChange tokenPartsSpec)

/-- ITS FALSE NEIGHBOUR: 'it returns false'. Refute it at one input. -/
def tokenPartsWrong : ChangeSpec := { name := "tokenParts", fn := fun _ => fun
  | [d] => { results := [.lit (.bool false)], args := [d] }
  | _ => none }
def TokenPartsWrongFalsely : Prop := tokenPartsRow.holds Try.pinned (OpenSpec.ofChange tokenPartsWrong)

/- THE SECOND FORM. 'bulk': how many values and letters a reading holds, each counted each time it is reached (what is shared counts as often as it is met; a slice's spare places count too). A statement '..UptoSaid' is the law's where the arguments, and the package variables that the reading takes, are together of bulk at most 1048576: NARROWER than '..Said'. Prove '..Said' where nothing that the law and all that it calls make is longer than what came in: it says more and counts as full. Else prove '..UptoSaid'. A law counts once. -/
mutual
def uptoBulk {H : Type} : DataW H → Nat
  | .lit (.string bytes) => bytes.length + 1
  | .lit _ => 1
  | .nil => 1
  | .ptr d => uptoBulk d + 1
  | .slice elems spare => uptoBulkAll elems + uptoBulkAll spare + 1
  | .agg parts => uptoBulkAll parts + 1
  | .iface _ d => uptoBulk d + 1
  | .map entries => uptoBulkEntries entries + 1
  | .held _ => 1
def uptoBulkAll {H : Type} : List (DataW H) → Nat
  | [] => 0
  | d :: r => uptoBulk d + uptoBulkAll r
def uptoBulkEntries {H : Type} : List (Lit × DataW H) → Nat
  | [] => 0
  | x :: r => uptoBulkEntry x + uptoBulkEntries r
def uptoBulkEntry {H : Type} : Lit × DataW H → Nat
  | (.string bytes, d) => bytes.length + uptoBulk d + 1
  | (_, d) => uptoBulk d + 1
 end
def uptoSmall : (H : Type) → List (DataW H) → Bool := fun _ ds => decide (uptoBulkAll ds ≤ 1048576)
def OpenSpec.upto (s : _root_.Go.ChangeSpec) : _root_.Go.OpenSpec := { _root_.Go.OpenSpec.ofChange s with cond := some uptoSmall }

/-- 'manteletlaw07.TokenStates', WHERE WHAT IT READS IS OF BULK AT MOST 1048576: true; the input reads as it did. -/
def tokenStatesUptoRow : OpenClaim := { program := "ytndaogkpgoimlaa", sum := "ae4711fad89666ded11a2d163cca4d5890aaf6f320c2597500876d5dce224059", func := "mantelet/manteletlaw07.TokenStates", spec := "tokenStates", unfollowed := true, recurses := true, apart := false, narrowed := true }
def TokenStatesUptoSaid : Prop := tokenStatesUptoRow.holds Try.pinned (OpenSpec.upto tokenStatesSpec)

/-- 'manteletlaw07.TokenBack', WHERE WHAT IT READS IS OF BULK AT MOST 1048576: true; the input reads as it did. -/
def tokenBackUptoRow : OpenClaim := { program := "ytndaogkpgoimlaa", sum := "ae4711fad89666ded11a2d163cca4d5890aaf6f320c2597500876d5dce224059", func := "mantelet/manteletlaw07.TokenBack", spec := "tokenBack", unfollowed := true, recurses := true, apart := false, narrowed := true }
def TokenBackUptoSaid : Prop := tokenBackUptoRow.holds Try.pinned (OpenSpec.upto tokenBackSpec)

/-- 'manteletlaw07.TokenParts', WHERE WHAT IT READS IS OF BULK AT MOST 1048576: true; the input reads as it did. -/
def tokenPartsUptoRow : OpenClaim := { program := "ytndaogkpgoimlaa", sum := "ae4711fad89666ded11a2d163cca4d5890aaf6f320c2597500876d5dce224059", func := "mantelet/manteletlaw07.TokenParts", spec := "tokenParts", unfollowed := true, recurses := true, apart := false, narrowed := true }
def TokenPartsUptoSaid : Prop := tokenPartsUptoRow.holds Try.pinned (OpenSpec.upto tokenPartsSpec)

end Rows
end Go.Proofs.Ytndaogkpgoimlaa

/-
  No cell of these rows narrows 'for every input' (looked for: loops, veiled, ifaces, maps, wideKeys, modest, calm, conditions, laid).
  DERIVED. THE GIVEN ROWS OF THIS SEAT. 3 by the template 'for every input the law returns true; each argument reads behind the call as it read before'; 0 by the template 'total and deterministic' (their statements: YtknpcflejohnoaaGreatTotals.lean).
  GIVEN WITH THE SEED: the statements are not yours to turn. If you find one false, say at which input.
  Laid BY PROGRAM, IN A SANDBOX (cutbox-rows.mjs): the forced cells as the released guide's own fill.sh prints them over the translation 2630e43c6c53acfd… (all of the seat's roots in one cut). By AI agents, Wed Nov 11 2026. No macro, syntax, notation, axiom, sorry.
-/
import Derived.Test.YtknpcflejohnoaaGreatChecked
import GoSem.Claim
import GoSem.ClaimJoined
import GoSem.ClaimMapViews
import Derived.JoinedTies
import Derived.KernelRfl
namespace Go.Proofs.YtknpcflejohnoaaGreat
/- THE CELL 'sum', in the pinned program and in every row, IS THE sha256 OF THE DUMP (.gsa) THAT YtknpcflejohnoaaGreatProg.lean LOADS. Nothing in Lean hashes anything: it is a label: what it is worth is what the hold of that sum in a sandbox is worth. -/
noncomputable def Tryz.pinned : Pinned := { name := "ytknpcflejohnoaagreat", sum := "2630e43c6c53acfd0e73552e3a0c377c81a8feca3844809f389ed93e7deedc4c", checked := Tryz.checked }
namespace Rows
def none {H : Type} : Left H := { results := [], args := [] }

/-- 'pagemendlaw17.RedoGaps': WHATEVER THE INPUT: true; the input reads as it did. -/
def redoGapsSpec : ChangeSpec := { name := "redoGaps", fn := fun _ => fun
  | [d1, d2] => { results := [.lit (.bool true)], args := [d1, d2] }
  | _ => none }
def redoGapsRow : OpenClaim := { program := "ytknpcflejohnoaagreat", sum := "2630e43c6c53acfd0e73552e3a0c377c81a8feca3844809f389ed93e7deedc4c", func := "pagemend/pagemendlaw17.RedoGaps", spec := "redoGaps", inPlace := ["internal/abi.NoEscape", "internal/bytealg.MakeNoZero"], unfollowed := true, recurses := true, apart := false }
def RedoGapsSaid : Prop := redoGapsRow.holds Tryz.pinned (OpenSpec.ofChange redoGapsSpec)

/-- ITS FALSE NEIGHBOUR: 'it returns false'. Refute it at one input. -/
def redoGapsWrong : ChangeSpec := { name := "redoGaps", fn := fun _ => fun
  | [d1, d2] => { results := [.lit (.bool false)], args := [d1, d2] }
  | _ => none }
def RedoGapsWrongFalsely : Prop := redoGapsRow.holds Tryz.pinned (OpenSpec.ofChange redoGapsWrong)

/-- 'pagemendlaw17.RedoExact': WHATEVER THE INPUT: true; the input reads as it did. -/
def redoExactSpec : ChangeSpec := { name := "redoExact", fn := fun _ => fun
  | [d1, d2, d3, d4] => { results := [.lit (.bool true)], args := [d1, d2, d3, d4] }
  | _ => none }
def redoExactRow : OpenClaim := { program := "ytknpcflejohnoaagreat", sum := "2630e43c6c53acfd0e73552e3a0c377c81a8feca3844809f389ed93e7deedc4c", func := "pagemend/pagemendlaw17.RedoExact", spec := "redoExact", inPlace := ["internal/abi.NoEscape", "internal/bytealg.MakeNoZero"], unfollowed := true, recurses := true, apart := false }
def RedoExactSaid : Prop := redoExactRow.holds Tryz.pinned (OpenSpec.ofChange redoExactSpec)

/-- ITS FALSE NEIGHBOUR: 'it returns false'. Refute it at one input. -/
def redoExactWrong : ChangeSpec := { name := "redoExact", fn := fun _ => fun
  | [d1, d2, d3, d4] => { results := [.lit (.bool false)], args := [d1, d2, d3, d4] }
  | _ => none }
def RedoExactWrongFalsely : Prop := redoExactRow.holds Tryz.pinned (OpenSpec.ofChange redoExactWrong)

/-- 'pagemendlaw17.RedoParts': WHATEVER THE INPUT: true; the input reads as it did. -/
def redoPartsSpec : ChangeSpec := { name := "redoParts", fn := fun _ => fun
  | [d1, d2, d3] => { results := [.lit (.bool true)], args := [d1, d2, d3] }
  | _ => none }
def redoPartsRow : OpenClaim := { program := "ytknpcflejohnoaagreat", sum := "2630e43c6c53acfd0e73552e3a0c377c81a8feca3844809f389ed93e7deedc4c", func := "pagemend/pagemendlaw17.RedoParts", spec := "redoParts", inPlace := ["internal/abi.NoEscape", "internal/bytealg.MakeNoZero"], unfollowed := true, recurses := true, apart := false }
def RedoPartsSaid : Prop := redoPartsRow.holds Tryz.pinned (OpenSpec.ofChange redoPartsSpec)

/-- ITS FALSE NEIGHBOUR: 'it returns false'. Refute it at one input. -/
def redoPartsWrong : ChangeSpec := { name := "redoParts", fn := fun _ => fun
  | [d1, d2, d3] => { results := [.lit (.bool false)], args := [d1, d2, d3] }
  | _ => none }
def RedoPartsWrongFalsely : Prop := redoPartsRow.holds Tryz.pinned (OpenSpec.ofChange redoPartsWrong)

/- THE SECOND FORM. 'bulk': how many values and letters a reading holds, each counted each time it is reached (what is shared counts as often as it is met; a slice's spare places count too). A statement '..UptoSaid' is the law's where the arguments, and the package variables that the reading takes, are together of bulk at most 1048576: NARROWER than '..Said'. Prove '..Said' where nothing that the law and all that it calls make is longer than what came in: it says more and counts as full. Else prove '..UptoSaid'. A law counts once. -/
mutual
def uptoBulk {H : Type} : DataW H → Nat
  | .lit (.string bytes) => bytes.length + 1
  | .lit _ => 1
  | .nil => 1
  | .ptr d => uptoBulk d + 1
  | .slice elems spare => uptoBulkAll elems + uptoBulkAll spare + 1
  | .agg parts => uptoBulkAll parts + 1
  | .iface _ d => uptoBulk d + 1
  | .map entries => uptoBulkEntries entries + 1
  | .held _ => 1
def uptoBulkAll {H : Type} : List (DataW H) → Nat
  | [] => 0
  | d :: r => uptoBulk d + uptoBulkAll r
def uptoBulkEntries {H : Type} : List (Lit × DataW H) → Nat
  | [] => 0
  | x :: r => uptoBulkEntry x + uptoBulkEntries r
def uptoBulkEntry {H : Type} : Lit × DataW H → Nat
  | (.string bytes, d) => bytes.length + uptoBulk d + 1
  | (_, d) => uptoBulk d + 1
 end
def uptoSmall : (H : Type) → List (DataW H) → Bool := fun _ ds => decide (uptoBulkAll ds ≤ 1048576)
def OpenSpec.upto (s : _root_.Go.ChangeSpec) : _root_.Go.OpenSpec := { _root_.Go.OpenSpec.ofChange s with cond := some uptoSmall }

/-- 'pagemendlaw17.RedoGaps', WHERE WHAT IT READS IS OF BULK AT MOST 1048576: true; the input reads as it did. -/
def redoGapsUptoRow : OpenClaim := { program := "ytknpcflejohnoaagreat", sum := "2630e43c6c53acfd0e73552e3a0c377c81a8feca3844809f389ed93e7deedc4c", func := "pagemend/pagemendlaw17.RedoGaps", spec := "redoGaps", inPlace := ["internal/abi.NoEscape", "internal/bytealg.MakeNoZero"], unfollowed := true, recurses := true, apart := false, narrowed := true }
def RedoGapsUptoSaid : Prop := redoGapsUptoRow.holds Tryz.pinned (OpenSpec.upto redoGapsSpec)

/-- 'pagemendlaw17.RedoExact', WHERE WHAT IT READS IS OF BULK AT MOST 1048576: true; the input reads as it did. -/
def redoExactUptoRow : OpenClaim := { program := "ytknpcflejohnoaagreat", sum := "2630e43c6c53acfd0e73552e3a0c377c81a8feca3844809f389ed93e7deedc4c", func := "pagemend/pagemendlaw17.RedoExact", spec := "redoExact", inPlace := ["internal/abi.NoEscape", "internal/bytealg.MakeNoZero"], unfollowed := true, recurses := true, apart := false, narrowed := true }
def RedoExactUptoSaid : Prop := redoExactUptoRow.holds Tryz.pinned (OpenSpec.upto redoExactSpec)

/-- 'pagemendlaw17.RedoParts', WHERE WHAT IT READS IS OF BULK AT MOST 1048576: true; the input reads as it did. -/
def redoPartsUptoRow : OpenClaim := { program := "ytknpcflejohnoaagreat", sum := "2630e43c6c53acfd0e73552e3a0c377c81a8feca3844809f389ed93e7deedc4c", func := "pagemend/pagemendlaw17.RedoParts", spec := "redoParts", inPlace := ["internal/abi.NoEscape", "internal/bytealg.MakeNoZero"], unfollowed := true, recurses := true, apart := false, narrowed := true }
def RedoPartsUptoSaid : Prop := redoPartsUptoRow.holds Tryz.pinned (OpenSpec.upto redoPartsSpec)

end Rows
end Go.Proofs.YtknpcflejohnoaaGreat

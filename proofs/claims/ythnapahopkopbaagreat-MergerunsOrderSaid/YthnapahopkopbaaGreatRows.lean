/-
  No cell of these rows narrows 'for every input' (looked for: loops, veiled, ifaces, maps, wideKeys, modest, calm, conditions, laid).
  DERIVED. THE GIVEN ROWS OF THIS SEAT. 4 by the template 'for every input the law returns true; each argument reads behind the call as it read before'; 0 by the template 'total and deterministic' (their statements: YthnapahopkopbaaGreatTotals.lean).
  GIVEN WITH THE SEED: the statements are not yours to turn. If you find one false, say at which input.
  Laid BY PROGRAM, IN A SANDBOX (cutbox-rows.mjs): the forced cells as the released guide's own fill.sh prints them over the translation cbc2565ac33f52d3… (all of the seat's roots in one cut). By AI agents, Wed Nov 11 2026. No macro, syntax, notation, axiom, sorry.
-/
import Derived.Test.YthnapahopkopbaaGreatChecked
import GoSem.Claim
import GoSem.ClaimJoined
import GoSem.ClaimMapViews
import Derived.JoinedTies
import Derived.KernelRfl
namespace Go.Proofs.YthnapahopkopbaaGreat
/- THE CELL 'sum', in the pinned program and in every row, IS THE sha256 OF THE DUMP (.gsa) THAT YthnapahopkopbaaGreatProg.lean LOADS. Nothing in Lean hashes anything: it is a label: what it is worth is what the hold of that sum in a sandbox is worth. -/
noncomputable def Tryz.pinned : Pinned := { name := "ythnapahopkopbaagreat", sum := "cbc2565ac33f52d30f880fc65a39bd2002a4e270921142e7adbd95752ee74bac", checked := Tryz.checked }
namespace Rows
def none {H : Type} : Left H := { results := [], args := [] }

/-- 'pagemendlaw26.MergerunsLevels': WHATEVER THE INPUT: true; the input reads as it did. -/
def mergerunsLevelsSpec : ChangeSpec := { name := "mergerunsLevels", fn := fun _ => fun
  | [d1, d2] => { results := [.lit (.bool true)], args := [d1, d2] }
  | _ => none }
def mergerunsLevelsRow : OpenClaim := { program := "ythnapahopkopbaagreat", sum := "cbc2565ac33f52d30f880fc65a39bd2002a4e270921142e7adbd95752ee74bac", func := "pagemend/pagemendlaw26.MergerunsLevels", spec := "mergerunsLevels", unfollowed := true, recurses := true, apart := false }
def MergerunsLevelsSaid : Prop := mergerunsLevelsRow.holds Tryz.pinned (OpenSpec.ofChange mergerunsLevelsSpec)

/-- ITS FALSE NEIGHBOUR: 'it returns false'. Refute it at one input. -/
def mergerunsLevelsWrong : ChangeSpec := { name := "mergerunsLevels", fn := fun _ => fun
  | [d1, d2] => { results := [.lit (.bool false)], args := [d1, d2] }
  | _ => none }
def MergerunsLevelsWrongFalsely : Prop := mergerunsLevelsRow.holds Tryz.pinned (OpenSpec.ofChange mergerunsLevelsWrong)

/-- 'pagemendlaw26.MergerunsSplits': WHATEVER THE INPUT: true; the input reads as it did. -/
def mergerunsSplitsSpec : ChangeSpec := { name := "mergerunsSplits", fn := fun _ => fun
  | [d1, d2] => { results := [.lit (.bool true)], args := [d1, d2] }
  | _ => none }
def mergerunsSplitsRow : OpenClaim := { program := "ythnapahopkopbaagreat", sum := "cbc2565ac33f52d30f880fc65a39bd2002a4e270921142e7adbd95752ee74bac", func := "pagemend/pagemendlaw26.MergerunsSplits", spec := "mergerunsSplits", unfollowed := true, recurses := true, apart := false }
def MergerunsSplitsSaid : Prop := mergerunsSplitsRow.holds Tryz.pinned (OpenSpec.ofChange mergerunsSplitsSpec)

/-- ITS FALSE NEIGHBOUR: 'it returns false'. Refute it at one input. -/
def mergerunsSplitsWrong : ChangeSpec := { name := "mergerunsSplits", fn := fun _ => fun
  | [d1, d2] => { results := [.lit (.bool false)], args := [d1, d2] }
  | _ => none }
def MergerunsSplitsWrongFalsely : Prop := mergerunsSplitsRow.holds Tryz.pinned (OpenSpec.ofChange mergerunsSplitsWrong)

/-- 'pagemendlaw26.MergerunsExact': WHATEVER THE INPUT: true; the input reads as it did. -/
def mergerunsExactSpec : ChangeSpec := { name := "mergerunsExact", fn := fun _ => fun
  | [d1, d2, d3] => { results := [.lit (.bool true)], args := [d1, d2, d3] }
  | _ => none }
def mergerunsExactRow : OpenClaim := { program := "ythnapahopkopbaagreat", sum := "cbc2565ac33f52d30f880fc65a39bd2002a4e270921142e7adbd95752ee74bac", func := "pagemend/pagemendlaw26.MergerunsExact", spec := "mergerunsExact", unfollowed := true, recurses := true, apart := false }
def MergerunsExactSaid : Prop := mergerunsExactRow.holds Tryz.pinned (OpenSpec.ofChange mergerunsExactSpec)

/-- ITS FALSE NEIGHBOUR: 'it returns false'. Refute it at one input. -/
def mergerunsExactWrong : ChangeSpec := { name := "mergerunsExact", fn := fun _ => fun
  | [d1, d2, d3] => { results := [.lit (.bool false)], args := [d1, d2, d3] }
  | _ => none }
def MergerunsExactWrongFalsely : Prop := mergerunsExactRow.holds Tryz.pinned (OpenSpec.ofChange mergerunsExactWrong)

/-- 'pagemendlaw26.MergerunsOrder': WHATEVER THE INPUT: true; the input reads as it did. -/
def mergerunsOrderSpec : ChangeSpec := { name := "mergerunsOrder", fn := fun _ => fun
  | [d1, d2] => { results := [.lit (.bool true)], args := [d1, d2] }
  | _ => none }
def mergerunsOrderRow : OpenClaim := { program := "ythnapahopkopbaagreat", sum := "cbc2565ac33f52d30f880fc65a39bd2002a4e270921142e7adbd95752ee74bac", func := "pagemend/pagemendlaw26.MergerunsOrder", spec := "mergerunsOrder", unfollowed := true, recurses := true, apart := false }
def MergerunsOrderSaid : Prop := mergerunsOrderRow.holds Tryz.pinned (OpenSpec.ofChange mergerunsOrderSpec)

/-- ITS FALSE NEIGHBOUR: 'it returns false'. Refute it at one input. -/
def mergerunsOrderWrong : ChangeSpec := { name := "mergerunsOrder", fn := fun _ => fun
  | [d1, d2] => { results := [.lit (.bool false)], args := [d1, d2] }
  | _ => none }
def MergerunsOrderWrongFalsely : Prop := mergerunsOrderRow.holds Tryz.pinned (OpenSpec.ofChange mergerunsOrderWrong)

/- THE SECOND FORM. 'bulk': how many values and letters a reading holds, each counted each time it is reached (what is shared counts as often as it is met; a slice's spare places count too). A statement '..UptoSaid' is the law's where the arguments, and the package variables that the reading takes, are together of bulk at most 1048576: NARROWER than '..Said'. Prove '..Said' where nothing that the law and all that it calls make is longer than what came in: it says more and counts as full. Else prove '..UptoSaid'. A law counts once. -/
mutual
def uptoBulk {H : Type} : DataW H → Nat
  | .lit (.string bytes) => bytes.length + 1
  | .lit _ => 1
  | .nil => 1
  | .ptr d => uptoBulk d + 1
  | .slice elems spare => uptoBulkAll elems + uptoBulkAll spare + 1
  | .agg parts => uptoBulkAll parts + 1
  | .iface _ d => uptoBulk d + 1
  | .map entries => uptoBulkEntries entries + 1
  | .held _ => 1
def uptoBulkAll {H : Type} : List (DataW H) → Nat
  | [] => 0
  | d :: r => uptoBulk d + uptoBulkAll r
def uptoBulkEntries {H : Type} : List (Lit × DataW H) → Nat
  | [] => 0
  | x :: r => uptoBulkEntry x + uptoBulkEntries r
def uptoBulkEntry {H : Type} : Lit × DataW H → Nat
  | (.string bytes, d) => bytes.length + uptoBulk d + 1
  | (_, d) => uptoBulk d + 1
 end
def uptoSmall : (H : Type) → List (DataW H) → Bool := fun _ ds => decide (uptoBulkAll ds ≤ 1048576)
def OpenSpec.upto (s : _root_.Go.ChangeSpec) : _root_.Go.OpenSpec := { _root_.Go.OpenSpec.ofChange s with cond := some uptoSmall }

/-- 'pagemendlaw26.MergerunsLevels', WHERE WHAT IT READS IS OF BULK AT MOST 1048576: true; the input reads as it did. -/
def mergerunsLevelsUptoRow : OpenClaim := { program := "ythnapahopkopbaagreat", sum := "cbc2565ac33f52d30f880fc65a39bd2002a4e270921142e7adbd95752ee74bac", func := "pagemend/pagemendlaw26.MergerunsLevels", spec := "mergerunsLevels", unfollowed := true, recurses := true, apart := false, narrowed := true }
def MergerunsLevelsUptoSaid : Prop := mergerunsLevelsUptoRow.holds Tryz.pinned (OpenSpec.upto mergerunsLevelsSpec)

/-- 'pagemendlaw26.MergerunsSplits', WHERE WHAT IT READS IS OF BULK AT MOST 1048576: true; the input reads as it did. -/
def mergerunsSplitsUptoRow : OpenClaim := { program := "ythnapahopkopbaagreat", sum := "cbc2565ac33f52d30f880fc65a39bd2002a4e270921142e7adbd95752ee74bac", func := "pagemend/pagemendlaw26.MergerunsSplits", spec := "mergerunsSplits", unfollowed := true, recurses := true, apart := false, narrowed := true }
def MergerunsSplitsUptoSaid : Prop := mergerunsSplitsUptoRow.holds Tryz.pinned (OpenSpec.upto mergerunsSplitsSpec)

/-- 'pagemendlaw26.MergerunsExact', WHERE WHAT IT READS IS OF BULK AT MOST 1048576: true; the input reads as it did. -/
def mergerunsExactUptoRow : OpenClaim := { program := "ythnapahopkopbaagreat", sum := "cbc2565ac33f52d30f880fc65a39bd2002a4e270921142e7adbd95752ee74bac", func := "pagemend/pagemendlaw26.MergerunsExact", spec := "mergerunsExact", unfollowed := true, recurses := true, apart := false, narrowed := true }
def MergerunsExactUptoSaid : Prop := mergerunsExactUptoRow.holds Tryz.pinned (OpenSpec.upto mergerunsExactSpec)

/-- 'pagemendlaw26.MergerunsOrder', WHERE WHAT IT READS IS OF BULK AT MOST 1048576: true; the input reads as it did. -/
def mergerunsOrderUptoRow : OpenClaim := { program := "ythnapahopkopbaagreat", sum := "cbc2565ac33f52d30f880fc65a39bd2002a4e270921142e7adbd95752ee74bac", func := "pagemend/pagemendlaw26.MergerunsOrder", spec := "mergerunsOrder", unfollowed := true, recurses := true, apart := false, narrowed := true }
def MergerunsOrderUptoSaid : Prop := mergerunsOrderUptoRow.holds Tryz.pinned (OpenSpec.upto mergerunsOrderSpec)

end Rows
end Go.Proofs.YthnapahopkopbaaGreat

/-
  No cell of these rows narrows 'for every input' (looked for: loops, veiled, ifaces, maps, wideKeys, modest, calm, conditions, laid).
  DERIVED. THE GIVEN ROWS OF THIS SEAT. 6 by the template 'for every input the law returns true; each argument reads behind the call as it read before'; 0 by the template 'total and deterministic' (their statements: YtckgllmahldikaaGreatTotals.lean).
  GIVEN WITH THE SEED: the statements are not yours to turn. If you find one false, say at which input.
  Laid BY PROGRAM, IN A SANDBOX (cutbox-rows.mjs): the forced cells as the released guide's own fill.sh prints them over the translation 43db4bcd97cfb518… (all of the seat's roots in one cut). By AI agents, Wed Nov 11 2026. No macro, syntax, notation, axiom, sorry.
-/
import Derived.Test.YtckgllmahldikaaGreatChecked
import GoSem.Claim
import GoSem.ClaimJoined
import GoSem.ClaimMapViews
import Derived.JoinedTies
import Derived.KernelRfl
namespace Go.Proofs.YtckgllmahldikaaGreat
/- THE CELL 'sum', in the pinned program and in every row, IS THE sha256 OF THE DUMP (.gsa) THAT YtckgllmahldikaaGreatProg.lean LOADS. Nothing in Lean hashes anything: it is a label: what it is worth is what the hold of that sum in a sandbox is worth. -/
noncomputable def Tryz.pinned : Pinned := { name := "ytckgllmahldikaagreat", sum := "43db4bcd97cfb5189e57ecac37268adeaf73d98bea70a086322b252162c30c80", checked := Tryz.checked }
namespace Rows
def none {H : Type} : Left H := { results := [], args := [] }

/-- 'pagemendlaw26.MergerunsArchives': WHATEVER THE INPUT: true; the input reads as it did. -/
def mergerunsArchivesSpec : ChangeSpec := { name := "mergerunsArchives", fn := fun _ => fun
  | [d1, d2] => { results := [.lit (.bool true)], args := [d1, d2] }
  | _ => none }
def mergerunsArchivesRow : OpenClaim := { program := "ytckgllmahldikaagreat", sum := "43db4bcd97cfb5189e57ecac37268adeaf73d98bea70a086322b252162c30c80", func := "pagemend/pagemendlaw26.MergerunsArchives", spec := "mergerunsArchives", inPlace := ["internal/abi.NoEscape"], unfollowed := true, recurses := true, apart := false }
def MergerunsArchivesSaid : Prop := mergerunsArchivesRow.holds Tryz.pinned (OpenSpec.ofChange mergerunsArchivesSpec)

/-- ITS FALSE NEIGHBOUR: 'it returns false'. Refute it at one input. -/
def mergerunsArchivesWrong : ChangeSpec := { name := "mergerunsArchives", fn := fun _ => fun
  | [d1, d2] => { results := [.lit (.bool false)], args := [d1, d2] }
  | _ => none }
def MergerunsArchivesWrongFalsely : Prop := mergerunsArchivesRow.holds Tryz.pinned (OpenSpec.ofChange mergerunsArchivesWrong)

/-- 'pagemendlaw26.MergerunsKeeps': WHATEVER THE INPUT: true; the input reads as it did. -/
def mergerunsKeepsSpec : ChangeSpec := { name := "mergerunsKeeps", fn := fun _ => fun
  | [d1, d2] => { results := [.lit (.bool true)], args := [d1, d2] }
  | _ => none }
def mergerunsKeepsRow : OpenClaim := { program := "ytckgllmahldikaagreat", sum := "43db4bcd97cfb5189e57ecac37268adeaf73d98bea70a086322b252162c30c80", func := "pagemend/pagemendlaw26.MergerunsKeeps", spec := "mergerunsKeeps", inPlace := ["internal/abi.NoEscape"], unfollowed := true, recurses := true, apart := false }
def MergerunsKeepsSaid : Prop := mergerunsKeepsRow.holds Tryz.pinned (OpenSpec.ofChange mergerunsKeepsSpec)

/-- ITS FALSE NEIGHBOUR: 'it returns false'. Refute it at one input. -/
def mergerunsKeepsWrong : ChangeSpec := { name := "mergerunsKeeps", fn := fun _ => fun
  | [d1, d2] => { results := [.lit (.bool false)], args := [d1, d2] }
  | _ => none }
def MergerunsKeepsWrongFalsely : Prop := mergerunsKeepsRow.holds Tryz.pinned (OpenSpec.ofChange mergerunsKeepsWrong)

/-- 'pagemendlaw25.ArchiverOnce': WHATEVER THE INPUT: true; the input reads as it did. -/
def archiverOnceSpec : ChangeSpec := { name := "archiverOnce", fn := fun _ => fun
  | [d] => { results := [.lit (.bool true)], args := [d] }
  | _ => none }
def archiverOnceRow : OpenClaim := { program := "ytckgllmahldikaagreat", sum := "43db4bcd97cfb5189e57ecac37268adeaf73d98bea70a086322b252162c30c80", func := "pagemend/pagemendlaw25.ArchiverOnce", spec := "archiverOnce", inPlace := ["internal/abi.NoEscape"], unfollowed := true, recurses := true, apart := false }
def ArchiverOnceSaid : Prop := archiverOnceRow.holds Tryz.pinned (OpenSpec.ofChange archiverOnceSpec)

/-- ITS FALSE NEIGHBOUR: 'it returns false'. Refute it at one input. -/
def archiverOnceWrong : ChangeSpec := { name := "archiverOnce", fn := fun _ => fun
  | [d] => { results := [.lit (.bool false)], args := [d] }
  | _ => none }
def ArchiverOnceWrongFalsely : Prop := archiverOnceRow.holds Tryz.pinned (OpenSpec.ofChange archiverOnceWrong)

/-- 'pagemendlaw25.ArchiverPasses': WHATEVER THE INPUT: true; the input reads as it did. -/
def archiverPassesSpec : ChangeSpec := { name := "archiverPasses", fn := fun _ => fun
  | [d1, d2] => { results := [.lit (.bool true)], args := [d1, d2] }
  | _ => none }
def archiverPassesRow : OpenClaim := { program := "ytckgllmahldikaagreat", sum := "43db4bcd97cfb5189e57ecac37268adeaf73d98bea70a086322b252162c30c80", func := "pagemend/pagemendlaw25.ArchiverPasses", spec := "archiverPasses", inPlace := ["internal/abi.NoEscape"], unfollowed := true, recurses := true, apart := false }
def ArchiverPassesSaid : Prop := archiverPassesRow.holds Tryz.pinned (OpenSpec.ofChange archiverPassesSpec)

/-- ITS FALSE NEIGHBOUR: 'it returns false'. Refute it at one input. -/
def archiverPassesWrong : ChangeSpec := { name := "archiverPasses", fn := fun _ => fun
  | [d1, d2] => { results := [.lit (.bool false)], args := [d1, d2] }
  | _ => none }
def ArchiverPassesWrongFalsely : Prop := archiverPassesRow.holds Tryz.pinned (OpenSpec.ofChange archiverPassesWrong)

/-- 'pagemendlaw25.ArchiverCrash': WHATEVER THE INPUT: true; the input reads as it did. -/
def archiverCrashSpec : ChangeSpec := { name := "archiverCrash", fn := fun _ => fun
  | [d1, d2, d3] => { results := [.lit (.bool true)], args := [d1, d2, d3] }
  | _ => none }
def archiverCrashRow : OpenClaim := { program := "ytckgllmahldikaagreat", sum := "43db4bcd97cfb5189e57ecac37268adeaf73d98bea70a086322b252162c30c80", func := "pagemend/pagemendlaw25.ArchiverCrash", spec := "archiverCrash", inPlace := ["internal/abi.NoEscape"], unfollowed := true, recurses := true, apart := false }
def ArchiverCrashSaid : Prop := archiverCrashRow.holds Tryz.pinned (OpenSpec.ofChange archiverCrashSpec)

/-- ITS FALSE NEIGHBOUR: 'it returns false'. Refute it at one input. -/
def archiverCrashWrong : ChangeSpec := { name := "archiverCrash", fn := fun _ => fun
  | [d1, d2, d3] => { results := [.lit (.bool false)], args := [d1, d2, d3] }
  | _ => none }
def ArchiverCrashWrongFalsely : Prop := archiverCrashRow.holds Tryz.pinned (OpenSpec.ofChange archiverCrashWrong)

/-- 'pagemendlaw25.ArchiverExact': WHATEVER THE INPUT: true; the input reads as it did. -/
def archiverExactSpec : ChangeSpec := { name := "archiverExact", fn := fun _ => fun
  | [d1, d2, d3, d4, d5] => { results := [.lit (.bool true)], args := [d1, d2, d3, d4, d5] }
  | _ => none }
def archiverExactRow : OpenClaim := { program := "ytckgllmahldikaagreat", sum := "43db4bcd97cfb5189e57ecac37268adeaf73d98bea70a086322b252162c30c80", func := "pagemend/pagemendlaw25.ArchiverExact", spec := "archiverExact", inPlace := ["internal/abi.NoEscape"], unfollowed := true, recurses := true, apart := false }
def ArchiverExactSaid : Prop := archiverExactRow.holds Tryz.pinned (OpenSpec.ofChange archiverExactSpec)

/-- ITS FALSE NEIGHBOUR: 'it returns false'. Refute it at one input. -/
def archiverExactWrong : ChangeSpec := { name := "archiverExact", fn := fun _ => fun
  | [d1, d2, d3, d4, d5] => { results := [.lit (.bool false)], args := [d1, d2, d3, d4, d5] }
  | _ => none }
def ArchiverExactWrongFalsely : Prop := archiverExactRow.holds Tryz.pinned (OpenSpec.ofChange archiverExactWrong)

/- THE SECOND FORM. 'bulk': how many values and letters a reading holds, each counted each time it is reached (what is shared counts as often as it is met; a slice's spare places count too). A statement '..UptoSaid' is the law's where the arguments, and the package variables that the reading takes, are together of bulk at most 1048576: NARROWER than '..Said'. Prove '..Said' where nothing that the law and all that it calls make is longer than what came in: it says more and counts as full. Else prove '..UptoSaid'. A law counts once. -/
mutual
def uptoBulk {H : Type} : DataW H → Nat
  | .lit (.string bytes) => bytes.length + 1
  | .lit _ => 1
  | .nil => 1
  | .ptr d => uptoBulk d + 1
  | .slice elems spare => uptoBulkAll elems + uptoBulkAll spare + 1
  | .agg parts => uptoBulkAll parts + 1
  | .iface _ d => uptoBulk d + 1
  | .map entries => uptoBulkEntries entries + 1
  | .held _ => 1
def uptoBulkAll {H : Type} : List (DataW H) → Nat
  | [] => 0
  | d :: r => uptoBulk d + uptoBulkAll r
def uptoBulkEntries {H : Type} : List (Lit × DataW H) → Nat
  | [] => 0
  | x :: r => uptoBulkEntry x + uptoBulkEntries r
def uptoBulkEntry {H : Type} : Lit × DataW H → Nat
  | (.string bytes, d) => bytes.length + uptoBulk d + 1
  | (_, d) => uptoBulk d + 1
 end
def uptoSmall : (H : Type) → List (DataW H) → Bool := fun _ ds => decide (uptoBulkAll ds ≤ 1048576)
def OpenSpec.upto (s : _root_.Go.ChangeSpec) : _root_.Go.OpenSpec := { _root_.Go.OpenSpec.ofChange s with cond := some uptoSmall }

/-- 'pagemendlaw26.MergerunsArchives', WHERE WHAT IT READS IS OF BULK AT MOST 1048576: true; the input reads as it did. -/
def mergerunsArchivesUptoRow : OpenClaim := { program := "ytckgllmahldikaagreat", sum := "43db4bcd97cfb5189e57ecac37268adeaf73d98bea70a086322b252162c30c80", func := "pagemend/pagemendlaw26.MergerunsArchives", spec := "mergerunsArchives", inPlace := ["internal/abi.NoEscape"], unfollowed := true, recurses := true, apart := false, narrowed := true }
def MergerunsArchivesUptoSaid : Prop := mergerunsArchivesUptoRow.holds Tryz.pinned (OpenSpec.upto mergerunsArchivesSpec)

/-- 'pagemendlaw26.MergerunsKeeps', WHERE WHAT IT READS IS OF BULK AT MOST 1048576: true; the input reads as it did. -/
def mergerunsKeepsUptoRow : OpenClaim := { program := "ytckgllmahldikaagreat", sum := "43db4bcd97cfb5189e57ecac37268adeaf73d98bea70a086322b252162c30c80", func := "pagemend/pagemendlaw26.MergerunsKeeps", spec := "mergerunsKeeps", inPlace := ["internal/abi.NoEscape"], unfollowed := true, recurses := true, apart := false, narrowed := true }
def MergerunsKeepsUptoSaid : Prop := mergerunsKeepsUptoRow.holds Tryz.pinned (OpenSpec.upto mergerunsKeepsSpec)

/-- 'pagemendlaw25.ArchiverOnce', WHERE WHAT IT READS IS OF BULK AT MOST 1048576: true; the input reads as it did. -/
def archiverOnceUptoRow : OpenClaim := { program := "ytckgllmahldikaagreat", sum := "43db4bcd97cfb5189e57ecac37268adeaf73d98bea70a086322b252162c30c80", func := "pagemend/pagemendlaw25.ArchiverOnce", spec := "archiverOnce", inPlace := ["internal/abi.NoEscape"], unfollowed := true, recurses := true, apart := false, narrowed := true }
def ArchiverOnceUptoSaid : Prop := archiverOnceUptoRow.holds Tryz.pinned (OpenSpec.upto archiverOnceSpec)

/-- 'pagemendlaw25.ArchiverPasses', WHERE WHAT IT READS IS OF BULK AT MOST 1048576: true; the input reads as it did. -/
def archiverPassesUptoRow : OpenClaim := { program := "ytckgllmahldikaagreat", sum := "43db4bcd97cfb5189e57ecac37268adeaf73d98bea70a086322b252162c30c80", func := "pagemend/pagemendlaw25.ArchiverPasses", spec := "archiverPasses", inPlace := ["internal/abi.NoEscape"], unfollowed := true, recurses := true, apart := false, narrowed := true }
def ArchiverPassesUptoSaid : Prop := archiverPassesUptoRow.holds Tryz.pinned (OpenSpec.upto archiverPassesSpec)

/-- 'pagemendlaw25.ArchiverCrash', WHERE WHAT IT READS IS OF BULK AT MOST 1048576: true; the input reads as it did. -/
def archiverCrashUptoRow : OpenClaim := { program := "ytckgllmahldikaagreat", sum := "43db4bcd97cfb5189e57ecac37268adeaf73d98bea70a086322b252162c30c80", func := "pagemend/pagemendlaw25.ArchiverCrash", spec := "archiverCrash", inPlace := ["internal/abi.NoEscape"], unfollowed := true, recurses := true, apart := false, narrowed := true }
def ArchiverCrashUptoSaid : Prop := archiverCrashUptoRow.holds Tryz.pinned (OpenSpec.upto archiverCrashSpec)

/-- 'pagemendlaw25.ArchiverExact', WHERE WHAT IT READS IS OF BULK AT MOST 1048576: true; the input reads as it did. -/
def archiverExactUptoRow : OpenClaim := { program := "ytckgllmahldikaagreat", sum := "43db4bcd97cfb5189e57ecac37268adeaf73d98bea70a086322b252162c30c80", func := "pagemend/pagemendlaw25.ArchiverExact", spec := "archiverExact", inPlace := ["internal/abi.NoEscape"], unfollowed := true, recurses := true, apart := false, narrowed := true }
def ArchiverExactUptoSaid : Prop := archiverExactUptoRow.holds Tryz.pinned (OpenSpec.upto archiverExactSpec)

end Rows
end Go.Proofs.YtckgllmahldikaaGreat

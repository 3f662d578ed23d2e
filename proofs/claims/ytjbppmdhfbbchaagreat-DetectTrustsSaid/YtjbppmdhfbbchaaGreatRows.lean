/-
  No cell of these rows narrows 'for every input' (looked for: loops, veiled, ifaces, maps, wideKeys, modest, calm, conditions, laid).
  DERIVED. THE GIVEN ROWS OF THIS SEAT. 5 by the template 'for every input the law returns true; each argument reads behind the call as it read before'; 0 by the template 'total and deterministic' (their statements: YtjbppmdhfbbchaaGreatTotals.lean).
  GIVEN WITH THE SEED: the statements are not yours to turn. If you find one false, say at which input.
  Laid BY PROGRAM, IN A SANDBOX (cutbox-rows.mjs): the forced cells as the released guide's own fill.sh prints them over the translation e0b228bd8d88be43… (all of the seat's roots in one cut). By AI agents, Wed Nov 11 2026. No macro, syntax, notation, axiom, sorry.
-/
import Derived.Test.YtjbppmdhfbbchaaGreatChecked
import GoSem.Claim
import GoSem.ClaimJoined
import GoSem.ClaimMapViews
import Derived.JoinedTies
import Derived.KernelRfl
namespace Go.Proofs.YtjbppmdhfbbchaaGreat
/- THE CELL 'sum', in the pinned program and in every row, IS THE sha256 OF THE DUMP (.gsa) THAT YtjbppmdhfbbchaaGreatProg.lean LOADS. Nothing in Lean hashes anything: it is a label: what it is worth is what the hold of that sum in a sandbox is worth. -/
noncomputable def Tryz.pinned : Pinned := { name := "ytjbppmdhfbbchaagreat", sum := "e0b228bd8d88be437883dcd5f837a4c27ebd1b83b714332c7d5b23e4d8f14576", checked := Tryz.checked }
namespace Rows
def none {H : Type} : Left H := { results := [], args := [] }

/-- 'pagemendlaw23.RunsBytes': WHATEVER THE INPUT: true; the input reads as it did. -/
def runsBytesSpec : ChangeSpec := { name := "runsBytes", fn := fun _ => fun
  | [d1, d2] => { results := [.lit (.bool true)], args := [d1, d2] }
  | _ => none }
def runsBytesRow : OpenClaim := { program := "ytjbppmdhfbbchaagreat", sum := "e0b228bd8d88be437883dcd5f837a4c27ebd1b83b714332c7d5b23e4d8f14576", func := "pagemend/pagemendlaw23.RunsBytes", spec := "runsBytes", inPlace := ["internal/abi.NoEscape"], unfollowed := true, recurses := true, apart := false }
def RunsBytesSaid : Prop := runsBytesRow.holds Tryz.pinned (OpenSpec.ofChange runsBytesSpec)

/-- ITS FALSE NEIGHBOUR: 'it returns false'. Refute it at one input. -/
def runsBytesWrong : ChangeSpec := { name := "runsBytes", fn := fun _ => fun
  | [d1, d2] => { results := [.lit (.bool false)], args := [d1, d2] }
  | _ => none }
def RunsBytesWrongFalsely : Prop := runsBytesRow.holds Tryz.pinned (OpenSpec.ofChange runsBytesWrong)

/-- 'pagemendlaw23.RunsBack': WHATEVER THE INPUT: true; the input reads as it did. -/
def runsBackSpec : ChangeSpec := { name := "runsBack", fn := fun _ => fun
  | [d1, d2, d3] => { results := [.lit (.bool true)], args := [d1, d2, d3] }
  | _ => none }
def runsBackRow : OpenClaim := { program := "ytjbppmdhfbbchaagreat", sum := "e0b228bd8d88be437883dcd5f837a4c27ebd1b83b714332c7d5b23e4d8f14576", func := "pagemend/pagemendlaw23.RunsBack", spec := "runsBack", inPlace := ["internal/abi.NoEscape"], unfollowed := true, recurses := true, apart := false }
def RunsBackSaid : Prop := runsBackRow.holds Tryz.pinned (OpenSpec.ofChange runsBackSpec)

/-- ITS FALSE NEIGHBOUR: 'it returns false'. Refute it at one input. -/
def runsBackWrong : ChangeSpec := { name := "runsBack", fn := fun _ => fun
  | [d1, d2, d3] => { results := [.lit (.bool false)], args := [d1, d2, d3] }
  | _ => none }
def RunsBackWrongFalsely : Prop := runsBackRow.holds Tryz.pinned (OpenSpec.ofChange runsBackWrong)

/-- 'pagemendlaw17.RedoExact': WHATEVER THE INPUT: true; the input reads as it did. -/
def redoExactSpec : ChangeSpec := { name := "redoExact", fn := fun _ => fun
  | [d1, d2, d3, d4] => { results := [.lit (.bool true)], args := [d1, d2, d3, d4] }
  | _ => none }
def redoExactRow : OpenClaim := { program := "ytjbppmdhfbbchaagreat", sum := "e0b228bd8d88be437883dcd5f837a4c27ebd1b83b714332c7d5b23e4d8f14576", func := "pagemend/pagemendlaw17.RedoExact", spec := "redoExact", inPlace := ["internal/abi.NoEscape", "internal/bytealg.MakeNoZero"], unfollowed := true, recurses := true, apart := false }
def RedoExactSaid : Prop := redoExactRow.holds Tryz.pinned (OpenSpec.ofChange redoExactSpec)

/-- ITS FALSE NEIGHBOUR: 'it returns false'. Refute it at one input. -/
def redoExactWrong : ChangeSpec := { name := "redoExact", fn := fun _ => fun
  | [d1, d2, d3, d4] => { results := [.lit (.bool false)], args := [d1, d2, d3, d4] }
  | _ => none }
def RedoExactWrongFalsely : Prop := redoExactRow.holds Tryz.pinned (OpenSpec.ofChange redoExactWrong)

/-- 'pagemendlaw33.DetectTrusts': WHATEVER THE INPUT: true; the input reads as it did. -/
def detectTrustsSpec : ChangeSpec := { name := "detectTrusts", fn := fun _ => fun
  | [d1, d2] => { results := [.lit (.bool true)], args := [d1, d2] }
  | _ => none }
def detectTrustsRow : OpenClaim := { program := "ytjbppmdhfbbchaagreat", sum := "e0b228bd8d88be437883dcd5f837a4c27ebd1b83b714332c7d5b23e4d8f14576", func := "pagemend/pagemendlaw33.DetectTrusts", spec := "detectTrusts", inPlace := ["internal/abi.NoEscape", "internal/bytealg.MakeNoZero"], unfollowed := true, recurses := true, apart := false }
def DetectTrustsSaid : Prop := detectTrustsRow.holds Tryz.pinned (OpenSpec.ofChange detectTrustsSpec)

/-- ITS FALSE NEIGHBOUR: 'it returns false'. Refute it at one input. -/
def detectTrustsWrong : ChangeSpec := { name := "detectTrusts", fn := fun _ => fun
  | [d1, d2] => { results := [.lit (.bool false)], args := [d1, d2] }
  | _ => none }
def DetectTrustsWrongFalsely : Prop := detectTrustsRow.holds Tryz.pinned (OpenSpec.ofChange detectTrustsWrong)

/-- 'pagemendlaw23.RunsMakes': WHATEVER THE INPUT: true; the input reads as it did. -/
def runsMakesSpec : ChangeSpec := { name := "runsMakes", fn := fun _ => fun
  | [d] => { results := [.lit (.bool true)], args := [d] }
  | _ => none }
def runsMakesRow : OpenClaim := { program := "ytjbppmdhfbbchaagreat", sum := "e0b228bd8d88be437883dcd5f837a4c27ebd1b83b714332c7d5b23e4d8f14576", func := "pagemend/pagemendlaw23.RunsMakes", spec := "runsMakes", inPlace := ["internal/abi.NoEscape"], unfollowed := true, recurses := true, apart := false }
def RunsMakesSaid : Prop := runsMakesRow.holds Tryz.pinned (OpenSpec.ofChange runsMakesSpec)

/-- ITS FALSE NEIGHBOUR: 'it returns false'. Refute it at one input. -/
def runsMakesWrong : ChangeSpec := { name := "runsMakes", fn := fun _ => fun
  | [d] => { results := [.lit (.bool false)], args := [d] }
  | _ => none }
def RunsMakesWrongFalsely : Prop := runsMakesRow.holds Tryz.pinned (OpenSpec.ofChange runsMakesWrong)

/- THE SECOND FORM. 'bulk': how many values and letters a reading holds, each counted each time it is reached (what is shared counts as often as it is met; a slice's spare places count too). A statement '..UptoSaid' is the law's where the arguments, and the package variables that the reading takes, are together of bulk at most 1048576: NARROWER than '..Said'. Prove '..Said' where nothing that the law and all that it calls make is longer than what came in: it says more and counts as full. Else prove '..UptoSaid'. A law counts once. -/
mutual
def uptoBulk {H : Type} : DataW H → Nat
  | .lit (.string bytes) => bytes.length + 1
  | .lit _ => 1
  | .nil => 1
  | .ptr d => uptoBulk d + 1
  | .slice elems spare => uptoBulkAll elems + uptoBulkAll spare + 1
  | .agg parts => uptoBulkAll parts + 1
  | .iface _ d => uptoBulk d + 1
  | .map entries => uptoBulkEntries entries + 1
  | .held _ => 1
def uptoBulkAll {H : Type} : List (DataW H) → Nat
  | [] => 0
  | d :: r => uptoBulk d + uptoBulkAll r
def uptoBulkEntries {H : Type} : List (Lit × DataW H) → Nat
  | [] => 0
  | x :: r => uptoBulkEntry x + uptoBulkEntries r
def uptoBulkEntry {H : Type} : Lit × DataW H → Nat
  | (.string bytes, d) => bytes.length + uptoBulk d + 1
  | (_, d) => uptoBulk d + 1
 end
def uptoSmall : (H : Type) → List (DataW H) → Bool := fun _ ds => decide (uptoBulkAll ds ≤ 1048576)
def OpenSpec.upto (s : _root_.Go.ChangeSpec) : _root_.Go.OpenSpec := { _root_.Go.OpenSpec.ofChange s with cond := some uptoSmall }

/-- 'pagemendlaw23.RunsBytes', WHERE WHAT IT READS IS OF BULK AT MOST 1048576: true; the input reads as it did. -/
def runsBytesUptoRow : OpenClaim := { program := "ytjbppmdhfbbchaagreat", sum := "e0b228bd8d88be437883dcd5f837a4c27ebd1b83b714332c7d5b23e4d8f14576", func := "pagemend/pagemendlaw23.RunsBytes", spec := "runsBytes", inPlace := ["internal/abi.NoEscape"], unfollowed := true, recurses := true, apart := false, narrowed := true }
def RunsBytesUptoSaid : Prop := runsBytesUptoRow.holds Tryz.pinned (OpenSpec.upto runsBytesSpec)

/-- 'pagemendlaw23.RunsBack', WHERE WHAT IT READS IS OF BULK AT MOST 1048576: true; the input reads as it did. -/
def runsBackUptoRow : OpenClaim := { program := "ytjbppmdhfbbchaagreat", sum := "e0b228bd8d88be437883dcd5f837a4c27ebd1b83b714332c7d5b23e4d8f14576", func := "pagemend/pagemendlaw23.RunsBack", spec := "runsBack", inPlace := ["internal/abi.NoEscape"], unfollowed := true, recurses := true, apart := false, narrowed := true }
def RunsBackUptoSaid : Prop := runsBackUptoRow.holds Tryz.pinned (OpenSpec.upto runsBackSpec)

/-- 'pagemendlaw17.RedoExact', WHERE WHAT IT READS IS OF BULK AT MOST 1048576: true; the input reads as it did. -/
def redoExactUptoRow : OpenClaim := { program := "ytjbppmdhfbbchaagreat", sum := "e0b228bd8d88be437883dcd5f837a4c27ebd1b83b714332c7d5b23e4d8f14576", func := "pagemend/pagemendlaw17.RedoExact", spec := "redoExact", inPlace := ["internal/abi.NoEscape", "internal/bytealg.MakeNoZero"], unfollowed := true, recurses := true, apart := false, narrowed := true }
def RedoExactUptoSaid : Prop := redoExactUptoRow.holds Tryz.pinned (OpenSpec.upto redoExactSpec)

/-- 'pagemendlaw33.DetectTrusts', WHERE WHAT IT READS IS OF BULK AT MOST 1048576: true; the input reads as it did. -/
def detectTrustsUptoRow : OpenClaim := { program := "ytjbppmdhfbbchaagreat", sum := "e0b228bd8d88be437883dcd5f837a4c27ebd1b83b714332c7d5b23e4d8f14576", func := "pagemend/pagemendlaw33.DetectTrusts", spec := "detectTrusts", inPlace := ["internal/abi.NoEscape", "internal/bytealg.MakeNoZero"], unfollowed := true, recurses := true, apart := false, narrowed := true }
def DetectTrustsUptoSaid : Prop := detectTrustsUptoRow.holds Tryz.pinned (OpenSpec.upto detectTrustsSpec)

/-- 'pagemendlaw23.RunsMakes', WHERE WHAT IT READS IS OF BULK AT MOST 1048576: true; the input reads as it did. -/
def runsMakesUptoRow : OpenClaim := { program := "ytjbppmdhfbbchaagreat", sum := "e0b228bd8d88be437883dcd5f837a4c27ebd1b83b714332c7d5b23e4d8f14576", func := "pagemend/pagemendlaw23.RunsMakes", spec := "runsMakes", inPlace := ["internal/abi.NoEscape"], unfollowed := true, recurses := true, apart := false, narrowed := true }
def RunsMakesUptoSaid : Prop := runsMakesUptoRow.holds Tryz.pinned (OpenSpec.upto runsMakesSpec)

end Rows
end Go.Proofs.YtjbppmdhfbbchaaGreat

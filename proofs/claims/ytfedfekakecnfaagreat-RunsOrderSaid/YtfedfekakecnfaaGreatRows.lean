/-
  No cell of these rows narrows 'for every input' (looked for: loops, veiled, ifaces, maps, wideKeys, modest, calm, conditions, laid).
  DERIVED. THE GIVEN ROWS OF THIS SEAT. 6 by the template 'for every input the law returns true; each argument reads behind the call as it read before'; 0 by the template 'total and deterministic' (their statements: YtfedfekakecnfaaGreatTotals.lean).
  GIVEN WITH THE SEED: the statements are not yours to turn. If you find one false, say at which input.
  Laid BY PROGRAM, IN A SANDBOX (cutbox-rows.mjs): the forced cells as the released guide's own fill.sh prints them over the translation 35528b9576d5d6a1… (all of the seat's roots in one cut). By AI agents, Wed Nov 11 2026. No macro, syntax, notation, axiom, sorry.
-/
import Derived.Test.YtfedfekakecnfaaGreatChecked
import GoSem.Claim
import GoSem.ClaimJoined
import GoSem.ClaimMapViews
import Derived.JoinedTies
import Derived.KernelRfl
namespace Go.Proofs.YtfedfekakecnfaaGreat
/- THE CELL 'sum', in the pinned program and in every row, IS THE sha256 OF THE DUMP (.gsa) THAT YtfedfekakecnfaaGreatProg.lean LOADS. Nothing in Lean hashes anything: it is a label: what it is worth is what the hold of that sum in a sandbox is worth. -/
noncomputable def Tryz.pinned : Pinned := { name := "ytfedfekakecnfaagreat", sum := "35528b9576d5d6a12d2f686bba871762c9a6a7654a12bc6bcd2ba026aa240724", checked := Tryz.checked }
namespace Rows
def none {H : Type} : Left H := { results := [], args := [] }

/-- 'pagemendlaw23.RunsBytes': WHATEVER THE INPUT: true; the input reads as it did. -/
def runsBytesSpec : ChangeSpec := { name := "runsBytes", fn := fun _ => fun
  | [d1, d2] => { results := [.lit (.bool true)], args := [d1, d2] }
  | _ => none }
def runsBytesRow : OpenClaim := { program := "ytfedfekakecnfaagreat", sum := "35528b9576d5d6a12d2f686bba871762c9a6a7654a12bc6bcd2ba026aa240724", func := "pagemend/pagemendlaw23.RunsBytes", spec := "runsBytes", inPlace := ["internal/abi.NoEscape"], unfollowed := true, recurses := true, apart := false }
def RunsBytesSaid : Prop := runsBytesRow.holds Tryz.pinned (OpenSpec.ofChange runsBytesSpec)

/-- ITS FALSE NEIGHBOUR: 'it returns false'. Refute it at one input. -/
def runsBytesWrong : ChangeSpec := { name := "runsBytes", fn := fun _ => fun
  | [d1, d2] => { results := [.lit (.bool false)], args := [d1, d2] }
  | _ => none }
def RunsBytesWrongFalsely : Prop := runsBytesRow.holds Tryz.pinned (OpenSpec.ofChange runsBytesWrong)

/-- 'pagemendlaw23.RunsBack': WHATEVER THE INPUT: true; the input reads as it did. -/
def runsBackSpec : ChangeSpec := { name := "runsBack", fn := fun _ => fun
  | [d1, d2, d3] => { results := [.lit (.bool true)], args := [d1, d2, d3] }
  | _ => none }
def runsBackRow : OpenClaim := { program := "ytfedfekakecnfaagreat", sum := "35528b9576d5d6a12d2f686bba871762c9a6a7654a12bc6bcd2ba026aa240724", func := "pagemend/pagemendlaw23.RunsBack", spec := "runsBack", inPlace := ["internal/abi.NoEscape"], unfollowed := true, recurses := true, apart := false }
def RunsBackSaid : Prop := runsBackRow.holds Tryz.pinned (OpenSpec.ofChange runsBackSpec)

/-- ITS FALSE NEIGHBOUR: 'it returns false'. Refute it at one input. -/
def runsBackWrong : ChangeSpec := { name := "runsBack", fn := fun _ => fun
  | [d1, d2, d3] => { results := [.lit (.bool false)], args := [d1, d2, d3] }
  | _ => none }
def RunsBackWrongFalsely : Prop := runsBackRow.holds Tryz.pinned (OpenSpec.ofChange runsBackWrong)

/-- 'pagemendlaw23.RunsMakes': WHATEVER THE INPUT: true; the input reads as it did. -/
def runsMakesSpec : ChangeSpec := { name := "runsMakes", fn := fun _ => fun
  | [d] => { results := [.lit (.bool true)], args := [d] }
  | _ => none }
def runsMakesRow : OpenClaim := { program := "ytfedfekakecnfaagreat", sum := "35528b9576d5d6a12d2f686bba871762c9a6a7654a12bc6bcd2ba026aa240724", func := "pagemend/pagemendlaw23.RunsMakes", spec := "runsMakes", inPlace := ["internal/abi.NoEscape"], unfollowed := true, recurses := true, apart := false }
def RunsMakesSaid : Prop := runsMakesRow.holds Tryz.pinned (OpenSpec.ofChange runsMakesSpec)

/-- ITS FALSE NEIGHBOUR: 'it returns false'. Refute it at one input. -/
def runsMakesWrong : ChangeSpec := { name := "runsMakes", fn := fun _ => fun
  | [d] => { results := [.lit (.bool false)], args := [d] }
  | _ => none }
def RunsMakesWrongFalsely : Prop := runsMakesRow.holds Tryz.pinned (OpenSpec.ofChange runsMakesWrong)

/-- 'pagemendlaw23.RunsWhole': WHATEVER THE INPUT: true; the input reads as it did. -/
def runsWholeSpec : ChangeSpec := { name := "runsWhole", fn := fun _ => fun
  | [d1, d2, d3, d4, d5] => { results := [.lit (.bool true)], args := [d1, d2, d3, d4, d5] }
  | _ => none }
def runsWholeRow : OpenClaim := { program := "ytfedfekakecnfaagreat", sum := "35528b9576d5d6a12d2f686bba871762c9a6a7654a12bc6bcd2ba026aa240724", func := "pagemend/pagemendlaw23.RunsWhole", spec := "runsWhole", inPlace := ["internal/abi.NoEscape"], unfollowed := true, recurses := true, apart := false }
def RunsWholeSaid : Prop := runsWholeRow.holds Tryz.pinned (OpenSpec.ofChange runsWholeSpec)

/-- ITS FALSE NEIGHBOUR: 'it returns false'. Refute it at one input. -/
def runsWholeWrong : ChangeSpec := { name := "runsWhole", fn := fun _ => fun
  | [d1, d2, d3, d4, d5] => { results := [.lit (.bool false)], args := [d1, d2, d3, d4, d5] }
  | _ => none }
def RunsWholeWrongFalsely : Prop := runsWholeRow.holds Tryz.pinned (OpenSpec.ofChange runsWholeWrong)

/-- 'pagemendlaw23.RunsExact': WHATEVER THE INPUT: true; the input reads as it did. -/
def runsExactSpec : ChangeSpec := { name := "runsExact", fn := fun _ => fun
  | [d1, d2, d3, d4, d5] => { results := [.lit (.bool true)], args := [d1, d2, d3, d4, d5] }
  | _ => none }
def runsExactRow : OpenClaim := { program := "ytfedfekakecnfaagreat", sum := "35528b9576d5d6a12d2f686bba871762c9a6a7654a12bc6bcd2ba026aa240724", func := "pagemend/pagemendlaw23.RunsExact", spec := "runsExact", inPlace := ["internal/abi.NoEscape"], unfollowed := true, recurses := true, apart := false }
def RunsExactSaid : Prop := runsExactRow.holds Tryz.pinned (OpenSpec.ofChange runsExactSpec)

/-- ITS FALSE NEIGHBOUR: 'it returns false'. Refute it at one input. -/
def runsExactWrong : ChangeSpec := { name := "runsExact", fn := fun _ => fun
  | [d1, d2, d3, d4, d5] => { results := [.lit (.bool false)], args := [d1, d2, d3, d4, d5] }
  | _ => none }
def RunsExactWrongFalsely : Prop := runsExactRow.holds Tryz.pinned (OpenSpec.ofChange runsExactWrong)

/-- 'pagemendlaw23.RunsOrder': WHATEVER THE INPUT: true; the input reads as it did. -/
def runsOrderSpec : ChangeSpec := { name := "runsOrder", fn := fun _ => fun
  | [d] => { results := [.lit (.bool true)], args := [d] }
  | _ => none }
def runsOrderRow : OpenClaim := { program := "ytfedfekakecnfaagreat", sum := "35528b9576d5d6a12d2f686bba871762c9a6a7654a12bc6bcd2ba026aa240724", func := "pagemend/pagemendlaw23.RunsOrder", spec := "runsOrder", inPlace := ["internal/abi.NoEscape"], unfollowed := true, recurses := true, apart := false }
def RunsOrderSaid : Prop := runsOrderRow.holds Tryz.pinned (OpenSpec.ofChange runsOrderSpec)

/-- ITS FALSE NEIGHBOUR: 'it returns false'. Refute it at one input. -/
def runsOrderWrong : ChangeSpec := { name := "runsOrder", fn := fun _ => fun
  | [d] => { results := [.lit (.bool false)], args := [d] }
  | _ => none }
def RunsOrderWrongFalsely : Prop := runsOrderRow.holds Tryz.pinned (OpenSpec.ofChange runsOrderWrong)

/- THE SECOND FORM. 'bulk': how many values and letters a reading holds, each counted each time it is reached (what is shared counts as often as it is met; a slice's spare places count too). A statement '..UptoSaid' is the law's where the arguments, and the package variables that the reading takes, are together of bulk at most 1048576: NARROWER than '..Said'. Prove '..Said' where nothing that the law and all that it calls make is longer than what came in: it says more and counts as full. Else prove '..UptoSaid'. A law counts once. -/
mutual
def uptoBulk {H : Type} : DataW H → Nat
  | .lit (.string bytes) => bytes.length + 1
  | .lit _ => 1
  | .nil => 1
  | .ptr d => uptoBulk d + 1
  | .slice elems spare => uptoBulkAll elems + uptoBulkAll spare + 1
  | .agg parts => uptoBulkAll parts + 1
  | .iface _ d => uptoBulk d + 1
  | .map entries => uptoBulkEntries entries + 1
  | .held _ => 1
def uptoBulkAll {H : Type} : List (DataW H) → Nat
  | [] => 0
  | d :: r => uptoBulk d + uptoBulkAll r
def uptoBulkEntries {H : Type} : List (Lit × DataW H) → Nat
  | [] => 0
  | x :: r => uptoBulkEntry x + uptoBulkEntries r
def uptoBulkEntry {H : Type} : Lit × DataW H → Nat
  | (.string bytes, d) => bytes.length + uptoBulk d + 1
  | (_, d) => uptoBulk d + 1
 end
def uptoSmall : (H : Type) → List (DataW H) → Bool := fun _ ds => decide (uptoBulkAll ds ≤ 1048576)
def OpenSpec.upto (s : _root_.Go.ChangeSpec) : _root_.Go.OpenSpec := { _root_.Go.OpenSpec.ofChange s with cond := some uptoSmall }

/-- 'pagemendlaw23.RunsBytes', WHERE WHAT IT READS IS OF BULK AT MOST 1048576: true; the input reads as it did. -/
def runsBytesUptoRow : OpenClaim := { program := "ytfedfekakecnfaagreat", sum := "35528b9576d5d6a12d2f686bba871762c9a6a7654a12bc6bcd2ba026aa240724", func := "pagemend/pagemendlaw23.RunsBytes", spec := "runsBytes", inPlace := ["internal/abi.NoEscape"], unfollowed := true, recurses := true, apart := false, narrowed := true }
def RunsBytesUptoSaid : Prop := runsBytesUptoRow.holds Tryz.pinned (OpenSpec.upto runsBytesSpec)

/-- 'pagemendlaw23.RunsBack', WHERE WHAT IT READS IS OF BULK AT MOST 1048576: true; the input reads as it did. -/
def runsBackUptoRow : OpenClaim := { program := "ytfedfekakecnfaagreat", sum := "35528b9576d5d6a12d2f686bba871762c9a6a7654a12bc6bcd2ba026aa240724", func := "pagemend/pagemendlaw23.RunsBack", spec := "runsBack", inPlace := ["internal/abi.NoEscape"], unfollowed := true, recurses := true, apart := false, narrowed := true }
def RunsBackUptoSaid : Prop := runsBackUptoRow.holds Tryz.pinned (OpenSpec.upto runsBackSpec)

/-- 'pagemendlaw23.RunsMakes', WHERE WHAT IT READS IS OF BULK AT MOST 1048576: true; the input reads as it did. -/
def runsMakesUptoRow : OpenClaim := { program := "ytfedfekakecnfaagreat", sum := "35528b9576d5d6a12d2f686bba871762c9a6a7654a12bc6bcd2ba026aa240724", func := "pagemend/pagemendlaw23.RunsMakes", spec := "runsMakes", inPlace := ["internal/abi.NoEscape"], unfollowed := true, recurses := true, apart := false, narrowed := true }
def RunsMakesUptoSaid : Prop := runsMakesUptoRow.holds Tryz.pinned (OpenSpec.upto runsMakesSpec)

/-- 'pagemendlaw23.RunsWhole', WHERE WHAT IT READS IS OF BULK AT MOST 1048576: true; the input reads as it did. -/
def runsWholeUptoRow : OpenClaim := { program := "ytfedfekakecnfaagreat", sum := "35528b9576d5d6a12d2f686bba871762c9a6a7654a12bc6bcd2ba026aa240724", func := "pagemend/pagemendlaw23.RunsWhole", spec := "runsWhole", inPlace := ["internal/abi.NoEscape"], unfollowed := true, recurses := true, apart := false, narrowed := true }
def RunsWholeUptoSaid : Prop := runsWholeUptoRow.holds Tryz.pinned (OpenSpec.upto runsWholeSpec)

/-- 'pagemendlaw23.RunsExact', WHERE WHAT IT READS IS OF BULK AT MOST 1048576: true; the input reads as it did. -/
def runsExactUptoRow : OpenClaim := { program := "ytfedfekakecnfaagreat", sum := "35528b9576d5d6a12d2f686bba871762c9a6a7654a12bc6bcd2ba026aa240724", func := "pagemend/pagemendlaw23.RunsExact", spec := "runsExact", inPlace := ["internal/abi.NoEscape"], unfollowed := true, recurses := true, apart := false, narrowed := true }
def RunsExactUptoSaid : Prop := runsExactUptoRow.holds Tryz.pinned (OpenSpec.upto runsExactSpec)

/-- 'pagemendlaw23.RunsOrder', WHERE WHAT IT READS IS OF BULK AT MOST 1048576: true; the input reads as it did. -/
def runsOrderUptoRow : OpenClaim := { program := "ytfedfekakecnfaagreat", sum := "35528b9576d5d6a12d2f686bba871762c9a6a7654a12bc6bcd2ba026aa240724", func := "pagemend/pagemendlaw23.RunsOrder", spec := "runsOrder", inPlace := ["internal/abi.NoEscape"], unfollowed := true, recurses := true, apart := false, narrowed := true }
def RunsOrderUptoSaid : Prop := runsOrderUptoRow.holds Tryz.pinned (OpenSpec.upto runsOrderSpec)

end Rows
end Go.Proofs.YtfedfekakecnfaaGreat

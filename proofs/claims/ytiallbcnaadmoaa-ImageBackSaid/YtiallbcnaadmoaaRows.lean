/-
  No cell of these rows narrows 'for every input' (looked for: loops, veiled, ifaces, maps, wideKeys, modest, calm, conditions, laid).
  DERIVED. THE GIVEN ROWS OF THIS SEAT. 15 by the template 'for every input the law returns true; each argument reads behind the call as it read before'; 0 by the template 'total and deterministic' (their statements: YtiallbcnaadmoaaTotals.lean).
  GIVEN WITH THE SEED: the statements are not yours to turn. If you find one false, say at which input.
  Laid BY PROGRAM, IN A SANDBOX (cutbox-rows.mjs): the forced cells as the released guide's own fill.sh prints them over the translation 7d6a645f23e509f1… (all of the seat's roots in one cut). By AI agents, Wed Nov 11 2026. No macro, syntax, notation, axiom, sorry.
-/
import Derived.Test.YtiallbcnaadmoaaChecked
import GoSem.Claim
import GoSem.ClaimJoined
import GoSem.ClaimMapViews
import Derived.JoinedTies
import Derived.KernelRfl
namespace Go.Proofs.Ytiallbcnaadmoaa
/- THE CELL 'sum', in the pinned program and in every row, IS THE sha256 OF THE DUMP (.gsa) THAT YtiallbcnaadmoaaProg.lean LOADS. Nothing in Lean hashes anything: it is a label: what it is worth is what the hold of that sum in a sandbox is worth. -/
noncomputable def Try.pinned : Pinned := { name := "ytiallbcnaadmoaa", sum := "7d6a645f23e509f1e730c6ecfbded573f69724c45af6dd70f273b9d3f805d9ff", checked := Try.checked }
namespace Rows
def none {H : Type} : Left H := { results := [], args := [] }

/-- 'pagemendlaw28.ImageBytes': WHATEVER THE INPUT: true; the input reads as it did. -/
def imageBytesSpec : ChangeSpec := { name := "imageBytes", fn := fun _ => fun
  | [d1, d2] => { results := [.lit (.bool true)], args := [d1, d2] }
  | _ => none }
def imageBytesRow : OpenClaim := { program := "ytiallbcnaadmoaa", sum := "7d6a645f23e509f1e730c6ecfbded573f69724c45af6dd70f273b9d3f805d9ff", func := "pagemend/pagemendlaw28.ImageBytes", spec := "imageBytes", inPlace := ["internal/abi.NoEscape", "internal/bytealg.MakeNoZero"], unfollowed := true, recurses := true, apart := false }
def ImageBytesSaid : Prop := imageBytesRow.holds Try.pinned (OpenSpec.ofChange imageBytesSpec)

/-- ITS FALSE NEIGHBOUR: 'it returns false'. Refute it at one input. -/
def imageBytesWrong : ChangeSpec := { name := "imageBytes", fn := fun _ => fun
  | [d1, d2] => { results := [.lit (.bool false)], args := [d1, d2] }
  | _ => none }
def ImageBytesWrongFalsely : Prop := imageBytesRow.holds Try.pinned (OpenSpec.ofChange imageBytesWrong)

/-- 'pagemendlaw11.PageindexJudges': WHATEVER THE INPUT: true; the input reads as it did. -/
def pageindexJudgesSpec : ChangeSpec := { name := "pageindexJudges", fn := fun _ => fun
  | [d1, d2, d3, d4, d5] => { results := [.lit (.bool true)], args := [d1, d2, d3, d4, d5] }
  | _ => none }
def pageindexJudgesRow : OpenClaim := { program := "ytiallbcnaadmoaa", sum := "7d6a645f23e509f1e730c6ecfbded573f69724c45af6dd70f273b9d3f805d9ff", func := "pagemend/pagemendlaw11.PageindexJudges", spec := "pageindexJudges", inPlace := ["internal/abi.NoEscape", "internal/bytealg.MakeNoZero"], unfollowed := true, recurses := true, apart := false }
def PageindexJudgesSaid : Prop := pageindexJudgesRow.holds Try.pinned (OpenSpec.ofChange pageindexJudgesSpec)

/-- ITS FALSE NEIGHBOUR: 'it returns false'. Refute it at one input. -/
def pageindexJudgesWrong : ChangeSpec := { name := "pageindexJudges", fn := fun _ => fun
  | [d1, d2, d3, d4, d5] => { results := [.lit (.bool false)], args := [d1, d2, d3, d4, d5] }
  | _ => none }
def PageindexJudgesWrongFalsely : Prop := pageindexJudgesRow.holds Try.pinned (OpenSpec.ofChange pageindexJudgesWrong)

/-- 'pagemendlaw11.PageindexFinds': WHATEVER THE INPUT: true; the input reads as it did. -/
def pageindexFindsSpec : ChangeSpec := { name := "pageindexFinds", fn := fun _ => fun
  | [d1, d2, d3] => { results := [.lit (.bool true)], args := [d1, d2, d3] }
  | _ => none }
def pageindexFindsRow : OpenClaim := { program := "ytiallbcnaadmoaa", sum := "7d6a645f23e509f1e730c6ecfbded573f69724c45af6dd70f273b9d3f805d9ff", func := "pagemend/pagemendlaw11.PageindexFinds", spec := "pageindexFinds", inPlace := ["internal/abi.NoEscape", "internal/bytealg.MakeNoZero"], unfollowed := true, recurses := true, apart := false }
def PageindexFindsSaid : Prop := pageindexFindsRow.holds Try.pinned (OpenSpec.ofChange pageindexFindsSpec)

/-- ITS FALSE NEIGHBOUR: 'it returns false'. Refute it at one input. -/
def pageindexFindsWrong : ChangeSpec := { name := "pageindexFinds", fn := fun _ => fun
  | [d1, d2, d3] => { results := [.lit (.bool false)], args := [d1, d2, d3] }
  | _ => none }
def PageindexFindsWrongFalsely : Prop := pageindexFindsRow.holds Try.pinned (OpenSpec.ofChange pageindexFindsWrong)

/-- 'pagemendlaw28.ImageBack': WHATEVER THE INPUT: true; the input reads as it did. -/
def imageBackSpec : ChangeSpec := { name := "imageBack", fn := fun _ => fun
  | [d1, d2, d3] => { results := [.lit (.bool true)], args := [d1, d2, d3] }
  | _ => none }
def imageBackRow : OpenClaim := { program := "ytiallbcnaadmoaa", sum := "7d6a645f23e509f1e730c6ecfbded573f69724c45af6dd70f273b9d3f805d9ff", func := "pagemend/pagemendlaw28.ImageBack", spec := "imageBack", inPlace := ["internal/abi.NoEscape", "internal/bytealg.MakeNoZero"], unfollowed := true, recurses := true, apart := false }
def ImageBackSaid : Prop := imageBackRow.holds Try.pinned (OpenSpec.ofChange imageBackSpec)

/-- ITS FALSE NEIGHBOUR: 'it returns false'. Refute it at one input. -/
def imageBackWrong : ChangeSpec := { name := "imageBack", fn := fun _ => fun
  | [d1, d2, d3] => { results := [.lit (.bool false)], args := [d1, d2, d3] }
  | _ => none }
def ImageBackWrongFalsely : Prop := imageBackRow.holds Try.pinned (OpenSpec.ofChange imageBackWrong)

/-- 'pagemendlaw28.ImageWholes': WHATEVER THE INPUT: true; the input reads as it did. -/
def imageWholesSpec : ChangeSpec := { name := "imageWholes", fn := fun _ => fun
  | [d1, d2] => { results := [.lit (.bool true)], args := [d1, d2] }
  | _ => none }
def imageWholesRow : OpenClaim := { program := "ytiallbcnaadmoaa", sum := "7d6a645f23e509f1e730c6ecfbded573f69724c45af6dd70f273b9d3f805d9ff", func := "pagemend/pagemendlaw28.ImageWholes", spec := "imageWholes", inPlace := ["internal/abi.NoEscape", "internal/bytealg.MakeNoZero", "slices.overlaps[pagemend/api.Copy]"], unfollowed := true, recurses := true, apart := false }
def ImageWholesSaid : Prop := imageWholesRow.holds Try.pinned (OpenSpec.ofChange imageWholesSpec)

/-- ITS FALSE NEIGHBOUR: 'it returns false'. Refute it at one input. -/
def imageWholesWrong : ChangeSpec := { name := "imageWholes", fn := fun _ => fun
  | [d1, d2] => { results := [.lit (.bool false)], args := [d1, d2] }
  | _ => none }
def ImageWholesWrongFalsely : Prop := imageWholesRow.holds Try.pinned (OpenSpec.ofChange imageWholesWrong)

/-- 'pagemendlaw04.DevicePlays': WHATEVER THE INPUT: true; the input reads as it did. -/
def devicePlaysSpec : ChangeSpec := { name := "devicePlays", fn := fun _ => fun
  | [d] => { results := [.lit (.bool true)], args := [d] }
  | _ => none }
def devicePlaysRow : OpenClaim := { program := "ytiallbcnaadmoaa", sum := "7d6a645f23e509f1e730c6ecfbded573f69724c45af6dd70f273b9d3f805d9ff", func := "pagemend/pagemendlaw04.DevicePlays", spec := "devicePlays", inPlace := ["internal/abi.NoEscape", "internal/bytealg.MakeNoZero", "slices.overlaps[int]"], unfollowed := true, recurses := true, apart := false }
def DevicePlaysSaid : Prop := devicePlaysRow.holds Try.pinned (OpenSpec.ofChange devicePlaysSpec)

/-- ITS FALSE NEIGHBOUR: 'it returns false'. Refute it at one input. -/
def devicePlaysWrong : ChangeSpec := { name := "devicePlays", fn := fun _ => fun
  | [d] => { results := [.lit (.bool false)], args := [d] }
  | _ => none }
def DevicePlaysWrongFalsely : Prop := devicePlaysRow.holds Try.pinned (OpenSpec.ofChange devicePlaysWrong)

/-- 'pagemendlaw04.DeviceQuiet': WHATEVER THE INPUT: true; the input reads as it did. -/
def deviceQuietSpec : ChangeSpec := { name := "deviceQuiet", fn := fun _ => fun
  | [d] => { results := [.lit (.bool true)], args := [d] }
  | _ => none }
def deviceQuietRow : OpenClaim := { program := "ytiallbcnaadmoaa", sum := "7d6a645f23e509f1e730c6ecfbded573f69724c45af6dd70f273b9d3f805d9ff", func := "pagemend/pagemendlaw04.DeviceQuiet", spec := "deviceQuiet", inPlace := ["internal/abi.NoEscape", "internal/bytealg.MakeNoZero", "slices.overlaps[int]"], unfollowed := true, recurses := true, apart := false }
def DeviceQuietSaid : Prop := deviceQuietRow.holds Try.pinned (OpenSpec.ofChange deviceQuietSpec)

/-- ITS FALSE NEIGHBOUR: 'it returns false'. Refute it at one input. -/
def deviceQuietWrong : ChangeSpec := { name := "deviceQuiet", fn := fun _ => fun
  | [d] => { results := [.lit (.bool false)], args := [d] }
  | _ => none }
def DeviceQuietWrongFalsely : Prop := deviceQuietRow.holds Try.pinned (OpenSpec.ofChange deviceQuietWrong)

/-- 'pagemendlaw04.DeviceOnce': WHATEVER THE INPUT: true; the input reads as it did. -/
def deviceOnceSpec : ChangeSpec := { name := "deviceOnce", fn := fun _ => fun
  | [d1, d2, d3] => { results := [.lit (.bool true)], args := [d1, d2, d3] }
  | _ => none }
def deviceOnceRow : OpenClaim := { program := "ytiallbcnaadmoaa", sum := "7d6a645f23e509f1e730c6ecfbded573f69724c45af6dd70f273b9d3f805d9ff", func := "pagemend/pagemendlaw04.DeviceOnce", spec := "deviceOnce", inPlace := ["internal/abi.NoEscape", "internal/bytealg.MakeNoZero", "slices.overlaps[int]"], unfollowed := true, recurses := true, apart := false }
def DeviceOnceSaid : Prop := deviceOnceRow.holds Try.pinned (OpenSpec.ofChange deviceOnceSpec)

/-- ITS FALSE NEIGHBOUR: 'it returns false'. Refute it at one input. -/
def deviceOnceWrong : ChangeSpec := { name := "deviceOnce", fn := fun _ => fun
  | [d1, d2, d3] => { results := [.lit (.bool false)], args := [d1, d2, d3] }
  | _ => none }
def DeviceOnceWrongFalsely : Prop := deviceOnceRow.holds Try.pinned (OpenSpec.ofChange deviceOnceWrong)

/-- 'pagemendlaw28.ImagePuts': WHATEVER THE INPUT: true; the input reads as it did. -/
def imagePutsSpec : ChangeSpec := { name := "imagePuts", fn := fun _ => fun
  | [d] => { results := [.lit (.bool true)], args := [d] }
  | _ => none }
def imagePutsRow : OpenClaim := { program := "ytiallbcnaadmoaa", sum := "7d6a645f23e509f1e730c6ecfbded573f69724c45af6dd70f273b9d3f805d9ff", func := "pagemend/pagemendlaw28.ImagePuts", spec := "imagePuts", inPlace := ["internal/abi.NoEscape", "internal/bytealg.MakeNoZero", "slices.overlaps[pagemend/api.Copy]"], unfollowed := true, recurses := true, apart := false }
def ImagePutsSaid : Prop := imagePutsRow.holds Try.pinned (OpenSpec.ofChange imagePutsSpec)

/-- ITS FALSE NEIGHBOUR: 'it returns false'. Refute it at one input. -/
def imagePutsWrong : ChangeSpec := { name := "imagePuts", fn := fun _ => fun
  | [d] => { results := [.lit (.bool false)], args := [d] }
  | _ => none }
def ImagePutsWrongFalsely : Prop := imagePutsRow.holds Try.pinned (OpenSpec.ofChange imagePutsWrong)

/-- 'pagemendlaw04.DeviceTears': WHATEVER THE INPUT: true; the input reads as it did. -/
def deviceTearsSpec : ChangeSpec := { name := "deviceTears", fn := fun _ => fun
  | [d1, d2, d3] => { results := [.lit (.bool true)], args := [d1, d2, d3] }
  | _ => none }
def deviceTearsRow : OpenClaim := { program := "ytiallbcnaadmoaa", sum := "7d6a645f23e509f1e730c6ecfbded573f69724c45af6dd70f273b9d3f805d9ff", func := "pagemend/pagemendlaw04.DeviceTears", spec := "deviceTears", inPlace := ["internal/abi.NoEscape", "internal/bytealg.MakeNoZero", "slices.overlaps[int]"], unfollowed := true, recurses := true, apart := false }
def DeviceTearsSaid : Prop := deviceTearsRow.holds Try.pinned (OpenSpec.ofChange deviceTearsSpec)

/-- ITS FALSE NEIGHBOUR: 'it returns false'. Refute it at one input. -/
def deviceTearsWrong : ChangeSpec := { name := "deviceTears", fn := fun _ => fun
  | [d1, d2, d3] => { results := [.lit (.bool false)], args := [d1, d2, d3] }
  | _ => none }
def DeviceTearsWrongFalsely : Prop := deviceTearsRow.holds Try.pinned (OpenSpec.ofChange deviceTearsWrong)

/-- 'pagemendlaw04.DeviceExact': WHATEVER THE INPUT: true; the input reads as it did. -/
def deviceExactSpec : ChangeSpec := { name := "deviceExact", fn := fun _ => fun
  | [d1, d2, d3, d4, d5] => { results := [.lit (.bool true)], args := [d1, d2, d3, d4, d5] }
  | _ => none }
def deviceExactRow : OpenClaim := { program := "ytiallbcnaadmoaa", sum := "7d6a645f23e509f1e730c6ecfbded573f69724c45af6dd70f273b9d3f805d9ff", func := "pagemend/pagemendlaw04.DeviceExact", spec := "deviceExact", inPlace := ["internal/abi.NoEscape", "internal/bytealg.MakeNoZero", "slices.overlaps[int]"], unfollowed := true, recurses := true, apart := false }
def DeviceExactSaid : Prop := deviceExactRow.holds Try.pinned (OpenSpec.ofChange deviceExactSpec)

/-- ITS FALSE NEIGHBOUR: 'it returns false'. Refute it at one input. -/
def deviceExactWrong : ChangeSpec := { name := "deviceExact", fn := fun _ => fun
  | [d1, d2, d3, d4, d5] => { results := [.lit (.bool false)], args := [d1, d2, d3, d4, d5] }
  | _ => none }
def DeviceExactWrongFalsely : Prop := deviceExactRow.holds Try.pinned (OpenSpec.ofChange deviceExactWrong)

/-- 'pagemendlaw04.DeviceDead': WHATEVER THE INPUT: true; the input reads as it did. -/
def deviceDeadSpec : ChangeSpec := { name := "deviceDead", fn := fun _ => fun
  | [d1, d2] => { results := [.lit (.bool true)], args := [d1, d2] }
  | _ => none }
def deviceDeadRow : OpenClaim := { program := "ytiallbcnaadmoaa", sum := "7d6a645f23e509f1e730c6ecfbded573f69724c45af6dd70f273b9d3f805d9ff", func := "pagemend/pagemendlaw04.DeviceDead", spec := "deviceDead", inPlace := ["internal/abi.NoEscape", "internal/bytealg.MakeNoZero", "slices.overlaps[int]"], unfollowed := true, recurses := true, apart := false }
def DeviceDeadSaid : Prop := deviceDeadRow.holds Try.pinned (OpenSpec.ofChange deviceDeadSpec)

/-- ITS FALSE NEIGHBOUR: 'it returns false'. Refute it at one input. -/
def deviceDeadWrong : ChangeSpec := { name := "deviceDead", fn := fun _ => fun
  | [d1, d2] => { results := [.lit (.bool false)], args := [d1, d2] }
  | _ => none }
def DeviceDeadWrongFalsely : Prop := deviceDeadRow.holds Try.pinned (OpenSpec.ofChange deviceDeadWrong)

/-- 'pagemendlaw28.ImageExact': WHATEVER THE INPUT: true; the input reads as it did. -/
def imageExactSpec : ChangeSpec := { name := "imageExact", fn := fun _ => fun
  | [d1, d2, d3] => { results := [.lit (.bool true)], args := [d1, d2, d3] }
  | _ => none }
def imageExactRow : OpenClaim := { program := "ytiallbcnaadmoaa", sum := "7d6a645f23e509f1e730c6ecfbded573f69724c45af6dd70f273b9d3f805d9ff", func := "pagemend/pagemendlaw28.ImageExact", spec := "imageExact", inPlace := ["internal/abi.NoEscape", "internal/bytealg.MakeNoZero", "slices.overlaps[pagemend/api.Copy]"], unfollowed := true, recurses := true, apart := false }
def ImageExactSaid : Prop := imageExactRow.holds Try.pinned (OpenSpec.ofChange imageExactSpec)

/-- ITS FALSE NEIGHBOUR: 'it returns false'. Refute it at one input. -/
def imageExactWrong : ChangeSpec := { name := "imageExact", fn := fun _ => fun
  | [d1, d2, d3] => { results := [.lit (.bool false)], args := [d1, d2, d3] }
  | _ => none }
def ImageExactWrongFalsely : Prop := imageExactRow.holds Try.pinned (OpenSpec.ofChange imageExactWrong)

/-- 'pagemendlaw10.PoolDirty': WHATEVER THE INPUT: true; the input reads as it did. -/
def poolDirtySpec : ChangeSpec := { name := "poolDirty", fn := fun _ => fun
  | [d] => { results := [.lit (.bool true)], args := [d] }
  | _ => none }
def poolDirtyRow : OpenClaim := { program := "ytiallbcnaadmoaa", sum := "7d6a645f23e509f1e730c6ecfbded573f69724c45af6dd70f273b9d3f805d9ff", func := "pagemend/pagemendlaw10.PoolDirty", spec := "poolDirty", inPlace := ["internal/abi.NoEscape", "internal/bytealg.MakeNoZero"], unfollowed := true, recurses := true, apart := false }
def PoolDirtySaid : Prop := poolDirtyRow.holds Try.pinned (OpenSpec.ofChange poolDirtySpec)

/-- ITS FALSE NEIGHBOUR: 'it returns false'. Refute it at one input. -/
def poolDirtyWrong : ChangeSpec := { name := "poolDirty", fn := fun _ => fun
  | [d] => { results := [.lit (.bool false)], args := [d] }
  | _ => none }
def PoolDirtyWrongFalsely : Prop := poolDirtyRow.holds Try.pinned (OpenSpec.ofChange poolDirtyWrong)

/-- 'pagemendlaw10.PoolExact': WHATEVER THE INPUT: true; the input reads as it did. -/
def poolExactSpec : ChangeSpec := { name := "poolExact", fn := fun _ => fun
  | [d1, d2, d3, d4, d5] => { results := [.lit (.bool true)], args := [d1, d2, d3, d4, d5] }
  | _ => none }
def poolExactRow : OpenClaim := { program := "ytiallbcnaadmoaa", sum := "7d6a645f23e509f1e730c6ecfbded573f69724c45af6dd70f273b9d3f805d9ff", func := "pagemend/pagemendlaw10.PoolExact", spec := "poolExact", inPlace := ["internal/abi.NoEscape", "internal/bytealg.MakeNoZero"], unfollowed := true, recurses := true, apart := false }
def PoolExactSaid : Prop := poolExactRow.holds Try.pinned (OpenSpec.ofChange poolExactSpec)

/-- ITS FALSE NEIGHBOUR: 'it returns false'. Refute it at one input. -/
def poolExactWrong : ChangeSpec := { name := "poolExact", fn := fun _ => fun
  | [d1, d2, d3, d4, d5] => { results := [.lit (.bool false)], args := [d1, d2, d3, d4, d5] }
  | _ => none }
def PoolExactWrongFalsely : Prop := poolExactRow.holds Try.pinned (OpenSpec.ofChange poolExactWrong)

/- THE SECOND FORM. 'bulk': how many values and letters a reading holds, each counted each time it is reached (what is shared counts as often as it is met; a slice's spare places count too). A statement '..UptoSaid' is the law's where the arguments, and the package variables that the reading takes, are together of bulk at most 1048576: NARROWER than '..Said'. Prove '..Said' where nothing that the law and all that it calls make is longer than what came in: it says more and counts as full. Else prove '..UptoSaid'. A law counts once. -/
mutual
def uptoBulk {H : Type} : DataW H → Nat
  | .lit (.string bytes) => bytes.length + 1
  | .lit _ => 1
  | .nil => 1
  | .ptr d => uptoBulk d + 1
  | .slice elems spare => uptoBulkAll elems + uptoBulkAll spare + 1
  | .agg parts => uptoBulkAll parts + 1
  | .iface _ d => uptoBulk d + 1
  | .map entries => uptoBulkEntries entries + 1
  | .held _ => 1
def uptoBulkAll {H : Type} : List (DataW H) → Nat
  | [] => 0
  | d :: r => uptoBulk d + uptoBulkAll r
def uptoBulkEntries {H : Type} : List (Lit × DataW H) → Nat
  | [] => 0
  | x :: r => uptoBulkEntry x + uptoBulkEntries r
def uptoBulkEntry {H : Type} : Lit × DataW H → Nat
  | (.string bytes, d) => bytes.length + uptoBulk d + 1
  | (_, d) => uptoBulk d + 1
 end
def uptoSmall : (H : Type) → List (DataW H) → Bool := fun _ ds => decide (uptoBulkAll ds ≤ 1048576)
def OpenSpec.upto (s : _root_.Go.ChangeSpec) : _root_.Go.OpenSpec := { _root_.Go.OpenSpec.ofChange s with cond := some uptoSmall }

/-- 'pagemendlaw28.ImageBytes', WHERE WHAT IT READS IS OF BULK AT MOST 1048576: true; the input reads as it did. -/
def imageBytesUptoRow : OpenClaim := { program := "ytiallbcnaadmoaa", sum := "7d6a645f23e509f1e730c6ecfbded573f69724c45af6dd70f273b9d3f805d9ff", func := "pagemend/pagemendlaw28.ImageBytes", spec := "imageBytes", inPlace := ["internal/abi.NoEscape", "internal/bytealg.MakeNoZero"], unfollowed := true, recurses := true, apart := false, narrowed := true }
def ImageBytesUptoSaid : Prop := imageBytesUptoRow.holds Try.pinned (OpenSpec.upto imageBytesSpec)

/-- 'pagemendlaw11.PageindexJudges', WHERE WHAT IT READS IS OF BULK AT MOST 1048576: true; the input reads as it did. -/
def pageindexJudgesUptoRow : OpenClaim := { program := "ytiallbcnaadmoaa", sum := "7d6a645f23e509f1e730c6ecfbded573f69724c45af6dd70f273b9d3f805d9ff", func := "pagemend/pagemendlaw11.PageindexJudges", spec := "pageindexJudges", inPlace := ["internal/abi.NoEscape", "internal/bytealg.MakeNoZero"], unfollowed := true, recurses := true, apart := false, narrowed := true }
def PageindexJudgesUptoSaid : Prop := pageindexJudgesUptoRow.holds Try.pinned (OpenSpec.upto pageindexJudgesSpec)

/-- 'pagemendlaw11.PageindexFinds', WHERE WHAT IT READS IS OF BULK AT MOST 1048576: true; the input reads as it did. -/
def pageindexFindsUptoRow : OpenClaim := { program := "ytiallbcnaadmoaa", sum := "7d6a645f23e509f1e730c6ecfbded573f69724c45af6dd70f273b9d3f805d9ff", func := "pagemend/pagemendlaw11.PageindexFinds", spec := "pageindexFinds", inPlace := ["internal/abi.NoEscape", "internal/bytealg.MakeNoZero"], unfollowed := true, recurses := true, apart := false, narrowed := true }
def PageindexFindsUptoSaid : Prop := pageindexFindsUptoRow.holds Try.pinned (OpenSpec.upto pageindexFindsSpec)

/-- 'pagemendlaw28.ImageBack', WHERE WHAT IT READS IS OF BULK AT MOST 1048576: true; the input reads as it did. -/
def imageBackUptoRow : OpenClaim := { program := "ytiallbcnaadmoaa", sum := "7d6a645f23e509f1e730c6ecfbded573f69724c45af6dd70f273b9d3f805d9ff", func := "pagemend/pagemendlaw28.ImageBack", spec := "imageBack", inPlace := ["internal/abi.NoEscape", "internal/bytealg.MakeNoZero"], unfollowed := true, recurses := true, apart := false, narrowed := true }
def ImageBackUptoSaid : Prop := imageBackUptoRow.holds Try.pinned (OpenSpec.upto imageBackSpec)

/-- 'pagemendlaw28.ImageWholes', WHERE WHAT IT READS IS OF BULK AT MOST 1048576: true; the input reads as it did. -/
def imageWholesUptoRow : OpenClaim := { program := "ytiallbcnaadmoaa", sum := "7d6a645f23e509f1e730c6ecfbded573f69724c45af6dd70f273b9d3f805d9ff", func := "pagemend/pagemendlaw28.ImageWholes", spec := "imageWholes", inPlace := ["internal/abi.NoEscape", "internal/bytealg.MakeNoZero", "slices.overlaps[pagemend/api.Copy]"], unfollowed := true, recurses := true, apart := false, narrowed := true }
def ImageWholesUptoSaid : Prop := imageWholesUptoRow.holds Try.pinned (OpenSpec.upto imageWholesSpec)

/-- 'pagemendlaw04.DevicePlays', WHERE WHAT IT READS IS OF BULK AT MOST 1048576: true; the input reads as it did. -/
def devicePlaysUptoRow : OpenClaim := { program := "ytiallbcnaadmoaa", sum := "7d6a645f23e509f1e730c6ecfbded573f69724c45af6dd70f273b9d3f805d9ff", func := "pagemend/pagemendlaw04.DevicePlays", spec := "devicePlays", inPlace := ["internal/abi.NoEscape", "internal/bytealg.MakeNoZero", "slices.overlaps[int]"], unfollowed := true, recurses := true, apart := false, narrowed := true }
def DevicePlaysUptoSaid : Prop := devicePlaysUptoRow.holds Try.pinned (OpenSpec.upto devicePlaysSpec)

/-- 'pagemendlaw04.DeviceQuiet', WHERE WHAT IT READS IS OF BULK AT MOST 1048576: true; the input reads as it did. -/
def deviceQuietUptoRow : OpenClaim := { program := "ytiallbcnaadmoaa", sum := "7d6a645f23e509f1e730c6ecfbded573f69724c45af6dd70f273b9d3f805d9ff", func := "pagemend/pagemendlaw04.DeviceQuiet", spec := "deviceQuiet", inPlace := ["internal/abi.NoEscape", "internal/bytealg.MakeNoZero", "slices.overlaps[int]"], unfollowed := true, recurses := true, apart := false, narrowed := true }
def DeviceQuietUptoSaid : Prop := deviceQuietUptoRow.holds Try.pinned (OpenSpec.upto deviceQuietSpec)

/-- 'pagemendlaw04.DeviceOnce', WHERE WHAT IT READS IS OF BULK AT MOST 1048576: true; the input reads as it did. -/
def deviceOnceUptoRow : OpenClaim := { program := "ytiallbcnaadmoaa", sum := "7d6a645f23e509f1e730c6ecfbded573f69724c45af6dd70f273b9d3f805d9ff", func := "pagemend/pagemendlaw04.DeviceOnce", spec := "deviceOnce", inPlace := ["internal/abi.NoEscape", "internal/bytealg.MakeNoZero", "slices.overlaps[int]"], unfollowed := true, recurses := true, apart := false, narrowed := true }
def DeviceOnceUptoSaid : Prop := deviceOnceUptoRow.holds Try.pinned (OpenSpec.upto deviceOnceSpec)

/-- 'pagemendlaw28.ImagePuts', WHERE WHAT IT READS IS OF BULK AT MOST 1048576: true; the input reads as it did. -/
def imagePutsUptoRow : OpenClaim := { program := "ytiallbcnaadmoaa", sum := "7d6a645f23e509f1e730c6ecfbded573f69724c45af6dd70f273b9d3f805d9ff", func := "pagemend/pagemendlaw28.ImagePuts", spec := "imagePuts", inPlace := ["internal/abi.NoEscape", "internal/bytealg.MakeNoZero", "slices.overlaps[pagemend/api.Copy]"], unfollowed := true, recurses := true, apart := false, narrowed := true }
def ImagePutsUptoSaid : Prop := imagePutsUptoRow.holds Try.pinned (OpenSpec.upto imagePutsSpec)

/-- 'pagemendlaw04.DeviceTears', WHERE WHAT IT READS IS OF BULK AT MOST 1048576: true; the input reads as it did. -/
def deviceTearsUptoRow : OpenClaim := { program := "ytiallbcnaadmoaa", sum := "7d6a645f23e509f1e730c6ecfbded573f69724c45af6dd70f273b9d3f805d9ff", func := "pagemend/pagemendlaw04.DeviceTears", spec := "deviceTears", inPlace := ["internal/abi.NoEscape", "internal/bytealg.MakeNoZero", "slices.overlaps[int]"], unfollowed := true, recurses := true, apart := false, narrowed := true }
def DeviceTearsUptoSaid : Prop := deviceTearsUptoRow.holds Try.pinned (OpenSpec.upto deviceTearsSpec)

/-- 'pagemendlaw04.DeviceExact', WHERE WHAT IT READS IS OF BULK AT MOST 1048576: true; the input reads as it did. -/
def deviceExactUptoRow : OpenClaim := { program := "ytiallbcnaadmoaa", sum := "7d6a645f23e509f1e730c6ecfbded573f69724c45af6dd70f273b9d3f805d9ff", func := "pagemend/pagemendlaw04.DeviceExact", spec := "deviceExact", inPlace := ["internal/abi.NoEscape", "internal/bytealg.MakeNoZero", "slices.overlaps[int]"], unfollowed := true, recurses := true, apart := false, narrowed := true }
def DeviceExactUptoSaid : Prop := deviceExactUptoRow.holds Try.pinned (OpenSpec.upto deviceExactSpec)

/-- 'pagemendlaw04.DeviceDead', WHERE WHAT IT READS IS OF BULK AT MOST 1048576: true; the input reads as it did. -/
def deviceDeadUptoRow : OpenClaim := { program := "ytiallbcnaadmoaa", sum := "7d6a645f23e509f1e730c6ecfbded573f69724c45af6dd70f273b9d3f805d9ff", func := "pagemend/pagemendlaw04.DeviceDead", spec := "deviceDead", inPlace := ["internal/abi.NoEscape", "internal/bytealg.MakeNoZero", "slices.overlaps[int]"], unfollowed := true, recurses := true, apart := false, narrowed := true }
def DeviceDeadUptoSaid : Prop := deviceDeadUptoRow.holds Try.pinned (OpenSpec.upto deviceDeadSpec)

/-- 'pagemendlaw28.ImageExact', WHERE WHAT IT READS IS OF BULK AT MOST 1048576: true; the input reads as it did. -/
def imageExactUptoRow : OpenClaim := { program := "ytiallbcnaadmoaa", sum := "7d6a645f23e509f1e730c6ecfbded573f69724c45af6dd70f273b9d3f805d9ff", func := "pagemend/pagemendlaw28.ImageExact", spec := "imageExact", inPlace := ["internal/abi.NoEscape", "internal/bytealg.MakeNoZero", "slices.overlaps[pagemend/api.Copy]"], unfollowed := true, recurses := true, apart := false, narrowed := true }
def ImageExactUptoSaid : Prop := imageExactUptoRow.holds Try.pinned (OpenSpec.upto imageExactSpec)

/-- 'pagemendlaw10.PoolDirty', WHERE WHAT IT READS IS OF BULK AT MOST 1048576: true; the input reads as it did. -/
def poolDirtyUptoRow : OpenClaim := { program := "ytiallbcnaadmoaa", sum := "7d6a645f23e509f1e730c6ecfbded573f69724c45af6dd70f273b9d3f805d9ff", func := "pagemend/pagemendlaw10.PoolDirty", spec := "poolDirty", inPlace := ["internal/abi.NoEscape", "internal/bytealg.MakeNoZero"], unfollowed := true, recurses := true, apart := false, narrowed := true }
def PoolDirtyUptoSaid : Prop := poolDirtyUptoRow.holds Try.pinned (OpenSpec.upto poolDirtySpec)

/-- 'pagemendlaw10.PoolExact', WHERE WHAT IT READS IS OF BULK AT MOST 1048576: true; the input reads as it did. -/
def poolExactUptoRow : OpenClaim := { program := "ytiallbcnaadmoaa", sum := "7d6a645f23e509f1e730c6ecfbded573f69724c45af6dd70f273b9d3f805d9ff", func := "pagemend/pagemendlaw10.PoolExact", spec := "poolExact", inPlace := ["internal/abi.NoEscape", "internal/bytealg.MakeNoZero"], unfollowed := true, recurses := true, apart := false, narrowed := true }
def PoolExactUptoSaid : Prop := poolExactUptoRow.holds Try.pinned (OpenSpec.upto poolExactSpec)

end Rows
end Go.Proofs.Ytiallbcnaadmoaa

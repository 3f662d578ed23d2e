/-
  No cell of these rows narrows 'for every input' (looked for: loops, veiled, ifaces, maps, wideKeys, modest, calm, conditions, laid).
  DERIVED. THE GIVEN ROWS OF THIS SEAT. 6 by the template 'for every input the law returns true; each argument reads behind the call as it read before'; 0 by the template 'total and deterministic' (their statements: YtkopficpneehnaaTotals.lean).
  GIVEN WITH THE SEED: the statements are not yours to turn. If you find one false, say at which input.
  Laid BY PROGRAM, IN A SANDBOX (cutbox-rows.mjs): the forced cells as the released guide's own fill.sh prints them over the translation 915230c6a85db8d1… (all of the seat's roots in one cut). By AI agents, Wed Nov 11 2026. No macro, syntax, notation, axiom, sorry.
-/
import Derived.Test.YtkopficpneehnaaChecked
import GoSem.Claim
import GoSem.ClaimJoined
import GoSem.ClaimMapViews
import Derived.JoinedTies
import Derived.KernelRfl
namespace Go.Proofs.Ytkopficpneehnaa
/- THE CELL 'sum', in the pinned program and in every row, IS THE sha256 OF THE DUMP (.gsa) THAT YtkopficpneehnaaProg.lean LOADS. Nothing in Lean hashes anything: it is a label: what it is worth is what the hold of that sum in a sandbox is worth. -/
noncomputable def Try.pinned : Pinned := { name := "ytkopficpneehnaa", sum := "915230c6a85db8d1a7c44d39326e4af96e9c62b4fdef71d8382a6469f3800e6d", checked := Try.checked }
namespace Rows
def none {H : Type} : Left H := { results := [], args := [] }

/-- 'pagemendlaw04.DevicePlays': WHATEVER THE INPUT: true; the input reads as it did. -/
def devicePlaysSpec : ChangeSpec := { name := "devicePlays", fn := fun _ => fun
  | [d] => { results := [.lit (.bool true)], args := [d] }
  | _ => none }
def devicePlaysRow : OpenClaim := { program := "ytkopficpneehnaa", sum := "915230c6a85db8d1a7c44d39326e4af96e9c62b4fdef71d8382a6469f3800e6d", func := "pagemend/pagemendlaw04.DevicePlays", spec := "devicePlays", inPlace := ["internal/abi.NoEscape", "internal/bytealg.MakeNoZero", "slices.overlaps[int]"], unfollowed := true, recurses := true, apart := false }
def DevicePlaysSaid : Prop := devicePlaysRow.holds Try.pinned (OpenSpec.ofChange devicePlaysSpec)

/-- ITS FALSE NEIGHBOUR: 'it returns false'. Refute it at one input. -/
def devicePlaysWrong : ChangeSpec := { name := "devicePlays", fn := fun _ => fun
  | [d] => { results := [.lit (.bool false)], args := [d] }
  | _ => none }
def DevicePlaysWrongFalsely : Prop := devicePlaysRow.holds Try.pinned (OpenSpec.ofChange devicePlaysWrong)

/-- 'pagemendlaw04.DeviceQuiet': WHATEVER THE INPUT: true; the input reads as it did. -/
def deviceQuietSpec : ChangeSpec := { name := "deviceQuiet", fn := fun _ => fun
  | [d] => { results := [.lit (.bool true)], args := [d] }
  | _ => none }
def deviceQuietRow : OpenClaim := { program := "ytkopficpneehnaa", sum := "915230c6a85db8d1a7c44d39326e4af96e9c62b4fdef71d8382a6469f3800e6d", func := "pagemend/pagemendlaw04.DeviceQuiet", spec := "deviceQuiet", inPlace := ["internal/abi.NoEscape", "internal/bytealg.MakeNoZero", "slices.overlaps[int]"], unfollowed := true, recurses := true, apart := false }
def DeviceQuietSaid : Prop := deviceQuietRow.holds Try.pinned (OpenSpec.ofChange deviceQuietSpec)

/-- ITS FALSE NEIGHBOUR: 'it returns false'. Refute it at one input. -/
def deviceQuietWrong : ChangeSpec := { name := "deviceQuiet", fn := fun _ => fun
  | [d] => { results := [.lit (.bool false)], args := [d] }
  | _ => none }
def DeviceQuietWrongFalsely : Prop := deviceQuietRow.holds Try.pinned (OpenSpec.ofChange deviceQuietWrong)

/-- 'pagemendlaw04.DeviceOnce': WHATEVER THE INPUT: true; the input reads as it did. -/
def deviceOnceSpec : ChangeSpec := { name := "deviceOnce", fn := fun _ => fun
  | [d1, d2, d3] => { results := [.lit (.bool true)], args := [d1, d2, d3] }
  | _ => none }
def deviceOnceRow : OpenClaim := { program := "ytkopficpneehnaa", sum := "915230c6a85db8d1a7c44d39326e4af96e9c62b4fdef71d8382a6469f3800e6d", func := "pagemend/pagemendlaw04.DeviceOnce", spec := "deviceOnce", inPlace := ["internal/abi.NoEscape", "internal/bytealg.MakeNoZero", "slices.overlaps[int]"], unfollowed := true, recurses := true, apart := false }
def DeviceOnceSaid : Prop := deviceOnceRow.holds Try.pinned (OpenSpec.ofChange deviceOnceSpec)

/-- ITS FALSE NEIGHBOUR: 'it returns false'. Refute it at one input. -/
def deviceOnceWrong : ChangeSpec := { name := "deviceOnce", fn := fun _ => fun
  | [d1, d2, d3] => { results := [.lit (.bool false)], args := [d1, d2, d3] }
  | _ => none }
def DeviceOnceWrongFalsely : Prop := deviceOnceRow.holds Try.pinned (OpenSpec.ofChange deviceOnceWrong)

/-- 'pagemendlaw04.DeviceTears': WHATEVER THE INPUT: true; the input reads as it did. -/
def deviceTearsSpec : ChangeSpec := { name := "deviceTears", fn := fun _ => fun
  | [d1, d2, d3] => { results := [.lit (.bool true)], args := [d1, d2, d3] }
  | _ => none }
def deviceTearsRow : OpenClaim := { program := "ytkopficpneehnaa", sum := "915230c6a85db8d1a7c44d39326e4af96e9c62b4fdef71d8382a6469f3800e6d", func := "pagemend/pagemendlaw04.DeviceTears", spec := "deviceTears", inPlace := ["internal/abi.NoEscape", "internal/bytealg.MakeNoZero", "slices.overlaps[int]"], unfollowed := true, recurses := true, apart := false }
def DeviceTearsSaid : Prop := deviceTearsRow.holds Try.pinned (OpenSpec.ofChange deviceTearsSpec)

/-- ITS FALSE NEIGHBOUR: 'it returns false'. Refute it at one input. -/
def deviceTearsWrong : ChangeSpec := { name := "deviceTears", fn := fun _ => fun
  | [d1, d2, d3] => { results := [.lit (.bool false)], args := [d1, d2, d3] }
  | _ => none }
def DeviceTearsWrongFalsely : Prop := deviceTearsRow.holds Try.pinned (OpenSpec.ofChange deviceTearsWrong)

/-- 'pagemendlaw04.DeviceExact': WHATEVER THE INPUT: true; the input reads as it did. -/
def deviceExactSpec : ChangeSpec := { name := "deviceExact", fn := fun _ => fun
  | [d1, d2, d3, d4, d5] => { results := [.lit (.bool true)], args := [d1, d2, d3, d4, d5] }
  | _ => none }
def deviceExactRow : OpenClaim := { program := "ytkopficpneehnaa", sum := "915230c6a85db8d1a7c44d39326e4af96e9c62b4fdef71d8382a6469f3800e6d", func := "pagemend/pagemendlaw04.DeviceExact", spec := "deviceExact", inPlace := ["internal/abi.NoEscape", "internal/bytealg.MakeNoZero", "slices.overlaps[int]"], unfollowed := true, recurses := true, apart := false }
def DeviceExactSaid : Prop := deviceExactRow.holds Try.pinned (OpenSpec.ofChange deviceExactSpec)

/-- ITS FALSE NEIGHBOUR: 'it returns false'. Refute it at one input. -/
def deviceExactWrong : ChangeSpec := { name := "deviceExact", fn := fun _ => fun
  | [d1, d2, d3, d4, d5] => { results := [.lit (.bool false)], args := [d1, d2, d3, d4, d5] }
  | _ => none }
def DeviceExactWrongFalsely : Prop := deviceExactRow.holds Try.pinned (OpenSpec.ofChange deviceExactWrong)

/-- 'pagemendlaw04.DeviceDead': WHATEVER THE INPUT: true; the input reads as it did. -/
def deviceDeadSpec : ChangeSpec := { name := "deviceDead", fn := fun _ => fun
  | [d1, d2] => { results := [.lit (.bool true)], args := [d1, d2] }
  | _ => none }
def deviceDeadRow : OpenClaim := { program := "ytkopficpneehnaa", sum := "915230c6a85db8d1a7c44d39326e4af96e9c62b4fdef71d8382a6469f3800e6d", func := "pagemend/pagemendlaw04.DeviceDead", spec := "deviceDead", inPlace := ["internal/abi.NoEscape", "internal/bytealg.MakeNoZero", "slices.overlaps[int]"], unfollowed := true, recurses := true, apart := false }
def DeviceDeadSaid : Prop := deviceDeadRow.holds Try.pinned (OpenSpec.ofChange deviceDeadSpec)

/-- ITS FALSE NEIGHBOUR: 'it returns false'. Refute it at one input. -/
def deviceDeadWrong : ChangeSpec := { name := "deviceDead", fn := fun _ => fun
  | [d1, d2] => { results := [.lit (.bool false)], args := [d1, d2] }
  | _ => none }
def DeviceDeadWrongFalsely : Prop := deviceDeadRow.holds Try.pinned (OpenSpec.ofChange deviceDeadWrong)

/- THE SECOND FORM. 'bulk': how many values and letters a reading holds, each counted each time it is reached (what is shared counts as often as it is met; a slice's spare places count too). A statement '..UptoSaid' is the law's where the arguments, and the package variables that the reading takes, are together of bulk at most 1048576: NARROWER than '..Said'. Prove '..Said' where nothing that the law and all that it calls make is longer than what came in: it says more and counts as full. Else prove '..UptoSaid'. A law counts once. -/
mutual
def uptoBulk {H : Type} : DataW H → Nat
  | .lit (.string bytes) => bytes.length + 1
  | .lit _ => 1
  | .nil => 1
  | .ptr d => uptoBulk d + 1
  | .slice elems spare => uptoBulkAll elems + uptoBulkAll spare + 1
  | .agg parts => uptoBulkAll parts + 1
  | .iface _ d => uptoBulk d + 1
  | .map entries => uptoBulkEntries entries + 1
  | .held _ => 1
def uptoBulkAll {H : Type} : List (DataW H) → Nat
  | [] => 0
  | d :: r => uptoBulk d + uptoBulkAll r
def uptoBulkEntries {H : Type} : List (Lit × DataW H) → Nat
  | [] => 0
  | x :: r => uptoBulkEntry x + uptoBulkEntries r
def uptoBulkEntry {H : Type} : Lit × DataW H → Nat
  | (.string bytes, d) => bytes.length + uptoBulk d + 1
  | (_, d) => uptoBulk d + 1
 end
def uptoSmall : (H : Type) → List (DataW H) → Bool := fun _ ds => decide (uptoBulkAll ds ≤ 1048576)
def OpenSpec.upto (s : _root_.Go.ChangeSpec) : _root_.Go.OpenSpec := { _root_.Go.OpenSpec.ofChange s with cond := some uptoSmall }

/-- 'pagemendlaw04.DevicePlays', WHERE WHAT IT READS IS OF BULK AT MOST 1048576: true; the input reads as it did. -/
def devicePlaysUptoRow : OpenClaim := { program := "ytkopficpneehnaa", sum := "915230c6a85db8d1a7c44d39326e4af96e9c62b4fdef71d8382a6469f3800e6d", func := "pagemend/pagemendlaw04.DevicePlays", spec := "devicePlays", inPlace := ["internal/abi.NoEscape", "internal/bytealg.MakeNoZero", "slices.overlaps[int]"], unfollowed := true, recurses := true, apart := false, narrowed := true }
def DevicePlaysUptoSaid : Prop := devicePlaysUptoRow.holds Try.pinned (OpenSpec.upto devicePlaysSpec)

/-- 'pagemendlaw04.DeviceQuiet', WHERE WHAT IT READS IS OF BULK AT MOST 1048576: true; the input reads as it did. -/
def deviceQuietUptoRow : OpenClaim := { program := "ytkopficpneehnaa", sum := "915230c6a85db8d1a7c44d39326e4af96e9c62b4fdef71d8382a6469f3800e6d", func := "pagemend/pagemendlaw04.DeviceQuiet", spec := "deviceQuiet", inPlace := ["internal/abi.NoEscape", "internal/bytealg.MakeNoZero", "slices.overlaps[int]"], unfollowed := true, recurses := true, apart := false, narrowed := true }
def DeviceQuietUptoSaid : Prop := deviceQuietUptoRow.holds Try.pinned (OpenSpec.upto deviceQuietSpec)

/-- 'pagemendlaw04.DeviceOnce', WHERE WHAT IT READS IS OF BULK AT MOST 1048576: true; the input reads as it did. -/
def deviceOnceUptoRow : OpenClaim := { program := "ytkopficpneehnaa", sum := "915230c6a85db8d1a7c44d39326e4af96e9c62b4fdef71d8382a6469f3800e6d", func := "pagemend/pagemendlaw04.DeviceOnce", spec := "deviceOnce", inPlace := ["internal/abi.NoEscape", "internal/bytealg.MakeNoZero", "slices.overlaps[int]"], unfollowed := true, recurses := true, apart := false, narrowed := true }
def DeviceOnceUptoSaid : Prop := deviceOnceUptoRow.holds Try.pinned (OpenSpec.upto deviceOnceSpec)

/-- 'pagemendlaw04.DeviceTears', WHERE WHAT IT READS IS OF BULK AT MOST 1048576: true; the input reads as it did. -/
def deviceTearsUptoRow : OpenClaim := { program := "ytkopficpneehnaa", sum := "915230c6a85db8d1a7c44d39326e4af96e9c62b4fdef71d8382a6469f3800e6d", func := "pagemend/pagemendlaw04.DeviceTears", spec := "deviceTears", inPlace := ["internal/abi.NoEscape", "internal/bytealg.MakeNoZero", "slices.overlaps[int]"], unfollowed := true, recurses := true, apart := false, narrowed := true }
def DeviceTearsUptoSaid : Prop := deviceTearsUptoRow.holds Try.pinned (OpenSpec.upto deviceTearsSpec)

/-- 'pagemendlaw04.DeviceExact', WHERE WHAT IT READS IS OF BULK AT MOST 1048576: true; the input reads as it did. -/
def deviceExactUptoRow : OpenClaim := { program := "ytkopficpneehnaa", sum := "915230c6a85db8d1a7c44d39326e4af96e9c62b4fdef71d8382a6469f3800e6d", func := "pagemend/pagemendlaw04.DeviceExact", spec := "deviceExact", inPlace := ["internal/abi.NoEscape", "internal/bytealg.MakeNoZero", "slices.overlaps[int]"], unfollowed := true, recurses := true, apart := false, narrowed := true }
def DeviceExactUptoSaid : Prop := deviceExactUptoRow.holds Try.pinned (OpenSpec.upto deviceExactSpec)

/-- 'pagemendlaw04.DeviceDead', WHERE WHAT IT READS IS OF BULK AT MOST 1048576: true; the input reads as it did. -/
def deviceDeadUptoRow : OpenClaim := { program := "ytkopficpneehnaa", sum := "915230c6a85db8d1a7c44d39326e4af96e9c62b4fdef71d8382a6469f3800e6d", func := "pagemend/pagemendlaw04.DeviceDead", spec := "deviceDead", inPlace := ["internal/abi.NoEscape", "internal/bytealg.MakeNoZero", "slices.overlaps[int]"], unfollowed := true, recurses := true, apart := false, narrowed := true }
def DeviceDeadUptoSaid : Prop := deviceDeadUptoRow.holds Try.pinned (OpenSpec.upto deviceDeadSpec)

end Rows
end Go.Proofs.Ytkopficpneehnaa

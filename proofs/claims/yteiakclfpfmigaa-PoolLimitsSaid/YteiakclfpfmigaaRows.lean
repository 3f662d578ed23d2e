/-
  No cell of these rows narrows 'for every input' (looked for: loops, veiled, ifaces, maps, wideKeys, modest, calm, conditions, laid).
  DERIVED. THE GIVEN ROWS OF THIS SEAT. 12 by the template 'for every input the law returns true; each argument reads behind the call as it read before'; 0 by the template 'total and deterministic' (their statements: YteiakclfpfmigaaTotals.lean).
  GIVEN WITH THE SEED: the statements are not yours to turn. If you find one false, say at which input.
  Laid BY PROGRAM, IN A SANDBOX (cutbox-rows.mjs): the forced cells as the released guide's own fill.sh prints them over the translation 7fc029e28ac0f4b8… (all of the seat's roots in one cut). By AI agents, Wed Nov 11 2026. No macro, syntax, notation, axiom, sorry.
-/
import Derived.Test.YteiakclfpfmigaaChecked
import GoSem.Claim
import GoSem.ClaimJoined
import GoSem.ClaimMapViews
import Derived.JoinedTies
import Derived.KernelRfl
namespace Go.Proofs.Yteiakclfpfmigaa
/- THE CELL 'sum', in the pinned program and in every row, IS THE sha256 OF THE DUMP (.gsa) THAT YteiakclfpfmigaaProg.lean LOADS. Nothing in Lean hashes anything: it is a label: what it is worth is what the hold of that sum in a sandbox is worth. -/
noncomputable def Try.pinned : Pinned := { name := "yteiakclfpfmigaa", sum := "7fc029e28ac0f4b824dcf9184d52f01aff7724c14a26c5ea51086b221d1e988f", checked := Try.checked }
namespace Rows
def none {H : Type} : Left H := { results := [], args := [] }

/-- 'pagemendlaw25.ArchiverParts': WHATEVER THE INPUT: true; the input reads as it did. -/
def archiverPartsSpec : ChangeSpec := { name := "archiverParts", fn := fun _ => fun
  | [d1, d2] => { results := [.lit (.bool true)], args := [d1, d2] }
  | _ => none }
def archiverPartsRow : OpenClaim := { program := "yteiakclfpfmigaa", sum := "7fc029e28ac0f4b824dcf9184d52f01aff7724c14a26c5ea51086b221d1e988f", func := "pagemend/pagemendlaw25.ArchiverParts", spec := "archiverParts", recurses := true, apart := false }
def ArchiverPartsSaid : Prop := archiverPartsRow.holds Try.pinned (OpenSpec.ofChange archiverPartsSpec)

/-- ITS FALSE NEIGHBOUR: 'it returns false'. Refute it at one input. -/
def archiverPartsWrong : ChangeSpec := { name := "archiverParts", fn := fun _ => fun
  | [d1, d2] => { results := [.lit (.bool false)], args := [d1, d2] }
  | _ => none }
def ArchiverPartsWrongFalsely : Prop := archiverPartsRow.holds Try.pinned (OpenSpec.ofChange archiverPartsWrong)

/-- 'pagemendlaw11.PageindexExact': WHATEVER THE INPUT: true; the input reads as it did. -/
def pageindexExactSpec : ChangeSpec := { name := "pageindexExact", fn := fun _ => fun
  | [d1, d2, d3, d4, d5, d6, d7] => { results := [.lit (.bool true)], args := [d1, d2, d3, d4, d5, d6, d7] }
  | _ => none }
def pageindexExactRow : OpenClaim := { program := "yteiakclfpfmigaa", sum := "7fc029e28ac0f4b824dcf9184d52f01aff7724c14a26c5ea51086b221d1e988f", func := "pagemend/pagemendlaw11.PageindexExact", spec := "pageindexExact", inPlace := ["internal/abi.NoEscape"], unfollowed := true, recurses := true, apart := false }
def PageindexExactSaid : Prop := pageindexExactRow.holds Try.pinned (OpenSpec.ofChange pageindexExactSpec)

/-- ITS FALSE NEIGHBOUR: 'it returns false'. Refute it at one input. -/
def pageindexExactWrong : ChangeSpec := { name := "pageindexExact", fn := fun _ => fun
  | [d1, d2, d3, d4, d5, d6, d7] => { results := [.lit (.bool false)], args := [d1, d2, d3, d4, d5, d6, d7] }
  | _ => none }
def PageindexExactWrongFalsely : Prop := pageindexExactRow.holds Try.pinned (OpenSpec.ofChange pageindexExactWrong)

/-- 'pagemendlaw11.PageindexReturns': WHATEVER THE INPUT: true; the input reads as it did. -/
def pageindexReturnsSpec : ChangeSpec := { name := "pageindexReturns", fn := fun _ => fun
  | [d1, d2] => { results := [.lit (.bool true)], args := [d1, d2] }
  | _ => none }
def pageindexReturnsRow : OpenClaim := { program := "yteiakclfpfmigaa", sum := "7fc029e28ac0f4b824dcf9184d52f01aff7724c14a26c5ea51086b221d1e988f", func := "pagemend/pagemendlaw11.PageindexReturns", spec := "pageindexReturns", inPlace := ["internal/abi.NoEscape"], unfollowed := true, recurses := true, apart := false }
def PageindexReturnsSaid : Prop := pageindexReturnsRow.holds Try.pinned (OpenSpec.ofChange pageindexReturnsSpec)

/-- ITS FALSE NEIGHBOUR: 'it returns false'. Refute it at one input. -/
def pageindexReturnsWrong : ChangeSpec := { name := "pageindexReturns", fn := fun _ => fun
  | [d1, d2] => { results := [.lit (.bool false)], args := [d1, d2] }
  | _ => none }
def PageindexReturnsWrongFalsely : Prop := pageindexReturnsRow.holds Try.pinned (OpenSpec.ofChange pageindexReturnsWrong)

/-- 'pagemendlaw02.PageInjective': WHATEVER THE INPUT: true; the input reads as it did. -/
def pageInjectiveSpec : ChangeSpec := { name := "pageInjective", fn := fun _ => fun
  | [d1, d2] => { results := [.lit (.bool true)], args := [d1, d2] }
  | _ => none }
def pageInjectiveRow : OpenClaim := { program := "yteiakclfpfmigaa", sum := "7fc029e28ac0f4b824dcf9184d52f01aff7724c14a26c5ea51086b221d1e988f", func := "pagemend/pagemendlaw02.PageInjective", spec := "pageInjective", inPlace := ["internal/abi.NoEscape", "internal/bytealg.MakeNoZero"], unfollowed := true, recurses := true, apart := false }
def PageInjectiveSaid : Prop := pageInjectiveRow.holds Try.pinned (OpenSpec.ofChange pageInjectiveSpec)

/-- ITS FALSE NEIGHBOUR: 'it returns false'. Refute it at one input. -/
def pageInjectiveWrong : ChangeSpec := { name := "pageInjective", fn := fun _ => fun
  | [d1, d2] => { results := [.lit (.bool false)], args := [d1, d2] }
  | _ => none }
def PageInjectiveWrongFalsely : Prop := pageInjectiveRow.holds Try.pinned (OpenSpec.ofChange pageInjectiveWrong)

/-- 'pagemendlaw02.PageEncodes': WHATEVER THE INPUT: true; the input reads as it did. -/
def pageEncodesSpec : ChangeSpec := { name := "pageEncodes", fn := fun _ => fun
  | [d1, d2, d3] => { results := [.lit (.bool true)], args := [d1, d2, d3] }
  | _ => none }
def pageEncodesRow : OpenClaim := { program := "yteiakclfpfmigaa", sum := "7fc029e28ac0f4b824dcf9184d52f01aff7724c14a26c5ea51086b221d1e988f", func := "pagemend/pagemendlaw02.PageEncodes", spec := "pageEncodes", inPlace := ["internal/abi.NoEscape", "internal/bytealg.MakeNoZero"], unfollowed := true, recurses := true, apart := false }
def PageEncodesSaid : Prop := pageEncodesRow.holds Try.pinned (OpenSpec.ofChange pageEncodesSpec)

/-- ITS FALSE NEIGHBOUR: 'it returns false'. Refute it at one input. -/
def pageEncodesWrong : ChangeSpec := { name := "pageEncodes", fn := fun _ => fun
  | [d1, d2, d3] => { results := [.lit (.bool false)], args := [d1, d2, d3] }
  | _ => none }
def PageEncodesWrongFalsely : Prop := pageEncodesRow.holds Try.pinned (OpenSpec.ofChange pageEncodesWrong)

/-- 'pagemendlaw02.PageForms': WHATEVER THE INPUT: true; the input reads as it did. -/
def pageFormsSpec : ChangeSpec := { name := "pageForms", fn := fun _ => fun
  | [d] => { results := [.lit (.bool true)], args := [d] }
  | _ => none }
def pageFormsRow : OpenClaim := { program := "yteiakclfpfmigaa", sum := "7fc029e28ac0f4b824dcf9184d52f01aff7724c14a26c5ea51086b221d1e988f", func := "pagemend/pagemendlaw02.PageForms", spec := "pageForms", inPlace := ["internal/abi.NoEscape", "internal/bytealg.MakeNoZero"], unfollowed := true, recurses := true, apart := false }
def PageFormsSaid : Prop := pageFormsRow.holds Try.pinned (OpenSpec.ofChange pageFormsSpec)

/-- ITS FALSE NEIGHBOUR: 'it returns false'. Refute it at one input. -/
def pageFormsWrong : ChangeSpec := { name := "pageForms", fn := fun _ => fun
  | [d] => { results := [.lit (.bool false)], args := [d] }
  | _ => none }
def PageFormsWrongFalsely : Prop := pageFormsRow.holds Try.pinned (OpenSpec.ofChange pageFormsWrong)

/-- 'pagemendlaw02.PageDamage': WHATEVER THE INPUT: true; the input reads as it did. -/
def pageDamageSpec : ChangeSpec := { name := "pageDamage", fn := fun _ => fun
  | [d1, d2, d3] => { results := [.lit (.bool true)], args := [d1, d2, d3] }
  | _ => none }
def pageDamageRow : OpenClaim := { program := "yteiakclfpfmigaa", sum := "7fc029e28ac0f4b824dcf9184d52f01aff7724c14a26c5ea51086b221d1e988f", func := "pagemend/pagemendlaw02.PageDamage", spec := "pageDamage", inPlace := ["internal/abi.NoEscape", "internal/bytealg.MakeNoZero"], unfollowed := true, recurses := true, apart := false }
def PageDamageSaid : Prop := pageDamageRow.holds Try.pinned (OpenSpec.ofChange pageDamageSpec)

/-- ITS FALSE NEIGHBOUR: 'it returns false'. Refute it at one input. -/
def pageDamageWrong : ChangeSpec := { name := "pageDamage", fn := fun _ => fun
  | [d1, d2, d3] => { results := [.lit (.bool false)], args := [d1, d2, d3] }
  | _ => none }
def PageDamageWrongFalsely : Prop := pageDamageRow.holds Try.pinned (OpenSpec.ofChange pageDamageWrong)

/-- 'pagemendlaw02.PageDecodes': WHATEVER THE INPUT: true; the input reads as it did. -/
def pageDecodesSpec : ChangeSpec := { name := "pageDecodes", fn := fun _ => fun
  | [d1, d2, d3] => { results := [.lit (.bool true)], args := [d1, d2, d3] }
  | _ => none }
def pageDecodesRow : OpenClaim := { program := "yteiakclfpfmigaa", sum := "7fc029e28ac0f4b824dcf9184d52f01aff7724c14a26c5ea51086b221d1e988f", func := "pagemend/pagemendlaw02.PageDecodes", spec := "pageDecodes", inPlace := ["internal/abi.NoEscape", "internal/bytealg.MakeNoZero"], unfollowed := true, recurses := true, apart := false }
def PageDecodesSaid : Prop := pageDecodesRow.holds Try.pinned (OpenSpec.ofChange pageDecodesSpec)

/-- ITS FALSE NEIGHBOUR: 'it returns false'. Refute it at one input. -/
def pageDecodesWrong : ChangeSpec := { name := "pageDecodes", fn := fun _ => fun
  | [d1, d2, d3] => { results := [.lit (.bool false)], args := [d1, d2, d3] }
  | _ => none }
def PageDecodesWrongFalsely : Prop := pageDecodesRow.holds Try.pinned (OpenSpec.ofChange pageDecodesWrong)

/-- 'pagemendlaw02.PageReturns': WHATEVER THE INPUT: true; the input reads as it did. -/
def pageReturnsSpec : ChangeSpec := { name := "pageReturns", fn := fun _ => fun
  | [d1, d2] => { results := [.lit (.bool true)], args := [d1, d2] }
  | _ => none }
def pageReturnsRow : OpenClaim := { program := "yteiakclfpfmigaa", sum := "7fc029e28ac0f4b824dcf9184d52f01aff7724c14a26c5ea51086b221d1e988f", func := "pagemend/pagemendlaw02.PageReturns", spec := "pageReturns", inPlace := ["internal/abi.NoEscape", "internal/bytealg.MakeNoZero"], unfollowed := true, recurses := true, apart := false }
def PageReturnsSaid : Prop := pageReturnsRow.holds Try.pinned (OpenSpec.ofChange pageReturnsSpec)

/-- ITS FALSE NEIGHBOUR: 'it returns false'. Refute it at one input. -/
def pageReturnsWrong : ChangeSpec := { name := "pageReturns", fn := fun _ => fun
  | [d1, d2] => { results := [.lit (.bool false)], args := [d1, d2] }
  | _ => none }
def PageReturnsWrongFalsely : Prop := pageReturnsRow.holds Try.pinned (OpenSpec.ofChange pageReturnsWrong)

/-- 'pagemendlaw02.PageTears': WHATEVER THE INPUT: true; the input reads as it did. -/
def pageTearsSpec : ChangeSpec := { name := "pageTears", fn := fun _ => fun
  | [d1, d2, d3] => { results := [.lit (.bool true)], args := [d1, d2, d3] }
  | _ => none }
def pageTearsRow : OpenClaim := { program := "yteiakclfpfmigaa", sum := "7fc029e28ac0f4b824dcf9184d52f01aff7724c14a26c5ea51086b221d1e988f", func := "pagemend/pagemendlaw02.PageTears", spec := "pageTears", inPlace := ["internal/abi.NoEscape", "internal/bytealg.MakeNoZero"], unfollowed := true, recurses := true, apart := false }
def PageTearsSaid : Prop := pageTearsRow.holds Try.pinned (OpenSpec.ofChange pageTearsSpec)

/-- ITS FALSE NEIGHBOUR: 'it returns false'. Refute it at one input. -/
def pageTearsWrong : ChangeSpec := { name := "pageTears", fn := fun _ => fun
  | [d1, d2, d3] => { results := [.lit (.bool false)], args := [d1, d2, d3] }
  | _ => none }
def PageTearsWrongFalsely : Prop := pageTearsRow.holds Try.pinned (OpenSpec.ofChange pageTearsWrong)

/-- 'pagemendlaw10.PoolClock': WHATEVER THE INPUT: true; the input reads as it did. -/
def poolClockSpec : ChangeSpec := { name := "poolClock", fn := fun _ => fun
  | [d1, d2] => { results := [.lit (.bool true)], args := [d1, d2] }
  | _ => none }
def poolClockRow : OpenClaim := { program := "yteiakclfpfmigaa", sum := "7fc029e28ac0f4b824dcf9184d52f01aff7724c14a26c5ea51086b221d1e988f", func := "pagemend/pagemendlaw10.PoolClock", spec := "poolClock", inPlace := ["internal/abi.NoEscape", "internal/bytealg.MakeNoZero"], unfollowed := true, recurses := true, apart := false }
def PoolClockSaid : Prop := poolClockRow.holds Try.pinned (OpenSpec.ofChange poolClockSpec)

/-- ITS FALSE NEIGHBOUR: 'it returns false'. Refute it at one input. -/
def poolClockWrong : ChangeSpec := { name := "poolClock", fn := fun _ => fun
  | [d1, d2] => { results := [.lit (.bool false)], args := [d1, d2] }
  | _ => none }
def PoolClockWrongFalsely : Prop := poolClockRow.holds Try.pinned (OpenSpec.ofChange poolClockWrong)

/-- 'pagemendlaw10.PoolLimits': WHATEVER THE INPUT: true; the input reads as it did. -/
def poolLimitsSpec : ChangeSpec := { name := "poolLimits", fn := fun _ => fun
  | [d1, d2] => { results := [.lit (.bool true)], args := [d1, d2] }
  | _ => none }
def poolLimitsRow : OpenClaim := { program := "yteiakclfpfmigaa", sum := "7fc029e28ac0f4b824dcf9184d52f01aff7724c14a26c5ea51086b221d1e988f", func := "pagemend/pagemendlaw10.PoolLimits", spec := "poolLimits", inPlace := ["internal/abi.NoEscape", "internal/bytealg.MakeNoZero"], unfollowed := true, recurses := true, apart := false }
def PoolLimitsSaid : Prop := poolLimitsRow.holds Try.pinned (OpenSpec.ofChange poolLimitsSpec)

/-- ITS FALSE NEIGHBOUR: 'it returns false'. Refute it at one input. -/
def poolLimitsWrong : ChangeSpec := { name := "poolLimits", fn := fun _ => fun
  | [d1, d2] => { results := [.lit (.bool false)], args := [d1, d2] }
  | _ => none }
def PoolLimitsWrongFalsely : Prop := poolLimitsRow.holds Try.pinned (OpenSpec.ofChange poolLimitsWrong)

/- THE SECOND FORM. 'bulk': how many values and letters a reading holds, each counted each time it is reached (what is shared counts as often as it is met; a slice's spare places count too). A statement '..UptoSaid' is the law's where the arguments, and the package variables that the reading takes, are together of bulk at most 1048576: NARROWER than '..Said'. Prove '..Said' where nothing that the law and all that it calls make is longer than what came in: it says more and counts as full. Else prove '..UptoSaid'. A law counts once. -/
mutual
def uptoBulk {H : Type} : DataW H → Nat
  | .lit (.string bytes) => bytes.length + 1
  | .lit _ => 1
  | .nil => 1
  | .ptr d => uptoBulk d + 1
  | .slice elems spare => uptoBulkAll elems + uptoBulkAll spare + 1
  | .agg parts => uptoBulkAll parts + 1
  | .iface _ d => uptoBulk d + 1
  | .map entries => uptoBulkEntries entries + 1
  | .held _ => 1
def uptoBulkAll {H : Type} : List (DataW H) → Nat
  | [] => 0
  | d :: r => uptoBulk d + uptoBulkAll r
def uptoBulkEntries {H : Type} : List (Lit × DataW H) → Nat
  | [] => 0
  | x :: r => uptoBulkEntry x + uptoBulkEntries r
def uptoBulkEntry {H : Type} : Lit × DataW H → Nat
  | (.string bytes, d) => bytes.length + uptoBulk d + 1
  | (_, d) => uptoBulk d + 1
 end
def uptoSmall : (H : Type) → List (DataW H) → Bool := fun _ ds => decide (uptoBulkAll ds ≤ 1048576)
def OpenSpec.upto (s : _root_.Go.ChangeSpec) : _root_.Go.OpenSpec := { _root_.Go.OpenSpec.ofChange s with cond := some uptoSmall }

/-- 'pagemendlaw25.ArchiverParts', WHERE WHAT IT READS IS OF BULK AT MOST 1048576: true; the input reads as it did. -/
def archiverPartsUptoRow : OpenClaim := { program := "yteiakclfpfmigaa", sum := "7fc029e28ac0f4b824dcf9184d52f01aff7724c14a26c5ea51086b221d1e988f", func := "pagemend/pagemendlaw25.ArchiverParts", spec := "archiverParts", recurses := true, apart := false, narrowed := true }
def ArchiverPartsUptoSaid : Prop := archiverPartsUptoRow.holds Try.pinned (OpenSpec.upto archiverPartsSpec)

/-- 'pagemendlaw11.PageindexExact', WHERE WHAT IT READS IS OF BULK AT MOST 1048576: true; the input reads as it did. -/
def pageindexExactUptoRow : OpenClaim := { program := "yteiakclfpfmigaa", sum := "7fc029e28ac0f4b824dcf9184d52f01aff7724c14a26c5ea51086b221d1e988f", func := "pagemend/pagemendlaw11.PageindexExact", spec := "pageindexExact", inPlace := ["internal/abi.NoEscape"], unfollowed := true, recurses := true, apart := false, narrowed := true }
def PageindexExactUptoSaid : Prop := pageindexExactUptoRow.holds Try.pinned (OpenSpec.upto pageindexExactSpec)

/-- 'pagemendlaw11.PageindexReturns', WHERE WHAT IT READS IS OF BULK AT MOST 1048576: true; the input reads as it did. -/
def pageindexReturnsUptoRow : OpenClaim := { program := "yteiakclfpfmigaa", sum := "7fc029e28ac0f4b824dcf9184d52f01aff7724c14a26c5ea51086b221d1e988f", func := "pagemend/pagemendlaw11.PageindexReturns", spec := "pageindexReturns", inPlace := ["internal/abi.NoEscape"], unfollowed := true, recurses := true, apart := false, narrowed := true }
def PageindexReturnsUptoSaid : Prop := pageindexReturnsUptoRow.holds Try.pinned (OpenSpec.upto pageindexReturnsSpec)

/-- 'pagemendlaw02.PageInjective', WHERE WHAT IT READS IS OF BULK AT MOST 1048576: true; the input reads as it did. -/
def pageInjectiveUptoRow : OpenClaim := { program := "yteiakclfpfmigaa", sum := "7fc029e28ac0f4b824dcf9184d52f01aff7724c14a26c5ea51086b221d1e988f", func := "pagemend/pagemendlaw02.PageInjective", spec := "pageInjective", inPlace := ["internal/abi.NoEscape", "internal/bytealg.MakeNoZero"], unfollowed := true, recurses := true, apart := false, narrowed := true }
def PageInjectiveUptoSaid : Prop := pageInjectiveUptoRow.holds Try.pinned (OpenSpec.upto pageInjectiveSpec)

/-- 'pagemendlaw02.PageEncodes', WHERE WHAT IT READS IS OF BULK AT MOST 1048576: true; the input reads as it did. -/
def pageEncodesUptoRow : OpenClaim := { program := "yteiakclfpfmigaa", sum := "7fc029e28ac0f4b824dcf9184d52f01aff7724c14a26c5ea51086b221d1e988f", func := "pagemend/pagemendlaw02.PageEncodes", spec := "pageEncodes", inPlace := ["internal/abi.NoEscape", "internal/bytealg.MakeNoZero"], unfollowed := true, recurses := true, apart := false, narrowed := true }
def PageEncodesUptoSaid : Prop := pageEncodesUptoRow.holds Try.pinned (OpenSpec.upto pageEncodesSpec)

/-- 'pagemendlaw02.PageForms', WHERE WHAT IT READS IS OF BULK AT MOST 1048576: true; the input reads as it did. -/
def pageFormsUptoRow : OpenClaim := { program := "yteiakclfpfmigaa", sum := "7fc029e28ac0f4b824dcf9184d52f01aff7724c14a26c5ea51086b221d1e988f", func := "pagemend/pagemendlaw02.PageForms", spec := "pageForms", inPlace := ["internal/abi.NoEscape", "internal/bytealg.MakeNoZero"], unfollowed := true, recurses := true, apart := false, narrowed := true }
def PageFormsUptoSaid : Prop := pageFormsUptoRow.holds Try.pinned (OpenSpec.upto pageFormsSpec)

/-- 'pagemendlaw02.PageDamage', WHERE WHAT IT READS IS OF BULK AT MOST 1048576: true; the input reads as it did. -/
def pageDamageUptoRow : OpenClaim := { program := "yteiakclfpfmigaa", sum := "7fc029e28ac0f4b824dcf9184d52f01aff7724c14a26c5ea51086b221d1e988f", func := "pagemend/pagemendlaw02.PageDamage", spec := "pageDamage", inPlace := ["internal/abi.NoEscape", "internal/bytealg.MakeNoZero"], unfollowed := true, recurses := true, apart := false, narrowed := true }
def PageDamageUptoSaid : Prop := pageDamageUptoRow.holds Try.pinned (OpenSpec.upto pageDamageSpec)

/-- 'pagemendlaw02.PageDecodes', WHERE WHAT IT READS IS OF BULK AT MOST 1048576: true; the input reads as it did. -/
def pageDecodesUptoRow : OpenClaim := { program := "yteiakclfpfmigaa", sum := "7fc029e28ac0f4b824dcf9184d52f01aff7724c14a26c5ea51086b221d1e988f", func := "pagemend/pagemendlaw02.PageDecodes", spec := "pageDecodes", inPlace := ["internal/abi.NoEscape", "internal/bytealg.MakeNoZero"], unfollowed := true, recurses := true, apart := false, narrowed := true }
def PageDecodesUptoSaid : Prop := pageDecodesUptoRow.holds Try.pinned (OpenSpec.upto pageDecodesSpec)

/-- 'pagemendlaw02.PageReturns', WHERE WHAT IT READS IS OF BULK AT MOST 1048576: true; the input reads as it did. -/
def pageReturnsUptoRow : OpenClaim := { program := "yteiakclfpfmigaa", sum := "7fc029e28ac0f4b824dcf9184d52f01aff7724c14a26c5ea51086b221d1e988f", func := "pagemend/pagemendlaw02.PageReturns", spec := "pageReturns", inPlace := ["internal/abi.NoEscape", "internal/bytealg.MakeNoZero"], unfollowed := true, recurses := true, apart := false, narrowed := true }
def PageReturnsUptoSaid : Prop := pageReturnsUptoRow.holds Try.pinned (OpenSpec.upto pageReturnsSpec)

/-- 'pagemendlaw02.PageTears', WHERE WHAT IT READS IS OF BULK AT MOST 1048576: true; the input reads as it did. -/
def pageTearsUptoRow : OpenClaim := { program := "yteiakclfpfmigaa", sum := "7fc029e28ac0f4b824dcf9184d52f01aff7724c14a26c5ea51086b221d1e988f", func := "pagemend/pagemendlaw02.PageTears", spec := "pageTears", inPlace := ["internal/abi.NoEscape", "internal/bytealg.MakeNoZero"], unfollowed := true, recurses := true, apart := false, narrowed := true }
def PageTearsUptoSaid : Prop := pageTearsUptoRow.holds Try.pinned (OpenSpec.upto pageTearsSpec)

/-- 'pagemendlaw10.PoolClock', WHERE WHAT IT READS IS OF BULK AT MOST 1048576: true; the input reads as it did. -/
def poolClockUptoRow : OpenClaim := { program := "yteiakclfpfmigaa", sum := "7fc029e28ac0f4b824dcf9184d52f01aff7724c14a26c5ea51086b221d1e988f", func := "pagemend/pagemendlaw10.PoolClock", spec := "poolClock", inPlace := ["internal/abi.NoEscape", "internal/bytealg.MakeNoZero"], unfollowed := true, recurses := true, apart := false, narrowed := true }
def PoolClockUptoSaid : Prop := poolClockUptoRow.holds Try.pinned (OpenSpec.upto poolClockSpec)

/-- 'pagemendlaw10.PoolLimits', WHERE WHAT IT READS IS OF BULK AT MOST 1048576: true; the input reads as it did. -/
def poolLimitsUptoRow : OpenClaim := { program := "yteiakclfpfmigaa", sum := "7fc029e28ac0f4b824dcf9184d52f01aff7724c14a26c5ea51086b221d1e988f", func := "pagemend/pagemendlaw10.PoolLimits", spec := "poolLimits", inPlace := ["internal/abi.NoEscape", "internal/bytealg.MakeNoZero"], unfollowed := true, recurses := true, apart := false, narrowed := true }
def PoolLimitsUptoSaid : Prop := poolLimitsUptoRow.holds Try.pinned (OpenSpec.upto poolLimitsSpec)

end Rows
end Go.Proofs.Yteiakclfpfmigaa

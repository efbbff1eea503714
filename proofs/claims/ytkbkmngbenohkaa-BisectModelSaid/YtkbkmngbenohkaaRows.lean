/-
  No cell of these rows narrows 'for every input' (looked for: loops, veiled, ifaces, maps, wideKeys, modest, calm, conditions, laid).
  DERIVED. THE GIVEN ROWS OF THIS SEAT. 25 by the template 'for every input the law returns true; each argument reads behind the call as it read before'; 0 by the template 'total and deterministic' (their statements: YtkbkmngbenohkaaTotals.lean).
  GIVEN WITH THE SEED: the statements are not yours to turn. If you find one false, say at which input.
  Laid BY PROGRAM, IN A SANDBOX (cutbox-rows.mjs): the forced cells as the released guide's own fill.sh prints them over the translation a9023262208efa0f… (all of the seat's roots in one cut). By AI agents, Wed Nov 11 2026. No macro, syntax, notation, axiom, sorry.
-/
import Derived.Test.YtkbkmngbenohkaaChecked
import GoSem.Claim
import GoSem.ClaimJoined
import GoSem.ClaimMapViews
import Derived.JoinedTies
import Derived.KernelRfl
namespace Go.Proofs.Ytkbkmngbenohkaa
/- THE CELL 'sum', in the pinned program and in every row, IS THE sha256 OF THE DUMP (.gsa) THAT YtkbkmngbenohkaaProg.lean LOADS. Nothing in Lean hashes anything: it is a label: what it is worth is what the hold of that sum in a sandbox is worth. -/
noncomputable def Try.pinned : Pinned := { name := "ytkbkmngbenohkaa", sum := "a9023262208efa0ff40cc163d1d66c39a69eab77f565c1717657f878d478ee60", checked := Try.checked }
namespace Rows
def none {H : Type} : Left H := { results := [], args := [] }

/-- 'simprooflaw04.PosetLimits': WHATEVER THE INPUT: true; the input reads as it did. -/
def posetLimitsSpec : ChangeSpec := { name := "posetLimits", fn := fun _ => fun
  | [d1, d2] => { results := [.lit (.bool true)], args := [d1, d2] }
  | _ => none }
def posetLimitsRow : OpenClaim := { program := "ytkbkmngbenohkaa", sum := "a9023262208efa0ff40cc163d1d66c39a69eab77f565c1717657f878d478ee60", func := "simproof/simprooflaw04.PosetLimits", spec := "posetLimits", unfollowed := true, recurses := true, apart := false }
def PosetLimitsSaid : Prop := posetLimitsRow.holds Try.pinned (OpenSpec.ofChange posetLimitsSpec)

/-- ITS FALSE NEIGHBOUR: 'it returns false'. Refute it at one input. -/
def posetLimitsWrong : ChangeSpec := { name := "posetLimits", fn := fun _ => fun
  | [d1, d2] => { results := [.lit (.bool false)], args := [d1, d2] }
  | _ => none }
def PosetLimitsWrongFalsely : Prop := posetLimitsRow.holds Try.pinned (OpenSpec.ofChange posetLimitsWrong)

/-- 'simprooflaw04.PosetOrder': WHATEVER THE INPUT: true; the input reads as it did. -/
def posetOrderSpec : ChangeSpec := { name := "posetOrder", fn := fun _ => fun
  | [d1, d2] => { results := [.lit (.bool true)], args := [d1, d2] }
  | _ => none }
def posetOrderRow : OpenClaim := { program := "ytkbkmngbenohkaa", sum := "a9023262208efa0ff40cc163d1d66c39a69eab77f565c1717657f878d478ee60", func := "simproof/simprooflaw04.PosetOrder", spec := "posetOrder", unfollowed := true, recurses := true, apart := false }
def PosetOrderSaid : Prop := posetOrderRow.holds Try.pinned (OpenSpec.ofChange posetOrderSpec)

/-- ITS FALSE NEIGHBOUR: 'it returns false'. Refute it at one input. -/
def posetOrderWrong : ChangeSpec := { name := "posetOrder", fn := fun _ => fun
  | [d1, d2] => { results := [.lit (.bool false)], args := [d1, d2] }
  | _ => none }
def PosetOrderWrongFalsely : Prop := posetOrderRow.holds Try.pinned (OpenSpec.ofChange posetOrderWrong)

/-- 'simprooflaw04.PosetCovers': WHATEVER THE INPUT: true; the input reads as it did. -/
def posetCoversSpec : ChangeSpec := { name := "posetCovers", fn := fun _ => fun
  | [d1, d2, d3] => { results := [.lit (.bool true)], args := [d1, d2, d3] }
  | _ => none }
def posetCoversRow : OpenClaim := { program := "ytkbkmngbenohkaa", sum := "a9023262208efa0ff40cc163d1d66c39a69eab77f565c1717657f878d478ee60", func := "simproof/simprooflaw04.PosetCovers", spec := "posetCovers", unfollowed := true, recurses := true, apart := false }
def PosetCoversSaid : Prop := posetCoversRow.holds Try.pinned (OpenSpec.ofChange posetCoversSpec)

/-- ITS FALSE NEIGHBOUR: 'it returns false'. Refute it at one input. -/
def posetCoversWrong : ChangeSpec := { name := "posetCovers", fn := fun _ => fun
  | [d1, d2, d3] => { results := [.lit (.bool false)], args := [d1, d2, d3] }
  | _ => none }
def PosetCoversWrongFalsely : Prop := posetCoversRow.holds Try.pinned (OpenSpec.ofChange posetCoversWrong)

/-- 'simprooflaw04.PosetDown': WHATEVER THE INPUT: true; the input reads as it did. -/
def posetDownSpec : ChangeSpec := { name := "posetDown", fn := fun _ => fun
  | [d1, d2, d3, d4] => { results := [.lit (.bool true)], args := [d1, d2, d3, d4] }
  | _ => none }
def posetDownRow : OpenClaim := { program := "ytkbkmngbenohkaa", sum := "a9023262208efa0ff40cc163d1d66c39a69eab77f565c1717657f878d478ee60", func := "simproof/simprooflaw04.PosetDown", spec := "posetDown", unfollowed := true, recurses := true, apart := false }
def PosetDownSaid : Prop := posetDownRow.holds Try.pinned (OpenSpec.ofChange posetDownSpec)

/-- ITS FALSE NEIGHBOUR: 'it returns false'. Refute it at one input. -/
def posetDownWrong : ChangeSpec := { name := "posetDown", fn := fun _ => fun
  | [d1, d2, d3, d4] => { results := [.lit (.bool false)], args := [d1, d2, d3, d4] }
  | _ => none }
def PosetDownWrongFalsely : Prop := posetDownRow.holds Try.pinned (OpenSpec.ofChange posetDownWrong)

/-- 'simprooflaw04.PosetOwns': WHATEVER THE INPUT: true; the input reads as it did. -/
def posetOwnsSpec : ChangeSpec := { name := "posetOwns", fn := fun _ => fun
  | [d1, d2] => { results := [.lit (.bool true)], args := [d1, d2] }
  | _ => none }
def posetOwnsRow : OpenClaim := { program := "ytkbkmngbenohkaa", sum := "a9023262208efa0ff40cc163d1d66c39a69eab77f565c1717657f878d478ee60", func := "simproof/simprooflaw04.PosetOwns", spec := "posetOwns", unfollowed := true, recurses := true, apart := false }
def PosetOwnsSaid : Prop := posetOwnsRow.holds Try.pinned (OpenSpec.ofChange posetOwnsSpec)

/-- ITS FALSE NEIGHBOUR: 'it returns false'. Refute it at one input. -/
def posetOwnsWrong : ChangeSpec := { name := "posetOwns", fn := fun _ => fun
  | [d1, d2] => { results := [.lit (.bool false)], args := [d1, d2] }
  | _ => none }
def PosetOwnsWrongFalsely : Prop := posetOwnsRow.holds Try.pinned (OpenSpec.ofChange posetOwnsWrong)

/-- 'simprooflaw04.PosetNew': WHATEVER THE INPUT: true; the input reads as it did. -/
def posetNewSpec : ChangeSpec := { name := "posetNew", fn := fun _ => fun
  | [d1, d2, d3, d4, d5, d6] => { results := [.lit (.bool true)], args := [d1, d2, d3, d4, d5, d6] }
  | _ => none }
def posetNewRow : OpenClaim := { program := "ytkbkmngbenohkaa", sum := "a9023262208efa0ff40cc163d1d66c39a69eab77f565c1717657f878d478ee60", func := "simproof/simprooflaw04.PosetNew", spec := "posetNew", unfollowed := true, recurses := true, apart := false }
def PosetNewSaid : Prop := posetNewRow.holds Try.pinned (OpenSpec.ofChange posetNewSpec)

/-- ITS FALSE NEIGHBOUR: 'it returns false'. Refute it at one input. -/
def posetNewWrong : ChangeSpec := { name := "posetNew", fn := fun _ => fun
  | [d1, d2, d3, d4, d5, d6] => { results := [.lit (.bool false)], args := [d1, d2, d3, d4, d5, d6] }
  | _ => none }
def PosetNewWrongFalsely : Prop := posetNewRow.holds Try.pinned (OpenSpec.ofChange posetNewWrong)

/-- 'simprooflaw04.PosetLinear': WHATEVER THE INPUT: true; the input reads as it did. -/
def posetLinearSpec : ChangeSpec := { name := "posetLinear", fn := fun _ => fun
  | [d1, d2, d3] => { results := [.lit (.bool true)], args := [d1, d2, d3] }
  | _ => none }
def posetLinearRow : OpenClaim := { program := "ytkbkmngbenohkaa", sum := "a9023262208efa0ff40cc163d1d66c39a69eab77f565c1717657f878d478ee60", func := "simproof/simprooflaw04.PosetLinear", spec := "posetLinear", unfollowed := true, recurses := true, apart := false }
def PosetLinearSaid : Prop := posetLinearRow.holds Try.pinned (OpenSpec.ofChange posetLinearSpec)

/-- ITS FALSE NEIGHBOUR: 'it returns false'. Refute it at one input. -/
def posetLinearWrong : ChangeSpec := { name := "posetLinear", fn := fun _ => fun
  | [d1, d2, d3] => { results := [.lit (.bool false)], args := [d1, d2, d3] }
  | _ => none }
def PosetLinearWrongFalsely : Prop := posetLinearRow.holds Try.pinned (OpenSpec.ofChange posetLinearWrong)

/-- 'simprooflaw04.PosetExtensions': WHATEVER THE INPUT: true; the input reads as it did. -/
def posetExtensionsSpec : ChangeSpec := { name := "posetExtensions", fn := fun _ => fun
  | [d1, d2, d3] => { results := [.lit (.bool true)], args := [d1, d2, d3] }
  | _ => none }
def posetExtensionsRow : OpenClaim := { program := "ytkbkmngbenohkaa", sum := "a9023262208efa0ff40cc163d1d66c39a69eab77f565c1717657f878d478ee60", func := "simproof/simprooflaw04.PosetExtensions", spec := "posetExtensions", unfollowed := true, recurses := true, apart := false }
def PosetExtensionsSaid : Prop := posetExtensionsRow.holds Try.pinned (OpenSpec.ofChange posetExtensionsSpec)

/-- ITS FALSE NEIGHBOUR: 'it returns false'. Refute it at one input. -/
def posetExtensionsWrong : ChangeSpec := { name := "posetExtensions", fn := fun _ => fun
  | [d1, d2, d3] => { results := [.lit (.bool false)], args := [d1, d2, d3] }
  | _ => none }
def PosetExtensionsWrongFalsely : Prop := posetExtensionsRow.holds Try.pinned (OpenSpec.ofChange posetExtensionsWrong)

/-- 'simprooflaw04.PosetSwaps': WHATEVER THE INPUT: true; the input reads as it did. -/
def posetSwapsSpec : ChangeSpec := { name := "posetSwaps", fn := fun _ => fun
  | [d1, d2, d3] => { results := [.lit (.bool true)], args := [d1, d2, d3] }
  | _ => none }
def posetSwapsRow : OpenClaim := { program := "ytkbkmngbenohkaa", sum := "a9023262208efa0ff40cc163d1d66c39a69eab77f565c1717657f878d478ee60", func := "simproof/simprooflaw04.PosetSwaps", spec := "posetSwaps", unfollowed := true, recurses := true, apart := false }
def PosetSwapsSaid : Prop := posetSwapsRow.holds Try.pinned (OpenSpec.ofChange posetSwapsSpec)

/-- ITS FALSE NEIGHBOUR: 'it returns false'. Refute it at one input. -/
def posetSwapsWrong : ChangeSpec := { name := "posetSwaps", fn := fun _ => fun
  | [d1, d2, d3] => { results := [.lit (.bool false)], args := [d1, d2, d3] }
  | _ => none }
def PosetSwapsWrongFalsely : Prop := posetSwapsRow.holds Try.pinned (OpenSpec.ofChange posetSwapsWrong)

/-- 'simprooflaw04.PosetGraph': WHATEVER THE INPUT: true; the input reads as it did. -/
def posetGraphSpec : ChangeSpec := { name := "posetGraph", fn := fun _ => fun
  | [d1, d2] => { results := [.lit (.bool true)], args := [d1, d2] }
  | _ => none }
def posetGraphRow : OpenClaim := { program := "ytkbkmngbenohkaa", sum := "a9023262208efa0ff40cc163d1d66c39a69eab77f565c1717657f878d478ee60", func := "simproof/simprooflaw04.PosetGraph", spec := "posetGraph", unfollowed := true, recurses := true, apart := false }
def PosetGraphSaid : Prop := posetGraphRow.holds Try.pinned (OpenSpec.ofChange posetGraphSpec)

/-- ITS FALSE NEIGHBOUR: 'it returns false'. Refute it at one input. -/
def posetGraphWrong : ChangeSpec := { name := "posetGraph", fn := fun _ => fun
  | [d1, d2] => { results := [.lit (.bool false)], args := [d1, d2] }
  | _ => none }
def PosetGraphWrongFalsely : Prop := posetGraphRow.holds Try.pinned (OpenSpec.ofChange posetGraphWrong)

/-- 'simprooflaw32.VersionsBlame': WHATEVER THE INPUT: true; the input reads as it did. -/
def versionsBlameSpec : ChangeSpec := { name := "versionsBlame", fn := fun _ => fun
  | [d1, d2, d3, d4] => { results := [.lit (.bool true)], args := [d1, d2, d3, d4] }
  | _ => none }
def versionsBlameRow : OpenClaim := { program := "ytkbkmngbenohkaa", sum := "a9023262208efa0ff40cc163d1d66c39a69eab77f565c1717657f878d478ee60", func := "simproof/simprooflaw32.VersionsBlame", spec := "versionsBlame", unfollowed := true, recurses := true, apart := false }
def VersionsBlameSaid : Prop := versionsBlameRow.holds Try.pinned (OpenSpec.ofChange versionsBlameSpec)

/-- ITS FALSE NEIGHBOUR: 'it returns false'. Refute it at one input. -/
def versionsBlameWrong : ChangeSpec := { name := "versionsBlame", fn := fun _ => fun
  | [d1, d2, d3, d4] => { results := [.lit (.bool false)], args := [d1, d2, d3, d4] }
  | _ => none }
def VersionsBlameWrongFalsely : Prop := versionsBlameRow.holds Try.pinned (OpenSpec.ofChange versionsBlameWrong)

/-- 'simprooflaw32.VersionsSuspects': WHATEVER THE INPUT: true; the input reads as it did. -/
def versionsSuspectsSpec : ChangeSpec := { name := "versionsSuspects", fn := fun _ => fun
  | [d1, d2, d3] => { results := [.lit (.bool true)], args := [d1, d2, d3] }
  | _ => none }
def versionsSuspectsRow : OpenClaim := { program := "ytkbkmngbenohkaa", sum := "a9023262208efa0ff40cc163d1d66c39a69eab77f565c1717657f878d478ee60", func := "simproof/simprooflaw32.VersionsSuspects", spec := "versionsSuspects", unfollowed := true, recurses := true, apart := false }
def VersionsSuspectsSaid : Prop := versionsSuspectsRow.holds Try.pinned (OpenSpec.ofChange versionsSuspectsSpec)

/-- ITS FALSE NEIGHBOUR: 'it returns false'. Refute it at one input. -/
def versionsSuspectsWrong : ChangeSpec := { name := "versionsSuspects", fn := fun _ => fun
  | [d1, d2, d3] => { results := [.lit (.bool false)], args := [d1, d2, d3] }
  | _ => none }
def VersionsSuspectsWrongFalsely : Prop := versionsSuspectsRow.holds Try.pinned (OpenSpec.ofChange versionsSuspectsWrong)

/-- 'simprooflaw32.VersionsTested': WHATEVER THE INPUT: true; the input reads as it did. -/
def versionsTestedSpec : ChangeSpec := { name := "versionsTested", fn := fun _ => fun
  | [d1, d2, d3, d4] => { results := [.lit (.bool true)], args := [d1, d2, d3, d4] }
  | _ => none }
def versionsTestedRow : OpenClaim := { program := "ytkbkmngbenohkaa", sum := "a9023262208efa0ff40cc163d1d66c39a69eab77f565c1717657f878d478ee60", func := "simproof/simprooflaw32.VersionsTested", spec := "versionsTested", unfollowed := true, recurses := true, apart := false }
def VersionsTestedSaid : Prop := versionsTestedRow.holds Try.pinned (OpenSpec.ofChange versionsTestedSpec)

/-- ITS FALSE NEIGHBOUR: 'it returns false'. Refute it at one input. -/
def versionsTestedWrong : ChangeSpec := { name := "versionsTested", fn := fun _ => fun
  | [d1, d2, d3, d4] => { results := [.lit (.bool false)], args := [d1, d2, d3, d4] }
  | _ => none }
def VersionsTestedWrongFalsely : Prop := versionsTestedRow.holds Try.pinned (OpenSpec.ofChange versionsTestedWrong)

/-- 'simprooflaw32.VersionsBuild': WHATEVER THE INPUT: true; the input reads as it did. -/
def versionsBuildSpec : ChangeSpec := { name := "versionsBuild", fn := fun _ => fun
  | [d1, d2, d3, d4, d5] => { results := [.lit (.bool true)], args := [d1, d2, d3, d4, d5] }
  | _ => none }
def versionsBuildRow : OpenClaim := { program := "ytkbkmngbenohkaa", sum := "a9023262208efa0ff40cc163d1d66c39a69eab77f565c1717657f878d478ee60", func := "simproof/simprooflaw32.VersionsBuild", spec := "versionsBuild", unfollowed := true, recurses := true, apart := false }
def VersionsBuildSaid : Prop := versionsBuildRow.holds Try.pinned (OpenSpec.ofChange versionsBuildSpec)

/-- ITS FALSE NEIGHBOUR: 'it returns false'. Refute it at one input. -/
def versionsBuildWrong : ChangeSpec := { name := "versionsBuild", fn := fun _ => fun
  | [d1, d2, d3, d4, d5] => { results := [.lit (.bool false)], args := [d1, d2, d3, d4, d5] }
  | _ => none }
def VersionsBuildWrongFalsely : Prop := versionsBuildRow.holds Try.pinned (OpenSpec.ofChange versionsBuildWrong)

/-- 'simprooflaw32.VersionsOwn': WHATEVER THE INPUT: true; the input reads as it did. -/
def versionsOwnSpec : ChangeSpec := { name := "versionsOwn", fn := fun _ => fun
  | [d1, d2] => { results := [.lit (.bool true)], args := [d1, d2] }
  | _ => none }
def versionsOwnRow : OpenClaim := { program := "ytkbkmngbenohkaa", sum := "a9023262208efa0ff40cc163d1d66c39a69eab77f565c1717657f878d478ee60", func := "simproof/simprooflaw32.VersionsOwn", spec := "versionsOwn", unfollowed := true, recurses := true, apart := false }
def VersionsOwnSaid : Prop := versionsOwnRow.holds Try.pinned (OpenSpec.ofChange versionsOwnSpec)

/-- ITS FALSE NEIGHBOUR: 'it returns false'. Refute it at one input. -/
def versionsOwnWrong : ChangeSpec := { name := "versionsOwn", fn := fun _ => fun
  | [d1, d2] => { results := [.lit (.bool false)], args := [d1, d2] }
  | _ => none }
def VersionsOwnWrongFalsely : Prop := versionsOwnRow.holds Try.pinned (OpenSpec.ofChange versionsOwnWrong)

/-- 'simprooflaw32.VersionsMinimal': WHATEVER THE INPUT: true; the input reads as it did. -/
def versionsMinimalSpec : ChangeSpec := { name := "versionsMinimal", fn := fun _ => fun
  | [d1, d2, d3, d4, d5] => { results := [.lit (.bool true)], args := [d1, d2, d3, d4, d5] }
  | _ => none }
def versionsMinimalRow : OpenClaim := { program := "ytkbkmngbenohkaa", sum := "a9023262208efa0ff40cc163d1d66c39a69eab77f565c1717657f878d478ee60", func := "simproof/simprooflaw32.VersionsMinimal", spec := "versionsMinimal", unfollowed := true, recurses := true, apart := false }
def VersionsMinimalSaid : Prop := versionsMinimalRow.holds Try.pinned (OpenSpec.ofChange versionsMinimalSpec)

/-- ITS FALSE NEIGHBOUR: 'it returns false'. Refute it at one input. -/
def versionsMinimalWrong : ChangeSpec := { name := "versionsMinimal", fn := fun _ => fun
  | [d1, d2, d3, d4, d5] => { results := [.lit (.bool false)], args := [d1, d2, d3, d4, d5] }
  | _ => none }
def VersionsMinimalWrongFalsely : Prop := versionsMinimalRow.holds Try.pinned (OpenSpec.ofChange versionsMinimalWrong)

/-- 'simprooflaw32.VersionsRenamed': WHATEVER THE INPUT: true; the input reads as it did. -/
def versionsRenamedSpec : ChangeSpec := { name := "versionsRenamed", fn := fun _ => fun
  | [d1, d2, d3, d4] => { results := [.lit (.bool true)], args := [d1, d2, d3, d4] }
  | _ => none }
def versionsRenamedRow : OpenClaim := { program := "ytkbkmngbenohkaa", sum := "a9023262208efa0ff40cc163d1d66c39a69eab77f565c1717657f878d478ee60", func := "simproof/simprooflaw32.VersionsRenamed", spec := "versionsRenamed", unfollowed := true, recurses := true, apart := false }
def VersionsRenamedSaid : Prop := versionsRenamedRow.holds Try.pinned (OpenSpec.ofChange versionsRenamedSpec)

/-- ITS FALSE NEIGHBOUR: 'it returns false'. Refute it at one input. -/
def versionsRenamedWrong : ChangeSpec := { name := "versionsRenamed", fn := fun _ => fun
  | [d1, d2, d3, d4] => { results := [.lit (.bool false)], args := [d1, d2, d3, d4] }
  | _ => none }
def VersionsRenamedWrongFalsely : Prop := versionsRenamedRow.holds Try.pinned (OpenSpec.ofChange versionsRenamedWrong)

/-- 'simprooflaw32.VersionsOrder': WHATEVER THE INPUT: true; the input reads as it did. -/
def versionsOrderSpec : ChangeSpec := { name := "versionsOrder", fn := fun _ => fun
  | [d1, d2] => { results := [.lit (.bool true)], args := [d1, d2] }
  | _ => none }
def versionsOrderRow : OpenClaim := { program := "ytkbkmngbenohkaa", sum := "a9023262208efa0ff40cc163d1d66c39a69eab77f565c1717657f878d478ee60", func := "simproof/simprooflaw32.VersionsOrder", spec := "versionsOrder", unfollowed := true, recurses := true, apart := false }
def VersionsOrderSaid : Prop := versionsOrderRow.holds Try.pinned (OpenSpec.ofChange versionsOrderSpec)

/-- ITS FALSE NEIGHBOUR: 'it returns false'. Refute it at one input. -/
def versionsOrderWrong : ChangeSpec := { name := "versionsOrder", fn := fun _ => fun
  | [d1, d2] => { results := [.lit (.bool false)], args := [d1, d2] }
  | _ => none }
def VersionsOrderWrongFalsely : Prop := versionsOrderRow.holds Try.pinned (OpenSpec.ofChange versionsOrderWrong)

/-- 'simprooflaw33.BisectModel': WHATEVER THE INPUT: true; the input reads as it did. -/
def bisectModelSpec : ChangeSpec := { name := "bisectModel", fn := fun _ => fun
  | [d1, d2, d3, d4] => { results := [.lit (.bool true)], args := [d1, d2, d3, d4] }
  | _ => none }
def bisectModelRow : OpenClaim := { program := "ytkbkmngbenohkaa", sum := "a9023262208efa0ff40cc163d1d66c39a69eab77f565c1717657f878d478ee60", func := "simproof/simprooflaw33.BisectModel", spec := "bisectModel", unfollowed := true, recurses := true, apart := false }
def BisectModelSaid : Prop := bisectModelRow.holds Try.pinned (OpenSpec.ofChange bisectModelSpec)

/-- ITS FALSE NEIGHBOUR: 'it returns false'. Refute it at one input. -/
def bisectModelWrong : ChangeSpec := { name := "bisectModel", fn := fun _ => fun
  | [d1, d2, d3, d4] => { results := [.lit (.bool false)], args := [d1, d2, d3, d4] }
  | _ => none }
def BisectModelWrongFalsely : Prop := bisectModelRow.holds Try.pinned (OpenSpec.ofChange bisectModelWrong)

/-- 'simprooflaw33.BisectEconomy': WHATEVER THE INPUT: true; the input reads as it did. -/
def bisectEconomySpec : ChangeSpec := { name := "bisectEconomy", fn := fun _ => fun
  | [d1, d2, d3, d4] => { results := [.lit (.bool true)], args := [d1, d2, d3, d4] }
  | _ => none }
def bisectEconomyRow : OpenClaim := { program := "ytkbkmngbenohkaa", sum := "a9023262208efa0ff40cc163d1d66c39a69eab77f565c1717657f878d478ee60", func := "simproof/simprooflaw33.BisectEconomy", spec := "bisectEconomy", unfollowed := true, recurses := true, apart := false }
def BisectEconomySaid : Prop := bisectEconomyRow.holds Try.pinned (OpenSpec.ofChange bisectEconomySpec)

/-- ITS FALSE NEIGHBOUR: 'it returns false'. Refute it at one input. -/
def bisectEconomyWrong : ChangeSpec := { name := "bisectEconomy", fn := fun _ => fun
  | [d1, d2, d3, d4] => { results := [.lit (.bool false)], args := [d1, d2, d3, d4] }
  | _ => none }
def BisectEconomyWrongFalsely : Prop := bisectEconomyRow.holds Try.pinned (OpenSpec.ofChange bisectEconomyWrong)

/-- 'simprooflaw33.BisectHeads': WHATEVER THE INPUT: true; the input reads as it did. -/
def bisectHeadsSpec : ChangeSpec := { name := "bisectHeads", fn := fun _ => fun
  | [d1, d2, d3, d4] => { results := [.lit (.bool true)], args := [d1, d2, d3, d4] }
  | _ => none }
def bisectHeadsRow : OpenClaim := { program := "ytkbkmngbenohkaa", sum := "a9023262208efa0ff40cc163d1d66c39a69eab77f565c1717657f878d478ee60", func := "simproof/simprooflaw33.BisectHeads", spec := "bisectHeads", unfollowed := true, recurses := true, apart := false }
def BisectHeadsSaid : Prop := bisectHeadsRow.holds Try.pinned (OpenSpec.ofChange bisectHeadsSpec)

/-- ITS FALSE NEIGHBOUR: 'it returns false'. Refute it at one input. -/
def bisectHeadsWrong : ChangeSpec := { name := "bisectHeads", fn := fun _ => fun
  | [d1, d2, d3, d4] => { results := [.lit (.bool false)], args := [d1, d2, d3, d4] }
  | _ => none }
def BisectHeadsWrongFalsely : Prop := bisectHeadsRow.holds Try.pinned (OpenSpec.ofChange bisectHeadsWrong)

/-- 'simprooflaw33.BisectChain': WHATEVER THE INPUT: true; the input reads as it did. -/
def bisectChainSpec : ChangeSpec := { name := "bisectChain", fn := fun _ => fun
  | [d1, d2] => { results := [.lit (.bool true)], args := [d1, d2] }
  | _ => none }
def bisectChainRow : OpenClaim := { program := "ytkbkmngbenohkaa", sum := "a9023262208efa0ff40cc163d1d66c39a69eab77f565c1717657f878d478ee60", func := "simproof/simprooflaw33.BisectChain", spec := "bisectChain", unfollowed := true, recurses := true, apart := false }
def BisectChainSaid : Prop := bisectChainRow.holds Try.pinned (OpenSpec.ofChange bisectChainSpec)

/-- ITS FALSE NEIGHBOUR: 'it returns false'. Refute it at one input. -/
def bisectChainWrong : ChangeSpec := { name := "bisectChain", fn := fun _ => fun
  | [d1, d2] => { results := [.lit (.bool false)], args := [d1, d2] }
  | _ => none }
def BisectChainWrongFalsely : Prop := bisectChainRow.holds Try.pinned (OpenSpec.ofChange bisectChainWrong)

/-- 'simprooflaw33.BisectBound': WHATEVER THE INPUT: true; the input reads as it did. -/
def bisectBoundSpec : ChangeSpec := { name := "bisectBound", fn := fun _ => fun
  | [d] => { results := [.lit (.bool true)], args := [d] }
  | _ => none }
def bisectBoundRow : OpenClaim := { program := "ytkbkmngbenohkaa", sum := "a9023262208efa0ff40cc163d1d66c39a69eab77f565c1717657f878d478ee60", func := "simproof/simprooflaw33.BisectBound", spec := "bisectBound", unfollowed := true, recurses := true, apart := false }
def BisectBoundSaid : Prop := bisectBoundRow.holds Try.pinned (OpenSpec.ofChange bisectBoundSpec)

/-- ITS FALSE NEIGHBOUR: 'it returns false'. Refute it at one input. -/
def bisectBoundWrong : ChangeSpec := { name := "bisectBound", fn := fun _ => fun
  | [d] => { results := [.lit (.bool false)], args := [d] }
  | _ => none }
def BisectBoundWrongFalsely : Prop := bisectBoundRow.holds Try.pinned (OpenSpec.ofChange bisectBoundWrong)

/-- 'simprooflaw33.BisectRenaming': WHATEVER THE INPUT: true; the input reads as it did. -/
def bisectRenamingSpec : ChangeSpec := { name := "bisectRenaming", fn := fun _ => fun
  | [d1, d2, d3, d4] => { results := [.lit (.bool true)], args := [d1, d2, d3, d4] }
  | _ => none }
def bisectRenamingRow : OpenClaim := { program := "ytkbkmngbenohkaa", sum := "a9023262208efa0ff40cc163d1d66c39a69eab77f565c1717657f878d478ee60", func := "simproof/simprooflaw33.BisectRenaming", spec := "bisectRenaming", unfollowed := true, recurses := true, apart := false }
def BisectRenamingSaid : Prop := bisectRenamingRow.holds Try.pinned (OpenSpec.ofChange bisectRenamingSpec)

/-- ITS FALSE NEIGHBOUR: 'it returns false'. Refute it at one input. -/
def bisectRenamingWrong : ChangeSpec := { name := "bisectRenaming", fn := fun _ => fun
  | [d1, d2, d3, d4] => { results := [.lit (.bool false)], args := [d1, d2, d3, d4] }
  | _ => none }
def BisectRenamingWrongFalsely : Prop := bisectRenamingRow.holds Try.pinned (OpenSpec.ofChange bisectRenamingWrong)

/-- 'simprooflaw33.BisectExact': WHATEVER THE INPUT: true; the input reads as it did. -/
def bisectExactSpec : ChangeSpec := { name := "bisectExact", fn := fun _ => fun
  | [d1, d2, d3] => { results := [.lit (.bool true)], args := [d1, d2, d3] }
  | _ => none }
def bisectExactRow : OpenClaim := { program := "ytkbkmngbenohkaa", sum := "a9023262208efa0ff40cc163d1d66c39a69eab77f565c1717657f878d478ee60", func := "simproof/simprooflaw33.BisectExact", spec := "bisectExact", unfollowed := true, recurses := true, apart := false }
def BisectExactSaid : Prop := bisectExactRow.holds Try.pinned (OpenSpec.ofChange bisectExactSpec)

/-- ITS FALSE NEIGHBOUR: 'it returns false'. Refute it at one input. -/
def bisectExactWrong : ChangeSpec := { name := "bisectExact", fn := fun _ => fun
  | [d1, d2, d3] => { results := [.lit (.bool false)], args := [d1, d2, d3] }
  | _ => none }
def BisectExactWrongFalsely : Prop := bisectExactRow.holds Try.pinned (OpenSpec.ofChange bisectExactWrong)

/- THE SECOND FORM. 'bulk': how many values and letters a reading holds, each counted each time it is reached (what is shared counts as often as it is met; a slice's spare places count too). A statement '..UptoSaid' is the law's where the arguments, and the package variables that the reading takes, are together of bulk at most 1048576: NARROWER than '..Said'. Prove '..Said' where nothing that the law and all that it calls make is longer than what came in: it says more and counts as full. Else prove '..UptoSaid'. A law counts once. -/
mutual
def uptoBulk {H : Type} : DataW H → Nat
  | .lit (.string bytes) => bytes.length + 1
  | .lit _ => 1
  | .nil => 1
  | .ptr d => uptoBulk d + 1
  | .slice elems spare => uptoBulkAll elems + uptoBulkAll spare + 1
  | .agg parts => uptoBulkAll parts + 1
  | .iface _ d => uptoBulk d + 1
  | .map entries => uptoBulkEntries entries + 1
  | .held _ => 1
def uptoBulkAll {H : Type} : List (DataW H) → Nat
  | [] => 0
  | d :: r => uptoBulk d + uptoBulkAll r
def uptoBulkEntries {H : Type} : List (Lit × DataW H) → Nat
  | [] => 0
  | x :: r => uptoBulkEntry x + uptoBulkEntries r
def uptoBulkEntry {H : Type} : Lit × DataW H → Nat
  | (.string bytes, d) => bytes.length + uptoBulk d + 1
  | (_, d) => uptoBulk d + 1
 end
def uptoSmall : (H : Type) → List (DataW H) → Bool := fun _ ds => decide (uptoBulkAll ds ≤ 1048576)
def OpenSpec.upto (s : _root_.Go.ChangeSpec) : _root_.Go.OpenSpec := { _root_.Go.OpenSpec.ofChange s with cond := some uptoSmall }

/-- 'simprooflaw04.PosetLimits', WHERE WHAT IT READS IS OF BULK AT MOST 1048576: true; the input reads as it did. -/
def posetLimitsUptoRow : OpenClaim := { program := "ytkbkmngbenohkaa", sum := "a9023262208efa0ff40cc163d1d66c39a69eab77f565c1717657f878d478ee60", func := "simproof/simprooflaw04.PosetLimits", spec := "posetLimits", unfollowed := true, recurses := true, apart := false, narrowed := true }
def PosetLimitsUptoSaid : Prop := posetLimitsUptoRow.holds Try.pinned (OpenSpec.upto posetLimitsSpec)

/-- 'simprooflaw04.PosetOrder', WHERE WHAT IT READS IS OF BULK AT MOST 1048576: true; the input reads as it did. -/
def posetOrderUptoRow : OpenClaim := { program := "ytkbkmngbenohkaa", sum := "a9023262208efa0ff40cc163d1d66c39a69eab77f565c1717657f878d478ee60", func := "simproof/simprooflaw04.PosetOrder", spec := "posetOrder", unfollowed := true, recurses := true, apart := false, narrowed := true }
def PosetOrderUptoSaid : Prop := posetOrderUptoRow.holds Try.pinned (OpenSpec.upto posetOrderSpec)

/-- 'simprooflaw04.PosetCovers', WHERE WHAT IT READS IS OF BULK AT MOST 1048576: true; the input reads as it did. -/
def posetCoversUptoRow : OpenClaim := { program := "ytkbkmngbenohkaa", sum := "a9023262208efa0ff40cc163d1d66c39a69eab77f565c1717657f878d478ee60", func := "simproof/simprooflaw04.PosetCovers", spec := "posetCovers", unfollowed := true, recurses := true, apart := false, narrowed := true }
def PosetCoversUptoSaid : Prop := posetCoversUptoRow.holds Try.pinned (OpenSpec.upto posetCoversSpec)

/-- 'simprooflaw04.PosetDown', WHERE WHAT IT READS IS OF BULK AT MOST 1048576: true; the input reads as it did. -/
def posetDownUptoRow : OpenClaim := { program := "ytkbkmngbenohkaa", sum := "a9023262208efa0ff40cc163d1d66c39a69eab77f565c1717657f878d478ee60", func := "simproof/simprooflaw04.PosetDown", spec := "posetDown", unfollowed := true, recurses := true, apart := false, narrowed := true }
def PosetDownUptoSaid : Prop := posetDownUptoRow.holds Try.pinned (OpenSpec.upto posetDownSpec)

/-- 'simprooflaw04.PosetOwns', WHERE WHAT IT READS IS OF BULK AT MOST 1048576: true; the input reads as it did. -/
def posetOwnsUptoRow : OpenClaim := { program := "ytkbkmngbenohkaa", sum := "a9023262208efa0ff40cc163d1d66c39a69eab77f565c1717657f878d478ee60", func := "simproof/simprooflaw04.PosetOwns", spec := "posetOwns", unfollowed := true, recurses := true, apart := false, narrowed := true }
def PosetOwnsUptoSaid : Prop := posetOwnsUptoRow.holds Try.pinned (OpenSpec.upto posetOwnsSpec)

/-- 'simprooflaw04.PosetNew', WHERE WHAT IT READS IS OF BULK AT MOST 1048576: true; the input reads as it did. -/
def posetNewUptoRow : OpenClaim := { program := "ytkbkmngbenohkaa", sum := "a9023262208efa0ff40cc163d1d66c39a69eab77f565c1717657f878d478ee60", func := "simproof/simprooflaw04.PosetNew", spec := "posetNew", unfollowed := true, recurses := true, apart := false, narrowed := true }
def PosetNewUptoSaid : Prop := posetNewUptoRow.holds Try.pinned (OpenSpec.upto posetNewSpec)

/-- 'simprooflaw04.PosetLinear', WHERE WHAT IT READS IS OF BULK AT MOST 1048576: true; the input reads as it did. -/
def posetLinearUptoRow : OpenClaim := { program := "ytkbkmngbenohkaa", sum := "a9023262208efa0ff40cc163d1d66c39a69eab77f565c1717657f878d478ee60", func := "simproof/simprooflaw04.PosetLinear", spec := "posetLinear", unfollowed := true, recurses := true, apart := false, narrowed := true }
def PosetLinearUptoSaid : Prop := posetLinearUptoRow.holds Try.pinned (OpenSpec.upto posetLinearSpec)

/-- 'simprooflaw04.PosetExtensions', WHERE WHAT IT READS IS OF BULK AT MOST 1048576: true; the input reads as it did. -/
def posetExtensionsUptoRow : OpenClaim := { program := "ytkbkmngbenohkaa", sum := "a9023262208efa0ff40cc163d1d66c39a69eab77f565c1717657f878d478ee60", func := "simproof/simprooflaw04.PosetExtensions", spec := "posetExtensions", unfollowed := true, recurses := true, apart := false, narrowed := true }
def PosetExtensionsUptoSaid : Prop := posetExtensionsUptoRow.holds Try.pinned (OpenSpec.upto posetExtensionsSpec)

/-- 'simprooflaw04.PosetSwaps', WHERE WHAT IT READS IS OF BULK AT MOST 1048576: true; the input reads as it did. -/
def posetSwapsUptoRow : OpenClaim := { program := "ytkbkmngbenohkaa", sum := "a9023262208efa0ff40cc163d1d66c39a69eab77f565c1717657f878d478ee60", func := "simproof/simprooflaw04.PosetSwaps", spec := "posetSwaps", unfollowed := true, recurses := true, apart := false, narrowed := true }
def PosetSwapsUptoSaid : Prop := posetSwapsUptoRow.holds Try.pinned (OpenSpec.upto posetSwapsSpec)

/-- 'simprooflaw04.PosetGraph', WHERE WHAT IT READS IS OF BULK AT MOST 1048576: true; the input reads as it did. -/
def posetGraphUptoRow : OpenClaim := { program := "ytkbkmngbenohkaa", sum := "a9023262208efa0ff40cc163d1d66c39a69eab77f565c1717657f878d478ee60", func := "simproof/simprooflaw04.PosetGraph", spec := "posetGraph", unfollowed := true, recurses := true, apart := false, narrowed := true }
def PosetGraphUptoSaid : Prop := posetGraphUptoRow.holds Try.pinned (OpenSpec.upto posetGraphSpec)

/-- 'simprooflaw32.VersionsBlame', WHERE WHAT IT READS IS OF BULK AT MOST 1048576: true; the input reads as it did. -/
def versionsBlameUptoRow : OpenClaim := { program := "ytkbkmngbenohkaa", sum := "a9023262208efa0ff40cc163d1d66c39a69eab77f565c1717657f878d478ee60", func := "simproof/simprooflaw32.VersionsBlame", spec := "versionsBlame", unfollowed := true, recurses := true, apart := false, narrowed := true }
def VersionsBlameUptoSaid : Prop := versionsBlameUptoRow.holds Try.pinned (OpenSpec.upto versionsBlameSpec)

/-- 'simprooflaw32.VersionsSuspects', WHERE WHAT IT READS IS OF BULK AT MOST 1048576: true; the input reads as it did. -/
def versionsSuspectsUptoRow : OpenClaim := { program := "ytkbkmngbenohkaa", sum := "a9023262208efa0ff40cc163d1d66c39a69eab77f565c1717657f878d478ee60", func := "simproof/simprooflaw32.VersionsSuspects", spec := "versionsSuspects", unfollowed := true, recurses := true, apart := false, narrowed := true }
def VersionsSuspectsUptoSaid : Prop := versionsSuspectsUptoRow.holds Try.pinned (OpenSpec.upto versionsSuspectsSpec)

/-- 'simprooflaw32.VersionsTested', WHERE WHAT IT READS IS OF BULK AT MOST 1048576: true; the input reads as it did. -/
def versionsTestedUptoRow : OpenClaim := { program := "ytkbkmngbenohkaa", sum := "a9023262208efa0ff40cc163d1d66c39a69eab77f565c1717657f878d478ee60", func := "simproof/simprooflaw32.VersionsTested", spec := "versionsTested", unfollowed := true, recurses := true, apart := false, narrowed := true }
def VersionsTestedUptoSaid : Prop := versionsTestedUptoRow.holds Try.pinned (OpenSpec.upto versionsTestedSpec)

/-- 'simprooflaw32.VersionsBuild', WHERE WHAT IT READS IS OF BULK AT MOST 1048576: true; the input reads as it did. -/
def versionsBuildUptoRow : OpenClaim := { program := "ytkbkmngbenohkaa", sum := "a9023262208efa0ff40cc163d1d66c39a69eab77f565c1717657f878d478ee60", func := "simproof/simprooflaw32.VersionsBuild", spec := "versionsBuild", unfollowed := true, recurses := true, apart := false, narrowed := true }
def VersionsBuildUptoSaid : Prop := versionsBuildUptoRow.holds Try.pinned (OpenSpec.upto versionsBuildSpec)

/-- 'simprooflaw32.VersionsOwn', WHERE WHAT IT READS IS OF BULK AT MOST 1048576: true; the input reads as it did. -/
def versionsOwnUptoRow : OpenClaim := { program := "ytkbkmngbenohkaa", sum := "a9023262208efa0ff40cc163d1d66c39a69eab77f565c1717657f878d478ee60", func := "simproof/simprooflaw32.VersionsOwn", spec := "versionsOwn", unfollowed := true, recurses := true, apart := false, narrowed := true }
def VersionsOwnUptoSaid : Prop := versionsOwnUptoRow.holds Try.pinned (OpenSpec.upto versionsOwnSpec)

/-- 'simprooflaw32.VersionsMinimal', WHERE WHAT IT READS IS OF BULK AT MOST 1048576: true; the input reads as it did. -/
def versionsMinimalUptoRow : OpenClaim := { program := "ytkbkmngbenohkaa", sum := "a9023262208efa0ff40cc163d1d66c39a69eab77f565c1717657f878d478ee60", func := "simproof/simprooflaw32.VersionsMinimal", spec := "versionsMinimal", unfollowed := true, recurses := true, apart := false, narrowed := true }
def VersionsMinimalUptoSaid : Prop := versionsMinimalUptoRow.holds Try.pinned (OpenSpec.upto versionsMinimalSpec)

/-- 'simprooflaw32.VersionsRenamed', WHERE WHAT IT READS IS OF BULK AT MOST 1048576: true; the input reads as it did. -/
def versionsRenamedUptoRow : OpenClaim := { program := "ytkbkmngbenohkaa", sum := "a9023262208efa0ff40cc163d1d66c39a69eab77f565c1717657f878d478ee60", func := "simproof/simprooflaw32.VersionsRenamed", spec := "versionsRenamed", unfollowed := true, recurses := true, apart := false, narrowed := true }
def VersionsRenamedUptoSaid : Prop := versionsRenamedUptoRow.holds Try.pinned (OpenSpec.upto versionsRenamedSpec)

/-- 'simprooflaw32.VersionsOrder', WHERE WHAT IT READS IS OF BULK AT MOST 1048576: true; the input reads as it did. -/
def versionsOrderUptoRow : OpenClaim := { program := "ytkbkmngbenohkaa", sum := "a9023262208efa0ff40cc163d1d66c39a69eab77f565c1717657f878d478ee60", func := "simproof/simprooflaw32.VersionsOrder", spec := "versionsOrder", unfollowed := true, recurses := true, apart := false, narrowed := true }
def VersionsOrderUptoSaid : Prop := versionsOrderUptoRow.holds Try.pinned (OpenSpec.upto versionsOrderSpec)

/-- 'simprooflaw33.BisectModel', WHERE WHAT IT READS IS OF BULK AT MOST 1048576: true; the input reads as it did. -/
def bisectModelUptoRow : OpenClaim := { program := "ytkbkmngbenohkaa", sum := "a9023262208efa0ff40cc163d1d66c39a69eab77f565c1717657f878d478ee60", func := "simproof/simprooflaw33.BisectModel", spec := "bisectModel", unfollowed := true, recurses := true, apart := false, narrowed := true }
def BisectModelUptoSaid : Prop := bisectModelUptoRow.holds Try.pinned (OpenSpec.upto bisectModelSpec)

/-- 'simprooflaw33.BisectEconomy', WHERE WHAT IT READS IS OF BULK AT MOST 1048576: true; the input reads as it did. -/
def bisectEconomyUptoRow : OpenClaim := { program := "ytkbkmngbenohkaa", sum := "a9023262208efa0ff40cc163d1d66c39a69eab77f565c1717657f878d478ee60", func := "simproof/simprooflaw33.BisectEconomy", spec := "bisectEconomy", unfollowed := true, recurses := true, apart := false, narrowed := true }
def BisectEconomyUptoSaid : Prop := bisectEconomyUptoRow.holds Try.pinned (OpenSpec.upto bisectEconomySpec)

/-- 'simprooflaw33.BisectHeads', WHERE WHAT IT READS IS OF BULK AT MOST 1048576: true; the input reads as it did. -/
def bisectHeadsUptoRow : OpenClaim := { program := "ytkbkmngbenohkaa", sum := "a9023262208efa0ff40cc163d1d66c39a69eab77f565c1717657f878d478ee60", func := "simproof/simprooflaw33.BisectHeads", spec := "bisectHeads", unfollowed := true, recurses := true, apart := false, narrowed := true }
def BisectHeadsUptoSaid : Prop := bisectHeadsUptoRow.holds Try.pinned (OpenSpec.upto bisectHeadsSpec)

/-- 'simprooflaw33.BisectChain', WHERE WHAT IT READS IS OF BULK AT MOST 1048576: true; the input reads as it did. -/
def bisectChainUptoRow : OpenClaim := { program := "ytkbkmngbenohkaa", sum := "a9023262208efa0ff40cc163d1d66c39a69eab77f565c1717657f878d478ee60", func := "simproof/simprooflaw33.BisectChain", spec := "bisectChain", unfollowed := true, recurses := true, apart := false, narrowed := true }
def BisectChainUptoSaid : Prop := bisectChainUptoRow.holds Try.pinned (OpenSpec.upto bisectChainSpec)

/-- 'simprooflaw33.BisectBound', WHERE WHAT IT READS IS OF BULK AT MOST 1048576: true; the input reads as it did. -/
def bisectBoundUptoRow : OpenClaim := { program := "ytkbkmngbenohkaa", sum := "a9023262208efa0ff40cc163d1d66c39a69eab77f565c1717657f878d478ee60", func := "simproof/simprooflaw33.BisectBound", spec := "bisectBound", unfollowed := true, recurses := true, apart := false, narrowed := true }
def BisectBoundUptoSaid : Prop := bisectBoundUptoRow.holds Try.pinned (OpenSpec.upto bisectBoundSpec)

/-- 'simprooflaw33.BisectRenaming', WHERE WHAT IT READS IS OF BULK AT MOST 1048576: true; the input reads as it did. -/
def bisectRenamingUptoRow : OpenClaim := { program := "ytkbkmngbenohkaa", sum := "a9023262208efa0ff40cc163d1d66c39a69eab77f565c1717657f878d478ee60", func := "simproof/simprooflaw33.BisectRenaming", spec := "bisectRenaming", unfollowed := true, recurses := true, apart := false, narrowed := true }
def BisectRenamingUptoSaid : Prop := bisectRenamingUptoRow.holds Try.pinned (OpenSpec.upto bisectRenamingSpec)

/-- 'simprooflaw33.BisectExact', WHERE WHAT IT READS IS OF BULK AT MOST 1048576: true; the input reads as it did. -/
def bisectExactUptoRow : OpenClaim := { program := "ytkbkmngbenohkaa", sum := "a9023262208efa0ff40cc163d1d66c39a69eab77f565c1717657f878d478ee60", func := "simproof/simprooflaw33.BisectExact", spec := "bisectExact", unfollowed := true, recurses := true, apart := false, narrowed := true }
def BisectExactUptoSaid : Prop := bisectExactUptoRow.holds Try.pinned (OpenSpec.upto bisectExactSpec)

end Rows
end Go.Proofs.Ytkbkmngbenohkaa

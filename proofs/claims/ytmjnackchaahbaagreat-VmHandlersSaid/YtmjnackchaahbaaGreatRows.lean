/-
  No cell of these rows narrows 'for every input' (looked for: loops, veiled, ifaces, maps, wideKeys, modest, calm, conditions, laid).
  DERIVED. THE GIVEN ROWS OF THIS SEAT. 17 by the template 'for every input the law returns true; each argument reads behind the call as it read before'; 0 by the template 'total and deterministic' (their statements: YtmjnackchaahbaaGreatTotals.lean).
  GIVEN WITH THE SEED: the statements are not yours to turn. If you find one false, say at which input.
  Laid BY PROGRAM, IN A SANDBOX (cutbox-rows.mjs): the forced cells as the released guide's own fill.sh prints them over the translation 213b4c56740a745a… (all of the seat's roots in one cut). By AI agents, Wed Nov 11 2026. No macro, syntax, notation, axiom, sorry.
-/
import Derived.Test.YtmjnackchaahbaaGreatChecked
import GoSem.Claim
import GoSem.ClaimJoined
import GoSem.ClaimMapViews
import Derived.JoinedTies
import Derived.KernelRfl
namespace Go.Proofs.YtmjnackchaahbaaGreat
/- THE CELL 'sum', in the pinned program and in every row, IS THE sha256 OF THE DUMP (.gsa) THAT YtmjnackchaahbaaGreatProg.lean LOADS. Nothing in Lean hashes anything: it is a label: what it is worth is what the hold of that sum in a sandbox is worth. -/
noncomputable def Tryz.pinned : Pinned := { name := "ytmjnackchaahbaagreat", sum := "213b4c56740a745af34db6db2fb871f077f095360ce16bc8cf158395541cd2f7", checked := Tryz.checked }
namespace Rows
def none {H : Type} : Left H := { results := [], args := [] }

/-- 'simprooflaw09.VmRuns': WHATEVER THE INPUT: true; the input reads as it did. -/
def vmRunsSpec : ChangeSpec := { name := "vmRuns", fn := fun _ => fun
  | [d1, d2, d3, d4] => { results := [.lit (.bool true)], args := [d1, d2, d3, d4] }
  | _ => none }
def vmRunsRow : OpenClaim := { program := "ytmjnackchaahbaagreat", sum := "213b4c56740a745af34db6db2fb871f077f095360ce16bc8cf158395541cd2f7", func := "simproof/simprooflaw09.VmRuns", spec := "vmRuns", unfollowed := true, recurses := true, apart := false }
def VmRunsSaid : Prop := vmRunsRow.holds Tryz.pinned (OpenSpec.ofChange vmRunsSpec)

/-- ITS FALSE NEIGHBOUR: 'it returns false'. Refute it at one input. -/
def vmRunsWrong : ChangeSpec := { name := "vmRuns", fn := fun _ => fun
  | [d1, d2, d3, d4] => { results := [.lit (.bool false)], args := [d1, d2, d3, d4] }
  | _ => none }
def VmRunsWrongFalsely : Prop := vmRunsRow.holds Tryz.pinned (OpenSpec.ofChange vmRunsWrong)

/-- 'simprooflaw09.VmArithmetic': WHATEVER THE INPUT: true; the input reads as it did. -/
def vmArithmeticSpec : ChangeSpec := { name := "vmArithmetic", fn := fun _ => fun
  | [d1, d2] => { results := [.lit (.bool true)], args := [d1, d2] }
  | _ => none }
def vmArithmeticRow : OpenClaim := { program := "ytmjnackchaahbaagreat", sum := "213b4c56740a745af34db6db2fb871f077f095360ce16bc8cf158395541cd2f7", func := "simproof/simprooflaw09.VmArithmetic", spec := "vmArithmetic", unfollowed := true, recurses := true, apart := false }
def VmArithmeticSaid : Prop := vmArithmeticRow.holds Tryz.pinned (OpenSpec.ofChange vmArithmeticSpec)

/-- ITS FALSE NEIGHBOUR: 'it returns false'. Refute it at one input. -/
def vmArithmeticWrong : ChangeSpec := { name := "vmArithmetic", fn := fun _ => fun
  | [d1, d2] => { results := [.lit (.bool false)], args := [d1, d2] }
  | _ => none }
def VmArithmeticWrongFalsely : Prop := vmArithmeticRow.holds Tryz.pinned (OpenSpec.ofChange vmArithmeticWrong)

/-- 'simprooflaw09.VmAsks': WHATEVER THE INPUT: true; the input reads as it did. -/
def vmAsksSpec : ChangeSpec := { name := "vmAsks", fn := fun _ => fun
  | [d1, d2, d3, d4] => { results := [.lit (.bool true)], args := [d1, d2, d3, d4] }
  | _ => none }
def vmAsksRow : OpenClaim := { program := "ytmjnackchaahbaagreat", sum := "213b4c56740a745af34db6db2fb871f077f095360ce16bc8cf158395541cd2f7", func := "simproof/simprooflaw09.VmAsks", spec := "vmAsks", unfollowed := true, recurses := true, apart := false }
def VmAsksSaid : Prop := vmAsksRow.holds Tryz.pinned (OpenSpec.ofChange vmAsksSpec)

/-- ITS FALSE NEIGHBOUR: 'it returns false'. Refute it at one input. -/
def vmAsksWrong : ChangeSpec := { name := "vmAsks", fn := fun _ => fun
  | [d1, d2, d3, d4] => { results := [.lit (.bool false)], args := [d1, d2, d3, d4] }
  | _ => none }
def VmAsksWrongFalsely : Prop := vmAsksRow.holds Tryz.pinned (OpenSpec.ofChange vmAsksWrong)

/-- 'simprooflaw09.VmBounds': WHATEVER THE INPUT: true; the input reads as it did. -/
def vmBoundsSpec : ChangeSpec := { name := "vmBounds", fn := fun _ => fun
  | [d1, d2, d3, d4, d5] => { results := [.lit (.bool true)], args := [d1, d2, d3, d4, d5] }
  | _ => none }
def vmBoundsRow : OpenClaim := { program := "ytmjnackchaahbaagreat", sum := "213b4c56740a745af34db6db2fb871f077f095360ce16bc8cf158395541cd2f7", func := "simproof/simprooflaw09.VmBounds", spec := "vmBounds", unfollowed := true, recurses := true, apart := false }
def VmBoundsSaid : Prop := vmBoundsRow.holds Tryz.pinned (OpenSpec.ofChange vmBoundsSpec)

/-- ITS FALSE NEIGHBOUR: 'it returns false'. Refute it at one input. -/
def vmBoundsWrong : ChangeSpec := { name := "vmBounds", fn := fun _ => fun
  | [d1, d2, d3, d4, d5] => { results := [.lit (.bool false)], args := [d1, d2, d3, d4, d5] }
  | _ => none }
def VmBoundsWrongFalsely : Prop := vmBoundsRow.holds Tryz.pinned (OpenSpec.ofChange vmBoundsWrong)

/-- 'simprooflaw09.VmWrites': WHATEVER THE INPUT: true; the input reads as it did. -/
def vmWritesSpec : ChangeSpec := { name := "vmWrites", fn := fun _ => fun
  | [d1, d2, d3] => { results := [.lit (.bool true)], args := [d1, d2, d3] }
  | _ => none }
def vmWritesRow : OpenClaim := { program := "ytmjnackchaahbaagreat", sum := "213b4c56740a745af34db6db2fb871f077f095360ce16bc8cf158395541cd2f7", func := "simproof/simprooflaw09.VmWrites", spec := "vmWrites", unfollowed := true, recurses := true, apart := false }
def VmWritesSaid : Prop := vmWritesRow.holds Tryz.pinned (OpenSpec.ofChange vmWritesSpec)

/-- ITS FALSE NEIGHBOUR: 'it returns false'. Refute it at one input. -/
def vmWritesWrong : ChangeSpec := { name := "vmWrites", fn := fun _ => fun
  | [d1, d2, d3] => { results := [.lit (.bool false)], args := [d1, d2, d3] }
  | _ => none }
def VmWritesWrongFalsely : Prop := vmWritesRow.holds Tryz.pinned (OpenSpec.ofChange vmWritesWrong)

/-- 'simprooflaw09.VmCovers': WHATEVER THE INPUT: true; the input reads as it did. -/
def vmCoversSpec : ChangeSpec := { name := "vmCovers", fn := fun _ => fun
  | [d1, d2, d3] => { results := [.lit (.bool true)], args := [d1, d2, d3] }
  | _ => none }
def vmCoversRow : OpenClaim := { program := "ytmjnackchaahbaagreat", sum := "213b4c56740a745af34db6db2fb871f077f095360ce16bc8cf158395541cd2f7", func := "simproof/simprooflaw09.VmCovers", spec := "vmCovers", unfollowed := true, recurses := true, apart := false }
def VmCoversSaid : Prop := vmCoversRow.holds Tryz.pinned (OpenSpec.ofChange vmCoversSpec)

/-- ITS FALSE NEIGHBOUR: 'it returns false'. Refute it at one input. -/
def vmCoversWrong : ChangeSpec := { name := "vmCovers", fn := fun _ => fun
  | [d1, d2, d3] => { results := [.lit (.bool false)], args := [d1, d2, d3] }
  | _ => none }
def VmCoversWrongFalsely : Prop := vmCoversRow.holds Tryz.pinned (OpenSpec.ofChange vmCoversWrong)

/-- 'simprooflaw09.VmOwn': WHATEVER THE INPUT: true; the input reads as it did. -/
def vmOwnSpec : ChangeSpec := { name := "vmOwn", fn := fun _ => fun
  | [d1, d2] => { results := [.lit (.bool true)], args := [d1, d2] }
  | _ => none }
def vmOwnRow : OpenClaim := { program := "ytmjnackchaahbaagreat", sum := "213b4c56740a745af34db6db2fb871f077f095360ce16bc8cf158395541cd2f7", func := "simproof/simprooflaw09.VmOwn", spec := "vmOwn", unfollowed := true, recurses := true, apart := false }
def VmOwnSaid : Prop := vmOwnRow.holds Tryz.pinned (OpenSpec.ofChange vmOwnSpec)

/-- ITS FALSE NEIGHBOUR: 'it returns false'. Refute it at one input. -/
def vmOwnWrong : ChangeSpec := { name := "vmOwn", fn := fun _ => fun
  | [d1, d2] => { results := [.lit (.bool false)], args := [d1, d2] }
  | _ => none }
def VmOwnWrongFalsely : Prop := vmOwnRow.holds Tryz.pinned (OpenSpec.ofChange vmOwnWrong)

/-- 'simprooflaw09.VmHandlers': WHATEVER THE INPUT: true; the input reads as it did. -/
def vmHandlersSpec : ChangeSpec := { name := "vmHandlers", fn := fun _ => fun
  | [d1, d2, d3, d4] => { results := [.lit (.bool true)], args := [d1, d2, d3, d4] }
  | _ => none }
def vmHandlersRow : OpenClaim := { program := "ytmjnackchaahbaagreat", sum := "213b4c56740a745af34db6db2fb871f077f095360ce16bc8cf158395541cd2f7", func := "simproof/simprooflaw09.VmHandlers", spec := "vmHandlers", unfollowed := true, recurses := true, apart := false }
def VmHandlersSaid : Prop := vmHandlersRow.holds Tryz.pinned (OpenSpec.ofChange vmHandlersSpec)

/-- ITS FALSE NEIGHBOUR: 'it returns false'. Refute it at one input. -/
def vmHandlersWrong : ChangeSpec := { name := "vmHandlers", fn := fun _ => fun
  | [d1, d2, d3, d4] => { results := [.lit (.bool false)], args := [d1, d2, d3, d4] }
  | _ => none }
def VmHandlersWrongFalsely : Prop := vmHandlersRow.holds Tryz.pinned (OpenSpec.ofChange vmHandlersWrong)

/-- 'simprooflaw13.NodePlays': WHATEVER THE INPUT: true; the input reads as it did. -/
def nodePlaysSpec : ChangeSpec := { name := "nodePlays", fn := fun _ => fun
  | [d1, d2, d3, d4] => { results := [.lit (.bool true)], args := [d1, d2, d3, d4] }
  | _ => none }
def nodePlaysRow : OpenClaim := { program := "ytmjnackchaahbaagreat", sum := "213b4c56740a745af34db6db2fb871f077f095360ce16bc8cf158395541cd2f7", func := "simproof/simprooflaw13.NodePlays", spec := "nodePlays", inPlace := ["slices.overlaps[int]"], unfollowed := true, recurses := true, apart := false }
def NodePlaysSaid : Prop := nodePlaysRow.holds Tryz.pinned (OpenSpec.ofChange nodePlaysSpec)

/-- ITS FALSE NEIGHBOUR: 'it returns false'. Refute it at one input. -/
def nodePlaysWrong : ChangeSpec := { name := "nodePlays", fn := fun _ => fun
  | [d1, d2, d3, d4] => { results := [.lit (.bool false)], args := [d1, d2, d3, d4] }
  | _ => none }
def NodePlaysWrongFalsely : Prop := nodePlaysRow.holds Tryz.pinned (OpenSpec.ofChange nodePlaysWrong)

/-- 'simprooflaw13.NodeQuestions': WHATEVER THE INPUT: true; the input reads as it did. -/
def nodeQuestionsSpec : ChangeSpec := { name := "nodeQuestions", fn := fun _ => fun
  | [d1, d2, d3] => { results := [.lit (.bool true)], args := [d1, d2, d3] }
  | _ => none }
def nodeQuestionsRow : OpenClaim := { program := "ytmjnackchaahbaagreat", sum := "213b4c56740a745af34db6db2fb871f077f095360ce16bc8cf158395541cd2f7", func := "simproof/simprooflaw13.NodeQuestions", spec := "nodeQuestions", inPlace := ["slices.overlaps[int]"], unfollowed := true, recurses := true, apart := false }
def NodeQuestionsSaid : Prop := nodeQuestionsRow.holds Tryz.pinned (OpenSpec.ofChange nodeQuestionsSpec)

/-- ITS FALSE NEIGHBOUR: 'it returns false'. Refute it at one input. -/
def nodeQuestionsWrong : ChangeSpec := { name := "nodeQuestions", fn := fun _ => fun
  | [d1, d2, d3] => { results := [.lit (.bool false)], args := [d1, d2, d3] }
  | _ => none }
def NodeQuestionsWrongFalsely : Prop := nodeQuestionsRow.holds Tryz.pinned (OpenSpec.ofChange nodeQuestionsWrong)

/-- 'simprooflaw13.NodeCounts': WHATEVER THE INPUT: true; the input reads as it did. -/
def nodeCountsSpec : ChangeSpec := { name := "nodeCounts", fn := fun _ => fun
  | [d1, d2, d3] => { results := [.lit (.bool true)], args := [d1, d2, d3] }
  | _ => none }
def nodeCountsRow : OpenClaim := { program := "ytmjnackchaahbaagreat", sum := "213b4c56740a745af34db6db2fb871f077f095360ce16bc8cf158395541cd2f7", func := "simproof/simprooflaw13.NodeCounts", spec := "nodeCounts", inPlace := ["slices.overlaps[int]"], unfollowed := true, recurses := true, apart := false }
def NodeCountsSaid : Prop := nodeCountsRow.holds Tryz.pinned (OpenSpec.ofChange nodeCountsSpec)

/-- ITS FALSE NEIGHBOUR: 'it returns false'. Refute it at one input. -/
def nodeCountsWrong : ChangeSpec := { name := "nodeCounts", fn := fun _ => fun
  | [d1, d2, d3] => { results := [.lit (.bool false)], args := [d1, d2, d3] }
  | _ => none }
def NodeCountsWrongFalsely : Prop := nodeCountsRow.holds Tryz.pinned (OpenSpec.ofChange nodeCountsWrong)

/-- 'simprooflaw13.NodeMessages': WHATEVER THE INPUT: true; the input reads as it did. -/
def nodeMessagesSpec : ChangeSpec := { name := "nodeMessages", fn := fun _ => fun
  | [d1, d2, d3] => { results := [.lit (.bool true)], args := [d1, d2, d3] }
  | _ => none }
def nodeMessagesRow : OpenClaim := { program := "ytmjnackchaahbaagreat", sum := "213b4c56740a745af34db6db2fb871f077f095360ce16bc8cf158395541cd2f7", func := "simproof/simprooflaw13.NodeMessages", spec := "nodeMessages", inPlace := ["slices.overlaps[int]"], unfollowed := true, recurses := true, apart := false }
def NodeMessagesSaid : Prop := nodeMessagesRow.holds Tryz.pinned (OpenSpec.ofChange nodeMessagesSpec)

/-- ITS FALSE NEIGHBOUR: 'it returns false'. Refute it at one input. -/
def nodeMessagesWrong : ChangeSpec := { name := "nodeMessages", fn := fun _ => fun
  | [d1, d2, d3] => { results := [.lit (.bool false)], args := [d1, d2, d3] }
  | _ => none }
def NodeMessagesWrongFalsely : Prop := nodeMessagesRow.holds Tryz.pinned (OpenSpec.ofChange nodeMessagesWrong)

/-- 'simprooflaw13.NodeReplies': WHATEVER THE INPUT: true; the input reads as it did. -/
def nodeRepliesSpec : ChangeSpec := { name := "nodeReplies", fn := fun _ => fun
  | [d1, d2] => { results := [.lit (.bool true)], args := [d1, d2] }
  | _ => none }
def nodeRepliesRow : OpenClaim := { program := "ytmjnackchaahbaagreat", sum := "213b4c56740a745af34db6db2fb871f077f095360ce16bc8cf158395541cd2f7", func := "simproof/simprooflaw13.NodeReplies", spec := "nodeReplies", inPlace := ["slices.overlaps[int]"], unfollowed := true, recurses := true, apart := false }
def NodeRepliesSaid : Prop := nodeRepliesRow.holds Tryz.pinned (OpenSpec.ofChange nodeRepliesSpec)

/-- ITS FALSE NEIGHBOUR: 'it returns false'. Refute it at one input. -/
def nodeRepliesWrong : ChangeSpec := { name := "nodeReplies", fn := fun _ => fun
  | [d1, d2] => { results := [.lit (.bool false)], args := [d1, d2] }
  | _ => none }
def NodeRepliesWrongFalsely : Prop := nodeRepliesRow.holds Tryz.pinned (OpenSpec.ofChange nodeRepliesWrong)

/-- 'simprooflaw13.NodeCrash': WHATEVER THE INPUT: true; the input reads as it did. -/
def nodeCrashSpec : ChangeSpec := { name := "nodeCrash", fn := fun _ => fun
  | [d1, d2] => { results := [.lit (.bool true)], args := [d1, d2] }
  | _ => none }
def nodeCrashRow : OpenClaim := { program := "ytmjnackchaahbaagreat", sum := "213b4c56740a745af34db6db2fb871f077f095360ce16bc8cf158395541cd2f7", func := "simproof/simprooflaw13.NodeCrash", spec := "nodeCrash", inPlace := ["slices.overlaps[int]"], unfollowed := true, recurses := true, apart := false }
def NodeCrashSaid : Prop := nodeCrashRow.holds Tryz.pinned (OpenSpec.ofChange nodeCrashSpec)

/-- ITS FALSE NEIGHBOUR: 'it returns false'. Refute it at one input. -/
def nodeCrashWrong : ChangeSpec := { name := "nodeCrash", fn := fun _ => fun
  | [d1, d2] => { results := [.lit (.bool false)], args := [d1, d2] }
  | _ => none }
def NodeCrashWrongFalsely : Prop := nodeCrashRow.holds Tryz.pinned (OpenSpec.ofChange nodeCrashWrong)

/-- 'simprooflaw13.NodeSynced': WHATEVER THE INPUT: true; the input reads as it did. -/
def nodeSyncedSpec : ChangeSpec := { name := "nodeSynced", fn := fun _ => fun
  | [d1, d2] => { results := [.lit (.bool true)], args := [d1, d2] }
  | _ => none }
def nodeSyncedRow : OpenClaim := { program := "ytmjnackchaahbaagreat", sum := "213b4c56740a745af34db6db2fb871f077f095360ce16bc8cf158395541cd2f7", func := "simproof/simprooflaw13.NodeSynced", spec := "nodeSynced", inPlace := ["slices.overlaps[int]"], unfollowed := true, recurses := true, apart := false }
def NodeSyncedSaid : Prop := nodeSyncedRow.holds Tryz.pinned (OpenSpec.ofChange nodeSyncedSpec)

/-- ITS FALSE NEIGHBOUR: 'it returns false'. Refute it at one input. -/
def nodeSyncedWrong : ChangeSpec := { name := "nodeSynced", fn := fun _ => fun
  | [d1, d2] => { results := [.lit (.bool false)], args := [d1, d2] }
  | _ => none }
def NodeSyncedWrongFalsely : Prop := nodeSyncedRow.holds Tryz.pinned (OpenSpec.ofChange nodeSyncedWrong)

/-- 'simprooflaw13.NodeRestart': WHATEVER THE INPUT: true; the input reads as it did. -/
def nodeRestartSpec : ChangeSpec := { name := "nodeRestart", fn := fun _ => fun
  | [d1, d2, d3] => { results := [.lit (.bool true)], args := [d1, d2, d3] }
  | _ => none }
def nodeRestartRow : OpenClaim := { program := "ytmjnackchaahbaagreat", sum := "213b4c56740a745af34db6db2fb871f077f095360ce16bc8cf158395541cd2f7", func := "simproof/simprooflaw13.NodeRestart", spec := "nodeRestart", inPlace := ["slices.overlaps[int]"], unfollowed := true, recurses := true, apart := false }
def NodeRestartSaid : Prop := nodeRestartRow.holds Tryz.pinned (OpenSpec.ofChange nodeRestartSpec)

/-- ITS FALSE NEIGHBOUR: 'it returns false'. Refute it at one input. -/
def nodeRestartWrong : ChangeSpec := { name := "nodeRestart", fn := fun _ => fun
  | [d1, d2, d3] => { results := [.lit (.bool false)], args := [d1, d2, d3] }
  | _ => none }
def NodeRestartWrongFalsely : Prop := nodeRestartRow.holds Tryz.pinned (OpenSpec.ofChange nodeRestartWrong)

/-- 'simprooflaw13.NodeValues': WHATEVER THE INPUT: true; the input reads as it did. -/
def nodeValuesSpec : ChangeSpec := { name := "nodeValues", fn := fun _ => fun
  | [d1, d2] => { results := [.lit (.bool true)], args := [d1, d2] }
  | _ => none }
def nodeValuesRow : OpenClaim := { program := "ytmjnackchaahbaagreat", sum := "213b4c56740a745af34db6db2fb871f077f095360ce16bc8cf158395541cd2f7", func := "simproof/simprooflaw13.NodeValues", spec := "nodeValues", inPlace := ["slices.overlaps[int]"], unfollowed := true, recurses := true, apart := false }
def NodeValuesSaid : Prop := nodeValuesRow.holds Tryz.pinned (OpenSpec.ofChange nodeValuesSpec)

/-- ITS FALSE NEIGHBOUR: 'it returns false'. Refute it at one input. -/
def nodeValuesWrong : ChangeSpec := { name := "nodeValues", fn := fun _ => fun
  | [d1, d2] => { results := [.lit (.bool false)], args := [d1, d2] }
  | _ => none }
def NodeValuesWrongFalsely : Prop := nodeValuesRow.holds Tryz.pinned (OpenSpec.ofChange nodeValuesWrong)

/- THE SECOND FORM. 'bulk': how many values and letters a reading holds, each counted each time it is reached (what is shared counts as often as it is met; a slice's spare places count too). A statement '..UptoSaid' is the law's where the arguments, and the package variables that the reading takes, are together of bulk at most 1048576: NARROWER than '..Said'. Prove '..Said' where nothing that the law and all that it calls make is longer than what came in: it says more and counts as full. Else prove '..UptoSaid'. A law counts once. -/
mutual
def uptoBulk {H : Type} : DataW H → Nat
  | .lit (.string bytes) => bytes.length + 1
  | .lit _ => 1
  | .nil => 1
  | .ptr d => uptoBulk d + 1
  | .slice elems spare => uptoBulkAll elems + uptoBulkAll spare + 1
  | .agg parts => uptoBulkAll parts + 1
  | .iface _ d => uptoBulk d + 1
  | .map entries => uptoBulkEntries entries + 1
  | .held _ => 1
def uptoBulkAll {H : Type} : List (DataW H) → Nat
  | [] => 0
  | d :: r => uptoBulk d + uptoBulkAll r
def uptoBulkEntries {H : Type} : List (Lit × DataW H) → Nat
  | [] => 0
  | x :: r => uptoBulkEntry x + uptoBulkEntries r
def uptoBulkEntry {H : Type} : Lit × DataW H → Nat
  | (.string bytes, d) => bytes.length + uptoBulk d + 1
  | (_, d) => uptoBulk d + 1
 end
def uptoSmall : (H : Type) → List (DataW H) → Bool := fun _ ds => decide (uptoBulkAll ds ≤ 1048576)
def OpenSpec.upto (s : _root_.Go.ChangeSpec) : _root_.Go.OpenSpec := { _root_.Go.OpenSpec.ofChange s with cond := some uptoSmall }

/-- 'simprooflaw09.VmRuns', WHERE WHAT IT READS IS OF BULK AT MOST 1048576: true; the input reads as it did. -/
def vmRunsUptoRow : OpenClaim := { program := "ytmjnackchaahbaagreat", sum := "213b4c56740a745af34db6db2fb871f077f095360ce16bc8cf158395541cd2f7", func := "simproof/simprooflaw09.VmRuns", spec := "vmRuns", unfollowed := true, recurses := true, apart := false, narrowed := true }
def VmRunsUptoSaid : Prop := vmRunsUptoRow.holds Tryz.pinned (OpenSpec.upto vmRunsSpec)

/-- 'simprooflaw09.VmArithmetic', WHERE WHAT IT READS IS OF BULK AT MOST 1048576: true; the input reads as it did. -/
def vmArithmeticUptoRow : OpenClaim := { program := "ytmjnackchaahbaagreat", sum := "213b4c56740a745af34db6db2fb871f077f095360ce16bc8cf158395541cd2f7", func := "simproof/simprooflaw09.VmArithmetic", spec := "vmArithmetic", unfollowed := true, recurses := true, apart := false, narrowed := true }
def VmArithmeticUptoSaid : Prop := vmArithmeticUptoRow.holds Tryz.pinned (OpenSpec.upto vmArithmeticSpec)

/-- 'simprooflaw09.VmAsks', WHERE WHAT IT READS IS OF BULK AT MOST 1048576: true; the input reads as it did. -/
def vmAsksUptoRow : OpenClaim := { program := "ytmjnackchaahbaagreat", sum := "213b4c56740a745af34db6db2fb871f077f095360ce16bc8cf158395541cd2f7", func := "simproof/simprooflaw09.VmAsks", spec := "vmAsks", unfollowed := true, recurses := true, apart := false, narrowed := true }
def VmAsksUptoSaid : Prop := vmAsksUptoRow.holds Tryz.pinned (OpenSpec.upto vmAsksSpec)

/-- 'simprooflaw09.VmBounds', WHERE WHAT IT READS IS OF BULK AT MOST 1048576: true; the input reads as it did. -/
def vmBoundsUptoRow : OpenClaim := { program := "ytmjnackchaahbaagreat", sum := "213b4c56740a745af34db6db2fb871f077f095360ce16bc8cf158395541cd2f7", func := "simproof/simprooflaw09.VmBounds", spec := "vmBounds", unfollowed := true, recurses := true, apart := false, narrowed := true }
def VmBoundsUptoSaid : Prop := vmBoundsUptoRow.holds Tryz.pinned (OpenSpec.upto vmBoundsSpec)

/-- 'simprooflaw09.VmWrites', WHERE WHAT IT READS IS OF BULK AT MOST 1048576: true; the input reads as it did. -/
def vmWritesUptoRow : OpenClaim := { program := "ytmjnackchaahbaagreat", sum := "213b4c56740a745af34db6db2fb871f077f095360ce16bc8cf158395541cd2f7", func := "simproof/simprooflaw09.VmWrites", spec := "vmWrites", unfollowed := true, recurses := true, apart := false, narrowed := true }
def VmWritesUptoSaid : Prop := vmWritesUptoRow.holds Tryz.pinned (OpenSpec.upto vmWritesSpec)

/-- 'simprooflaw09.VmCovers', WHERE WHAT IT READS IS OF BULK AT MOST 1048576: true; the input reads as it did. -/
def vmCoversUptoRow : OpenClaim := { program := "ytmjnackchaahbaagreat", sum := "213b4c56740a745af34db6db2fb871f077f095360ce16bc8cf158395541cd2f7", func := "simproof/simprooflaw09.VmCovers", spec := "vmCovers", unfollowed := true, recurses := true, apart := false, narrowed := true }
def VmCoversUptoSaid : Prop := vmCoversUptoRow.holds Tryz.pinned (OpenSpec.upto vmCoversSpec)

/-- 'simprooflaw09.VmOwn', WHERE WHAT IT READS IS OF BULK AT MOST 1048576: true; the input reads as it did. -/
def vmOwnUptoRow : OpenClaim := { program := "ytmjnackchaahbaagreat", sum := "213b4c56740a745af34db6db2fb871f077f095360ce16bc8cf158395541cd2f7", func := "simproof/simprooflaw09.VmOwn", spec := "vmOwn", unfollowed := true, recurses := true, apart := false, narrowed := true }
def VmOwnUptoSaid : Prop := vmOwnUptoRow.holds Tryz.pinned (OpenSpec.upto vmOwnSpec)

/-- 'simprooflaw09.VmHandlers', WHERE WHAT IT READS IS OF BULK AT MOST 1048576: true; the input reads as it did. -/
def vmHandlersUptoRow : OpenClaim := { program := "ytmjnackchaahbaagreat", sum := "213b4c56740a745af34db6db2fb871f077f095360ce16bc8cf158395541cd2f7", func := "simproof/simprooflaw09.VmHandlers", spec := "vmHandlers", unfollowed := true, recurses := true, apart := false, narrowed := true }
def VmHandlersUptoSaid : Prop := vmHandlersUptoRow.holds Tryz.pinned (OpenSpec.upto vmHandlersSpec)

/-- 'simprooflaw13.NodePlays', WHERE WHAT IT READS IS OF BULK AT MOST 1048576: true; the input reads as it did. -/
def nodePlaysUptoRow : OpenClaim := { program := "ytmjnackchaahbaagreat", sum := "213b4c56740a745af34db6db2fb871f077f095360ce16bc8cf158395541cd2f7", func := "simproof/simprooflaw13.NodePlays", spec := "nodePlays", inPlace := ["slices.overlaps[int]"], unfollowed := true, recurses := true, apart := false, narrowed := true }
def NodePlaysUptoSaid : Prop := nodePlaysUptoRow.holds Tryz.pinned (OpenSpec.upto nodePlaysSpec)

/-- 'simprooflaw13.NodeQuestions', WHERE WHAT IT READS IS OF BULK AT MOST 1048576: true; the input reads as it did. -/
def nodeQuestionsUptoRow : OpenClaim := { program := "ytmjnackchaahbaagreat", sum := "213b4c56740a745af34db6db2fb871f077f095360ce16bc8cf158395541cd2f7", func := "simproof/simprooflaw13.NodeQuestions", spec := "nodeQuestions", inPlace := ["slices.overlaps[int]"], unfollowed := true, recurses := true, apart := false, narrowed := true }
def NodeQuestionsUptoSaid : Prop := nodeQuestionsUptoRow.holds Tryz.pinned (OpenSpec.upto nodeQuestionsSpec)

/-- 'simprooflaw13.NodeCounts', WHERE WHAT IT READS IS OF BULK AT MOST 1048576: true; the input reads as it did. -/
def nodeCountsUptoRow : OpenClaim := { program := "ytmjnackchaahbaagreat", sum := "213b4c56740a745af34db6db2fb871f077f095360ce16bc8cf158395541cd2f7", func := "simproof/simprooflaw13.NodeCounts", spec := "nodeCounts", inPlace := ["slices.overlaps[int]"], unfollowed := true, recurses := true, apart := false, narrowed := true }
def NodeCountsUptoSaid : Prop := nodeCountsUptoRow.holds Tryz.pinned (OpenSpec.upto nodeCountsSpec)

/-- 'simprooflaw13.NodeMessages', WHERE WHAT IT READS IS OF BULK AT MOST 1048576: true; the input reads as it did. -/
def nodeMessagesUptoRow : OpenClaim := { program := "ytmjnackchaahbaagreat", sum := "213b4c56740a745af34db6db2fb871f077f095360ce16bc8cf158395541cd2f7", func := "simproof/simprooflaw13.NodeMessages", spec := "nodeMessages", inPlace := ["slices.overlaps[int]"], unfollowed := true, recurses := true, apart := false, narrowed := true }
def NodeMessagesUptoSaid : Prop := nodeMessagesUptoRow.holds Tryz.pinned (OpenSpec.upto nodeMessagesSpec)

/-- 'simprooflaw13.NodeReplies', WHERE WHAT IT READS IS OF BULK AT MOST 1048576: true; the input reads as it did. -/
def nodeRepliesUptoRow : OpenClaim := { program := "ytmjnackchaahbaagreat", sum := "213b4c56740a745af34db6db2fb871f077f095360ce16bc8cf158395541cd2f7", func := "simproof/simprooflaw13.NodeReplies", spec := "nodeReplies", inPlace := ["slices.overlaps[int]"], unfollowed := true, recurses := true, apart := false, narrowed := true }
def NodeRepliesUptoSaid : Prop := nodeRepliesUptoRow.holds Tryz.pinned (OpenSpec.upto nodeRepliesSpec)

/-- 'simprooflaw13.NodeCrash', WHERE WHAT IT READS IS OF BULK AT MOST 1048576: true; the input reads as it did. -/
def nodeCrashUptoRow : OpenClaim := { program := "ytmjnackchaahbaagreat", sum := "213b4c56740a745af34db6db2fb871f077f095360ce16bc8cf158395541cd2f7", func := "simproof/simprooflaw13.NodeCrash", spec := "nodeCrash", inPlace := ["slices.overlaps[int]"], unfollowed := true, recurses := true, apart := false, narrowed := true }
def NodeCrashUptoSaid : Prop := nodeCrashUptoRow.holds Tryz.pinned (OpenSpec.upto nodeCrashSpec)

/-- 'simprooflaw13.NodeSynced', WHERE WHAT IT READS IS OF BULK AT MOST 1048576: true; the input reads as it did. -/
def nodeSyncedUptoRow : OpenClaim := { program := "ytmjnackchaahbaagreat", sum := "213b4c56740a745af34db6db2fb871f077f095360ce16bc8cf158395541cd2f7", func := "simproof/simprooflaw13.NodeSynced", spec := "nodeSynced", inPlace := ["slices.overlaps[int]"], unfollowed := true, recurses := true, apart := false, narrowed := true }
def NodeSyncedUptoSaid : Prop := nodeSyncedUptoRow.holds Tryz.pinned (OpenSpec.upto nodeSyncedSpec)

/-- 'simprooflaw13.NodeRestart', WHERE WHAT IT READS IS OF BULK AT MOST 1048576: true; the input reads as it did. -/
def nodeRestartUptoRow : OpenClaim := { program := "ytmjnackchaahbaagreat", sum := "213b4c56740a745af34db6db2fb871f077f095360ce16bc8cf158395541cd2f7", func := "simproof/simprooflaw13.NodeRestart", spec := "nodeRestart", inPlace := ["slices.overlaps[int]"], unfollowed := true, recurses := true, apart := false, narrowed := true }
def NodeRestartUptoSaid : Prop := nodeRestartUptoRow.holds Tryz.pinned (OpenSpec.upto nodeRestartSpec)

/-- 'simprooflaw13.NodeValues', WHERE WHAT IT READS IS OF BULK AT MOST 1048576: true; the input reads as it did. -/
def nodeValuesUptoRow : OpenClaim := { program := "ytmjnackchaahbaagreat", sum := "213b4c56740a745af34db6db2fb871f077f095360ce16bc8cf158395541cd2f7", func := "simproof/simprooflaw13.NodeValues", spec := "nodeValues", inPlace := ["slices.overlaps[int]"], unfollowed := true, recurses := true, apart := false, narrowed := true }
def NodeValuesUptoSaid : Prop := nodeValuesUptoRow.holds Tryz.pinned (OpenSpec.upto nodeValuesSpec)

end Rows
end Go.Proofs.YtmjnackchaahbaaGreat

/- 'DiskFollows' returns true for every input, and leaves its arguments as they were. No conditions. The frame of this text follows the guide's program proof-skeleton.mjs; the walk is in YtmjnackchaahbaaK8. -/
import Derived.Test.YtmjnackchaahbaaRows
import Derived.WalkKit
import Derived.ProofKit
import Derived.OpenShut
import Derived.ShutString
import Derived.ChangeOld
import Derived.Below
import Derived.SizedLaws
import Derived.Test.YtmjnackchaahbaaDfZ10
namespace Go.Proofs.Ytmjnackchaahbaa.diskFollows
open Go.ChangeShapes Go.WideShapes Go.ChangeAt Go.RowKit
open Go.ChangeMaps (open_string shut_string)
set_option linter.unusedVariables false

theorem own : ownKnob Try.prog.godebug = none := by kernel_rfl
theorem laidOut : laidOutB Try.prog = true := by kernel_rfl

set_option maxRecDepth 100000 in
theorem lifted (os : Os) (started : os.Started) (H : Type) (enc : TypeId × Value → H) :
    ReturnsInHanded {} Try.checked os 4 .any (Rows.diskFollowsSpec.pre6 enc Try.prog Try.f4 Rows.diskFollowsRow.domain false) (Rows.diskFollowsSpec.post enc Try.prog Try.f4 false true false false) := by
  refine returnsInHanded_of_change_sized (C := Try.checked) own started ae Try.func4
    (ChangeSpec.witness6 (enc := enc) (C := Try.checked) false ⟨#[], #[.int .i64 0, .int .i64 0], []⟩ 8 ae ae ae ae) ?_
  intro W base args ds gs before hval0 hW hcnd hsz0 _
  have hval : ∀ (j : Nat) t v, Try.f4.params[j]? = some t → args[j]? = some v → Value.okWide Try.prog W .any base t v := hval0
  have hW' := hW
  obtain ⟨p, q, hA0, hV, rfl, hfz, hnd⟩ := hW
  have hA : DataW.TrodAll enc Try.prog W 0 (fun _ => true) true Try.f4.params.toList args.toList ds p := hA0
  have hsz : (DataW.weightsEach Try.prog (Try.f4.params.toList ++ Rows.diskFollowsSpec.plain.varTypes Try.prog) (ds ++ gs)).all (· ≤ reachBytes) = true := hsz0
  rw [Try.params4] at hA hval hsz
  obtain ⟨v0, vs0, d0, ds0, p0, q0, hargs, rfl, rfl, h0, r0⟩ := trodAll_cons hA
  obtain ⟨v1, vs1, d1, ds1, p1, q1, rfl, rfl, rfl, h1, r1⟩ := trodAll_cons r0
  obtain ⟨rfl, rfl, rfl⟩ := trodAll_nil r1
  obtain rfl : args = #[v0, v1] := by cases args; simp_all
  obtain ⟨rfl, rfl⟩ := trodVars_none hV
  obtain ⟨a0, rfl, rfl, rfl, w0⟩ := open_int Try.underlying3 (hval 0 3 v0 rfl rfl) h0
  obtain ⟨a1, rfl, rfl, rfl, w1⟩ := open_int Try.underlying3 (hval 1 3 v1 rfl rfl) h1
  clear hA0 hval0
  have hwalk : Calls Try.prog 4 #[.int .i64 a0, .int .i64 a1] W fun e w' => e = .returned (.bool true) ∧ Below W.heap.size W w' :=
    (gc a0 a1 (nI w0) (nI w1)).calls rfl ⟨.v, .v, trivial⟩
  refine hwalk.mono fun e W' ⟨he, bel⟩ => ?_
  subst he
  exact ⟨_, rfl, _, _, _, [], _, [], hW', trodAll_mk1 (shut_bool Try.underlying4 _), (trodAll_cons_mk (shut_int Try.underlying3 w0) (trodAll_cons_mk (shut_int Try.underlying3 w1) trodAll_mk0)), rfl, bel.frame _, fun h => by cases h⟩

def initL : List Char := [Char.ofNat 104, Char.ofNat 97, Char.ofNat 114, Char.ofNat 110, Char.ofNat 101, Char.ofNat 115, Char.ofNat 115, Char.ofNat 32, Char.ofNat 48, Char.ofNat 50, Char.ofNat 50, Char.ofNat 102, Char.ofNat 98, Char.ofNat 55, Char.ofNat 101, Char.ofNat 98, Char.ofNat 54, Char.ofNat 50, Char.ofNat 97, Char.ofNat 98, Char.ofNat 98, Char.ofNat 99, Char.ofNat 51, Char.ofNat 51, Char.ofNat 48, Char.ofNat 50, Char.ofNat 48, Char.ofNat 53, Char.ofNat 97, Char.ofNat 100, Char.ofNat 97, Char.ofNat 51, Char.ofNat 52, Char.ofNat 57, Char.ofNat 53, Char.ofNat 52, Char.ofNat 55, Char.ofNat 50, Char.ofNat 54, Char.ofNat 50, Char.ofNat 56, Char.ofNat 57, Char.ofNat 48, Char.ofNat 55, Char.ofNat 56, Char.ofNat 56, Char.ofNat 100, Char.ofNat 101, Char.ofNat 101, Char.ofNat 99, Char.ofNat 101, Char.ofNat 98, Char.ofNat 55, Char.ofNat 48, Char.ofNat 102, Char.ofNat 56, Char.ofNat 57, Char.ofNat 99, Char.ofNat 49, Char.ofNat 99, Char.ofNat 55, Char.ofNat 100, Char.ofNat 100, Char.ofNat 55, Char.ofNat 51, Char.ofNat 57, Char.ofNat 52, Char.ofNat 48, Char.ofNat 50, Char.ofNat 52, Char.ofNat 100, Char.ofNat 100, Char.ofNat 32, Char.ofNat 99, Char.ofNat 117, Char.ofNat 116, Char.ofNat 32, Char.ofNat 97, Char.ofNat 116, Char.ofNat 32, Char.ofNat 115, Char.ofNat 105, Char.ofNat 109, Char.ofNat 112, Char.ofNat 114, Char.ofNat 111, Char.ofNat 111, Char.ofNat 102, Char.ofNat 47, Char.ofNat 115, Char.ofNat 105, Char.ofNat 109, Char.ofNat 112, Char.ofNat 114, Char.ofNat 111, Char.ofNat 111, Char.ofNat 102, Char.ofNat 108, Char.ofNat 97, Char.ofNat 119, Char.ofNat 49, Char.ofNat 50, Char.ofNat 46, Char.ofNat 68, Char.ofNat 105, Char.ofNat 115, Char.ofNat 107, Char.ofNat 79, Char.ofNat 119, Char.ofNat 110, Char.ofNat 32, Char.ofNat 115, Char.ofNat 105, Char.ofNat 109, Char.ofNat 112, Char.ofNat 114, Char.ofNat 111, Char.ofNat 111, Char.ofNat 102, Char.ofNat 47, Char.ofNat 115, Char.ofNat 105, Char.ofNat 109, Char.ofNat 112, Char.ofNat 114, Char.ofNat 111, Char.ofNat 111, Char.ofNat 102, Char.ofNat 108, Char.ofNat 97, Char.ofNat 119, Char.ofNat 49, Char.ofNat 50, Char.ofNat 46, Char.ofNat 68, Char.ofNat 105, Char.ofNat 115, Char.ofNat 107, Char.ofNat 70, Char.ofNat 111, Char.ofNat 108, Char.ofNat 108, Char.ofNat 111, Char.ofNat 119, Char.ofNat 115]
theorem initO : Try.pinned.checked.prog.initOrder = String.ofList initL := by kernel_rfl
theorem initT : Try.pinned.checked.prog.initOrder.toList = initL := by rw [initO, String.toList_ofList]
def wsL : List (List Char) := behindMainWord (wordsSigns initL)
theorem wsE : wsL = "cut".toList :: wsL.tail := by kernel_rfl
theorem wsP : behindMainWord (wordsSigns Try.pinned.checked.prog.initOrder.toList) = "cut".toList :: wsL.tail := by rw [initT]; exact wsE
theorem j0 : Rows.diskFollowsRow.wf (OpenSpec.ofChange Rows.diskFollowsSpec) = true := by kernel_rfl
theorem j1 : laidOutB Try.pinned.checked.prog = true := by kernel_rfl
theorem j2 : mapsRowed Try.pinned.checked.prog = true := by kernel_rfl
theorem j3 : Try.f4.params.all (Try.pinned.checked.prog.readableRec ·) = true := by kernel_rfl
theorem j4 : namedTie Try.pinned.checked.prog Rows.diskFollowsRow.named Rows.diskFollowsSpec.vars = true := by kernel_rfl
theorem j5 : (Rows.diskFollowsRow.stops == []) = true := by kernel_rfl
theorem j6 : (Try.pinned.checked.prog.stops == []) = true := by kernel_rfl
theorem j7 : (Rows.diskFollowsRow.knobs == []) = true := by kernel_rfl
theorem j8 : (Try.pinned.checked.prog.stopKnobs == []) = true := by kernel_rfl
theorem j9 : (Rows.diskFollowsRow.inPlace == Try.pinned.checked.prog.inPlace 4) = true := by kernel_rfl
theorem j10 : (Rows.diskFollowsRow.unfollowed == Try.pinned.checked.prog.unfollowed 4) = true := by kernel_rfl
theorem j11 : (Rows.diskFollowsRow.recurses == Try.pinned.checked.prog.recurses 4) = true := by kernel_rfl
theorem j12 : (Rows.diskFollowsRow.named == Try.pinned.checked.prog.varsNamed 4) = true := by kernel_rfl
theorem j13 : (Rows.diskFollowsRow.maps == (Try.f4.params.toList ++ Rows.diskFollowsSpec.plain.varTypes Try.pinned.checked.prog).any (Try.pinned.checked.prog.mapsRec ·)) = true := by kernel_rfl
theorem j14 : (Rows.diskFollowsRow.ifaces == (Try.f4.params.toList ++ Rows.diskFollowsSpec.plain.varTypes Try.pinned.checked.prog).any (Try.pinned.checked.prog.ifacesRec ·)) = true := by kernel_rfl
theorem j15 : (Rows.diskFollowsRow.mapsOut == Try.pinned.checked.prog.mapsAmong Try.f4.resultTypes.toList) = true := by kernel_rfl
theorem j16 : (Rows.diskFollowsRow.loops == (Try.f4.params.toList ++ Rows.diskFollowsSpec.plain.varTypes Try.pinned.checked.prog).any (Try.pinned.checked.prog.loopsFrom ·)) = true := by kernel_rfl
theorem j17 : (Rows.diskFollowsRow.wideKeys == (Try.f4.params.toList ++ Rows.diskFollowsSpec.plain.varTypes Try.pinned.checked.prog ++ Try.f4.resultTypes.toList).any (Try.pinned.checked.prog.wideKeysFrom ·)) = true := by kernel_rfl
theorem j18 : Rows.diskFollowsSpec.vars.all (Try.pinned.checked.prog.varReadable ·) = true := by kernel_rfl
theorem j19 : Try.f4.resultTypes.all (fun t => Try.pinned.checked.prog.readableRec t && decide (t < Try.pinned.checked.prog.types.size)) = true := by kernel_rfl
theorem j20 : (Rows.diskFollowsRow.ifacesOut == Try.f4.resultTypes.toList.any (Try.pinned.checked.prog.ifacesRec ·)) = true := by kernel_rfl
theorem j21 : (Rows.diskFollowsRow.loopsOut == Try.f4.resultTypes.toList.any (Try.pinned.checked.prog.loopsFrom ·)) = true := by kernel_rfl
theorem j22 : (Rows.diskFollowsRow.plainKeys == Try.pinned.checked.prog.plainKeys) = true := by kernel_rfl
theorem j23 : Rows.diskFollowsRow.shortTexts.isNone = true := by kernel_rfl
theorem j24 : Try.pinned.checked.prog.stopsHeard = true := by kernel_rfl
theorem j25 : Try.pinned.checked.prog.mayEnter = true := mz wsP ae ae ae
theorem j26 : (Rows.diskFollowsRow.lifted == Try.pinned.checked.prog.liftsFinal) = true := by rw [kB wsP]; rfl
theorem j27 : (Try.pinned.checked.prog.make == some Rows.diskFollowsRow.make) = true := by rw [lO wsP]; rfl
theorem j28 : (Rows.diskFollowsRow.kinds == (if Rows.diskFollowsRow.domain.isEmpty then [] else Try.f4.params.toList.map fun t => match Try.pinned.checked.prog.underlying t with | some (.int k) => some k | _ => none)) = true := by kernel_rfl
theorem j29 : (Rows.diskFollowsRow.pinned == Rows.diskFollowsRow.pinnedBy) = true := by kernel_rfl
theorem j30 : (Rows.diskFollowsRow.veiled == (Try.f4.params.toList ++ Rows.diskFollowsSpec.plain.varTypes Try.pinned.checked.prog ++ Try.f4.resultTypes.toList).any (Try.pinned.checked.prog.veiledRec ·)) = true := by kernel_rfl
theorem j31 : Rows.diskFollowsRow.veiledFits Try.pinned.checked.prog Try.f4.params.toList (Try.f4.params.toList ++ Rows.diskFollowsSpec.plain.varTypes Try.pinned.checked.prog ++ Try.f4.resultTypes.toList) = true := by kernel_rfl
set_option maxRecDepth 100000 in
theorem closed : joinedFacts Try.pinned.checked.prog 4 Try.f4 Rows.diskFollowsSpec Rows.diskFollowsRow = true := (cE (cE (cE (cE (cE (cE (cE (cE (cE (cE (cE (cE (cE (cE (cE (cE (cE (cE (cE (cE (cE (cE (cE (cE (cE (cE (cE (cE (cE (cE (cE j0 j1) j2) j3) j4) j5) j6) j7) j8) j9) j10) j11) j12) j13) j14) j15) j16) j17) j18) j19) j20) j21) j22) j23) j24) j25) j26) j27) j28) j29) j30) j31)
theorem over : Rows.diskFollowsRow.holds Try.pinned (OpenSpec.ofChange Rows.diskFollowsSpec) :=
  OpenClaim.holds_of_wide 4 Try.f4 rfl rfl rfl rfl rfl rfl rfl ⟨rfl, rfl, rfl, rfl, rfl⟩ rfl rfl rfl rfl rfl ae Try.func4 closed
    (of_decide_eq_true ae) (by unfold Func.isWrapper; first | (rw [if_pos (by decide +kernel)]; kernel_rfl) | (rw [if_neg (by decide +kernel)]; exact ⟨rfl, rfl⟩))
    (fun os started H enc _ => lifted os started H enc)

/-- The statement. -/
theorem proved : Rows.DiskFollowsSaid := over
#print axioms proved
end Go.Proofs.Ytmjnackchaahbaa.diskFollows

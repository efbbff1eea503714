/- 'NodeSynced' returns true for every input, and leaves its arguments as they were. No conditions. The frame of this text follows the guide's program proof-skeleton.mjs; the walk is in YtmjnackchaahbaaGreatNL6. -/
import Derived.Test.YtmjnackchaahbaaGreatRows
import Derived.WalkKit
import Derived.ProofKit
import Derived.OpenShut
import Derived.ShutString
import Derived.ChangeOld
import Derived.Below
import Derived.SizedLaws
import Derived.Test.YtmjnackchaahbaaGreatNyZ18
namespace Go.Proofs.YtmjnackchaahbaaGreat.nodeSynced
open Go.ChangeShapes Go.WideShapes Go.ChangeAt Go.RowKit
open Go.ChangeMaps (open_string shut_string)
set_option linter.unusedVariables false

theorem own : ownKnob Tryz.prog.godebug = none := by kernel_rfl
theorem laidOut : laidOutB Tryz.prog = true := by kernel_rfl

set_option maxRecDepth 100000 in
theorem lifted (os : Os) (started : os.Started) (H : Type) (enc : TypeId × Value → H) :
    ReturnsInHanded {} Tryz.checked os 17 .any (Rows.nodeSyncedSpec.pre6 enc Tryz.prog Tryz.f17 Rows.nodeSyncedRow.domain false) (Rows.nodeSyncedSpec.post enc Tryz.prog Tryz.f17 false true false false) := by
  refine returnsInHanded_of_change_sized (C := Tryz.checked) own started ae Tryz.func17
    (ChangeSpec.witness6 (enc := enc) (C := Tryz.checked) false ⟨#[], #[.int .i64 0, .slice none 0 0], []⟩ 8 ae ae ae ae) ?_
  intro W base args ds gs before hval0 hW hcnd hsz0 _
  have hval : ∀ (j : Nat) t v, Tryz.f17.params[j]? = some t → args[j]? = some v → Value.okWide Tryz.prog W .any base t v := hval0
  have hW' := hW
  obtain ⟨p, q, hA0, hV, rfl, hfz, hnd⟩ := hW
  have hA : DataW.TrodAll enc Tryz.prog W 0 (fun _ => true) true Tryz.f17.params.toList args.toList ds p := hA0
  have hsz : (DataW.weightsEach Tryz.prog (Tryz.f17.params.toList ++ Rows.nodeSyncedSpec.plain.varTypes Tryz.prog) (ds ++ gs)).all (· ≤ reachBytes) = true := hsz0
  rw [Tryz.params17] at hA hval hsz
  obtain ⟨v0, vs0, d0, ds0, p0, q0, hargs, rfl, rfl, h0, r0⟩ := trodAll_cons hA
  obtain ⟨v1, vs1, d1, ds1, p1, q1, rfl, rfl, rfl, h1, r1⟩ := trodAll_cons r0
  obtain ⟨rfl, rfl, rfl⟩ := trodAll_nil r1
  obtain rfl : args = #[v0, v1] := by cases args; simp_all
  obtain ⟨rfl, rfl⟩ := trodVars_none hV
  obtain ⟨a0, rfl, rfl, rfl, w0⟩ := open_int Tryz.underlying3 (hval 0 3 v0 rfl rfl) h0
  obtain ⟨a1, len1, cap1, rfl⟩ := okWide_slice Tryz.underlying22 (hval 1 22 v1 rfl rfl)
  have k1 := h1
  have lt1 : ∀ x ∈ p1, x.block < W.heap.size := by obtain ⟨m, hm⟩ := k1; exact DataW.trod_lt m _ _ _ hm
  have g1 : len1 ≤ 4611686018427387904 := ym hsz (j := 1) (t := 22) (e := 3) rfl rfl Tryz.underlying22 (by decide +kernel) h1
  obtain ⟨z1, n1, s1⟩ := DT Tryz.underlying22 Tryz.underlying3 ae h1
  clear hA0 hval0
  have hwalk : Calls Tryz.prog 17 #[.int .i64 a0, .slice a1 len1 cap1] W fun e w' => e = .returned (.bool true) ∧ Below W.heap.size W w' :=
    (qs a0 (Gu w0) len1 _ (by simp [n1]) g1 (HX z1)).calls rfl ⟨.v, IN s1, trivial⟩
  refine hwalk.mono fun e W' ⟨he, bel⟩ => ?_
  subst he
  exact ⟨_, rfl, _, _, _, [], _, [], hW', trodAll_mk1 (shut_bool Tryz.underlying4 _), (trodAll_cons_mk (shut_int Tryz.underlying3 w0) (trodAll_cons_mk (Below.trod laidOut ae (of_decide_eq_true ae) k1 bel lt1) trodAll_mk0)), rfl, bel.frame _, fun h => by cases h⟩

def initL : List Char := [Char.ofNat 104, Char.ofNat 97, Char.ofNat 114, Char.ofNat 110, Char.ofNat 101, Char.ofNat 115, Char.ofNat 115, Char.ofNat 32, Char.ofNat 48, Char.ofNat 51, Char.ofNat 52, Char.ofNat 97, Char.ofNat 101, Char.ofNat 48, Char.ofNat 100, Char.ofNat 100, Char.ofNat 100, Char.ofNat 52, Char.ofNat 53, Char.ofNat 48, Char.ofNat 54, Char.ofNat 48, Char.ofNat 98, Char.ofNat 49, Char.ofNat 98, Char.ofNat 57, Char.ofNat 102, Char.ofNat 51, Char.ofNat 49, Char.ofNat 56, Char.ofNat 101, Char.ofNat 101, Char.ofNat 97, Char.ofNat 48, Char.ofNat 48, Char.ofNat 101, Char.ofNat 50, Char.ofNat 98, Char.ofNat 56, Char.ofNat 56, Char.ofNat 54, Char.ofNat 101, Char.ofNat 53, Char.ofNat 99, Char.ofNat 53, Char.ofNat 50, Char.ofNat 102, Char.ofNat 100, Char.ofNat 97, Char.ofNat 55, Char.ofNat 53, Char.ofNat 102, Char.ofNat 49, Char.ofNat 50, Char.ofNat 51, Char.ofNat 54, Char.ofNat 54, Char.ofNat 102, Char.ofNat 98, Char.ofNat 97, Char.ofNat 55, Char.ofNat 48, Char.ofNat 97, Char.ofNat 101, Char.ofNat 97, Char.ofNat 50, Char.ofNat 50, Char.ofNat 102, Char.ofNat 99, Char.ofNat 52, Char.ofNat 54, Char.ofNat 50, Char.ofNat 32, Char.ofNat 99, Char.ofNat 117, Char.ofNat 116, Char.ofNat 32, Char.ofNat 97, Char.ofNat 116, Char.ofNat 32, Char.ofNat 115, Char.ofNat 105, Char.ofNat 109, Char.ofNat 112, Char.ofNat 114, Char.ofNat 111, Char.ofNat 111, Char.ofNat 102, Char.ofNat 47, Char.ofNat 115, Char.ofNat 105, Char.ofNat 109, Char.ofNat 112, Char.ofNat 114, Char.ofNat 111, Char.ofNat 111, Char.ofNat 102, Char.ofNat 108, Char.ofNat 97, Char.ofNat 119, Char.ofNat 48, Char.ofNat 57, Char.ofNat 46, Char.ofNat 86, Char.ofNat 109, Char.ofNat 82, Char.ofNat 117, Char.ofNat 110, Char.ofNat 115, Char.ofNat 32, Char.ofNat 115, Char.ofNat 105, Char.ofNat 109, Char.ofNat 112, Char.ofNat 114, Char.ofNat 111, Char.ofNat 111, Char.ofNat 102, Char.ofNat 47, Char.ofNat 115, Char.ofNat 105, Char.ofNat 109, Char.ofNat 112, Char.ofNat 114, Char.ofNat 111, Char.ofNat 111, Char.ofNat 102, Char.ofNat 108, Char.ofNat 97, Char.ofNat 119, Char.ofNat 48, Char.ofNat 57, Char.ofNat 46, Char.ofNat 86, Char.ofNat 109, Char.ofNat 65, Char.ofNat 114, Char.ofNat 105, Char.ofNat 116, Char.ofNat 104, Char.ofNat 109, Char.ofNat 101, Char.ofNat 116, Char.ofNat 105, Char.ofNat 99, Char.ofNat 32, Char.ofNat 115, Char.ofNat 105, Char.ofNat 109, Char.ofNat 112, Char.ofNat 114, Char.ofNat 111, Char.ofNat 111, Char.ofNat 102, Char.ofNat 47, Char.ofNat 115, Char.ofNat 105, Char.ofNat 109, Char.ofNat 112, Char.ofNat 114, Char.ofNat 111, Char.ofNat 111, Char.ofNat 102, Char.ofNat 108, Char.ofNat 97, Char.ofNat 119, Char.ofNat 48, Char.ofNat 57, Char.ofNat 46, Char.ofNat 86, Char.ofNat 109, Char.ofNat 65, Char.ofNat 115, Char.ofNat 107, Char.ofNat 115, Char.ofNat 32, Char.ofNat 115, Char.ofNat 105, Char.ofNat 109, Char.ofNat 112, Char.ofNat 114, Char.ofNat 111, Char.ofNat 111, Char.ofNat 102, Char.ofNat 47, Char.ofNat 115, Char.ofNat 105, Char.ofNat 109, Char.ofNat 112, Char.ofNat 114, Char.ofNat 111, Char.ofNat 111, Char.ofNat 102, Char.ofNat 108, Char.ofNat 97, Char.ofNat 119, Char.ofNat 48, Char.ofNat 57, Char.ofNat 46, Char.ofNat 86, Char.ofNat 109, Char.ofNat 66, Char.ofNat 111, Char.ofNat 117, Char.ofNat 110, Char.ofNat 100, Char.ofNat 115, Char.ofNat 32, Char.ofNat 115, Char.ofNat 105, Char.ofNat 109, Char.ofNat 112, Char.ofNat 114, Char.ofNat 111, Char.ofNat 111, Char.ofNat 102, Char.ofNat 47, Char.ofNat 115, Char.ofNat 105, Char.ofNat 109, Char.ofNat 112, Char.ofNat 114, Char.ofNat 111, Char.ofNat 111, Char.ofNat 102, Char.ofNat 108, Char.ofNat 97, Char.ofNat 119, Char.ofNat 48, Char.ofNat 57, Char.ofNat 46, Char.ofNat 86, Char.ofNat 109, Char.ofNat 87, Char.ofNat 114, Char.ofNat 105, Char.ofNat 116, Char.ofNat 101, Char.ofNat 115, Char.ofNat 32, Char.ofNat 115, Char.ofNat 105, Char.ofNat 109, Char.ofNat 112, Char.ofNat 114, Char.ofNat 111, Char.ofNat 111, Char.ofNat 102, Char.ofNat 47, Char.ofNat 115, Char.ofNat 105, Char.ofNat 109, Char.ofNat 112, Char.ofNat 114, Char.ofNat 111, Char.ofNat 111, Char.ofNat 102, Char.ofNat 108, Char.ofNat 97, Char.ofNat 119, Char.ofNat 48, Char.ofNat 57, Char.ofNat 46, Char.ofNat 86, Char.ofNat 109, Char.ofNat 67, Char.ofNat 111, Char.ofNat 118, Char.ofNat 101, Char.ofNat 114, Char.ofNat 115, Char.ofNat 32, Char.ofNat 115, Char.ofNat 105, Char.ofNat 109, Char.ofNat 112, Char.ofNat 114, Char.ofNat 111, Char.ofNat 111, Char.ofNat 102, Char.ofNat 47, Char.ofNat 115, Char.ofNat 105, Char.ofNat 109, Char.ofNat 112, Char.ofNat 114, Char.ofNat 111, Char.ofNat 111, Char.ofNat 102, Char.ofNat 108, Char.ofNat 97, Char.ofNat 119, Char.ofNat 48, Char.ofNat 57, Char.ofNat 46, Char.ofNat 86, Char.ofNat 109, Char.ofNat 79, Char.ofNat 119, Char.ofNat 110, Char.ofNat 32, Char.ofNat 115, Char.ofNat 105, Char.ofNat 109, Char.ofNat 112, Char.ofNat 114, Char.ofNat 111, Char.ofNat 111, Char.ofNat 102, Char.ofNat 47, Char.ofNat 115, Char.ofNat 105, Char.ofNat 109, Char.ofNat 112, Char.ofNat 114, Char.ofNat 111, Char.ofNat 111, Char.ofNat 102, Char.ofNat 108, Char.ofNat 97, Char.ofNat 119, Char.ofNat 48, Char.ofNat 57, Char.ofNat 46, Char.ofNat 86, Char.ofNat 109, Char.ofNat 72, Char.ofNat 97, Char.ofNat 110, Char.ofNat 100, Char.ofNat 108, Char.ofNat 101, Char.ofNat 114, Char.ofNat 115, Char.ofNat 32, Char.ofNat 115, Char.ofNat 105, Char.ofNat 109, Char.ofNat 112, Char.ofNat 114, Char.ofNat 111, Char.ofNat 111, Char.ofNat 102, Char.ofNat 47, Char.ofNat 115, Char.ofNat 105, Char.ofNat 109, Char.ofNat 112, Char.ofNat 114, Char.ofNat 111, Char.ofNat 111, Char.ofNat 102, Char.ofNat 108, Char.ofNat 97, Char.ofNat 119, Char.ofNat 49, Char.ofNat 51, Char.ofNat 46, Char.ofNat 78, Char.ofNat 111, Char.ofNat 100, Char.ofNat 101, Char.ofNat 80, Char.ofNat 108, Char.ofNat 97, Char.ofNat 121, Char.ofNat 115, Char.ofNat 32, Char.ofNat 115, Char.ofNat 105, Char.ofNat 109, Char.ofNat 112, Char.ofNat 114, Char.ofNat 111, Char.ofNat 111, Char.ofNat 102, Char.ofNat 47, Char.ofNat 115, Char.ofNat 105, Char.ofNat 109, Char.ofNat 112, Char.ofNat 114, Char.ofNat 111, Char.ofNat 111, Char.ofNat 102, Char.ofNat 108, Char.ofNat 97, Char.ofNat 119, Char.ofNat 49, Char.ofNat 51, Char.ofNat 46, Char.ofNat 78, Char.ofNat 111, Char.ofNat 100, Char.ofNat 101, Char.ofNat 81, Char.ofNat 117, Char.ofNat 101, Char.ofNat 115, Char.ofNat 116, Char.ofNat 105, Char.ofNat 111, Char.ofNat 110, Char.ofNat 115, Char.ofNat 32, Char.ofNat 115, Char.ofNat 105, Char.ofNat 109, Char.ofNat 112, Char.ofNat 114, Char.ofNat 111, Char.ofNat 111, Char.ofNat 102, Char.ofNat 47, Char.ofNat 115, Char.ofNat 105, Char.ofNat 109, Char.ofNat 112, Char.ofNat 114, Char.ofNat 111, Char.ofNat 111, Char.ofNat 102, Char.ofNat 108, Char.ofNat 97, Char.ofNat 119, Char.ofNat 49, Char.ofNat 51, Char.ofNat 46, Char.ofNat 78, Char.ofNat 111, Char.ofNat 100, Char.ofNat 101, Char.ofNat 67, Char.ofNat 111, Char.ofNat 117, Char.ofNat 110, Char.ofNat 116, Char.ofNat 115, Char.ofNat 32, Char.ofNat 115, Char.ofNat 105, Char.ofNat 109, Char.ofNat 112, Char.ofNat 114, Char.ofNat 111, Char.ofNat 111, Char.ofNat 102, Char.ofNat 47, Char.ofNat 115, Char.ofNat 105, Char.ofNat 109, Char.ofNat 112, Char.ofNat 114, Char.ofNat 111, Char.ofNat 111, Char.ofNat 102, Char.ofNat 108, Char.ofNat 97, Char.ofNat 119, Char.ofNat 49, Char.ofNat 51, Char.ofNat 46, Char.ofNat 78, Char.ofNat 111, Char.ofNat 100, Char.ofNat 101, Char.ofNat 77, Char.ofNat 101, Char.ofNat 115, Char.ofNat 115, Char.ofNat 97, Char.ofNat 103, Char.ofNat 101, Char.ofNat 115, Char.ofNat 32, Char.ofNat 115, Char.ofNat 105, Char.ofNat 109, Char.ofNat 112, Char.ofNat 114, Char.ofNat 111, Char.ofNat 111, Char.ofNat 102, Char.ofNat 47, Char.ofNat 115, Char.ofNat 105, Char.ofNat 109, Char.ofNat 112, Char.ofNat 114, Char.ofNat 111, Char.ofNat 111, Char.ofNat 102, Char.ofNat 108, Char.ofNat 97, Char.ofNat 119, Char.ofNat 49, Char.ofNat 51, Char.ofNat 46, Char.ofNat 78, Char.ofNat 111, Char.ofNat 100, Char.ofNat 101, Char.ofNat 82, Char.ofNat 101, Char.ofNat 112, Char.ofNat 108, Char.ofNat 105, Char.ofNat 101, Char.ofNat 115, Char.ofNat 32, Char.ofNat 115, Char.ofNat 105, Char.ofNat 109, Char.ofNat 112, Char.ofNat 114, Char.ofNat 111, Char.ofNat 111, Char.ofNat 102, Char.ofNat 47, Char.ofNat 115, Char.ofNat 105, Char.ofNat 109, Char.ofNat 112, Char.ofNat 114, Char.ofNat 111, Char.ofNat 111, Char.ofNat 102, Char.ofNat 108, Char.ofNat 97, Char.ofNat 119, Char.ofNat 49, Char.ofNat 51, Char.ofNat 46, Char.ofNat 78, Char.ofNat 111, Char.ofNat 100, Char.ofNat 101, Char.ofNat 67, Char.ofNat 114, Char.ofNat 97, Char.ofNat 115, Char.ofNat 104, Char.ofNat 32, Char.ofNat 115, Char.ofNat 105, Char.ofNat 109, Char.ofNat 112, Char.ofNat 114, Char.ofNat 111, Char.ofNat 111, Char.ofNat 102, Char.ofNat 47, Char.ofNat 115, Char.ofNat 105, Char.ofNat 109, Char.ofNat 112, Char.ofNat 114, Char.ofNat 111, Char.ofNat 111, Char.ofNat 102, Char.ofNat 108, Char.ofNat 97, Char.ofNat 119, Char.ofNat 49, Char.ofNat 51, Char.ofNat 46, Char.ofNat 78, Char.ofNat 111, Char.ofNat 100, Char.ofNat 101, Char.ofNat 83, Char.ofNat 121, Char.ofNat 110, Char.ofNat 99, Char.ofNat 101, Char.ofNat 100, Char.ofNat 32, Char.ofNat 115, Char.ofNat 105, Char.ofNat 109, Char.ofNat 112, Char.ofNat 114, Char.ofNat 111, Char.ofNat 111, Char.ofNat 102, Char.ofNat 47, Char.ofNat 115, Char.ofNat 105, Char.ofNat 109, Char.ofNat 112, Char.ofNat 114, Char.ofNat 111, Char.ofNat 111, Char.ofNat 102, Char.ofNat 108, Char.ofNat 97, Char.ofNat 119, Char.ofNat 49, Char.ofNat 51, Char.ofNat 46, Char.ofNat 78, Char.ofNat 111, Char.ofNat 100, Char.ofNat 101, Char.ofNat 82, Char.ofNat 101, Char.ofNat 115, Char.ofNat 116, Char.ofNat 97, Char.ofNat 114, Char.ofNat 116, Char.ofNat 32, Char.ofNat 115, Char.ofNat 105, Char.ofNat 109, Char.ofNat 112, Char.ofNat 114, Char.ofNat 111, Char.ofNat 111, Char.ofNat 102, Char.ofNat 47, Char.ofNat 115, Char.ofNat 105, Char.ofNat 109, Char.ofNat 112, Char.ofNat 114, Char.ofNat 111, Char.ofNat 111, Char.ofNat 102, Char.ofNat 108, Char.ofNat 97, Char.ofNat 119, Char.ofNat 49, Char.ofNat 51, Char.ofNat 46, Char.ofNat 78, Char.ofNat 111, Char.ofNat 100, Char.ofNat 101, Char.ofNat 86, Char.ofNat 97, Char.ofNat 108, Char.ofNat 117, Char.ofNat 101, Char.ofNat 115]
theorem initO : Tryz.pinned.checked.prog.initOrder = String.ofList initL := by kernel_rfl
theorem initT : Tryz.pinned.checked.prog.initOrder.toList = initL := by rw [initO, String.toList_ofList]
def wsL : List (List Char) := behindMainWord (wordsSigns initL)
theorem wsE : wsL = "cut".toList :: wsL.tail := by kernel_rfl
theorem wsP : behindMainWord (wordsSigns Tryz.pinned.checked.prog.initOrder.toList) = "cut".toList :: wsL.tail := by rw [initT]; exact wsE
theorem j0 : Rows.nodeSyncedRow.wf (OpenSpec.ofChange Rows.nodeSyncedSpec) = true := by kernel_rfl
theorem j1 : laidOutB Tryz.pinned.checked.prog = true := by kernel_rfl
theorem j2 : mapsRowed Tryz.pinned.checked.prog = true := by kernel_rfl
theorem j3 : Tryz.f17.params.all (Tryz.pinned.checked.prog.readableRec ·) = true := by kernel_rfl
theorem j4 : namedTie Tryz.pinned.checked.prog Rows.nodeSyncedRow.named Rows.nodeSyncedSpec.vars = true := by kernel_rfl
theorem j5 : (Rows.nodeSyncedRow.stops == []) = true := by kernel_rfl
theorem j6 : (Tryz.pinned.checked.prog.stops == []) = true := by kernel_rfl
theorem j7 : (Rows.nodeSyncedRow.knobs == []) = true := by kernel_rfl
theorem j8 : (Tryz.pinned.checked.prog.stopKnobs == []) = true := by kernel_rfl
theorem j9 : (Rows.nodeSyncedRow.inPlace == Tryz.pinned.checked.prog.inPlace 17) = true := by kernel_rfl
theorem j10 : (Rows.nodeSyncedRow.unfollowed == Tryz.pinned.checked.prog.unfollowed 17) = true := by kernel_rfl
theorem j11 : (Rows.nodeSyncedRow.recurses == Tryz.pinned.checked.prog.recurses 17) = true := by kernel_rfl
theorem j12 : (Rows.nodeSyncedRow.named == Tryz.pinned.checked.prog.varsNamed 17) = true := by kernel_rfl
theorem j13 : (Rows.nodeSyncedRow.maps == (Tryz.f17.params.toList ++ Rows.nodeSyncedSpec.plain.varTypes Tryz.pinned.checked.prog).any (Tryz.pinned.checked.prog.mapsRec ·)) = true := by kernel_rfl
theorem j14 : (Rows.nodeSyncedRow.ifaces == (Tryz.f17.params.toList ++ Rows.nodeSyncedSpec.plain.varTypes Tryz.pinned.checked.prog).any (Tryz.pinned.checked.prog.ifacesRec ·)) = true := by kernel_rfl
theorem j15 : (Rows.nodeSyncedRow.mapsOut == Tryz.pinned.checked.prog.mapsAmong Tryz.f17.resultTypes.toList) = true := by kernel_rfl
theorem j16 : (Rows.nodeSyncedRow.loops == (Tryz.f17.params.toList ++ Rows.nodeSyncedSpec.plain.varTypes Tryz.pinned.checked.prog).any (Tryz.pinned.checked.prog.loopsFrom ·)) = true := by kernel_rfl
theorem j17 : (Rows.nodeSyncedRow.wideKeys == (Tryz.f17.params.toList ++ Rows.nodeSyncedSpec.plain.varTypes Tryz.pinned.checked.prog ++ Tryz.f17.resultTypes.toList).any (Tryz.pinned.checked.prog.wideKeysFrom ·)) = true := by kernel_rfl
theorem j18 : Rows.nodeSyncedSpec.vars.all (Tryz.pinned.checked.prog.varReadable ·) = true := by kernel_rfl
theorem j19 : Tryz.f17.resultTypes.all (fun t => Tryz.pinned.checked.prog.readableRec t && decide (t < Tryz.pinned.checked.prog.types.size)) = true := by kernel_rfl
theorem j20 : (Rows.nodeSyncedRow.ifacesOut == Tryz.f17.resultTypes.toList.any (Tryz.pinned.checked.prog.ifacesRec ·)) = true := by kernel_rfl
theorem j21 : (Rows.nodeSyncedRow.loopsOut == Tryz.f17.resultTypes.toList.any (Tryz.pinned.checked.prog.loopsFrom ·)) = true := by kernel_rfl
theorem j22 : (Rows.nodeSyncedRow.plainKeys == Tryz.pinned.checked.prog.plainKeys) = true := by kernel_rfl
theorem j23 : Rows.nodeSyncedRow.shortTexts.isNone = true := by kernel_rfl
theorem j24 : Tryz.pinned.checked.prog.stopsHeard = true := by kernel_rfl
theorem j25 : Tryz.pinned.checked.prog.mayEnter = true := FZ wsP ae ae ae
theorem j26 : (Rows.nodeSyncedRow.lifted == Tryz.pinned.checked.prog.liftsFinal) = true := by rw [yh wsP]; rfl
theorem j27 : (Tryz.pinned.checked.prog.make == some Rows.nodeSyncedRow.make) = true := by rw [AJ wsP]; rfl
theorem j28 : (Rows.nodeSyncedRow.kinds == (if Rows.nodeSyncedRow.domain.isEmpty then [] else Tryz.f17.params.toList.map fun t => match Tryz.pinned.checked.prog.underlying t with | some (.int k) => some k | _ => none)) = true := by kernel_rfl
theorem j29 : (Rows.nodeSyncedRow.pinned == Rows.nodeSyncedRow.pinnedBy) = true := by kernel_rfl
theorem j30 : (Rows.nodeSyncedRow.veiled == (Tryz.f17.params.toList ++ Rows.nodeSyncedSpec.plain.varTypes Tryz.pinned.checked.prog ++ Tryz.f17.resultTypes.toList).any (Tryz.pinned.checked.prog.veiledRec ·)) = true := by kernel_rfl
theorem j31 : Rows.nodeSyncedRow.veiledFits Tryz.pinned.checked.prog Tryz.f17.params.toList (Tryz.f17.params.toList ++ Rows.nodeSyncedSpec.plain.varTypes Tryz.pinned.checked.prog ++ Tryz.f17.resultTypes.toList) = true := by kernel_rfl
set_option maxRecDepth 100000 in
theorem closed : joinedFacts Tryz.pinned.checked.prog 17 Tryz.f17 Rows.nodeSyncedSpec Rows.nodeSyncedRow = true := (gq (gq (gq (gq (gq (gq (gq (gq (gq (gq (gq (gq (gq (gq (gq (gq (gq (gq (gq (gq (gq (gq (gq (gq (gq (gq (gq (gq (gq (gq (gq j0 j1) j2) j3) j4) j5) j6) j7) j8) j9) j10) j11) j12) j13) j14) j15) j16) j17) j18) j19) j20) j21) j22) j23) j24) j25) j26) j27) j28) j29) j30) j31)
theorem over : Rows.nodeSyncedRow.holds Tryz.pinned (OpenSpec.ofChange Rows.nodeSyncedSpec) :=
  OpenClaim.holds_of_wide 17 Tryz.f17 rfl rfl rfl rfl rfl rfl rfl ⟨rfl, rfl, rfl, rfl, rfl⟩ rfl rfl rfl rfl rfl ae Tryz.func17 closed
    (of_decide_eq_true ae) (by unfold Func.isWrapper; first | (rw [if_pos (by decide +kernel)]; kernel_rfl) | (rw [if_neg (by decide +kernel)]; exact ⟨rfl, rfl⟩))
    (fun os started H enc _ => lifted os started H enc)

/-- The statement. -/
theorem proved : Rows.NodeSyncedSaid := over
#print axioms proved
end Go.Proofs.YtmjnackchaahbaaGreat.nodeSynced

/- 'NodeQuestions' returns true for every input, and leaves its arguments as they were. No conditions. The frame of this text follows the guide's program proof-skeleton.mjs; the walk is in YtmjnackchaahbaaGreatNL3. -/
import Derived.Test.YtmjnackchaahbaaGreatRows
import Derived.WalkKit
import Derived.ProofKit
import Derived.OpenShut
import Derived.ShutString
import Derived.ChangeOld
import Derived.Below
import Derived.SizedLaws
import Derived.Test.YtmjnackchaahbaaGreatNqZ19
namespace Go.Proofs.YtmjnackchaahbaaGreat.nodeQuestions
open Go.ChangeShapes Go.WideShapes Go.ChangeAt Go.RowKit
open Go.ChangeMaps (open_string shut_string)
set_option linter.unusedVariables false

theorem own : ownKnob Tryz.prog.godebug = none := by kernel_rfl
theorem laidOut : laidOutB Tryz.prog = true := by kernel_rfl

set_option maxRecDepth 100000 in
theorem lifted (os : Os) (started : os.Started) (H : Type) (enc : TypeId × Value → H) :
    ReturnsInHanded {} Tryz.checked os 12 .any (Rows.nodeQuestionsSpec.pre6 enc Tryz.prog Tryz.f12 Rows.nodeQuestionsRow.domain false) (Rows.nodeQuestionsSpec.post enc Tryz.prog Tryz.f12 false true false false) := by
  refine returnsInHanded_of_change_sized (C := Tryz.checked) own started ae Tryz.func12
    (ChangeSpec.witness6 (enc := enc) (C := Tryz.checked) false ⟨#[], #[.int .i64 0, .int .i64 0, .slice none 0 0], []⟩ 8 ae ae ae ae) ?_
  intro W base args ds gs before hval0 hW hcnd hsz0 _
  have hval : ∀ (j : Nat) t v, Tryz.f12.params[j]? = some t → args[j]? = some v → Value.okWide Tryz.prog W .any base t v := hval0
  have hW' := hW
  obtain ⟨p, q, hA0, hV, rfl, hfz, hnd⟩ := hW
  have hA : DataW.TrodAll enc Tryz.prog W 0 (fun _ => true) true Tryz.f12.params.toList args.toList ds p := hA0
  have hsz : (DataW.weightsEach Tryz.prog (Tryz.f12.params.toList ++ Rows.nodeQuestionsSpec.plain.varTypes Tryz.prog) (ds ++ gs)).all (· ≤ reachBytes) = true := hsz0
  rw [Tryz.params12] at hA hval hsz
  obtain ⟨v0, vs0, d0, ds0, p0, q0, hargs, rfl, rfl, h0, r0⟩ := trodAll_cons hA
  obtain ⟨v1, vs1, d1, ds1, p1, q1, rfl, rfl, rfl, h1, r1⟩ := trodAll_cons r0
  obtain ⟨v2, vs2, d2, ds2, p2, q2, rfl, rfl, rfl, h2, r2⟩ := trodAll_cons r1
  obtain ⟨rfl, rfl, rfl⟩ := trodAll_nil r2
  obtain rfl : args = #[v0, v1, v2] := by cases args; simp_all
  obtain ⟨rfl, rfl⟩ := trodVars_none hV
  obtain ⟨a0, rfl, rfl, rfl, w0⟩ := open_int Tryz.underlying3 (hval 0 3 v0 rfl rfl) h0
  obtain ⟨a1, rfl, rfl, rfl, w1⟩ := open_int Tryz.underlying3 (hval 1 3 v1 rfl rfl) h1
  obtain ⟨a2, len2, cap2, rfl⟩ := okWide_slice Tryz.underlying22 (hval 2 22 v2 rfl rfl)
  have k2 := h2
  have lt2 : ∀ x ∈ p2, x.block < W.heap.size := by obtain ⟨m, hm⟩ := k2; exact DataW.trod_lt m _ _ _ hm
  have g2 : len2 ≤ 4611686018427387904 := ym hsz (j := 2) (t := 22) (e := 3) rfl rfl Tryz.underlying22 (by decide +kernel) h2
  obtain ⟨z2, n2, s2⟩ := Gd Tryz.underlying22 Tryz.underlying3 ae h2
  clear hA0 hval0
  have hwalk : Calls Tryz.prog 12 #[.int .i64 a0, .int .i64 a1, .slice a2 len2 cap2] W fun e w' => e = .returned (.bool true) ∧ Below W.heap.size W w' :=
    (nw a0 a1 (zK w0) (zK w1) len2 _ (by simp [n2]) g2 (Ib z2)).calls rfl ⟨.v, .v, HX s2, trivial⟩
  refine hwalk.mono fun e W' ⟨he, bel⟩ => ?_
  subst he
  exact ⟨_, rfl, _, _, _, [], _, [], hW', trodAll_mk1 (shut_bool Tryz.underlying4 _), (trodAll_cons_mk (shut_int Tryz.underlying3 w0) (trodAll_cons_mk (shut_int Tryz.underlying3 w1) (trodAll_cons_mk (Below.trod laidOut ae (of_decide_eq_true ae) k2 bel lt2) trodAll_mk0))), rfl, bel.frame _, fun h => by cases h⟩

def initL : List Char := [Char.ofNat 104, Char.ofNat 97, Char.ofNat 114, Char.ofNat 110, Char.ofNat 101, Char.ofNat 115, Char.ofNat 115, Char.ofNat 32, Char.ofNat 48, Char.ofNat 51, Char.ofNat 52, Char.ofNat 97, Char.ofNat 101, Char.ofNat 48, Char.ofNat 100, Char.ofNat 100, Char.ofNat 100, Char.ofNat 52, Char.ofNat 53, Char.ofNat 48, Char.ofNat 54, Char.ofNat 48, Char.ofNat 98, Char.ofNat 49, Char.ofNat 98, Char.ofNat 57, Char.ofNat 102, Char.ofNat 51, Char.ofNat 49, Char.ofNat 56, Char.ofNat 101, Char.ofNat 101, Char.ofNat 97, Char.ofNat 48, Char.ofNat 48, Char.ofNat 101, Char.ofNat 50, Char.ofNat 98, Char.ofNat 56, Char.ofNat 56, Char.ofNat 54, Char.ofNat 101, Char.ofNat 53, Char.ofNat 99, Char.ofNat 53, Char.ofNat 50, Char.ofNat 102, Char.ofNat 100, Char.ofNat 97, Char.ofNat 55, Char.ofNat 53, Char.ofNat 102, Char.ofNat 49, Char.ofNat 50, Char.ofNat 51, Char.ofNat 54, Char.ofNat 54, Char.ofNat 102, Char.ofNat 98, Char.ofNat 97, Char.ofNat 55, Char.ofNat 48, Char.ofNat 97, Char.ofNat 101, Char.ofNat 97, Char.ofNat 50, Char.ofNat 50, Char.ofNat 102, Char.ofNat 99, Char.ofNat 52, Char.ofNat 54, Char.ofNat 50, Char.ofNat 32, Char.ofNat 99, Char.ofNat 117, Char.ofNat 116, Char.ofNat 32, Char.ofNat 97, Char.ofNat 116, Char.ofNat 32, Char.ofNat 115, Char.ofNat 105, Char.ofNat 109, Char.ofNat 112, Char.ofNat 114, Char.ofNat 111, Char.ofNat 111, Char.ofNat 102, Char.ofNat 47, Char.ofNat 115, Char.ofNat 105, Char.ofNat 109, Char.ofNat 112, Char.ofNat 114, Char.ofNat 111, Char.ofNat 111, Char.ofNat 102, Char.ofNat 108, Char.ofNat 97, Char.ofNat 119, Char.ofNat 48, Char.ofNat 57, Char.ofNat 46, Char.ofNat 86, Char.ofNat 109, Char.ofNat 82, Char.ofNat 117, Char.ofNat 110, Char.ofNat 115, Char.ofNat 32, Char.ofNat 115, Char.ofNat 105, Char.ofNat 109, Char.ofNat 112, Char.ofNat 114, Char.ofNat 111, Char.ofNat 111, Char.ofNat 102, Char.ofNat 47, Char.ofNat 115, Char.ofNat 105, Char.ofNat 109, Char.ofNat 112, Char.ofNat 114, Char.ofNat 111, Char.ofNat 111, Char.ofNat 102, Char.ofNat 108, Char.ofNat 97, Char.ofNat 119, Char.ofNat 48, Char.ofNat 57, Char.ofNat 46, Char.ofNat 86, Char.ofNat 109, Char.ofNat 65, Char.ofNat 114, Char.ofNat 105, Char.ofNat 116, Char.ofNat 104, Char.ofNat 109, Char.ofNat 101, Char.ofNat 116, Char.ofNat 105, Char.ofNat 99, Char.ofNat 32, Char.ofNat 115, Char.ofNat 105, Char.ofNat 109, Char.ofNat 112, Char.ofNat 114, Char.ofNat 111, Char.ofNat 111, Char.ofNat 102, Char.ofNat 47, Char.ofNat 115, Char.ofNat 105, Char.ofNat 109, Char.ofNat 112, Char.ofNat 114, Char.ofNat 111, Char.ofNat 111, Char.ofNat 102, Char.ofNat 108, Char.ofNat 97, Char.ofNat 119, Char.ofNat 48, Char.ofNat 57, Char.ofNat 46, Char.ofNat 86, Char.ofNat 109, Char.ofNat 65, Char.ofNat 115, Char.ofNat 107, Char.ofNat 115, Char.ofNat 32, Char.ofNat 115, Char.ofNat 105, Char.ofNat 109, Char.ofNat 112, Char.ofNat 114, Char.ofNat 111, Char.ofNat 111, Char.ofNat 102, Char.ofNat 47, Char.ofNat 115, Char.ofNat 105, Char.ofNat 109, Char.ofNat 112, Char.ofNat 114, Char.ofNat 111, Char.ofNat 111, Char.ofNat 102, Char.ofNat 108, Char.ofNat 97, Char.ofNat 119, Char.ofNat 48, Char.ofNat 57, Char.ofNat 46, Char.ofNat 86, Char.ofNat 109, Char.ofNat 66, Char.ofNat 111, Char.ofNat 117, Char.ofNat 110, Char.ofNat 100, Char.ofNat 115, Char.ofNat 32, Char.ofNat 115, Char.ofNat 105, Char.ofNat 109, Char.ofNat 112, Char.ofNat 114, Char.ofNat 111, Char.ofNat 111, Char.ofNat 102, Char.ofNat 47, Char.ofNat 115, Char.ofNat 105, Char.ofNat 109, Char.ofNat 112, Char.ofNat 114, Char.ofNat 111, Char.ofNat 111, Char.ofNat 102, Char.ofNat 108, Char.ofNat 97, Char.ofNat 119, Char.ofNat 48, Char.ofNat 57, Char.ofNat 46, Char.ofNat 86, Char.ofNat 109, Char.ofNat 87, Char.ofNat 114, Char.ofNat 105, Char.ofNat 116, Char.ofNat 101, Char.ofNat 115, Char.ofNat 32, Char.ofNat 115, Char.ofNat 105, Char.ofNat 109, Char.ofNat 112, Char.ofNat 114, Char.ofNat 111, Char.ofNat 111, Char.ofNat 102, Char.ofNat 47, Char.ofNat 115, Char.ofNat 105, Char.ofNat 109, Char.ofNat 112, Char.ofNat 114, Char.ofNat 111, Char.ofNat 111, Char.ofNat 102, Char.ofNat 108, Char.ofNat 97, Char.ofNat 119, Char.ofNat 48, Char.ofNat 57, Char.ofNat 46, Char.ofNat 86, Char.ofNat 109, Char.ofNat 67, Char.ofNat 111, Char.ofNat 118, Char.ofNat 101, Char.ofNat 114, Char.ofNat 115, Char.ofNat 32, Char.ofNat 115, Char.ofNat 105, Char.ofNat 109, Char.ofNat 112, Char.ofNat 114, Char.ofNat 111, Char.ofNat 111, Char.ofNat 102, Char.ofNat 47, Char.ofNat 115, Char.ofNat 105, Char.ofNat 109, Char.ofNat 112, Char.ofNat 114, Char.ofNat 111, Char.ofNat 111, Char.ofNat 102, Char.ofNat 108, Char.ofNat 97, Char.ofNat 119, Char.ofNat 48, Char.ofNat 57, Char.ofNat 46, Char.ofNat 86, Char.ofNat 109, Char.ofNat 79, Char.ofNat 119, Char.ofNat 110, Char.ofNat 32, Char.ofNat 115, Char.ofNat 105, Char.ofNat 109, Char.ofNat 112, Char.ofNat 114, Char.ofNat 111, Char.ofNat 111, Char.ofNat 102, Char.ofNat 47, Char.ofNat 115, Char.ofNat 105, Char.ofNat 109, Char.ofNat 112, Char.ofNat 114, Char.ofNat 111, Char.ofNat 111, Char.ofNat 102, Char.ofNat 108, Char.ofNat 97, Char.ofNat 119, Char.ofNat 48, Char.ofNat 57, Char.ofNat 46, Char.ofNat 86, Char.ofNat 109, Char.ofNat 72, Char.ofNat 97, Char.ofNat 110, Char.ofNat 100, Char.ofNat 108, Char.ofNat 101, Char.ofNat 114, Char.ofNat 115, Char.ofNat 32, Char.ofNat 115, Char.ofNat 105, Char.ofNat 109, Char.ofNat 112, Char.ofNat 114, Char.ofNat 111, Char.ofNat 111, Char.ofNat 102, Char.ofNat 47, Char.ofNat 115, Char.ofNat 105, Char.ofNat 109, Char.ofNat 112, Char.ofNat 114, Char.ofNat 111, Char.ofNat 111, Char.ofNat 102, Char.ofNat 108, Char.ofNat 97, Char.ofNat 119, Char.ofNat 49, Char.ofNat 51, Char.ofNat 46, Char.ofNat 78, Char.ofNat 111, Char.ofNat 100, Char.ofNat 101, Char.ofNat 80, Char.ofNat 108, Char.ofNat 97, Char.ofNat 121, Char.ofNat 115, Char.ofNat 32, Char.ofNat 115, Char.ofNat 105, Char.ofNat 109, Char.ofNat 112, Char.ofNat 114, Char.ofNat 111, Char.ofNat 111, Char.ofNat 102, Char.ofNat 47, Char.ofNat 115, Char.ofNat 105, Char.ofNat 109, Char.ofNat 112, Char.ofNat 114, Char.ofNat 111, Char.ofNat 111, Char.ofNat 102, Char.ofNat 108, Char.ofNat 97, Char.ofNat 119, Char.ofNat 49, Char.ofNat 51, Char.ofNat 46, Char.ofNat 78, Char.ofNat 111, Char.ofNat 100, Char.ofNat 101, Char.ofNat 81, Char.ofNat 117, Char.ofNat 101, Char.ofNat 115, Char.ofNat 116, Char.ofNat 105, Char.ofNat 111, Char.ofNat 110, Char.ofNat 115, Char.ofNat 32, Char.ofNat 115, Char.ofNat 105, Char.ofNat 109, Char.ofNat 112, Char.ofNat 114, Char.ofNat 111, Char.ofNat 111, Char.ofNat 102, Char.ofNat 47, Char.ofNat 115, Char.ofNat 105, Char.ofNat 109, Char.ofNat 112, Char.ofNat 114, Char.ofNat 111, Char.ofNat 111, Char.ofNat 102, Char.ofNat 108, Char.ofNat 97, Char.ofNat 119, Char.ofNat 49, Char.ofNat 51, Char.ofNat 46, Char.ofNat 78, Char.ofNat 111, Char.ofNat 100, Char.ofNat 101, Char.ofNat 67, Char.ofNat 111, Char.ofNat 117, Char.ofNat 110, Char.ofNat 116, Char.ofNat 115, Char.ofNat 32, Char.ofNat 115, Char.ofNat 105, Char.ofNat 109, Char.ofNat 112, Char.ofNat 114, Char.ofNat 111, Char.ofNat 111, Char.ofNat 102, Char.ofNat 47, Char.ofNat 115, Char.ofNat 105, Char.ofNat 109, Char.ofNat 112, Char.ofNat 114, Char.ofNat 111, Char.ofNat 111, Char.ofNat 102, Char.ofNat 108, Char.ofNat 97, Char.ofNat 119, Char.ofNat 49, Char.ofNat 51, Char.ofNat 46, Char.ofNat 78, Char.ofNat 111, Char.ofNat 100, Char.ofNat 101, Char.ofNat 77, Char.ofNat 101, Char.ofNat 115, Char.ofNat 115, Char.ofNat 97, Char.ofNat 103, Char.ofNat 101, Char.ofNat 115, Char.ofNat 32, Char.ofNat 115, Char.ofNat 105, Char.ofNat 109, Char.ofNat 112, Char.ofNat 114, Char.ofNat 111, Char.ofNat 111, Char.ofNat 102, Char.ofNat 47, Char.ofNat 115, Char.ofNat 105, Char.ofNat 109, Char.ofNat 112, Char.ofNat 114, Char.ofNat 111, Char.ofNat 111, Char.ofNat 102, Char.ofNat 108, Char.ofNat 97, Char.ofNat 119, Char.ofNat 49, Char.ofNat 51, Char.ofNat 46, Char.ofNat 78, Char.ofNat 111, Char.ofNat 100, Char.ofNat 101, Char.ofNat 82, Char.ofNat 101, Char.ofNat 112, Char.ofNat 108, Char.ofNat 105, Char.ofNat 101, Char.ofNat 115, Char.ofNat 32, Char.ofNat 115, Char.ofNat 105, Char.ofNat 109, Char.ofNat 112, Char.ofNat 114, Char.ofNat 111, Char.ofNat 111, Char.ofNat 102, Char.ofNat 47, Char.ofNat 115, Char.ofNat 105, Char.ofNat 109, Char.ofNat 112, Char.ofNat 114, Char.ofNat 111, Char.ofNat 111, Char.ofNat 102, Char.ofNat 108, Char.ofNat 97, Char.ofNat 119, Char.ofNat 49, Char.ofNat 51, Char.ofNat 46, Char.ofNat 78, Char.ofNat 111, Char.ofNat 100, Char.ofNat 101, Char.ofNat 67, Char.ofNat 114, Char.ofNat 97, Char.ofNat 115, Char.ofNat 104, Char.ofNat 32, Char.ofNat 115, Char.ofNat 105, Char.ofNat 109, Char.ofNat 112, Char.ofNat 114, Char.ofNat 111, Char.ofNat 111, Char.ofNat 102, Char.ofNat 47, Char.ofNat 115, Char.ofNat 105, Char.ofNat 109, Char.ofNat 112, Char.ofNat 114, Char.ofNat 111, Char.ofNat 111, Char.ofNat 102, Char.ofNat 108, Char.ofNat 97, Char.ofNat 119, Char.ofNat 49, Char.ofNat 51, Char.ofNat 46, Char.ofNat 78, Char.ofNat 111, Char.ofNat 100, Char.ofNat 101, Char.ofNat 83, Char.ofNat 121, Char.ofNat 110, Char.ofNat 99, Char.ofNat 101, Char.ofNat 100, Char.ofNat 32, Char.ofNat 115, Char.ofNat 105, Char.ofNat 109, Char.ofNat 112, Char.ofNat 114, Char.ofNat 111, Char.ofNat 111, Char.ofNat 102, Char.ofNat 47, Char.ofNat 115, Char.ofNat 105, Char.ofNat 109, Char.ofNat 112, Char.ofNat 114, Char.ofNat 111, Char.ofNat 111, Char.ofNat 102, Char.ofNat 108, Char.ofNat 97, Char.ofNat 119, Char.ofNat 49, Char.ofNat 51, Char.ofNat 46, Char.ofNat 78, Char.ofNat 111, Char.ofNat 100, Char.ofNat 101, Char.ofNat 82, Char.ofNat 101, Char.ofNat 115, Char.ofNat 116, Char.ofNat 97, Char.ofNat 114, Char.ofNat 116, Char.ofNat 32, Char.ofNat 115, Char.ofNat 105, Char.ofNat 109, Char.ofNat 112, Char.ofNat 114, Char.ofNat 111, Char.ofNat 111, Char.ofNat 102, Char.ofNat 47, Char.ofNat 115, Char.ofNat 105, Char.ofNat 109, Char.ofNat 112, Char.ofNat 114, Char.ofNat 111, Char.ofNat 111, Char.ofNat 102, Char.ofNat 108, Char.ofNat 97, Char.ofNat 119, Char.ofNat 49, Char.ofNat 51, Char.ofNat 46, Char.ofNat 78, Char.ofNat 111, Char.ofNat 100, Char.ofNat 101, Char.ofNat 86, Char.ofNat 97, Char.ofNat 108, Char.ofNat 117, Char.ofNat 101, Char.ofNat 115]
theorem initO : Tryz.pinned.checked.prog.initOrder = String.ofList initL := by kernel_rfl
theorem initT : Tryz.pinned.checked.prog.initOrder.toList = initL := by rw [initO, String.toList_ofList]
def wsL : List (List Char) := behindMainWord (wordsSigns initL)
theorem wsE : wsL = "cut".toList :: wsL.tail := by kernel_rfl
theorem wsP : behindMainWord (wordsSigns Tryz.pinned.checked.prog.initOrder.toList) = "cut".toList :: wsL.tail := by rw [initT]; exact wsE
theorem j0 : Rows.nodeQuestionsRow.wf (OpenSpec.ofChange Rows.nodeQuestionsSpec) = true := by kernel_rfl
theorem j1 : laidOutB Tryz.pinned.checked.prog = true := by kernel_rfl
theorem j2 : mapsRowed Tryz.pinned.checked.prog = true := by kernel_rfl
theorem j3 : Tryz.f12.params.all (Tryz.pinned.checked.prog.readableRec ·) = true := by kernel_rfl
theorem j4 : namedTie Tryz.pinned.checked.prog Rows.nodeQuestionsRow.named Rows.nodeQuestionsSpec.vars = true := by kernel_rfl
theorem j5 : (Rows.nodeQuestionsRow.stops == []) = true := by kernel_rfl
theorem j6 : (Tryz.pinned.checked.prog.stops == []) = true := by kernel_rfl
theorem j7 : (Rows.nodeQuestionsRow.knobs == []) = true := by kernel_rfl
theorem j8 : (Tryz.pinned.checked.prog.stopKnobs == []) = true := by kernel_rfl
theorem j9 : (Rows.nodeQuestionsRow.inPlace == Tryz.pinned.checked.prog.inPlace 12) = true := by kernel_rfl
theorem j10 : (Rows.nodeQuestionsRow.unfollowed == Tryz.pinned.checked.prog.unfollowed 12) = true := by kernel_rfl
theorem j11 : (Rows.nodeQuestionsRow.recurses == Tryz.pinned.checked.prog.recurses 12) = true := by kernel_rfl
theorem j12 : (Rows.nodeQuestionsRow.named == Tryz.pinned.checked.prog.varsNamed 12) = true := by kernel_rfl
theorem j13 : (Rows.nodeQuestionsRow.maps == (Tryz.f12.params.toList ++ Rows.nodeQuestionsSpec.plain.varTypes Tryz.pinned.checked.prog).any (Tryz.pinned.checked.prog.mapsRec ·)) = true := by kernel_rfl
theorem j14 : (Rows.nodeQuestionsRow.ifaces == (Tryz.f12.params.toList ++ Rows.nodeQuestionsSpec.plain.varTypes Tryz.pinned.checked.prog).any (Tryz.pinned.checked.prog.ifacesRec ·)) = true := by kernel_rfl
theorem j15 : (Rows.nodeQuestionsRow.mapsOut == Tryz.pinned.checked.prog.mapsAmong Tryz.f12.resultTypes.toList) = true := by kernel_rfl
theorem j16 : (Rows.nodeQuestionsRow.loops == (Tryz.f12.params.toList ++ Rows.nodeQuestionsSpec.plain.varTypes Tryz.pinned.checked.prog).any (Tryz.pinned.checked.prog.loopsFrom ·)) = true := by kernel_rfl
theorem j17 : (Rows.nodeQuestionsRow.wideKeys == (Tryz.f12.params.toList ++ Rows.nodeQuestionsSpec.plain.varTypes Tryz.pinned.checked.prog ++ Tryz.f12.resultTypes.toList).any (Tryz.pinned.checked.prog.wideKeysFrom ·)) = true := by kernel_rfl
theorem j18 : Rows.nodeQuestionsSpec.vars.all (Tryz.pinned.checked.prog.varReadable ·) = true := by kernel_rfl
theorem j19 : Tryz.f12.resultTypes.all (fun t => Tryz.pinned.checked.prog.readableRec t && decide (t < Tryz.pinned.checked.prog.types.size)) = true := by kernel_rfl
theorem j20 : (Rows.nodeQuestionsRow.ifacesOut == Tryz.f12.resultTypes.toList.any (Tryz.pinned.checked.prog.ifacesRec ·)) = true := by kernel_rfl
theorem j21 : (Rows.nodeQuestionsRow.loopsOut == Tryz.f12.resultTypes.toList.any (Tryz.pinned.checked.prog.loopsFrom ·)) = true := by kernel_rfl
theorem j22 : (Rows.nodeQuestionsRow.plainKeys == Tryz.pinned.checked.prog.plainKeys) = true := by kernel_rfl
theorem j23 : Rows.nodeQuestionsRow.shortTexts.isNone = true := by kernel_rfl
theorem j24 : Tryz.pinned.checked.prog.stopsHeard = true := by kernel_rfl
theorem j25 : Tryz.pinned.checked.prog.mayEnter = true := FP wsP ae ae ae
theorem j26 : (Rows.nodeQuestionsRow.lifted == Tryz.pinned.checked.prog.liftsFinal) = true := by rw [yL wsP]; rfl
theorem j27 : (Tryz.pinned.checked.prog.make == some Rows.nodeQuestionsRow.make) = true := by rw [BY wsP]; rfl
theorem j28 : (Rows.nodeQuestionsRow.kinds == (if Rows.nodeQuestionsRow.domain.isEmpty then [] else Tryz.f12.params.toList.map fun t => match Tryz.pinned.checked.prog.underlying t with | some (.int k) => some k | _ => none)) = true := by kernel_rfl
theorem j29 : (Rows.nodeQuestionsRow.pinned == Rows.nodeQuestionsRow.pinnedBy) = true := by kernel_rfl
theorem j30 : (Rows.nodeQuestionsRow.veiled == (Tryz.f12.params.toList ++ Rows.nodeQuestionsSpec.plain.varTypes Tryz.pinned.checked.prog ++ Tryz.f12.resultTypes.toList).any (Tryz.pinned.checked.prog.veiledRec ·)) = true := by kernel_rfl
theorem j31 : Rows.nodeQuestionsRow.veiledFits Tryz.pinned.checked.prog Tryz.f12.params.toList (Tryz.f12.params.toList ++ Rows.nodeQuestionsSpec.plain.varTypes Tryz.pinned.checked.prog ++ Tryz.f12.resultTypes.toList) = true := by kernel_rfl
set_option maxRecDepth 100000 in
theorem closed : joinedFacts Tryz.pinned.checked.prog 12 Tryz.f12 Rows.nodeQuestionsSpec Rows.nodeQuestionsRow = true := (gy (gy (gy (gy (gy (gy (gy (gy (gy (gy (gy (gy (gy (gy (gy (gy (gy (gy (gy (gy (gy (gy (gy (gy (gy (gy (gy (gy (gy (gy (gy j0 j1) j2) j3) j4) j5) j6) j7) j8) j9) j10) j11) j12) j13) j14) j15) j16) j17) j18) j19) j20) j21) j22) j23) j24) j25) j26) j27) j28) j29) j30) j31)
theorem over : Rows.nodeQuestionsRow.holds Tryz.pinned (OpenSpec.ofChange Rows.nodeQuestionsSpec) :=
  OpenClaim.holds_of_wide 12 Tryz.f12 rfl rfl rfl rfl rfl rfl rfl ⟨rfl, rfl, rfl, rfl, rfl⟩ rfl rfl rfl rfl rfl ae Tryz.func12 closed
    (of_decide_eq_true ae) (by unfold Func.isWrapper; first | (rw [if_pos (by decide +kernel)]; kernel_rfl) | (rw [if_neg (by decide +kernel)]; exact ⟨rfl, rfl⟩))
    (fun os started H enc _ => lifted os started H enc)

/-- The statement. -/
theorem proved : Rows.NodeQuestionsSaid := over
#print axioms proved
end Go.Proofs.YtmjnackchaahbaaGreat.nodeQuestions

/- 'DiskOwn' returns true for every input, and leaves its arguments as they were. No conditions. The frame of this text follows the guide's program proof-skeleton.mjs; the walk is in YtmjnackchaahbaaK7. -/
import Derived.Test.YtmjnackchaahbaaRows
import Derived.WalkKit
import Derived.ProofKit
import Derived.OpenShut
import Derived.ShutString
import Derived.ChangeOld
import Derived.Below
import Derived.SizedLaws
import Derived.Test.YtmjnackchaahbaaDoZ9
namespace Go.Proofs.Ytmjnackchaahbaa.diskOwn
open Go.ChangeShapes Go.WideShapes Go.ChangeAt Go.RowKit
open Go.ChangeMaps (open_string shut_string)
set_option linter.unusedVariables false

theorem own : ownKnob Try.prog.godebug = none := by kernel_rfl
theorem laidOut : laidOutB Try.prog = true := by kernel_rfl

set_option maxRecDepth 100000 in
theorem lifted (os : Os) (started : os.Started) (H : Type) (enc : TypeId × Value → H) :
    ReturnsInHanded {} Try.checked os 3 .any (Rows.diskOwnSpec.pre6 enc Try.prog Try.f3 Rows.diskOwnRow.domain false) (Rows.diskOwnSpec.post enc Try.prog Try.f3 false true false false) := by
  refine returnsInHanded_of_change_sized (C := Try.checked) own started ac Try.func3
    (ChangeSpec.witness6 (enc := enc) (C := Try.checked) false ⟨#[], #[.int .i64 0, .slice none 0 0, .int .i64 0, .int .i64 0], []⟩ 8 ac ac ac ac) ?_
  intro W base args ds gs before hval0 hW hcnd hsz0 _
  have hval : ∀ (j : Nat) t v, Try.f3.params[j]? = some t → args[j]? = some v → Value.okWide Try.prog W .any base t v := hval0
  have hW' := hW
  obtain ⟨p, q, hA0, hV, rfl, hfz, hnd⟩ := hW
  have hA : DataW.TrodAll enc Try.prog W 0 (fun _ => true) true Try.f3.params.toList args.toList ds p := hA0
  have hsz : (DataW.weightsEach Try.prog (Try.f3.params.toList ++ Rows.diskOwnSpec.plain.varTypes Try.prog) (ds ++ gs)).all (· ≤ reachBytes) = true := hsz0
  rw [Try.params3] at hA hval hsz
  obtain ⟨v0, vs0, d0, ds0, p0, q0, hargs, rfl, rfl, h0, r0⟩ := trodAll_cons hA
  obtain ⟨v1, vs1, d1, ds1, p1, q1, rfl, rfl, rfl, h1, r1⟩ := trodAll_cons r0
  obtain ⟨v2, vs2, d2, ds2, p2, q2, rfl, rfl, rfl, h2, r2⟩ := trodAll_cons r1
  obtain ⟨v3, vs3, d3, ds3, p3, q3, rfl, rfl, rfl, h3, r3⟩ := trodAll_cons r2
  obtain ⟨rfl, rfl, rfl⟩ := trodAll_nil r3
  obtain rfl : args = #[v0, v1, v2, v3] := by cases args; simp_all
  obtain ⟨rfl, rfl⟩ := trodVars_none hV
  obtain ⟨a0, rfl, rfl, rfl, w0⟩ := open_int Try.underlying3 (hval 0 3 v0 rfl rfl) h0
  obtain ⟨a1, len1, cap1, rfl⟩ := okWide_slice Try.underlying22 (hval 1 22 v1 rfl rfl)
  have k1 := h1
  have lt1 : ∀ x ∈ p1, x.block < W.heap.size := by obtain ⟨m, hm⟩ := k1; exact DataW.trod_lt m _ _ _ hm
  have g1 : len1 ≤ 4611686018427387904 := iC hsz (j := 1) (t := 22) (e := 3) rfl rfl Try.underlying22 (by decide +kernel) h1
  obtain ⟨z1, n1, s1⟩ := jJ Try.underlying22 Try.underlying3 ac h1
  obtain ⟨a2, rfl, rfl, rfl, w2⟩ := open_int Try.underlying3 (hval 2 3 v2 rfl rfl) h2
  obtain ⟨a3, rfl, rfl, rfl, w3⟩ := open_int Try.underlying3 (hval 3 3 v3 rfl rfl) h3
  clear hA0 hval0
  have hwalk : Calls Try.prog 3 #[.int .i64 a0, .slice a1 len1 cap1, .int .i64 a2, .int .i64 a3] W fun e w' => e = .returned (.bool true) ∧ Below W.heap.size W w' :=
    (gz a0 (jp w0) len1 _ (by simp [n1]) g1 (kV z1) a2 a3 (jp w2)).calls rfl ⟨.v, kC s1, .v, .v, trivial⟩
  refine hwalk.mono fun e W' ⟨he, bel⟩ => ?_
  subst he
  exact ⟨_, rfl, _, _, _, [], _, [], hW', trodAll_mk1 (shut_bool Try.underlying4 _), (trodAll_cons_mk (shut_int Try.underlying3 w0) (trodAll_cons_mk (Below.trod laidOut ac (of_decide_eq_true ac) k1 bel lt1) (trodAll_cons_mk (shut_int Try.underlying3 w2) (trodAll_cons_mk (shut_int Try.underlying3 w3) trodAll_mk0)))), rfl, bel.frame _, fun h => by cases h⟩

def initL : List Char := [Char.ofNat 104, Char.ofNat 97, Char.ofNat 114, Char.ofNat 110, Char.ofNat 101, Char.ofNat 115, Char.ofNat 115, Char.ofNat 32, Char.ofNat 48, Char.ofNat 50, Char.ofNat 50, Char.ofNat 102, Char.ofNat 98, Char.ofNat 55, Char.ofNat 101, Char.ofNat 98, Char.ofNat 54, Char.ofNat 50, Char.ofNat 97, Char.ofNat 98, Char.ofNat 98, Char.ofNat 99, Char.ofNat 51, Char.ofNat 51, Char.ofNat 48, Char.ofNat 50, Char.ofNat 48, Char.ofNat 53, Char.ofNat 97, Char.ofNat 100, Char.ofNat 97, Char.ofNat 51, Char.ofNat 52, Char.ofNat 57, Char.ofNat 53, Char.ofNat 52, Char.ofNat 55, Char.ofNat 50, Char.ofNat 54, Char.ofNat 50, Char.ofNat 56, Char.ofNat 57, Char.ofNat 48, Char.ofNat 55, Char.ofNat 56, Char.ofNat 56, Char.ofNat 100, Char.ofNat 101, Char.ofNat 101, Char.ofNat 99, Char.ofNat 101, Char.ofNat 98, Char.ofNat 55, Char.ofNat 48, Char.ofNat 102, Char.ofNat 56, Char.ofNat 57, Char.ofNat 99, Char.ofNat 49, Char.ofNat 99, Char.ofNat 55, Char.ofNat 100, Char.ofNat 100, Char.ofNat 55, Char.ofNat 51, Char.ofNat 57, Char.ofNat 52, Char.ofNat 48, Char.ofNat 50, Char.ofNat 52, Char.ofNat 100, Char.ofNat 100, Char.ofNat 32, Char.ofNat 99, Char.ofNat 117, Char.ofNat 116, Char.ofNat 32, Char.ofNat 97, Char.ofNat 116, Char.ofNat 32, Char.ofNat 115, Char.ofNat 105, Char.ofNat 109, Char.ofNat 112, Char.ofNat 114, Char.ofNat 111, Char.ofNat 111, Char.ofNat 102, Char.ofNat 47, Char.ofNat 115, Char.ofNat 105, Char.ofNat 109, Char.ofNat 112, Char.ofNat 114, Char.ofNat 111, Char.ofNat 111, Char.ofNat 102, Char.ofNat 108, Char.ofNat 97, Char.ofNat 119, Char.ofNat 49, Char.ofNat 50, Char.ofNat 46, Char.ofNat 68, Char.ofNat 105, Char.ofNat 115, Char.ofNat 107, Char.ofNat 79, Char.ofNat 119, Char.ofNat 110, Char.ofNat 32, Char.ofNat 115, Char.ofNat 105, Char.ofNat 109, Char.ofNat 112, Char.ofNat 114, Char.ofNat 111, Char.ofNat 111, Char.ofNat 102, Char.ofNat 47, Char.ofNat 115, Char.ofNat 105, Char.ofNat 109, Char.ofNat 112, Char.ofNat 114, Char.ofNat 111, Char.ofNat 111, Char.ofNat 102, Char.ofNat 108, Char.ofNat 97, Char.ofNat 119, Char.ofNat 49, Char.ofNat 50, Char.ofNat 46, Char.ofNat 68, Char.ofNat 105, Char.ofNat 115, Char.ofNat 107, Char.ofNat 70, Char.ofNat 111, Char.ofNat 108, Char.ofNat 108, Char.ofNat 111, Char.ofNat 119, Char.ofNat 115]
theorem initO : Try.pinned.checked.prog.initOrder = String.ofList initL := by kernel_rfl
theorem initT : Try.pinned.checked.prog.initOrder.toList = initL := by rw [initO, String.toList_ofList]
def wsL : List (List Char) := behindMainWord (wordsSigns initL)
theorem wsE : wsL = "cut".toList :: wsL.tail := by kernel_rfl
theorem wsP : behindMainWord (wordsSigns Try.pinned.checked.prog.initOrder.toList) = "cut".toList :: wsL.tail := by rw [initT]; exact wsE
theorem j0 : Rows.diskOwnRow.wf (OpenSpec.ofChange Rows.diskOwnSpec) = true := by kernel_rfl
theorem j1 : laidOutB Try.pinned.checked.prog = true := by kernel_rfl
theorem j2 : mapsRowed Try.pinned.checked.prog = true := by kernel_rfl
theorem j3 : Try.f3.params.all (Try.pinned.checked.prog.readableRec ·) = true := by kernel_rfl
theorem j4 : namedTie Try.pinned.checked.prog Rows.diskOwnRow.named Rows.diskOwnSpec.vars = true := by kernel_rfl
theorem j5 : (Rows.diskOwnRow.stops == []) = true := by kernel_rfl
theorem j6 : (Try.pinned.checked.prog.stops == []) = true := by kernel_rfl
theorem j7 : (Rows.diskOwnRow.knobs == []) = true := by kernel_rfl
theorem j8 : (Try.pinned.checked.prog.stopKnobs == []) = true := by kernel_rfl
theorem j9 : (Rows.diskOwnRow.inPlace == Try.pinned.checked.prog.inPlace 3) = true := by kernel_rfl
theorem j10 : (Rows.diskOwnRow.unfollowed == Try.pinned.checked.prog.unfollowed 3) = true := by kernel_rfl
theorem j11 : (Rows.diskOwnRow.recurses == Try.pinned.checked.prog.recurses 3) = true := by kernel_rfl
theorem j12 : (Rows.diskOwnRow.named == Try.pinned.checked.prog.varsNamed 3) = true := by kernel_rfl
theorem j13 : (Rows.diskOwnRow.maps == (Try.f3.params.toList ++ Rows.diskOwnSpec.plain.varTypes Try.pinned.checked.prog).any (Try.pinned.checked.prog.mapsRec ·)) = true := by kernel_rfl
theorem j14 : (Rows.diskOwnRow.ifaces == (Try.f3.params.toList ++ Rows.diskOwnSpec.plain.varTypes Try.pinned.checked.prog).any (Try.pinned.checked.prog.ifacesRec ·)) = true := by kernel_rfl
theorem j15 : (Rows.diskOwnRow.mapsOut == Try.pinned.checked.prog.mapsAmong Try.f3.resultTypes.toList) = true := by kernel_rfl
theorem j16 : (Rows.diskOwnRow.loops == (Try.f3.params.toList ++ Rows.diskOwnSpec.plain.varTypes Try.pinned.checked.prog).any (Try.pinned.checked.prog.loopsFrom ·)) = true := by kernel_rfl
theorem j17 : (Rows.diskOwnRow.wideKeys == (Try.f3.params.toList ++ Rows.diskOwnSpec.plain.varTypes Try.pinned.checked.prog ++ Try.f3.resultTypes.toList).any (Try.pinned.checked.prog.wideKeysFrom ·)) = true := by kernel_rfl
theorem j18 : Rows.diskOwnSpec.vars.all (Try.pinned.checked.prog.varReadable ·) = true := by kernel_rfl
theorem j19 : Try.f3.resultTypes.all (fun t => Try.pinned.checked.prog.readableRec t && decide (t < Try.pinned.checked.prog.types.size)) = true := by kernel_rfl
theorem j20 : (Rows.diskOwnRow.ifacesOut == Try.f3.resultTypes.toList.any (Try.pinned.checked.prog.ifacesRec ·)) = true := by kernel_rfl
theorem j21 : (Rows.diskOwnRow.loopsOut == Try.f3.resultTypes.toList.any (Try.pinned.checked.prog.loopsFrom ·)) = true := by kernel_rfl
theorem j22 : (Rows.diskOwnRow.plainKeys == Try.pinned.checked.prog.plainKeys) = true := by kernel_rfl
theorem j23 : Rows.diskOwnRow.shortTexts.isNone = true := by kernel_rfl
theorem j24 : Try.pinned.checked.prog.stopsHeard = true := by kernel_rfl
theorem j25 : Try.pinned.checked.prog.mayEnter = true := jP wsP ac ac ac
theorem j26 : (Rows.diskOwnRow.lifted == Try.pinned.checked.prog.liftsFinal) = true := by rw [iE wsP]; rfl
theorem j27 : (Try.pinned.checked.prog.make == some Rows.diskOwnRow.make) = true := by rw [jh wsP]; rfl
theorem j28 : (Rows.diskOwnRow.kinds == (if Rows.diskOwnRow.domain.isEmpty then [] else Try.f3.params.toList.map fun t => match Try.pinned.checked.prog.underlying t with | some (.int k) => some k | _ => none)) = true := by kernel_rfl
theorem j29 : (Rows.diskOwnRow.pinned == Rows.diskOwnRow.pinnedBy) = true := by kernel_rfl
theorem j30 : (Rows.diskOwnRow.veiled == (Try.f3.params.toList ++ Rows.diskOwnSpec.plain.varTypes Try.pinned.checked.prog ++ Try.f3.resultTypes.toList).any (Try.pinned.checked.prog.veiledRec ·)) = true := by kernel_rfl
theorem j31 : Rows.diskOwnRow.veiledFits Try.pinned.checked.prog Try.f3.params.toList (Try.f3.params.toList ++ Rows.diskOwnSpec.plain.varTypes Try.pinned.checked.prog ++ Try.f3.resultTypes.toList) = true := by kernel_rfl
set_option maxRecDepth 100000 in
theorem closed : joinedFacts Try.pinned.checked.prog 3 Try.f3 Rows.diskOwnSpec Rows.diskOwnRow = true := (ct (ct (ct (ct (ct (ct (ct (ct (ct (ct (ct (ct (ct (ct (ct (ct (ct (ct (ct (ct (ct (ct (ct (ct (ct (ct (ct (ct (ct (ct (ct j0 j1) j2) j3) j4) j5) j6) j7) j8) j9) j10) j11) j12) j13) j14) j15) j16) j17) j18) j19) j20) j21) j22) j23) j24) j25) j26) j27) j28) j29) j30) j31)
theorem over : Rows.diskOwnRow.holds Try.pinned (OpenSpec.ofChange Rows.diskOwnSpec) :=
  OpenClaim.holds_of_wide 3 Try.f3 rfl rfl rfl rfl rfl rfl rfl ⟨rfl, rfl, rfl, rfl, rfl⟩ rfl rfl rfl rfl rfl ac Try.func3 closed
    (of_decide_eq_true ac) (by unfold Func.isWrapper; first | (rw [if_pos (by decide +kernel)]; kernel_rfl) | (rw [if_neg (by decide +kernel)]; exact ⟨rfl, rfl⟩))
    (fun os started H enc _ => lifted os started H enc)

/-- The statement. -/
theorem proved : Rows.DiskOwnSaid := over
#print axioms proved
end Go.Proofs.Ytmjnackchaahbaa.diskOwn

/- 'VmHandlers' returns true for every input, and leaves its arguments as they were. No conditions. The frame of this text follows the guide's program proof-skeleton.mjs; the walk is in YtmjnackchaahbaaGreatVH11. -/
import Derived.Test.YtmjnackchaahbaaGreatRows
import Derived.WalkKit
import Derived.ProofKit
import Derived.OpenShut
import Derived.ShutString
import Derived.ChangeOld
import Derived.Below
import Derived.SizedLaws
import Derived.Test.YtmjnackchaahbaaGreatVhZ16
namespace Go.Proofs.YtmjnackchaahbaaGreat.vmHandlers
open Go.ChangeShapes Go.WideShapes Go.ChangeAt Go.RowKit
open Go.ChangeMaps (open_string shut_string)
set_option linter.unusedVariables false

theorem own : ownKnob Tryz.prog.godebug = none := by kernel_rfl
theorem laidOut : laidOutB Tryz.prog = true := by kernel_rfl

set_option maxRecDepth 100000 in
theorem lifted (os : Os) (started : os.Started) (H : Type) (enc : TypeId × Value → H) :
    ReturnsInHanded {} Tryz.checked os 10 .any (Rows.vmHandlersSpec.pre6 enc Tryz.prog Tryz.f10 Rows.vmHandlersRow.domain false) (Rows.vmHandlersSpec.post enc Tryz.prog Tryz.f10 false true false false) := by
  refine returnsInHanded_of_change_sized (C := Tryz.checked) own started ae Tryz.func10
    (ChangeSpec.witness6 (enc := enc) (C := Tryz.checked) false ⟨#[], #[.slice none 0 0, .slice none 0 0, .slice none 0 0, .int .i64 0], []⟩ 8 ae ae ae ae) ?_
  intro W base args ds gs before hval0 hW hcnd hsz0 _
  have hval : ∀ (j : Nat) t v, Tryz.f10.params[j]? = some t → args[j]? = some v → Value.okWide Tryz.prog W .any base t v := hval0
  have hW' := hW
  obtain ⟨p, q, hA0, hV, rfl, hfz, hnd⟩ := hW
  have hA : DataW.TrodAll enc Tryz.prog W 0 (fun _ => true) true Tryz.f10.params.toList args.toList ds p := hA0
  have hsz : (DataW.weightsEach Tryz.prog (Tryz.f10.params.toList ++ Rows.vmHandlersSpec.plain.varTypes Tryz.prog) (ds ++ gs)).all (· ≤ reachBytes) = true := hsz0
  rw [Tryz.params10] at hA hval hsz
  obtain ⟨v0, vs0, d0, ds0, p0, q0, hargs, rfl, rfl, h0, r0⟩ := trodAll_cons hA
  obtain ⟨v1, vs1, d1, ds1, p1, q1, rfl, rfl, rfl, h1, r1⟩ := trodAll_cons r0
  obtain ⟨v2, vs2, d2, ds2, p2, q2, rfl, rfl, rfl, h2, r2⟩ := trodAll_cons r1
  obtain ⟨v3, vs3, d3, ds3, p3, q3, rfl, rfl, rfl, h3, r3⟩ := trodAll_cons r2
  obtain ⟨rfl, rfl, rfl⟩ := trodAll_nil r3
  obtain rfl : args = #[v0, v1, v2, v3] := by cases args; simp_all
  obtain ⟨rfl, rfl⟩ := trodVars_none hV
  obtain ⟨a0, len0, cap0, rfl⟩ := okWide_slice Tryz.underlying22 (hval 0 22 v0 rfl rfl)
  have k0 := h0
  have lt0 : ∀ x ∈ p0, x.block < W.heap.size := by obtain ⟨m, hm⟩ := k0; exact DataW.trod_lt m _ _ _ hm
  have g0 : len0 ≤ 4611686018427387904 := ny hsz (j := 0) (t := 22) (e := 3) rfl rfl Tryz.underlying22 (by decide +kernel) h0
  obtain ⟨z0, n0, s0⟩ := sy Tryz.underlying22 Tryz.underlying3 ae h0
  obtain ⟨a1, len1, cap1, rfl⟩ := okWide_slice Tryz.underlying22 (hval 1 22 v1 rfl rfl)
  have k1 := h1
  have lt1 : ∀ x ∈ p1, x.block < W.heap.size := by obtain ⟨m, hm⟩ := k1; exact DataW.trod_lt m _ _ _ hm
  have g1 : len1 ≤ 4611686018427387904 := ny hsz (j := 1) (t := 22) (e := 3) rfl rfl Tryz.underlying22 (by decide +kernel) h1
  obtain ⟨z1, n1, s1⟩ := sy Tryz.underlying22 Tryz.underlying3 ae h1
  obtain ⟨a2, len2, cap2, rfl⟩ := okWide_slice Tryz.underlying22 (hval 2 22 v2 rfl rfl)
  have k2 := h2
  have lt2 : ∀ x ∈ p2, x.block < W.heap.size := by obtain ⟨m, hm⟩ := k2; exact DataW.trod_lt m _ _ _ hm
  have g2 : len2 ≤ 4611686018427387904 := ny hsz (j := 2) (t := 22) (e := 3) rfl rfl Tryz.underlying22 (by decide +kernel) h2
  obtain ⟨z2, n2, s2⟩ := sy Tryz.underlying22 Tryz.underlying3 ae h2
  obtain ⟨a3, rfl, rfl, rfl, w3⟩ := open_int Tryz.underlying3 (hval 3 3 v3 rfl rfl) h3
  clear hA0 hval0
  have hwalk : Calls Tryz.prog 10 #[.slice a0 len0 cap0, .slice a1 len1 cap1, .slice a2 len2 cap2, .int .i64 a3] W fun e w' => e = .returned (.bool true) ∧ Below W.heap.size W w' :=
    (oJ len0 _ (by simp [n0]) g0 (vC z0) len1 _ (by simp [n1]) g1 (vC z1) len2 _ (by simp [n2]) g2 (vC z2) a3 (Fv w3)).calls rfl ⟨vb s0, vb s1, vb s2, .v, trivial⟩
  refine hwalk.mono fun e W' ⟨he, bel⟩ => ?_
  subst he
  exact ⟨_, rfl, _, _, _, [], _, [], hW', trodAll_mk1 (shut_bool Tryz.underlying4 _), (trodAll_cons_mk (Below.trod laidOut ae (of_decide_eq_true ae) k0 bel lt0) (trodAll_cons_mk (Below.trod laidOut ae (of_decide_eq_true ae) k1 bel lt1) (trodAll_cons_mk (Below.trod laidOut ae (of_decide_eq_true ae) k2 bel lt2) (trodAll_cons_mk (shut_int Tryz.underlying3 w3) trodAll_mk0)))), rfl, bel.frame _, fun h => by cases h⟩

def initL : List Char := [104,97,114,110,101,115,115,32,48,51,52,97,101,48,100,100,100,52,53,48,54,48,98,49,98,57,102,51,49,56,101,101,97,48,48,101,50,98,56,56,54,101,53,99,53,50,102,100,97,55,53,102,49,50,51,54,54,102,98,97,55,48,97,101,97,50,50,102,99,52,54,50,32,99,117,116,32,97,116,32,115,105,109,112,114,111,111,102,47,115,105,109,112,114,111,111,102,108,97,119,48,57,46,86,109,82,117,110,115,32,115,105,109,112,114,111,111,102,47,115,105,109,112,114,111,111,102,108,97,119,48,57,46,86,109,65,114,105,116,104,109,101,116,105,99,32,115,105,109,112,114,111,111,102,47,115,105,109,112,114,111,111,102,108,97,119,48,57,46,86,109,65,115,107,115,32,115,105,109,112,114,111,111,102,47,115,105,109,112,114,111,111,102,108,97,119,48,57,46,86,109,66,111,117,110,100,115,32,115,105,109,112,114,111,111,102,47,115,105,109,112,114,111,111,102,108,97,119,48,57,46,86,109,87,114,105,116,101,115,32,115,105,109,112,114,111,111,102,47,115,105,109,112,114,111,111,102,108,97,119,48,57,46,86,109,67,111,118,101,114,115,32,115,105,109,112,114,111,111,102,47,115,105,109,112,114,111,111,102,108,97,119,48,57,46,86,109,79,119,110,32,115,105,109,112,114,111,111,102,47,115,105,109,112,114,111,111,102,108,97,119,48,57,46,86,109,72,97,110,100,108,101,114,115,32,115,105,109,112,114,111,111,102,47,115,105,109,112,114,111,111,102,108,97,119,49,51,46,78,111,100,101,80,108,97,121,115,32,115,105,109,112,114,111,111,102,47,115,105,109,112,114,111,111,102,108,97,119,49,51,46,78,111,100,101,81,117,101,115,116,105,111,110,115,32,115,105,109,112,114,111,111,102,47,115,105,109,112,114,111,111,102,108,97,119,49,51,46,78,111,100,101,67,111,117,110,116,115,32,115,105,109,112,114,111,111,102,47,115,105,109,112,114,111,111,102,108,97,119,49,51,46,78,111,100,101,77,101,115,115,97,103,101,115,32,115,105,109,112,114,111,111,102,47,115,105,109,112,114,111,111,102,108,97,119,49,51,46,78,111,100,101,82,101,112,108,105,101,115,32,115,105,109,112,114,111,111,102,47,115,105,109,112,114,111,111,102,108,97,119,49,51,46,78,111,100,101,67,114,97,115,104,32,115,105,109,112,114,111,111,102,47,115,105,109,112,114,111,111,102,108,97,119,49,51,46,78,111,100,101,83,121,110,99,101,100,32,115,105,109,112,114,111,111,102,47,115,105,109,112,114,111,111,102,108,97,119,49,51,46,78,111,100,101,82,101,115,116,97,114,116,32,115,105,109,112,114,111,111,102,47,115,105,109,112,114,111,111,102,108,97,119,49,51,46,78,111,100,101,86,97,108,117,101,115].map Char.ofNat
theorem initO : Tryz.pinned.checked.prog.initOrder = String.ofList initL := by kernel_rfl
theorem initT : Tryz.pinned.checked.prog.initOrder.toList = initL := by rw [initO, String.toList_ofList]
def wsL : List (List Char) := behindMainWord (wordsSigns initL)
theorem wsE : wsL = "cut".toList :: wsL.tail := by kernel_rfl
theorem wsP : behindMainWord (wordsSigns Tryz.pinned.checked.prog.initOrder.toList) = "cut".toList :: wsL.tail := by rw [initT]; exact wsE
noncomputable abbrev G := Tryz.pinned.checked.prog
theorem j0 : Rows.vmHandlersRow.wf (OpenSpec.ofChange Rows.vmHandlersSpec) = true := by kernel_rfl
theorem j1 : laidOutB G = true := by kernel_rfl
theorem j2 : mapsRowed G = true := by kernel_rfl
theorem j3 : Tryz.f10.params.all (G.readableRec ·) = true := by kernel_rfl
theorem j4 : namedTie G Rows.vmHandlersRow.named Rows.vmHandlersSpec.vars = true := by kernel_rfl
theorem j5 : (Rows.vmHandlersRow.stops == []) = true := by kernel_rfl
theorem j6 : (G.stops == []) = true := by kernel_rfl
theorem j7 : (Rows.vmHandlersRow.knobs == []) = true := by kernel_rfl
theorem j8 : (G.stopKnobs == []) = true := by kernel_rfl
theorem j9 : (Rows.vmHandlersRow.inPlace == G.inPlace 10) = true := by kernel_rfl
theorem j10 : (Rows.vmHandlersRow.unfollowed == G.unfollowed 10) = true := by kernel_rfl
theorem j11 : (Rows.vmHandlersRow.recurses == G.recurses 10) = true := by kernel_rfl
theorem j12 : (Rows.vmHandlersRow.named == G.varsNamed 10) = true := by kernel_rfl
theorem j13 : (Rows.vmHandlersRow.maps == (Tryz.f10.params.toList ++ Rows.vmHandlersSpec.plain.varTypes G).any (G.mapsRec ·)) = true := by kernel_rfl
theorem j14 : (Rows.vmHandlersRow.ifaces == (Tryz.f10.params.toList ++ Rows.vmHandlersSpec.plain.varTypes G).any (G.ifacesRec ·)) = true := by kernel_rfl
theorem j15 : (Rows.vmHandlersRow.mapsOut == G.mapsAmong Tryz.f10.resultTypes.toList) = true := by kernel_rfl
theorem j16 : (Rows.vmHandlersRow.loops == (Tryz.f10.params.toList ++ Rows.vmHandlersSpec.plain.varTypes G).any (G.loopsFrom ·)) = true := by kernel_rfl
theorem j17 : (Rows.vmHandlersRow.wideKeys == (Tryz.f10.params.toList ++ Rows.vmHandlersSpec.plain.varTypes G ++ Tryz.f10.resultTypes.toList).any (G.wideKeysFrom ·)) = true := by kernel_rfl
theorem j18 : Rows.vmHandlersSpec.vars.all (G.varReadable ·) = true := by kernel_rfl
theorem j19 : Tryz.f10.resultTypes.all (fun t => G.readableRec t && decide (t < G.types.size)) = true := by kernel_rfl
theorem j20 : (Rows.vmHandlersRow.ifacesOut == Tryz.f10.resultTypes.toList.any (G.ifacesRec ·)) = true := by kernel_rfl
theorem j21 : (Rows.vmHandlersRow.loopsOut == Tryz.f10.resultTypes.toList.any (G.loopsFrom ·)) = true := by kernel_rfl
theorem j22 : (Rows.vmHandlersRow.plainKeys == G.plainKeys) = true := by kernel_rfl
theorem j23 : Rows.vmHandlersRow.shortTexts.isNone = true := by kernel_rfl
theorem j24 : G.stopsHeard = true := by kernel_rfl
theorem j25 : Tryz.pinned.checked.prog.mayEnter = true := Ef wsP ae ae ae
theorem j26 : (Rows.vmHandlersRow.lifted == Tryz.pinned.checked.prog.liftsFinal) = true := by rw [yt wsP]; rfl
theorem j27 : (Tryz.pinned.checked.prog.make == some Rows.vmHandlersRow.make) = true := by rw [Bi wsP]; rfl
theorem j28 : (Rows.vmHandlersRow.kinds == (if Rows.vmHandlersRow.domain.isEmpty then [] else Tryz.f10.params.toList.map fun t => match G.underlying t with | some (.int k) => some k | _ => none)) = true := by kernel_rfl
theorem j29 : (Rows.vmHandlersRow.pinned == Rows.vmHandlersRow.pinnedBy) = true := by kernel_rfl
theorem j30 : (Rows.vmHandlersRow.veiled == (Tryz.f10.params.toList ++ Rows.vmHandlersSpec.plain.varTypes G ++ Tryz.f10.resultTypes.toList).any (G.veiledRec ·)) = true := by kernel_rfl
theorem j31 : Rows.vmHandlersRow.veiledFits G Tryz.f10.params.toList (Tryz.f10.params.toList ++ Rows.vmHandlersSpec.plain.varTypes G ++ Tryz.f10.resultTypes.toList) = true := by kernel_rfl
set_option maxRecDepth 100000 in
theorem closed : joinedFacts Tryz.pinned.checked.prog 10 Tryz.f10 Rows.vmHandlersSpec Rows.vmHandlersRow = true := (fq (fq (fq (fq (fq (fq (fq (fq (fq (fq (fq (fq (fq (fq (fq (fq (fq (fq (fq (fq (fq (fq (fq (fq (fq (fq (fq (fq (fq (fq (fq j0 j1) j2) j3) j4) j5) j6) j7) j8) j9) j10) j11) j12) j13) j14) j15) j16) j17) j18) j19) j20) j21) j22) j23) j24) j25) j26) j27) j28) j29) j30) j31)
theorem over : Rows.vmHandlersRow.holds Tryz.pinned (OpenSpec.ofChange Rows.vmHandlersSpec) :=
  OpenClaim.holds_of_wide 10 Tryz.f10 rfl rfl rfl rfl rfl rfl rfl ⟨rfl, rfl, rfl, rfl, rfl⟩ rfl rfl rfl rfl rfl ae Tryz.func10 closed
    (of_decide_eq_true ae) (by unfold Func.isWrapper; first | (rw [if_pos (by decide +kernel)]; kernel_rfl) | (rw [if_neg (by decide +kernel)]; exact ⟨rfl, rfl⟩))
    (fun os started H enc _ => lifted os started H enc)

/-- The statement. -/
theorem proved : Rows.VmHandlersSaid := over
#print axioms proved
end Go.Proofs.YtmjnackchaahbaaGreat.vmHandlers

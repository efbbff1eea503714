/- Part 9 of the texts that the walk leans on: the machine, the walks, the plain laws. -/
import Derived.Test.YtmjnackchaahbaaGreatVtZ8
set_option linter.unusedSimpArgs false
set_option linter.unusedVariables false
namespace Go.Proofs.YtmjnackchaahbaaGreat
open Go.RowKit

theorem lO (b:UInt8):Spec Tryz.prog 221 (bf [.v (.int .u8 (b.toNat:Int))] []) (aL (.v (.bool (lm b))) []):=by
 have h:=vL b
 refine Spec.ofN Tryz.func221 rfl Tryz.ntmps221 rfl ?_
 refine am (ce rfl (ai (am (aV rfl (aj (fj _ _ rfl rfl rfl) (cE rfl (dw (fun hg5=> ?_) (fun hg5=> ?_))))))))
 ·skip
  have h:lm b=decide ((b.toNat:Int)≤122):=by rw [Bool.eq_iff_iff,h];simp [hg5]
  refine ax rfl rfl (aH _ (rfl:_=AV.v (.int _ _))) (ax rfl rfl (pA _ _ rfl rfl rfl) (aj (az _ _ _ rfl (rfl:_=AV.v (.bool _))) (ce rfl (ai (aE (aW (.inr rfl) rfl (.tmp (rfl:_=AV.v (.bool _))) (Le.out [] [] (gy ?_) rfl rfl rfl trivial trivial)))))))
  exact h
 ·skip
  have h:lm b=false:=Al h (fun x=> by omega)
  refine aN rfl rfl ah ?_
  refine aN rfl rfl ah ?_
  refine aj (az _ _ _ rfl (rfl:_=AV.v (.bool _))) (ce rfl (ai (aE (aW (.inr rfl) rfl (.tmp (rfl:_=AV.v (.bool _))) (Le.out [] [] (gy ?_) rfl rfl rfl trivial trivial)))))
  exact h
theorem kA (b:UInt8):Spec Tryz.prog 222 (bf [.v (.int .u8 (b.toNat:Int))] []) (aL (.v (.bool (eZ b))) []):=by
 have h:=qt b
 refine Spec.ofN Tryz.func222 rfl Tryz.ntmps222 rfl ?_
 refine am (ce rfl (ai (am (aV rfl (aj (fj _ _ rfl rfl rfl) (cE rfl (dw (fun hg5=> ?_) (fun hg5=> ?_))))))))
 ·skip
  have h:eZ b=decide ((b.toNat:Int)≤57):=by rw [Bool.eq_iff_iff,h];simp [hg5]
  refine ax rfl rfl (aH _ (rfl:_=AV.v (.int _ _))) (ax rfl rfl (pA _ _ rfl rfl rfl) (aj (az _ _ _ rfl (rfl:_=AV.v (.bool _))) (ce rfl (ai (aE (aW (.inr rfl) rfl (.tmp (rfl:_=AV.v (.bool _))) (Le.out [] [] (gy ?_) rfl rfl rfl trivial trivial)))))))
  exact h
 ·skip
  have h:eZ b=false:=Al h (fun x=> by omega)
  refine aN rfl rfl ah ?_
  refine aN rfl rfl ah ?_
  refine aj (az _ _ _ rfl (rfl:_=AV.v (.bool _))) (ce rfl (ai (aE (aW (.inr rfl) rfl (.tmp (rfl:_=AV.v (.bool _))) (Le.out [] [] (gy ?_) rfl rfl rfl trivial trivial)))))
  exact h
theorem mO (l:List Tx) (n:Nat) (hn:l.length=n) (h1:n≤1000) (t:Tx):Spec Tryz.prog 224 (bf [.sl n (ed l), .v (bt t)] []) (aL (.v (.bool (decide (t∈l)))) []):=by
 refine Spec.ofN Tryz.func224 rfl Tryz.ntmps224 rfl ?_
 refine am (ce rfl (ai (aT fun K2 hK2=> ?_)))
 refine am (bc rfl (ai (au ?_)))
 refine bv (α:=Nat) (fun k=> k≤n∧t∉l.take k) 18 [(0,_),(1,_)] [] (fun k=> [(5, .v (.int .i64 (k:Int)))]) (fun k=> []) [] [] (fun k=> n - k) 0 ?_ (by
  refine Le.mkJ [] [] rfl ?_ ?_ trivial trivial ?_
  ·exact ⟨(iS rfl),(iV rfl),(cd ag),trivial⟩
  ·exact trivial
  ·kernel_rfl) ?_
 ·exact ⟨Nat.zero_le _,by simp⟩
 intro k hk
 obtain ⟨hk,hnt⟩:=hk
 refine aT fun K4 hK4=> ?_
 refine am (aV rfl (eT rfl (aj (bD _ aa rfl) (aj (bo _ _ rfl rfl rfl) (ai (aP rfl (fun hc9=> ?_) (fun hc9=> ?_)))))))
 ·skip
  refine bA (hK4 _ ?_)
  clear hK4;try clear K4
  refine aq (au (am (eT rfl (aV rfl (aj (bl _ _ aa rfl rfl _ rfl ab (by (simp only [aU,bj,bh,bq];omega)) (by exact Nat.mul_one _)) ?_)))))
  refine aj (bU _ aa rfl (by exact ik _ _ ab) rfl) ?_
  refine dv rfl (aj (aK _ _ Tryz.underlying9 rfl rfl rfl) (ai (aP rfl (fun hc17=> ?_) (fun hc17=> ?_))))
  ·skip
   refine am (ce rfl (ai (aE (aW (.inr rfl) rfl (.tmp (rfl:_=AV.v (.bool _))) (Le.out [] [] (gy ?_) rfl rfl rfl trivial trivial)))))
   exact decide_eq_true (hc17 ▸ gO ab)
  ·skip
   refine cf (an (aV rfl (aj (aZ _ _ rfl rfl (bJ ab)) ?_)))
   refine bc rfl (aI (⟨k+1,?_,?_,?_⟩))
   ·exact ⟨by omega,iz hnt ab hc17⟩
   ·skip
    refine Le.mkJ [] [] rfl ?_ ?_ trivial trivial ?_
    ·exact ⟨(iS rfl),(iV rfl),(cd ag),trivial⟩
    ·exact trivial
    ·kernel_rfl
   ·omega
 ·skip
  have hall:t∉l:=by rwa [List.take_of_length_le ab] at hnt
  refine bI (id (hK2 _ ?_))
  clear hK2;try clear K2
  refine am (ce rfl (ai (aE (aW (.inr rfl) rfl (.tmp (rfl:_=AV.v (.bool _))) (Le.out [] [] (gy ?_) rfl rfl rfl trivial trivial)))))
  exact decide_eq_false hall
theorem oE (s:Tx) (at_:Nat) (h1:s.length≤100000) (ha:at_≤s.length):Spec Tryz.prog 194 (bf [.v (bt s), .v (.int .i64 (at_:Int))] []) (aL (.v (.int .i64 (iE s at_ false:Int))) []):=by
 refine Spec.ofN Tryz.func194 rfl Tryz.ntmps194 rfl ?_
 refine am (bc rfl (ai (aT fun K2 hK2=> ?_)))
 refine au ?_
 refine bv (α:=Nat) (fun k=> k≤s.length∧iE s k false=iE s at_ false) 41 [(0,_)] [] (fun k=> [(1, .v (.int .i64 (k:Int)))]) (fun k=> []) [] [] (fun k=> s.length - k) at_ ?_ (by
  refine Le.mkJ [] [] rfl ?_ ?_ trivial trivial ?_
  ·exact ⟨(iV rfl),(cd ag),trivial⟩
  ·exact trivial
  ·kernel_rfl) ?_
 ·exact ⟨ha,rfl⟩
 intro k hk
 obtain ⟨hk,hs⟩:=hk
 refine aT fun K3 hK3=> ?_
 refine am (aV rfl (dv rfl (aj (fH _ Tryz.underlying9 rfl) (aj (bo _ _ rfl rfl rfl) (ai (aP rfl (fun hc9=> ?_) (fun hc9=> ?_)))))))
 ·skip
  obtain ⟨b,hb⟩:=hZ (s:=s) (a:=k) ab
  have hbi:=IB b
  refine bA (hK3 _ ?_)
  clear hK3;try clear K3
  refine au (am (dv rfl (aV rfl (aj (jp _ _ Tryz.underlying9 rfl rfl (by assumption)) ?_))))
  refine bc rfl (ai (am (aV rfl (aj (bH _ _ rfl rfl rfl) (ai (aP rfl (fun hc14=> ?_) (fun hc14=> ?_)))))))
  ·skip
   have hs:=(wv hb ab).symm.trans hs
   refine au ?_
   refine bv (α:=Nat) (fun j=> k≤j∧j≤s.length∧iE s j true=iE s at_ false∧(j=k→j < s.length)) 41 [(0,_)] [] (fun j=> [(1, .v (.int .i64 (j:Int)))]) (fun j=> []) [] [] (fun j=> s.length - j) k ?_ (by
    refine Le.mkJ [] [] rfl ?_ ?_ trivial trivial ?_
    ·exact ⟨(iV rfl),(cd ag),trivial⟩
    ·exact trivial
    ·kernel_rfl) ?_
   ·exact ⟨Nat.le_refl _,by omega,hs,fun _=> by omega⟩
   intro j hj
   obtain ⟨hj1,hj2,hsj,hjk⟩:=hj
   refine aT fun K7 hK7=> ?_
   refine aT fun K8 hK8=> ?_
   refine an (aV rfl (dv rfl (aj (fH _ Tryz.underlying9 rfl) (aj (bo _ _ rfl rfl rfl) (cE rfl (dw (fun hg19=> ?_) (fun hg19=> ?_)))))))
   ·skip
    obtain ⟨u,hu⟩:=hZ (s:=s) (a:=j) ab
    have hui:=IB u
    refine ax rfl rfl (aH _ (rfl:_=AV.v (.string _))) (ax rfl rfl (aH _ (rfl:_=AV.v (.int _ _))) (ax rfl rfl (jp _ _ Tryz.underlying9 rfl rfl (by assumption)) ?_))
    refine ax rfl rfl (bY _ _ rfl rfl rfl) (aj (az _ _ _ rfl (rfl:_=AV.v (.bool _))) (aI (hK8 _ ?_)))
    clear hK8;try clear K8
    refine aP rfl (fun hc24=> ?_) (fun hc24=> ?_)
    ·skip
     refine bA (hK7 _ ?_)
     clear hK7;try clear K7
     refine au (an (aV rfl (aj (aZ _ _ rfl rfl (bJ ab)) ?_)))
     refine bc rfl (aI (⟨j+1,?_,?_,?_⟩))
     ·exact ⟨by omega,by omega,(Bd hu ab).symm.trans hsj,fun _=> by omega⟩
     ·skip
      refine Le.mkJ [] [] rfl ?_ ?_ trivial trivial ?_
      ·exact ⟨(iV rfl),(cd ag),trivial⟩
      ·exact trivial
      ·kernel_rfl
     ·omega
    ·skip
     have hjs:iE s j false=iE s at_ false:=by rw [← hsj,AB hu ab]
     have hjk':k < j:=Nat.lt_of_le_of_ne hj1 fun e=> by subst e;rw [hb] at hu;obtain rfl:=Option.some.inj hu;omega
     refine bI (id (⟨j,?_,?_,?_⟩))
     ·exact ⟨hj2,hjs⟩
     ·skip
      refine Le.mkJ [] [] rfl ?_ ?_ trivial trivial ?_
      ·exact ⟨(iV rfl),(cd ag),trivial⟩
      ·exact trivial
      ·kernel_rfl
     ·omega
   ·skip
    have hjs:iE s j false=iE s at_ false:=by rw [← hsj,pd ab,pd ab]
    have hjk':k < j:=Nat.lt_of_le_of_ne hj1 fun e=> by have:=hjk e.symm;omega
    refine aN rfl rfl ah ?_
    refine aN rfl rfl ah ?_
    refine aN rfl rfl ah ?_
    refine aN rfl rfl ah ?_
    refine aj (az _ _ _ rfl (rfl:_=AV.v (.bool _))) (aI (hK8 _ ?_))
    clear hK8;try clear K8
    refine aS rfl rfl (bI (id (⟨j,?_,?_,?_⟩)))
    ·exact ⟨hj2,hjs⟩
    ·skip
     refine Le.mkJ [] [] rfl ?_ ?_ trivial trivial ?_
     ·exact ⟨(iV rfl),(cd ag),trivial⟩
     ·exact trivial
     ·kernel_rfl
    ·omega
  ·skip
   refine am (aV rfl (aj (bH _ _ rfl rfl rfl) (cE rfl (dw (fun hg29=> ?_) (fun hg29=> ?_)))))
   ·skip
    have hs2:iE s (k+1) false=iE s at_ false:=(rK hb ab ab).symm.trans hs
    refine aN rfl rfl ah ?_
    refine aN rfl rfl ah ?_
    refine aj (az _ _ _ rfl (rfl:_=AV.v (.bool _))) (cE rfl (aN rfl rfl ah ?_))
    refine aN rfl rfl ah ?_
    refine aj (az _ _ _ rfl (rfl:_=AV.v (.bool _))) (ai (bR rfl rfl ?_))
    refine aQ (σ':=aA 41 [(0,_),(1,_)] [] [] []) kp ?_
    refine an (aV rfl (aj (aZ _ _ rfl rfl (bJ ab)) ?_))
    refine bc rfl (aI (⟨k+1,?_,?_,?_⟩))
    ·exact ⟨by omega,hs2⟩
    ·skip
     refine Le.mkJ [] [] rfl ?_ ?_ trivial trivial ?_
     ·exact ⟨(iV rfl),(cd ag),trivial⟩
     ·exact trivial
     ·kernel_rfl
    ·omega
   ·skip
    refine ax rfl rfl (aH _ (rfl:_=AV.v (.int _ _))) (ax rfl rfl (bH _ _ rfl rfl rfl) (aj (az _ _ _ rfl (rfl:_=AV.v (.bool _))) (cE rfl (dw (fun hg33=> ?_) (fun hg33=> ?_)))))
    ·skip
     have hs2:iE s (k+1) false=iE s at_ false:=(rK hb ab ab).symm.trans hs
     refine aN rfl rfl ah ?_
     refine aN rfl rfl ah ?_
     refine aj (az _ _ _ rfl (rfl:_=AV.v (.bool _))) (ai (bR rfl rfl ?_))
     refine aQ (σ':=aA 41 [(0,_),(1,_)] [] [] []) kp ?_
     refine an (aV rfl (aj (aZ _ _ rfl rfl (bJ ab)) ?_))
     refine bc rfl (aI (⟨k+1,?_,?_,?_⟩))
     ·exact ⟨by omega,hs2⟩
     ·skip
      refine Le.mkJ [] [] rfl ?_ ?_ trivial trivial ?_
      ·exact ⟨(iV rfl),(cd ag),trivial⟩
      ·exact trivial
      ·kernel_rfl
     ·omega
    ·skip
     refine ax rfl rfl (aH _ (rfl:_=AV.v (.int _ _))) (ax rfl rfl (bH _ _ rfl rfl rfl) (aj (az _ _ _ rfl (rfl:_=AV.v (.bool _))) (ai (aP rfl (fun hc36=> ?_) (fun hc36=> ?_)))))
     ·skip
      have hs2:iE s (k+1) false=iE s at_ false:=(rK hb ab ab).symm.trans hs
      refine aQ (σ':=aA 41 [(0,_),(1,_)] [] [] []) kp ?_
      refine an (aV rfl (aj (aZ _ _ rfl rfl (bJ ab)) ?_))
      refine bc rfl (aI (⟨k+1,?_,?_,?_⟩))
      ·exact ⟨by omega,hs2⟩
      ·skip
       refine Le.mkJ [] [] rfl ?_ ?_ trivial trivial ?_
       ·exact ⟨(iV rfl),(cd ag),trivial⟩
       ·exact trivial
       ·kernel_rfl
      ·omega
     ·skip
      have hs3:=(xK hb ab ab).symm.trans hs
      refine aq ?_
      refine aQ (σ':=aA 41 [(1,_)] [] [] []) kp ?_
      refine an (aV rfl (bc rfl (ai (aE (aW (.inr rfl) rfl (.tmp (rfl:_=AV.v (.int _ _))) (Le.out [] [] (cd ?_) rfl rfl rfl trivial trivial))))))
      rw [hs3]
 ·skip
  refine bI (id (hK2 _ ?_))
  clear hK2;try clear K2
  refine am (aV rfl (bc rfl (ai (aE (aW (.inr rfl) rfl (.tmp (rfl:_=AV.v (.int _ _))) (Le.out [] [] (cd ?_) rfl rfl rfl trivial trivial))))))
  rw [← hs,pd ab]
theorem nh (s:Tx) (h1:s.length≤100000) (hd: ∀ b∈s,eZ b=true) (hv:iO s≤2147483647):Spec Tryz.prog 223 (bf [.v (bt s)] []) (aL (.v (.int .i64 (iO s:Int))) []):=by
 have hvt:=fun i=> uk s i
 refine Spec.ofN Tryz.func223 rfl Tryz.ntmps223 rfl ?_
 refine am (bc rfl (ai (am (bc rfl (ai (aT fun K3 hK3=> ?_))))))
 refine am (bc rfl (ai (au ?_)))
 refine bv (α:=Nat) (fun k=> k≤s.length) 22 [(0,_)] [] (fun k=> [(3, .v (.int .i64 (iO (s.take k):Int))),(4, .v (.int .i64 (k:Int)))]) (fun k=> []) [] [] (fun k=> s.length - k) 0 ?_ (by
  refine Le.mkJ [] [] rfl ?_ ?_ trivial trivial ?_
  ·exact ⟨(iV rfl),(cd ag),(cd ag),trivial⟩
  ·exact trivial
  ·kernel_rfl) ?_
 ·omega
 intro k hk
 refine aT fun K5 hK5=> ?_
 refine am (aV rfl (dv rfl (aj (fH _ Tryz.underlying9 rfl) (aj (bo _ _ rfl rfl rfl) (ai (aP rfl (fun hc8=> ?_) (fun hc8=> ?_)))))))
 ·skip
  obtain ⟨b,hb⟩:=hZ (s:=s) (a:=k) ab
  have hbi:=IB b
  have hbd:=(qt b).1 (hd b (List.mem_of_getElem? hb))
  have hvs:=uq hb
  have hv0:=hvt k
  have hv1:=hvt (k+1)
  have hvi:(10:Int)*(iO (s.take k):Int)+(b.toNat:Int) - 48=(iO (s.take (k+1)):Int):=by omega
  refine bA (hK5 _ ?_)
  clear hK5;try clear K5
  refine aq (au (am (aV rfl (aj (pz _ _ rfl rfl (bJ ab)) ?_))))
  refine dv rfl (aV rfl (aj (jp _ _ Tryz.underlying9 rfl rfl (by assumption)) ?_))
  refine aj (xP _ Tryz.underlying5 Tryz.underlying3 rfl (bJ ab)) ?_
  refine aj (aZ _ _ rfl rfl (bJ ab)) ?_
  refine aj (gK _ _ rfl rfl (bJ ab)) ?_
  refine bc rfl (ai (am (aV rfl (aj (gj _ _ rfl rfl rfl) (ai (aS rfl (decide_eq_false ab) ?_))))))
  refine cf ?_
  refine aQ (σ':=aA 22 [(0,_),(3,_),(4,_)] [] [] []) kp ?_
  refine an (aV rfl (aj (aZ _ _ rfl rfl (bJ ab)) ?_))
  refine bc rfl (aI (⟨k+1,?_,?_,?_⟩))
  ·omega
  ·skip
   refine Le.mkJ [] [] rfl ?_ ?_ trivial trivial ?_
   ·exact ⟨(iV rfl),(cd ab),(cd ag),trivial⟩
   ·exact trivial
   ·kernel_rfl
  ·omega
 ·skip
  have he:s.take k=s:=List.take_of_length_le ab
  refine bI (id (hK3 _ ?_))
  clear hK3;try clear K3
  refine am (aV rfl (bc rfl (ai (aE (aW (.inr rfl) rfl (.tmp (rfl:_=AV.v (.int _ _))) (Le.out [] [] (cd ?_) rfl rfl rfl trivial trivial))))))
  rw [he]

theorem wF {p:UInt8→Bool} {c:UInt8}: ∀ {l:List UInt8},c∈l.takeWhile p→p c=true
 | [],h=> by simp at h
 | x::l,h=> by
  rw [List.takeWhile_cons] at h
  split at h
  ·rename_i hx
   rcases List.mem_cons.1 h with rfl | h
   ·exact hx
   ·exact wF h
  ·simp at h
def qj (c:UInt8):Bool:=lm c || eZ c
theorem oa {s:Tx} {a:Nat} {b:UInt8} {t:Tk} (hb:s[a]? =some b) (h1:lm b=true) (h:nR (s.drop a) a=some t):jx qj s (a+1) - a≤10∧t=⟨1,a,(s.drop a).take (jx qj s (a+1) - a),0⟩:=by
 rw [qa hb]
 rw [eM hb,nR] at h
 simp only [h1,if_true] at h
 rw [show jx qj s (a+1) - a=(b::(s.drop (a+1)).takeWhile fun x=> lm x || eZ x).length by unfold jx qj;rw [List.length_cons];omega]
 split at h
 ·cases h
 ·rename_i hl;exact ⟨by omega,(Option.some.inj h).symm⟩
theorem qN {s:Tx} {a:Nat} {b:UInt8} {t:Tk} (hb:s[a]? =some b) (h1:lm b=false) (h2:eZ b=true) (h:nR (s.drop a) a=some t):
  (∀ c∈(s.drop a).take (jx eZ s (a+1) - a),eZ c=true)∧iO ((s.drop a).take (jx eZ s (a+1) - a))≤2147483647∧t=⟨2,a,(s.drop a).take (jx eZ s (a+1) - a),iO ((s.drop a).take (jx eZ s (a+1) - a))⟩:=by
 rw [qa hb]
 rw [eM hb,nR] at h
 simp only [h1,h2,if_true] at h
 simp only [Bool.false_eq_true,if_false] at h
 split at h
 ·cases h
 ·rename_i hl
  refine ⟨fun c hc=> ?_,by omega,(Option.some.inj h).symm⟩
  rcases List.mem_cons.1 hc with rfl | hc
  ·exact h2
  ·exact wF hc
theorem qv {s:Tx} {a:Nat} {b:UInt8} {t:Tk} (hb:s[a]? =some b) (h1:lm b=false) (h2:eZ b=false) (h:nR (s.drop a) a=some t):
  ((s.drop a).take 2∈zb∧t=⟨3,a,(s.drop a).take 2,0⟩)∨((s.drop a).take 2∉zb∧(s.drop a).take 1∈BN∧t=⟨3,a,(s.drop a).take 1,0⟩):=by
 rw [eM hb,nR] at h
 simp only [h1,h2,Bool.false_eq_true,if_false] at h
 rw [eM hb]
 split at h
 ·rename_i hm;exact .inl ⟨hm,(Option.some.inj h).symm⟩
 ·rename_i hm
  split at h
  ·rename_i hs;exact .inr ⟨hm,hs,(Option.some.inj h).symm⟩
  ·cases h
theorem tT {s:Tx} {a:Nat} (h:a < s.length):(s.drop a).take (min (a+2) s.length - a)=(s.drop a).take 2:=by
 by_cases h2:a+2≤s.length
 ·congr 1;omega
 ·rw [List.take_of_length_le (by rw [List.length_drop];omega),List.take_of_length_le (by rw [List.length_drop];omega)]
theorem rC (s:Tx) (a:Nat) (h1:s.length≤100000) (ha:a < s.length) (t:Tk) (ht:nR (s.drop a) a=some t):
  Spec Tryz.prog 195 (bf [.v (bt s), .v (.int .i64 (a:Int))] []) (aL (.tup [.agg [.v (.int .i64 (t.k:Int)), .v (.int .i64 (t.a:Int)), .v (bt t.t), .v (.int .i64 (t.n:Int))], .v (.int .i64 0)]) []):=by
 obtain ⟨b,hb⟩:=hZ ha
 have hwl:=pa (p:=qj) (s:=s) (a:=a+1) ab
 have hdl:=pa (p:=eZ) (s:=s) (a:=a+1) ab
 refine Spec.ofN Tryz.func195 rfl Tryz.ntmps195 rfl ?_
 refine am (aj (aR (4,0) aa rfl rfl) (bc rfl (ai (am (aV rfl (aj (aZ _ _ rfl rfl (bJ ab)) ?_))))))
 refine bc rfl (ai (aq (am (dv rfl (aV rfl (aj (jp _ _ Tryz.underlying9 rfl rfl (by assumption)) ?_))))))
 refine aj (aC aa al (lO b) rfl rfl) ?_
 refine ai (aP rfl (fun hc15=> ?_) (fun hc15=> ?_))
 ·skip
  obtain ⟨htl,hte⟩:=oa hb hc15 ht
  refine aT fun K5 hK5=> ?_
  refine au ?_
  refine bv (α:=Nat) (fun e=> a+1≤e∧e≤s.length∧jx qj s e=jx qj s (a+1)) 101 [(0,_),(1,_),(4,_)] [((4,0),_)] (fun e=> [(6, .v (.int .i64 (e:Int)))]) (fun e=> []) [] [] (fun e=> s.length - e) (a+1) ?_ (by
   refine Le.mkJ [] [] rfl ?_ ?_ trivial trivial ?_
   ·exact ⟨(iV rfl),(iV rfl),(iP rfl),(cd ag),trivial⟩
   ·exact ⟨(cH rfl rfl rfl),trivial⟩
   ·kernel_rfl) ?_
  ·exact ⟨Nat.le_refl _,by omega,rfl⟩
  intro e he
  obtain ⟨he1,he2,het⟩:=he
  refine aT fun K6 hK6=> ?_
  refine aT fun K7 hK7=> ?_
  refine an (aV rfl (dv rfl (aj (fH _ Tryz.underlying9 rfl) (aj (bo _ _ rfl rfl rfl) (cE rfl (dw (fun hg20=> ?_) (fun hg20=> ?_)))))))
  ·skip
   obtain ⟨u,hu⟩:=hZ (s:=s) (a:=e) ab
   refine ax rfl rfl (aH _ (rfl:_=AV.v (.string _))) (ax rfl rfl (aH _ (rfl:_=AV.v (.int _ _))) (ax rfl rfl (jp _ _ Tryz.underlying9 rfl rfl (by assumption)) ?_))
   refine ax rfl rfl (aC aa al (lO u) rfl rfl) ?_
   refine ax rfl rfl (aH _ (rfl:_=AV.v (.bool _))) (dw (fun hg25=> ?_) (fun hg25=> ?_))
   ·skip
    have hnx:jx qj s (e+1)=jx qj s (a+1):=(oU hu (by unfold qj;rw [hg25];rfl)).symm.trans het
    refine aN rfl rfl ah ?_
    refine aN rfl rfl ah ?_
    refine aN rfl rfl ah ?_
    refine aN rfl rfl ah ?_
    refine ax rfl rfl (az _ _ _ rfl (rfl:_=AV.v (.bool _))) (aj (az _ _ _ rfl (rfl:_=AV.v (.bool _))) (aI (hK7 _ ?_)))
    clear hK7;try clear K7
    refine bR rfl rfl (bA (hK6 _ ?_))
    clear hK6;try clear K6
    refine au ?_
    refine aQ (σ':=aA 101 [(0,_),(1,_),(4,_),(6,_)] [((4,0),_)] [] []) kp ?_
    refine an (aV rfl (aj (aZ _ _ rfl rfl (bJ ab)) ?_))
    refine bc rfl (aI (⟨e+1,?_,?_,?_⟩))
    ·exact ⟨by omega,by omega,hnx⟩
    ·skip
     refine Le.mkJ [] [] rfl ?_ ?_ trivial trivial ?_
     ·exact ⟨(iV rfl),(iV rfl),(iP rfl),(cd ag),trivial⟩
     ·exact ⟨(cH rfl rfl rfl),trivial⟩
     ·kernel_rfl
    ·omega
   ·skip
    refine ax rfl rfl (aH _ (rfl:_=AV.v (.string _))) (ax rfl rfl (aH _ (rfl:_=AV.v (.int _ _))) (ax rfl rfl (jp _ _ Tryz.underlying9 rfl rfl (by assumption)) ?_))
    refine ax rfl rfl (aC aa al (kA u) rfl rfl) ?_
    refine ax rfl rfl (az _ _ _ rfl (rfl:_=AV.v (.bool _))) (aj (az _ _ _ rfl (rfl:_=AV.v (.bool _))) (aI (hK7 _ ?_)))
    clear hK7;try clear K7
    refine aP rfl (fun hc31=> ?_) (fun hc31=> ?_)
    ·skip
     have hnx:jx qj s (e+1)=jx qj s (a+1):=(oU hu (by unfold qj;rw [hg25,hc31];rfl)).symm.trans het
     refine bA (hK6 _ ?_)
     clear hK6;try clear K6
     refine au ?_
     refine aQ (σ':=aA 101 [(0,_),(1,_),(4,_),(6,_)] [((4,0),_)] [] []) kp ?_
     refine an (aV rfl (aj (aZ _ _ rfl rfl (bJ ab)) ?_))
     refine bc rfl (aI (⟨e+1,?_,?_,?_⟩))
     ·exact ⟨by omega,by omega,hnx⟩
     ·skip
      refine Le.mkJ [] [] rfl ?_ ?_ trivial trivial ?_
      ·exact ⟨(iV rfl),(iV rfl),(iP rfl),(cd ag),trivial⟩
      ·exact ⟨(cH rfl rfl rfl),trivial⟩
      ·kernel_rfl
     ·omega
    ·skip
     have hfin:e=jx qj s (a+1):=(vp hu (by unfold qj;rw [hg25,hc31];rfl)).symm.trans het
     refine bI (id (hK5 _ ?_))
     clear hK5;try clear K5
     refine aq (aq ?_)
     refine aQ (σ':=aA 101 [(0,_),(1,_),(4,_),(6,_)] [((4,0),_)] [] []) kp ?_
     refine an (aV rfl (aV rfl (aj (gK _ _ rfl rfl (bJ ab)) ?_)))
     refine aj (gj _ _ rfl rfl rfl) (ai (aS rfl (decide_eq_false ab) ?_))
     refine aO (am (aV rfl (dv rfl (aV rfl (aV rfl (aj (jk _ _ _ Tryz.underlying9 rfl _ _ (.lit rfl rfl) (.lit rfl rfl) ab ab rfl) ?_))))))
     refine aj (aF _ aa rfl (by exact (rfl:_=some [_,_,_,_]))) ?_
     refine cF rfl rfl rfl rfl rfl rfl (bc rfl (ai (aE ?_)))
     subst hte;subst hfin
     exact kJ (.inr rfl) rfl (.cellA aa rfl rfl rfl) (.tmp (rfl:_=AV.v _)) (Le.out [] [] (.tup rfl lz) rfl rfl rfl trivial trivial)
  ·skip
   have hfin:e=jx qj s (a+1):=(sf ab).symm.trans het
   refine aN rfl rfl ah ?_
   refine aN rfl rfl ah ?_
   refine aN rfl rfl ah ?_
   refine aN rfl rfl ah ?_
   refine aN rfl rfl ah ?_
   refine lQ rfl rfl (lQ rfl rfl (lQ rfl rfl (lQ rfl rfl (aN rfl rfl ah ?_))))
   refine aj (az _ _ _ rfl (rfl:_=AV.v (.bool _))) (aI (hK7 _ ?_))
   clear hK7;try clear K7
   refine aS rfl rfl (bI (id (hK5 _ ?_)))
   clear hK5;try clear K5
   refine aq (aq ?_)
   refine aQ (σ':=aA 101 [(0,_),(1,_),(4,_),(6,_)] [((4,0),_)] [] []) kp ?_
   refine an (aV rfl (aV rfl (aj (gK _ _ rfl rfl (bJ ab)) ?_)))
   refine aj (gj _ _ rfl rfl rfl) (ai (aS rfl (decide_eq_false ab) ?_))
   refine aO (am (aV rfl (dv rfl (aV rfl (aV rfl (aj (jk _ _ _ Tryz.underlying9 rfl _ _ (.lit rfl rfl) (.lit rfl rfl) ab ab rfl) ?_))))))
   refine aj (aF _ aa rfl (by exact (rfl:_=some [_,_,_,_]))) ?_
   refine cF rfl rfl rfl rfl rfl rfl (bc rfl (ai (aE ?_)))
   subst hte;subst hfin
   exact kJ (.inr rfl) rfl (.cellA aa rfl rfl rfl) (.tmp (rfl:_=AV.v _)) (Le.out [] [] (.tup rfl lz) rfl rfl rfl trivial trivial)
 ·skip
  have hlb:=hc15
  refine aO (aq (am (dv rfl (aV rfl (aj (jp _ _ Tryz.underlying9 rfl rfl (by assumption)) ?_)))))
  refine aj (aC aa al (kA b) rfl rfl) ?_
  refine ai (aP rfl (fun hc48=> ?_) (fun hc48=> ?_))
  ·skip
   obtain ⟨htd,htv,hte⟩:=qN hb hlb hc48 ht
   refine aT fun K16 hK16=> ?_
   refine au ?_
   refine bv (α:=Nat) (fun e=> a+1≤e∧e≤s.length∧jx eZ s e=jx eZ s (a+1)) 101 [(0,_),(1,_),(4,_)] [((4,0),_)] (fun e=> [(6, .v (.int .i64 (e:Int)))]) (fun e=> []) [] [] (fun e=> s.length - e) (a+1) ?_ (by
    refine Le.mkJ [] [] rfl ?_ ?_ trivial trivial ?_
    ·exact ⟨(iV rfl),(iV rfl),(iP rfl),(cd ag),trivial⟩
    ·exact ⟨(cH rfl rfl rfl),trivial⟩
    ·kernel_rfl) ?_
   ·exact ⟨Nat.le_refl _,by omega,rfl⟩
   intro e he
   obtain ⟨he1,he2,het⟩:=he
   refine aT fun K17 hK17=> ?_
   refine aT fun K18 hK18=> ?_
   refine an (aV rfl (dv rfl (aj (fH _ Tryz.underlying9 rfl) (aj (bo _ _ rfl rfl rfl) (cE rfl (dw (fun hg53=> ?_) (fun hg53=> ?_)))))))
   ·skip
    obtain ⟨u,hu⟩:=hZ (s:=s) (a:=e) ab
    refine ax rfl rfl (aH _ (rfl:_=AV.v (.string _))) (ax rfl rfl (aH _ (rfl:_=AV.v (.int _ _))) (ax rfl rfl (jp _ _ Tryz.underlying9 rfl rfl (by assumption)) ?_))
    refine ax rfl rfl (aC aa al (kA u) rfl rfl) ?_
    refine aj (az _ _ _ rfl (rfl:_=AV.v (.bool _))) (aI (hK18 _ ?_))
    clear hK18;try clear K18
    refine aP rfl (fun hc58=> ?_) (fun hc58=> ?_)
    ·skip
     have hnx:jx eZ s (e+1)=jx eZ s (a+1):=(oU hu hc58).symm.trans het
     refine bA (hK17 _ ?_)
     clear hK17;try clear K17
     refine au (an (aV rfl (aj (aZ _ _ rfl rfl (bJ ab)) ?_)))
     refine bc rfl (aI (⟨e+1,?_,?_,?_⟩))
     ·exact ⟨by omega,by omega,hnx⟩
     ·skip
      refine Le.mkJ [] [] rfl ?_ ?_ trivial trivial ?_
      ·exact ⟨(iV rfl),(iV rfl),(iP rfl),(cd ag),trivial⟩
      ·exact ⟨(cH rfl rfl rfl),trivial⟩
      ·kernel_rfl
     ·omega
    ·skip
     have hfin:e=jx eZ s (a+1):=(vp hu hc58).symm.trans het
     refine bI (id (hK16 _ ?_))
     clear hK16;try clear K16
     refine am (dv rfl (aV rfl (aV rfl (aj (jk _ _ _ Tryz.underlying9 rfl _ _ (.lit rfl rfl) (.lit rfl rfl) ab ab rfl) ?_))))
     refine aj (aC aa al (nh ((s.drop a).take (e - a)) (by simp;omega) (by rw [hfin];exact htd) (by rw [hfin];exact htv)) rfl rfl) ?_
     refine bc rfl (ai (aq (aq ?_)))
     refine aQ (σ':=aA 101 [(0,_),(1,_),(4,_),(6,_),(7,_)] [((4,0),_)] [] []) kp ?_
     refine an (aV rfl (aj (bo _ _ rfl rfl rfl) (ai (aS rfl (decide_eq_false ab) ?_))))
     refine aO (am (aV rfl (dv rfl (aV rfl (aV rfl (aj (jk _ _ _ Tryz.underlying9 rfl _ _ (.lit rfl rfl) (.lit rfl rfl) ab ab rfl) ?_))))))
     refine aV rfl (aj (aF _ aa rfl (by exact (rfl:_=some [_,_,_,_]))) ?_)
     refine cF rfl rfl rfl rfl rfl rfl (bc rfl (ai (aE ?_)))
     subst hte;subst hfin
     exact kJ (.inr rfl) rfl (.cellA aa rfl rfl rfl) (.tmp (rfl:_=AV.v _)) (Le.out [] [] (.tup rfl lz) rfl rfl rfl trivial trivial)
   ·skip
    have hfin:e=jx eZ s (a+1):=(sf ab).symm.trans het
    refine aN rfl rfl ah ?_
    refine aN rfl rfl ah ?_
    refine aN rfl rfl ah ?_
    refine aN rfl rfl ah ?_
    refine aj (az _ _ _ rfl (rfl:_=AV.v (.bool _))) (aI (hK18 _ ?_))
    clear hK18;try clear K18
    refine aS rfl rfl (bI (id (hK16 _ ?_)))
    clear hK16;try clear K16
    refine am (dv rfl (aV rfl (aV rfl (aj (jk _ _ _ Tryz.underlying9 rfl _ _ (.lit rfl rfl) (.lit rfl rfl) ab ab rfl) ?_))))
    refine aj (aC aa al (nh ((s.drop a).take (e - a)) (by simp;omega) (by rw [hfin];exact htd) (by rw [hfin];exact htv)) rfl rfl) ?_
    refine bc rfl (ai (aq (aq ?_)))
    refine aQ (σ':=aA 101 [(0,_),(1,_),(4,_),(6,_),(7,_)] [((4,0),_)] [] []) kp ?_
    refine an (aV rfl (aj (bo _ _ rfl rfl rfl) (ai (aS rfl (decide_eq_false ab) ?_))))
    refine aO (am (aV rfl (dv rfl (aV rfl (aV rfl (aj (jk _ _ _ Tryz.underlying9 rfl _ _ (.lit rfl rfl) (.lit rfl rfl) ab ab rfl) ?_))))))
    refine aV rfl (aj (aF _ aa rfl (by exact (rfl:_=some [_,_,_,_]))) ?_)
    refine cF rfl rfl rfl rfl rfl rfl (bc rfl (ai (aE ?_)))
    subst hte;subst hfin
    exact kJ (.inr rfl) rfl (.cellA aa rfl rfl rfl) (.tmp (rfl:_=AV.v _)) (Le.out [] [] (.tup rfl lz) rfl rfl rfl trivial trivial)
  ·skip
   have hsy:=qv hb hlb hc48 ht
   refine aO (am (dv rfl (aV rfl (aV rfl (aj (aZ _ _ rfl rfl (bJ ab)) ?_)))))
   refine dv rfl (aj (fH _ Tryz.underlying9 rfl) (aj (qX _ _ rfl rfl rfl) (aj (jk _ _ _ Tryz.underlying9 rfl a (min (a+2) s.length) (.lit rfl rfl) (.lit rfl ab) ab ab (tT ha)) ?_)))
   refine mi rfl (ai (aq (aq ?_)))
   refine aQ (σ':=aA 101 [(0,_),(1,_),(4,_),(6,_),(8,_)] [((4,0),_)] [] []) kp ?_
   refine an (aj (bi _ _ aa rfl ag (by (simp <;> rfl)) ah rfl) ?_)
   refine dv rfl (aj (aC aa al (mO zb 6 rfl ab ((s.drop a).take 2)) rfl rfl) ?_)
   refine ai (aP rfl (fun hc86=> ?_) (fun hc86=> ?_))
   ·skip
    have hte:t=⟨3,a,(s.drop a).take 2,0⟩:=hsy.elim (·.2) fun h=> absurd hc86 h.1
    refine am (aV rfl (dv rfl (aj (aF _ aa rfl (by exact (rfl:_=some [_,_,_,_]))) ?_)))
    refine cF rfl rfl rfl rfl rfl rfl (bc rfl (ai (aE ?_)))
    subst hte
    exact kJ (.inr rfl) rfl (.cellA aa rfl rfl rfl) (.tmp (rfl:_=AV.v _)) (Le.out [] [] (.tup rfl lz) rfl rfl rfl trivial trivial)
   ·skip
    obtain ⟨_,hs1,hte⟩:=hsy.resolve_left fun h=> hc86 h.1
    refine aO (am (dv rfl (aV rfl (aV rfl (aj (jk _ _ _ Tryz.underlying9 rfl a (a+1) (.lit rfl rfl) (.lit rfl rfl) ab ab (by rw [Nat.add_sub_cancel_left])) ?_)))))
    refine mi rfl (ai (aq (am (aj (bi _ _ aa rfl ag (by (simp <;> rfl)) ah rfl) ?_))))
    refine dv rfl (aj (aC aa al (mO BN 16 rfl ab ((s.drop a).take 1)) rfl rfl) ?_)
    refine ai (bR rfl (decide_eq_true hs1) ?_)
    refine am (aV rfl (dv rfl (aj (aF _ aa rfl (by exact (rfl:_=some [_,_,_,_]))) ?_)))
    refine cF rfl rfl rfl rfl rfl rfl (bc rfl (ai (aE ?_)))
    subst hte
    exact kJ (.inr rfl) rfl (.cellA aa rfl rfl rfl) (.tmp (rfl:_=AV.v _)) (Le.out [] [] (.tup rfl lz) rfl rfl rfl trivial trivial)
theorem kz {f:Nat} {s:Tx} {a:Nat} {l:List Tk} (h:lc (f+1) s a=some l):(s.length≤a∧l=[⟨0,s.length,[],0⟩])∨(a < s.length∧ ∃ t m,nR (s.drop a) a=some t∧lc f s (iE s (a+t.t.length) false)=some m∧l=t::m):=by
 unfold lc at h
 split at h
 ·exact .inl ⟨by assumption,(Option.some.inj h).symm⟩
 ·split at h
  ·cases h
  ·split at h
   ·cases h
   ·rename_i t ht _ m hm
    exact .inr ⟨by omega,t,m,ht,hm,(Option.some.inj h).symm⟩
theorem pT {s:Tx} {a:Nat} {t:Tk} (ha:a < s.length) (h:nR (s.drop a) a=some t):0 < t.t.length∧a+t.t.length≤s.length:=by
 obtain ⟨b,hb⟩:=hZ ha
 have key: ∀ k,0 < k→0 < ((s.drop a).take k).length∧a+((s.drop a).take k).length≤s.length:=fun k hk=> by rw [List.length_take,List.length_drop];omega
 cases h1:lm b with
 | true=> obtain ⟨_,rfl⟩:=oa hb h1 h;exact key _ (by have:=pa (p:=qj) (s:=s) (a:=a+1) ab;omega)
 | false=>
  cases h2:eZ b with
  | true=> obtain ⟨_,_,rfl⟩:=qN hb h1 h2 h;exact key _ (by have:=pa (p:=eZ) (s:=s) (a:=a+1) ab;omega)
  | false=>
   rcases qv hb h1 h2 h with ⟨_,rfl⟩ | ⟨_,_,rfl⟩
   ·exact key _ ab
   ·exact key _ ab
def BI (s:Tx) (l:List Tk) (z:Nat×List Tk):Prop:=z.1≤s.length∧z.2.length≤z.1∧ ∃ f m,lc f s z.1=some m∧l=z.2++m
theorem qh (s:Tx) (h1:s.length≤100000) (l:List Tk) (hl:ya s=some l):
  Spec Tryz.prog 159 (bf [.v (bt s)] []) (aL (.tup [.sl l.length (pi l), .v (.int .i64 0), .v (.int .i64 0)]) []):=by
 have hs0:=rR (s:=s) (a:=0) (Nat.zero_le _) false
 refine Spec.ofN Tryz.func159 rfl Tryz.ntmps159 rfl ?_
 refine am (aj (bB _ (rfl:_=AV.v (.slice _ _ _))) (bc rfl (bc rfl (ai (am (aj (pk (5,0) _ 225 4 rfl rfl) ?_))))))
 refine ai (am (dv rfl (aj (aC aa al (oE s 0 h1 (Nat.zero_le _)) rfl rfl) ?_)))
 refine bc rfl (ai (aT fun K4 hK4=> ?_))
 refine au ?_
 refine bv (α:=Nat×List Tk) (fun z=> BI s l z) 42 [(0,_)] [] (fun z=> [(6, .v (.int .i64 (z.1:Int))),(5, .ref (5,0) 0 z.2.length)]) (fun z=> [((5,0), .row 225 4 (pi z.2))]) [] [] (fun z=> s.length - z.1) (iE s 0 false,[]) ?_ (by
  refine Le.mkJ [] [] rfl ?_ ?_ trivial trivial ?_
  ·exact ⟨(iV rfl),(cd ag),(cY rfl ag),trivial⟩
  ·exact ⟨(gJ rfl rfl rfl ag),trivial⟩
  ·kernel_rfl) ?_
 ·exact ⟨hs0.2,Nat.zero_le _,s.length+1,l,by rw [← hl];unfold ya iE;rw [List.drop_zero,Nat.zero_add],rfl⟩
 intro z hz
 obtain ⟨hz1,hz2,f,m,hf,hlm⟩:=hz
 obtain ⟨f,rfl⟩: ∃ g,f=g+1:=by cases f with | zero=> (simp [lc] at hf) | succ g=> exact ⟨g,rfl⟩
 refine aT fun K5 hK5=> ?_
 refine am (aV rfl (dv rfl (aj (fH _ Tryz.underlying9 rfl) (aj (bo _ _ rfl rfl rfl) (ai (aP rfl (fun hc14=> ?_) (fun hc14=> ?_)))))))
 ·skip
  obtain ⟨_,t,m',ht,hm',hm⟩:=(kz hf).resolve_left fun h=> by omega
  obtain ⟨htl,hta⟩:=pT ab ht
  have hsk:=rR (s:=s) (a:=z.1+t.t.length) hta false
  have hlen:(z.2++[t]).length=z.2.length+1:=by simp
  refine bA (hK5 _ ?_)
  clear hK5;try clear K5
  refine au (am (dv rfl (aV rfl (aj (aC aa al (rC s z.1 h1 ab t ht) rfl rfl) ?_))))
  refine aj (aH _ (rfl:_=AV.tup _)) (aj (dl _ rfl (rfl:_=some (AV.agg _))) (aj (dl _ rfl (rfl:_=some (AV.v (.int _ _)))) (aj (aR (7,0) aa rfl rfl) (cF rfl rfl rfl rfl rfl rfl (bc rfl (ai (aq (am (aV rfl (aj (bY (r:=false) _ _ rfl rfl rfl) ?_))))))))))
  refine ai (aS rfl rfl (aO (aq ?_)))
  refine aQ (σ':=aA 42 [(0,_),(5,_),(6,_),(7,_)] [((5,0),_),((7,0),_)] [] []) kp ?_
  refine an (fW rfl (aj (aX _ aa rfl rfl rfl rfl) (aj (bi _ _ aa rfl ag (by (simp <;> rfl)) ah rfl) ?_)))
  refine aj (de (28,0) _ _ aa rfl rfl (bp _).symm (.sl rfl) ab rfl (qH _ _) hlen.symm) ?_
  refine eE rfl (ai (an (dv rfl (aV rfl (bu rfl rfl rfl (aj (aG _ aa rfl rfl (rfl:_=some (AV.v (.string _)))) (aj (fH _ Tryz.underlying9 rfl) (aj (aZ _ _ rfl rfl (bJ ab)) ?_))))))))
  refine aj (aC aa al (oE s (z.1+t.t.length) h1 hta) rfl rfl) ?_
  refine bc rfl (aI (⟨(iE s (z.1+t.t.length) false,z.2++[t]),?_,?_,?_⟩))
  ·exact ⟨hsk.2,by simp only;omega,f,m',hm',by rw [hlm,hm];simp⟩
  ·skip
   refine Le.mkJ [((5,0),(28,0))] [] rfl ?_ ?_ trivial trivial ?_
   ·exact ⟨(by repeat' (exact Lv.v)),(cd ag),(cY rfl ag),trivial⟩
   ·exact ⟨(gJ rfl rfl rfl ag),trivial⟩
   ·kernel_rfl
  ·simp only;omega
 ·skip
  obtain ⟨_,hm⟩:=(kz hf).resolve_right fun h=> by omega
  have hlen:(z.2++[(⟨0,s.length,[],0⟩:Tk)]).length=z.2.length+1:=by simp
  rw [hm] at hlm;subst hlm
  refine bI (id (hK4 _ ?_))
  clear hK4;try clear K4
  refine am (fW rfl (dv rfl (aj (fH _ Tryz.underlying9 rfl) (aj (aF _ aa rfl (by exact (rfl:_=some [_,_,_,_]))) ?_))))
  refine aj (bi _ _ aa rfl ag (by (simp <;> rfl)) ah rfl) ?_
  refine aj (de (41,0) _ _ aa rfl rfl (bp _).symm (.sl rfl) ab rfl (qH _ ⟨0,s.length,[],0⟩) hlen.symm) ?_
  exact eE rfl (bc rfl (bc rfl (ai (aE (yT (.inr rfl) rfl (.tmp (rfl:_=AV.ref _ _ _)) (.tmp (rfl:_=AV.v _)) (.tmp (rfl:_=AV.v _)) (Le.out [] [(41,0)] (.tup rfl (aB (iL rfl rfl (bp _).symm rfl) lz)) rfl rfl rfl tr trivial))))))

theorem ci (l:List Tx) (n:Nat) (hn:l.length=n) (h1:n≤1000) (t:Tx):Spec Tryz.prog 199 (bf [.sl n (ed l), .v (bt t)] []) (aL (.v (.bool (decide (t∈l)))) []):=by
 refine Spec.ofN Tryz.func199 rfl Tryz.ntmps199 rfl ?_
 refine am (ce rfl (ai (aT fun K2 hK2=> ?_)))
 refine am (bc rfl (ai (au ?_)))
 refine bv (α:=Nat) (fun k=> k≤n∧t∉l.take k) 18 [(0,_),(1,_)] [] (fun k=> [(5, .v (.int .i64 (k:Int)))]) (fun k=> []) [] [] (fun k=> n - k) 0 ?_ (by
  refine Le.mkJ [] [] rfl ?_ ?_ trivial trivial ?_
  ·exact ⟨(iS rfl),(iV rfl),(cd ag),trivial⟩
  ·exact trivial
  ·kernel_rfl) ?_
 ·exact ⟨Nat.zero_le _,by simp⟩
 intro k hk
 obtain ⟨hk,hnt⟩:=hk
 refine aT fun K4 hK4=> ?_
 refine am (aV rfl (eT rfl (aj (bD _ aa rfl) (aj (bo _ _ rfl rfl rfl) (ai (aP rfl (fun hc9=> ?_) (fun hc9=> ?_)))))))
 ·skip
  refine bA (hK4 _ ?_)
  clear hK4;try clear K4
  refine aq (au (am (eT rfl (aV rfl (aj (bl _ _ aa rfl rfl _ rfl ab (by (simp only [aU,bj,bh,bq,bp];omega)) (by exact Nat.mul_one _)) ?_)))))
  refine aj (bU _ aa rfl (by exact ik _ _ ab) rfl) ?_
  refine dv rfl (aj (aK _ _ Tryz.underlying9 rfl rfl rfl) (ai (aP rfl (fun hc17=> ?_) (fun hc17=> ?_))))
  ·skip
   refine am (ce rfl (ai (aE (aW (.inr rfl) rfl (.tmp (rfl:_=AV.v (.bool _))) (Le.out [] [] (gy ?_) rfl rfl rfl trivial trivial)))))
   exact decide_eq_true (hc17 ▸ gO ab)
  ·skip
   refine cf (an (aV rfl (aj (aZ _ _ rfl rfl (bJ ab)) ?_)))
   refine bc rfl (aI (⟨k+1,?_,?_,?_⟩))
   ·exact ⟨by omega,iz hnt ab hc17⟩
   ·skip
    refine Le.mkJ [] [] rfl ?_ ?_ trivial trivial ?_
    ·exact ⟨(iS rfl),(iV rfl),(cd ag),trivial⟩
    ·exact trivial
    ·kernel_rfl
   ·omega
 ·skip
  have hall:t∉l:=by rwa [List.take_of_length_le ab] at hnt
  refine bI (id (hK2 _ ?_))
  clear hK2;try clear K2
  refine am (ce rfl (ai (aE (aW (.inr rfl) rfl (.tmp (rfl:_=AV.v (.bool _))) (Le.out [] [] (gy ?_) rfl rfl rfl trivial trivial)))))
  exact decide_eq_false hall
theorem jU:Spec Tryz.prog 205 (bf [] []) (aL (.sl 9 (ed bltT)) []):=by
 refine Spec.ofN Tryz.func205 rfl Tryz.ntmps205 rfl ?_
 refine am (aj (bB _ (rfl:_=AV.v (.slice _ _ _))) (ai (am (aj (bi _ _ aa rfl ag (by (simp <;> rfl)) ah rfl) ?_))))
 exact jS rfl (ai (aE (aW (.inr rfl) rfl (.tmp (rfl:_=AV.sl _ _)) (Le.out [] [] .sl rfl rfl rfl trivial trivial))))
theorem jZ (t:Tx):Spec Tryz.prog 225 (bf [.v (bt t)] []) (aL (.v (.bool (rf t))) []):=by
 refine Spec.ofN Tryz.func225 rfl Tryz.ntmps225 rfl ?_
 refine am (ce rfl (ai (am (aj (aC aa (by repeat' (exact eP)) (jU) rfl rfl) ?_))))
 refine dv rfl (aj (aC aa al (ci bltT 9 rfl ab t) rfl rfl) ?_)
 refine cE rfl (dw (fun hg6=> ?_) (fun hg6=> ?_))
 ·skip
  refine aN rfl rfl ah ?_
  refine aN rfl rfl ah ?_
  refine aN rfl rfl ah ?_
  refine aj (az _ _ _ rfl (rfl:_=AV.v (.bool _))) (ce rfl (ai (aE (aW (.inr rfl) rfl (.tmp (rfl:_=AV.v (.bool _))) (Le.out [] [] (gy ?_) rfl rfl rfl trivial trivial)))))
  unfold rf
  (rw [decide_eq_true hg6];rfl)
 ·skip
  refine ax rfl rfl (bi _ _ aa rfl ag (by (simp <;> rfl)) ah rfl) ?_
  refine ax rfl rfl (aH _ (rfl:_=AV.v (.string _))) (ax rfl rfl (aC aa al (ci LR 19 rfl ab t) rfl rfl) ?_)
  refine aj (az _ _ _ rfl (rfl:_=AV.v (.bool _))) (ce rfl (ai (aE (aW (.inr rfl) rfl (.tmp (rfl:_=AV.v (.bool _))) (Le.out [] [] (gy ?_) rfl rfl rfl trivial trivial)))))
  unfold rf
  (rw [decide_eq_false hg6];rfl)
theorem dy {T:List Tk} {i:Nat} (h:i < T.length):bK T i < T.length:=by unfold bK;split <;> omega
abbrev dn (T:List Tk) (i:Nat) (N:List Tx):List (ay×Cells):=[((0,9), .box 222 [.sl T.length (pi T), .v (.int .i64 (i:Int)), .v (.int .i64 0), .v (.int .i64 0), .sl N.length (ed N)])]
theorem bL (T:List Tk) (i:Nat) (N:List Tx) (hi:i < T.length):
  Spec Tryz.prog 160 (aY [.ptr (0,9) 0] (dn T i N)) (be (.v (bt (cK T i).t)) (dn T i N) [(0,9)] [(0,9)]):=by
 refine Spec.ofNI Tryz.func160 rfl Tryz.ntmps160 rfl ?_
 refine am (mi rfl (ai (aq (bT 12 [3,4,5,6,7,8,9,10,11,12,13,2] [] ae ae rfl (aM rfl) (rfl:_=[_,_,_,_,_,_,_,_,_,_,_,_]) (rfl:_=[]) ?_))))
 refine ap (_,[]) (fun τ=> aH _ (rfl:_=AV.ptr _ _)) ?_
 refine fO rfl ?_
 refine ap (_,[]) (fun τ=> aJ _ rfl rfl) ?_
 refine fR rfl ?_
 refine ap (_,[]) (fun τ=> aD _ aa rfl rfl rfl) ?_
 refine fT rfl ?_
 refine ap (_,[]) (fun τ=> aG _ aa rfl rfl (rfl:_=some (AV.sl _ _))) ?_
 refine fP rfl ?_
 refine ap (_,[]) (fun τ=> aH _ (rfl:_=AV.ptr _ _)) ?_
 refine gb rfl ?_
 refine ap (_,[]) (fun τ=> aJ _ rfl rfl) ?_
 refine gC rfl ?_
 refine ap (_,[]) (fun τ=> aD _ aa rfl rfl rfl) ?_
 refine iy rfl ?_
 refine ap (_,[]) (fun τ=> aG _ aa rfl rfl (rfl:_=some (AV.v (.int _ _)))) ?_
 refine jy rfl ?_
 refine ap (_,[]) (fun τ=> bl _ _ aa rfl rfl _ rfl ab (by (simp only [aU,bj,bh,bq,bp];omega)) ag) ?_
 refine jr rfl ?_
 refine ap (_,[]) (fun τ=> cQ _ aa rfl rfl) ?_
 refine fq rfl ?_
 refine ap (_,[]) (fun τ=> bU _ aa rfl (by exact kT _ _ ab) rfl) ?_
 refine fv rfl ?_
 refine ap (_,[]) (fun τ=> bB _ (rfl:_=AV.v (.string _))) ?_
 refine jf rfl (bw ⟨rfl,?_⟩)
 exact ai (aE (aW (.inr rfl) rfl (.tmp (rfl:_=AV.v _)) (Le.outI [] [] .v rfl rfl rfl trivial ob tr rfl)))
theorem dj (T:List Tk) (i:Nat) (N:List Tx) (hi:i < T.length):
  Spec Tryz.prog 197 (aY [.ptr (0,9) 0] (dn T i N)) (be (.v (.bool (dH T i))) (dn T i N) [(0,9)] [(0,9)]):=by
 refine Spec.ofNI Tryz.func197 rfl Tryz.ntmps197 rfl ?_
 refine am (ce rfl (ai (aq (bT 28 [3,4,5,6,7,8,9,10,11,12,13,14,15,16,17,18,19,20,21,22,23,24,25,26,27,28,29,2] [] ae ae rfl (aM rfl) (rfl:_=[_,_,_,_,_,_,_,_,_,_,_,_,_,_,_,_,_,_,_,_,_,_,_,_,_,_,_,_]) (rfl:_=[]) ?_))))
 refine ap (_,[]) (fun τ=> aH _ (rfl:_=AV.ptr _ _)) ?_
 refine fO rfl ?_
 refine ap (_,[]) (fun τ=> aJ _ rfl rfl) ?_
 refine fR rfl ?_
 refine ap (_,[]) (fun τ=> aD _ aa rfl rfl rfl) ?_
 refine fT rfl ?_
 refine ap (_,[]) (fun τ=> aG _ aa rfl rfl (rfl:_=some (AV.sl _ _))) ?_
 refine fP rfl ?_
 refine ap (_,[]) (fun τ=> aH _ (rfl:_=AV.ptr _ _)) ?_
 refine gb rfl ?_
 refine ap (_,[]) (fun τ=> aJ _ rfl rfl) ?_
 refine gC rfl ?_
 refine ap (_,[]) (fun τ=> aD _ aa rfl rfl rfl) ?_
 refine iy rfl ?_
 refine ap (_,[]) (fun τ=> aG _ aa rfl rfl (rfl:_=some (AV.v (.int _ _)))) ?_
 refine jy rfl ?_
 refine ap (_,[]) (fun τ=> bl _ _ aa rfl rfl _ rfl ab (by (simp only [aU,bj,bh,bq,bp];omega)) ag) ?_
 refine jr rfl ?_
 refine ap (_,[]) (fun τ=> cQ _ aa rfl rfl) ?_
 refine fq rfl ?_
 refine ap (_,[]) (fun τ=> bU _ aa rfl (by exact nr _ _ ab) rfl) ?_
 refine fv rfl ?_
 refine ap (_,[]) (fun τ=> bH _ _ rfl rfl rfl) ?_
 refine jf rfl ?_
 refine ap (_,[]) (fun τ=> aH _ (rfl:_=AV.v (.bool _))) ?_
 refine lE (fun hg15=> ?_) (fun hg15=> ?_)
 ·skip
  have hr:dH T i= !rf (cK T i).t:=by unfold dH;rw [decide_eq_true ab];rfl
  refine jR rfl ?_
  refine bO (_,[]) rfl (fun τ=> rfl) (fun τ=> aH _ (rfl:_=AV.ptr _ _)) ?_
  refine mh rfl ?_
  refine bO (_,[]) rfl (fun τ=> rfl) (fun τ=> aJ _ rfl rfl) ?_
  refine qp rfl ?_
  refine bO (_,[]) rfl (fun τ=> rfl) (fun τ=> aD _ aa rfl rfl rfl) ?_
  refine qC rfl ?_
  refine bO (_,[]) rfl (fun τ=> rfl) (fun τ=> aG _ aa rfl rfl (rfl:_=some (AV.sl _ _))) ?_
  refine rH rfl ?_
  refine bO (_,[]) rfl (fun τ=> rfl) (fun τ=> aH _ (rfl:_=AV.ptr _ _)) ?_
  refine rA rfl ?_
  refine bO (_,[]) rfl (fun τ=> rfl) (fun τ=> aJ _ rfl rfl) ?_
  refine ru rfl ?_
  refine bO (_,[]) rfl (fun τ=> rfl) (fun τ=> aD _ aa rfl rfl rfl) ?_
  refine tV rfl ?_
  refine bO (_,[]) rfl (fun τ=> rfl) (fun τ=> aG _ aa rfl rfl (rfl:_=some (AV.v (.int _ _)))) ?_
  refine vj rfl ?_
  refine bO (_,[]) rfl (fun τ=> rfl) (fun τ=> bl _ _ aa rfl rfl _ rfl ab (by (simp only [aU,bj,bh,bq,bp];omega)) ag) ?_
  refine zK rfl ?_
  refine bO (_,[]) rfl (fun τ=> rfl) (fun τ=> cQ _ aa rfl rfl) ?_
  refine xN rfl ?_
  refine bO (_,[]) rfl (fun τ=> rfl) (fun τ=> bU _ aa rfl (by exact kT _ _ ab) rfl) ?_
  refine zj rfl ?_
  refine bO (_,[]) rfl (fun τ=> rfl) (fun τ=> (aC aa al (jZ (cK T i).t) rfl rfl)) ?_
  refine yY rfl ?_
  refine bO (_,[]) rfl (fun τ=> rfl) (fun τ=> cL _ rfl rfl) ?_
  refine xJ rfl ?_
  refine ap (_,[]) (fun τ=> az _ _ _ rfl (rfl:_=AV.v (.bool _))) ?_
  refine zG rfl ?_
  refine ap (_,[]) (fun τ=> bB _ (rfl:_=AV.v (.bool _))) ?_
  refine yw rfl (bw ⟨rfl,?_⟩)
  exact ai (aE (aW (.inr rfl) rfl (.tmp (rfl:_=AV.v (.bool _))) (Le.outI [] [] (gy hr) rfl rfl rfl trivial ob tr rfl)))
 ·skip
  have hr:dH T i=false:=by unfold dH;rw [decide_eq_false ab];rfl
  refine jR rfl ?_
  refine cB rfl (fun τ=> rfl) ah ?_
  refine mh rfl ?_
  refine cB rfl (fun τ=> rfl) ah ?_
  refine qp rfl ?_
  refine cB rfl (fun τ=> rfl) ah ?_
  refine qC rfl ?_
  refine cB rfl (fun τ=> rfl) ah ?_
  refine rH rfl ?_
  refine cB rfl (fun τ=> rfl) ah ?_
  refine rA rfl ?_
  refine cB rfl (fun τ=> rfl) ah ?_
  refine ru rfl ?_
  refine cB rfl (fun τ=> rfl) ah ?_
  refine tV rfl ?_
  refine cB rfl (fun τ=> rfl) ah ?_
  refine vj rfl ?_
  refine cB rfl (fun τ=> rfl) ah ?_
  refine zK rfl ?_
  refine cB rfl (fun τ=> rfl) ah ?_
  refine xN rfl ?_
  refine cB rfl (fun τ=> rfl) ah ?_
  refine zj rfl ?_
  refine cB rfl (fun τ=> rfl) ah ?_
  refine yY rfl ?_
  refine cB rfl (fun τ=> rfl) ah ?_
  refine xJ rfl ?_
  refine ap (_,[]) (fun τ=> az _ _ _ rfl (rfl:_=AV.v (.bool _))) ?_
  refine zG rfl ?_
  refine ap (_,[]) (fun τ=> bB _ (rfl:_=AV.v (.bool _))) ?_
  refine yw rfl (bw ⟨rfl,?_⟩)
  exact ai (aE (aW (.inr rfl) rfl (.tmp (rfl:_=AV.v (.bool _))) (Le.outI [] [] (gy hr) rfl rfl rfl trivial ob tr rfl)))
theorem ca (T:List Tk) (i:Nat) (N:List Tx) (hi:i < T.length) (hT:T.length≤100000):
  Spec Tryz.prog 196 (aY [.ptr (0,9) 0] (dn T i N)) (be (.tup []) (dn T (bK T i) N) [(0,9)] [(0,9)]):=by
 refine Spec.ofNI Tryz.func196 rfl Tryz.ntmps196 rfl ?_
 refine aq (bT 11 [2,3,4,5,6,7,8,9,10,11,12] [] ae ae rfl (aM rfl) (rfl:_=[_,_,_,_,_,_,_,_,_,_,_]) (rfl:_=[]) ?_)
 refine ap (_,[]) (fun τ=> aH _ (rfl:_=AV.ptr _ _)) ?_
 refine fO rfl ?_
 refine ap (_,[]) (fun τ=> aJ _ rfl rfl) ?_
 refine fR rfl ?_
 refine ap (_,[]) (fun τ=> aD _ aa rfl rfl rfl) ?_
 refine fT rfl ?_
 refine ap (_,[]) (fun τ=> aG _ aa rfl rfl (rfl:_=some (AV.v (.int _ _)))) ?_
 refine fP rfl ?_
 refine ap (_,[]) (fun τ=> aZ _ _ rfl rfl (bJ ab)) ?_
 refine gb rfl ?_
 refine ap (_,[]) (fun τ=> aH _ (rfl:_=AV.ptr _ _)) ?_
 refine gC rfl ?_
 refine ap (_,[]) (fun τ=> aJ _ rfl rfl) ?_
 refine iy rfl ?_
 refine ap (_,[]) (fun τ=> aD _ aa rfl rfl rfl) ?_
 refine jy rfl ?_
 refine ap (_,[]) (fun τ=> aG _ aa rfl rfl (rfl:_=some (AV.sl _ _))) ?_
 refine jr rfl ?_
 refine ap (_,[]) (fun τ=> bD _ aa rfl) ?_
 refine fq rfl ?_
 refine ap (_,[]) (fun τ=> bo _ _ rfl rfl rfl) ?_
 refine fv rfl (bw ⟨rfl,?_⟩)
 refine ai (aP rfl (fun hc12=> ?_) (fun hc12=> ?_))
 ·skip
  have ht:bK T i=i+1:=by unfold bK;rw [if_pos ab]
  refine an (bN rfl (aj (aJ _ rfl rfl) (bu rfl rfl rfl (cw rfl rfl rfl (aj (aZ _ _ rfl rfl (bJ ab)) ?_)))))
  exact aj (aJ _ rfl rfl) (bu rfl rfl rfl (cF rfl rfl rfl rfl rfl rfl (aI (et (.inl rfl) rfl (Le.outI [] [] (.tup rfl br) rfl rfl rfl trivial ⟨⟨rfl,⟨_,rfl, .box rfl (aB .sl (aB (cd (by rw [ht] <;> omega)) lz))⟩,rfl⟩,trivial⟩ tr rfl)))))
 ·skip
  have ht:bK T i=i:=by unfold bK;rw [if_neg ab]
  exact bA (et (.inl rfl) rfl (Le.outI [] [] (.tup rfl br) rfl rfl rfl trivial ⟨⟨rfl,⟨_,rfl, .box rfl (aB .sl (aB (cd (by rw [ht] <;> omega)) lz))⟩,rfl⟩,trivial⟩ tr rfl))
theorem ev (T:List Tk) (i j:Nat) (N:List Tx) (s:Tx) (hi:i < T.length) (hT:T.length≤100000) (h:fi T s i=some j):
  Spec Tryz.prog 162 (aY [.ptr (0,9) 0, .v (bt s)] (dn T i N)) (be (.tup []) (dn T j N) [(0,9)] [(0,9)]):=by
 have ⟨hs,hj⟩:(cK T i).t=s∧bK T i=j:=by
  unfold fi at h
  split at h
  ·exact ⟨by assumption,Option.some.inj h⟩
  ·cases h
 subst hs
 subst hj
 refine Spec.ofNI Tryz.func162 rfl Tryz.ntmps162 rfl ?_
 refine aq (am (bN rfl (aj (aJ _ rfl rfl) (bu rfl rfl rfl (cw rfl rfl rfl (jv rfl rfl rfl (cE rfl (ax rfl rfl (aH _ (rfl:_=AV.ptr _ _)) (ax rfl rfl (bm aa _ _ ar (bL T i N hi) tr rfl ae (by simp)) ?_)))))))))
 refine ax rfl rfl (aH _ (rfl:_=AV.v (.string _))) (ax rfl rfl (oY (r:=false) _ _ Tryz.underlying9 rfl rfl (by exact bne_self_eq_false _)) ?_)
 refine aj (az _ _ _ rfl (rfl:_=AV.v (.bool _))) (ai (aS rfl rfl (aO (am (bN rfl (aj (aJ _ rfl rfl) (bu rfl rfl rfl (cw rfl rfl rfl (jv rfl rfl rfl (ai ?_))))))))))
 refine bR rfl rfl ?_
 refine aQ (σ':=aA 28 [(0,_)] [((0,9),_)] [(0,9)] [(0,9)]) kp ?_
 refine an (bN rfl (aj (bP (ca T i N hi hT)) ?_))
 exact aI (et (.inl rfl) rfl (Le.outI [] [] (.tup rfl br) rfl rfl rfl trivial ob tr rfl))
theorem iq {T:List Tk} {s:Tx} {lv i j:Nat} (h:oy T s lv i=some j):lv≤20∧fi T s i=some j:=by
 unfold oy at h
 split at h
 ·cases h
 ·rename_i hn
  refine ⟨?_,h⟩
  unfold fi at h
  split at h
  ·rename_i ht
   exact Nat.le_of_not_lt fun hl=> hn ⟨ht,hl⟩
  ·cases h
theorem gH {T:List Tk} {s:Tx} {i j:Nat} (h:fi T s i=some j) (hi:i < T.length):j < T.length:=by
 unfold fi at h
 split at h
 ·rw [← Option.some.inj h];exact dy hi
 ·cases h
theorem ls (T:List Tk) (i j:Nat) (N:List Tx) (s:Tx) (lv:Nat) (hi:i < T.length) (hT:T.length≤100000) (h:oy T s lv i=some j):
  Spec Tryz.prog 201 (aY [.ptr (0,9) 0, .v (bt s), .v (.int .i64 (lv:Int))] (dn T i N)) (be (.tup []) (dn T j N) [(0,9)] [(0,9)]):=by
 obtain ⟨hl,he⟩:=iq h
 refine Spec.ofNI Tryz.func201 rfl Tryz.ntmps201 rfl ?_
 refine aq (am (bN rfl (aj (aJ _ rfl rfl) (bu rfl rfl rfl (cw rfl rfl rfl (jv rfl rfl rfl (cE rfl (ax rfl rfl (aH _ (rfl:_=AV.ptr _ _)) (ax rfl rfl (bm aa _ _ ar (bL T i N hi) tr rfl ae (by simp)) ?_)))))))))
 refine ax rfl rfl (aH _ (rfl:_=AV.v (.string _))) (ax rfl rfl (aK _ _ Tryz.underlying9 rfl rfl rfl) (aj (az _ _ _ rfl (rfl:_=AV.v (.bool _))) (cE rfl (dw (fun hg17=> ?_) (fun hg17=> ?_)))))
 ·skip
  refine ax rfl rfl (aH _ (rfl:_=AV.v (.int _ _))) (ax rfl rfl (gj (r:=false) _ _ rfl rfl (decide_eq_false ab)) ?_)
  refine aj (az _ _ _ rfl (rfl:_=AV.v (.bool _))) (ai (aS rfl rfl (aO ?_)))
  refine aQ (σ':=aA 30 [(0,_),(1,_)] [((0,9),_)] [(0,9)] [(0,9)]) kp ?_
  refine an (bN rfl (dv rfl (aj (bP (ev T i j N s hi hT he)) ?_)))
  exact aI (et (.inl rfl) rfl (Le.outI [] [] (.tup rfl br) rfl rfl rfl trivial ob tr rfl))
 ·skip
  refine aN rfl rfl ah ?_
  refine aN rfl rfl ah ?_
  refine aj (az _ _ _ rfl (rfl:_=AV.v (.bool _))) (ai (aS rfl rfl (aO ?_)))
  refine aQ (σ':=aA 30 [(0,_),(1,_)] [((0,9),_)] [(0,9)] [(0,9)]) kp ?_
  refine an (bN rfl (dv rfl (aj (bP (ev T i j N s hi hT he)) ?_)))
  exact aI (et (.inl rfl) rfl (Le.outI [] [] (.tup rfl br) rfl rfl rfl trivial ob tr rfl))
theorem ja (T:List Tk) (i:Nat) (N:List Tx) (most:Nat) (hi:i < T.length) (hT:T.length≤100000) (hm:most≤1000) (r:Nat×Nat) (h:mf T most i=some r):
  Spec Tryz.prog 200 (aY [.ptr (0,9) 0, .v (.int .i64 (most:Int))] (dn T i N)) (be (.v (.int .i64 (r.1:Int))) (dn T r.2 N) [(0,9)] [(0,9)]):=by
 have ⟨h1,h2,h3⟩:(cK T i).k=2∧(cK T i).n≤most∧r=((cK T i).n,bK T i):=by
  unfold mf at h
  split at h
  ·rename_i hx;exact ⟨hx.1,hx.2,(Option.some.inj h).symm⟩
  ·cases h
 subst h3
 refine Spec.ofNI Tryz.func200 rfl Tryz.ntmps200 rfl ?_
 refine am (bc rfl (ai (aq (bT 11 [6,7,8,9,10,11,12,13,14,15,5] [(5,0)] ae ae rfl (aM rfl) (rfl:_=[_,_,_,_,_,_,_,_,_,_,_]) (rfl:_=[_]) ?_))))
 refine ap (_,[]) (fun τ=> aH _ (rfl:_=AV.ptr _ _)) ?_
 refine fO rfl ?_
 refine ap (_,[]) (fun τ=> aJ _ rfl rfl) ?_
 refine fR rfl ?_
 refine ap (_,[]) (fun τ=> aD _ aa rfl rfl rfl) ?_
 refine fT rfl ?_
 refine ap (_,[]) (fun τ=> aG _ aa rfl rfl (rfl:_=some (AV.sl _ _))) ?_
 refine fP rfl ?_
 refine ap (_,[]) (fun τ=> aH _ (rfl:_=AV.ptr _ _)) ?_
 refine gb rfl ?_
 refine ap (_,[]) (fun τ=> aJ _ rfl rfl) ?_
 refine gC rfl ?_
 refine ap (_,[]) (fun τ=> aD _ aa rfl rfl rfl) ?_
 refine iy rfl ?_
 refine ap (_,[]) (fun τ=> aG _ aa rfl rfl (rfl:_=some (AV.v (.int _ _)))) ?_
 refine jy rfl ?_
 refine ap (_,[]) (fun τ=> bl _ _ aa rfl rfl _ rfl ab (by (simp only [aU,bj,bh,bq,bp];omega)) ag) ?_
 refine jr rfl ?_
 refine ap (_,[]) (fun τ=> bZ _ aa rfl (by exact kI _ _ hi) rfl) ?_
 refine fq rfl ?_
 refine ap (_,[((5,0),_)]) (fun τ=> aR (5,0) aa rfl rfl) ?_
 refine fv rfl (bw ⟨rfl,?_⟩)
 refine cF rfl rfl rfl rfl rfl rfl (ai (aq (am (bu rfl rfl rfl (cw rfl rfl rfl (aj (bY _ _ rfl rfl rfl) (ai (aS rfl (by rw [h1];rfl) ?_))))))))
 refine aq ?_
 refine aQ (σ':=aA 44 [(0,_),(1,_),(5,_)] [((0,9),_),((5,0),_)] [(0,9)] [(0,9)]) kp ?_
 refine an (bu rfl rfl rfl (cw rfl rfl rfl (aV rfl (aj (gj _ _ rfl rfl rfl) (ai (aS rfl (decide_eq_false ab) ?_))))))
 refine aO (aq (am (bN rfl (aj (aJ _ rfl rfl) (bu rfl rfl rfl (cw rfl rfl rfl (aj (bY (r:=false) _ _ rfl rfl rfl) (ai (aS rfl rfl (aO ?_))))))))))
 refine am (bN rfl (aj (bP (ca T i N hi hT)) ?_))
 exact ai (am (bu rfl rfl rfl (cw rfl rfl rfl (bc rfl (ai (aE (aW (.inr rfl) rfl (.tmp (rfl:_=AV.v _)) (Le.outI [] [] .v rfl rfl rfl trivial ob tr rfl))))))))
abbrev zC (T:List Tk) (i:Nat) (N:List Tx):List (ay×Cells):=[((0,9), .box 222 [.sl T.length (pi T), .v (.int .i64 (i:Int)), .v (.int .i64 0), .v (.int .i64 0), .ref (1,9) 0 N.length]),((1,9), .row 9 1 (ed N))]
theorem dW (T:List Tk) (i:Nat) (N:List Tx) (hi:i < T.length):
  Spec Tryz.prog 160 (aY [.ptr (0,9) 0] (zC T i N)) (be (.v (bt (cK T i).t)) (zC T i N) [(0,9),(1,9)] [(0,9),(1,9)]):=by
 refine Spec.ofNI Tryz.func160 rfl Tryz.ntmps160 rfl ?_
 refine am (mi rfl (ai (aq (bT 12 [3,4,5,6,7,8,9,10,11,12,13,2] [] ae ae rfl (aM rfl) (rfl:_=[_,_,_,_,_,_,_,_,_,_,_,_]) (rfl:_=[]) ?_))))
 refine ap (_,[]) (fun τ=> aH _ (rfl:_=AV.ptr _ _)) ?_
 refine fO rfl ?_
 refine ap (_,[]) (fun τ=> aJ _ rfl rfl) ?_
 refine fR rfl ?_
 refine ap (_,[]) (fun τ=> aD _ aa rfl rfl rfl) ?_
 refine fT rfl ?_
 refine ap (_,[]) (fun τ=> aG _ aa rfl rfl (rfl:_=some (AV.sl _ _))) ?_
 refine fP rfl ?_
 refine ap (_,[]) (fun τ=> aH _ (rfl:_=AV.ptr _ _)) ?_
 refine gb rfl ?_
 refine ap (_,[]) (fun τ=> aJ _ rfl rfl) ?_
 refine gC rfl ?_
 refine ap (_,[]) (fun τ=> aD _ aa rfl rfl rfl) ?_
 refine iy rfl ?_
 refine ap (_,[]) (fun τ=> aG _ aa rfl rfl (rfl:_=some (AV.v (.int _ _)))) ?_
 refine jy rfl ?_
 refine ap (_,[]) (fun τ=> bl _ _ aa rfl rfl _ rfl ab (by (simp only [aU,bj,bh,bq,bp];omega)) ag) ?_
 refine jr rfl ?_
 refine ap (_,[]) (fun τ=> cQ _ aa rfl rfl) ?_
 refine fq rfl ?_
 refine ap (_,[]) (fun τ=> bU _ aa rfl (by exact kT _ _ ab) rfl) ?_
 refine fv rfl ?_
 refine ap (_,[]) (fun τ=> bB _ (rfl:_=AV.v (.string _))) ?_
 refine jf rfl (bw ⟨rfl,?_⟩)
 exact ai (aE (aW (.inr rfl) rfl (.tmp (rfl:_=AV.v _)) (Le.outI [] [] .v rfl rfl rfl trivial ob tr rfl)))
theorem rl (T:List Tk) (i:Nat) (N:List Tx) (hi:i < T.length):
  Spec Tryz.prog 197 (aY [.ptr (0,9) 0] (zC T i N)) (be (.v (.bool (dH T i))) (zC T i N) [(0,9),(1,9)] [(0,9),(1,9)]):=by
 refine Spec.ofNI Tryz.func197 rfl Tryz.ntmps197 rfl ?_
 refine am (ce rfl (ai (aq (bT 28 [3,4,5,6,7,8,9,10,11,12,13,14,15,16,17,18,19,20,21,22,23,24,25,26,27,28,29,2] [] ae ae rfl (aM rfl) (rfl:_=[_,_,_,_,_,_,_,_,_,_,_,_,_,_,_,_,_,_,_,_,_,_,_,_,_,_,_,_]) (rfl:_=[]) ?_))))
 refine ap (_,[]) (fun τ=> aH _ (rfl:_=AV.ptr _ _)) ?_
 refine fO rfl ?_
 refine ap (_,[]) (fun τ=> aJ _ rfl rfl) ?_
 refine fR rfl ?_
 refine ap (_,[]) (fun τ=> aD _ aa rfl rfl rfl) ?_
 refine fT rfl ?_
 refine ap (_,[]) (fun τ=> aG _ aa rfl rfl (rfl:_=some (AV.sl _ _))) ?_
 refine fP rfl ?_
 refine ap (_,[]) (fun τ=> aH _ (rfl:_=AV.ptr _ _)) ?_
 refine gb rfl ?_
 refine ap (_,[]) (fun τ=> aJ _ rfl rfl) ?_
 refine gC rfl ?_
 refine ap (_,[]) (fun τ=> aD _ aa rfl rfl rfl) ?_
 refine iy rfl ?_
 refine ap (_,[]) (fun τ=> aG _ aa rfl rfl (rfl:_=some (AV.v (.int _ _)))) ?_
 refine jy rfl ?_
 refine ap (_,[]) (fun τ=> bl _ _ aa rfl rfl _ rfl ab (by (simp only [aU,bj,bh,bq,bp];omega)) ag) ?_
 refine jr rfl ?_
 refine ap (_,[]) (fun τ=> cQ _ aa rfl rfl) ?_
 refine fq rfl ?_
 refine ap (_,[]) (fun τ=> bU _ aa rfl (by exact nr _ _ ab) rfl) ?_
 refine fv rfl ?_
 refine ap (_,[]) (fun τ=> bH _ _ rfl rfl rfl) ?_
 refine jf rfl ?_
 refine ap (_,[]) (fun τ=> aH _ (rfl:_=AV.v (.bool _))) ?_
 refine lE (fun hg15=> ?_) (fun hg15=> ?_)
 ·skip
  have hr:dH T i= !rf (cK T i).t:=by unfold dH;rw [decide_eq_true ab];rfl
  refine jR rfl ?_
  refine bO (_,[]) rfl (fun τ=> rfl) (fun τ=> aH _ (rfl:_=AV.ptr _ _)) ?_
  refine mh rfl ?_
  refine bO (_,[]) rfl (fun τ=> rfl) (fun τ=> aJ _ rfl rfl) ?_
  refine qp rfl ?_
  refine bO (_,[]) rfl (fun τ=> rfl) (fun τ=> aD _ aa rfl rfl rfl) ?_
  refine qC rfl ?_
  refine bO (_,[]) rfl (fun τ=> rfl) (fun τ=> aG _ aa rfl rfl (rfl:_=some (AV.sl _ _))) ?_
  refine rH rfl ?_
  refine bO (_,[]) rfl (fun τ=> rfl) (fun τ=> aH _ (rfl:_=AV.ptr _ _)) ?_
  refine rA rfl ?_
  refine bO (_,[]) rfl (fun τ=> rfl) (fun τ=> aJ _ rfl rfl) ?_
  refine ru rfl ?_
  refine bO (_,[]) rfl (fun τ=> rfl) (fun τ=> aD _ aa rfl rfl rfl) ?_
  refine tV rfl ?_
  refine bO (_,[]) rfl (fun τ=> rfl) (fun τ=> aG _ aa rfl rfl (rfl:_=some (AV.v (.int _ _)))) ?_
  refine vj rfl ?_
  refine bO (_,[]) rfl (fun τ=> rfl) (fun τ=> bl _ _ aa rfl rfl _ rfl ab (by (simp only [aU,bj,bh,bq,bp];omega)) ag) ?_
  refine zK rfl ?_
  refine bO (_,[]) rfl (fun τ=> rfl) (fun τ=> cQ _ aa rfl rfl) ?_
  refine xN rfl ?_
  refine bO (_,[]) rfl (fun τ=> rfl) (fun τ=> bU _ aa rfl (by exact kT _ _ ab) rfl) ?_
  refine zj rfl ?_
  refine bO (_,[]) rfl (fun τ=> rfl) (fun τ=> (aC aa al (jZ (cK T i).t) rfl rfl)) ?_
  refine yY rfl ?_
  refine bO (_,[]) rfl (fun τ=> rfl) (fun τ=> cL _ rfl rfl) ?_
  refine xJ rfl ?_
  refine ap (_,[]) (fun τ=> az _ _ _ rfl (rfl:_=AV.v (.bool _))) ?_
  refine zG rfl ?_
  refine ap (_,[]) (fun τ=> bB _ (rfl:_=AV.v (.bool _))) ?_
  refine yw rfl (bw ⟨rfl,?_⟩)
  exact ai (aE (aW (.inr rfl) rfl (.tmp (rfl:_=AV.v (.bool _))) (Le.outI [] [] (gy hr) rfl rfl rfl trivial ob tr rfl)))
 ·skip
  have hr:dH T i=false:=by unfold dH;rw [decide_eq_false ab];rfl
  refine jR rfl ?_
  refine cB rfl (fun τ=> rfl) ah ?_
  refine mh rfl ?_
  refine cB rfl (fun τ=> rfl) ah ?_
  refine qp rfl ?_
  refine cB rfl (fun τ=> rfl) ah ?_
  refine qC rfl ?_
  refine cB rfl (fun τ=> rfl) ah ?_
  refine rH rfl ?_
  refine cB rfl (fun τ=> rfl) ah ?_
  refine rA rfl ?_
  refine cB rfl (fun τ=> rfl) ah ?_
  refine ru rfl ?_
  refine cB rfl (fun τ=> rfl) ah ?_
  refine tV rfl ?_
  refine cB rfl (fun τ=> rfl) ah ?_
  refine vj rfl ?_
  refine cB rfl (fun τ=> rfl) ah ?_
  refine zK rfl ?_
  refine cB rfl (fun τ=> rfl) ah ?_
  refine xN rfl ?_
  refine cB rfl (fun τ=> rfl) ah ?_
  refine zj rfl ?_
  refine cB rfl (fun τ=> rfl) ah ?_
  refine yY rfl ?_
  refine cB rfl (fun τ=> rfl) ah ?_
  refine xJ rfl ?_
  refine ap (_,[]) (fun τ=> az _ _ _ rfl (rfl:_=AV.v (.bool _))) ?_
  refine zG rfl ?_
  refine ap (_,[]) (fun τ=> bB _ (rfl:_=AV.v (.bool _))) ?_
  refine yw rfl (bw ⟨rfl,?_⟩)
  exact ai (aE (aW (.inr rfl) rfl (.tmp (rfl:_=AV.v (.bool _))) (Le.outI [] [] (gy hr) rfl rfl rfl trivial ob tr rfl)))
theorem iw (T:List Tk) (i:Nat) (N:List Tx) (hi:i < T.length) (hT:T.length≤100000):
  Spec Tryz.prog 196 (aY [.ptr (0,9) 0] (zC T i N)) (be (.tup []) (zC T (bK T i) N) [(0,9),(1,9)] [(0,9),(1,9)]):=by
 refine Spec.ofNI Tryz.func196 rfl Tryz.ntmps196 rfl ?_
 refine aq (bT 11 [2,3,4,5,6,7,8,9,10,11,12] [] ae ae rfl (aM rfl) (rfl:_=[_,_,_,_,_,_,_,_,_,_,_]) (rfl:_=[]) ?_)
 refine ap (_,[]) (fun τ=> aH _ (rfl:_=AV.ptr _ _)) ?_
 refine fO rfl ?_
 refine ap (_,[]) (fun τ=> aJ _ rfl rfl) ?_
 refine fR rfl ?_
 refine ap (_,[]) (fun τ=> aD _ aa rfl rfl rfl) ?_
 refine fT rfl ?_
 refine ap (_,[]) (fun τ=> aG _ aa rfl rfl (rfl:_=some (AV.v (.int _ _)))) ?_
 refine fP rfl ?_
 refine ap (_,[]) (fun τ=> aZ _ _ rfl rfl (bJ ab)) ?_
 refine gb rfl ?_
 refine ap (_,[]) (fun τ=> aH _ (rfl:_=AV.ptr _ _)) ?_
 refine gC rfl ?_
 refine ap (_,[]) (fun τ=> aJ _ rfl rfl) ?_
 refine iy rfl ?_
 refine ap (_,[]) (fun τ=> aD _ aa rfl rfl rfl) ?_
 refine jy rfl ?_
 refine ap (_,[]) (fun τ=> aG _ aa rfl rfl (rfl:_=some (AV.sl _ _))) ?_
 refine jr rfl ?_
 refine ap (_,[]) (fun τ=> bD _ aa rfl) ?_
 refine fq rfl ?_
 refine ap (_,[]) (fun τ=> bo _ _ rfl rfl rfl) ?_
 refine fv rfl (bw ⟨rfl,?_⟩)
 refine ai (aP rfl (fun hc12=> ?_) (fun hc12=> ?_))
 ·skip
  have ht:bK T i=i+1:=by unfold bK;rw [if_pos ab]
  refine an (bN rfl (aj (aJ _ rfl rfl) (bu rfl rfl rfl (cw rfl rfl rfl (aj (aZ _ _ rfl rfl (bJ ab)) ?_)))))
  exact aj (aJ _ rfl rfl) (bu rfl rfl rfl (cF rfl rfl rfl rfl rfl rfl (aI (et (.inl rfl) rfl (Le.outI [] [] (.tup rfl br) rfl rfl rfl trivial ⟨⟨rfl,⟨_,rfl, .box rfl (aB .sl (aB (cd (by rw [ht] <;> omega)) lz))⟩,rfl⟩,⟨rfl,⟨_,rfl, .rowE rfl⟩,rfl⟩,trivial⟩ tr rfl)))))
 ·skip
  have ht:bK T i=i:=by unfold bK;rw [if_neg ab]
  exact bA (et (.inl rfl) rfl (Le.outI [] [] (.tup rfl br) rfl rfl rfl trivial ⟨⟨rfl,⟨_,rfl, .box rfl (aB .sl (aB (cd (by rw [ht] <;> omega)) lz))⟩,rfl⟩,⟨rfl,⟨_,rfl, .rowE rfl⟩,rfl⟩,trivial⟩ tr rfl))
theorem pv (T:List Tk) (i j:Nat) (N:List Tx) (s:Tx) (hi:i < T.length) (hT:T.length≤100000) (h:fi T s i=some j):
  Spec Tryz.prog 162 (aY [.ptr (0,9) 0, .v (bt s)] (zC T i N)) (be (.tup []) (zC T j N) [(0,9),(1,9)] [(0,9),(1,9)]):=by
 have ⟨hs,hj⟩:(cK T i).t=s∧bK T i=j:=by
  unfold fi at h
  split at h
  ·exact ⟨by assumption,Option.some.inj h⟩
  ·cases h
 subst hs
 subst hj
 refine Spec.ofNI Tryz.func162 rfl Tryz.ntmps162 rfl ?_
 refine aq (am (bN rfl (aj (aJ _ rfl rfl) (bu rfl rfl rfl (cw rfl rfl rfl (jv rfl rfl rfl (cE rfl (ax rfl rfl (aH _ (rfl:_=AV.ptr _ _)) (ax rfl rfl (bm aa _ _ ar (dW T i N hi) tr rfl ae (by simp)) ?_)))))))))
 refine ax rfl rfl (aH _ (rfl:_=AV.v (.string _))) (ax rfl rfl (oY (r:=false) _ _ Tryz.underlying9 rfl rfl (by exact bne_self_eq_false _)) ?_)
 refine aj (az _ _ _ rfl (rfl:_=AV.v (.bool _))) (ai (aS rfl rfl (aO (am (bN rfl (aj (aJ _ rfl rfl) (bu rfl rfl rfl (cw rfl rfl rfl (jv rfl rfl rfl (ai ?_))))))))))
 refine bR rfl rfl ?_
 refine aQ (σ':=aA 28 [(0,_)] [((0,9),_),((1,9),_)] [(0,9),(1,9)] [(0,9),(1,9)]) kp ?_
 refine an (bN rfl (aj (dm aa [] ar (iw T i N hi hT) ob tr ae) ?_))
 exact aI (et (.inl rfl) rfl (Le.outI [] [] (.tup rfl br) rfl rfl rfl trivial ob tr rfl))

abbrev me (d:Nd):AV:= .agg [.v (.int .i64 (d.k:Int)), .v (.int .i64 (d.n:Int)), .v (bt d.s), .sl d.kn d.kids]
abbrev PO (T:List Tk) (N:List Tx) (r:Nd×Nat):St:=be (me r.1) (dn T r.2 N) [(0,9)] [(0,9)]
structure PE (T:List Tk) (N:List Tx) (f:Nat):Prop where
 expr: ∀ lv pr i r,lv≤20→1≤pr∧pr≤7→i < T.length→fe T f lv pr i=some r→r.2 < T.length∧Spec Tryz.prog 226 (aY [.ptr (0,9) 0, .v (.int .i64 (lv:Int)), .v (.int .i64 (pr:Int))] (dn T i N)) (PO T N r)
 un: ∀ s lv pr i r,lv≤20→1≤pr∧pr≤7→i < T.length→Ck T f s lv pr i=some r→r.2 < T.length∧Spec Tryz.prog 235 (aY [.ptr (0,9) 0, .v (bt s), .v (.int .i64 (lv:Int)), .v (.int .i64 (pr:Int))] (dn T i N)) (PO T N r)
 bin: ∀ lv pr i r,lv≤20→(1≤pr∧pr≤6∧pr≠3)→i < T.length→tS T f lv pr i=some r→r.2 < T.length∧Spec Tryz.prog 236 (aY [.ptr (0,9) 0, .v (.int .i64 (lv:Int)), .v (.int .i64 (pr:Int))] (dn T i N)) (PO T N r)
 nest: ∀ lv i r,lv≤20→i < T.length→nU T f lv i=some r→r.2 < T.length∧Spec Tryz.prog 240 (aY [.ptr (0,9) 0, .v (.int .i64 (lv:Int))] (dn T i N)) (PO T N r)
 prim: ∀ lv i r,lv≤20→i < T.length→pL T f lv i=some r→r.2 < T.length∧Spec Tryz.prog 237 (aY [.ptr (0,9) 0, .v (.int .i64 (lv:Int))] (dn T i N)) (PO T N r)
section
variable {T:List Tk} {N:List Tx}
theorem uA (f:Nat) (ih:PE T N f) (lv pr i:Nat) (r:Nd×Nat) (hl:lv≤20) (hp:1≤pr∧pr≤7) (hi:i < T.length) (h:fe T (f+1) lv pr i=some r):
  r.2 < T.length∧Spec Tryz.prog 226 (aY [.ptr (0,9) 0, .v (.int .i64 (lv:Int)), .v (.int .i64 (pr:Int))] (dn T i N)) (PO T N r):=by
 unfold fe at h
 by_cases h1:pr=3∧(cK T i).t=[33]
 ·rw [if_pos h1] at h
  obtain ⟨ha,hb⟩:=ih.un _ _ _ _ _ hl ab hi h
  refine ⟨ha,?_⟩
  obtain ⟨rfl,h1⟩:=h1
  refine Spec.ofNI Tryz.func226 rfl Tryz.ntmps226 rfl ?_
  refine am (aj (aR (6,0) aa rfl rfl) (ai (aq (am (bN rfl (aj (aJ _ rfl rfl) (bu rfl rfl rfl (cw rfl rfl rfl (aj (bY (r:=false) _ _ rfl rfl rfl) (ai ?_))))))))))
  refine aS rfl rfl (aO (am (bN rfl (aj (bm aa _ _ ar (bL T i N hi) tr rfl ae (by simp)) ?_))))
  refine mi rfl (ai (aq (am (aV rfl (jv rfl rfl rfl (cE rfl (ax rfl rfl (aH _ (rfl:_=AV.v (.string _))) (ax rfl rfl (aK (r:=true) _ _ Tryz.underlying9 rfl rfl (by rw [h1];rfl)) ?_))))))))
  refine aj (az _ _ _ rfl (rfl:_=AV.v (.bool _))) (ai (bR rfl rfl (aq ?_)))
  refine aQ (σ':=aA 50 [(0,_),(1,_),(6,_),(7,_)] [((0,9),_),((6,0),_)] [(0,9)] [(0,9)]) kp ?_
  exact an (bN rfl (dv rfl (aV rfl (aj (bP (hb)) (cF rfl rfl rfl rfl rfl rfl (ai (aE (aW (.inr rfl) rfl (.cellA aa rfl rfl rfl) (Le.outI [] [] (.agg rfl lz) rfl rfl rfl trivial ob tr rfl)))))))))
 rw [if_neg h1] at h
 by_cases h2:pr=3
 ·rw [if_pos h2] at h
  obtain ⟨ha,hb⟩:=ih.bin _ _ _ _ hl ab hi h
  refine ⟨ha,?_⟩
  subst h2
  have h1:(cK T i).t≠[33]:=fun e=> h1 ⟨rfl,e⟩
  refine Spec.ofNI Tryz.func226 rfl Tryz.ntmps226 rfl ?_
  refine am (aj (aR (6,0) aa rfl rfl) (ai (aq (am (bN rfl (aj (aJ _ rfl rfl) (bu rfl rfl rfl (cw rfl rfl rfl (aj (bY (r:=false) _ _ rfl rfl rfl) (ai ?_))))))))))
  refine aS rfl rfl (aO (am (bN rfl (aj (bm aa _ _ ar (bL T i N hi) tr rfl ae (by simp)) ?_))))
  refine mi rfl (ai (aq (am (aV rfl (jv rfl rfl rfl (cE rfl (ax rfl rfl (aH _ (rfl:_=AV.v (.string _))) (ax rfl rfl (aK (r:=false) _ _ Tryz.underlying9 rfl rfl (beq_eq_false_iff_ne.2 h1)) ?_))))))))
  refine aj (az _ _ _ rfl (rfl:_=AV.v (.bool _))) (ai (aS rfl rfl (aO (aq (aq ?_)))))
  refine aQ (σ':=aA 50 [(0,_),(1,_),(2,_),(6,_),(7,_)] [((0,9),_),((6,0),_)] [(0,9)] [(0,9)]) kp ?_
  refine an (aV rfl (jv rfl rfl rfl (ai (bR rfl rfl (am (bN rfl (aV rfl (aj (bP (hb)) (cF rfl rfl rfl rfl rfl rfl (ai ?_))))))))))
  exact aE (aW (.inr rfl) rfl (.cellA aa rfl rfl rfl) (Le.outI [] [] (.agg rfl lz) rfl rfl rfl trivial ob tr rfl))
 rw [if_neg h2] at h
 by_cases h3:pr=7∧(cK T i).t=[45]
 ·rw [if_pos h3] at h
  obtain ⟨ha,hb⟩:=ih.un _ _ _ _ _ hl ab hi h
  refine ⟨ha,?_⟩
  obtain ⟨rfl,h3⟩:=h3
  refine Spec.ofNI Tryz.func226 rfl Tryz.ntmps226 rfl ?_
  refine am (aj (aR (6,0) aa rfl rfl) (ai (aq (am (bN rfl (aj (aJ _ rfl rfl) (bu rfl rfl rfl (cw rfl rfl rfl (aj (bY (r:=false) _ _ rfl rfl rfl) (ai ?_))))))))))
  refine aS rfl rfl (aO (am (bN rfl (aj (bm aa _ _ ar (bL T i N hi) tr rfl ae (by simp)) ?_))))
  refine mi rfl (ai (aq (am (aV rfl (fJ rfl rfl rfl (cE rfl (aN rfl rfl ah ?_)))))))
  refine aN rfl rfl ah ?_
  refine aj (az _ _ _ rfl (rfl:_=AV.v (.bool _))) (ai (aS rfl rfl (aO (aq (aq ?_)))))
  refine aQ (σ':=aA 50 [(0,_),(1,_),(2,_),(6,_),(7,_)] [((0,9),_),((6,0),_)] [(0,9)] [(0,9)]) kp ?_
  refine an (aV rfl (fJ rfl rfl rfl (ai (aS rfl rfl (aO (aq (am (aV rfl (jv rfl rfl rfl (cE rfl ?_))))))))))
  refine ax rfl rfl (aH _ (rfl:_=AV.v (.string _))) (ax rfl rfl (aK (r:=true) _ _ Tryz.underlying9 rfl rfl (by rw [h3];rfl)) ?_)
  refine aj (az _ _ _ rfl (rfl:_=AV.v (.bool _))) (ai (bR rfl rfl (am (bN rfl (dv rfl (aV rfl (aj (bP (hb)) (cF rfl rfl rfl rfl rfl rfl (ai (aE ?_))))))))))
  exact aW (.inr rfl) rfl (.cellA aa rfl rfl rfl) (Le.outI [] [] (.agg rfl lz) rfl rfl rfl trivial ob tr rfl)
 rw [if_neg h3] at h
 by_cases h4:pr=7
 ·rw [if_pos h4] at h
  obtain ⟨ha,hb⟩:=ih.prim _ _ _ hl hi h
  refine ⟨ha,?_⟩
  subst h4
  have h3:(cK T i).t≠[45]:=fun e=> h3 ⟨rfl,e⟩
  refine Spec.ofNI Tryz.func226 rfl Tryz.ntmps226 rfl ?_
  refine am (aj (aR (6,0) aa rfl rfl) (ai (aq (am (bN rfl (aj (aJ _ rfl rfl) (bu rfl rfl rfl (cw rfl rfl rfl (aj (bY (r:=false) _ _ rfl rfl rfl) (ai ?_))))))))))
  refine aS rfl rfl (aO (am (bN rfl (aj (bm aa _ _ ar (bL T i N hi) tr rfl ae (by simp)) ?_))))
  refine mi rfl (ai (aq (am (aV rfl (fJ rfl rfl rfl (cE rfl (aN rfl rfl ah ?_)))))))
  refine aN rfl rfl ah ?_
  refine aj (az _ _ _ rfl (rfl:_=AV.v (.bool _))) (ai (aS rfl rfl (aO (aq (aq ?_)))))
  refine aQ (σ':=aA 50 [(0,_),(1,_),(2,_),(6,_),(7,_)] [((0,9),_),((6,0),_)] [(0,9)] [(0,9)]) kp ?_
  refine an (aV rfl (fJ rfl rfl rfl (ai (aS rfl rfl (aO (aq (am (aV rfl (jv rfl rfl rfl (cE rfl ?_))))))))))
  refine ax rfl rfl (aH _ (rfl:_=AV.v (.string _))) (ax rfl rfl (aK (r:=false) _ _ Tryz.underlying9 rfl rfl (beq_eq_false_iff_ne.2 h3)) ?_)
  refine aj (az _ _ _ rfl (rfl:_=AV.v (.bool _))) (ai (aS rfl rfl (aO (aq (am (aV rfl (jv rfl rfl rfl (ai (bR rfl rfl (aT fun K13 hK13=> ?_))))))))))
  refine an (bN rfl (aV rfl (aj (bP (hb)) (cF rfl rfl rfl rfl rfl rfl (aI (hK13 _ ?_))))))
  clear hK13;try clear K13
  exact aE (aW (.inr rfl) rfl (.cellA aa rfl rfl rfl) (Le.outI [] [] (.agg rfl lz) rfl rfl rfl trivial ob tr rfl))
 rw [if_neg h4] at h
 obtain ⟨ha,hb⟩:=ih.bin _ _ _ _ hl ab hi h
 refine ⟨ha,?_⟩
 refine Spec.ofNI Tryz.func226 rfl Tryz.ntmps226 rfl ?_
 refine am (aj (aR (6,0) aa rfl rfl) (ai (aq (am (bN rfl (aj (aJ _ rfl rfl) (bu rfl rfl rfl (cw rfl rfl rfl (aj (bY (r:=false) _ _ rfl rfl rfl) (ai ?_))))))))))
 refine aS rfl rfl (aO (am (bN rfl (aj (bm aa _ _ ar (bL T i N hi) tr rfl ae (by simp)) ?_))))
 refine mi rfl (ai (aq (am (aV rfl (fJ rfl rfl (beq_eq_false_iff_ne.2 ab) ?_)))))
 refine cE rfl (aN rfl rfl ah ?_)
 refine aN rfl rfl ah ?_
 refine aj (az _ _ _ rfl (rfl:_=AV.v (.bool _))) (ai (aS rfl rfl (aO (aq (aq ?_)))))
 refine aQ (σ':=aA 50 [(0,_),(1,_),(2,_),(6,_),(7,_)] [((0,9),_),((6,0),_)] [(0,9)] [(0,9)]) kp ?_
 refine an (aV rfl (fJ rfl rfl (beq_eq_false_iff_ne.2 ab) ?_))
 refine ai (aS rfl rfl (aO (aq (am (aV rfl (fJ rfl rfl (beq_eq_false_iff_ne.2 ab) ?_))))))
 refine cE rfl (aN rfl rfl ah ?_)
 refine aN rfl rfl ah ?_
 refine aj (az _ _ _ rfl (rfl:_=AV.v (.bool _))) (ai (aS rfl rfl (aO (aq (am (aV rfl (fJ rfl rfl (beq_eq_false_iff_ne.2 ab) ?_)))))))
 refine ai (aS rfl rfl (aO (aT fun K13 hK13=> ?_)))
 refine an (bN rfl (aV rfl (aV rfl (aj (bP (hb)) (cF rfl rfl rfl rfl rfl rfl (aI (hK13 _ ?_)))))))
 clear hK13;try clear K13
 exact aE (aW (.inr rfl) rfl (.cellA aa rfl rfl rfl) (Le.outI [] [] (.agg rfl lz) rfl rfl rfl trivial ob tr rfl))
theorem zy (hT:T.length≤100000) (f:Nat) (ih:PE T N f) (s:Tx) (lv pr i:Nat) (r:Nd×Nat) (hl:lv≤20) (hp:1≤pr∧pr≤7) (hi:i < T.length) (h:Ck T (f+1) s lv pr i=some r):
  r.2 < T.length∧Spec Tryz.prog 235 (aY [.ptr (0,9) 0, .v (bt s), .v (.int .i64 (lv:Int)), .v (.int .i64 (pr:Int))] (dn T i N)) (PO T N r):=by
 unfold Ck at h
 simp only [Option.bind_eq_bind,Option.bind_eq_some_iff,Option.pure_def,Option.some.injEq] at h
 obtain ⟨j,hj,⟨d,j2⟩,hd,rfl⟩:=h
 have ho:=iq hj
 have hjl:=gH ho.2 hi
 obtain ⟨ha,hb⟩:=ih.expr _ _ _ _ ho.1 hp hjl hd
 have hopen:=ls T i j N s (lv+1) hi hT hj
 refine ⟨ha,?_⟩
 refine Spec.ofNI Tryz.func235 rfl Tryz.ntmps235 rfl ?_
 refine am (aj (aR (8,0) aa rfl rfl) (ai (am (bN rfl (dv rfl (aV rfl (aj (aZ _ _ rfl rfl (bJ ab)) ?_)))))))
 refine aj (bP (hopen)) (ai (aT fun K3 hK3=> ?_))
 refine an (bN rfl (aV rfl (aj (aZ _ _ rfl rfl (bJ ab)) ?_)))
 refine aV rfl (aj (bP (hb)) (aj (aR (9,0) aa rfl rfl) (cF rfl rfl rfl rfl rfl rfl (aI (hK3 _ ?_)))))
 clear hK3;try clear K3
 refine am (dv rfl (aj (aX _ aa rfl rfl rfl rfl) (aj (bi _ _ aa rfl ag (by (simp <;> rfl)) ah rfl) ?_)))
 refine aj (aF _ aa rfl (by exact (rfl:_=some [_,_,_,_]))) ?_
 exact cF rfl rfl rfl rfl rfl rfl (ai (aE (aW (.inr rfl) rfl (.cellA aa rfl rfl rfl) (Le.outI [] [] (.agg rfl lz) rfl rfl rfl trivial ob tr rfl))))
theorem um (hT:T.length≤100000) (f:Nat) (ih:PE T N f) (lv i:Nat) (r:Nd×Nat) (hl:lv≤20) (hi:i < T.length) (h:nU T (f+1) lv i=some r):
  r.2 < T.length∧Spec Tryz.prog 240 (aY [.ptr (0,9) 0, .v (.int .i64 (lv:Int))] (dn T i N)) (PO T N r):=by
 unfold nU at h
 simp only [Option.bind_eq_bind,Option.bind_eq_some_iff,Option.pure_def,Option.some.injEq] at h
 obtain ⟨j,hj,⟨d,j2⟩,hd,j3,hj3,rfl⟩:=h
 have ho:=iq hj
 have hjl:=gH ho.2 hi
 obtain ⟨ha,hb⟩:=ih.expr _ _ _ _ ho.1 ab hjl hd
 have hopen:=ls T i j N [40] (lv+1) hi hT hj
 have hexp:=ev T j2 j3 N [41] ha hT hj3
 refine ⟨gH hj3 ha,?_⟩
 refine Spec.ofNI Tryz.func240 rfl Tryz.ntmps240 rfl ?_
 refine am (aj (aR (4,0) aa rfl rfl) (ai (am (bN rfl (aV rfl (aj (aZ _ _ rfl rfl (bJ ab)) ?_))))))
 refine aj (bP (hopen)) (ai (aT fun K3 hK3=> ?_))
 refine an (bN rfl (aV rfl (aj (aZ _ _ rfl rfl (bJ ab)) ?_)))
 refine aj (bP (hb)) (aj (aR (5,0) aa rfl rfl) (cF rfl rfl rfl rfl rfl rfl (aI (hK3 _ ?_))))
 clear hK3;try clear K3
 refine aT fun K4 hK4=> ?_
 refine an (bN rfl (aj (bP (hexp)) (aI (hK4 _ ?_))))
 clear hK4;try clear K4
 exact am (aj (aX _ aa rfl rfl rfl rfl) (cF rfl rfl rfl rfl rfl rfl (ai (aE (aW (.inr rfl) rfl (.cellA aa rfl rfl rfl) (Le.outI [] [] (.agg rfl lz) rfl rfl rfl trivial ob tr rfl))))))
theorem tA (hT:T.length≤100000) (f:Nat) (ih:PE T N f) (lv i:Nat) (r:Nd×Nat) (hl:lv≤20) (hi:i < T.length) (h:pL T (f+1) lv i=some r):
  r.2 < T.length∧Spec Tryz.prog 237 (aY [.ptr (0,9) 0, .v (.int .i64 (lv:Int))] (dn T i N)) (PO T N r):=by
 have htl:=dy hi
 have htake:=ca T i N hi hT
 unfold pL at h
 simp only at h
 by_cases h1:(cK T i).t=[40]
 ·rw [if_pos h1] at h
  obtain ⟨ha,hb⟩:=ih.nest _ _ _ hl hi h
  refine ⟨ha,?_⟩
  refine Spec.ofNI Tryz.func237 rfl Tryz.ntmps237 rfl ?_
  refine am (aj (aR (4,0) aa rfl rfl) (ai (aq (bT 11 [8,9,10,11,12,13,14,15,16,17,5] [(5,0)] ae ae rfl (aM rfl) (rfl:_=[_,_,_,_,_,_,_,_,_,_,_]) (rfl:_=[_]) ?_))))
  refine ap (_,[]) (fun τ=> aH _ (rfl:_=AV.ptr _ _)) ?_
  refine fO rfl ?_
  refine ap (_,[]) (fun τ=> aJ _ rfl rfl) ?_
  refine fR rfl ?_
  refine ap (_,[]) (fun τ=> aD _ aa rfl rfl rfl) ?_
  refine fT rfl ?_
  refine ap (_,[]) (fun τ=> aG _ aa rfl rfl (rfl:_=some (AV.sl _ _))) ?_
  refine fP rfl ?_
  refine ap (_,[]) (fun τ=> aH _ (rfl:_=AV.ptr _ _)) ?_
  refine gb rfl ?_
  refine ap (_,[]) (fun τ=> aJ _ rfl rfl) ?_
  refine gC rfl ?_
  refine ap (_,[]) (fun τ=> aD _ aa rfl rfl rfl) ?_
  refine iy rfl ?_
  refine ap (_,[]) (fun τ=> aG _ aa rfl rfl (rfl:_=some (AV.v (.int _ _)))) ?_
  refine jy rfl ?_
  refine ap (_,[]) (fun τ=> bl _ _ aa rfl rfl _ rfl ab (by (simp only [aU,bj,bh,bq,bp];omega)) ag) ?_
  refine jr rfl ?_
  refine ap (_,[]) (fun τ=> bZ _ aa rfl (by exact kI _ _ hi) rfl) ?_
  refine fq rfl ?_
  refine ap (_,[((5,0),_)]) (fun τ=> aR (5,0) aa rfl rfl) ?_
  refine fv rfl (bw ⟨rfl,?_⟩)
  refine cF rfl rfl rfl rfl rfl rfl (ai (aq (am (bu rfl rfl rfl (aj (aG _ aa rfl rfl (rfl:_=some (AV.v (.string _)))) (aj (aK (r:=true) _ _ Tryz.underlying9 rfl rfl (by rw [h1];rfl)) ?_))))))
  refine ai (bR rfl rfl (aq ?_))
  refine aQ (σ':=aA 72 [(0,_),(1,_),(4,_)] [((0,9),_),((4,0),_)] [(0,9)] [(0,9)]) kp ?_
  exact an (bN rfl (aV rfl (aj (bP (hb)) (cF rfl rfl rfl rfl rfl rfl (ai (aE (aW (.inr rfl) rfl (.cellA aa rfl rfl rfl) (Le.outI [] [] (.agg rfl lz) rfl rfl rfl trivial ob tr rfl))))))))
 rw [if_neg h1] at h
 by_cases h2:(cK T i).t=wM
 ·rw [if_pos h2] at h
  simp only [Option.bind_eq_bind,Option.bind_eq_some_iff,Option.pure_def,Option.some.injEq] at h
  obtain ⟨⟨d,j⟩,hd,rfl⟩:=h
  obtain ⟨ha,hb⟩:=ih.nest _ _ _ hl htl hd
  refine ⟨ha,?_⟩
  refine Spec.ofNI Tryz.func237 rfl Tryz.ntmps237 rfl ?_
  refine am (aj (aR (4,0) aa rfl rfl) (ai (aq (bT 11 [8,9,10,11,12,13,14,15,16,17,5] [(5,0)] ae ae rfl (aM rfl) (rfl:_=[_,_,_,_,_,_,_,_,_,_,_]) (rfl:_=[_]) ?_))))
  refine ap (_,[]) (fun τ=> aH _ (rfl:_=AV.ptr _ _)) ?_
  refine fO rfl ?_
  refine ap (_,[]) (fun τ=> aJ _ rfl rfl) ?_
  refine fR rfl ?_
  refine ap (_,[]) (fun τ=> aD _ aa rfl rfl rfl) ?_
  refine fT rfl ?_
  refine ap (_,[]) (fun τ=> aG _ aa rfl rfl (rfl:_=some (AV.sl _ _))) ?_
  refine fP rfl ?_
  refine ap (_,[]) (fun τ=> aH _ (rfl:_=AV.ptr _ _)) ?_
  refine gb rfl ?_
  refine ap (_,[]) (fun τ=> aJ _ rfl rfl) ?_
  refine gC rfl ?_
  refine ap (_,[]) (fun τ=> aD _ aa rfl rfl rfl) ?_
  refine iy rfl ?_
  refine ap (_,[]) (fun τ=> aG _ aa rfl rfl (rfl:_=some (AV.v (.int _ _)))) ?_
  refine jy rfl ?_
  refine ap (_,[]) (fun τ=> bl _ _ aa rfl rfl _ rfl ab (by (simp only [aU,bj,bh,bq,bp];omega)) ag) ?_
  refine jr rfl ?_
  refine ap (_,[]) (fun τ=> bZ _ aa rfl (by exact kI _ _ hi) rfl) ?_
  refine fq rfl ?_
  refine ap (_,[((5,0),_)]) (fun τ=> aR (5,0) aa rfl rfl) ?_
  refine fv rfl (bw ⟨rfl,?_⟩)
  refine cF rfl rfl rfl rfl rfl rfl (ai (aq (am (bu rfl rfl rfl (aj (aG _ aa rfl rfl (rfl:_=some (AV.v (.string _)))) (aj (aK (r:=false) _ _ Tryz.underlying9 rfl rfl (beq_eq_false_iff_ne.2 h1)) ?_))))))
  refine ai (aS rfl rfl (aO (aq (aq ?_))))
  refine aQ (σ':=aA 72 [(0,_),(1,_),(4,_),(5,_)] [((0,9),_),((4,0),_),((5,0),_)] [(0,9)] [(0,9)]) kp ?_
  refine an (bu rfl rfl rfl (aj (aG _ aa rfl rfl (rfl:_=some (AV.v (.string _)))) (aj (aK (r:=true) _ _ Tryz.underlying9 rfl rfl (by rw [h2];rfl)) ?_)))
  refine ai (bR rfl rfl (am (bN rfl (aj (bP (htake)) (ai (aT fun K8 hK8=> ?_))))))
  refine an (bN rfl (aV rfl (aj (bP (hb)) (aj (aR (6,0) aa rfl rfl) (cF rfl rfl rfl rfl rfl rfl (aI (hK8 _ ?_)))))))
  clear hK8;try clear K8
  refine am (aj (aX _ aa rfl rfl rfl rfl) (aj (bi _ _ aa rfl ag (by (simp <;> rfl)) ah rfl) ?_))
  refine aj (aF _ aa rfl (by exact (rfl:_=some [_,_,_,_]))) ?_
  exact cF rfl rfl rfl rfl rfl rfl (ai (aE (aW (.inr rfl) rfl (.cellA aa rfl rfl rfl) (Le.outI [] [] (.agg rfl lz) rfl rfl rfl trivial ob tr rfl))))
 rw [if_neg h2] at h
 have hr:r.2=bK T i:=by
  repeat' split at h
  all_goals first | (rw [← Option.some.inj h];done) | cases h
 refine ⟨by rw [hr];exact htl,?_⟩
 refine Spec.ofNI Tryz.func237 rfl Tryz.ntmps237 rfl ?_
 refine am (aj (aR (4,0) aa rfl rfl) (ai (aq (bT 11 [8,9,10,11,12,13,14,15,16,17,5] [(5,0)] ae ae rfl (aM rfl) (rfl:_=[_,_,_,_,_,_,_,_,_,_,_]) (rfl:_=[_]) ?_))))
 refine ap (_,[]) (fun τ=> aH _ (rfl:_=AV.ptr _ _)) ?_
 refine fO rfl ?_
 refine ap (_,[]) (fun τ=> aJ _ rfl rfl) ?_
 refine fR rfl ?_
 refine ap (_,[]) (fun τ=> aD _ aa rfl rfl rfl) ?_
 refine fT rfl ?_
 refine ap (_,[]) (fun τ=> aG _ aa rfl rfl (rfl:_=some (AV.sl _ _))) ?_
 refine fP rfl ?_
 refine ap (_,[]) (fun τ=> aH _ (rfl:_=AV.ptr _ _)) ?_
 refine gb rfl ?_
 refine ap (_,[]) (fun τ=> aJ _ rfl rfl) ?_
 refine gC rfl ?_
 refine ap (_,[]) (fun τ=> aD _ aa rfl rfl rfl) ?_
 refine iy rfl ?_
 refine ap (_,[]) (fun τ=> aG _ aa rfl rfl (rfl:_=some (AV.v (.int _ _)))) ?_
 refine jy rfl ?_
 refine ap (_,[]) (fun τ=> bl _ _ aa rfl rfl _ rfl ab (by (simp only [aU,bj,bh,bq,bp];omega)) ag) ?_
 refine jr rfl ?_
 refine ap (_,[]) (fun τ=> bZ _ aa rfl (by exact kI _ _ hi) rfl) ?_
 refine fq rfl ?_
 refine ap (_,[((5,0),_)]) (fun τ=> aR (5,0) aa rfl rfl) ?_
 refine fv rfl (bw ⟨rfl,?_⟩)
 refine cF rfl rfl rfl rfl rfl rfl (ai (aq (am (bu rfl rfl rfl (aj (aG _ aa rfl rfl (rfl:_=some (AV.v (.string _)))) (aj (aK (r:=false) _ _ Tryz.underlying9 rfl rfl (beq_eq_false_iff_ne.2 h1)) ?_))))))
 refine ai (aS rfl rfl (aO (aq (aq ?_))))
 refine aQ (σ':=aA 72 [(0,_),(1,_),(4,_),(5,_)] [((0,9),_),((4,0),_),((5,0),_)] [(0,9)] [(0,9)]) kp ?_
 refine an (bu rfl rfl rfl (aj (aG _ aa rfl rfl (rfl:_=some (AV.v (.string _)))) (aj (aK (r:=false) _ _ Tryz.underlying9 rfl rfl (beq_eq_false_iff_ne.2 h2)) ?_)))
 refine ai (aS rfl rfl (aO (am (aj (aF _ aa rfl (by exact (rfl:_=some [_,_,_,_]))) ?_))))
 refine aj (aR (7,0) aa rfl rfl) (cF rfl rfl rfl rfl rfl rfl (ai (aT fun K8 hK8=> ?_)))
 refine am (bu rfl rfl rfl (cw rfl rfl rfl (aj (bH _ _ rfl rfl rfl) (ai (aP rfl (fun hc38=> ?_) (fun hc38=> ?_))))))
 ·skip
  rw [if_pos ab] at h
  obtain rfl:=Option.some.inj h
  refine an (bu rfl rfl rfl (cw rfl rfl rfl (aj (aF _ aa rfl (by exact (rfl:_=some [_,_,_,_]))) ?_)))
  refine cF rfl rfl rfl rfl rfl rfl (aI (hK8 _ ?_))
  clear hK8;try clear K8
  refine am (bN rfl (aj (bP (htake)) (ai (aq ?_))))
  refine aQ (σ':=aA 72 [(4,_),(7,_)] [((4,0),_),((7,0),_),((0,9),_)] [(0,9)] [(0,9)]) kp ?_
  exact an (aj (aX _ aa rfl rfl rfl rfl) (cF rfl rfl rfl rfl rfl rfl (ai (aE (aW (.inr rfl) rfl (.cellA aa rfl rfl rfl) (Le.outI [] [] (.agg rfl lz) rfl rfl rfl trivial ob tr rfl))))))
 ·skip
  rw [if_neg ab] at h
  refine am (bu rfl rfl rfl (aj (aG _ aa rfl rfl (rfl:_=some (AV.v (.string _)))) (aj (aK _ _ Tryz.underlying9 rfl rfl rfl) (ai (aP rfl (fun hc44=> ?_) (fun hc44=> ?_))))))
  ·skip
   rw [if_pos (show (cK T i).t=rJ from hc44)] at h
   obtain rfl:=Option.some.inj h
   refine an (aj (aF _ aa rfl (by exact (rfl:_=some [_,_,_,_]))) ?_)
   refine cF rfl rfl rfl rfl rfl rfl (aI (hK8 _ ?_))
   clear hK8;try clear K8
   refine am (bN rfl (aj (bP (htake)) (ai (aq ?_))))
   refine aQ (σ':=aA 72 [(4,_),(7,_)] [((4,0),_),((7,0),_),((0,9),_)] [(0,9)] [(0,9)]) kp ?_
   exact an (aj (aX _ aa rfl rfl rfl rfl) (cF rfl rfl rfl rfl rfl rfl (ai (aE (aW (.inr rfl) rfl (.cellA aa rfl rfl rfl) (Le.outI [] [] (.agg rfl lz) rfl rfl rfl trivial ob tr rfl))))))
  ·skip
   rw [if_neg (show ¬ (cK T i).t=rJ from hc44)] at h
   refine am (bu rfl rfl rfl (aj (aG _ aa rfl rfl (rfl:_=some (AV.v (.string _)))) (aj (aK _ _ Tryz.underlying9 rfl rfl rfl) (ai (aP rfl (fun hc48=> ?_) (fun hc48=> ?_))))))
   ·skip
    rw [if_pos (show (cK T i).t=oV from hc48)] at h
    obtain rfl:=Option.some.inj h
    refine aQ (σ':=aA 72 [(0,_),(4,_),(7,_)] [((0,9),_),((4,0),_),((7,0),_)] [(0,9)] [(0,9)]) kp ?_
    refine an (aj (aF _ aa rfl (by exact (rfl:_=some [_,_,_,_]))) ?_)
    refine cF rfl rfl rfl rfl rfl rfl (aI (hK8 _ ?_))
    clear hK8;try clear K8
    exact am (bN rfl (aj (bP (htake)) (ai (am (aj (aX _ aa rfl rfl rfl rfl) (cF rfl rfl rfl rfl rfl rfl (ai (aE (aW (.inr rfl) rfl (.cellA aa rfl rfl rfl) (Le.outI [] [] (.agg rfl lz) rfl rfl rfl trivial ob tr rfl))))))))))
   ·skip
    rw [if_neg (show ¬ (cK T i).t=oV from hc48)] at h
    refine aq ?_
    refine aQ (σ':=aA 72 [(0,_),(4,_),(5,_),(7,_)] [((0,9),_),((4,0),_),((5,0),_),((7,0),_)] [(0,9)] [(0,9)]) kp ?_
    refine bT 4 [50,51,52,53] [] ae ae rfl (aM rfl) (rfl:_=[_,_,_,_]) (rfl:_=[]) ?_
    refine ap (_,[]) (fun τ=> (aC aa (by repeat' (exact eP)) (jU) rfl rfl)) ?_
    refine fO rfl ?_
    refine ap (_,[]) (fun τ=> aD _ aa rfl rfl rfl) ?_
    refine fR rfl ?_
    refine ap (_,[]) (fun τ=> aG _ aa rfl rfl (rfl:_=some (AV.v (.string _)))) ?_
    refine fT rfl ?_
    refine ap (_,[]) (fun τ=> (aC aa al (ci bltT 9 rfl ab (cK T i).t) rfl rfl)) ?_
    refine fP rfl (bw ⟨rfl,?_⟩)
    refine ai (aP rfl (fun hc53=> ?_) (fun hc53=> ?_))
    ·skip
     rw [if_pos hc53] at h
     obtain rfl:=Option.some.inj h
     refine an (bu rfl rfl rfl (aj (aG _ aa rfl rfl (rfl:_=some (AV.v (.string _)))) (aj (aF _ aa rfl (by exact (rfl:_=some [_,_,_,_]))) ?_)))
     refine cF rfl rfl rfl rfl rfl rfl (aI (hK8 _ ?_))
     clear hK8;try clear K8
     exact am (bN rfl (aj (bP (htake)) (ai (am (aj (aX _ aa rfl rfl rfl rfl) (cF rfl rfl rfl rfl rfl rfl (ai (aE (aW (.inr rfl) rfl (.cellA aa rfl rfl rfl) (Le.outI [] [] (.agg rfl lz) rfl rfl rfl trivial ob tr rfl))))))))))
    ·skip
     rw [if_neg hc53] at h
     refine am (bN rfl (aj (bm aa _ _ ar (dj T i N hi) tr rfl ae (by simp)) ?_))
     refine ai (aP rfl (fun hc58=> ?_) (fun hc58=> ?_))
     ·skip
      rw [if_pos hc58] at h
      obtain rfl:=Option.some.inj h
      refine an (bu rfl rfl rfl (aj (aG _ aa rfl rfl (rfl:_=some (AV.v (.string _)))) (aj (aF _ aa rfl (by exact (rfl:_=some [_,_,_,_]))) ?_)))
      refine cF rfl rfl rfl rfl rfl rfl (aI (hK8 _ ?_))
      clear hK8;try clear K8
      exact am (bN rfl (aj (bP (htake)) (ai (am (aj (aX _ aa rfl rfl rfl rfl) (cF rfl rfl rfl rfl rfl rfl (ai (aE (aW (.inr rfl) rfl (.cellA aa rfl rfl rfl) (Le.outI [] [] (.agg rfl lz) rfl rfl rfl trivial ob tr rfl))))))))))
     ·skip
      exact absurd h (by rw [if_neg (by simp [hc58])];exact fun e=> by cases e)
theorem zI (pr:Nat) (h:1≤pr∧pr≤6∧pr≠3):([PV.v (.slice none 0 0), .sl 1 (ed [[124,124]]), .sl 1 (ed [[38,38]]), .v (.slice none 0 0), .sl 6 (ed [[60],[60,61],[62],[62,61],[61,61],[33,61]]), .sl 2 (ed [[43],[45]]), .sl 2 (ed [[42],[47]])]:List PV)[pr]? =some (.sl (opsP.getD pr []).length (ed (opsP.getD pr []))):=by
 have:pr=1∨pr=2∨pr=4∨pr=5∨pr=6:=by omega
 rcases this with rfl | rfl | rfl | rfl | rfl <;> rfl
theorem yL (pr:Nat):(opsP.getD pr []).length≤6:=by
 unfold opsP
 match pr with
 | 0=> decide | 1=> decide | 2=> decide | 3=> decide | 4=> decide | 5=> decide | 6=> decide
 | n+7=> simp
theorem ny {f lv pr:Nat} {d:Nd} {i:Nat} {r:Nd×Nat} (h:lg T f lv pr d i=some r): ∃ g,f=g+1∧((cK T i).t∉opsP.getD pr []∧r=(d,i)∨(cK T i).t∈opsP.getD pr []∧ ∃ e j,fe T g lv (pr+1) (bK T i)=some (e,j)∧
  (pr=4∧r=(nd 18 0 (cK T i).t [d,e],j)∨pr≠4∧lg T g lv pr (nd 18 0 (cK T i).t [d,e]) j=some r)):=by
 cases f with
 | zero=> simp [lg] at h
 | succ g=>
  refine ⟨g,rfl,?_⟩
  unfold lg at h
  split at h
  ·rename_i hm
   simp only [Option.bind_eq_bind,Option.bind_eq_some_iff,Option.pure_def] at h
   obtain ⟨⟨e,j⟩,he,h⟩:=h
   refine .inr ⟨hm,e,j,he,?_⟩
   split at h
   ·rename_i h4;exact .inl ⟨h4,(Option.some.inj h).symm⟩
   ·rename_i h4;exact .inr ⟨h4,h⟩
  ·rename_i hm;exact .inl ⟨hm,(Option.some.inj h).symm⟩
theorem vI (hT:T.length≤100000) (f:Nat) (ih: ∀ g,g≤f→PE T N g) (lv pr i:Nat) (r:Nd×Nat) (hl:lv≤20) (hp:1≤pr∧pr≤6∧pr≠3) (hi:i < T.length) (h:tS T (f+1) lv pr i=some r):
  r.2 < T.length∧Spec Tryz.prog 236 (aY [.ptr (0,9) 0, .v (.int .i64 (lv:Int)), .v (.int .i64 (pr:Int))] (dn T i N)) (PO T N r):=by
 unfold tS at h
 simp only [Option.bind_eq_bind,Option.bind_eq_some_iff] at h
 obtain ⟨⟨d,j⟩,hd,h⟩:=h
 simp only at h
 obtain ⟨ha,hb⟩:=(ih f (Nat.le_refl _)).expr _ _ _ _ hl ab hi hd
 have hend: ∀ (g:Nat) (d:Nd) (i:Nat),g≤f→i < T.length→lg T g lv pr d i=some r→r.2 < T.length:=by
  intro g
  induction g with
  | zero=> intro d i _ _ h;simp [lg] at h
  | succ g ihg=>
   intro d i hg hi h
   obtain ⟨g',hg',h | ⟨_,e,j,he,h⟩⟩:=ny h
   ·rw [h.2];exact hi
   ·obtain rfl:g=g':=by omega
    have hj:=((ih g ab).expr _ _ _ _ hl ab (dy hi) he).1
    rcases h with h | h
    ·rw [h.2];exact hj
    ·exact ihg _ _ ab hj h.2
 refine ⟨hend f d j (Nat.le_refl _) ha h,?_⟩
 have hol:=yL pr
 refine Spec.ofNI Tryz.func236 rfl Tryz.ntmps236 rfl ?_
 refine am (aj (aR (6,0) aa rfl rfl) (ai (am (aj (bi _ _ aa rfl ag (by (simp <;> rfl)) ah rfl) ?_))))
 refine aj (bi _ _ aa rfl ag (by (simp <;> rfl)) ah rfl) ?_
 refine aj (bi _ _ aa rfl ag (by (simp <;> rfl)) ah rfl) ?_
 refine aj (bi _ _ aa rfl ag (by (simp <;> rfl)) ah rfl) ?_
 refine aj (bi _ _ aa rfl ag (by (simp <;> rfl)) ah rfl) ?_
 refine aj (bi _ _ aa rfl ag (by (simp <;> rfl)) ah rfl) ?_
 refine jS rfl (ai (am (bN rfl (aV rfl (aV rfl (aj (aZ _ _ rfl rfl (bJ ab)) ?_))))))
 refine aj (bP (hb)) (aj (aR (8,0) aa rfl rfl) (cF rfl rfl rfl rfl rfl rfl (ai (aT fun K4 hK4=> ?_))))
 refine au ?_
 refine bv (α:=Nat×Nd×Nat) (fun z=> z.1≤f∧z.2.2 < T.length∧lg T z.1 lv pr z.2.1 z.2.2=some r) 53 [(0,_),(1,_),(2,_),(6,_),(7,_),(8,_)] [((6,0),_)] (fun z=> []) (fun z=> [((0,9), .box 222 [.sl T.length (pi T), .v (.int .i64 (z.2.2:Int)), .v (.int .i64 0), .v (.int .i64 0), .sl N.length (ed N)]),((8,0), .box 71 [.v (.int .i64 (z.2.1.k:Int)), .v (.int .i64 (z.2.1.n:Int)), .v (bt z.2.1.s), .sl z.2.1.kn z.2.1.kids])]) [(0,9)] [(0,9)] (fun z=> z.1) (f,d,j) ?_ (by
  refine Le.mkJ [] [] rfl ?_ ?_ trivial tr ?_
  ·exact ⟨(iP rfl),(iV rfl),(iV rfl),(iP rfl),(iS rfl),(iP rfl),trivial⟩
  ·exact ⟨(cH rfl rfl rfl),(gz rfl rfl rfl rfl lz),(gz rfl rfl rfl rfl (px (px (aB (by repeat' (exact Lv.v)) lz)))),trivial⟩
  ·kernel_rfl) ?_
 ·exact ⟨Nat.le_refl _,ha,h⟩
 intro z hz
 obtain ⟨z1,z2,z3⟩:=z
 obtain ⟨hz1,hz2,hz3⟩:=hz
 obtain ⟨g,rfl,hm⟩:=ny hz3
 simp only at hz1 hz2 hm ⊢
 refine aT fun K5 hK5=> ?_
 refine aq (bT 14 [22,23,24,25,26,27,28,29,30,31,32,33,34,35] [] ae ae rfl (aM rfl) (rfl:_=[_,_,_,_,_,_,_,_,_,_,_,_,_,_]) (rfl:_=[]) ?_)
 refine ap (_,[]) (fun τ=> aH _ (rfl:_=AV.ptr _ _)) ?_
 refine fO rfl ?_
 refine ap (_,[]) (fun τ=> aJ _ rfl rfl) ?_
 refine fR rfl ?_
 refine ap (_,[]) (fun τ=> aD _ aa rfl rfl rfl) ?_
 refine fT rfl ?_
 refine ap (_,[]) (fun τ=> aG _ aa rfl rfl (rfl:_=some (AV.v (.int _ _)))) ?_
 refine fP rfl ?_
 refine ap (_,[]) (fun τ=> bH (r:=true) _ _ rfl rfl rfl) ?_
 refine gb rfl ?_
 refine ap (_,[]) (fun τ=> aH _ (rfl:_=AV.v (.bool _))) ?_
 refine gC rfl ?_
 refine bO (_,[]) rfl (fun τ=> rfl) (fun τ=> aH _ (rfl:_=AV.sl _ _)) ?_
 refine iy rfl ?_
 refine bO (_,[]) rfl (fun τ=> rfl) (fun τ=> aH _ (rfl:_=AV.v (.int _ _))) ?_
 refine jy rfl ?_
 refine bO (_,[]) rfl (fun τ=> rfl) (fun τ=> bl _ _ aa rfl rfl _ rfl ab ah (by exact Nat.mul_one _)) ?_
 refine jr rfl ?_
 refine bO (_,[]) rfl (fun τ=> rfl) (fun τ=> bU _ aa rfl (by exact zI pr hp) rfl) ?_
 refine fq rfl ?_
 refine bO (_,[]) rfl (fun τ=> rfl) (fun τ=> aH _ (rfl:_=AV.ptr _ _)) ?_
 refine fv rfl ?_
 refine bO (_,[]) rfl (fun τ=> rfl) (fun τ=> (bm aa _ _ ar (bL T z3 N hz2) tr rfl ae (by simp))) ?_
 refine jf rfl ?_
 refine bO (_,[]) rfl (fun τ=> rfl) (fun τ=> (aC aa al (ci (opsP.getD pr []) _ rfl ab (cK T z3).t) rfl rfl)) ?_
 refine jR rfl ?_
 refine ap (_,[]) (fun τ=> az _ _ _ rfl (rfl:_=AV.v (.bool _))) ?_
 refine mh rfl (bw ⟨rfl,?_⟩)
 refine ai (aP rfl (fun hc35=> ?_) (fun hc35=> ?_))
 ·skip
  obtain ⟨_,e,je,he,hm⟩:=hm.resolve_left fun x=> x.1 hc35
  obtain ⟨hea,heb⟩:=(ih g ab).expr _ _ _ _ hl ab (dy hz2) he
  refine bA (hK5 _ ?_)
  clear hK5;try clear K5
  refine au (am (bN rfl (aj (bm aa _ _ ar (bL T z3 N hz2) tr rfl ae (by simp)) ?_)))
  refine mi rfl (ai (aq ?_))
  refine aQ (σ':=aA 53 [(0,_),(1,_),(2,_),(6,_),(7,_),(8,_),(9,_)] [((6,0),_),((0,9),_),((8,0),_)] [(0,9)] [(0,9)]) kp ?_
  refine an (bN rfl (aj (bP (ca T z3 N hz2 hT)) ?_))
  refine ai (aT fun K9 hK9=> ?_)
  refine an (bN rfl (aV rfl (aV rfl (aj (aZ _ _ rfl rfl (bJ ab)) ?_))))
  refine aj (bP (heb)) (aj (aR (10,0) aa rfl rfl) (cF rfl rfl rfl rfl rfl rfl (aI (hK9 _ ?_))))
  clear hK9;try clear K9
  refine am (dv rfl (aj (aX _ aa rfl rfl rfl rfl) (aj (aX _ aa rfl rfl rfl rfl) (aj (bi _ _ aa rfl ag (by (simp <;> rfl)) ah rfl) ?_))))
  refine aj (aF _ aa rfl (by exact (rfl:_=some [_,_,_,_]))) ?_
  refine cF rfl rfl rfl rfl rfl rfl (ai (aq ?_))
  refine aQ (σ':=aA 53 [(0,_),(1,_),(2,_),(6,_),(7,_),(8,_)] [((6,0),_),((0,9),_),((8,0),_)] [(0,9)] [(0,9)]) kp ?_
  refine an (aV rfl (aj (bH _ _ rfl rfl rfl) (ai (aP rfl (fun hc51=> ?_) (fun hc51=> ?_)))))
  ·skip
   have hr:=(hm.resolve_right fun x=> x.1 ab).2
   subst hr
   refine bI (id (hK4 _ ?_))
   clear hK4;try clear K4
   exact am (aj (aX _ aa rfl rfl rfl rfl) (cF rfl rfl rfl rfl rfl rfl (ai (aE (aW (.inr rfl) rfl (.cellA aa rfl rfl rfl) (Le.outI [] [] (.agg rfl lz) rfl rfl rfl trivial ob tr rfl))))))
  ·skip
   have hm:=(hm.resolve_left fun x=> hc51 ab).2
   refine bA (⟨(g,nd 18 0 (cK T z3).t [z2,e],je),?_,?_,?_⟩)
   ·exact ⟨by simp only;omega,hea,hm⟩
   ·skip
    refine Le.mkJ [] [] rfl ?_ ?_ trivial tr ?_
    ·exact ⟨(iP rfl),(iV rfl),(iV rfl),(iP rfl),(iS rfl),(iP rfl),trivial⟩
    ·exact ⟨(cH rfl rfl rfl),(gz rfl rfl rfl rfl lz),(gz rfl rfl rfl rfl (px (px (aB (by repeat' (exact Lv.v)) lz)))),trivial⟩
    ·kernel_rfl
   ·simp only;omega
 ·skip
  have hr:=(hm.resolve_right fun x=> hc35 x.1).2
  subst hr
  refine bI (id (hK4 _ ?_))
  clear hK4;try clear K4
  exact am (aj (aX _ aa rfl rfl rfl rfl) (cF rfl rfl rfl rfl rfl rfl (ai (aE (aW (.inr rfl) rfl (.cellA aa rfl rfl rfl) (Le.outI [] [] (.agg rfl lz) rfl rfl rfl trivial ob tr rfl))))))
theorem BD (hT:T.length≤100000): ∀ f g,g≤f→PE T N g:=by
 intro f
 induction f with
 | zero=>
  intro g hg
  obtain rfl:g=0:=by omega
  exact ⟨fun _ _ _ _ _ _ _ h=> by simp [fe] at h,fun _ _ _ _ _ _ _ _ h=> by simp [Ck] at h,fun _ _ _ _ _ _ _ h=> by simp [tS] at h,fun _ _ _ _ _ h=> by simp [nU] at h,fun _ _ _ _ _ h=> by simp [pL] at h⟩
 | succ f ih=>
  intro g hg
  rcases Nat.lt_or_ge g (f+1) with h | h
  ·exact ih g ab
  ·obtain rfl:g=f+1:=by omega
   exact ⟨uA f (ih f (Nat.le_refl _)),zy hT f (ih f (Nat.le_refl _)),vI hT f ih,um hT f (ih f (Nat.le_refl _)),tA hT f (ih f (Nat.le_refl _))⟩
theorem tK (hT:T.length≤100000) {f lv i:Nat} {r:Nd×Nat} (hl:lv≤20) (hi:i < T.length) (h:fe T f lv 1 i=some r):r.2 < T.length∧Spec Tryz.prog 226 (aY [.ptr (0,9) 0, .v (.int .i64 (lv:Int)), .v (.int .i64 1)] (dn T i N)) (PO T N r):=
 (BD hT f f (Nat.le_refl _)).expr lv 1 i r hl ab hi h
end
end Go.Proofs.YtmjnackchaahbaaGreat

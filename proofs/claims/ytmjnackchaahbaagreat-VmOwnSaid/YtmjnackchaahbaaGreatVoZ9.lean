/- Part 9 of the texts that the walk leans on: the machine, the walks, the plain laws. -/
import Derived.Test.YtmjnackchaahbaaGreatVoZ8
set_option linter.unusedSimpArgs false
set_option linter.unusedVariables false
namespace Go.Proofs.YtmjnackchaahbaaGreat
open Go.RowKit

theorem mS (b:UInt8):Spec Tryz.prog 221 (bk [.v (.int .u8 (b.toNat:Int))] []) (aW (.v (.bool (lH b))) []):=by
 have h:=yZ b
 refine Spec.ofN Tryz.func221 rfl Tryz.ntmps221 rfl ?_
 refine am (cw rfl (aj (am (aS rfl (ai (fc _ _ rfl rfl rfl) (cP rfl (dH (fun hg5=> ?_) (fun hg5=> ?_))))))))
 ·skip
  have h:lH b=decide ((b.toNat:Int)≤122):=by rw [Bool.eq_iff_iff,h];simp [hg5]
  refine aA rfl rfl (aE _ (rfl:_=AV.v (.int _ _))) (aA rfl rfl (bM _ _ rfl rfl rfl) (ai (aH _ _ _ rfl (rfl:_=AV.v (.bool _))) (cw rfl (aj (aD (aY (.inr rfl) rfl (.tmp (rfl:_=AV.v (.bool _))) (Le.out [] [] (gR ?_) rfl rfl rfl trivial trivial)))))))
  exact h
 ·skip
  have h:lH b=false:=Cj h (fun x=> by omega)
  refine aU rfl rfl ah ?_
  refine aU rfl rfl ah ?_
  refine ai (aH _ _ _ rfl (rfl:_=AV.v (.bool _))) (cw rfl (aj (aD (aY (.inr rfl) rfl (.tmp (rfl:_=AV.v (.bool _))) (Le.out [] [] (gR ?_) rfl rfl rfl trivial trivial)))))
  exact h
theorem kY (b:UInt8):Spec Tryz.prog 222 (bk [.v (.int .u8 (b.toNat:Int))] []) (aW (.v (.bool (fI b))) []):=by
 have h:=sB b
 refine Spec.ofN Tryz.func222 rfl Tryz.ntmps222 rfl ?_
 refine am (cw rfl (aj (am (aS rfl (ai (fc _ _ rfl rfl rfl) (cP rfl (dH (fun hg5=> ?_) (fun hg5=> ?_))))))))
 ·skip
  have h:fI b=decide ((b.toNat:Int)≤57):=by rw [Bool.eq_iff_iff,h];simp [hg5]
  refine aA rfl rfl (aE _ (rfl:_=AV.v (.int _ _))) (aA rfl rfl (bM _ _ rfl rfl rfl) (ai (aH _ _ _ rfl (rfl:_=AV.v (.bool _))) (cw rfl (aj (aD (aY (.inr rfl) rfl (.tmp (rfl:_=AV.v (.bool _))) (Le.out [] [] (gR ?_) rfl rfl rfl trivial trivial)))))))
  exact h
 ·skip
  have h:fI b=false:=Cj h (fun x=> by omega)
  refine aU rfl rfl ah ?_
  refine aU rfl rfl ah ?_
  refine ai (aH _ _ _ rfl (rfl:_=AV.v (.bool _))) (cw rfl (aj (aD (aY (.inr rfl) rfl (.tmp (rfl:_=AV.v (.bool _))) (Le.out [] [] (gR ?_) rfl rfl rfl trivial trivial)))))
  exact h
theorem oG (l:List Tx) (n:Nat) (hn:l.length=n) (h1:n≤1000) (t:Tx):Spec Tryz.prog 224 (bk [.sl n (dT l), .v (bt t)] []) (aW (.v (.bool (decide (t∈l)))) []):=by
 refine Spec.ofN Tryz.func224 rfl Tryz.ntmps224 rfl ?_
 refine am (cw rfl (aj (aG fun K2 hK2=> ?_)))
 refine am (aZ rfl (aj (au ?_)))
 refine bB (α:=Nat) (fun k=> k≤n∧t∉l.take k) 18 [(0,_),(1,_)] [] (fun k=> [(5, .v (.int .i64 (k:Int)))]) (fun k=> []) [] [] (fun k=> n - k) 0 ?_ (by
  refine Le.mkJ [] [] rfl ?_ ?_ trivial trivial ?_
  ·exact ⟨(iS rfl),(iV rfl),(co ag),trivial⟩
  ·exact trivial
  ·kernel_rfl) ?_
 ·exact ⟨Nat.zero_le _,by simp⟩
 intro k hk
 obtain ⟨hk,hnt⟩:=hk
 refine aG fun K4 hK4=> ?_
 refine am (aS rfl (ez rfl (ai (bH _ aa rfl) (ai (bq _ _ rfl rfl rfl) (aj (aV rfl (fun hc9=> ?_) (fun hc9=> ?_)))))))
 ·skip
  refine bz (hK4 _ ?_)
  clear hK4;try clear K4
  refine aq (au (am (ez rfl (aS rfl (ai (bg _ _ aa rfl rfl _ rfl ab (by (simp only [ba,bo,bm,bC];omega)) (by exact Nat.mul_one _)) ?_)))))
  refine ai (bG _ aa rfl (by exact fu _ _ ab) rfl) ?_
  refine dL rfl (ai (aT _ _ Tryz.underlying9 rfl rfl rfl) (aj (aV rfl (fun hc17=> ?_) (fun hc17=> ?_))))
  ·skip
   refine am (cw rfl (aj (aD (aY (.inr rfl) rfl (.tmp (rfl:_=AV.v (.bool _))) (Le.out [] [] (gR ?_) rfl rfl rfl trivial trivial)))))
   exact decide_eq_true (hc17 ▸ iW ab)
  ·skip
   refine cg (an (aS rfl (ai (be _ _ rfl rfl (br ab)) ?_)))
   refine aZ rfl (az (⟨k+1,?_,?_,?_⟩))
   ·exact ⟨by omega,jo hnt ab hc17⟩
   ·skip
    refine Le.mkJ [] [] rfl ?_ ?_ trivial trivial ?_
    ·exact ⟨(iS rfl),(iV rfl),(co ag),trivial⟩
    ·exact trivial
    ·kernel_rfl
   ·omega
 ·skip
  have hall:t∉l:=by rwa [List.take_of_length_le ab] at hnt
  refine bK (id (hK2 _ ?_))
  clear hK2;try clear K2
  refine am (cw rfl (aj (aD (aY (.inr rfl) rfl (.tmp (rfl:_=AV.v (.bool _))) (Le.out [] [] (gR ?_) rfl rfl rfl trivial trivial)))))
  exact decide_eq_false hall
theorem pI (s:Tx) (at_:Nat) (h1:s.length≤100000) (ha:at_≤s.length):Spec Tryz.prog 194 (bk [.v (bt s), .v (.int .i64 (at_:Int))] []) (aW (.v (.int .i64 (jw s at_ false:Int))) []):=by
 refine Spec.ofN Tryz.func194 rfl Tryz.ntmps194 rfl ?_
 refine am (aZ rfl (aj (aG fun K2 hK2=> ?_)))
 refine au ?_
 refine bB (α:=Nat) (fun k=> k≤s.length∧jw s k false=jw s at_ false) 41 [(0,_)] [] (fun k=> [(1, .v (.int .i64 (k:Int)))]) (fun k=> []) [] [] (fun k=> s.length - k) at_ ?_ (by
  refine Le.mkJ [] [] rfl ?_ ?_ trivial trivial ?_
  ·exact ⟨(iV rfl),(co ag),trivial⟩
  ·exact trivial
  ·kernel_rfl) ?_
 ·exact ⟨ha,rfl⟩
 intro k hk
 obtain ⟨hk,hs⟩:=hk
 refine aG fun K3 hK3=> ?_
 refine am (aS rfl (dL rfl (ai (gn _ Tryz.underlying9 rfl) (ai (bq _ _ rfl rfl rfl) (aj (aV rfl (fun hc9=> ?_) (fun hc9=> ?_)))))))
 ·skip
  obtain ⟨b,hb⟩:=jb (s:=s) (a:=k) ab
  have hbi:=LX b
  refine bz (hK3 _ ?_)
  clear hK3;try clear K3
  refine au (am (dL rfl (aS rfl (ai (jW _ _ Tryz.underlying9 rfl rfl (by assumption)) ?_))))
  refine aZ rfl (aj (am (aS rfl (ai (bT _ _ rfl rfl rfl) (aj (aV rfl (fun hc14=> ?_) (fun hc14=> ?_)))))))
  ·skip
   have hs:=(xN hb ab).symm.trans hs
   refine au ?_
   refine bB (α:=Nat) (fun j=> k≤j∧j≤s.length∧jw s j true=jw s at_ false∧(j=k→j < s.length)) 41 [(0,_)] [] (fun j=> [(1, .v (.int .i64 (j:Int)))]) (fun j=> []) [] [] (fun j=> s.length - j) k ?_ (by
    refine Le.mkJ [] [] rfl ?_ ?_ trivial trivial ?_
    ·exact ⟨(iV rfl),(co ag),trivial⟩
    ·exact trivial
    ·kernel_rfl) ?_
   ·exact ⟨Nat.le_refl _,by omega,hs,fun _=> by omega⟩
   intro j hj
   obtain ⟨hj1,hj2,hsj,hjk⟩:=hj
   refine aG fun K7 hK7=> ?_
   refine aG fun K8 hK8=> ?_
   refine an (aS rfl (dL rfl (ai (gn _ Tryz.underlying9 rfl) (ai (bq _ _ rfl rfl rfl) (cP rfl (dH (fun hg19=> ?_) (fun hg19=> ?_)))))))
   ·skip
    obtain ⟨u,hu⟩:=jb (s:=s) (a:=j) ab
    have hui:=LX u
    refine aA rfl rfl (aE _ (rfl:_=AV.v (.string _))) (aA rfl rfl (aE _ (rfl:_=AV.v (.int _ _))) (aA rfl rfl (jW _ _ Tryz.underlying9 rfl rfl (by assumption)) ?_))
    refine aA rfl rfl (cb _ _ rfl rfl rfl) (ai (aH _ _ _ rfl (rfl:_=AV.v (.bool _))) (az (hK8 _ ?_)))
    clear hK8;try clear K8
    refine aV rfl (fun hc24=> ?_) (fun hc24=> ?_)
    ·skip
     refine bz (hK7 _ ?_)
     clear hK7;try clear K7
     refine au (an (aS rfl (ai (be _ _ rfl rfl (br ab)) ?_)))
     refine aZ rfl (az (⟨j+1,?_,?_,?_⟩))
     ·exact ⟨by omega,by omega,(CU hu ab).symm.trans hsj,fun _=> by omega⟩
     ·skip
      refine Le.mkJ [] [] rfl ?_ ?_ trivial trivial ?_
      ·exact ⟨(iV rfl),(co ag),trivial⟩
      ·exact trivial
      ·kernel_rfl
     ·omega
    ·skip
     have hjs:jw s j false=jw s at_ false:=by rw [← hsj,Du hu ab]
     have hjk':k < j:=Nat.lt_of_le_of_ne hj1 fun e=> by subst e;rw [hb] at hu;obtain rfl:=Option.some.inj hu;omega
     refine bK (id (⟨j,?_,?_,?_⟩))
     ·exact ⟨hj2,hjs⟩
     ·skip
      refine Le.mkJ [] [] rfl ?_ ?_ trivial trivial ?_
      ·exact ⟨(iV rfl),(co ag),trivial⟩
      ·exact trivial
      ·kernel_rfl
     ·omega
   ·skip
    have hjs:jw s j false=jw s at_ false:=by rw [← hsj,qf ab,qf ab]
    have hjk':k < j:=Nat.lt_of_le_of_ne hj1 fun e=> by have:=hjk e.symm;omega
    refine aU rfl rfl ah ?_
    refine aU rfl rfl ah ?_
    refine aU rfl rfl ah ?_
    refine aU rfl rfl ah ?_
    refine ai (aH _ _ _ rfl (rfl:_=AV.v (.bool _))) (az (hK8 _ ?_))
    clear hK8;try clear K8
    refine aR rfl rfl (bK (id (⟨j,?_,?_,?_⟩)))
    ·exact ⟨hj2,hjs⟩
    ·skip
     refine Le.mkJ [] [] rfl ?_ ?_ trivial trivial ?_
     ·exact ⟨(iV rfl),(co ag),trivial⟩
     ·exact trivial
     ·kernel_rfl
    ·omega
  ·skip
   refine am (aS rfl (ai (bT _ _ rfl rfl rfl) (cP rfl (dH (fun hg29=> ?_) (fun hg29=> ?_)))))
   ·skip
    have hs2:jw s (k+1) false=jw s at_ false:=(sY hb ab ab).symm.trans hs
    refine aU rfl rfl ah ?_
    refine aU rfl rfl ah ?_
    refine ai (aH _ _ _ rfl (rfl:_=AV.v (.bool _))) (cP rfl (aU rfl rfl ah ?_))
    refine aU rfl rfl ah ?_
    refine ai (aH _ _ _ rfl (rfl:_=AV.v (.bool _))) (aj (bF rfl rfl ?_))
    refine aO (σ':=aB 41 [(0,_),(1,_)] [] [] []) kp ?_
    refine an (aS rfl (ai (be _ _ rfl rfl (br ab)) ?_))
    refine aZ rfl (az (⟨k+1,?_,?_,?_⟩))
    ·exact ⟨by omega,hs2⟩
    ·skip
     refine Le.mkJ [] [] rfl ?_ ?_ trivial trivial ?_
     ·exact ⟨(iV rfl),(co ag),trivial⟩
     ·exact trivial
     ·kernel_rfl
    ·omega
   ·skip
    refine aA rfl rfl (aE _ (rfl:_=AV.v (.int _ _))) (aA rfl rfl (bT _ _ rfl rfl rfl) (ai (aH _ _ _ rfl (rfl:_=AV.v (.bool _))) (cP rfl (dH (fun hg33=> ?_) (fun hg33=> ?_)))))
    ·skip
     have hs2:jw s (k+1) false=jw s at_ false:=(sY hb ab ab).symm.trans hs
     refine aU rfl rfl ah ?_
     refine aU rfl rfl ah ?_
     refine ai (aH _ _ _ rfl (rfl:_=AV.v (.bool _))) (aj (bF rfl rfl ?_))
     refine aO (σ':=aB 41 [(0,_),(1,_)] [] [] []) kp ?_
     refine an (aS rfl (ai (be _ _ rfl rfl (br ab)) ?_))
     refine aZ rfl (az (⟨k+1,?_,?_,?_⟩))
     ·exact ⟨by omega,hs2⟩
     ·skip
      refine Le.mkJ [] [] rfl ?_ ?_ trivial trivial ?_
      ·exact ⟨(iV rfl),(co ag),trivial⟩
      ·exact trivial
      ·kernel_rfl
     ·omega
    ·skip
     refine aA rfl rfl (aE _ (rfl:_=AV.v (.int _ _))) (aA rfl rfl (bT _ _ rfl rfl rfl) (ai (aH _ _ _ rfl (rfl:_=AV.v (.bool _))) (aj (aV rfl (fun hc36=> ?_) (fun hc36=> ?_)))))
     ·skip
      have hs2:jw s (k+1) false=jw s at_ false:=(sY hb ab ab).symm.trans hs
      refine aO (σ':=aB 41 [(0,_),(1,_)] [] [] []) kp ?_
      refine an (aS rfl (ai (be _ _ rfl rfl (br ab)) ?_))
      refine aZ rfl (az (⟨k+1,?_,?_,?_⟩))
      ·exact ⟨by omega,hs2⟩
      ·skip
       refine Le.mkJ [] [] rfl ?_ ?_ trivial trivial ?_
       ·exact ⟨(iV rfl),(co ag),trivial⟩
       ·exact trivial
       ·kernel_rfl
      ·omega
     ·skip
      have hs3:=(AI hb ab ab).symm.trans hs
      refine aq ?_
      refine aO (σ':=aB 41 [(1,_)] [] [] []) kp ?_
      refine an (aS rfl (aZ rfl (aj (aD (aY (.inr rfl) rfl (.tmp (rfl:_=AV.v (.int _ _))) (Le.out [] [] (co ?_) rfl rfl rfl trivial trivial))))))
      rw [hs3]
 ·skip
  refine bK (id (hK2 _ ?_))
  clear hK2;try clear K2
  refine am (aS rfl (aZ rfl (aj (aD (aY (.inr rfl) rfl (.tmp (rfl:_=AV.v (.int _ _))) (Le.out [] [] (co ?_) rfl rfl rfl trivial trivial))))))
  rw [← hs,qf ab]
theorem nN (s:Tx) (h1:s.length≤100000) (hd: ∀ b∈s,fI b=true) (hv:jx s≤2147483647):Spec Tryz.prog 223 (bk [.v (bt s)] []) (aW (.v (.int .i64 (jx s:Int))) []):=by
 have hvt:=fun i=> uO s i
 refine Spec.ofN Tryz.func223 rfl Tryz.ntmps223 rfl ?_
 refine am (aZ rfl (aj (am (aZ rfl (aj (aG fun K3 hK3=> ?_))))))
 refine am (aZ rfl (aj (au ?_)))
 refine bB (α:=Nat) (fun k=> k≤s.length) 22 [(0,_)] [] (fun k=> [(3, .v (.int .i64 (jx (s.take k):Int))),(4, .v (.int .i64 (k:Int)))]) (fun k=> []) [] [] (fun k=> s.length - k) 0 ?_ (by
  refine Le.mkJ [] [] rfl ?_ ?_ trivial trivial ?_
  ·exact ⟨(iV rfl),(co ag),(co ag),trivial⟩
  ·exact trivial
  ·kernel_rfl) ?_
 ·omega
 intro k hk
 refine aG fun K5 hK5=> ?_
 refine am (aS rfl (dL rfl (ai (gn _ Tryz.underlying9 rfl) (ai (bq _ _ rfl rfl rfl) (aj (aV rfl (fun hc8=> ?_) (fun hc8=> ?_)))))))
 ·skip
  obtain ⟨b,hb⟩:=jb (s:=s) (a:=k) ab
  have hbi:=LX b
  have hbd:=(sB b).1 (hd b (List.mem_of_getElem? hb))
  have hvs:=uD hb
  have hv0:=hvt k
  have hv1:=hvt (k+1)
  have hvi:(10:Int)*(jx (s.take k):Int)+(b.toNat:Int) - 48=(jx (s.take (k+1)):Int):=by omega
  refine bz (hK5 _ ?_)
  clear hK5;try clear K5
  refine aq (au (am (aS rfl (ai (xf _ _ rfl rfl (br ab)) ?_))))
  refine dL rfl (aS rfl (ai (jW _ _ Tryz.underlying9 rfl rfl (by assumption)) ?_))
  refine ai (Bb _ Tryz.underlying5 Tryz.underlying3 rfl (br ab)) ?_
  refine ai (be _ _ rfl rfl (br ab)) ?_
  refine ai (ce _ _ rfl rfl (br ab)) ?_
  refine aZ rfl (aj (am (aS rfl (ai (dB _ _ rfl rfl rfl) (aj (aR rfl (decide_eq_false ab) ?_))))))
  refine cg ?_
  refine aO (σ':=aB 22 [(0,_),(3,_),(4,_)] [] [] []) kp ?_
  refine an (aS rfl (ai (be _ _ rfl rfl (br ab)) ?_))
  refine aZ rfl (az (⟨k+1,?_,?_,?_⟩))
  ·omega
  ·skip
   refine Le.mkJ [] [] rfl ?_ ?_ trivial trivial ?_
   ·exact ⟨(iV rfl),(co ab),(co ag),trivial⟩
   ·exact trivial
   ·kernel_rfl
  ·omega
 ·skip
  have he:s.take k=s:=List.take_of_length_le ab
  refine bK (id (hK3 _ ?_))
  clear hK3;try clear K3
  refine am (aS rfl (aZ rfl (aj (aD (aY (.inr rfl) rfl (.tmp (rfl:_=AV.v (.int _ _))) (Le.out [] [] (co ?_) rfl rfl rfl trivial trivial))))))
  rw [he]

theorem wS {p:UInt8→Bool} {c:UInt8}: ∀ {l:List UInt8},c∈l.takeWhile p→p c=true
 | [],h=> by simp at h
 | x::l,h=> by
  rw [List.takeWhile_cons] at h
  split at h
  ·rename_i hx
   rcases List.mem_cons.1 h with rfl | h
   ·exact hx
   ·exact wS h
  ·simp at h
def qV (c:UInt8):Bool:=lH c || fI c
theorem pv {s:Tx} {a:Nat} {b:UInt8} {t:Tk} (hb:s[a]? =some b) (h1:lH b=true) (h:oR (s.drop a) a=some t):jV qV s (a+1) - a≤10∧t=⟨1,a,(s.drop a).take (jV qV s (a+1) - a),0⟩:=by
 rw [qN hb]
 rw [fv hb,oR] at h
 simp only [h1,if_true] at h
 rw [show jV qV s (a+1) - a=(b::(s.drop (a+1)).takeWhile fun x=> lH x || fI x).length by unfold jV qV;rw [List.length_cons];omega]
 split at h
 ·cases h
 ·rename_i hl;exact ⟨by omega,(Option.some.inj h).symm⟩
theorem rk {s:Tx} {a:Nat} {b:UInt8} {t:Tk} (hb:s[a]? =some b) (h1:lH b=false) (h2:fI b=true) (h:oR (s.drop a) a=some t):
  (∀ c∈(s.drop a).take (jV fI s (a+1) - a),fI c=true)∧jx ((s.drop a).take (jV fI s (a+1) - a))≤2147483647∧t=⟨2,a,(s.drop a).take (jV fI s (a+1) - a),jx ((s.drop a).take (jV fI s (a+1) - a))⟩:=by
 rw [qN hb]
 rw [fv hb,oR] at h
 simp only [h1,h2,if_true] at h
 simp only [Bool.false_eq_true,if_false] at h
 split at h
 ·cases h
 ·rename_i hl
  refine ⟨fun c hc=> ?_,by omega,(Option.some.inj h).symm⟩
  rcases List.mem_cons.1 hc with rfl | hc
  ·exact h2
  ·exact wS hc
theorem qR {s:Tx} {a:Nat} {b:UInt8} {t:Tk} (hb:s[a]? =some b) (h1:lH b=false) (h2:fI b=false) (h:oR (s.drop a) a=some t):
  ((s.drop a).take 2∈Bz∧t=⟨3,a,(s.drop a).take 2,0⟩)∨((s.drop a).take 2∉Bz∧(s.drop a).take 1∈Cv∧t=⟨3,a,(s.drop a).take 1,0⟩):=by
 rw [fv hb,oR] at h
 simp only [h1,h2,Bool.false_eq_true,if_false] at h
 rw [fv hb]
 split at h
 ·rename_i hm;exact .inl ⟨hm,(Option.some.inj h).symm⟩
 ·rename_i hm
  split at h
  ·rename_i hs;exact .inr ⟨hm,hs,(Option.some.inj h).symm⟩
  ·cases h
theorem wr {s:Tx} {a:Nat} (h:a < s.length):(s.drop a).take (min (a+2) s.length - a)=(s.drop a).take 2:=by
 by_cases h2:a+2≤s.length
 ·congr 1;omega
 ·rw [List.take_of_length_le (by rw [List.length_drop];omega),List.take_of_length_le (by rw [List.length_drop];omega)]
theorem sV (s:Tx) (a:Nat) (h1:s.length≤100000) (ha:a < s.length) (t:Tk) (ht:oR (s.drop a) a=some t):
  Spec Tryz.prog 195 (bk [.v (bt s), .v (.int .i64 (a:Int))] []) (aW (.tup [.agg [.v (.int .i64 (t.k:Int)), .v (.int .i64 (t.a:Int)), .v (bt t.t), .v (.int .i64 (t.n:Int))], .v (.int .i64 0)]) []):=by
 obtain ⟨b,hb⟩:=jb ha
 have hwl:=qD (p:=qV) (s:=s) (a:=a+1) ab
 have hdl:=qD (p:=fI) (s:=s) (a:=a+1) ab
 refine Spec.ofN Tryz.func195 rfl Tryz.ntmps195 rfl ?_
 refine am (ai (ax (4,0) aa rfl rfl) (aZ rfl (aj (am (aS rfl (ai (be _ _ rfl rfl (br ab)) ?_))))))
 refine aZ rfl (aj (aq (am (dL rfl (aS rfl (ai (jW _ _ Tryz.underlying9 rfl rfl (by assumption)) ?_))))))
 refine ai (aM aa al (mS b) rfl rfl) ?_
 refine aj (aV rfl (fun hc15=> ?_) (fun hc15=> ?_))
 ·skip
  obtain ⟨htl,hte⟩:=pv hb hc15 ht
  refine aG fun K5 hK5=> ?_
  refine au ?_
  refine bB (α:=Nat) (fun e=> a+1≤e∧e≤s.length∧jV qV s e=jV qV s (a+1)) 101 [(0,_),(1,_),(4,_)] [((4,0),_)] (fun e=> [(6, .v (.int .i64 (e:Int)))]) (fun e=> []) [] [] (fun e=> s.length - e) (a+1) ?_ (by
   refine Le.mkJ [] [] rfl ?_ ?_ trivial trivial ?_
   ·exact ⟨(iV rfl),(iV rfl),(iP rfl),(co ag),trivial⟩
   ·exact ⟨(cI rfl rfl rfl),trivial⟩
   ·kernel_rfl) ?_
  ·exact ⟨Nat.le_refl _,by omega,rfl⟩
  intro e he
  obtain ⟨he1,he2,het⟩:=he
  refine aG fun K6 hK6=> ?_
  refine aG fun K7 hK7=> ?_
  refine an (aS rfl (dL rfl (ai (gn _ Tryz.underlying9 rfl) (ai (bq _ _ rfl rfl rfl) (cP rfl (dH (fun hg20=> ?_) (fun hg20=> ?_)))))))
  ·skip
   obtain ⟨u,hu⟩:=jb (s:=s) (a:=e) ab
   refine aA rfl rfl (aE _ (rfl:_=AV.v (.string _))) (aA rfl rfl (aE _ (rfl:_=AV.v (.int _ _))) (aA rfl rfl (jW _ _ Tryz.underlying9 rfl rfl (by assumption)) ?_))
   refine aA rfl rfl (aM aa al (mS u) rfl rfl) ?_
   refine aA rfl rfl (aE _ (rfl:_=AV.v (.bool _))) (dH (fun hg25=> ?_) (fun hg25=> ?_))
   ·skip
    have hnx:jV qV s (e+1)=jV qV s (a+1):=(qh hu (by unfold qV;rw [hg25];rfl)).symm.trans het
    refine aU rfl rfl ah ?_
    refine aU rfl rfl ah ?_
    refine aU rfl rfl ah ?_
    refine aU rfl rfl ah ?_
    refine aA rfl rfl (aH _ _ _ rfl (rfl:_=AV.v (.bool _))) (ai (aH _ _ _ rfl (rfl:_=AV.v (.bool _))) (az (hK7 _ ?_)))
    clear hK7;try clear K7
    refine bF rfl rfl (bz (hK6 _ ?_))
    clear hK6;try clear K6
    refine au ?_
    refine aO (σ':=aB 101 [(0,_),(1,_),(4,_),(6,_)] [((4,0),_)] [] []) kp ?_
    refine an (aS rfl (ai (be _ _ rfl rfl (br ab)) ?_))
    refine aZ rfl (az (⟨e+1,?_,?_,?_⟩))
    ·exact ⟨by omega,by omega,hnx⟩
    ·skip
     refine Le.mkJ [] [] rfl ?_ ?_ trivial trivial ?_
     ·exact ⟨(iV rfl),(iV rfl),(iP rfl),(co ag),trivial⟩
     ·exact ⟨(cI rfl rfl rfl),trivial⟩
     ·kernel_rfl
    ·omega
   ·skip
    refine aA rfl rfl (aE _ (rfl:_=AV.v (.string _))) (aA rfl rfl (aE _ (rfl:_=AV.v (.int _ _))) (aA rfl rfl (jW _ _ Tryz.underlying9 rfl rfl (by assumption)) ?_))
    refine aA rfl rfl (aM aa al (kY u) rfl rfl) ?_
    refine aA rfl rfl (aH _ _ _ rfl (rfl:_=AV.v (.bool _))) (ai (aH _ _ _ rfl (rfl:_=AV.v (.bool _))) (az (hK7 _ ?_)))
    clear hK7;try clear K7
    refine aV rfl (fun hc31=> ?_) (fun hc31=> ?_)
    ·skip
     have hnx:jV qV s (e+1)=jV qV s (a+1):=(qh hu (by unfold qV;rw [hg25,hc31];rfl)).symm.trans het
     refine bz (hK6 _ ?_)
     clear hK6;try clear K6
     refine au ?_
     refine aO (σ':=aB 101 [(0,_),(1,_),(4,_),(6,_)] [((4,0),_)] [] []) kp ?_
     refine an (aS rfl (ai (be _ _ rfl rfl (br ab)) ?_))
     refine aZ rfl (az (⟨e+1,?_,?_,?_⟩))
     ·exact ⟨by omega,by omega,hnx⟩
     ·skip
      refine Le.mkJ [] [] rfl ?_ ?_ trivial trivial ?_
      ·exact ⟨(iV rfl),(iV rfl),(iP rfl),(co ag),trivial⟩
      ·exact ⟨(cI rfl rfl rfl),trivial⟩
      ·kernel_rfl
     ·omega
    ·skip
     have hfin:e=jV qV s (a+1):=(yl hu (by unfold qV;rw [hg25,hc31];rfl)).symm.trans het
     refine bK (id (hK5 _ ?_))
     clear hK5;try clear K5
     refine aq (aq ?_)
     refine aO (σ':=aB 101 [(0,_),(1,_),(4,_),(6,_)] [((4,0),_)] [] []) kp ?_
     refine an (aS rfl (aS rfl (ai (ce _ _ rfl rfl (br ab)) ?_)))
     refine ai (dB _ _ rfl rfl rfl) (aj (aR rfl (decide_eq_false ab) ?_))
     refine aJ (am (aS rfl (dL rfl (aS rfl (aS rfl (ai (jN _ _ _ Tryz.underlying9 rfl _ _ (.lit rfl rfl) (.lit rfl rfl) ab ab rfl) ?_))))))
     refine ai (ay _ aa rfl (by exact (rfl:_=some [_,_,_,_]))) ?_
     refine bL rfl rfl rfl rfl rfl rfl (aZ rfl (aj (aD ?_)))
     subst hte;subst hfin
     exact lN (.inr rfl) rfl (.cellA aa rfl rfl rfl) (.tmp (rfl:_=AV.v _)) (Le.out [] [] (.tup rfl lz) rfl rfl rfl trivial trivial)
  ·skip
   have hfin:e=jV qV s (a+1):=(tH ab).symm.trans het
   refine aU rfl rfl ah ?_
   refine aU rfl rfl ah ?_
   refine aU rfl rfl ah ?_
   refine aU rfl rfl ah ?_
   refine aU rfl rfl ah ?_
   refine mP rfl rfl (mP rfl rfl (mP rfl rfl (mP rfl rfl (aU rfl rfl ah ?_))))
   refine ai (aH _ _ _ rfl (rfl:_=AV.v (.bool _))) (az (hK7 _ ?_))
   clear hK7;try clear K7
   refine aR rfl rfl (bK (id (hK5 _ ?_)))
   clear hK5;try clear K5
   refine aq (aq ?_)
   refine aO (σ':=aB 101 [(0,_),(1,_),(4,_),(6,_)] [((4,0),_)] [] []) kp ?_
   refine an (aS rfl (aS rfl (ai (ce _ _ rfl rfl (br ab)) ?_)))
   refine ai (dB _ _ rfl rfl rfl) (aj (aR rfl (decide_eq_false ab) ?_))
   refine aJ (am (aS rfl (dL rfl (aS rfl (aS rfl (ai (jN _ _ _ Tryz.underlying9 rfl _ _ (.lit rfl rfl) (.lit rfl rfl) ab ab rfl) ?_))))))
   refine ai (ay _ aa rfl (by exact (rfl:_=some [_,_,_,_]))) ?_
   refine bL rfl rfl rfl rfl rfl rfl (aZ rfl (aj (aD ?_)))
   subst hte;subst hfin
   exact lN (.inr rfl) rfl (.cellA aa rfl rfl rfl) (.tmp (rfl:_=AV.v _)) (Le.out [] [] (.tup rfl lz) rfl rfl rfl trivial trivial)
 ·skip
  have hlb:=hc15
  refine aJ (aq (am (dL rfl (aS rfl (ai (jW _ _ Tryz.underlying9 rfl rfl (by assumption)) ?_)))))
  refine ai (aM aa al (kY b) rfl rfl) ?_
  refine aj (aV rfl (fun hc48=> ?_) (fun hc48=> ?_))
  ·skip
   obtain ⟨htd,htv,hte⟩:=rk hb hlb hc48 ht
   refine aG fun K16 hK16=> ?_
   refine au ?_
   refine bB (α:=Nat) (fun e=> a+1≤e∧e≤s.length∧jV fI s e=jV fI s (a+1)) 101 [(0,_),(1,_),(4,_)] [((4,0),_)] (fun e=> [(6, .v (.int .i64 (e:Int)))]) (fun e=> []) [] [] (fun e=> s.length - e) (a+1) ?_ (by
    refine Le.mkJ [] [] rfl ?_ ?_ trivial trivial ?_
    ·exact ⟨(iV rfl),(iV rfl),(iP rfl),(co ag),trivial⟩
    ·exact ⟨(cI rfl rfl rfl),trivial⟩
    ·kernel_rfl) ?_
   ·exact ⟨Nat.le_refl _,by omega,rfl⟩
   intro e he
   obtain ⟨he1,he2,het⟩:=he
   refine aG fun K17 hK17=> ?_
   refine aG fun K18 hK18=> ?_
   refine an (aS rfl (dL rfl (ai (gn _ Tryz.underlying9 rfl) (ai (bq _ _ rfl rfl rfl) (cP rfl (dH (fun hg53=> ?_) (fun hg53=> ?_)))))))
   ·skip
    obtain ⟨u,hu⟩:=jb (s:=s) (a:=e) ab
    refine aA rfl rfl (aE _ (rfl:_=AV.v (.string _))) (aA rfl rfl (aE _ (rfl:_=AV.v (.int _ _))) (aA rfl rfl (jW _ _ Tryz.underlying9 rfl rfl (by assumption)) ?_))
    refine aA rfl rfl (aM aa al (kY u) rfl rfl) ?_
    refine ai (aH _ _ _ rfl (rfl:_=AV.v (.bool _))) (az (hK18 _ ?_))
    clear hK18;try clear K18
    refine aV rfl (fun hc58=> ?_) (fun hc58=> ?_)
    ·skip
     have hnx:jV fI s (e+1)=jV fI s (a+1):=(qh hu hc58).symm.trans het
     refine bz (hK17 _ ?_)
     clear hK17;try clear K17
     refine au (an (aS rfl (ai (be _ _ rfl rfl (br ab)) ?_)))
     refine aZ rfl (az (⟨e+1,?_,?_,?_⟩))
     ·exact ⟨by omega,by omega,hnx⟩
     ·skip
      refine Le.mkJ [] [] rfl ?_ ?_ trivial trivial ?_
      ·exact ⟨(iV rfl),(iV rfl),(iP rfl),(co ag),trivial⟩
      ·exact ⟨(cI rfl rfl rfl),trivial⟩
      ·kernel_rfl
     ·omega
    ·skip
     have hfin:e=jV fI s (a+1):=(yl hu hc58).symm.trans het
     refine bK (id (hK16 _ ?_))
     clear hK16;try clear K16
     refine am (dL rfl (aS rfl (aS rfl (ai (jN _ _ _ Tryz.underlying9 rfl _ _ (.lit rfl rfl) (.lit rfl rfl) ab ab rfl) ?_))))
     refine ai (aM aa al (nN ((s.drop a).take (e - a)) (by simp;omega) (by rw [hfin];exact htd) (by rw [hfin];exact htv)) rfl rfl) ?_
     refine aZ rfl (aj (aq (aq ?_)))
     refine aO (σ':=aB 101 [(0,_),(1,_),(4,_),(6,_),(7,_)] [((4,0),_)] [] []) kp ?_
     refine an (aS rfl (ai (bq _ _ rfl rfl rfl) (aj (aR rfl (decide_eq_false ab) ?_))))
     refine aJ (am (aS rfl (dL rfl (aS rfl (aS rfl (ai (jN _ _ _ Tryz.underlying9 rfl _ _ (.lit rfl rfl) (.lit rfl rfl) ab ab rfl) ?_))))))
     refine aS rfl (ai (ay _ aa rfl (by exact (rfl:_=some [_,_,_,_]))) ?_)
     refine bL rfl rfl rfl rfl rfl rfl (aZ rfl (aj (aD ?_)))
     subst hte;subst hfin
     exact lN (.inr rfl) rfl (.cellA aa rfl rfl rfl) (.tmp (rfl:_=AV.v _)) (Le.out [] [] (.tup rfl lz) rfl rfl rfl trivial trivial)
   ·skip
    have hfin:e=jV fI s (a+1):=(tH ab).symm.trans het
    refine aU rfl rfl ah ?_
    refine aU rfl rfl ah ?_
    refine aU rfl rfl ah ?_
    refine aU rfl rfl ah ?_
    refine ai (aH _ _ _ rfl (rfl:_=AV.v (.bool _))) (az (hK18 _ ?_))
    clear hK18;try clear K18
    refine aR rfl rfl (bK (id (hK16 _ ?_)))
    clear hK16;try clear K16
    refine am (dL rfl (aS rfl (aS rfl (ai (jN _ _ _ Tryz.underlying9 rfl _ _ (.lit rfl rfl) (.lit rfl rfl) ab ab rfl) ?_))))
    refine ai (aM aa al (nN ((s.drop a).take (e - a)) (by simp;omega) (by rw [hfin];exact htd) (by rw [hfin];exact htv)) rfl rfl) ?_
    refine aZ rfl (aj (aq (aq ?_)))
    refine aO (σ':=aB 101 [(0,_),(1,_),(4,_),(6,_),(7,_)] [((4,0),_)] [] []) kp ?_
    refine an (aS rfl (ai (bq _ _ rfl rfl rfl) (aj (aR rfl (decide_eq_false ab) ?_))))
    refine aJ (am (aS rfl (dL rfl (aS rfl (aS rfl (ai (jN _ _ _ Tryz.underlying9 rfl _ _ (.lit rfl rfl) (.lit rfl rfl) ab ab rfl) ?_))))))
    refine aS rfl (ai (ay _ aa rfl (by exact (rfl:_=some [_,_,_,_]))) ?_)
    refine bL rfl rfl rfl rfl rfl rfl (aZ rfl (aj (aD ?_)))
    subst hte;subst hfin
    exact lN (.inr rfl) rfl (.cellA aa rfl rfl rfl) (.tmp (rfl:_=AV.v _)) (Le.out [] [] (.tup rfl lz) rfl rfl rfl trivial trivial)
  ·skip
   have hsy:=qR hb hlb hc48 ht
   refine aJ (am (dL rfl (aS rfl (aS rfl (ai (be _ _ rfl rfl (br ab)) ?_)))))
   refine dL rfl (ai (gn _ Tryz.underlying9 rfl) (ai (sI _ _ rfl rfl rfl) (ai (jN _ _ _ Tryz.underlying9 rfl a (min (a+2) s.length) (.lit rfl rfl) (.lit rfl ab) ab ab (wr ha)) ?_)))
   refine ja rfl (aj (aq (aq ?_)))
   refine aO (σ':=aB 101 [(0,_),(1,_),(4,_),(6,_),(8,_)] [((4,0),_)] [] []) kp ?_
   refine an (ai (aX _ _ aa rfl ag (by (simp <;> rfl)) ah rfl) ?_)
   refine dL rfl (ai (aM aa al (oG Bz 6 rfl ab ((s.drop a).take 2)) rfl rfl) ?_)
   refine aj (aV rfl (fun hc86=> ?_) (fun hc86=> ?_))
   ·skip
    have hte:t=⟨3,a,(s.drop a).take 2,0⟩:=hsy.elim (·.2) fun h=> absurd hc86 h.1
    refine am (aS rfl (dL rfl (ai (ay _ aa rfl (by exact (rfl:_=some [_,_,_,_]))) ?_)))
    refine bL rfl rfl rfl rfl rfl rfl (aZ rfl (aj (aD ?_)))
    subst hte
    exact lN (.inr rfl) rfl (.cellA aa rfl rfl rfl) (.tmp (rfl:_=AV.v _)) (Le.out [] [] (.tup rfl lz) rfl rfl rfl trivial trivial)
   ·skip
    obtain ⟨_,hs1,hte⟩:=hsy.resolve_left fun h=> hc86 h.1
    refine aJ (am (dL rfl (aS rfl (aS rfl (ai (jN _ _ _ Tryz.underlying9 rfl a (a+1) (.lit rfl rfl) (.lit rfl rfl) ab ab (by rw [Nat.add_sub_cancel_left])) ?_)))))
    refine ja rfl (aj (aq (am (ai (aX _ _ aa rfl ag (by (simp <;> rfl)) ah rfl) ?_))))
    refine dL rfl (ai (aM aa al (oG Cv 16 rfl ab ((s.drop a).take 1)) rfl rfl) ?_)
    refine aj (bF rfl (decide_eq_true hs1) ?_)
    refine am (aS rfl (dL rfl (ai (ay _ aa rfl (by exact (rfl:_=some [_,_,_,_]))) ?_)))
    refine bL rfl rfl rfl rfl rfl rfl (aZ rfl (aj (aD ?_)))
    subst hte
    exact lN (.inr rfl) rfl (.cellA aa rfl rfl rfl) (.tmp (rfl:_=AV.v _)) (Le.out [] [] (.tup rfl lz) rfl rfl rfl trivial trivial)
theorem kS {f:Nat} {s:Tx} {a:Nat} {l:List Tk} (h:lq (f+1) s a=some l):(s.length≤a∧l=[⟨0,s.length,[],0⟩])∨(a < s.length∧ ∃ t m,oR (s.drop a) a=some t∧lq f s (jw s (a+t.t.length) false)=some m∧l=t::m):=by
 unfold lq at h
 split at h
 ·exact .inl ⟨by assumption,(Option.some.inj h).symm⟩
 ·split at h
  ·cases h
  ·split at h
   ·cases h
   ·rename_i t ht _ m hm
    exact .inr ⟨by omega,t,m,ht,hm,(Option.some.inj h).symm⟩
theorem rW {s:Tx} {a:Nat} {t:Tk} (ha:a < s.length) (h:oR (s.drop a) a=some t):0 < t.t.length∧a+t.t.length≤s.length:=by
 obtain ⟨b,hb⟩:=jb ha
 have key: ∀ k,0 < k→0 < ((s.drop a).take k).length∧a+((s.drop a).take k).length≤s.length:=fun k hk=> by rw [List.length_take,List.length_drop];omega
 cases h1:lH b with
 | true=> obtain ⟨_,rfl⟩:=pv hb h1 h;exact key _ (by have:=qD (p:=qV) (s:=s) (a:=a+1) ab;omega)
 | false=>
  cases h2:fI b with
  | true=> obtain ⟨_,_,rfl⟩:=rk hb h1 h2 h;exact key _ (by have:=qD (p:=fI) (s:=s) (a:=a+1) ab;omega)
  | false=>
   rcases qR hb h1 h2 h with ⟨_,rfl⟩ | ⟨_,_,rfl⟩
   ·exact key _ ab
   ·exact key _ ab
def DQ (s:Tx) (l:List Tk) (z:Nat×List Tk):Prop:=z.1≤s.length∧z.2.length≤z.1∧ ∃ f m,lq f s z.1=some m∧l=z.2++m
theorem rl (s:Tx) (h1:s.length≤100000) (l:List Tk) (hl:Br s=some l):
  Spec Tryz.prog 159 (bk [.v (bt s)] []) (aW (.tup [.sl l.length (qF l), .v (.int .i64 0), .v (.int .i64 0)]) []):=by
 have hs0:=tv (s:=s) (a:=0) (Nat.zero_le _) false
 refine Spec.ofN Tryz.func159 rfl Tryz.ntmps159 rfl ?_
 refine am (ai (bA _ (rfl:_=AV.v (.slice _ _ _))) (aZ rfl (aZ rfl (aj (am (ai (oD (5,0) _ 225 4 rfl rfl) ?_))))))
 refine aj (am (dL rfl (ai (aM aa al (pI s 0 h1 (Nat.zero_le _)) rfl rfl) ?_)))
 refine aZ rfl (aj (aG fun K4 hK4=> ?_))
 refine au ?_
 refine bB (α:=Nat×List Tk) (fun z=> DQ s l z) 42 [(0,_)] [] (fun z=> [(6, .v (.int .i64 (z.1:Int))),(5, .ref (5,0) 0 z.2.length)]) (fun z=> [((5,0), .row 225 4 (qF z.2))]) [] [] (fun z=> s.length - z.1) (jw s 0 false,[]) ?_ (by
  refine Le.mkJ [] [] rfl ?_ ?_ trivial trivial ?_
  ·exact ⟨(iV rfl),(co ag),(cX rfl ag),trivial⟩
  ·exact ⟨(fJ rfl rfl rfl ag),trivial⟩
  ·kernel_rfl) ?_
 ·exact ⟨hs0.2,Nat.zero_le _,s.length+1,l,by rw [← hl];unfold Br jw;rw [List.drop_zero,Nat.zero_add],rfl⟩
 intro z hz
 obtain ⟨hz1,hz2,f,m,hf,hlm⟩:=hz
 obtain ⟨f,rfl⟩: ∃ g,f=g+1:=by cases f with | zero=> (simp [lq] at hf) | succ g=> exact ⟨g,rfl⟩
 refine aG fun K5 hK5=> ?_
 refine am (aS rfl (dL rfl (ai (gn _ Tryz.underlying9 rfl) (ai (bq _ _ rfl rfl rfl) (aj (aV rfl (fun hc14=> ?_) (fun hc14=> ?_)))))))
 ·skip
  obtain ⟨_,t,m',ht,hm',hm⟩:=(kS hf).resolve_left fun h=> by omega
  obtain ⟨htl,hta⟩:=rW ab ht
  have hsk:=tv (s:=s) (a:=z.1+t.t.length) hta false
  have hlen:(z.2++[t]).length=z.2.length+1:=by simp
  refine bz (hK5 _ ?_)
  clear hK5;try clear K5
  refine au (am (dL rfl (aS rfl (ai (aM aa al (sV s z.1 h1 ab t ht) rfl rfl) ?_))))
  refine ai (aE _ (rfl:_=AV.tup _)) (ai (dh _ rfl (rfl:_=some (AV.agg _))) (ai (dh _ rfl (rfl:_=some (AV.v (.int _ _)))) (ai (ax (7,0) aa rfl rfl) (bL rfl rfl rfl rfl rfl rfl (aZ rfl (aj (aq (am (aS rfl (ai (cb (r:=false) _ _ rfl rfl rfl) ?_))))))))))
  refine aj (aR rfl rfl (aJ (aq ?_)))
  refine aO (σ':=aB 42 [(0,_),(5,_),(6,_),(7,_)] [((5,0),_),((7,0),_)] [] []) kp ?_
  refine an (gD rfl (ai (aP _ aa rfl rfl rfl rfl) (ai (aX _ _ aa rfl ag (by (simp <;> rfl)) ah rfl) ?_)))
  refine ai (dt (28,0) _ _ aa rfl rfl (bw _).symm (.sl rfl) ab rfl (rc _ _) hlen.symm) ?_
  refine fb rfl (aj (an (dL rfl (aS rfl (bv rfl rfl rfl (ai (aL _ aa rfl rfl (rfl:_=some (AV.v (.string _)))) (ai (gn _ Tryz.underlying9 rfl) (ai (be _ _ rfl rfl (br ab)) ?_))))))))
  refine ai (aM aa al (pI s (z.1+t.t.length) h1 hta) rfl rfl) ?_
  refine aZ rfl (az (⟨(jw s (z.1+t.t.length) false,z.2++[t]),?_,?_,?_⟩))
  ·exact ⟨hsk.2,by simp only;omega,f,m',hm',by rw [hlm,hm];simp⟩
  ·skip
   refine Le.mkJ [((5,0),(28,0))] [] rfl ?_ ?_ trivial trivial ?_
   ·exact ⟨(by repeat' (exact Lv.v)),(co ag),(cX rfl ag),trivial⟩
   ·exact ⟨(fJ rfl rfl rfl ag),trivial⟩
   ·kernel_rfl
  ·simp only;omega
 ·skip
  obtain ⟨_,hm⟩:=(kS hf).resolve_right fun h=> by omega
  have hlen:(z.2++[(⟨0,s.length,[],0⟩:Tk)]).length=z.2.length+1:=by simp
  rw [hm] at hlm;subst hlm
  refine bK (id (hK4 _ ?_))
  clear hK4;try clear K4
  refine am (gD rfl (dL rfl (ai (gn _ Tryz.underlying9 rfl) (ai (ay _ aa rfl (by exact (rfl:_=some [_,_,_,_]))) ?_))))
  refine ai (aX _ _ aa rfl ag (by (simp <;> rfl)) ah rfl) ?_
  refine ai (dt (41,0) _ _ aa rfl rfl (bw _).symm (.sl rfl) ab rfl (rc _ ⟨0,s.length,[],0⟩) hlen.symm) ?_
  exact fb rfl (aZ rfl (aZ rfl (aj (aD (uJ (.inr rfl) rfl (.tmp (rfl:_=AV.ref _ _ _)) (.tmp (rfl:_=AV.v _)) (.tmp (rfl:_=AV.v _)) (Le.out [] [(41,0)] (.tup rfl (aC (gQ rfl rfl (bw _).symm rfl) lz)) rfl rfl rfl tr trivial))))))

theorem cC (l:List Tx) (n:Nat) (hn:l.length=n) (h1:n≤1000) (t:Tx):Spec Tryz.prog 199 (bk [.sl n (dT l), .v (bt t)] []) (aW (.v (.bool (decide (t∈l)))) []):=by
 refine Spec.ofN Tryz.func199 rfl Tryz.ntmps199 rfl ?_
 refine am (cw rfl (aj (aG fun K2 hK2=> ?_)))
 refine am (aZ rfl (aj (au ?_)))
 refine bB (α:=Nat) (fun k=> k≤n∧t∉l.take k) 18 [(0,_),(1,_)] [] (fun k=> [(5, .v (.int .i64 (k:Int)))]) (fun k=> []) [] [] (fun k=> n - k) 0 ?_ (by
  refine Le.mkJ [] [] rfl ?_ ?_ trivial trivial ?_
  ·exact ⟨(iS rfl),(iV rfl),(co ag),trivial⟩
  ·exact trivial
  ·kernel_rfl) ?_
 ·exact ⟨Nat.zero_le _,by simp⟩
 intro k hk
 obtain ⟨hk,hnt⟩:=hk
 refine aG fun K4 hK4=> ?_
 refine am (aS rfl (ez rfl (ai (bH _ aa rfl) (ai (bq _ _ rfl rfl rfl) (aj (aV rfl (fun hc9=> ?_) (fun hc9=> ?_)))))))
 ·skip
  refine bz (hK4 _ ?_)
  clear hK4;try clear K4
  refine aq (au (am (ez rfl (aS rfl (ai (bg _ _ aa rfl rfl _ rfl ab (by (simp only [ba,bo,bm,bC,bw];omega)) (by exact Nat.mul_one _)) ?_)))))
  refine ai (bG _ aa rfl (by exact fu _ _ ab) rfl) ?_
  refine dL rfl (ai (aT _ _ Tryz.underlying9 rfl rfl rfl) (aj (aV rfl (fun hc17=> ?_) (fun hc17=> ?_))))
  ·skip
   refine am (cw rfl (aj (aD (aY (.inr rfl) rfl (.tmp (rfl:_=AV.v (.bool _))) (Le.out [] [] (gR ?_) rfl rfl rfl trivial trivial)))))
   exact decide_eq_true (hc17 ▸ iW ab)
  ·skip
   refine cg (an (aS rfl (ai (be _ _ rfl rfl (br ab)) ?_)))
   refine aZ rfl (az (⟨k+1,?_,?_,?_⟩))
   ·exact ⟨by omega,jo hnt ab hc17⟩
   ·skip
    refine Le.mkJ [] [] rfl ?_ ?_ trivial trivial ?_
    ·exact ⟨(iS rfl),(iV rfl),(co ag),trivial⟩
    ·exact trivial
    ·kernel_rfl
   ·omega
 ·skip
  have hall:t∉l:=by rwa [List.take_of_length_le ab] at hnt
  refine bK (id (hK2 _ ?_))
  clear hK2;try clear K2
  refine am (cw rfl (aj (aD (aY (.inr rfl) rfl (.tmp (rfl:_=AV.v (.bool _))) (Le.out [] [] (gR ?_) rfl rfl rfl trivial trivial)))))
  exact decide_eq_false hall
theorem eC:Spec Tryz.prog 205 (bk [] []) (aW (.sl 9 (dT bltT)) []):=by
 refine Spec.ofN Tryz.func205 rfl Tryz.ntmps205 rfl ?_
 refine am (ai (bA _ (rfl:_=AV.v (.slice _ _ _))) (aj (am (ai (aX _ _ aa rfl ag (by (simp <;> rfl)) ah rfl) ?_))))
 exact kB rfl (aj (aD (aY (.inr rfl) rfl (.tmp (rfl:_=AV.sl _ _)) (Le.out [] [] .sl rfl rfl rfl trivial trivial))))
theorem kM (t:Tx):Spec Tryz.prog 225 (bk [.v (bt t)] []) (aW (.v (.bool (tA t))) []):=by
 refine Spec.ofN Tryz.func225 rfl Tryz.ntmps225 rfl ?_
 refine am (cw rfl (aj (am (ai (aM aa (by repeat' (exact dE)) (eC) rfl rfl) ?_))))
 refine dL rfl (ai (aM aa al (cC bltT 9 rfl ab t) rfl rfl) ?_)
 refine cP rfl (dH (fun hg6=> ?_) (fun hg6=> ?_))
 ·skip
  refine aU rfl rfl ah ?_
  refine aU rfl rfl ah ?_
  refine aU rfl rfl ah ?_
  refine ai (aH _ _ _ rfl (rfl:_=AV.v (.bool _))) (cw rfl (aj (aD (aY (.inr rfl) rfl (.tmp (rfl:_=AV.v (.bool _))) (Le.out [] [] (gR ?_) rfl rfl rfl trivial trivial)))))
  unfold tA
  (rw [decide_eq_true hg6];rfl)
 ·skip
  refine aA rfl rfl (aX _ _ aa rfl ag (by (simp <;> rfl)) ah rfl) ?_
  refine aA rfl rfl (aE _ (rfl:_=AV.v (.string _))) (aA rfl rfl (aM aa al (cC QE 19 rfl ab t) rfl rfl) ?_)
  refine ai (aH _ _ _ rfl (rfl:_=AV.v (.bool _))) (cw rfl (aj (aD (aY (.inr rfl) rfl (.tmp (rfl:_=AV.v (.bool _))) (Le.out [] [] (gR ?_) rfl rfl rfl trivial trivial)))))
  unfold tA
  (rw [decide_eq_false hg6];rfl)
theorem dM {T:List Tk} {i:Nat} (h:i < T.length):bS T i < T.length:=by unfold bS;split <;> omega
abbrev dI (T:List Tk) (i:Nat) (N:List Tx):List (aF×Cells):=[((0,9), .box 222 [.sl T.length (qF T), .v (.int .i64 (i:Int)), .v (.int .i64 0), .v (.int .i64 0), .sl N.length (dT N)])]
theorem bV (T:List Tk) (i:Nat) (N:List Tx) (hi:i < T.length):
  Spec Tryz.prog 160 (bc [.ptr (0,9) 0] (dI T i N)) (bj (.v (bt (cY T i).t)) (dI T i N) [(0,9)] [(0,9)]):=by
 refine Spec.ofNI Tryz.func160 rfl Tryz.ntmps160 rfl ?_
 refine am (ja rfl (aj (aq (bE 12 [3,4,5,6,7,8,9,10,11,12,13,2] [] ae ae rfl (aK rfl) (rfl:_=[_,_,_,_,_,_,_,_,_,_,_,_]) (rfl:_=[]) ?_))))
 refine ap (_,[]) (fun τ=> aE _ (rfl:_=AV.ptr _ _)) ?_
 refine eE rfl ?_
 refine ap (_,[]) (fun τ=> aN _ rfl rfl) ?_
 refine eF rfl ?_
 refine ap (_,[]) (fun τ=> aI _ aa rfl rfl rfl) ?_
 refine eD rfl ?_
 refine ap (_,[]) (fun τ=> aL _ aa rfl rfl (rfl:_=some (AV.sl _ _))) ?_
 refine eI rfl ?_
 refine ap (_,[]) (fun τ=> aE _ (rfl:_=AV.ptr _ _)) ?_
 refine eU rfl ?_
 refine ap (_,[]) (fun τ=> aN _ rfl rfl) ?_
 refine fh rfl ?_
 refine ap (_,[]) (fun τ=> aI _ aa rfl rfl rfl) ?_
 refine fZ rfl ?_
 refine ap (_,[]) (fun τ=> aL _ aa rfl rfl (rfl:_=some (AV.v (.int _ _)))) ?_
 refine jz rfl ?_
 refine ap (_,[]) (fun τ=> bg _ _ aa rfl rfl _ rfl ab (by (simp only [ba,bo,bm,bC,bw];omega)) ag) ?_
 refine jC rfl ?_
 refine ap (_,[]) (fun τ=> dk _ aa rfl rfl) ?_
 refine fK rfl ?_
 refine ap (_,[]) (fun τ=> bG _ aa rfl (by exact lp _ _ ab) rfl) ?_
 refine gl rfl ?_
 refine ap (_,[]) (fun τ=> bA _ (rfl:_=AV.v (.string _))) ?_
 refine kP rfl (bi ⟨rfl,?_⟩)
 exact aj (aD (aY (.inr rfl) rfl (.tmp (rfl:_=AV.v _)) (Le.outI [] [] .v rfl rfl rfl trivial ob tr rfl)))
theorem dF (T:List Tk) (i:Nat) (N:List Tx) (hi:i < T.length):
  Spec Tryz.prog 197 (bc [.ptr (0,9) 0] (dI T i N)) (bj (.v (.bool (dV T i))) (dI T i N) [(0,9)] [(0,9)]):=by
 refine Spec.ofNI Tryz.func197 rfl Tryz.ntmps197 rfl ?_
 refine am (cw rfl (aj (aq (bE 28 [3,4,5,6,7,8,9,10,11,12,13,14,15,16,17,18,19,20,21,22,23,24,25,26,27,28,29,2] [] ae ae rfl (aK rfl) (rfl:_=[_,_,_,_,_,_,_,_,_,_,_,_,_,_,_,_,_,_,_,_,_,_,_,_,_,_,_,_]) (rfl:_=[]) ?_))))
 refine ap (_,[]) (fun τ=> aE _ (rfl:_=AV.ptr _ _)) ?_
 refine eE rfl ?_
 refine ap (_,[]) (fun τ=> aN _ rfl rfl) ?_
 refine eF rfl ?_
 refine ap (_,[]) (fun τ=> aI _ aa rfl rfl rfl) ?_
 refine eD rfl ?_
 refine ap (_,[]) (fun τ=> aL _ aa rfl rfl (rfl:_=some (AV.sl _ _))) ?_
 refine eI rfl ?_
 refine ap (_,[]) (fun τ=> aE _ (rfl:_=AV.ptr _ _)) ?_
 refine eU rfl ?_
 refine ap (_,[]) (fun τ=> aN _ rfl rfl) ?_
 refine fh rfl ?_
 refine ap (_,[]) (fun τ=> aI _ aa rfl rfl rfl) ?_
 refine fZ rfl ?_
 refine ap (_,[]) (fun τ=> aL _ aa rfl rfl (rfl:_=some (AV.v (.int _ _)))) ?_
 refine jz rfl ?_
 refine ap (_,[]) (fun τ=> bg _ _ aa rfl rfl _ rfl ab (by (simp only [ba,bo,bm,bC,bw];omega)) ag) ?_
 refine jC rfl ?_
 refine ap (_,[]) (fun τ=> dk _ aa rfl rfl) ?_
 refine fK rfl ?_
 refine ap (_,[]) (fun τ=> bG _ aa rfl (by exact oo _ _ ab) rfl) ?_
 refine gl rfl ?_
 refine ap (_,[]) (fun τ=> bT _ _ rfl rfl rfl) ?_
 refine kP rfl ?_
 refine ap (_,[]) (fun τ=> aE _ (rfl:_=AV.v (.bool _))) ?_
 refine mv (fun hg15=> ?_) (fun hg15=> ?_)
 ·skip
  have hr:dV T i= !tA (cY T i).t:=by unfold dV;rw [decide_eq_true ab];rfl
  refine lQ rfl ?_
  refine bX (_,[]) rfl (fun τ=> rfl) (fun τ=> aE _ (rfl:_=AV.ptr _ _)) ?_
  refine oX rfl ?_
  refine bX (_,[]) rfl (fun τ=> rfl) (fun τ=> aN _ rfl rfl) ?_
  refine vS rfl ?_
  refine bX (_,[]) rfl (fun τ=> rfl) (fun τ=> aI _ aa rfl rfl rfl) ?_
  refine uM rfl ?_
  refine bX (_,[]) rfl (fun τ=> rfl) (fun τ=> aL _ aa rfl rfl (rfl:_=some (AV.sl _ _))) ?_
  refine yY rfl ?_
  refine bX (_,[]) rfl (fun τ=> rfl) (fun τ=> aE _ (rfl:_=AV.ptr _ _)) ?_
  refine wF rfl ?_
  refine bX (_,[]) rfl (fun τ=> rfl) (fun τ=> aN _ rfl rfl) ?_
  refine wI rfl ?_
  refine bX (_,[]) rfl (fun τ=> rfl) (fun τ=> aI _ aa rfl rfl rfl) ?_
  refine AU rfl ?_
  refine bX (_,[]) rfl (fun τ=> rfl) (fun τ=> aL _ aa rfl rfl (rfl:_=some (AV.v (.int _ _)))) ?_
  refine Ak rfl ?_
  refine bX (_,[]) rfl (fun τ=> rfl) (fun τ=> bg _ _ aa rfl rfl _ rfl ab (by (simp only [ba,bo,bm,bC,bw];omega)) ag) ?_
  refine Bn rfl ?_
  refine bX (_,[]) rfl (fun τ=> rfl) (fun τ=> dk _ aa rfl rfl) ?_
  refine BP rfl ?_
  refine bX (_,[]) rfl (fun τ=> rfl) (fun τ=> bG _ aa rfl (by exact lp _ _ ab) rfl) ?_
  refine Bi rfl ?_
  refine bX (_,[]) rfl (fun τ=> rfl) (fun τ=> (aM aa al (kM (cY T i).t) rfl rfl)) ?_
  refine Ai rfl ?_
  refine bX (_,[]) rfl (fun τ=> rfl) (fun τ=> cT _ rfl rfl) ?_
  refine zT rfl ?_
  refine ap (_,[]) (fun τ=> aH _ _ _ rfl (rfl:_=AV.v (.bool _))) ?_
  refine AT rfl ?_
  refine ap (_,[]) (fun τ=> bA _ (rfl:_=AV.v (.bool _))) ?_
  refine AH rfl (bi ⟨rfl,?_⟩)
  exact aj (aD (aY (.inr rfl) rfl (.tmp (rfl:_=AV.v (.bool _))) (Le.outI [] [] (gR hr) rfl rfl rfl trivial ob tr rfl)))
 ·skip
  have hr:dV T i=false:=by unfold dV;rw [decide_eq_false ab];rfl
  refine lQ rfl ?_
  refine cO rfl (fun τ=> rfl) ah ?_
  refine oX rfl ?_
  refine cO rfl (fun τ=> rfl) ah ?_
  refine vS rfl ?_
  refine cO rfl (fun τ=> rfl) ah ?_
  refine uM rfl ?_
  refine cO rfl (fun τ=> rfl) ah ?_
  refine yY rfl ?_
  refine cO rfl (fun τ=> rfl) ah ?_
  refine wF rfl ?_
  refine cO rfl (fun τ=> rfl) ah ?_
  refine wI rfl ?_
  refine cO rfl (fun τ=> rfl) ah ?_
  refine AU rfl ?_
  refine cO rfl (fun τ=> rfl) ah ?_
  refine Ak rfl ?_
  refine cO rfl (fun τ=> rfl) ah ?_
  refine Bn rfl ?_
  refine cO rfl (fun τ=> rfl) ah ?_
  refine BP rfl ?_
  refine cO rfl (fun τ=> rfl) ah ?_
  refine Bi rfl ?_
  refine cO rfl (fun τ=> rfl) ah ?_
  refine Ai rfl ?_
  refine cO rfl (fun τ=> rfl) ah ?_
  refine zT rfl ?_
  refine ap (_,[]) (fun τ=> aH _ _ _ rfl (rfl:_=AV.v (.bool _))) ?_
  refine AT rfl ?_
  refine ap (_,[]) (fun τ=> bA _ (rfl:_=AV.v (.bool _))) ?_
  refine AH rfl (bi ⟨rfl,?_⟩)
  exact aj (aD (aY (.inr rfl) rfl (.tmp (rfl:_=AV.v (.bool _))) (Le.outI [] [] (gR hr) rfl rfl rfl trivial ob tr rfl)))
theorem cp (T:List Tk) (i:Nat) (N:List Tx) (hi:i < T.length) (hT:T.length≤100000):
  Spec Tryz.prog 196 (bc [.ptr (0,9) 0] (dI T i N)) (bj (.tup []) (dI T (bS T i) N) [(0,9)] [(0,9)]):=by
 refine Spec.ofNI Tryz.func196 rfl Tryz.ntmps196 rfl ?_
 refine aq (bE 11 [2,3,4,5,6,7,8,9,10,11,12] [] ae ae rfl (aK rfl) (rfl:_=[_,_,_,_,_,_,_,_,_,_,_]) (rfl:_=[]) ?_)
 refine ap (_,[]) (fun τ=> aE _ (rfl:_=AV.ptr _ _)) ?_
 refine eE rfl ?_
 refine ap (_,[]) (fun τ=> aN _ rfl rfl) ?_
 refine eF rfl ?_
 refine ap (_,[]) (fun τ=> aI _ aa rfl rfl rfl) ?_
 refine eD rfl ?_
 refine ap (_,[]) (fun τ=> aL _ aa rfl rfl (rfl:_=some (AV.v (.int _ _)))) ?_
 refine eI rfl ?_
 refine ap (_,[]) (fun τ=> be _ _ rfl rfl (br ab)) ?_
 refine eU rfl ?_
 refine ap (_,[]) (fun τ=> aE _ (rfl:_=AV.ptr _ _)) ?_
 refine fh rfl ?_
 refine ap (_,[]) (fun τ=> aN _ rfl rfl) ?_
 refine fZ rfl ?_
 refine ap (_,[]) (fun τ=> aI _ aa rfl rfl rfl) ?_
 refine jz rfl ?_
 refine ap (_,[]) (fun τ=> aL _ aa rfl rfl (rfl:_=some (AV.sl _ _))) ?_
 refine jC rfl ?_
 refine ap (_,[]) (fun τ=> bH _ aa rfl) ?_
 refine fK rfl ?_
 refine ap (_,[]) (fun τ=> bq _ _ rfl rfl rfl) ?_
 refine gl rfl (bi ⟨rfl,?_⟩)
 refine aj (aV rfl (fun hc12=> ?_) (fun hc12=> ?_))
 ·skip
  have ht:bS T i=i+1:=by unfold bS;rw [if_pos ab]
  refine an (bh rfl (ai (aN _ rfl rfl) (bv rfl rfl rfl (cG rfl rfl rfl (ai (be _ _ rfl rfl (br ab)) ?_)))))
  exact ai (aN _ rfl rfl) (bv rfl rfl rfl (bL rfl rfl rfl rfl rfl rfl (az (eQ (.inl rfl) rfl (Le.outI [] [] (.tup rfl bn) rfl rfl rfl trivial ⟨⟨rfl,⟨_,rfl, .box rfl (aC .sl (aC (co (by rw [ht] <;> omega)) lz))⟩,rfl⟩,trivial⟩ tr rfl)))))
 ·skip
  have ht:bS T i=i:=by unfold bS;rw [if_neg ab]
  exact bz (eQ (.inl rfl) rfl (Le.outI [] [] (.tup rfl bn) rfl rfl rfl trivial ⟨⟨rfl,⟨_,rfl, .box rfl (aC .sl (aC (co (by rw [ht] <;> omega)) lz))⟩,rfl⟩,trivial⟩ tr rfl))
theorem eX (T:List Tk) (i j:Nat) (N:List Tx) (s:Tx) (hi:i < T.length) (hT:T.length≤100000) (h:fR T s i=some j):
  Spec Tryz.prog 162 (bc [.ptr (0,9) 0, .v (bt s)] (dI T i N)) (bj (.tup []) (dI T j N) [(0,9)] [(0,9)]):=by
 have ⟨hs,hj⟩:(cY T i).t=s∧bS T i=j:=by
  unfold fR at h
  split at h
  ·exact ⟨by assumption,Option.some.inj h⟩
  ·cases h
 subst hs
 subst hj
 refine Spec.ofNI Tryz.func162 rfl Tryz.ntmps162 rfl ?_
 refine aq (am (bh rfl (ai (aN _ rfl rfl) (bv rfl rfl rfl (cG rfl rfl rfl (iY rfl rfl rfl (cP rfl (aA rfl rfl (aE _ (rfl:_=AV.ptr _ _)) (aA rfl rfl (bs aa _ _ ar (bV T i N hi) tr rfl ae (by simp)) ?_)))))))))
 refine aA rfl rfl (aE _ (rfl:_=AV.v (.string _))) (aA rfl rfl (qp (r:=false) _ _ Tryz.underlying9 rfl rfl (by exact bne_self_eq_false _)) ?_)
 refine ai (aH _ _ _ rfl (rfl:_=AV.v (.bool _))) (aj (aR rfl rfl (aJ (am (bh rfl (ai (aN _ rfl rfl) (bv rfl rfl rfl (cG rfl rfl rfl (iY rfl rfl rfl (aj ?_))))))))))
 refine bF rfl rfl ?_
 refine aO (σ':=aB 28 [(0,_)] [((0,9),_)] [(0,9)] [(0,9)]) kp ?_
 refine an (bh rfl (ai (aQ (cp T i N hi hT)) ?_))
 exact az (eQ (.inl rfl) rfl (Le.outI [] [] (.tup rfl bn) rfl rfl rfl trivial ob tr rfl))
theorem jj {T:List Tk} {s:Tx} {lv i j:Nat} (h:pj T s lv i=some j):lv≤20∧fR T s i=some j:=by
 unfold pj at h
 split at h
 ·cases h
 ·rename_i hn
  refine ⟨?_,h⟩
  unfold fR at h
  split at h
  ·rename_i ht
   exact Nat.le_of_not_lt fun hl=> hn ⟨ht,hl⟩
  ·cases h
theorem ik {T:List Tk} {s:Tx} {i j:Nat} (h:fR T s i=some j) (hi:i < T.length):j < T.length:=by
 unfold fR at h
 split at h
 ·rw [← Option.some.inj h];exact dM hi
 ·cases h
theorem mA (T:List Tk) (i j:Nat) (N:List Tx) (s:Tx) (lv:Nat) (hi:i < T.length) (hT:T.length≤100000) (h:pj T s lv i=some j):
  Spec Tryz.prog 201 (bc [.ptr (0,9) 0, .v (bt s), .v (.int .i64 (lv:Int))] (dI T i N)) (bj (.tup []) (dI T j N) [(0,9)] [(0,9)]):=by
 obtain ⟨hl,he⟩:=jj h
 refine Spec.ofNI Tryz.func201 rfl Tryz.ntmps201 rfl ?_
 refine aq (am (bh rfl (ai (aN _ rfl rfl) (bv rfl rfl rfl (cG rfl rfl rfl (iY rfl rfl rfl (cP rfl (aA rfl rfl (aE _ (rfl:_=AV.ptr _ _)) (aA rfl rfl (bs aa _ _ ar (bV T i N hi) tr rfl ae (by simp)) ?_)))))))))
 refine aA rfl rfl (aE _ (rfl:_=AV.v (.string _))) (aA rfl rfl (aT _ _ Tryz.underlying9 rfl rfl rfl) (ai (aH _ _ _ rfl (rfl:_=AV.v (.bool _))) (cP rfl (dH (fun hg17=> ?_) (fun hg17=> ?_)))))
 ·skip
  refine aA rfl rfl (aE _ (rfl:_=AV.v (.int _ _))) (aA rfl rfl (dB (r:=false) _ _ rfl rfl (decide_eq_false ab)) ?_)
  refine ai (aH _ _ _ rfl (rfl:_=AV.v (.bool _))) (aj (aR rfl rfl (aJ ?_)))
  refine aO (σ':=aB 30 [(0,_),(1,_)] [((0,9),_)] [(0,9)] [(0,9)]) kp ?_
  refine an (bh rfl (dL rfl (ai (aQ (eX T i j N s hi hT he)) ?_)))
  exact az (eQ (.inl rfl) rfl (Le.outI [] [] (.tup rfl bn) rfl rfl rfl trivial ob tr rfl))
 ·skip
  refine aU rfl rfl ah ?_
  refine aU rfl rfl ah ?_
  refine ai (aH _ _ _ rfl (rfl:_=AV.v (.bool _))) (aj (aR rfl rfl (aJ ?_)))
  refine aO (σ':=aB 30 [(0,_),(1,_)] [((0,9),_)] [(0,9)] [(0,9)]) kp ?_
  refine an (bh rfl (dL rfl (ai (aQ (eX T i j N s hi hT he)) ?_)))
  exact az (eQ (.inl rfl) rfl (Le.outI [] [] (.tup rfl bn) rfl rfl rfl trivial ob tr rfl))
theorem jY (T:List Tk) (i:Nat) (N:List Tx) (most:Nat) (hi:i < T.length) (hT:T.length≤100000) (hm:most≤1000) (r:Nat×Nat) (h:na T most i=some r):
  Spec Tryz.prog 200 (bc [.ptr (0,9) 0, .v (.int .i64 (most:Int))] (dI T i N)) (bj (.v (.int .i64 (r.1:Int))) (dI T r.2 N) [(0,9)] [(0,9)]):=by
 have ⟨h1,h2,h3⟩:(cY T i).k=2∧(cY T i).n≤most∧r=((cY T i).n,bS T i):=by
  unfold na at h
  split at h
  ·rename_i hx;exact ⟨hx.1,hx.2,(Option.some.inj h).symm⟩
  ·cases h
 subst h3
 refine Spec.ofNI Tryz.func200 rfl Tryz.ntmps200 rfl ?_
 refine am (aZ rfl (aj (aq (bE 11 [6,7,8,9,10,11,12,13,14,15,5] [(5,0)] ae ae rfl (aK rfl) (rfl:_=[_,_,_,_,_,_,_,_,_,_,_]) (rfl:_=[_]) ?_))))
 refine ap (_,[]) (fun τ=> aE _ (rfl:_=AV.ptr _ _)) ?_
 refine eE rfl ?_
 refine ap (_,[]) (fun τ=> aN _ rfl rfl) ?_
 refine eF rfl ?_
 refine ap (_,[]) (fun τ=> aI _ aa rfl rfl rfl) ?_
 refine eD rfl ?_
 refine ap (_,[]) (fun τ=> aL _ aa rfl rfl (rfl:_=some (AV.sl _ _))) ?_
 refine eI rfl ?_
 refine ap (_,[]) (fun τ=> aE _ (rfl:_=AV.ptr _ _)) ?_
 refine eU rfl ?_
 refine ap (_,[]) (fun τ=> aN _ rfl rfl) ?_
 refine fh rfl ?_
 refine ap (_,[]) (fun τ=> aI _ aa rfl rfl rfl) ?_
 refine fZ rfl ?_
 refine ap (_,[]) (fun τ=> aL _ aa rfl rfl (rfl:_=some (AV.v (.int _ _)))) ?_
 refine jz rfl ?_
 refine ap (_,[]) (fun τ=> bg _ _ aa rfl rfl _ rfl ab (by (simp only [ba,bo,bm,bC,bw];omega)) ag) ?_
 refine jC rfl ?_
 refine ap (_,[]) (fun τ=> cj _ aa rfl (by exact lA _ _ hi) rfl) ?_
 refine fK rfl ?_
 refine ap (_,[((5,0),_)]) (fun τ=> ax (5,0) aa rfl rfl) ?_
 refine gl rfl (bi ⟨rfl,?_⟩)
 refine bL rfl rfl rfl rfl rfl rfl (aj (aq (am (bv rfl rfl rfl (cG rfl rfl rfl (ai (cb _ _ rfl rfl rfl) (aj (aR rfl (by rw [h1];rfl) ?_))))))))
 refine aq ?_
 refine aO (σ':=aB 44 [(0,_),(1,_),(5,_)] [((0,9),_),((5,0),_)] [(0,9)] [(0,9)]) kp ?_
 refine an (bv rfl rfl rfl (cG rfl rfl rfl (aS rfl (ai (dB _ _ rfl rfl rfl) (aj (aR rfl (decide_eq_false ab) ?_))))))
 refine aJ (aq (am (bh rfl (ai (aN _ rfl rfl) (bv rfl rfl rfl (cG rfl rfl rfl (ai (cb (r:=false) _ _ rfl rfl rfl) (aj (aR rfl rfl (aJ ?_))))))))))
 refine am (bh rfl (ai (aQ (cp T i N hi hT)) ?_))
 exact aj (am (bv rfl rfl rfl (cG rfl rfl rfl (aZ rfl (aj (aD (aY (.inr rfl) rfl (.tmp (rfl:_=AV.v _)) (Le.outI [] [] .v rfl rfl rfl trivial ob tr rfl))))))))
abbrev BA (T:List Tk) (i:Nat) (N:List Tx):List (aF×Cells):=[((0,9), .box 222 [.sl T.length (qF T), .v (.int .i64 (i:Int)), .v (.int .i64 0), .v (.int .i64 0), .ref (1,9) 0 N.length]),((1,9), .row 9 1 (dT N))]
theorem el (T:List Tk) (i:Nat) (N:List Tx) (hi:i < T.length):
  Spec Tryz.prog 160 (bc [.ptr (0,9) 0] (BA T i N)) (bj (.v (bt (cY T i).t)) (BA T i N) [(0,9),(1,9)] [(0,9),(1,9)]):=by
 refine Spec.ofNI Tryz.func160 rfl Tryz.ntmps160 rfl ?_
 refine am (ja rfl (aj (aq (bE 12 [3,4,5,6,7,8,9,10,11,12,13,2] [] ae ae rfl (aK rfl) (rfl:_=[_,_,_,_,_,_,_,_,_,_,_,_]) (rfl:_=[]) ?_))))
 refine ap (_,[]) (fun τ=> aE _ (rfl:_=AV.ptr _ _)) ?_
 refine eE rfl ?_
 refine ap (_,[]) (fun τ=> aN _ rfl rfl) ?_
 refine eF rfl ?_
 refine ap (_,[]) (fun τ=> aI _ aa rfl rfl rfl) ?_
 refine eD rfl ?_
 refine ap (_,[]) (fun τ=> aL _ aa rfl rfl (rfl:_=some (AV.sl _ _))) ?_
 refine eI rfl ?_
 refine ap (_,[]) (fun τ=> aE _ (rfl:_=AV.ptr _ _)) ?_
 refine eU rfl ?_
 refine ap (_,[]) (fun τ=> aN _ rfl rfl) ?_
 refine fh rfl ?_
 refine ap (_,[]) (fun τ=> aI _ aa rfl rfl rfl) ?_
 refine fZ rfl ?_
 refine ap (_,[]) (fun τ=> aL _ aa rfl rfl (rfl:_=some (AV.v (.int _ _)))) ?_
 refine jz rfl ?_
 refine ap (_,[]) (fun τ=> bg _ _ aa rfl rfl _ rfl ab (by (simp only [ba,bo,bm,bC,bw];omega)) ag) ?_
 refine jC rfl ?_
 refine ap (_,[]) (fun τ=> dk _ aa rfl rfl) ?_
 refine fK rfl ?_
 refine ap (_,[]) (fun τ=> bG _ aa rfl (by exact lp _ _ ab) rfl) ?_
 refine gl rfl ?_
 refine ap (_,[]) (fun τ=> bA _ (rfl:_=AV.v (.string _))) ?_
 refine kP rfl (bi ⟨rfl,?_⟩)
 exact aj (aD (aY (.inr rfl) rfl (.tmp (rfl:_=AV.v _)) (Le.outI [] [] .v rfl rfl rfl trivial ob tr rfl)))
theorem tg (T:List Tk) (i:Nat) (N:List Tx) (hi:i < T.length):
  Spec Tryz.prog 197 (bc [.ptr (0,9) 0] (BA T i N)) (bj (.v (.bool (dV T i))) (BA T i N) [(0,9),(1,9)] [(0,9),(1,9)]):=by
 refine Spec.ofNI Tryz.func197 rfl Tryz.ntmps197 rfl ?_
 refine am (cw rfl (aj (aq (bE 28 [3,4,5,6,7,8,9,10,11,12,13,14,15,16,17,18,19,20,21,22,23,24,25,26,27,28,29,2] [] ae ae rfl (aK rfl) (rfl:_=[_,_,_,_,_,_,_,_,_,_,_,_,_,_,_,_,_,_,_,_,_,_,_,_,_,_,_,_]) (rfl:_=[]) ?_))))
 refine ap (_,[]) (fun τ=> aE _ (rfl:_=AV.ptr _ _)) ?_
 refine eE rfl ?_
 refine ap (_,[]) (fun τ=> aN _ rfl rfl) ?_
 refine eF rfl ?_
 refine ap (_,[]) (fun τ=> aI _ aa rfl rfl rfl) ?_
 refine eD rfl ?_
 refine ap (_,[]) (fun τ=> aL _ aa rfl rfl (rfl:_=some (AV.sl _ _))) ?_
 refine eI rfl ?_
 refine ap (_,[]) (fun τ=> aE _ (rfl:_=AV.ptr _ _)) ?_
 refine eU rfl ?_
 refine ap (_,[]) (fun τ=> aN _ rfl rfl) ?_
 refine fh rfl ?_
 refine ap (_,[]) (fun τ=> aI _ aa rfl rfl rfl) ?_
 refine fZ rfl ?_
 refine ap (_,[]) (fun τ=> aL _ aa rfl rfl (rfl:_=some (AV.v (.int _ _)))) ?_
 refine jz rfl ?_
 refine ap (_,[]) (fun τ=> bg _ _ aa rfl rfl _ rfl ab (by (simp only [ba,bo,bm,bC,bw];omega)) ag) ?_
 refine jC rfl ?_
 refine ap (_,[]) (fun τ=> dk _ aa rfl rfl) ?_
 refine fK rfl ?_
 refine ap (_,[]) (fun τ=> bG _ aa rfl (by exact oo _ _ ab) rfl) ?_
 refine gl rfl ?_
 refine ap (_,[]) (fun τ=> bT _ _ rfl rfl rfl) ?_
 refine kP rfl ?_
 refine ap (_,[]) (fun τ=> aE _ (rfl:_=AV.v (.bool _))) ?_
 refine mv (fun hg15=> ?_) (fun hg15=> ?_)
 ·skip
  have hr:dV T i= !tA (cY T i).t:=by unfold dV;rw [decide_eq_true ab];rfl
  refine lQ rfl ?_
  refine bX (_,[]) rfl (fun τ=> rfl) (fun τ=> aE _ (rfl:_=AV.ptr _ _)) ?_
  refine oX rfl ?_
  refine bX (_,[]) rfl (fun τ=> rfl) (fun τ=> aN _ rfl rfl) ?_
  refine vS rfl ?_
  refine bX (_,[]) rfl (fun τ=> rfl) (fun τ=> aI _ aa rfl rfl rfl) ?_
  refine uM rfl ?_
  refine bX (_,[]) rfl (fun τ=> rfl) (fun τ=> aL _ aa rfl rfl (rfl:_=some (AV.sl _ _))) ?_
  refine yY rfl ?_
  refine bX (_,[]) rfl (fun τ=> rfl) (fun τ=> aE _ (rfl:_=AV.ptr _ _)) ?_
  refine wF rfl ?_
  refine bX (_,[]) rfl (fun τ=> rfl) (fun τ=> aN _ rfl rfl) ?_
  refine wI rfl ?_
  refine bX (_,[]) rfl (fun τ=> rfl) (fun τ=> aI _ aa rfl rfl rfl) ?_
  refine AU rfl ?_
  refine bX (_,[]) rfl (fun τ=> rfl) (fun τ=> aL _ aa rfl rfl (rfl:_=some (AV.v (.int _ _)))) ?_
  refine Ak rfl ?_
  refine bX (_,[]) rfl (fun τ=> rfl) (fun τ=> bg _ _ aa rfl rfl _ rfl ab (by (simp only [ba,bo,bm,bC,bw];omega)) ag) ?_
  refine Bn rfl ?_
  refine bX (_,[]) rfl (fun τ=> rfl) (fun τ=> dk _ aa rfl rfl) ?_
  refine BP rfl ?_
  refine bX (_,[]) rfl (fun τ=> rfl) (fun τ=> bG _ aa rfl (by exact lp _ _ ab) rfl) ?_
  refine Bi rfl ?_
  refine bX (_,[]) rfl (fun τ=> rfl) (fun τ=> (aM aa al (kM (cY T i).t) rfl rfl)) ?_
  refine Ai rfl ?_
  refine bX (_,[]) rfl (fun τ=> rfl) (fun τ=> cT _ rfl rfl) ?_
  refine zT rfl ?_
  refine ap (_,[]) (fun τ=> aH _ _ _ rfl (rfl:_=AV.v (.bool _))) ?_
  refine AT rfl ?_
  refine ap (_,[]) (fun τ=> bA _ (rfl:_=AV.v (.bool _))) ?_
  refine AH rfl (bi ⟨rfl,?_⟩)
  exact aj (aD (aY (.inr rfl) rfl (.tmp (rfl:_=AV.v (.bool _))) (Le.outI [] [] (gR hr) rfl rfl rfl trivial ob tr rfl)))
 ·skip
  have hr:dV T i=false:=by unfold dV;rw [decide_eq_false ab];rfl
  refine lQ rfl ?_
  refine cO rfl (fun τ=> rfl) ah ?_
  refine oX rfl ?_
  refine cO rfl (fun τ=> rfl) ah ?_
  refine vS rfl ?_
  refine cO rfl (fun τ=> rfl) ah ?_
  refine uM rfl ?_
  refine cO rfl (fun τ=> rfl) ah ?_
  refine yY rfl ?_
  refine cO rfl (fun τ=> rfl) ah ?_
  refine wF rfl ?_
  refine cO rfl (fun τ=> rfl) ah ?_
  refine wI rfl ?_
  refine cO rfl (fun τ=> rfl) ah ?_
  refine AU rfl ?_
  refine cO rfl (fun τ=> rfl) ah ?_
  refine Ak rfl ?_
  refine cO rfl (fun τ=> rfl) ah ?_
  refine Bn rfl ?_
  refine cO rfl (fun τ=> rfl) ah ?_
  refine BP rfl ?_
  refine cO rfl (fun τ=> rfl) ah ?_
  refine Bi rfl ?_
  refine cO rfl (fun τ=> rfl) ah ?_
  refine Ai rfl ?_
  refine cO rfl (fun τ=> rfl) ah ?_
  refine zT rfl ?_
  refine ap (_,[]) (fun τ=> aH _ _ _ rfl (rfl:_=AV.v (.bool _))) ?_
  refine AT rfl ?_
  refine ap (_,[]) (fun τ=> bA _ (rfl:_=AV.v (.bool _))) ?_
  refine AH rfl (bi ⟨rfl,?_⟩)
  exact aj (aD (aY (.inr rfl) rfl (.tmp (rfl:_=AV.v (.bool _))) (Le.outI [] [] (gR hr) rfl rfl rfl trivial ob tr rfl)))
theorem jf (T:List Tk) (i:Nat) (N:List Tx) (hi:i < T.length) (hT:T.length≤100000):
  Spec Tryz.prog 196 (bc [.ptr (0,9) 0] (BA T i N)) (bj (.tup []) (BA T (bS T i) N) [(0,9),(1,9)] [(0,9),(1,9)]):=by
 refine Spec.ofNI Tryz.func196 rfl Tryz.ntmps196 rfl ?_
 refine aq (bE 11 [2,3,4,5,6,7,8,9,10,11,12] [] ae ae rfl (aK rfl) (rfl:_=[_,_,_,_,_,_,_,_,_,_,_]) (rfl:_=[]) ?_)
 refine ap (_,[]) (fun τ=> aE _ (rfl:_=AV.ptr _ _)) ?_
 refine eE rfl ?_
 refine ap (_,[]) (fun τ=> aN _ rfl rfl) ?_
 refine eF rfl ?_
 refine ap (_,[]) (fun τ=> aI _ aa rfl rfl rfl) ?_
 refine eD rfl ?_
 refine ap (_,[]) (fun τ=> aL _ aa rfl rfl (rfl:_=some (AV.v (.int _ _)))) ?_
 refine eI rfl ?_
 refine ap (_,[]) (fun τ=> be _ _ rfl rfl (br ab)) ?_
 refine eU rfl ?_
 refine ap (_,[]) (fun τ=> aE _ (rfl:_=AV.ptr _ _)) ?_
 refine fh rfl ?_
 refine ap (_,[]) (fun τ=> aN _ rfl rfl) ?_
 refine fZ rfl ?_
 refine ap (_,[]) (fun τ=> aI _ aa rfl rfl rfl) ?_
 refine jz rfl ?_
 refine ap (_,[]) (fun τ=> aL _ aa rfl rfl (rfl:_=some (AV.sl _ _))) ?_
 refine jC rfl ?_
 refine ap (_,[]) (fun τ=> bH _ aa rfl) ?_
 refine fK rfl ?_
 refine ap (_,[]) (fun τ=> bq _ _ rfl rfl rfl) ?_
 refine gl rfl (bi ⟨rfl,?_⟩)
 refine aj (aV rfl (fun hc12=> ?_) (fun hc12=> ?_))
 ·skip
  have ht:bS T i=i+1:=by unfold bS;rw [if_pos ab]
  refine an (bh rfl (ai (aN _ rfl rfl) (bv rfl rfl rfl (cG rfl rfl rfl (ai (be _ _ rfl rfl (br ab)) ?_)))))
  exact ai (aN _ rfl rfl) (bv rfl rfl rfl (bL rfl rfl rfl rfl rfl rfl (az (eQ (.inl rfl) rfl (Le.outI [] [] (.tup rfl bn) rfl rfl rfl trivial ⟨⟨rfl,⟨_,rfl, .box rfl (aC .sl (aC (co (by rw [ht] <;> omega)) lz))⟩,rfl⟩,⟨rfl,⟨_,rfl, .rowE rfl⟩,rfl⟩,trivial⟩ tr rfl)))))
 ·skip
  have ht:bS T i=i:=by unfold bS;rw [if_neg ab]
  exact bz (eQ (.inl rfl) rfl (Le.outI [] [] (.tup rfl bn) rfl rfl rfl trivial ⟨⟨rfl,⟨_,rfl, .box rfl (aC .sl (aC (co (by rw [ht] <;> omega)) lz))⟩,rfl⟩,⟨rfl,⟨_,rfl, .rowE rfl⟩,rfl⟩,trivial⟩ tr rfl))
theorem qe (T:List Tk) (i j:Nat) (N:List Tx) (s:Tx) (hi:i < T.length) (hT:T.length≤100000) (h:fR T s i=some j):
  Spec Tryz.prog 162 (bc [.ptr (0,9) 0, .v (bt s)] (BA T i N)) (bj (.tup []) (BA T j N) [(0,9),(1,9)] [(0,9),(1,9)]):=by
 have ⟨hs,hj⟩:(cY T i).t=s∧bS T i=j:=by
  unfold fR at h
  split at h
  ·exact ⟨by assumption,Option.some.inj h⟩
  ·cases h
 subst hs
 subst hj
 refine Spec.ofNI Tryz.func162 rfl Tryz.ntmps162 rfl ?_
 refine aq (am (bh rfl (ai (aN _ rfl rfl) (bv rfl rfl rfl (cG rfl rfl rfl (iY rfl rfl rfl (cP rfl (aA rfl rfl (aE _ (rfl:_=AV.ptr _ _)) (aA rfl rfl (bs aa _ _ ar (el T i N hi) tr rfl ae (by simp)) ?_)))))))))
 refine aA rfl rfl (aE _ (rfl:_=AV.v (.string _))) (aA rfl rfl (qp (r:=false) _ _ Tryz.underlying9 rfl rfl (by exact bne_self_eq_false _)) ?_)
 refine ai (aH _ _ _ rfl (rfl:_=AV.v (.bool _))) (aj (aR rfl rfl (aJ (am (bh rfl (ai (aN _ rfl rfl) (bv rfl rfl rfl (cG rfl rfl rfl (iY rfl rfl rfl (aj ?_))))))))))
 refine bF rfl rfl ?_
 refine aO (σ':=aB 28 [(0,_)] [((0,9),_),((1,9),_)] [(0,9),(1,9)] [(0,9),(1,9)]) kp ?_
 refine an (bh rfl (ai (dg aa [] ar (jf T i N hi hT) ob tr ae) ?_))
 exact az (eQ (.inl rfl) rfl (Le.outI [] [] (.tup rfl bn) rfl rfl rfl trivial ob tr rfl))

abbrev mW (d:Nd):AV:= .agg [.v (.int .i64 (d.k:Int)), .v (.int .i64 (d.n:Int)), .v (bt d.s), .sl d.kn d.kids]
abbrev PO (T:List Tk) (N:List Tx) (r:Nd×Nat):St:=bj (mW r.1) (dI T r.2 N) [(0,9)] [(0,9)]
structure PE (T:List Tk) (N:List Tx) (f:Nat):Prop where
 expr: ∀ lv pr i r,lv≤20→1≤pr∧pr≤7→i < T.length→fT T f lv pr i=some r→r.2 < T.length∧Spec Tryz.prog 226 (bc [.ptr (0,9) 0, .v (.int .i64 (lv:Int)), .v (.int .i64 (pr:Int))] (dI T i N)) (PO T N r)
 un: ∀ s lv pr i r,lv≤20→1≤pr∧pr≤7→i < T.length→Eh T f s lv pr i=some r→r.2 < T.length∧Spec Tryz.prog 235 (bc [.ptr (0,9) 0, .v (bt s), .v (.int .i64 (lv:Int)), .v (.int .i64 (pr:Int))] (dI T i N)) (PO T N r)
 bin: ∀ lv pr i r,lv≤20→(1≤pr∧pr≤6∧pr≠3)→i < T.length→uZ T f lv pr i=some r→r.2 < T.length∧Spec Tryz.prog 236 (bc [.ptr (0,9) 0, .v (.int .i64 (lv:Int)), .v (.int .i64 (pr:Int))] (dI T i N)) (PO T N r)
 nest: ∀ lv i r,lv≤20→i < T.length→pa T f lv i=some r→r.2 < T.length∧Spec Tryz.prog 240 (bc [.ptr (0,9) 0, .v (.int .i64 (lv:Int))] (dI T i N)) (PO T N r)
 prim: ∀ lv i r,lv≤20→i < T.length→su T f lv i=some r→r.2 < T.length∧Spec Tryz.prog 237 (bc [.ptr (0,9) 0, .v (.int .i64 (lv:Int))] (dI T i N)) (PO T N r)
section
variable {T:List Tk} {N:List Tx}
theorem vn (f:Nat) (ih:PE T N f) (lv pr i:Nat) (r:Nd×Nat) (hl:lv≤20) (hp:1≤pr∧pr≤7) (hi:i < T.length) (h:fT T (f+1) lv pr i=some r):
  r.2 < T.length∧Spec Tryz.prog 226 (bc [.ptr (0,9) 0, .v (.int .i64 (lv:Int)), .v (.int .i64 (pr:Int))] (dI T i N)) (PO T N r):=by
 unfold fT at h
 by_cases h1:pr=3∧(cY T i).t=[33]
 ·rw [if_pos h1] at h
  obtain ⟨ha,hb⟩:=ih.un _ _ _ _ _ hl ab hi h
  refine ⟨ha,?_⟩
  obtain ⟨rfl,h1⟩:=h1
  refine Spec.ofNI Tryz.func226 rfl Tryz.ntmps226 rfl ?_
  refine am (ai (ax (6,0) aa rfl rfl) (aj (aq (am (bh rfl (ai (aN _ rfl rfl) (bv rfl rfl rfl (cG rfl rfl rfl (ai (cb (r:=false) _ _ rfl rfl rfl) (aj ?_))))))))))
  refine aR rfl rfl (aJ (am (bh rfl (ai (bs aa _ _ ar (bV T i N hi) tr rfl ae (by simp)) ?_))))
  refine ja rfl (aj (aq (am (aS rfl (iY rfl rfl rfl (cP rfl (aA rfl rfl (aE _ (rfl:_=AV.v (.string _))) (aA rfl rfl (aT (r:=true) _ _ Tryz.underlying9 rfl rfl (by rw [h1];rfl)) ?_))))))))
  refine ai (aH _ _ _ rfl (rfl:_=AV.v (.bool _))) (aj (bF rfl rfl (aq ?_)))
  refine aO (σ':=aB 50 [(0,_),(1,_),(6,_),(7,_)] [((0,9),_),((6,0),_)] [(0,9)] [(0,9)]) kp ?_
  exact an (bh rfl (dL rfl (aS rfl (ai (aQ (hb)) (bL rfl rfl rfl rfl rfl rfl (aj (aD (aY (.inr rfl) rfl (.cellA aa rfl rfl rfl) (Le.outI [] [] (.agg rfl lz) rfl rfl rfl trivial ob tr rfl)))))))))
 rw [if_neg h1] at h
 by_cases h2:pr=3
 ·rw [if_pos h2] at h
  obtain ⟨ha,hb⟩:=ih.bin _ _ _ _ hl ab hi h
  refine ⟨ha,?_⟩
  subst h2
  have h1:(cY T i).t≠[33]:=fun e=> h1 ⟨rfl,e⟩
  refine Spec.ofNI Tryz.func226 rfl Tryz.ntmps226 rfl ?_
  refine am (ai (ax (6,0) aa rfl rfl) (aj (aq (am (bh rfl (ai (aN _ rfl rfl) (bv rfl rfl rfl (cG rfl rfl rfl (ai (cb (r:=false) _ _ rfl rfl rfl) (aj ?_))))))))))
  refine aR rfl rfl (aJ (am (bh rfl (ai (bs aa _ _ ar (bV T i N hi) tr rfl ae (by simp)) ?_))))
  refine ja rfl (aj (aq (am (aS rfl (iY rfl rfl rfl (cP rfl (aA rfl rfl (aE _ (rfl:_=AV.v (.string _))) (aA rfl rfl (aT (r:=false) _ _ Tryz.underlying9 rfl rfl (beq_eq_false_iff_ne.2 h1)) ?_))))))))
  refine ai (aH _ _ _ rfl (rfl:_=AV.v (.bool _))) (aj (aR rfl rfl (aJ (aq (aq ?_)))))
  refine aO (σ':=aB 50 [(0,_),(1,_),(2,_),(6,_),(7,_)] [((0,9),_),((6,0),_)] [(0,9)] [(0,9)]) kp ?_
  refine an (aS rfl (iY rfl rfl rfl (aj (bF rfl rfl (am (bh rfl (aS rfl (ai (aQ (hb)) (bL rfl rfl rfl rfl rfl rfl (aj ?_))))))))))
  exact aD (aY (.inr rfl) rfl (.cellA aa rfl rfl rfl) (Le.outI [] [] (.agg rfl lz) rfl rfl rfl trivial ob tr rfl))
 rw [if_neg h2] at h
 by_cases h3:pr=7∧(cY T i).t=[45]
 ·rw [if_pos h3] at h
  obtain ⟨ha,hb⟩:=ih.un _ _ _ _ _ hl ab hi h
  refine ⟨ha,?_⟩
  obtain ⟨rfl,h3⟩:=h3
  refine Spec.ofNI Tryz.func226 rfl Tryz.ntmps226 rfl ?_
  refine am (ai (ax (6,0) aa rfl rfl) (aj (aq (am (bh rfl (ai (aN _ rfl rfl) (bv rfl rfl rfl (cG rfl rfl rfl (ai (cb (r:=false) _ _ rfl rfl rfl) (aj ?_))))))))))
  refine aR rfl rfl (aJ (am (bh rfl (ai (bs aa _ _ ar (bV T i N hi) tr rfl ae (by simp)) ?_))))
  refine ja rfl (aj (aq (am (aS rfl (eJ rfl rfl rfl (cP rfl (aU rfl rfl ah ?_)))))))
  refine aU rfl rfl ah ?_
  refine ai (aH _ _ _ rfl (rfl:_=AV.v (.bool _))) (aj (aR rfl rfl (aJ (aq (aq ?_)))))
  refine aO (σ':=aB 50 [(0,_),(1,_),(2,_),(6,_),(7,_)] [((0,9),_),((6,0),_)] [(0,9)] [(0,9)]) kp ?_
  refine an (aS rfl (eJ rfl rfl rfl (aj (aR rfl rfl (aJ (aq (am (aS rfl (iY rfl rfl rfl (cP rfl ?_))))))))))
  refine aA rfl rfl (aE _ (rfl:_=AV.v (.string _))) (aA rfl rfl (aT (r:=true) _ _ Tryz.underlying9 rfl rfl (by rw [h3];rfl)) ?_)
  refine ai (aH _ _ _ rfl (rfl:_=AV.v (.bool _))) (aj (bF rfl rfl (am (bh rfl (dL rfl (aS rfl (ai (aQ (hb)) (bL rfl rfl rfl rfl rfl rfl (aj (aD ?_))))))))))
  exact aY (.inr rfl) rfl (.cellA aa rfl rfl rfl) (Le.outI [] [] (.agg rfl lz) rfl rfl rfl trivial ob tr rfl)
 rw [if_neg h3] at h
 by_cases h4:pr=7
 ·rw [if_pos h4] at h
  obtain ⟨ha,hb⟩:=ih.prim _ _ _ hl hi h
  refine ⟨ha,?_⟩
  subst h4
  have h3:(cY T i).t≠[45]:=fun e=> h3 ⟨rfl,e⟩
  refine Spec.ofNI Tryz.func226 rfl Tryz.ntmps226 rfl ?_
  refine am (ai (ax (6,0) aa rfl rfl) (aj (aq (am (bh rfl (ai (aN _ rfl rfl) (bv rfl rfl rfl (cG rfl rfl rfl (ai (cb (r:=false) _ _ rfl rfl rfl) (aj ?_))))))))))
  refine aR rfl rfl (aJ (am (bh rfl (ai (bs aa _ _ ar (bV T i N hi) tr rfl ae (by simp)) ?_))))
  refine ja rfl (aj (aq (am (aS rfl (eJ rfl rfl rfl (cP rfl (aU rfl rfl ah ?_)))))))
  refine aU rfl rfl ah ?_
  refine ai (aH _ _ _ rfl (rfl:_=AV.v (.bool _))) (aj (aR rfl rfl (aJ (aq (aq ?_)))))
  refine aO (σ':=aB 50 [(0,_),(1,_),(2,_),(6,_),(7,_)] [((0,9),_),((6,0),_)] [(0,9)] [(0,9)]) kp ?_
  refine an (aS rfl (eJ rfl rfl rfl (aj (aR rfl rfl (aJ (aq (am (aS rfl (iY rfl rfl rfl (cP rfl ?_))))))))))
  refine aA rfl rfl (aE _ (rfl:_=AV.v (.string _))) (aA rfl rfl (aT (r:=false) _ _ Tryz.underlying9 rfl rfl (beq_eq_false_iff_ne.2 h3)) ?_)
  refine ai (aH _ _ _ rfl (rfl:_=AV.v (.bool _))) (aj (aR rfl rfl (aJ (aq (am (aS rfl (iY rfl rfl rfl (aj (bF rfl rfl (aG fun K13 hK13=> ?_))))))))))
  refine an (bh rfl (aS rfl (ai (aQ (hb)) (bL rfl rfl rfl rfl rfl rfl (az (hK13 _ ?_))))))
  clear hK13;try clear K13
  exact aD (aY (.inr rfl) rfl (.cellA aa rfl rfl rfl) (Le.outI [] [] (.agg rfl lz) rfl rfl rfl trivial ob tr rfl))
 rw [if_neg h4] at h
 obtain ⟨ha,hb⟩:=ih.bin _ _ _ _ hl ab hi h
 refine ⟨ha,?_⟩
 refine Spec.ofNI Tryz.func226 rfl Tryz.ntmps226 rfl ?_
 refine am (ai (ax (6,0) aa rfl rfl) (aj (aq (am (bh rfl (ai (aN _ rfl rfl) (bv rfl rfl rfl (cG rfl rfl rfl (ai (cb (r:=false) _ _ rfl rfl rfl) (aj ?_))))))))))
 refine aR rfl rfl (aJ (am (bh rfl (ai (bs aa _ _ ar (bV T i N hi) tr rfl ae (by simp)) ?_))))
 refine ja rfl (aj (aq (am (aS rfl (eJ rfl rfl (beq_eq_false_iff_ne.2 ab) ?_)))))
 refine cP rfl (aU rfl rfl ah ?_)
 refine aU rfl rfl ah ?_
 refine ai (aH _ _ _ rfl (rfl:_=AV.v (.bool _))) (aj (aR rfl rfl (aJ (aq (aq ?_)))))
 refine aO (σ':=aB 50 [(0,_),(1,_),(2,_),(6,_),(7,_)] [((0,9),_),((6,0),_)] [(0,9)] [(0,9)]) kp ?_
 refine an (aS rfl (eJ rfl rfl (beq_eq_false_iff_ne.2 ab) ?_))
 refine aj (aR rfl rfl (aJ (aq (am (aS rfl (eJ rfl rfl (beq_eq_false_iff_ne.2 ab) ?_))))))
 refine cP rfl (aU rfl rfl ah ?_)
 refine aU rfl rfl ah ?_
 refine ai (aH _ _ _ rfl (rfl:_=AV.v (.bool _))) (aj (aR rfl rfl (aJ (aq (am (aS rfl (eJ rfl rfl (beq_eq_false_iff_ne.2 ab) ?_)))))))
 refine aj (aR rfl rfl (aJ (aG fun K13 hK13=> ?_)))
 refine an (bh rfl (aS rfl (aS rfl (ai (aQ (hb)) (bL rfl rfl rfl rfl rfl rfl (az (hK13 _ ?_)))))))
 clear hK13;try clear K13
 exact aD (aY (.inr rfl) rfl (.cellA aa rfl rfl rfl) (Le.outI [] [] (.agg rfl lz) rfl rfl rfl trivial ob tr rfl))
theorem zN (hT:T.length≤100000) (f:Nat) (ih:PE T N f) (s:Tx) (lv pr i:Nat) (r:Nd×Nat) (hl:lv≤20) (hp:1≤pr∧pr≤7) (hi:i < T.length) (h:Eh T (f+1) s lv pr i=some r):
  r.2 < T.length∧Spec Tryz.prog 235 (bc [.ptr (0,9) 0, .v (bt s), .v (.int .i64 (lv:Int)), .v (.int .i64 (pr:Int))] (dI T i N)) (PO T N r):=by
 unfold Eh at h
 simp only [Option.bind_eq_bind,Option.bind_eq_some_iff,Option.pure_def,Option.some.injEq] at h
 obtain ⟨j,hj,⟨d,j2⟩,hd,rfl⟩:=h
 have ho:=jj hj
 have hjl:=ik ho.2 hi
 obtain ⟨ha,hb⟩:=ih.expr _ _ _ _ ho.1 hp hjl hd
 have hopen:=mA T i j N s (lv+1) hi hT hj
 refine ⟨ha,?_⟩
 refine Spec.ofNI Tryz.func235 rfl Tryz.ntmps235 rfl ?_
 refine am (ai (ax (8,0) aa rfl rfl) (aj (am (bh rfl (dL rfl (aS rfl (ai (be _ _ rfl rfl (br ab)) ?_)))))))
 refine ai (aQ (hopen)) (aj (aG fun K3 hK3=> ?_))
 refine an (bh rfl (aS rfl (ai (be _ _ rfl rfl (br ab)) ?_)))
 refine aS rfl (ai (aQ (hb)) (ai (ax (9,0) aa rfl rfl) (bL rfl rfl rfl rfl rfl rfl (az (hK3 _ ?_)))))
 clear hK3;try clear K3
 refine am (dL rfl (ai (aP _ aa rfl rfl rfl rfl) (ai (aX _ _ aa rfl ag (by (simp <;> rfl)) ah rfl) ?_)))
 refine ai (ay _ aa rfl (by exact (rfl:_=some [_,_,_,_]))) ?_
 exact bL rfl rfl rfl rfl rfl rfl (aj (aD (aY (.inr rfl) rfl (.cellA aa rfl rfl rfl) (Le.outI [] [] (.agg rfl lz) rfl rfl rfl trivial ob tr rfl))))
theorem vD (hT:T.length≤100000) (f:Nat) (ih:PE T N f) (lv i:Nat) (r:Nd×Nat) (hl:lv≤20) (hi:i < T.length) (h:pa T (f+1) lv i=some r):
  r.2 < T.length∧Spec Tryz.prog 240 (bc [.ptr (0,9) 0, .v (.int .i64 (lv:Int))] (dI T i N)) (PO T N r):=by
 unfold pa at h
 simp only [Option.bind_eq_bind,Option.bind_eq_some_iff,Option.pure_def,Option.some.injEq] at h
 obtain ⟨j,hj,⟨d,j2⟩,hd,j3,hj3,rfl⟩:=h
 have ho:=jj hj
 have hjl:=ik ho.2 hi
 obtain ⟨ha,hb⟩:=ih.expr _ _ _ _ ho.1 ab hjl hd
 have hopen:=mA T i j N [40] (lv+1) hi hT hj
 have hexp:=eX T j2 j3 N [41] ha hT hj3
 refine ⟨ik hj3 ha,?_⟩
 refine Spec.ofNI Tryz.func240 rfl Tryz.ntmps240 rfl ?_
 refine am (ai (ax (4,0) aa rfl rfl) (aj (am (bh rfl (aS rfl (ai (be _ _ rfl rfl (br ab)) ?_))))))
 refine ai (aQ (hopen)) (aj (aG fun K3 hK3=> ?_))
 refine an (bh rfl (aS rfl (ai (be _ _ rfl rfl (br ab)) ?_)))
 refine ai (aQ (hb)) (ai (ax (5,0) aa rfl rfl) (bL rfl rfl rfl rfl rfl rfl (az (hK3 _ ?_))))
 clear hK3;try clear K3
 refine aG fun K4 hK4=> ?_
 refine an (bh rfl (ai (aQ (hexp)) (az (hK4 _ ?_))))
 clear hK4;try clear K4
 exact am (ai (aP _ aa rfl rfl rfl rfl) (bL rfl rfl rfl rfl rfl rfl (aj (aD (aY (.inr rfl) rfl (.cellA aa rfl rfl rfl) (Le.outI [] [] (.agg rfl lz) rfl rfl rfl trivial ob tr rfl))))))
theorem uF (hT:T.length≤100000) (f:Nat) (ih:PE T N f) (lv i:Nat) (r:Nd×Nat) (hl:lv≤20) (hi:i < T.length) (h:su T (f+1) lv i=some r):
  r.2 < T.length∧Spec Tryz.prog 237 (bc [.ptr (0,9) 0, .v (.int .i64 (lv:Int))] (dI T i N)) (PO T N r):=by
 have htl:=dM hi
 have htake:=cp T i N hi hT
 unfold su at h
 simp only at h
 by_cases h1:(cY T i).t=[40]
 ·rw [if_pos h1] at h
  obtain ⟨ha,hb⟩:=ih.nest _ _ _ hl hi h
  refine ⟨ha,?_⟩
  refine Spec.ofNI Tryz.func237 rfl Tryz.ntmps237 rfl ?_
  refine am (ai (ax (4,0) aa rfl rfl) (aj (aq (bE 11 [8,9,10,11,12,13,14,15,16,17,5] [(5,0)] ae ae rfl (aK rfl) (rfl:_=[_,_,_,_,_,_,_,_,_,_,_]) (rfl:_=[_]) ?_))))
  refine ap (_,[]) (fun τ=> aE _ (rfl:_=AV.ptr _ _)) ?_
  refine eE rfl ?_
  refine ap (_,[]) (fun τ=> aN _ rfl rfl) ?_
  refine eF rfl ?_
  refine ap (_,[]) (fun τ=> aI _ aa rfl rfl rfl) ?_
  refine eD rfl ?_
  refine ap (_,[]) (fun τ=> aL _ aa rfl rfl (rfl:_=some (AV.sl _ _))) ?_
  refine eI rfl ?_
  refine ap (_,[]) (fun τ=> aE _ (rfl:_=AV.ptr _ _)) ?_
  refine eU rfl ?_
  refine ap (_,[]) (fun τ=> aN _ rfl rfl) ?_
  refine fh rfl ?_
  refine ap (_,[]) (fun τ=> aI _ aa rfl rfl rfl) ?_
  refine fZ rfl ?_
  refine ap (_,[]) (fun τ=> aL _ aa rfl rfl (rfl:_=some (AV.v (.int _ _)))) ?_
  refine jz rfl ?_
  refine ap (_,[]) (fun τ=> bg _ _ aa rfl rfl _ rfl ab (by (simp only [ba,bo,bm,bC,bw];omega)) ag) ?_
  refine jC rfl ?_
  refine ap (_,[]) (fun τ=> cj _ aa rfl (by exact lA _ _ hi) rfl) ?_
  refine fK rfl ?_
  refine ap (_,[((5,0),_)]) (fun τ=> ax (5,0) aa rfl rfl) ?_
  refine gl rfl (bi ⟨rfl,?_⟩)
  refine bL rfl rfl rfl rfl rfl rfl (aj (aq (am (bv rfl rfl rfl (ai (aL _ aa rfl rfl (rfl:_=some (AV.v (.string _)))) (ai (aT (r:=true) _ _ Tryz.underlying9 rfl rfl (by rw [h1];rfl)) ?_))))))
  refine aj (bF rfl rfl (aq ?_))
  refine aO (σ':=aB 72 [(0,_),(1,_),(4,_)] [((0,9),_),((4,0),_)] [(0,9)] [(0,9)]) kp ?_
  exact an (bh rfl (aS rfl (ai (aQ (hb)) (bL rfl rfl rfl rfl rfl rfl (aj (aD (aY (.inr rfl) rfl (.cellA aa rfl rfl rfl) (Le.outI [] [] (.agg rfl lz) rfl rfl rfl trivial ob tr rfl))))))))
 rw [if_neg h1] at h
 by_cases h2:(cY T i).t=yB
 ·rw [if_pos h2] at h
  simp only [Option.bind_eq_bind,Option.bind_eq_some_iff,Option.pure_def,Option.some.injEq] at h
  obtain ⟨⟨d,j⟩,hd,rfl⟩:=h
  obtain ⟨ha,hb⟩:=ih.nest _ _ _ hl htl hd
  refine ⟨ha,?_⟩
  refine Spec.ofNI Tryz.func237 rfl Tryz.ntmps237 rfl ?_
  refine am (ai (ax (4,0) aa rfl rfl) (aj (aq (bE 11 [8,9,10,11,12,13,14,15,16,17,5] [(5,0)] ae ae rfl (aK rfl) (rfl:_=[_,_,_,_,_,_,_,_,_,_,_]) (rfl:_=[_]) ?_))))
  refine ap (_,[]) (fun τ=> aE _ (rfl:_=AV.ptr _ _)) ?_
  refine eE rfl ?_
  refine ap (_,[]) (fun τ=> aN _ rfl rfl) ?_
  refine eF rfl ?_
  refine ap (_,[]) (fun τ=> aI _ aa rfl rfl rfl) ?_
  refine eD rfl ?_
  refine ap (_,[]) (fun τ=> aL _ aa rfl rfl (rfl:_=some (AV.sl _ _))) ?_
  refine eI rfl ?_
  refine ap (_,[]) (fun τ=> aE _ (rfl:_=AV.ptr _ _)) ?_
  refine eU rfl ?_
  refine ap (_,[]) (fun τ=> aN _ rfl rfl) ?_
  refine fh rfl ?_
  refine ap (_,[]) (fun τ=> aI _ aa rfl rfl rfl) ?_
  refine fZ rfl ?_
  refine ap (_,[]) (fun τ=> aL _ aa rfl rfl (rfl:_=some (AV.v (.int _ _)))) ?_
  refine jz rfl ?_
  refine ap (_,[]) (fun τ=> bg _ _ aa rfl rfl _ rfl ab (by (simp only [ba,bo,bm,bC,bw];omega)) ag) ?_
  refine jC rfl ?_
  refine ap (_,[]) (fun τ=> cj _ aa rfl (by exact lA _ _ hi) rfl) ?_
  refine fK rfl ?_
  refine ap (_,[((5,0),_)]) (fun τ=> ax (5,0) aa rfl rfl) ?_
  refine gl rfl (bi ⟨rfl,?_⟩)
  refine bL rfl rfl rfl rfl rfl rfl (aj (aq (am (bv rfl rfl rfl (ai (aL _ aa rfl rfl (rfl:_=some (AV.v (.string _)))) (ai (aT (r:=false) _ _ Tryz.underlying9 rfl rfl (beq_eq_false_iff_ne.2 h1)) ?_))))))
  refine aj (aR rfl rfl (aJ (aq (aq ?_))))
  refine aO (σ':=aB 72 [(0,_),(1,_),(4,_),(5,_)] [((0,9),_),((4,0),_),((5,0),_)] [(0,9)] [(0,9)]) kp ?_
  refine an (bv rfl rfl rfl (ai (aL _ aa rfl rfl (rfl:_=some (AV.v (.string _)))) (ai (aT (r:=true) _ _ Tryz.underlying9 rfl rfl (by rw [h2];rfl)) ?_)))
  refine aj (bF rfl rfl (am (bh rfl (ai (aQ (htake)) (aj (aG fun K8 hK8=> ?_))))))
  refine an (bh rfl (aS rfl (ai (aQ (hb)) (ai (ax (6,0) aa rfl rfl) (bL rfl rfl rfl rfl rfl rfl (az (hK8 _ ?_)))))))
  clear hK8;try clear K8
  refine am (ai (aP _ aa rfl rfl rfl rfl) (ai (aX _ _ aa rfl ag (by (simp <;> rfl)) ah rfl) ?_))
  refine ai (ay _ aa rfl (by exact (rfl:_=some [_,_,_,_]))) ?_
  exact bL rfl rfl rfl rfl rfl rfl (aj (aD (aY (.inr rfl) rfl (.cellA aa rfl rfl rfl) (Le.outI [] [] (.agg rfl lz) rfl rfl rfl trivial ob tr rfl))))
 rw [if_neg h2] at h
 have hr:r.2=bS T i:=by
  repeat' split at h
  all_goals first | (rw [← Option.some.inj h];done) | cases h
 refine ⟨by rw [hr];exact htl,?_⟩
 refine Spec.ofNI Tryz.func237 rfl Tryz.ntmps237 rfl ?_
 refine am (ai (ax (4,0) aa rfl rfl) (aj (aq (bE 11 [8,9,10,11,12,13,14,15,16,17,5] [(5,0)] ae ae rfl (aK rfl) (rfl:_=[_,_,_,_,_,_,_,_,_,_,_]) (rfl:_=[_]) ?_))))
 refine ap (_,[]) (fun τ=> aE _ (rfl:_=AV.ptr _ _)) ?_
 refine eE rfl ?_
 refine ap (_,[]) (fun τ=> aN _ rfl rfl) ?_
 refine eF rfl ?_
 refine ap (_,[]) (fun τ=> aI _ aa rfl rfl rfl) ?_
 refine eD rfl ?_
 refine ap (_,[]) (fun τ=> aL _ aa rfl rfl (rfl:_=some (AV.sl _ _))) ?_
 refine eI rfl ?_
 refine ap (_,[]) (fun τ=> aE _ (rfl:_=AV.ptr _ _)) ?_
 refine eU rfl ?_
 refine ap (_,[]) (fun τ=> aN _ rfl rfl) ?_
 refine fh rfl ?_
 refine ap (_,[]) (fun τ=> aI _ aa rfl rfl rfl) ?_
 refine fZ rfl ?_
 refine ap (_,[]) (fun τ=> aL _ aa rfl rfl (rfl:_=some (AV.v (.int _ _)))) ?_
 refine jz rfl ?_
 refine ap (_,[]) (fun τ=> bg _ _ aa rfl rfl _ rfl ab (by (simp only [ba,bo,bm,bC,bw];omega)) ag) ?_
 refine jC rfl ?_
 refine ap (_,[]) (fun τ=> cj _ aa rfl (by exact lA _ _ hi) rfl) ?_
 refine fK rfl ?_
 refine ap (_,[((5,0),_)]) (fun τ=> ax (5,0) aa rfl rfl) ?_
 refine gl rfl (bi ⟨rfl,?_⟩)
 refine bL rfl rfl rfl rfl rfl rfl (aj (aq (am (bv rfl rfl rfl (ai (aL _ aa rfl rfl (rfl:_=some (AV.v (.string _)))) (ai (aT (r:=false) _ _ Tryz.underlying9 rfl rfl (beq_eq_false_iff_ne.2 h1)) ?_))))))
 refine aj (aR rfl rfl (aJ (aq (aq ?_))))
 refine aO (σ':=aB 72 [(0,_),(1,_),(4,_),(5,_)] [((0,9),_),((4,0),_),((5,0),_)] [(0,9)] [(0,9)]) kp ?_
 refine an (bv rfl rfl rfl (ai (aL _ aa rfl rfl (rfl:_=some (AV.v (.string _)))) (ai (aT (r:=false) _ _ Tryz.underlying9 rfl rfl (beq_eq_false_iff_ne.2 h2)) ?_)))
 refine aj (aR rfl rfl (aJ (am (ai (ay _ aa rfl (by exact (rfl:_=some [_,_,_,_]))) ?_))))
 refine ai (ax (7,0) aa rfl rfl) (bL rfl rfl rfl rfl rfl rfl (aj (aG fun K8 hK8=> ?_)))
 refine am (bv rfl rfl rfl (cG rfl rfl rfl (ai (bT _ _ rfl rfl rfl) (aj (aV rfl (fun hc38=> ?_) (fun hc38=> ?_))))))
 ·skip
  rw [if_pos ab] at h
  obtain rfl:=Option.some.inj h
  refine an (bv rfl rfl rfl (cG rfl rfl rfl (ai (ay _ aa rfl (by exact (rfl:_=some [_,_,_,_]))) ?_)))
  refine bL rfl rfl rfl rfl rfl rfl (az (hK8 _ ?_))
  clear hK8;try clear K8
  refine am (bh rfl (ai (aQ (htake)) (aj (aq ?_))))
  refine aO (σ':=aB 72 [(4,_),(7,_)] [((4,0),_),((7,0),_),((0,9),_)] [(0,9)] [(0,9)]) kp ?_
  exact an (ai (aP _ aa rfl rfl rfl rfl) (bL rfl rfl rfl rfl rfl rfl (aj (aD (aY (.inr rfl) rfl (.cellA aa rfl rfl rfl) (Le.outI [] [] (.agg rfl lz) rfl rfl rfl trivial ob tr rfl))))))
 ·skip
  rw [if_neg ab] at h
  refine am (bv rfl rfl rfl (ai (aL _ aa rfl rfl (rfl:_=some (AV.v (.string _)))) (ai (aT _ _ Tryz.underlying9 rfl rfl rfl) (aj (aV rfl (fun hc44=> ?_) (fun hc44=> ?_))))))
  ·skip
   rw [if_pos (show (cY T i).t=sH from hc44)] at h
   obtain rfl:=Option.some.inj h
   refine an (ai (ay _ aa rfl (by exact (rfl:_=some [_,_,_,_]))) ?_)
   refine bL rfl rfl rfl rfl rfl rfl (az (hK8 _ ?_))
   clear hK8;try clear K8
   refine am (bh rfl (ai (aQ (htake)) (aj (aq ?_))))
   refine aO (σ':=aB 72 [(4,_),(7,_)] [((4,0),_),((7,0),_),((0,9),_)] [(0,9)] [(0,9)]) kp ?_
   exact an (ai (aP _ aa rfl rfl rfl rfl) (bL rfl rfl rfl rfl rfl rfl (aj (aD (aY (.inr rfl) rfl (.cellA aa rfl rfl rfl) (Le.outI [] [] (.agg rfl lz) rfl rfl rfl trivial ob tr rfl))))))
  ·skip
   rw [if_neg (show ¬ (cY T i).t=sH from hc44)] at h
   refine am (bv rfl rfl rfl (ai (aL _ aa rfl rfl (rfl:_=some (AV.v (.string _)))) (ai (aT _ _ Tryz.underlying9 rfl rfl rfl) (aj (aV rfl (fun hc48=> ?_) (fun hc48=> ?_))))))
   ·skip
    rw [if_pos (show (cY T i).t=qn from hc48)] at h
    obtain rfl:=Option.some.inj h
    refine aO (σ':=aB 72 [(0,_),(4,_),(7,_)] [((0,9),_),((4,0),_),((7,0),_)] [(0,9)] [(0,9)]) kp ?_
    refine an (ai (ay _ aa rfl (by exact (rfl:_=some [_,_,_,_]))) ?_)
    refine bL rfl rfl rfl rfl rfl rfl (az (hK8 _ ?_))
    clear hK8;try clear K8
    exact am (bh rfl (ai (aQ (htake)) (aj (am (ai (aP _ aa rfl rfl rfl rfl) (bL rfl rfl rfl rfl rfl rfl (aj (aD (aY (.inr rfl) rfl (.cellA aa rfl rfl rfl) (Le.outI [] [] (.agg rfl lz) rfl rfl rfl trivial ob tr rfl))))))))))
   ·skip
    rw [if_neg (show ¬ (cY T i).t=qn from hc48)] at h
    refine aq ?_
    refine aO (σ':=aB 72 [(0,_),(4,_),(5,_),(7,_)] [((0,9),_),((4,0),_),((5,0),_),((7,0),_)] [(0,9)] [(0,9)]) kp ?_
    refine bE 4 [50,51,52,53] [] ae ae rfl (aK rfl) (rfl:_=[_,_,_,_]) (rfl:_=[]) ?_
    refine ap (_,[]) (fun τ=> (aM aa (by repeat' (exact dE)) (eC) rfl rfl)) ?_
    refine eE rfl ?_
    refine ap (_,[]) (fun τ=> aI _ aa rfl rfl rfl) ?_
    refine eF rfl ?_
    refine ap (_,[]) (fun τ=> aL _ aa rfl rfl (rfl:_=some (AV.v (.string _)))) ?_
    refine eD rfl ?_
    refine ap (_,[]) (fun τ=> (aM aa al (cC bltT 9 rfl ab (cY T i).t) rfl rfl)) ?_
    refine eI rfl (bi ⟨rfl,?_⟩)
    refine aj (aV rfl (fun hc53=> ?_) (fun hc53=> ?_))
    ·skip
     rw [if_pos hc53] at h
     obtain rfl:=Option.some.inj h
     refine an (bv rfl rfl rfl (ai (aL _ aa rfl rfl (rfl:_=some (AV.v (.string _)))) (ai (ay _ aa rfl (by exact (rfl:_=some [_,_,_,_]))) ?_)))
     refine bL rfl rfl rfl rfl rfl rfl (az (hK8 _ ?_))
     clear hK8;try clear K8
     exact am (bh rfl (ai (aQ (htake)) (aj (am (ai (aP _ aa rfl rfl rfl rfl) (bL rfl rfl rfl rfl rfl rfl (aj (aD (aY (.inr rfl) rfl (.cellA aa rfl rfl rfl) (Le.outI [] [] (.agg rfl lz) rfl rfl rfl trivial ob tr rfl))))))))))
    ·skip
     rw [if_neg hc53] at h
     refine am (bh rfl (ai (bs aa _ _ ar (dF T i N hi) tr rfl ae (by simp)) ?_))
     refine aj (aV rfl (fun hc58=> ?_) (fun hc58=> ?_))
     ·skip
      rw [if_pos hc58] at h
      obtain rfl:=Option.some.inj h
      refine an (bv rfl rfl rfl (ai (aL _ aa rfl rfl (rfl:_=some (AV.v (.string _)))) (ai (ay _ aa rfl (by exact (rfl:_=some [_,_,_,_]))) ?_)))
      refine bL rfl rfl rfl rfl rfl rfl (az (hK8 _ ?_))
      clear hK8;try clear K8
      exact am (bh rfl (ai (aQ (htake)) (aj (am (ai (aP _ aa rfl rfl rfl rfl) (bL rfl rfl rfl rfl rfl rfl (aj (aD (aY (.inr rfl) rfl (.cellA aa rfl rfl rfl) (Le.outI [] [] (.agg rfl lz) rfl rfl rfl trivial ob tr rfl))))))))))
     ·skip
      exact absurd h (by rw [if_neg (by simp [hc58])];exact fun e=> by cases e)
theorem zF (pr:Nat) (h:1≤pr∧pr≤6∧pr≠3):([PV.v (.slice none 0 0), .sl 1 (dT [[124,124]]), .sl 1 (dT [[38,38]]), .v (.slice none 0 0), .sl 6 (dT [[60],[60,61],[62],[62,61],[61,61],[33,61]]), .sl 2 (dT [[43],[45]]), .sl 2 (dT [[42],[47]])]:List PV)[pr]? =some (.sl (opsP.getD pr []).length (dT (opsP.getD pr []))):=by
 have:pr=1∨pr=2∨pr=4∨pr=5∨pr=6:=by omega
 rcases this with rfl | rfl | rfl | rfl | rfl <;> rfl
theorem Ay (pr:Nat):(opsP.getD pr []).length≤6:=by
 unfold opsP
 match pr with
 | 0=> decide | 1=> decide | 2=> decide | 3=> decide | 4=> decide | 5=> decide | 6=> decide
 | n+7=> simp
theorem oA {f lv pr:Nat} {d:Nd} {i:Nat} {r:Nd×Nat} (h:lJ T f lv pr d i=some r): ∃ g,f=g+1∧((cY T i).t∉opsP.getD pr []∧r=(d,i)∨(cY T i).t∈opsP.getD pr []∧ ∃ e j,fT T g lv (pr+1) (bS T i)=some (e,j)∧
  (pr=4∧r=(nd 18 0 (cY T i).t [d,e],j)∨pr≠4∧lJ T g lv pr (nd 18 0 (cY T i).t [d,e]) j=some r)):=by
 cases f with
 | zero=> simp [lJ] at h
 | succ g=>
  refine ⟨g,rfl,?_⟩
  unfold lJ at h
  split at h
  ·rename_i hm
   simp only [Option.bind_eq_bind,Option.bind_eq_some_iff,Option.pure_def] at h
   obtain ⟨⟨e,j⟩,he,h⟩:=h
   refine .inr ⟨hm,e,j,he,?_⟩
   split at h
   ·rename_i h4;exact .inl ⟨h4,(Option.some.inj h).symm⟩
   ·rename_i h4;exact .inr ⟨h4,h⟩
  ·rename_i hm;exact .inl ⟨hm,(Option.some.inj h).symm⟩
theorem xn (hT:T.length≤100000) (f:Nat) (ih: ∀ g,g≤f→PE T N g) (lv pr i:Nat) (r:Nd×Nat) (hl:lv≤20) (hp:1≤pr∧pr≤6∧pr≠3) (hi:i < T.length) (h:uZ T (f+1) lv pr i=some r):
  r.2 < T.length∧Spec Tryz.prog 236 (bc [.ptr (0,9) 0, .v (.int .i64 (lv:Int)), .v (.int .i64 (pr:Int))] (dI T i N)) (PO T N r):=by
 unfold uZ at h
 simp only [Option.bind_eq_bind,Option.bind_eq_some_iff] at h
 obtain ⟨⟨d,j⟩,hd,h⟩:=h
 simp only at h
 obtain ⟨ha,hb⟩:=(ih f (Nat.le_refl _)).expr _ _ _ _ hl ab hi hd
 have hend: ∀ (g:Nat) (d:Nd) (i:Nat),g≤f→i < T.length→lJ T g lv pr d i=some r→r.2 < T.length:=by
  intro g
  induction g with
  | zero=> intro d i _ _ h;simp [lJ] at h
  | succ g ihg=>
   intro d i hg hi h
   obtain ⟨g',hg',h | ⟨_,e,j,he,h⟩⟩:=oA h
   ·rw [h.2];exact hi
   ·obtain rfl:g=g':=by omega
    have hj:=((ih g ab).expr _ _ _ _ hl ab (dM hi) he).1
    rcases h with h | h
    ·rw [h.2];exact hj
    ·exact ihg _ _ ab hj h.2
 refine ⟨hend f d j (Nat.le_refl _) ha h,?_⟩
 have hol:=Ay pr
 refine Spec.ofNI Tryz.func236 rfl Tryz.ntmps236 rfl ?_
 refine am (ai (ax (6,0) aa rfl rfl) (aj (am (ai (aX _ _ aa rfl ag (by (simp <;> rfl)) ah rfl) ?_))))
 refine ai (aX _ _ aa rfl ag (by (simp <;> rfl)) ah rfl) ?_
 refine ai (aX _ _ aa rfl ag (by (simp <;> rfl)) ah rfl) ?_
 refine ai (aX _ _ aa rfl ag (by (simp <;> rfl)) ah rfl) ?_
 refine ai (aX _ _ aa rfl ag (by (simp <;> rfl)) ah rfl) ?_
 refine ai (aX _ _ aa rfl ag (by (simp <;> rfl)) ah rfl) ?_
 refine kB rfl (aj (am (bh rfl (aS rfl (aS rfl (ai (be _ _ rfl rfl (br ab)) ?_))))))
 refine ai (aQ (hb)) (ai (ax (8,0) aa rfl rfl) (bL rfl rfl rfl rfl rfl rfl (aj (aG fun K4 hK4=> ?_))))
 refine au ?_
 refine bB (α:=Nat×Nd×Nat) (fun z=> z.1≤f∧z.2.2 < T.length∧lJ T z.1 lv pr z.2.1 z.2.2=some r) 53 [(0,_),(1,_),(2,_),(6,_),(7,_),(8,_)] [((6,0),_)] (fun z=> []) (fun z=> [((0,9), .box 222 [.sl T.length (qF T), .v (.int .i64 (z.2.2:Int)), .v (.int .i64 0), .v (.int .i64 0), .sl N.length (dT N)]),((8,0), .box 71 [.v (.int .i64 (z.2.1.k:Int)), .v (.int .i64 (z.2.1.n:Int)), .v (bt z.2.1.s), .sl z.2.1.kn z.2.1.kids])]) [(0,9)] [(0,9)] (fun z=> z.1) (f,d,j) ?_ (by
  refine Le.mkJ [] [] rfl ?_ ?_ trivial tr ?_
  ·exact ⟨(iP rfl),(iV rfl),(iV rfl),(iP rfl),(iS rfl),(iP rfl),trivial⟩
  ·exact ⟨(cI rfl rfl rfl),(fg rfl rfl rfl rfl lz),(fg rfl rfl rfl rfl (kX (kX (aC (by repeat' (exact Lv.v)) lz)))),trivial⟩
  ·kernel_rfl) ?_
 ·exact ⟨Nat.le_refl _,ha,h⟩
 intro z hz
 obtain ⟨z1,z2,z3⟩:=z
 obtain ⟨hz1,hz2,hz3⟩:=hz
 obtain ⟨g,rfl,hm⟩:=oA hz3
 simp only at hz1 hz2 hm ⊢
 refine aG fun K5 hK5=> ?_
 refine aq (bE 14 [22,23,24,25,26,27,28,29,30,31,32,33,34,35] [] ae ae rfl (aK rfl) (rfl:_=[_,_,_,_,_,_,_,_,_,_,_,_,_,_]) (rfl:_=[]) ?_)
 refine ap (_,[]) (fun τ=> aE _ (rfl:_=AV.ptr _ _)) ?_
 refine eE rfl ?_
 refine ap (_,[]) (fun τ=> aN _ rfl rfl) ?_
 refine eF rfl ?_
 refine ap (_,[]) (fun τ=> aI _ aa rfl rfl rfl) ?_
 refine eD rfl ?_
 refine ap (_,[]) (fun τ=> aL _ aa rfl rfl (rfl:_=some (AV.v (.int _ _)))) ?_
 refine eI rfl ?_
 refine ap (_,[]) (fun τ=> bT (r:=true) _ _ rfl rfl rfl) ?_
 refine eU rfl ?_
 refine ap (_,[]) (fun τ=> aE _ (rfl:_=AV.v (.bool _))) ?_
 refine fh rfl ?_
 refine bX (_,[]) rfl (fun τ=> rfl) (fun τ=> aE _ (rfl:_=AV.sl _ _)) ?_
 refine fZ rfl ?_
 refine bX (_,[]) rfl (fun τ=> rfl) (fun τ=> aE _ (rfl:_=AV.v (.int _ _))) ?_
 refine jz rfl ?_
 refine bX (_,[]) rfl (fun τ=> rfl) (fun τ=> bg _ _ aa rfl rfl _ rfl ab ah (by exact Nat.mul_one _)) ?_
 refine jC rfl ?_
 refine bX (_,[]) rfl (fun τ=> rfl) (fun τ=> bG _ aa rfl (by exact zF pr hp) rfl) ?_
 refine fK rfl ?_
 refine bX (_,[]) rfl (fun τ=> rfl) (fun τ=> aE _ (rfl:_=AV.ptr _ _)) ?_
 refine gl rfl ?_
 refine bX (_,[]) rfl (fun τ=> rfl) (fun τ=> (bs aa _ _ ar (bV T z3 N hz2) tr rfl ae (by simp))) ?_
 refine kP rfl ?_
 refine bX (_,[]) rfl (fun τ=> rfl) (fun τ=> (aM aa al (cC (opsP.getD pr []) _ rfl ab (cY T z3).t) rfl rfl)) ?_
 refine lQ rfl ?_
 refine ap (_,[]) (fun τ=> aH _ _ _ rfl (rfl:_=AV.v (.bool _))) ?_
 refine oX rfl (bi ⟨rfl,?_⟩)
 refine aj (aV rfl (fun hc35=> ?_) (fun hc35=> ?_))
 ·skip
  obtain ⟨_,e,je,he,hm⟩:=hm.resolve_left fun x=> x.1 hc35
  obtain ⟨hea,heb⟩:=(ih g ab).expr _ _ _ _ hl ab (dM hz2) he
  refine bz (hK5 _ ?_)
  clear hK5;try clear K5
  refine au (am (bh rfl (ai (bs aa _ _ ar (bV T z3 N hz2) tr rfl ae (by simp)) ?_)))
  refine ja rfl (aj (aq ?_))
  refine aO (σ':=aB 53 [(0,_),(1,_),(2,_),(6,_),(7,_),(8,_),(9,_)] [((6,0),_),((0,9),_),((8,0),_)] [(0,9)] [(0,9)]) kp ?_
  refine an (bh rfl (ai (aQ (cp T z3 N hz2 hT)) ?_))
  refine aj (aG fun K9 hK9=> ?_)
  refine an (bh rfl (aS rfl (aS rfl (ai (be _ _ rfl rfl (br ab)) ?_))))
  refine ai (aQ (heb)) (ai (ax (10,0) aa rfl rfl) (bL rfl rfl rfl rfl rfl rfl (az (hK9 _ ?_))))
  clear hK9;try clear K9
  refine am (dL rfl (ai (aP _ aa rfl rfl rfl rfl) (ai (aP _ aa rfl rfl rfl rfl) (ai (aX _ _ aa rfl ag (by (simp <;> rfl)) ah rfl) ?_))))
  refine ai (ay _ aa rfl (by exact (rfl:_=some [_,_,_,_]))) ?_
  refine bL rfl rfl rfl rfl rfl rfl (aj (aq ?_))
  refine aO (σ':=aB 53 [(0,_),(1,_),(2,_),(6,_),(7,_),(8,_)] [((6,0),_),((0,9),_),((8,0),_)] [(0,9)] [(0,9)]) kp ?_
  refine an (aS rfl (ai (bT _ _ rfl rfl rfl) (aj (aV rfl (fun hc51=> ?_) (fun hc51=> ?_)))))
  ·skip
   have hr:=(hm.resolve_right fun x=> x.1 ab).2
   subst hr
   refine bK (id (hK4 _ ?_))
   clear hK4;try clear K4
   exact am (ai (aP _ aa rfl rfl rfl rfl) (bL rfl rfl rfl rfl rfl rfl (aj (aD (aY (.inr rfl) rfl (.cellA aa rfl rfl rfl) (Le.outI [] [] (.agg rfl lz) rfl rfl rfl trivial ob tr rfl))))))
  ·skip
   have hm:=(hm.resolve_left fun x=> hc51 ab).2
   refine bz (⟨(g,nd 18 0 (cY T z3).t [z2,e],je),?_,?_,?_⟩)
   ·exact ⟨by simp only;omega,hea,hm⟩
   ·skip
    refine Le.mkJ [] [] rfl ?_ ?_ trivial tr ?_
    ·exact ⟨(iP rfl),(iV rfl),(iV rfl),(iP rfl),(iS rfl),(iP rfl),trivial⟩
    ·exact ⟨(cI rfl rfl rfl),(fg rfl rfl rfl rfl lz),(fg rfl rfl rfl rfl (kX (kX (aC (by repeat' (exact Lv.v)) lz)))),trivial⟩
    ·kernel_rfl
   ·simp only;omega
 ·skip
  have hr:=(hm.resolve_right fun x=> hc35 x.1).2
  subst hr
  refine bK (id (hK4 _ ?_))
  clear hK4;try clear K4
  exact am (ai (aP _ aa rfl rfl rfl rfl) (bL rfl rfl rfl rfl rfl rfl (aj (aD (aY (.inr rfl) rfl (.cellA aa rfl rfl rfl) (Le.outI [] [] (.agg rfl lz) rfl rfl rfl trivial ob tr rfl))))))
theorem Dz (hT:T.length≤100000): ∀ f g,g≤f→PE T N g:=by
 intro f
 induction f with
 | zero=>
  intro g hg
  obtain rfl:g=0:=by omega
  exact ⟨fun _ _ _ _ _ _ _ h=> by simp [fT] at h,fun _ _ _ _ _ _ _ _ h=> by simp [Eh] at h,fun _ _ _ _ _ _ _ h=> by simp [uZ] at h,fun _ _ _ _ _ h=> by simp [pa] at h,fun _ _ _ _ _ h=> by simp [su] at h⟩
 | succ f ih=>
  intro g hg
  rcases Nat.lt_or_ge g (f+1) with h | h
  ·exact ih g ab
  ·obtain rfl:g=f+1:=by omega
   exact ⟨vn f (ih f (Nat.le_refl _)),zN hT f (ih f (Nat.le_refl _)),xn hT f ih,vD hT f (ih f (Nat.le_refl _)),uF hT f (ih f (Nat.le_refl _))⟩
theorem vf (hT:T.length≤100000) {f lv i:Nat} {r:Nd×Nat} (hl:lv≤20) (hi:i < T.length) (h:fT T f lv 1 i=some r):r.2 < T.length∧Spec Tryz.prog 226 (bc [.ptr (0,9) 0, .v (.int .i64 (lv:Int)), .v (.int .i64 1)] (dI T i N)) (PO T N r):=
 (Dz hT f f (Nat.le_refl _)).expr lv 1 i r hl ab hi h
end
end Go.Proofs.YtmjnackchaahbaaGreat

/- Part 14 of the texts that the walk leans on: the machine, the walks, the plain laws. -/
import Derived.Test.YtmjnackchaahbaaGreatVcZ13
set_option linter.unusedSimpArgs false
set_option linter.unusedVariables false
namespace Go.Proofs.YtmjnackchaahbaaGreat
open Go.RowKit

theorem gk {l:List Int} {i:Nat} (h:i < l.length):l.getD i (-1)=l.getD i 0:=by
 rw [List.getD_eq_getElem?_getD,List.getD_eq_getElem?_getD,List.getElem?_eq_getElem h];rfl
theorem sI {n:Nat} {d:Int} {s:DS} {l:List Nat} {k:Nat} (h:k < l.length):(l.take (k+1)).foldl (ic n d) s=ic n d ((l.take k).foldl (ic n d) s) (l.getD k 0):=by
 rw [List.take_succ_eq_append_getElem h,List.foldl_append,List.getD_eq_getElem?_getD,List.getElem?_eq_getElem h];rfl
theorem BI (n k:Nat) (h:k < n):((List.replicate k (-1:Int))++List.replicate (n - k) 0).set k (-1)=List.replicate (k+1) (-1)++List.replicate (n - (k+1)) 0:=by
 rw [List.set_append_right _ _ (by simp),List.length_replicate,Nat.sub_self,show n - k=(n - (k+1))+1 by omega,List.replicate_succ,List.set_cons_zero,show List.replicate (k+1) (-1:Int)=List.replicate k (-1)++[-1] from List.replicate_succ']
 simp
theorem wx {ρ:aF→aF} {σ:St} {F:aF→Bool} {id:aF} {e:TypeId} {sz n m:Nat} {xs ys:List PV} (hid:σ.ob id= .obj (.row e sz xs)) (hF:F id=true) (hl:n*sz=xs.length) (hy:xs=ys) (hn:n=m):Lv ρ σ F (.sl m ys) (.ref id 0 n):=by
 subst hn;exact iq hid hF hl hy
theorem DI.flag {D:Nat→Nat} {n:Nat} {s:DS} {b:Bool} (h:DI D n s):DI D n (s.1,s.2.1,b):=⟨h.len,h.val,h.ok⟩
def uB (C:List et) (R:List Int×Bool) (z:(List Int×Bool)×Bool):Prop:=if z.2=true then ∃ f,neg z.1.1+1≤f∧ig C f z.1=R else z.1=R
theorem uZ {C:List et} {R:List Int×Bool} {s:List Int×Bool} {f:Nat} (hf:neg s.1+1≤f) (hR:ig C f s=R) (hd:(dj C s C.length).2.2=true→neg (dj C s C.length).1 < neg s.1):
  uB C R (((dj C s C.length).1,(dj C s C.length).2.1),(dj C s C.length).2.2):=by
 obtain ⟨g,rfl⟩: ∃ g,f=g+1:=⟨f - 1,by omega⟩
 unfold uB
 cases hb:(dj C s C.length).2.2 with
 | true=>
  have:=hd hb
  rw [if_pos rfl]
  exact ⟨g,by simp only;omega,by rw [← hR,sG hb]⟩
 | false=> rw [if_neg (by simp)];rw [← hR,sZ hb]
def HP (z:(List Int×Bool)×Bool):Nat:=if z.2=true then neg z.1.1+1 else 0
theorem DO {C:List et} {s:List Int×Bool} (hd:(dj C s C.length).2.2=true→neg (dj C s C.length).1 < neg s.1):HP (((dj C s C.length).1,(dj C s C.length).2.1),(dj C s C.length).2.2) < neg s.1+1:=by
 unfold HP
 simp only
 split
 ·rename_i h;have:=hd h;omega
 ·omega
theorem vn {C:List et} {s:DS} {i:Nat} (h:s.1.getD i (-1) < 0):kb C s i=s:=by unfold kb;rw [if_pos h]
theorem yl {C:List et} {s:DS} {i:Nat} (h: ¬ s.1.getD i (-1) < 0) (h2: ¬ s.1.getD i (-1) - (cJ C i).op.pops < 0):kb C s i=(dA i (cJ C i)).foldl (ic C.length (s.1.getD i (-1) - (cJ C i).op.pops+(cJ C i).op.puts)) s:=by
 unfold kb Bj
 rw [if_neg h,if_neg h2,show max (s.1.getD i (-1) - (cJ C i).op.pops) 0=s.1.getD i (-1) - (cJ C i).op.pops by omega]
theorem qO (C:List et) (en:Nat→Int) (dd vv:Int) (e:Int) (hC:C.length≤1000000) (D:Nat→Nat) (nv:Nat) (hg:Good D nv 0 (C.length - 1) 0 C) (hD: ∀ i,D i≤1000000) (he:0≤e→e < C.length→D e.toNat=0):
  Spec Tryz.prog 72 (bj [.agg (ym C.length (inl C) en dd vv), .v (.int .i64 e)] []) (aX (.tup [.sl (gX C e).1.length (dk (gX C e).1), .v (.bool (gX C e).2)]) []):=by
 refine Spec.ofN Tryz.func72 rfl Tryz.ntmps72 rfl ?_
 refine am (ai (bk (2,0) _ rfl rfl) (ai (bH _ (rfl:_=AV.v (.slice _ _ _))) (cm rfl (aj (am (bE rfl rfl rfl (fo rfl rfl rfl (ai (bF _ aa rfl) (ai (Ez (17,0) _ _ aa rfl rfl C.length rfl rfl ab rfl (vN C.length)) ?_)))))))))
 refine eZ rfl (aj (aG fun K3 hK3=> ?_))
 refine am (aZ rfl (aj (au ?_)))
 refine bB (α:=Nat) (fun k=> k≤C.length) 123 [(1,_),(2,_)] [((2,0),_)] (fun k=> [(7, .v (.int .i64 (k:Int))),(6, .ref (6,0) 0 C.length)]) (fun k=> [((6,0), .row 3 1 (dk (List.replicate k (-1)++List.replicate (C.length - k) 0)))]) [] [] (fun k=> C.length - k) 0 ?_ (by
  refine Le.mkJ [((6,0),(17,0))] [] rfl ?_ ?_ trivial trivial ?_
  ·exact ⟨(by repeat' (exact Lv.v)),(dX (id:=(2,0)) rfl),(ci ag),(dh rfl ag),trivial⟩
  ·exact ⟨(fM rfl rfl rfl rfl (by repeat' (first | exact Lv.v | exact Lv.sl | exact bv | refine aI ?_ ?_))),(gJ rfl rfl rfl ag),trivial⟩
  ·kernel_rfl) ?_
 ·omega
 intro k hk
 have hll:(List.replicate k (-1:Int)++List.replicate (C.length - k) 0).length=C.length:=by simp;omega
 refine aG fun K5 hK5=> ?_
 refine am (aQ rfl (gD rfl (ai (dB _ aa rfl rfl) (ai (bq _ _ rfl rfl rfl) (aj (aU rfl (fun hc21=> ?_) (fun hc21=> ?_)))))))
 ·skip
  have hrs:=BI C.length k ab
  refine bu (hK5 _ ?_)
  clear hK5;try clear K5
  refine aq (au (an (gD rfl (aQ rfl (ai (gE _ _ aa rfl rfl rfl _ rfl ab (by exact (Nat.zero_add _).trans (Nat.mul_one _))) ?_)))))
  refine ai (nN _ _ aa rfl rfl rfl rfl rfl (by simp;omega) ((lO _ _ _ ab).trans (congrArg dk hrs))) ?_
  refine fc (an (aQ rfl (ai (bc _ _ rfl rfl (bp ab)) ?_)))
  refine aZ rfl (az (⟨k+1,?_,?_,?_⟩))
  ·omega
  ·skip
   refine Le.mkJ [] [] rfl ?_ ?_ trivial trivial ?_
   ·exact ⟨(iV rfl),(iP rfl),(ci ag),(dh rfl ag),trivial⟩
   ·exact ⟨(cD rfl rfl rfl),(gJ rfl rfl rfl ag),trivial⟩
   ·kernel_rfl
  ·omega
 ·skip
  obtain rfl:k=C.length:=by omega
  have hrep:List.replicate C.length (-1:Int)++List.replicate (C.length - C.length) 0=List.replicate C.length (-1):=by simp
  refine bK (id (hK3 _ ?_))
  clear hK3;try clear K3
  refine aq (am (aQ rfl (ai (bq _ _ rfl rfl rfl) (cL rfl (dn (fun hg29=> ?_) (fun hg29=> ?_))))))
  ·skip
   have hdf:gX C e=(List.replicate C.length (-1),true):=if_pos (.inl ab)
   refine aR rfl rfl ah ?_
   refine aR rfl rfl ah ?_
   refine aR rfl rfl ah ?_
   refine aR rfl rfl ah ?_
   refine ai (aD _ _ _ rfl (rfl:_=AV.v (.bool _))) (aj (bD rfl rfl (am (gD rfl (eZ rfl (cm rfl (aj (aC ?_))))))))
   rw [hdf]
   exact lZ (.inr rfl) rfl (.tmp (rfl:_=AV.ref _ _ _)) (.tmp (rfl:_=AV.v (.bool _))) (Le.out [] [(6,0)] (.tup rfl (aI (wx rfl rfl (by simp) (congrArg dk hrep) (by simp)) lz)) rfl rfl rfl tr trivial)
  ·skip
   refine ax rfl rfl (aE _ (rfl:_=AV.v (.int _ _))) (ax rfl rfl (aE _ (rfl:_=AV.ref _ _ _)) (ax rfl rfl (dB _ aa rfl rfl) (ax rfl rfl (eD _ _ rfl rfl rfl) (ai (aD _ _ _ rfl (rfl:_=AV.v (.bool _))) (aj (aU rfl (fun hc34=> ?_) (fun hc34=> ?_)))))))
   ·skip
    have hdf:gX C e=(List.replicate C.length (-1),true):=if_pos (.inr ab)
    refine am (gD rfl (eZ rfl (cm rfl (aj (aC ?_)))))
    rw [hdf]
    exact lZ (.inr rfl) rfl (.tmp (rfl:_=AV.ref _ _ _)) (.tmp (rfl:_=AV.v (.bool _))) (Le.out [] [(6,0)] (.tup rfl (aI (wx rfl rfl (by simp) (congrArg dk hrep) (by simp)) lz)) rfl rfl rfl tr trivial)
   ·skip
    have hdf:gX C e=ig C (C.length+1) ((List.replicate C.length (-1)).set e.toNat 0,true):=if_neg ab
    have hdi0:DI D C.length ((List.replicate C.length (-1)).set e.toNat 0,true,false):=by
     have hr: ∀ i,(List.replicate C.length (-1:Int)).getD i (-1)= -1:=fun i=> by rw [List.getD_eq_getElem?_getD,List.getElem?_replicate];split <;> rfl
     refine ⟨by simp,fun i hi=> ?_,rfl⟩
     simp only
     rw [iH]
     split
     ·rename_i h;right;rw [h.1,he ab ab];rfl
     ·exact .inl (hr i)
    have hn0:neg ((List.replicate C.length (-1)).set e.toNat 0)≤C.length:=by
     have:=List.countP_le_length (p:=fun x:Int=> decide (x < 0)) (l:=(List.replicate C.length (-1:Int)).set e.toNat 0)
     simpa [neg] using this
    obtain ⟨R,hR⟩: ∃ R,R=gX C e:=⟨_,rfl⟩
    rw [← hR] at hdf
    refine aH (am (gD rfl (aQ rfl (ai (gE _ _ aa rfl rfl rfl e.toNat ab ab (by exact (Nat.zero_add _).trans (Nat.mul_one _))) ?_))))
    refine ai (nN _ _ aa rfl rfl rfl rfl rfl (by simp;omega) ((lO _ _ _ (by simp;omega)).trans (congrArg (fun l=> dk (List.set l e.toNat 0)) hrep))) ?_
    refine aj (aq ?_)
    refine aN (σ':=aB 123 [(2,_),(6,_)] [((2,0),_),((6,0),_)] [] []) kp ?_
    refine an (cm rfl (aj (aG fun K14 hK14=> ?_)))
    refine am (cm rfl (aj (au ?_)))
    refine bB (α:=(List Int×Bool)×Bool) (fun z=> DI D C.length (z.1.1,z.1.2,false)∧uB C R z) 123 [(2,_),(6,_)] [((2,0),_)] (fun z=> [(8, .v (.bool z.1.2)),(9, .v (.bool z.2))]) (fun z=> [((6,0), .row 3 1 (dk z.1.1))]) [] [] (fun z=> HP z) (((List.replicate C.length (-1)).set e.toNat 0,true),true) ?_ (by
     refine Le.mkJ [] [] rfl ?_ ?_ trivial trivial ?_
     ·exact ⟨(iP rfl),(iR rfl),(gz ag),(gz ag),trivial⟩
     ·exact ⟨(cD rfl rfl rfl),(gJ rfl rfl rfl ag),trivial⟩
     ·kernel_rfl) ?_
    ·exact ⟨hdi0,by unfold uB;rw [if_pos rfl];exact ⟨C.length+1,by simp only;omega,hdf.symm⟩⟩
    intro z hz
    obtain ⟨s,ch⟩:=z
    obtain ⟨hdi,hz⟩:=hz
    simp only at hdi hz ⊢
    refine aG fun K16 hK16=> ?_
    refine am (cL rfl (aj (aU rfl (fun hc39=> ?_) (fun hc39=> ?_))))
    ·skip
     obtain ⟨f,hf1,hf2⟩: ∃ f,neg s.1+1≤f∧ig C f s=R:=by
      unfold uB at hz
      rwa [if_pos hc39] at hz
     have hpd:=(jB hg hdi C.length (Nat.le_refl _)).2.2
     refine bu (hK16 _ ?_)
     clear hK16;try clear K16
     refine au (am (cm rfl (aj (am (aZ rfl (aj (au ?_)))))))
     refine bB (α:=Nat) (fun i=> i≤C.length) 123 [(2,_),(6,_)] [((2,0),_)] (fun i=> [(10, .v (.int .i64 (i:Int))),(8, .v (.bool (dj C s i).2.1)),(9, .v (.bool (dj C s i).2.2))]) (fun i=> [((6,0), .row 3 1 (dk (dj C s i).1))]) [] [] (fun i=> C.length - i) 0 ?_ (by
      refine Le.mkJ [] [] rfl ?_ ?_ trivial trivial ?_
      ·exact ⟨(iP rfl),(iR rfl),(ci ag),(gz ag),(gz ag),trivial⟩
      ·exact ⟨(cD rfl rfl rfl),(gJ rfl rfl rfl ag),trivial⟩
      ·kernel_rfl) ?_
     ·omega
     intro i hi
     have hw:=(jB hg hdi i hi).1
     have hps:=nE C s i
     have hwl:=hw.len
     refine aG fun K20 hK20=> ?_
     refine am (aQ rfl (gD rfl (ai (dB _ aa rfl rfl) (ai (bq _ _ rfl rfl rfl) (aj (aU rfl (fun hc43=> ?_) (fun hc43=> ?_)))))))
     ·skip
      have hdn:=(jB hg hdi (i+1) ab).1
      have hvi:=hw.val i ab
      generalize dj C s i=w at hw hps hwl hvi
      rw [gk ab] at hvi
      obtain ⟨hins,hpop,hsuc⟩:=hg i (cJ C i) (by unfold cJ;rw [List.getD_eq_getElem?_getD,List.getElem?_eq_getElem ab];rfl)
      rw [Nat.zero_add] at hpop hsuc
      have hDi:=hD i
      refine bu (hK20 _ ?_)
      clear hK20;try clear K20
      refine aG fun K22 hK22=> ?_
      refine au (aq (am (gD rfl (aQ rfl (ai (gE _ _ aa rfl rfl rfl _ rfl ab (by exact (Nat.zero_add _).trans (Nat.mul_one _))) ?_)))))
      refine ai (kZ _ aa rfl rfl (by exact dC _ _ ab) rfl) ?_
      refine ai (bq _ _ rfl rfl rfl) (aj (aU rfl (fun hc50=> ?_) (fun hc50=> ?_)))
      ·skip
       rw [vn (by rw [gk ab];omega)] at hps
       refine bK (id (hK22 _ ?_))
       clear hK22;try clear K22
       refine an (aQ rfl (ai (bc _ _ rfl rfl (bp ab)) ?_))
       refine aZ rfl (az (⟨i+1,?_,?_,?_⟩))
       ·omega
       ·skip
        refine Le.mkJ [] [] rfl ?_ ?_ trivial trivial ?_
        ·exact ⟨(iP rfl),(iR rfl),(ci ag),(gz (by (rw [hps]))),(gz (by (rw [hps]))),trivial⟩
        ·exact ⟨(cD rfl rfl rfl),(gJ rfl rfl rfl (by (rw [hps]))),trivial⟩
        ·kernel_rfl
       ·omega
      ·skip
       have hvD:=hvi.resolve_left ab
       have hgo:=yl (C:=C) (s:=w) (i:=i) (by rw [gk ab];omega) (by rw [gk ab];omega)
       rw [gk ab,hvD] at hgo
       rw [hgo] at hps
       obtain ⟨L,hL⟩: ∃ L,L=dA i (cJ C i):=⟨_,rfl⟩
       have hLl:L.length≤2:=by rw [hL];unfold dA;split <;> simp
       have hnn:(cJ C i).op= .jump∨(cJ C i).op= .unl→0≤(cJ C i).n:=by
        unfold cT at hins
        rintro (e | e) <;> rw [e] at hins <;> exact hins
       have hnx:=uH C en dd vv i hC ab hnn
       rw [← hL] at hps hsuc hnx
       have hpp:=pb (cJ C i).op
       have hpq:=oW (cJ C i).op
       have hp3:(cJ C i).op.pops≤3:=by generalize (cJ C i).op=o;cases o <;> decide
       have hp4:(cJ C i).op.puts≤1:=by generalize (cJ C i).op=o;cases o <;> decide
       refine aH (aq ?_)
       refine aN (σ':=aB 123 [(2,_),(6,_),(8,_),(9,_),(10,_)] [((2,0),_),((6,0),_)] [] []) kp ?_
       refine bG 13 [51,52,53,54,55,56,57,58,59,60,61,62,11] [] ae ae rfl (aL rfl) (rfl:_=[_,_,_,_,_,_,_,_,_,_,_,_,_]) (rfl:_=[]) ?_
       refine ap (_,[]) (fun τ=> aE _ (rfl:_=AV.ref _ _ _)) ?_
       refine eK rfl ?_
       refine ap (_,[]) (fun τ=> aE _ (rfl:_=AV.v (.int _ _))) ?_
       refine eJ rfl ?_
       refine ap (_,[]) (fun τ=> gE _ _ aa rfl rfl rfl _ rfl ab (by exact (Nat.zero_add _).trans (Nat.mul_one _))) ?_
       refine eI rfl ?_
       refine ap (_,[]) (fun τ=> kZ _ aa rfl rfl (by exact dC _ _ ab) rfl) ?_
       refine eO rfl ?_
       refine ap (_,[]) (fun τ=> aJ _ aa rfl rfl rfl) ?_
       refine fa rfl ?_
       refine ap (_,[]) (fun τ=> aM _ aa rfl rfl (rfl:_=some (AV.sl _ _))) ?_
       refine fC rfl ?_
       refine ap (_,[]) (fun τ=> aE _ (rfl:_=AV.v (.int _ _))) ?_
       refine gv rfl ?_
       refine ap (_,[]) (fun τ=> bf _ _ aa rfl rfl _ rfl ab (by (simp only [ba,bn,bm,bz,bw,bJ,bA,bL,ed,ba];omega)) ag) ?_
       refine jI rfl ?_
       refine ap (_,[]) (fun τ=> cY _ aa rfl rfl) ?_
       refine jQ rfl ?_
       refine ap (_,[]) (fun τ=> bC _ aa rfl (by exact iu C i ab) rfl) ?_
       refine fW rfl ?_
       refine ap (_,[]) (fun τ=> (aK aa al (hpp) rfl rfl)) ?_
       refine gx rfl ?_
       refine ap (_,[]) (fun τ=> ca _ _ rfl rfl (bp (by rw [hvD];omega))) ?_
       refine kA rfl ?_
       refine ap (_,[]) (fun τ=> bH _ (rfl:_=AV.v (.int _ _))) ?_
       refine kx rfl (bh ⟨rfl,?_⟩)
       refine aj (aq (am (aQ rfl (ai (bq _ _ rfl rfl rfl) (aj (aP rfl (decide_eq_false (by rw [hvD];omega)) ?_))))))
       refine aH (aq ?_)
       refine aN (σ':=aB 123 [(2,_),(6,_),(8,_),(9,_),(10,_),(11,_)] [((2,0),_),((6,0),_)] [] []) kp ?_
       refine an (aQ rfl (bE rfl rfl rfl (fo rfl rfl rfl (aQ rfl (ai (bf _ _ aa rfl rfl _ rfl ab (by (simp only [ba,bn,bm,bz,bw,bJ,bA,bL,ed,ba];omega)) ag) ?_)))))
       refine ai (cY _ aa rfl rfl) (ai (bC _ aa rfl (by exact iu C i ab) rfl) ?_)
       refine ai (aK aa al (hpq) rfl rfl) ?_
       refine ai (bc _ _ rfl rfl (bp (by rw [hvD];omega))) ?_
       refine aZ rfl (aj (am (ai (aS _ aa rfl rfl rfl rfl) (aQ rfl (ai (aK aa al (hnx) rfl rfl) ?_)))))
       refine lf rfl (aj (am (aZ rfl (aj (au ?_)))))
       refine bB (α:=Nat) (fun k=> k≤L.length) 123 [(2,_),(6,_),(10,_),(12,_)] [((2,0),_)] (fun k=> [(13, .v (.int .i64 (k:Int))),(11, .v (.int .i64 ((D i:Int) - (cJ C i).op.pops+(cJ C i).op.puts))),(8, .v (.bool ((L.take k).foldl (ic C.length ((D i:Int) - (cJ C i).op.pops+(cJ C i).op.puts)) w).2.1)),(9, .v (.bool ((L.take k).foldl (ic C.length ((D i:Int) - (cJ C i).op.pops+(cJ C i).op.puts)) w).2.2))]) (fun k=> [((6,0), .row 3 1 (dk ((L.take k).foldl (ic C.length ((D i:Int) - (cJ C i).op.pops+(cJ C i).op.puts)) w).1))]) [] [] (fun k=> L.length - k) 0 ?_ (by
        refine Le.mkJ [] [] rfl ?_ ?_ trivial trivial ?_
        ·exact ⟨(iP rfl),(iR rfl),(iV rfl),(iS rfl),(ci ag),(ci (by rw [hvD])),(gz ag),(gz ag),trivial⟩
        ·exact ⟨(cD rfl rfl rfl),(gJ rfl rfl rfl ag),trivial⟩
        ·kernel_rfl) ?_
       ·omega
       intro k hk
       have hwd: ∀ j∈L,(D i:Int) - (cJ C i).op.pops+(cJ C i).op.puts=(D j:Int):=fun j hj=> by have:=(hsuc j hj).2.2;omega
       have hu:=(lD (L.take k) hw (fun j hj=> hwd j (List.mem_of_mem_take hj))).1
       have hul:=hu.len
       refine aG fun K31 hK31=> ?_
       refine am (aQ rfl (eN rfl (ai (bF _ aa rfl) (ai (bq _ _ rfl rfl rfl) (aj (aU rfl (fun hc80=> ?_) (fun hc80=> ?_)))))))
       ·skip
        have hfs:=sI (n:=C.length) (d:=(D i:Int) - (cJ C i).op.pops+(cJ C i).op.puts) (s:=w) (l:=L) (k:=k) ab
        have hu1:=(lD (L.take (k+1)) hw (fun j hj=> hwd j (List.mem_of_mem_take hj))).1.len
        obtain ⟨j,hj⟩: ∃ j,j=L.getD k 0:=⟨_,rfl⟩
        have hjm:j∈L:=by rw [hj,List.getD_eq_getElem?_getD,List.getElem?_eq_getElem ab];exact List.getElem_mem ab
        obtain ⟨hj1,hj2,_⟩:=hsuc j hjm
        have hjn:j < C.length:=by omega
        have hwj:=hwd j hjm
        have hnk:=BP L k ab
        rw [← hj] at hfs hnk
        have huv:=hu.val j hjn
        rw [gk ab] at huv
        generalize (L.take k).foldl (ic C.length ((D i:Int) - (cJ C i).op.pops+(cJ C i).op.puts)) w=u at hu hul hfs huv
        refine bu (hK31 _ ?_)
        clear hK31;try clear K31
        refine aq (au (aq (am (eN rfl (aQ rfl (ai (bf _ _ aa rfl rfl _ rfl ab (by (simp only [ba,bn,bm,bz,bw,bJ,bA,bL,ed,ba];omega)) (by exact Nat.mul_one _)) ?_))))))
        refine ai (bC _ aa rfl (by exact hnk) rfl) ?_
        refine ai (bq _ _ rfl rfl rfl) (cL rfl (dn (fun hg88=> ?_) (fun hg88=> ?_)))
        ·skip
         exact absurd hg88 ab
        ·skip
         refine ax rfl rfl (aE _ (rfl:_=AV.sl _ _)) (ax rfl rfl (aE _ (rfl:_=AV.v (.int _ _))) (ax rfl rfl (bf _ _ aa rfl rfl _ rfl ab (by (simp only [ba,bn,bm,bz,bw,bJ,bA,bL,ed,ba];omega)) (by exact Nat.mul_one _)) ?_))
         refine ax rfl rfl (bC _ aa rfl (by exact hnk) rfl) ?_
         refine ax rfl rfl (aE _ (rfl:_=AV.ref _ _ _)) (ax rfl rfl (dB _ aa rfl rfl) (ax rfl rfl (eD _ _ rfl rfl rfl) (ai (aD _ _ _ rfl (rfl:_=AV.v (.bool _))) (aj (aP rfl (decide_eq_false ab) ?_)))))
         refine aH (aq ?_)
         refine aN (σ':=aB 123 [(2,_),(6,_),(8,_),(9,_),(10,_),(11,_),(12,_),(13,_)] [((2,0),_),((6,0),_)] [] []) kp ?_
         refine an (gD rfl (eN rfl (aQ rfl (ai (bf _ _ aa rfl rfl _ rfl ab (by (simp only [ba,bn,bm,bz,bw,bJ,bA,bL,ed,ba];omega)) (by exact Nat.mul_one _)) ?_))))
         refine ai (bC _ aa rfl (by exact hnk) rfl) ?_
         refine ai (gE _ _ aa rfl rfl rfl _ rfl ab (by exact (Nat.zero_add _).trans (Nat.mul_one _))) ?_
         refine ai (kZ _ aa rfl rfl (by exact dC _ _ ab) rfl) ?_
         refine ai (bq _ _ rfl rfl rfl) (aj (aU rfl (fun hc104=> ?_) (fun hc104=> ?_)))
         ·skip
          have hds:ic C.length ((D i:Int) - (cJ C i).op.pops+(cJ C i).op.puts) u j=(u.1.set j ((D i:Int) - (cJ C i).op.pops+(cJ C i).op.puts),u.2.1,true):=by
           unfold ic
           rw [if_neg ab,if_pos (by rw [gk ab];omega)]
          rw [hds] at hfs
          refine am (gD rfl (eN rfl (aQ rfl (ai (bf _ _ aa rfl rfl _ rfl ab (by (simp only [ba,bn,bm,bz,bw,bJ,bA,bL,ed,ba];omega)) (by exact Nat.mul_one _)) ?_))))
          refine ai (bC _ aa rfl (by exact hnk) rfl) ?_
          refine aQ rfl (ai (gE _ _ aa rfl rfl rfl _ rfl ab (by exact (Nat.zero_add _).trans (Nat.mul_one _))) ?_)
          refine ai (nN _ _ aa rfl rfl rfl rfl rfl (by simp;omega) (lO _ _ _ ab)) ?_
          refine aj ?_
          refine aN (σ':=aB 123 [(2,_),(6,_),(8,_),(10,_),(11,_),(12,_),(13,_)] [((2,0),_),((6,0),_)] [] []) kp ?_
          refine an (cm rfl (fc (an (aQ rfl (ai (bc _ _ rfl rfl (bp ab)) ?_)))))
          refine aZ rfl (az (⟨k+1,?_,?_,?_⟩))
          ·omega
          ·skip
           refine Le.mkJ [] [] rfl ?_ ?_ trivial trivial ?_
           ·exact ⟨(iP rfl),(iR rfl),(iV rfl),(iS rfl),(ci ag),(ci ag),(gz (by (rw [hfs]))),(gz (by (rw [hfs]))),trivial⟩
           ·exact ⟨(cD rfl rfl rfl),(gJ rfl rfl rfl (by (rw [hfs]))),trivial⟩
           ·kernel_rfl
          ·omega
         ·skip
          have hds:ic C.length ((D i:Int) - (cJ C i).op.pops+(cJ C i).op.puts) u j=u:=by
           unfold ic
           rw [if_neg ab,if_neg (by rw [gk ab];omega),if_neg (by rw [gk ab];omega)]
          rw [hds] at hfs
          refine am (gD rfl (eN rfl (aQ rfl (ai (bf _ _ aa rfl rfl _ rfl ab (by (simp only [ba,bn,bm,bz,bw,bJ,bA,bL,ed,ba];omega)) (by exact Nat.mul_one _)) ?_))))
          refine ai (bC _ aa rfl (by exact hnk) rfl) ?_
          refine ai (gE _ _ aa rfl rfl rfl _ rfl ab (by exact (Nat.zero_add _).trans (Nat.mul_one _))) ?_
          refine ai (kZ _ aa rfl rfl (by exact dC _ _ ab) rfl) ?_
          refine aQ rfl (ai (bX _ _ rfl rfl rfl) (aj (aP rfl (by rw [bne_eq_false_iff_eq];omega) ?_)))
          refine ce ?_
          refine aN (σ':=aB 123 [(2,_),(6,_),(8,_),(9,_),(10,_),(11,_),(12,_),(13,_)] [((2,0),_),((6,0),_)] [] []) kp ?_
          refine an (aQ rfl (ai (bc _ _ rfl rfl (bp ab)) ?_))
          refine aZ rfl (az (⟨k+1,?_,?_,?_⟩))
          ·omega
          ·skip
           refine Le.mkJ [] [] rfl ?_ ?_ trivial trivial ?_
           ·exact ⟨(iP rfl),(iR rfl),(iV rfl),(iS rfl),(ci ag),(ci ag),(gz (by (rw [hfs]))),(gz (by (rw [hfs]))),trivial⟩
           ·exact ⟨(cD rfl rfl rfl),(gJ rfl rfl rfl (by (rw [hfs]))),trivial⟩
           ·kernel_rfl
          ·omega
       ·skip
        obtain rfl:k=L.length:=by omega
        rw [List.take_length] at hu hul
        rw [List.take_length]
        refine bK (id (hK22 _ ?_))
        clear hK22;try clear K22
        refine an (aQ rfl (ai (bc _ _ rfl rfl (bp ab)) ?_))
        refine aZ rfl (az (⟨i+1,?_,?_,?_⟩))
        ·omega
        ·skip
         refine Le.mkJ [] [] rfl ?_ ?_ trivial trivial ?_
         ·exact ⟨(iP rfl),(iR rfl),(ci ag),(gz (by (rw [hps]))),(gz (by (rw [hps]))),trivial⟩
         ·exact ⟨(cD rfl rfl rfl),(gJ rfl rfl rfl (by (rw [hps]))),trivial⟩
         ·kernel_rfl
        ·omega
     ·skip
      obtain rfl:i=C.length:=by omega
      refine bK (id (⟨(((dj C s C.length).1,(dj C s C.length).2.1),(dj C s C.length).2.2),?_,?_,?_⟩))
      ·exact ⟨hw.flag,uZ hf1 hf2 hpd⟩
      ·skip
       refine Le.mkJ [] [] rfl ?_ ?_ trivial trivial ?_
       ·exact ⟨(iP rfl),(iR rfl),(gz ag),(gz ag),trivial⟩
       ·exact ⟨(cD rfl rfl rfl),(gJ rfl rfl rfl ag),trivial⟩
       ·kernel_rfl
      ·rw [show HP (s,ch)=neg s.1+1 from if_pos hc39];exact DO hpd
    ·skip
     have hzR:s=R:=by
      unfold uB at hz
      rwa [if_neg (by simp [hc39])] at hz
     subst hzR
     have hsl:=hdi.len
     refine bK (id (hK14 _ ?_))
     clear hK14;try clear K14
     refine am (gD rfl (cL rfl (eZ rfl (cm rfl (aj (aC ?_))))))
     rw [← hR]
     exact lZ (.inr rfl) rfl (.tmp (rfl:_=AV.ref _ _ _)) (.tmp (rfl:_=AV.v (.bool _))) (Le.out [] [(6,0)] (.tup rfl (aI (wx rfl rfl (by simp only at hsl;simp [hsl]) rfl hsl.symm) lz)) rfl rfl rfl tr trivial)
theorem tA (C:List et) (en:Nat→Int) (dd vv:Int) (h:Nat) (hh:h < 40) (hC:C.length≤1000000) (D:Nat→Nat) (nv:Nat) (hg:Good D nv 0 (C.length - 1) 0 C) (hD: ∀ i,D i≤1000000) (he:0≤en h→en h < C.length→D (en h).toNat=0):
  Spec Tryz.prog 74 (bj [.agg (ym C.length (inl C) en dd vv), .v (.int .i64 (h:Int))] []) (aX (.v (.int .i64 (ju C (gX C (en h)).1 C.length))) []):=by
 have hds:=qO C en dd vv (en h) hC D nv hg hD he
 have hdi:=nB hg he
 have hdl:=hdi.len
 have hml:=fun k (hk:k≤C.length)=> lX (C:=C) (n:=C.length) hdi (B:=1000000) (fun i _=> hD i) k hk
 generalize gX C (en h)=R at hds hdi hdl hml
 have hen:=nc C.length (inl C) en dd vv h hh
 refine Spec.ofN Tryz.func74 rfl Tryz.ntmps74 rfl ?_
 refine am (ai (bk (2,0) _ rfl rfl) (aZ rfl (aj (aq (bG 11 [11,12,13,14,15,16,10,17,18,5,6] [] ae ae rfl (aL rfl) (rfl:_=[_,_,_,_,_,_,_,_,_,_,_]) (rfl:_=[]) ?_)))))
 refine ap (_,[]) (fun τ=> aS _ aa rfl rfl rfl rfl) ?_
 refine eK rfl ?_
 refine ap (_,[]) (fun τ=> aE _ (rfl:_=AV.v (.int _ _))) ?_
 refine eJ rfl ?_
 refine ap (_,[]) (fun τ=> aJ _ aa rfl rfl rfl) ?_
 refine eI rfl ?_
 refine ap (_,[]) (fun τ=> ek _ _ aa rfl rfl rfl h rfl ab (by exact congrArg (fun z=> 0+1+z) (Nat.mul_one h))) ?_
 refine eO rfl ?_
 refine ap (_,[]) (fun τ=> aM _ aa rfl rfl (by exact (congrArg (fun z=> (ym C.length (inl C) en dd vv)[z]?) ab).trans hen)) ?_
 refine fa rfl ?_
 refine ap (_,[]) (fun τ=> (aK aa al (hds) rfl rfl)) ?_
 refine fC rfl ?_
 refine ap (_,[]) (fun τ=> aE _ (rfl:_=AV.tup _)) ?_
 refine gv rfl ?_
 refine ap (_,[]) (fun τ=> dc _ rfl (rfl:_=some (AV.sl _ _))) ?_
 refine jI rfl ?_
 refine ap (_,[]) (fun τ=> dc _ rfl (rfl:_=some (AV.v (.bool _)))) ?_
 refine jQ rfl ?_
 refine ap (_,[]) (fun τ=> bH _ (rfl:_=AV.sl _ _)) ?_
 refine fW rfl ?_
 refine ap (_,[]) (fun τ=> bH _ (rfl:_=AV.v (.bool _))) ?_
 refine gx rfl (bh ⟨rfl,?_⟩)
 refine aj (am (aZ rfl (aj (aG fun K4 hK4=> ?_))))
 refine am (aZ rfl (aj (au ?_)))
 refine bB (α:=Nat) (fun k=> k≤C.length) 53 [(2,_),(5,_)] [((2,0),_)] (fun k=> [(8, .v (.int .i64 (k:Int))),(7, .v (.int .i64 (ju C R.1 k)))]) (fun k=> []) [] [] (fun k=> C.length - k) 0 ?_ (by
  refine Le.mkJ [] [] rfl ?_ ?_ trivial trivial ?_
  ·exact ⟨(iP rfl),(iS rfl),(ci ag),(ci ag),trivial⟩
  ·exact ⟨(cD rfl rfl rfl),trivial⟩
  ·kernel_rfl) ?_
 ·omega
 intro k hk
 have hm1:=hml k hk
 have hs:=ny C R.1 k
 simp only at hdl hm1
 refine aG fun K6 hK6=> ?_
 refine am (aQ rfl (eN rfl (ai (bF _ aa rfl) (ai (bq _ _ rfl rfl rfl) (aj (aU rfl (fun hc22=> ?_) (fun hc22=> ?_)))))))
 ·skip
  have hm2:=hml (k+1) ab
  have hv:=hdi.val k ab
  simp only at hv hm2
  rw [gk ab] at hv hs
  have hDk:=hD k
  obtain ⟨q,hq⟩: ∃ q,q=cJ C k:=⟨_,rfl⟩
  have hp3:q.op.pops≤3:=by generalize q.op=o;cases o <;> decide
  have hp4:q.op.puts≤1:=by generalize q.op=o;cases o <;> decide
  have hpp:=pb q.op
  have hpq:=oW q.op
  have hg0:=iu C k ab
  rw [← hq] at hg0 hs
  refine bu (hK6 _ ?_)
  clear hK6;try clear K6
  refine aq (au (am (eN rfl (aQ rfl (ai (bf _ _ aa rfl rfl _ rfl ab (by (simp only [ba,bn,bm,bz,bw,bJ,bA,bL,ed,ba];omega)) (by exact Nat.mul_one _)) ?_)))))
  refine ai (bC _ aa rfl (by exact dC _ _ ab) rfl) ?_
  refine ai (eD _ _ rfl rfl rfl) (aj (aU rfl (fun hc29=> ?_) (fun hc29=> ?_)))
  ·skip
   rw [if_pos ab] at hs
   refine am (bE rfl rfl rfl (fo rfl rfl rfl (aQ rfl (ai (bf _ _ aa rfl rfl _ rfl ab (by (simp only [ba,bn,bm,bz,bw,bJ,bA,bL,ed,ba];omega)) ag) ?_))))
   refine ai (cY _ aa rfl rfl) (ai (bC _ aa rfl (by exact hg0) rfl) ?_)
   refine aZ rfl (aj ?_)
   refine aN (σ':=aB 53 [(2,_),(5,_),(7,_),(8,_),(9,_)] [((2,0),_)] [] []) kp ?_
   refine bG 16 [36,37,38,39,40,41,42,43,44,45,46,47,48,49,50,51] [] ae ae rfl (aL rfl) (rfl:_=[_,_,_,_,_,_,_,_,_,_,_,_,_,_,_,_]) (rfl:_=[_]) ?_
   refine ap (_,[]) (fun τ=> aE _ (rfl:_=AV.v (.int _ _))) ?_
   refine eK rfl ?_
   refine ap (_,[]) (fun τ=> aE _ (rfl:_=AV.sl _ _)) ?_
   refine eJ rfl ?_
   refine ap (_,[]) (fun τ=> aE _ (rfl:_=AV.v (.int _ _))) ?_
   refine eI rfl ?_
   refine ap (_,[]) (fun τ=> bf _ _ aa rfl rfl _ rfl ab (by (simp only [ba,bn,bm,bz,bw,bJ,bA,bL,ed,ba];omega)) (by exact Nat.mul_one _)) ?_
   refine eO rfl ?_
   refine ap (_,[]) (fun τ=> bC _ aa rfl (by exact dC _ _ ab) rfl) ?_
   refine fa rfl ?_
   refine ap (_,[]) (fun τ=> aE _ (rfl:_=AV.sl _ _)) ?_
   refine fC rfl ?_
   refine ap (_,[]) (fun τ=> aE _ (rfl:_=AV.v (.int _ _))) ?_
   refine gv rfl ?_
   refine ap (_,[]) (fun τ=> bf _ _ aa rfl rfl _ rfl ab (by (simp only [ba,bn,bm,bz,bw,bJ,bA,bL,ed,ba];omega)) (by exact Nat.mul_one _)) ?_
   refine jI rfl ?_
   refine ap (_,[]) (fun τ=> bC _ aa rfl (by exact dC _ _ ab) rfl) ?_
   refine jQ rfl ?_
   refine ap (_,[]) (fun τ=> aE _ (rfl:_=AV.v (.int _ _))) ?_
   refine fW rfl ?_
   refine ap (_,[]) (fun τ=> (aK aa al (hpp) rfl rfl)) ?_
   refine gx rfl ?_
   refine ap (_,[]) (fun τ=> ca _ _ rfl rfl (bp ab)) ?_
   refine kA rfl ?_
   refine ap (_,[]) (fun τ=> aE _ (rfl:_=AV.v (.int _ _))) ?_
   refine kx rfl ?_
   refine ap (_,[]) (fun τ=> (aK aa al (hpq) rfl rfl)) ?_
   refine mO rfl ?_
   refine ap (_,[]) (fun τ=> bc _ _ rfl rfl (bp ab)) ?_
   refine sd rfl ?_
   refine ap (_,[]) (fun τ=> zD _ _ _ rfl rfl rfl (by exact hs.symm)) ?_
   refine so rfl (bh ⟨rfl,?_⟩)
   refine aZ rfl (fc ?_)
   refine aN (σ':=aB 53 [(2,_),(5,_),(7,_),(8,_)] [((2,0),_)] [] []) kp ?_
   refine an (aQ rfl (ai (bc _ _ rfl rfl (bp ab)) ?_))
   refine aZ rfl (az (⟨k+1,?_,?_,?_⟩))
   ·omega
   ·skip
    refine Le.mkJ [] [] rfl ?_ ?_ trivial trivial ?_
    ·exact ⟨(iP rfl),(iS rfl),(ci ag),(ci ag),trivial⟩
    ·exact ⟨(cD rfl rfl rfl),trivial⟩
    ·kernel_rfl
   ·omega
  ·skip
   rw [if_neg ab] at hs
   refine ce (an (aQ rfl (ai (bc _ _ rfl rfl (bp ab)) ?_)))
   refine aZ rfl (az (⟨k+1,?_,?_,?_⟩))
   ·omega
   ·skip
    refine Le.mkJ [] [] rfl ?_ ?_ trivial trivial ?_
    ·exact ⟨(iP rfl),(iS rfl),(ci ag),(ci ab),trivial⟩
    ·exact ⟨(cD rfl rfl rfl),trivial⟩
    ·kernel_rfl
   ·omega
 ·skip
  obtain rfl:k=C.length:=by omega
  refine bK (id (hK4 _ ?_))
  clear hK4;try clear K4
  exact am (aQ rfl (aZ rfl (aj (aC (aY (.inr rfl) rfl (.tmp (rfl:_=AV.v _)) (Le.out [] [] .v rfl rfl rfl trivial trivial))))))

theorem dP: ∀ (e:Ex) (d x:Nat),x∈dv e d→x≤d+(dv e d).length
 | .int _,d,x,h=> by simp [dv] at h ⊢;omega
 | .bool _,d,x,h=> by simp [dv] at h ⊢;omega
 | .var _,d,x,h=> by simp [dv] at h ⊢;omega
 | .name _,d,x,h=> by simp [dv] at h ⊢;omega
 | .draw e,d,x,h=> by
  have:=dP e d x
  simp only [dv,List.mem_append,List.length_append,List.length_cons,List.length_nil,List.mem_singleton] at h ⊢
  rcases h with h | h
  ·have:=this h;omega
  ·omega
 | .neg e,d,x,h=> by
  have:=dP e d x
  simp only [dv,List.mem_append,List.length_append,List.length_cons,List.length_nil,List.mem_singleton] at h ⊢
  rcases h with h | h
  ·have:=this h;omega
  ·omega
 | .not e,d,x,h=> by
  have:=dP e d x
  simp only [dv,List.mem_append,List.length_append,List.length_cons,List.length_nil,List.mem_singleton] at h ⊢
  rcases h with h | h
  ·have:=this h;omega
  ·omega
 | .bin o a b,d,x,h=> by
  have h1:=dP a d x
  have h2:=dP b (d+1) x
  have h3:1≤(dv b (d+1)).length:=by obtain ⟨l,hl⟩:=ec b (d+1);rw [hl];simp
  have h4:1≤(dv a d).length:=by obtain ⟨l,hl⟩:=ec a d;rw [hl];simp
  simp only [dv,List.mem_append,List.length_append] at h ⊢
  rcases h with (h | h) | h
  ·have:=h1 h;omega
  ·have:=h2 h;omega
  ·have:x≤d+2:=by cases o <;> simp at h <;> omega
   omega
 | .and a b,d,x,h=> by
  have h1:=dP a d x
  have h2:=dP b d x
  simp only [dv,List.mem_append,List.length_append,List.length_cons,List.length_nil,List.mem_singleton] at h ⊢
  rcases h with (((h | h) | h) | h) | h
  ·have:=h1 h;omega
  ·omega
  ·have:=h2 h;omega
  ·omega
  ·omega
 | .or a b,d,x,h=> by
  have h1:=dP a d x
  have h2:=dP b d x
  simp only [dv,List.mem_append,List.length_append,List.length_cons,List.length_nil,List.mem_singleton] at h ⊢
  rcases h with (((h | h) | h) | h) | h
  ·have:=h1 h;omega
  ·omega
  ·omega
  ·omega
  ·have:=h2 h;omega
theorem jP (e:Ex) (d:Nat):1≤(dv e d).length:=by obtain ⟨l,hl⟩:=ec e d;rw [hl];simp
mutual
theorem BD: ∀ (s:Sm) (x:Nat),x∈dR s→x≤(dR s).length
 | .assign _ e,x,h=> by
  have:=dP e 0 x
  simp only [dR,List.mem_append,List.length_append,List.length_cons,List.length_nil,List.mem_singleton] at h ⊢
  rcases h with h | h
  ·have:=this h;omega
  ·omega
 | .send t _ a b,x,h=> by
  have h1:=dP t 0 x
  have h2:=dP a 1 x
  have h3:=dP b 2 x
  have k1:=jP t 0
  have k2:=jP a 1
  have k3:=jP b 2
  simp only [dR,List.mem_append,List.length_append,List.length_cons,List.length_nil,List.mem_singleton] at h ⊢
  rcases h with ((h | h) | h) | h
  ·have:=h1 h;omega
  ·have:=h2 h;omega
  ·have:=h3 h;omega
  ·omega
 | .timer _,x,h=> by simp [dR] at h ⊢;omega
 | .cancel _,x,h=> by simp [dR] at h ⊢;omega
 | .sync,x,h=> by simp [dR] at h ⊢;omega
 | .stop,x,h=> by simp [dR] at h ⊢;omega
 | .reply a b,x,h=> by
  have h2:=dP a 0 x
  have h3:=dP b 1 x
  have k2:=jP a 0
  have k3:=jP b 1
  simp only [dR,List.mem_append,List.length_append,List.length_cons,List.length_nil,List.mem_singleton] at h ⊢
  rcases h with (h | h) | h
  ·have:=h2 h;omega
  ·have:=h3 h;omega
  ·omega
 | .fail e,x,h=> by
  have:=dP e 0 x
  simp only [dR,List.mem_append,List.length_append,List.length_cons,List.length_nil,List.mem_singleton] at h ⊢
  rcases h with h | h
  ·have:=this h;omega
  ·omega
 | .loop c b,x,h=> by
  have h1:=dP c 0 x
  have h2:=ma b x
  simp only [dR,List.mem_append,List.length_append,List.length_cons,List.length_nil,List.mem_singleton] at h ⊢
  rcases h with ((h | h) | h) | h
  ·have:=h1 h;omega
  ·omega
  ·have:=h2 h;omega
  ·omega
 | .ite c a b,x,h=> by
  have h1:=dP c 0 x
  have h2:=ma a x
  have h3:=ma b x
  simp only [dR,List.mem_append,List.length_append,List.length_cons,List.length_nil,List.mem_singleton] at h ⊢
  rcases h with (((h | h) | h) | h) | h
  ·have:=h1 h;omega
  ·omega
  ·have:=h2 h;omega
  ·omega
  ·have:=h3 h;omega
theorem ma: ∀ (b:Bk) (x:Nat),x∈kz b→x≤(kz b).length
 | .nil,x,h=> by simp [kz] at h
 | .cons s b,x,h=> by
  have h1:=BD s x
  have h2:=ma b x
  simp only [kz,List.mem_append,List.length_append] at h ⊢
  rcases h with h | h
  ·have:=h1 h;omega
  ·have:=h2 h;omega
end
theorem tU: ∀ (l:List (Nat×Bk)) (x:Nat),x∈ky l→x≤(ky l).length
 | [],x,h=> by simp [ky] at h
 | (k,b)::l,x,h=> by
  have h1:=ma b x
  have h2:=tU l x
  simp only [ky,List.mem_append,List.length_append,List.length_cons,List.length_nil,List.mem_singleton] at h ⊢
  rcases h with (h | h) | h
  ·have:=h1 h;omega
  ·omega
  ·have:=h2 h;omega
theorem xx (l:List (Nat×Bk)) (i:Nat):qH l i≤(bT l 0).length:=by
 unfold qH
 rw [List.getD_eq_getElem?_getD]
 by_cases h:i < (ky l).length
 ·rw [List.getElem?_eq_getElem h,← og l 0];exact tU l _ (List.getElem_mem h)
 ·rw [List.getElem?_eq_none ab];exact Nat.zero_le _

theorem mr: ∀ (l m:List (Nat×Bk)) (a:Nat),bT (l++m) a=bT l a++bT m (a+(bT l a).length)
 | [],m,a=> by simp [bT]
 | (h,b)::l,m,a=> by
  simp only [List.cons_append,bT,mr l m,List.append_assoc,List.length_append,List.length_cons,List.length_nil,Nat.add_assoc,Nat.zero_add,List.nil_append,Nat.add_comm 1 (List.length _)]
theorem qQ: ∀ (l m:List (Nat×Bk)) (a:Nat),iJ (l++m) a=iJ l a++iJ m (a+(bT l a).length)
 | [],m,a=> by simp [bT,iJ]
 | (h,b)::l,m,a=> by
  simp only [List.cons_append,bT,iJ,qQ l m,List.append_assoc,List.length_append,List.length_cons,List.length_nil,Nat.add_assoc,Nat.zero_add,Nat.add_comm 1 (List.length _)]
def bY (l:List (Nat×Bk)) (k:Nat):Int:=(lR (iJ l 0)).getD k (-1)
theorem va (l:List (Nat×Bk)) (p:Nat×Bk) (hp:p.1 < 40):bY (l++[p])=oQ (bY l) p.1 (bT l 0).length:=by
 funext k
 have e:lR (iJ (l++[p]) 0)=(lR (iJ l 0)).set p.1 ((bT l 0).length:Int):=by
  rw [qQ]
  obtain ⟨h,b⟩:=p
  simp only [iJ,lR,List.foldl_append,List.foldl_cons,List.foldl_nil,Nat.zero_add]
 unfold bY oQ
 rw [e,iH]
 by_cases hk:k=p.1
 ·rw [if_pos ⟨hk,by rw [yR];exact hp⟩,if_pos hk]
 ·rw [if_neg (fun h=> hk h.1),if_neg hk]
theorem sS (l:List (Nat×Bk)) (p:Nat×Bk):bT (l++[p]) 0=bT l 0++cW p.2 (bT l 0).length++[{ op:= .stop }]:=by
 rw [mr]
 obtain ⟨h,b⟩:=p
 simp [bT]
def dQ (h k:Nat):Int:=if k < h∨40≤k then -1 else 0
theorem xJ (h:Nat) (hh:h < 40):oQ (dQ h) h (-1)=dQ (h+1):=by
 funext k
 unfold oQ dQ
 by_cases h1:k=h
 ·rw [if_pos h1,if_pos ab]
 ·rw [if_neg h1]
  by_cases h2:k < h∨40≤k
  ·rw [if_pos h2,if_pos ab]
  ·rw [if_neg h2,if_neg ab]
theorem xu:dQ 40=bY []:=by
 funext k
 have e:bY [] k=(List.replicate 40 (-1:Int)).getD k (-1):=rfl
 rw [e,dQ,if_pos ab,List.getD_eq_getElem?_getD,List.getElem?_replicate]
 by_cases hk:k < 40
 ·rw [if_pos hk];rfl
 ·rw [if_neg hk];rfl
theorem wI (ons:List (Nat×Bk)) (j:Nat) (h:j < ons.length):ons.take (j+1)=ons.take j++[ons[j]]:=List.take_succ_eq_append_getElem h
theorem np (ons:List (Nat×Bk)) (j:Nat):(bT (ons.take j) 0).length≤(bT ons 0).length:=by
 conv=> rhs;rw [← List.take_append_drop j ons,mr]
 rw [List.length_append];omega
theorem vU {n:Nat} (h:n < 40):hQ (n:Int) 40=n:=by unfold hQ;rw [if_neg ab];omega
structure UOk (d v:List Tx) (ons:List (Nat×Bk)):Prop where
 nd:(d++v).Nodup
 len:(d++v).length≤16
 ok: ∀ p∈ons,ia (d++v).length p.2
 pp: ∀ p∈ons,mP p.2=true
 h: ∀ p∈ons,p.1 < 40
 c:(bT ons 0).length≤1000000
 n:ons.length≤1000
theorem UOk.good {d v:List Tx} {ons:List (Nat×Bk)} (U:UOk d v ons):Good (qH ons) (d++v).length 0 ((bT ons 0).length - 1) 0 (bT ons 0):=
 tI (qH ons) (d++v).length ons 0 0 ((bT ons 0).length - 1) U.ok (mY ons) (Nat.le_refl _) ab
theorem UOk.ent {d v:List Tx} {ons:List (Nat×Bk)} (U:UOk d v ons) (k:Nat):0≤bY ons k→bY ons k < (bT ons 0).length→qH ons (bY ons k).toNat=0:=fun h0 h1=> by
 rcases tC ons k with h | ⟨e,_,h,_,h2⟩
 ·unfold bY at h0;omega
 ·unfold bY;rw [h,Int.toNat_natCast];exact h2
abbrev TK (d v:List Tx) (ons:List (Nat×Bk)):AV:= .agg (ym (bT ons 0).length (inl (bT ons 0)) (bY ons) (d.length:Int) (v.length:Int))
abbrev zA:AV:= .agg (CK (.v (.slice none 0 0)) (fun _=> 0) 0 0)
def Dj (ons:List (Nat×Bk)):Int:=if 400 < (bT ons 0).length then 2 else 13
abbrev wn (d v:List Tx) (ons:List (Nat×Bk)):AV:=if hZ ons=true then .tup [TK d v ons, .v (.int .i64 0)] else .tup [zA, .v (.int .i64 (Dj ons))]
abbrev mT (d v:List Tx) (ons:List (Nat×Bk)):List Hd:=ons.map fun p=> (p.1,jy (d++v) p.2)
theorem jq (d v:List Tx) (ons:List (Nat×Bk)) (U:UOk d v ons):
  Spec Tryz.prog 57 (bj [Ep d v (mT d v ons)] []) (aX (wn d v ons) []):=by
 obtain ⟨H,hH⟩: ∃ H,H=mT d v ons:=⟨_,rfl⟩
 have hHl:H.length=ons.length:=by rw [hH,List.length_map]
 have hHk: ∀ k (h:k < ons.length),mn H k=((ons[k]).1,jy (d++v) (ons[k]).2):=fun k h=> by rw [hH];exact yY ons _ k h
 rw [← hH]
 clear hH
 have hUn:=U.n
 have hUc:=U.c
 have hUl:=U.len
 have hdl:d.length≤16∧v.length≤16:=by rw [List.length_append] at hUl;omega
 refine Spec.ofN Tryz.func57 rfl Tryz.ntmps57 rfl ?_
 refine am (ai (bk (1,0) _ rfl rfl) (ai (ay (2,0) aa rfl rfl) (aZ rfl (aj (am (bE rfl rfl rfl (fo rfl rfl rfl (ai (bF _ aa rfl) (bE rfl rfl rfl (fo rfl rfl rfl ?_))))))))))
 refine ai (bF _ aa rfl) (ai (aA _ aa rfl (by exact (rfl:_=some [_,_,_,_,_,_,_,_,_,_,_,_,_,_,_,_,_,_,_,_,_,_,_,_,_,_,_,_,_,_,_,_,_,_,_,_,_,_,_,_,_,_,_]))) ?_)
 refine ai (ay (4,0) aa rfl rfl) (bQ rfl rfl rfl rfl rfl rfl (aj (aG fun K3 hK3=> ?_)))
 refine am (aZ rfl (aj (au ?_)))
 refine aN (Le.nilB (4,0) 0 (60,0) 48 2 rfl rfl rfl) ?_
 refine bB (α:=Nat) (fun q=> q≤40) 79 [(1,_),(2,_),(4,_)] [((1,0),_),((2,0),_),((60,0),_)] (fun q=> [(5, .v (.int .i64 (q:Int)))]) (fun q=> [((4,0), .box 26 [.ref (60,0) 0 0, .v (.int .i64 (dQ q 0)), .v (.int .i64 (dQ q 1)), .v (.int .i64 (dQ q 2)), .v (.int .i64 (dQ q 3)), .v (.int .i64 (dQ q 4)), .v (.int .i64 (dQ q 5)), .v (.int .i64 (dQ q 6)), .v (.int .i64 (dQ q 7)), .v (.int .i64 (dQ q 8)), .v (.int .i64 (dQ q 9)), .v (.int .i64 (dQ q 10)), .v (.int .i64 (dQ q 11)), .v (.int .i64 (dQ q 12)), .v (.int .i64 (dQ q 13)), .v (.int .i64 (dQ q 14)), .v (.int .i64 (dQ q 15)), .v (.int .i64 (dQ q 16)), .v (.int .i64 (dQ q 17)), .v (.int .i64 (dQ q 18)), .v (.int .i64 (dQ q 19)), .v (.int .i64 (dQ q 20)), .v (.int .i64 (dQ q 21)), .v (.int .i64 (dQ q 22)), .v (.int .i64 (dQ q 23)), .v (.int .i64 (dQ q 24)), .v (.int .i64 (dQ q 25)), .v (.int .i64 (dQ q 26)), .v (.int .i64 (dQ q 27)), .v (.int .i64 (dQ q 28)), .v (.int .i64 (dQ q 29)), .v (.int .i64 (dQ q 30)), .v (.int .i64 (dQ q 31)), .v (.int .i64 (dQ q 32)), .v (.int .i64 (dQ q 33)), .v (.int .i64 (dQ q 34)), .v (.int .i64 (dQ q 35)), .v (.int .i64 (dQ q 36)), .v (.int .i64 (dQ q 37)), .v (.int .i64 (dQ q 38)), .v (.int .i64 (dQ q 39)), .v (.int .i64 (d.length:Int)), .v (.int .i64 (v.length:Int))])]) [] [] (fun q=> 40 - q) 0 ?_ (by
  refine Le.mkJ [] [] rfl ?_ ?_ trivial trivial ?_
  ·exact ⟨(iP rfl),(iP rfl),(iP rfl),(ci ag),trivial⟩
  ·exact ⟨(cD rfl rfl rfl),(cD rfl rfl rfl),(cD rfl rfl rfl),(fM rfl rfl rfl rfl lz),trivial⟩
  ·kernel_rfl) ?_
 ·omega
 intro q hq
 refine aG fun K5 hK5=> ?_
 refine am (aQ rfl (ai (bq _ _ rfl rfl rfl) (aj (aU rfl (fun hc17=> ?_) (fun hc17=> ?_)))))
 ·skip
  refine bu (hK5 _ ?_)
  clear hK5;try clear K5
  refine aq (au (an (aQ rfl (bE rfl rfl rfl (ai (ek _ _ aa rfl rfl rfl q rfl ab (by exact congrArg (fun z=> 0+1+z) (Nat.mul_one q))) ?_)))))
  refine ai (jX _ _ aa rfl rfl rfl rfl (show 0+1+q+1≤43 by omega) ((congrArg (fun z=> fj (CK (.ref (60,0) 0 0) (dQ q) (d.length:Int) (v.length:Int)) z [.v (.int .i64 (-1))]) ab).trans ((qd _ _ _ _ q ab _).trans (by rw [xJ _ ab])))) ?_
  refine fc (an (aQ rfl (ai (bc _ _ rfl rfl (bp ab)) ?_)))
  refine aZ rfl (az (⟨q+1,?_,?_,?_⟩))
  ·omega
  ·skip
   refine Le.mkJ [] [] rfl ?_ ?_ trivial trivial ?_
   ·exact ⟨(iP rfl),(iP rfl),(iP rfl),(ci ag),trivial⟩
   ·exact ⟨(cD rfl rfl rfl),(cD rfl rfl rfl),(cD rfl rfl rfl),(fM rfl rfl rfl rfl lz),trivial⟩
   ·kernel_rfl
  ·omega
 ·skip
  obtain rfl:q=40:=by omega
  rw [xu]
  refine bK (id (hK3 _ ?_))
  clear hK3;try clear K3
  refine aG fun K8 hK8=> ?_
  refine am (aZ rfl (aj (au ?_)))
  refine bB (α:=Nat) (fun j=> j≤H.length) 79 [(1,_),(2,_),(4,_)] [((1,0),_),((2,0),_)] (fun j=> [(6, .v (.int .i64 (j:Int)))]) (fun j=> [((60,0), .row 48 2 (inl (bT (ons.take j) 0))),((4,0), .box 26 [.ref (60,0) 0 (bT (ons.take j) 0).length, .v (.int .i64 (bY (ons.take j) 0)), .v (.int .i64 (bY (ons.take j) 1)), .v (.int .i64 (bY (ons.take j) 2)), .v (.int .i64 (bY (ons.take j) 3)), .v (.int .i64 (bY (ons.take j) 4)), .v (.int .i64 (bY (ons.take j) 5)), .v (.int .i64 (bY (ons.take j) 6)), .v (.int .i64 (bY (ons.take j) 7)), .v (.int .i64 (bY (ons.take j) 8)), .v (.int .i64 (bY (ons.take j) 9)), .v (.int .i64 (bY (ons.take j) 10)), .v (.int .i64 (bY (ons.take j) 11)), .v (.int .i64 (bY (ons.take j) 12)), .v (.int .i64 (bY (ons.take j) 13)), .v (.int .i64 (bY (ons.take j) 14)), .v (.int .i64 (bY (ons.take j) 15)), .v (.int .i64 (bY (ons.take j) 16)), .v (.int .i64 (bY (ons.take j) 17)), .v (.int .i64 (bY (ons.take j) 18)), .v (.int .i64 (bY (ons.take j) 19)), .v (.int .i64 (bY (ons.take j) 20)), .v (.int .i64 (bY (ons.take j) 21)), .v (.int .i64 (bY (ons.take j) 22)), .v (.int .i64 (bY (ons.take j) 23)), .v (.int .i64 (bY (ons.take j) 24)), .v (.int .i64 (bY (ons.take j) 25)), .v (.int .i64 (bY (ons.take j) 26)), .v (.int .i64 (bY (ons.take j) 27)), .v (.int .i64 (bY (ons.take j) 28)), .v (.int .i64 (bY (ons.take j) 29)), .v (.int .i64 (bY (ons.take j) 30)), .v (.int .i64 (bY (ons.take j) 31)), .v (.int .i64 (bY (ons.take j) 32)), .v (.int .i64 (bY (ons.take j) 33)), .v (.int .i64 (bY (ons.take j) 34)), .v (.int .i64 (bY (ons.take j) 35)), .v (.int .i64 (bY (ons.take j) 36)), .v (.int .i64 (bY (ons.take j) 37)), .v (.int .i64 (bY (ons.take j) 38)), .v (.int .i64 (bY (ons.take j) 39)), .v (.int .i64 (d.length:Int)), .v (.int .i64 (v.length:Int))])]) [] [] (fun j=> H.length - j) 0 ?_ (by
   refine Le.mkJ [] [] rfl ?_ ?_ trivial trivial ?_
   ·exact ⟨(iP rfl),(iP rfl),(iP rfl),(ci ag),trivial⟩
   ·exact ⟨(cD rfl rfl rfl),(cD rfl rfl rfl),(gJ rfl rfl rfl ag),(fM rfl rfl rfl rfl lz),trivial⟩
   ·kernel_rfl) ?_
  ·omega
  intro j hj
  have hct:=np ons j
  refine aG fun K10 hK10=> ?_
  refine am (aQ rfl (bE rfl rfl rfl (fo rfl rfl rfl (ai (bF _ aa rfl) (ai (bq _ _ rfl rfl rfl) (aj (aU rfl (fun hc27=> ?_) (fun hc27=> ?_))))))))
  ·skip
   have hj:j < ons.length:=by omega
   have hct1:=np ons (j+1)
   have hUh:=U.h _ (List.getElem_mem hj)
   have hUo:=U.ok _ (List.getElem_mem hj)
   have hUp:=U.pp _ (List.getElem_mem hj)
   have hbody:=rc H j ab
   have hg0:=iL H j ab
   rw [hHk j hj] at hbody hg0
   have hsn:=sS (ons.take j) (ons[j])
   have hen:=va (ons.take j) (ons[j]) hUh
   rw [← wI ons j hj] at hsn hen
   have hsl:=congrArg List.length hsn
   simp only [List.length_append,List.length_cons,List.length_nil] at hsl
   have hcb:=zU (d:=d) (v:=v) (no:=H.length) (on:=lg H) U.nd ab (ons[j]).2 hUo hUp (bT (ons.take j) 0).length ab
   generalize cW (ons[j]).2 (bT (ons.take j) 0).length=C at hsn hsl hcb
   generalize (ons[j]).2=bd at hbody hcb
   generalize (ons[j]).1=h at hbody hg0 hen hUh
   have har:=jD (h:Int) 40 ab ab ab ab
   rw [vU hUh] at har
   refine bu (hK10 _ ?_)
   clear hK10;try clear K10
   refine aq (au (am (bE rfl rfl rfl (fo rfl rfl rfl (aQ rfl (ai (bf _ _ aa rfl rfl _ rfl ab (by (simp only [ba,bn,bm,bz,bw,bJ,bA,bL,ed,ba,List.length_map];omega)) ag) ?_))))))
   refine ai (cY _ aa rfl rfl) (ai (bC _ aa rfl (by exact hg0) rfl) ?_)
   refine ai (aK aa al (har) rfl rfl) ?_
   refine aZ rfl (aj (am (aQ rfl (bE rfl rfl rfl (ai (aM _ aa rfl rfl (rfl:_=some (AV.ref _ _ _))) (ai (dB _ aa rfl rfl) (bE rfl rfl rfl (ai (ek _ _ aa rfl rfl rfl h rfl ab (by exact congrArg (fun z=> 0+1+z) (Nat.mul_one h))) ?_))))))))
   refine ai (jX _ _ aa rfl rfl rfl rfl (show 0+1+h+1≤43 by omega) ((congrArg (fun z=> fj (CK (.ref (60,0) 0 (bT (ons.take j) 0).length) (bY (ons.take j)) (d.length:Int) (v.length:Int)) z [.v (.int .i64 ((bT (ons.take j) 0).length:Int))]) ab).trans ((qd _ _ _ _ h ab _).trans (by rw [← hen])))) ?_
   refine aj (aq ?_)
   refine aN (σ':=aB 79 [(1,_),(2,_),(4,_),(6,_)] [((1,0),_),((2,0),_),((60,0),_),((4,0),_)] [] []) kp ?_
   refine bG 13 [43,44,45,46,47,48,49,50,51,52,53,54,55] [(50,0)] ae ae rfl (aL rfl) (rfl:_=[_,_,_,_,_,_,_,_,_,_,_,_,_]) (rfl:_=[_,_,_]) ?_
   refine ap (_,[]) (fun τ=> aJ _ aa rfl rfl rfl) ?_
   refine eK rfl ?_
   refine ap (_,[]) (fun τ=> aM _ aa rfl rfl (rfl:_=some (AV.ref _ _ _))) ?_
   refine eJ rfl ?_
   refine ap (_,[]) (fun τ=> aS _ aa rfl rfl rfl rfl) ?_
   refine eI rfl ?_
   refine ap (_,[]) (fun τ=> aJ _ aa rfl rfl rfl) ?_
   refine eO rfl ?_
   refine ap (_,[]) (fun τ=> aM _ aa rfl rfl (rfl:_=some (AV.sl _ _))) ?_
   refine fa rfl ?_
   refine ap (_,[]) (fun τ=> aE _ (rfl:_=AV.v (.int _ _))) ?_
   refine fC rfl ?_
   refine ap (_,[]) (fun τ=> bf _ _ aa rfl rfl _ rfl ab (by (simp only [ba,bn,bm,bz,bw,bJ,bA,bL,ed,ba,List.length_map];omega)) ag) ?_
   refine gv rfl ?_
   refine ap (_,[]) (fun τ=> cY _ aa rfl rfl) ?_
   refine jI rfl ?_
   refine ap (_,[]) (fun τ=> cg _ aa rfl (by exact hbody) rfl) ?_
   refine jQ rfl ?_
   refine ap (_,[]) (fun τ=> aJ _ aa rfl rfl rfl) ?_
   refine fW rfl ?_
   refine ap (_,[]) (fun τ=> aM _ aa rfl rfl (rfl:_=some (AV.ref _ _ _))) ?_
   refine gx rfl ?_
   refine ap (_,[]) (fun τ=> dB _ aa rfl rfl) ?_
   refine kA rfl ?_
   refine ap (_,[((50,0),_)]) (fun τ=> (eh aa [((0,8),(50,0))] ar (hcb.toI) trivial tr tr rfl rfl ae ae)) ?_
   refine kx rfl (bh ⟨rfl,?_⟩)
   refine ai (dq (56,0) _ _ aa rfl rfl (bL _).symm (.ref rfl (lM _) (jR _)) ab rfl (kv _ _) (show (bT (ons.take j) 0).length+C.length=(bT (ons.take j) 0++C).length by simp)) ?_
   refine bE rfl rfl rfl (bQ rfl rfl rfl rfl rfl rfl (aj ?_))
   refine aN (σ':=aB 79 [(1,_),(2,_),(4,_),(6,_)] [((1,0),_),((2,0),_),((4,0),_),((56,0),_)] [] []) kp ?_
   refine an (bE rfl rfl rfl (ai (aM _ aa rfl rfl (rfl:_=some (AV.ref _ _ _))) (ai (aA _ aa rfl (by exact (rfl:_=some [_,_]))) ?_)))
   refine ai (aW _ _ aa rfl ag (by (simp <;> rfl)) ah rfl) ?_
   refine ai (dq (62,0) _ _ aa rfl rfl (bL _).symm (.sl rfl) (by simp;omega) rfl ((ew _ { op:= .stop }).trans (congrArg inl hsn.symm)) (show (bT (ons.take j) 0++C).length+1=(bT (ons.take (j+1)) 0).length by simp [hsl])) ?_
   refine bE rfl rfl rfl (bQ rfl rfl rfl rfl rfl rfl (fc (an (aQ rfl (ai (bc _ _ rfl rfl (bp ab)) ?_)))))
   refine aZ rfl (az (⟨j+1,?_,?_,?_⟩))
   ·omega
   ·skip
    refine Le.mkJ [((60,0),(62,0))] [] rfl ?_ ?_ trivial trivial ?_
    ·exact ⟨(dX (id:=(1,0)) rfl),(dX (id:=(2,0)) rfl),(dX (id:=(4,0)) rfl),(ci ag),trivial⟩
    ·exact ⟨(fM rfl rfl rfl rfl (by repeat' (first | exact Lv.sl | exact bv | refine aI ?_ ?_))),(fM rfl rfl rfl rfl (by repeat' (first | exact Lv.v | exact bv | refine aI ?_ ?_))),(gJ rfl rfl rfl ag),(fM rfl rfl rfl rfl lz),trivial⟩
    ·kernel_rfl
   ·omega
  ·skip
   obtain rfl:j=ons.length:=by omega
   rw [List.take_length]
   refine bK (id (hK8 _ ?_))
   clear hK8;try clear K8
   refine aq (am (bE rfl rfl rfl (ai (aM _ aa rfl rfl (rfl:_=some (AV.ref _ _ _))) (ai (dB _ aa rfl rfl) (ai (dt _ _ rfl rfl rfl) (aj (aU rfl (fun hc67=> ?_) (fun hc67=> ?_))))))))
   ·skip
    have hco:hZ ons≠true:=by
     unfold hZ
     rw [decide_eq_false ab,Bool.false_and]
     exact Bool.false_ne_true
    rw [wn,if_neg hco,Dj,if_pos ab]
    refine am (ai (aA _ aa rfl (by exact (rfl:_=some [_,_,_,_,_,_,_,_,_,_,_,_,_,_,_,_,_,_,_,_,_,_,_,_,_,_,_,_,_,_,_,_,_,_,_,_,_,_,_,_,_,_,_]))) ?_)
    exact bQ rfl rfl rfl rfl rfl rfl (aZ rfl (aj (aC (lZ (.inr rfl) rfl (.cellA aa rfl rfl rfl) (.tmp (rfl:_=AV.v _)) (Le.out [] [] (.tup rfl lz) rfl rfl rfl trivial trivial)))))
   ·skip
    have hl4:(bT ons 0).length≤400:=by omega
    refine aH (aG fun K19 hK19=> ?_)
    refine am (aZ rfl (aj (au ?_)))
    refine aN (Le.frzB (4,0) 0 rfl rfl rfl rfl (ys:=inl (bT ons 0)) (by rw [List.drop_zero];exact List.take_of_length_le (by rw [bL];omega)) (by rw [bL];omega)) ?_
    refine bB (α:=Nat) (fun h=> h≤40∧ ∀ k,k < h→ju (bT ons 0) (gX (bT ons 0) (bY ons k)).1 (bT ons 0).length≤16) 79 [(2,_),(4,_)] [((2,0),_)] (fun h=> [(8, .v (.int .i64 (h:Int)))]) (fun h=> [((4,0), .box 26 [.sl (bT ons 0).length (inl (bT ons 0)), .v (.int .i64 (bY ons 0)), .v (.int .i64 (bY ons 1)), .v (.int .i64 (bY ons 2)), .v (.int .i64 (bY ons 3)), .v (.int .i64 (bY ons 4)), .v (.int .i64 (bY ons 5)), .v (.int .i64 (bY ons 6)), .v (.int .i64 (bY ons 7)), .v (.int .i64 (bY ons 8)), .v (.int .i64 (bY ons 9)), .v (.int .i64 (bY ons 10)), .v (.int .i64 (bY ons 11)), .v (.int .i64 (bY ons 12)), .v (.int .i64 (bY ons 13)), .v (.int .i64 (bY ons 14)), .v (.int .i64 (bY ons 15)), .v (.int .i64 (bY ons 16)), .v (.int .i64 (bY ons 17)), .v (.int .i64 (bY ons 18)), .v (.int .i64 (bY ons 19)), .v (.int .i64 (bY ons 20)), .v (.int .i64 (bY ons 21)), .v (.int .i64 (bY ons 22)), .v (.int .i64 (bY ons 23)), .v (.int .i64 (bY ons 24)), .v (.int .i64 (bY ons 25)), .v (.int .i64 (bY ons 26)), .v (.int .i64 (bY ons 27)), .v (.int .i64 (bY ons 28)), .v (.int .i64 (bY ons 29)), .v (.int .i64 (bY ons 30)), .v (.int .i64 (bY ons 31)), .v (.int .i64 (bY ons 32)), .v (.int .i64 (bY ons 33)), .v (.int .i64 (bY ons 34)), .v (.int .i64 (bY ons 35)), .v (.int .i64 (bY ons 36)), .v (.int .i64 (bY ons 37)), .v (.int .i64 (bY ons 38)), .v (.int .i64 (bY ons 39)), .v (.int .i64 (d.length:Int)), .v (.int .i64 (v.length:Int))])]) [] [] (fun h=> 40 - h) 0 ?_ (by
     refine Le.mkJ [] [] rfl ?_ ?_ trivial trivial ?_
     ·exact ⟨(iP rfl),(iP rfl),(ci ag),trivial⟩
     ·exact ⟨(cD rfl rfl rfl),(fM rfl rfl rfl rfl lz),trivial⟩
     ·kernel_rfl) ?_
    ·exact ⟨Nat.zero_le _,fun k hk=> absurd hk (Nat.not_lt_zero _)⟩
    intro h hh
    obtain ⟨hk,hks⟩:=hh
    refine aG fun K21 hK21=> ?_
    refine am (aQ rfl (ai (bq _ _ rfl rfl rfl) (aj (aU rfl (fun hc70=> ?_) (fun hc70=> ?_)))))
    ·skip
     have hh4:h < 40:=by omega
     have hdm:=lX (C:=bT ons 0) (nB U.good (U.ent h)) (B:=1000000) (fun i _=> Nat.le_trans (xx ons i) hUc) _ (Nat.le_refl _)
     have hde:=tA (bT ons 0) (bY ons) (d.length:Int) (v.length:Int) h hh4 hUc (qH ons) (d++v).length U.good (fun i=> Nat.le_trans (xx ons i) hUc) (U.ent h)
     refine bu (hK21 _ ?_)
     clear hK21;try clear K21
     refine aq (au (am (ai (aS _ aa rfl rfl rfl rfl) (aQ rfl (ai (aK aa al (hde) rfl rfl) ?_)))))
     refine ai (dt _ _ rfl rfl rfl) (aj (aU rfl (fun hc76=> ?_) (fun hc76=> ?_)))
     ·skip
      have hco:hZ ons≠true:=fun e=> by
       unfold hZ at e
       rw [Bool.and_eq_true,List.all_eq_true] at e
       have:=e.2 h (List.mem_range.2 hh4)
       rw [decide_eq_true_eq] at this
       exact absurd (show ju (bT ons 0) (gX (bT ons 0) (bY ons h)).1 (bT ons 0).length≤16 from this) ab
      rw [wn,if_neg hco,Dj,if_neg ab]
      refine am (ai (aA _ aa rfl (by exact (rfl:_=some [_,_,_,_,_,_,_,_,_,_,_,_,_,_,_,_,_,_,_,_,_,_,_,_,_,_,_,_,_,_,_,_,_,_,_,_,_,_,_,_,_,_,_]))) ?_)
      exact bQ rfl rfl rfl rfl rfl rfl (aZ rfl (aj (aC (lZ (.inr rfl) rfl (.cellA aa rfl rfl rfl) (.tmp (rfl:_=AV.v _)) (Le.out [] [] (.tup rfl lz) rfl rfl rfl trivial trivial)))))
     ·skip
      refine ce (an (aQ rfl (ai (bc _ _ rfl rfl (bp ab)) ?_)))
      refine aZ rfl (az (⟨h+1,?_,?_,?_⟩))
      ·exact ⟨by omega,fun k hk=> (by
        rcases Nat.lt_or_ge k h with hlt | hge
        ·exact hks k hlt
        ·obtain rfl:k=h:=by omega
         omega)⟩
      ·skip
       refine Le.mkJ [] [] rfl ?_ ?_ trivial trivial ?_
       ·exact ⟨(iP rfl),(iP rfl),(ci ag),trivial⟩
       ·exact ⟨(cD rfl rfl rfl),(fM rfl rfl rfl rfl lz),trivial⟩
       ·kernel_rfl
      ·omega
    ·skip
     obtain rfl:h=40:=by omega
     have hco:hZ ons=true:=by
      unfold hZ
      rw [Bool.and_eq_true,decide_eq_true_eq,List.all_eq_true]
      exact ⟨hl4,fun k hk=> decide_eq_true (hks k (List.mem_range.1 hk))⟩
     refine bK (id (hK19 _ ?_))
     clear hK19;try clear K19
     refine am (ai (aS _ aa rfl rfl rfl rfl) (bQ rfl rfl rfl rfl rfl rfl (aZ rfl (aj (aC ?_)))))
     rw [wn,if_pos hco]
     exact lZ (.inr rfl) rfl (.cellA aa rfl rfl rfl) (.tmp (rfl:_=AV.v _)) (Le.out [] [] (.tup rfl lz) rfl rfl rfl trivial trivial)

structure AD (s:Tx) (d v:List Tx) (ons:List (Nat×Bk)):Prop extends UOk d v ons where
 p:qx s=some (d,v,mT d v ons)
 l:s.length≤3000
 wl: ∀ p∈ons,nu p.2=true
theorem xE {s:Tx} {d v:List Tx} {ons:List (Nat×Bk)} (U:AD s d v ons) (hc:hZ ons=true):
  Spec Tryz.prog 64 (bj [.v (bt s)] []) (aX (wn d v ons) []):=by
 have h1:=oe s U.l _ _ _ U.p
 have h2:Spec Tryz.prog 97 (bj [Ep d v (mT d v ons)] []) (aX (.v (.int .i64 0)) []):=od d v ons U.nd U.len U.ok U.wl U.n
 have h3:=jq d v ons U.toUOk
 rw [wn,if_pos hc] at h3 ⊢
 obtain ⟨H,hH⟩: ∃ H,H=mT d v ons:=⟨_,rfl⟩
 rw [← hH] at h1 h2 h3
 clear hH
 refine Spec.ofN Tryz.func64 rfl Tryz.ntmps64 rfl ?_
 refine am (ai (ay (2,0) aa rfl rfl) (aZ rfl (aj (am (dK rfl (ai (aK aa al (h1) rfl rfl) ?_))))))
 refine ai (aE _ (rfl:_=AV.tup _)) (ai (dc _ rfl (rfl:_=some (AV.agg _))) (ai (dc _ rfl (rfl:_=some (AV.v (.int _ _)))) (ai (dc _ rfl (rfl:_=some (AV.v (.int _ _)))) (ai (ay (4,0) aa rfl rfl) (bQ rfl rfl rfl rfl rfl rfl (aZ rfl (aZ rfl (aj (aq (am ?_))))))))))
 refine aQ rfl (ai (bX (r:=false) _ _ rfl rfl rfl) (aj (aP rfl rfl (aH (am (ai (aS _ aa rfl rfl rfl rfl) (ai (aK aa al (h2) rfl rfl) ?_)))))))
 refine aZ rfl (aj (aq (aq ?_)))
 refine aN (σ':=aB 32 [(2,_),(4,_),(6,_)] [((2,0),_),((4,0),_)] [] []) kp ?_
 refine an (aQ rfl (ai (bX (r:=false) _ _ rfl rfl rfl) (aj (aP rfl rfl (aH (am (ai (aS _ aa rfl rfl rfl rfl) (ai (aK aa al (h3) rfl rfl) ?_))))))))
 refine ai (aE _ (rfl:_=AV.tup _)) (ai (dc _ rfl (rfl:_=some (AV.agg _))) (ai (dc _ rfl (rfl:_=some (AV.v (.int _ _)))) (ai (ay (7,0) aa rfl rfl) (bQ rfl rfl rfl rfl rfl rfl (aZ rfl (aj (am (ai (aS _ aa rfl rfl rfl rfl) (aQ rfl (bQ rfl rfl rfl rfl rfl rfl ?_))))))))))
 exact aZ rfl (aj (aC (lZ (.inr rfl) rfl (.cellA aa rfl rfl rfl) (.tmp (rfl:_=AV.v _)) (Le.out [] [] (.tup rfl lz) rfl rfl rfl trivial trivial))))
theorem yi {s:Tx} {d v:List Tx} {ons:List (Nat×Bk)} (U:AD s d v ons) (hc:hZ ons≠true):
  Spec Tryz.prog 64 (bj [.v (bt s)] []) (aX (wn d v ons) []):=by
 have h1:=oe s U.l _ _ _ U.p
 have h2:Spec Tryz.prog 97 (bj [Ep d v (mT d v ons)] []) (aX (.v (.int .i64 0)) []):=od d v ons U.nd U.len U.ok U.wl U.n
 have h3:=jq d v ons U.toUOk
 rw [wn,if_neg hc] at h3 ⊢
 generalize Dj ons=er at h3 ⊢
 obtain ⟨H,hH⟩: ∃ H,H=mT d v ons:=⟨_,rfl⟩
 rw [← hH] at h1 h2 h3
 clear hH
 refine Spec.ofN Tryz.func64 rfl Tryz.ntmps64 rfl ?_
 refine am (ai (ay (2,0) aa rfl rfl) (aZ rfl (aj (am (dK rfl (ai (aK aa al (h1) rfl rfl) ?_))))))
 refine ai (aE _ (rfl:_=AV.tup _)) (ai (dc _ rfl (rfl:_=some (AV.agg _))) (ai (dc _ rfl (rfl:_=some (AV.v (.int _ _)))) (ai (dc _ rfl (rfl:_=some (AV.v (.int _ _)))) (ai (ay (4,0) aa rfl rfl) (bQ rfl rfl rfl rfl rfl rfl (aZ rfl (aZ rfl (aj (aq (am ?_))))))))))
 refine aQ rfl (ai (bX (r:=false) _ _ rfl rfl rfl) (aj (aP rfl rfl (aH (am (ai (aS _ aa rfl rfl rfl rfl) (ai (aK aa al (h2) rfl rfl) ?_)))))))
 refine aZ rfl (aj (aq (aq ?_)))
 refine aN (σ':=aB 32 [(2,_),(4,_),(6,_)] [((2,0),_),((4,0),_)] [] []) kp ?_
 refine an (aQ rfl (ai (bX (r:=false) _ _ rfl rfl rfl) (aj (aP rfl rfl (aH (am (ai (aS _ aa rfl rfl rfl rfl) (ai (aK aa al (h3) rfl rfl) ?_))))))))
 refine ai (aE _ (rfl:_=AV.tup _)) (ai (dc _ rfl (rfl:_=some (AV.agg _))) (ai (dc _ rfl (rfl:_=some (AV.v (.int _ _)))) (ai (ay (7,0) aa rfl rfl) (bQ rfl rfl rfl rfl rfl rfl (aZ rfl (aj (am (ai (aS _ aa rfl rfl rfl rfl) (aQ rfl (bQ rfl rfl rfl rfl rfl rfl ?_))))))))))
 exact aZ rfl (aj (aC (lZ (.inr rfl) rfl (.cellA aa rfl rfl rfl) (.tmp (rfl:_=AV.v _)) (Le.out [] [] (.tup rfl lz) rfl rfl rfl trivial trivial))))
theorem tj {s:Tx} {d v:List Tx} {ons:List (Nat×Bk)} (U:AD s d v ons):
  Spec Tryz.prog 64 (bj [.v (bt s)] []) (aX (wn d v ons) []):=by
 by_cases hc:hZ ons=true
 ·exact xE U hc
 ·exact yi U hc
theorem DV {d v:List Tx} {ons:List (Nat×Bk)} (h:Gx ons (d++v).length) (h1:(d++v).Nodup) (h2:(d++v).length≤16) (h3:(ons.all fun p=> mP p.2)=true) (h4:ons.length≤1000):UOk d v ons:=
 ⟨h1,h2,h.ok,fun p hp=> (List.all_eq_true.1 h3) p hp,h.h,by have:=h.n;omega,h4⟩
theorem usrcL:AD Ej AE BW onsL:=⟨DV srcOkL ah ah ae ah,CY,of_decide_eq_true ae,srcOkL.wl⟩
end Go.Proofs.YtmjnackchaahbaaGreat

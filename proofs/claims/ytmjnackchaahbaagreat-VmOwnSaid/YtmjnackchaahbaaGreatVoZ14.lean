/- Part 14 of the texts that the walk leans on: the machine, the walks, the plain laws. -/
import Derived.Test.YtmjnackchaahbaaGreatVoZ13
set_option linter.unusedSimpArgs false
set_option linter.unusedVariables false
namespace Go.Proofs.YtmjnackchaahbaaGreat
open Go.RowKit

theorem gu {l:List Int} {i:Nat} (h:i < l.length):l.getD i (-1)=l.getD i 0:=by
 rw [List.getD_eq_getElem?_getD,List.getD_eq_getElem?_getD,List.getElem?_eq_getElem h];rfl
theorem tw {n:Nat} {d:Int} {s:DS} {l:List Nat} {k:Nat} (h:k < l.length):(l.take (k+1)).foldl (ii n d) s=ii n d ((l.take k).foldl (ii n d) s) (l.getD k 0):=by
 rw [List.take_succ_eq_append_getElem h,List.foldl_append,List.getD_eq_getElem?_getD,List.getElem?_eq_getElem h];rfl
theorem Aw (n k:Nat) (h:k < n):((List.replicate k (-1:Int))++List.replicate (n - k) 0).set k (-1)=List.replicate (k+1) (-1)++List.replicate (n - (k+1)) 0:=by
 rw [List.set_append_right _ _ (by simp),List.length_replicate,Nat.sub_self,show n - k=(n - (k+1))+1 by omega,List.replicate_succ,List.set_cons_zero,show List.replicate (k+1) (-1:Int)=List.replicate k (-1)++[-1] from List.replicate_succ']
 simp
theorem yq {ρ:aF→aF} {σ:St} {F:aF→Bool} {id:aF} {e:TypeId} {sz n m:Nat} {xs ys:List PV} (hid:σ.ob id= .obj (.row e sz xs)) (hF:F id=true) (hl:n*sz=xs.length) (hy:xs=ys) (hn:n=m):Lv ρ σ F (.sl m ys) (.ref id 0 n):=by
 subst hn;exact gQ hid hF hl hy
theorem DI.flag {D:Nat→Nat} {n:Nat} {s:DS} {b:Bool} (h:DI D n s):DI D n (s.1,s.2.1,b):=⟨h.len,h.val,h.ok⟩
def vz (C:List eu) (R:List Int×Bool) (z:(List Int×Bool)×Bool):Prop:=if z.2=true then ∃ f,neg z.1.1+1≤f∧im C f z.1=R else z.1=R
theorem we {C:List eu} {R:List Int×Bool} {s:List Int×Bool} {f:Nat} (hf:neg s.1+1≤f) (hR:im C f s=R) (hd:(dm C s C.length).2.2=true→neg (dm C s C.length).1 < neg s.1):
  vz C R (((dm C s C.length).1,(dm C s C.length).2.1),(dm C s C.length).2.2):=by
 obtain ⟨g,rfl⟩: ∃ g,f=g+1:=⟨f - 1,by omega⟩
 unfold vz
 cases hb:(dm C s C.length).2.2 with
 | true=>
  have:=hd hb
  rw [if_pos rfl]
  exact ⟨g,by simp only;omega,by rw [← hR,th hb]⟩
 | false=> rw [if_neg (by simp)];rw [← hR,tp hb]
def Je (z:(List Int×Bool)×Bool):Nat:=if z.2=true then neg z.1.1+1 else 0
theorem CN {C:List eu} {s:List Int×Bool} (hd:(dm C s C.length).2.2=true→neg (dm C s C.length).1 < neg s.1):Je (((dm C s C.length).1,(dm C s C.length).2.1),(dm C s C.length).2.2) < neg s.1+1:=by
 unfold Je
 simp only
 split
 ·rename_i h;have:=hd h;omega
 ·omega
theorem uG {C:List eu} {s:DS} {i:Nat} (h:s.1.getD i (-1) < 0):ke C s i=s:=by unfold ke;rw [if_pos h]
theorem xO {C:List eu} {s:DS} {i:Nat} (h: ¬ s.1.getD i (-1) < 0) (h2: ¬ s.1.getD i (-1) - (cL C i).op.pops < 0):ke C s i=(dz i (cL C i)).foldl (ii C.length (s.1.getD i (-1) - (cL C i).op.pops+(cL C i).op.puts)) s:=by
 unfold ke Be
 rw [if_neg h,if_neg h2,show max (s.1.getD i (-1) - (cL C i).op.pops) 0=s.1.getD i (-1) - (cL C i).op.pops by omega]
theorem rK (C:List eu) (en:Nat→Int) (dd vv:Int) (e:Int) (hC:C.length≤1000000) (D:Nat→Nat) (nv:Nat) (hg:Good D nv 0 (C.length - 1) 0 C) (hD: ∀ i,D i≤1000000) (he:0≤e→e < C.length→D e.toNat=0):
  Spec Tryz.prog 72 (bk [.agg (yf C.length (inl C) en dd vv), .v (.int .i64 e)] []) (aW (.tup [.sl (ic C e).1.length (cR (ic C e).1), .v (.bool (ic C e).2)]) []):=by
 refine Spec.ofN Tryz.func72 rfl Tryz.ntmps72 rfl ?_
 refine am (ai (bf (2,0) _ rfl rfl) (ai (bA _ (rfl:_=AV.v (.slice _ _ _))) (cw rfl (aj (am (bv rfl rfl rfl (fG rfl rfl rfl (ai (bH _ aa rfl) (ai (Eo (17,0) _ _ aa rfl rfl C.length rfl rfl ab rfl (uQ C.length)) ?_)))))))))
 refine fb rfl (aj (aG fun K3 hK3=> ?_))
 refine am (aZ rfl (aj (au ?_)))
 refine bB (α:=Nat) (fun k=> k≤C.length) 123 [(1,_),(2,_)] [((2,0),_)] (fun k=> [(7, .v (.int .i64 (k:Int))),(6, .ref (6,0) 0 C.length)]) (fun k=> [((6,0), .row 3 1 (cR (List.replicate k (-1)++List.replicate (C.length - k) 0)))]) [] [] (fun k=> C.length - k) 0 ?_ (by
  refine Le.mkJ [((6,0),(17,0))] [] rfl ?_ ?_ trivial trivial ?_
  ·exact ⟨(by repeat' (exact Lv.v)),(dD (id:=(2,0)) rfl),(co ag),(cX rfl ag),trivial⟩
  ·exact ⟨(fg rfl rfl rfl rfl (by repeat' (first | exact Lv.v | exact Lv.sl | exact bn | refine aC ?_ ?_))),(fJ rfl rfl rfl ag),trivial⟩
  ·kernel_rfl) ?_
 ·omega
 intro k hk
 have hll:(List.replicate k (-1:Int)++List.replicate (C.length - k) 0).length=C.length:=by simp;omega
 refine aG fun K5 hK5=> ?_
 refine am (aS rfl (gD rfl (ai (dv _ aa rfl rfl) (ai (bq _ _ rfl rfl rfl) (aj (aV rfl (fun hc21=> ?_) (fun hc21=> ?_)))))))
 ·skip
  have hrs:=Aw C.length k ab
  refine bz (hK5 _ ?_)
  clear hK5;try clear K5
  refine aq (au (an (gD rfl (aS rfl (ai (gi _ _ aa rfl rfl rfl _ rfl ab (by exact (Nat.zero_add _).trans (Nat.mul_one _))) ?_)))))
  refine ai (mq _ _ aa rfl rfl rfl rfl rfl (by simp;omega) ((kr _ _ _ ab).trans (congrArg cR hrs))) ?_
  refine fP (an (aS rfl (ai (be _ _ rfl rfl (br ab)) ?_)))
  refine aZ rfl (az (⟨k+1,?_,?_,?_⟩))
  ·omega
  ·skip
   refine Le.mkJ [] [] rfl ?_ ?_ trivial trivial ?_
   ·exact ⟨(iV rfl),(iP rfl),(co ag),(cX rfl ag),trivial⟩
   ·exact ⟨(cI rfl rfl rfl),(fJ rfl rfl rfl ag),trivial⟩
   ·kernel_rfl
  ·omega
 ·skip
  obtain rfl:k=C.length:=by omega
  have hrep:List.replicate C.length (-1:Int)++List.replicate (C.length - C.length) 0=List.replicate C.length (-1):=by simp
  refine bK (id (hK3 _ ?_))
  clear hK3;try clear K3
  refine aq (am (aS rfl (ai (bq _ _ rfl rfl rfl) (cP rfl (dH (fun hg29=> ?_) (fun hg29=> ?_))))))
  ·skip
   have hdf:ic C e=(List.replicate C.length (-1),true):=if_pos (.inl ab)
   refine aU rfl rfl ah ?_
   refine aU rfl rfl ah ?_
   refine aU rfl rfl ah ?_
   refine aU rfl rfl ah ?_
   refine ai (aH _ _ _ rfl (rfl:_=AV.v (.bool _))) (aj (bF rfl rfl (am (gD rfl (fb rfl (cw rfl (aj (aD ?_))))))))
   rw [hdf]
   exact lN (.inr rfl) rfl (.tmp (rfl:_=AV.ref _ _ _)) (.tmp (rfl:_=AV.v (.bool _))) (Le.out [] [(6,0)] (.tup rfl (aC (yq rfl rfl (by simp) (congrArg cR hrep) (by simp)) lz)) rfl rfl rfl tr trivial)
  ·skip
   refine aA rfl rfl (aE _ (rfl:_=AV.v (.int _ _))) (aA rfl rfl (aE _ (rfl:_=AV.ref _ _ _)) (aA rfl rfl (dv _ aa rfl rfl) (aA rfl rfl (fc _ _ rfl rfl rfl) (ai (aH _ _ _ rfl (rfl:_=AV.v (.bool _))) (aj (aV rfl (fun hc34=> ?_) (fun hc34=> ?_)))))))
   ·skip
    have hdf:ic C e=(List.replicate C.length (-1),true):=if_pos (.inr ab)
    refine am (gD rfl (fb rfl (cw rfl (aj (aD ?_)))))
    rw [hdf]
    exact lN (.inr rfl) rfl (.tmp (rfl:_=AV.ref _ _ _)) (.tmp (rfl:_=AV.v (.bool _))) (Le.out [] [(6,0)] (.tup rfl (aC (yq rfl rfl (by simp) (congrArg cR hrep) (by simp)) lz)) rfl rfl rfl tr trivial)
   ·skip
    have hdf:ic C e=im C (C.length+1) ((List.replicate C.length (-1)).set e.toNat 0,true):=if_neg ab
    have hdi0:DI D C.length ((List.replicate C.length (-1)).set e.toNat 0,true,false):=by
     have hr: ∀ i,(List.replicate C.length (-1:Int)).getD i (-1)= -1:=fun i=> by rw [List.getD_eq_getElem?_getD,List.getElem?_replicate];split <;> rfl
     refine ⟨by simp,fun i hi=> ?_,rfl⟩
     simp only
     rw [iz]
     split
     ·rename_i h;right;rw [h.1,he ab ab];rfl
     ·exact .inl (hr i)
    have hn0:neg ((List.replicate C.length (-1)).set e.toNat 0)≤C.length:=by
     have:=List.countP_le_length (p:=fun x:Int=> decide (x < 0)) (l:=(List.replicate C.length (-1:Int)).set e.toNat 0)
     simpa [neg] using this
    obtain ⟨R,hR⟩: ∃ R,R=ic C e:=⟨_,rfl⟩
    rw [← hR] at hdf
    refine aJ (am (gD rfl (aS rfl (ai (gi _ _ aa rfl rfl rfl e.toNat ab ab (by exact (Nat.zero_add _).trans (Nat.mul_one _))) ?_))))
    refine ai (mq _ _ aa rfl rfl rfl rfl rfl (by simp;omega) ((kr _ _ _ (by simp;omega)).trans (congrArg (fun l=> cR (List.set l e.toNat 0)) hrep))) ?_
    refine aj (aq ?_)
    refine aO (σ':=aB 123 [(2,_),(6,_)] [((2,0),_),((6,0),_)] [] []) kp ?_
    refine an (cw rfl (aj (aG fun K14 hK14=> ?_)))
    refine am (cw rfl (aj (au ?_)))
    refine bB (α:=(List Int×Bool)×Bool) (fun z=> DI D C.length (z.1.1,z.1.2,false)∧vz C R z) 123 [(2,_),(6,_)] [((2,0),_)] (fun z=> [(8, .v (.bool z.1.2)),(9, .v (.bool z.2))]) (fun z=> [((6,0), .row 3 1 (cR z.1.1))]) [] [] (fun z=> Je z) (((List.replicate C.length (-1)).set e.toNat 0,true),true) ?_ (by
     refine Le.mkJ [] [] rfl ?_ ?_ trivial trivial ?_
     ·exact ⟨(iP rfl),(iR rfl),(gR ag),(gR ag),trivial⟩
     ·exact ⟨(cI rfl rfl rfl),(fJ rfl rfl rfl ag),trivial⟩
     ·kernel_rfl) ?_
    ·exact ⟨hdi0,by unfold vz;rw [if_pos rfl];exact ⟨C.length+1,by simp only;omega,hdf.symm⟩⟩
    intro z hz
    obtain ⟨s,ch⟩:=z
    obtain ⟨hdi,hz⟩:=hz
    simp only at hdi hz ⊢
    refine aG fun K16 hK16=> ?_
    refine am (cP rfl (aj (aV rfl (fun hc39=> ?_) (fun hc39=> ?_))))
    ·skip
     obtain ⟨f,hf1,hf2⟩: ∃ f,neg s.1+1≤f∧im C f s=R:=by
      unfold vz at hz
      rwa [if_pos hc39] at hz
     have hpd:=(jT hg hdi C.length (Nat.le_refl _)).2.2
     refine bz (hK16 _ ?_)
     clear hK16;try clear K16
     refine au (am (cw rfl (aj (am (aZ rfl (aj (au ?_)))))))
     refine bB (α:=Nat) (fun i=> i≤C.length) 123 [(2,_),(6,_)] [((2,0),_)] (fun i=> [(10, .v (.int .i64 (i:Int))),(8, .v (.bool (dm C s i).2.1)),(9, .v (.bool (dm C s i).2.2))]) (fun i=> [((6,0), .row 3 1 (cR (dm C s i).1))]) [] [] (fun i=> C.length - i) 0 ?_ (by
      refine Le.mkJ [] [] rfl ?_ ?_ trivial trivial ?_
      ·exact ⟨(iP rfl),(iR rfl),(co ag),(gR ag),(gR ag),trivial⟩
      ·exact ⟨(cI rfl rfl rfl),(fJ rfl rfl rfl ag),trivial⟩
      ·kernel_rfl) ?_
     ·omega
     intro i hi
     have hw:=(jT hg hdi i hi).1
     have hps:=nW C s i
     have hwl:=hw.len
     refine aG fun K20 hK20=> ?_
     refine am (aS rfl (gD rfl (ai (dv _ aa rfl rfl) (ai (bq _ _ rfl rfl rfl) (aj (aV rfl (fun hc43=> ?_) (fun hc43=> ?_)))))))
     ·skip
      have hdn:=(jT hg hdi (i+1) ab).1
      have hvi:=hw.val i ab
      generalize dm C s i=w at hw hps hwl hvi
      rw [gu ab] at hvi
      obtain ⟨hins,hpop,hsuc⟩:=hg i (cL C i) (by unfold cL;rw [List.getD_eq_getElem?_getD,List.getElem?_eq_getElem ab];rfl)
      rw [Nat.zero_add] at hpop hsuc
      have hDi:=hD i
      refine bz (hK20 _ ?_)
      clear hK20;try clear K20
      refine aG fun K22 hK22=> ?_
      refine au (aq (am (gD rfl (aS rfl (ai (gi _ _ aa rfl rfl rfl _ rfl ab (by exact (Nat.zero_add _).trans (Nat.mul_one _))) ?_)))))
      refine ai (lc _ aa rfl rfl (by exact dY _ _ ab) rfl) ?_
      refine ai (bq _ _ rfl rfl rfl) (aj (aV rfl (fun hc50=> ?_) (fun hc50=> ?_)))
      ·skip
       rw [uG (by rw [gu ab];omega)] at hps
       refine bK (id (hK22 _ ?_))
       clear hK22;try clear K22
       refine an (aS rfl (ai (be _ _ rfl rfl (br ab)) ?_))
       refine aZ rfl (az (⟨i+1,?_,?_,?_⟩))
       ·omega
       ·skip
        refine Le.mkJ [] [] rfl ?_ ?_ trivial trivial ?_
        ·exact ⟨(iP rfl),(iR rfl),(co ag),(gR (by (rw [hps]))),(gR (by (rw [hps]))),trivial⟩
        ·exact ⟨(cI rfl rfl rfl),(fJ rfl rfl rfl (by (rw [hps]))),trivial⟩
        ·kernel_rfl
       ·omega
      ·skip
       have hvD:=hvi.resolve_left ab
       have hgo:=xO (C:=C) (s:=w) (i:=i) (by rw [gu ab];omega) (by rw [gu ab];omega)
       rw [gu ab,hvD] at hgo
       rw [hgo] at hps
       obtain ⟨L,hL⟩: ∃ L,L=dz i (cL C i):=⟨_,rfl⟩
       have hLl:L.length≤2:=by rw [hL];unfold dz;split <;> simp
       have hnn:(cL C i).op= .jump∨(cL C i).op= .unl→0≤(cL C i).n:=by
        unfold dc at hins
        rintro (e | e) <;> rw [e] at hins <;> exact hins
       have hnx:=vV C en dd vv i hC ab hnn
       rw [← hL] at hps hsuc hnx
       have hpp:=pn (cL C i).op
       have hpq:=pq (cL C i).op
       have hp3:(cL C i).op.pops≤3:=by generalize (cL C i).op=o;cases o <;> decide
       have hp4:(cL C i).op.puts≤1:=by generalize (cL C i).op=o;cases o <;> decide
       refine aJ (aq ?_)
       refine aO (σ':=aB 123 [(2,_),(6,_),(8,_),(9,_),(10,_)] [((2,0),_),((6,0),_)] [] []) kp ?_
       refine bE 13 [51,52,53,54,55,56,57,58,59,60,61,62,11] [] ae ae rfl (aK rfl) (rfl:_=[_,_,_,_,_,_,_,_,_,_,_,_,_]) (rfl:_=[]) ?_
       refine ap (_,[]) (fun τ=> aE _ (rfl:_=AV.ref _ _ _)) ?_
       refine eE rfl ?_
       refine ap (_,[]) (fun τ=> aE _ (rfl:_=AV.v (.int _ _))) ?_
       refine eF rfl ?_
       refine ap (_,[]) (fun τ=> gi _ _ aa rfl rfl rfl _ rfl ab (by exact (Nat.zero_add _).trans (Nat.mul_one _))) ?_
       refine eD rfl ?_
       refine ap (_,[]) (fun τ=> lc _ aa rfl rfl (by exact dY _ _ ab) rfl) ?_
       refine eI rfl ?_
       refine ap (_,[]) (fun τ=> aI _ aa rfl rfl rfl) ?_
       refine eU rfl ?_
       refine ap (_,[]) (fun τ=> aL _ aa rfl rfl (rfl:_=some (AV.sl _ _))) ?_
       refine fh rfl ?_
       refine ap (_,[]) (fun τ=> aE _ (rfl:_=AV.v (.int _ _))) ?_
       refine fZ rfl ?_
       refine ap (_,[]) (fun τ=> bg _ _ aa rfl rfl _ rfl ab (by (simp only [ba,bo,bm,bC,bw,bJ,bD,bQ,ed,ba];omega)) ag) ?_
       refine jz rfl ?_
       refine ap (_,[]) (fun τ=> dk _ aa rfl rfl) ?_
       refine jC rfl ?_
       refine ap (_,[]) (fun τ=> bG _ aa rfl (by exact lD C i ab) rfl) ?_
       refine fK rfl ?_
       refine ap (_,[]) (fun τ=> (aM aa al (hpp) rfl rfl)) ?_
       refine gl rfl ?_
       refine ap (_,[]) (fun τ=> ce _ _ rfl rfl (br (by rw [hvD];omega))) ?_
       refine kP rfl ?_
       refine ap (_,[]) (fun τ=> bA _ (rfl:_=AV.v (.int _ _))) ?_
       refine lQ rfl (bi ⟨rfl,?_⟩)
       refine aj (aq (am (aS rfl (ai (bq _ _ rfl rfl rfl) (aj (aR rfl (decide_eq_false (by rw [hvD];omega)) ?_))))))
       refine aJ (aq ?_)
       refine aO (σ':=aB 123 [(2,_),(6,_),(8,_),(9,_),(10,_),(11,_)] [((2,0),_),((6,0),_)] [] []) kp ?_
       refine an (aS rfl (bv rfl rfl rfl (fG rfl rfl rfl (aS rfl (ai (bg _ _ aa rfl rfl _ rfl ab (by (simp only [ba,bo,bm,bC,bw,bJ,bD,bQ,ed,ba];omega)) ag) ?_)))))
       refine ai (dk _ aa rfl rfl) (ai (bG _ aa rfl (by exact lD C i ab) rfl) ?_)
       refine ai (aM aa al (hpq) rfl rfl) ?_
       refine ai (be _ _ rfl rfl (br (by rw [hvD];omega))) ?_
       refine aZ rfl (aj (am (ai (aP _ aa rfl rfl rfl rfl) (aS rfl (ai (aM aa al (hnx) rfl rfl) ?_)))))
       refine kB rfl (aj (am (aZ rfl (aj (au ?_)))))
       refine bB (α:=Nat) (fun k=> k≤L.length) 123 [(2,_),(6,_),(10,_),(12,_)] [((2,0),_)] (fun k=> [(13, .v (.int .i64 (k:Int))),(11, .v (.int .i64 ((D i:Int) - (cL C i).op.pops+(cL C i).op.puts))),(8, .v (.bool ((L.take k).foldl (ii C.length ((D i:Int) - (cL C i).op.pops+(cL C i).op.puts)) w).2.1)),(9, .v (.bool ((L.take k).foldl (ii C.length ((D i:Int) - (cL C i).op.pops+(cL C i).op.puts)) w).2.2))]) (fun k=> [((6,0), .row 3 1 (cR ((L.take k).foldl (ii C.length ((D i:Int) - (cL C i).op.pops+(cL C i).op.puts)) w).1))]) [] [] (fun k=> L.length - k) 0 ?_ (by
        refine Le.mkJ [] [] rfl ?_ ?_ trivial trivial ?_
        ·exact ⟨(iP rfl),(iR rfl),(iV rfl),(iS rfl),(co ag),(co (by rw [hvD])),(gR ag),(gR ag),trivial⟩
        ·exact ⟨(cI rfl rfl rfl),(fJ rfl rfl rfl ag),trivial⟩
        ·kernel_rfl) ?_
       ·omega
       intro k hk
       have hwd: ∀ j∈L,(D i:Int) - (cL C i).op.pops+(cL C i).op.puts=(D j:Int):=fun j hj=> by have:=(hsuc j hj).2.2;omega
       have hu:=(lm (L.take k) hw (fun j hj=> hwd j (List.mem_of_mem_take hj))).1
       have hul:=hu.len
       refine aG fun K31 hK31=> ?_
       refine am (aS rfl (ez rfl (ai (bH _ aa rfl) (ai (bq _ _ rfl rfl rfl) (aj (aV rfl (fun hc80=> ?_) (fun hc80=> ?_)))))))
       ·skip
        have hfs:=tw (n:=C.length) (d:=(D i:Int) - (cL C i).op.pops+(cL C i).op.puts) (s:=w) (l:=L) (k:=k) ab
        have hu1:=(lm (L.take (k+1)) hw (fun j hj=> hwd j (List.mem_of_mem_take hj))).1.len
        obtain ⟨j,hj⟩: ∃ j,j=L.getD k 0:=⟨_,rfl⟩
        have hjm:j∈L:=by rw [hj,List.getD_eq_getElem?_getD,List.getElem?_eq_getElem ab];exact List.getElem_mem ab
        obtain ⟨hj1,hj2,_⟩:=hsuc j hjm
        have hjn:j < C.length:=by omega
        have hwj:=hwd j hjm
        have hnk:=zw L k ab
        rw [← hj] at hfs hnk
        have huv:=hu.val j hjn
        rw [gu ab] at huv
        generalize (L.take k).foldl (ii C.length ((D i:Int) - (cL C i).op.pops+(cL C i).op.puts)) w=u at hu hul hfs huv
        refine bz (hK31 _ ?_)
        clear hK31;try clear K31
        refine aq (au (aq (am (ez rfl (aS rfl (ai (bg _ _ aa rfl rfl _ rfl ab (by (simp only [ba,bo,bm,bC,bw,bJ,bD,bQ,ed,ba];omega)) (by exact Nat.mul_one _)) ?_))))))
        refine ai (bG _ aa rfl (by exact hnk) rfl) ?_
        refine ai (bq _ _ rfl rfl rfl) (cP rfl (dH (fun hg88=> ?_) (fun hg88=> ?_)))
        ·skip
         exact absurd hg88 ab
        ·skip
         refine aA rfl rfl (aE _ (rfl:_=AV.sl _ _)) (aA rfl rfl (aE _ (rfl:_=AV.v (.int _ _))) (aA rfl rfl (bg _ _ aa rfl rfl _ rfl ab (by (simp only [ba,bo,bm,bC,bw,bJ,bD,bQ,ed,ba];omega)) (by exact Nat.mul_one _)) ?_))
         refine aA rfl rfl (bG _ aa rfl (by exact hnk) rfl) ?_
         refine aA rfl rfl (aE _ (rfl:_=AV.ref _ _ _)) (aA rfl rfl (dv _ aa rfl rfl) (aA rfl rfl (fc _ _ rfl rfl rfl) (ai (aH _ _ _ rfl (rfl:_=AV.v (.bool _))) (aj (aR rfl (decide_eq_false ab) ?_)))))
         refine aJ (aq ?_)
         refine aO (σ':=aB 123 [(2,_),(6,_),(8,_),(9,_),(10,_),(11,_),(12,_),(13,_)] [((2,0),_),((6,0),_)] [] []) kp ?_
         refine an (gD rfl (ez rfl (aS rfl (ai (bg _ _ aa rfl rfl _ rfl ab (by (simp only [ba,bo,bm,bC,bw,bJ,bD,bQ,ed,ba];omega)) (by exact Nat.mul_one _)) ?_))))
         refine ai (bG _ aa rfl (by exact hnk) rfl) ?_
         refine ai (gi _ _ aa rfl rfl rfl _ rfl ab (by exact (Nat.zero_add _).trans (Nat.mul_one _))) ?_
         refine ai (lc _ aa rfl rfl (by exact dY _ _ ab) rfl) ?_
         refine ai (bq _ _ rfl rfl rfl) (aj (aV rfl (fun hc104=> ?_) (fun hc104=> ?_)))
         ·skip
          have hds:ii C.length ((D i:Int) - (cL C i).op.pops+(cL C i).op.puts) u j=(u.1.set j ((D i:Int) - (cL C i).op.pops+(cL C i).op.puts),u.2.1,true):=by
           unfold ii
           rw [if_neg ab,if_pos (by rw [gu ab];omega)]
          rw [hds] at hfs
          refine am (gD rfl (ez rfl (aS rfl (ai (bg _ _ aa rfl rfl _ rfl ab (by (simp only [ba,bo,bm,bC,bw,bJ,bD,bQ,ed,ba];omega)) (by exact Nat.mul_one _)) ?_))))
          refine ai (bG _ aa rfl (by exact hnk) rfl) ?_
          refine aS rfl (ai (gi _ _ aa rfl rfl rfl _ rfl ab (by exact (Nat.zero_add _).trans (Nat.mul_one _))) ?_)
          refine ai (mq _ _ aa rfl rfl rfl rfl rfl (by simp;omega) (kr _ _ _ ab)) ?_
          refine aj ?_
          refine aO (σ':=aB 123 [(2,_),(6,_),(8,_),(10,_),(11,_),(12,_),(13,_)] [((2,0),_),((6,0),_)] [] []) kp ?_
          refine an (cw rfl (fP (an (aS rfl (ai (be _ _ rfl rfl (br ab)) ?_)))))
          refine aZ rfl (az (⟨k+1,?_,?_,?_⟩))
          ·omega
          ·skip
           refine Le.mkJ [] [] rfl ?_ ?_ trivial trivial ?_
           ·exact ⟨(iP rfl),(iR rfl),(iV rfl),(iS rfl),(co ag),(co ag),(gR (by (rw [hfs]))),(gR (by (rw [hfs]))),trivial⟩
           ·exact ⟨(cI rfl rfl rfl),(fJ rfl rfl rfl (by (rw [hfs]))),trivial⟩
           ·kernel_rfl
          ·omega
         ·skip
          have hds:ii C.length ((D i:Int) - (cL C i).op.pops+(cL C i).op.puts) u j=u:=by
           unfold ii
           rw [if_neg ab,if_neg (by rw [gu ab];omega),if_neg (by rw [gu ab];omega)]
          rw [hds] at hfs
          refine am (gD rfl (ez rfl (aS rfl (ai (bg _ _ aa rfl rfl _ rfl ab (by (simp only [ba,bo,bm,bC,bw,bJ,bD,bQ,ed,ba];omega)) (by exact Nat.mul_one _)) ?_))))
          refine ai (bG _ aa rfl (by exact hnk) rfl) ?_
          refine ai (gi _ _ aa rfl rfl rfl _ rfl ab (by exact (Nat.zero_add _).trans (Nat.mul_one _))) ?_
          refine ai (lc _ aa rfl rfl (by exact dY _ _ ab) rfl) ?_
          refine aS rfl (ai (cb _ _ rfl rfl rfl) (aj (aR rfl (by rw [bne_eq_false_iff_eq];omega) ?_)))
          refine cg ?_
          refine aO (σ':=aB 123 [(2,_),(6,_),(8,_),(9,_),(10,_),(11,_),(12,_),(13,_)] [((2,0),_),((6,0),_)] [] []) kp ?_
          refine an (aS rfl (ai (be _ _ rfl rfl (br ab)) ?_))
          refine aZ rfl (az (⟨k+1,?_,?_,?_⟩))
          ·omega
          ·skip
           refine Le.mkJ [] [] rfl ?_ ?_ trivial trivial ?_
           ·exact ⟨(iP rfl),(iR rfl),(iV rfl),(iS rfl),(co ag),(co ag),(gR (by (rw [hfs]))),(gR (by (rw [hfs]))),trivial⟩
           ·exact ⟨(cI rfl rfl rfl),(fJ rfl rfl rfl (by (rw [hfs]))),trivial⟩
           ·kernel_rfl
          ·omega
       ·skip
        obtain rfl:k=L.length:=by omega
        rw [List.take_length] at hu hul
        rw [List.take_length]
        refine bK (id (hK22 _ ?_))
        clear hK22;try clear K22
        refine an (aS rfl (ai (be _ _ rfl rfl (br ab)) ?_))
        refine aZ rfl (az (⟨i+1,?_,?_,?_⟩))
        ·omega
        ·skip
         refine Le.mkJ [] [] rfl ?_ ?_ trivial trivial ?_
         ·exact ⟨(iP rfl),(iR rfl),(co ag),(gR (by (rw [hps]))),(gR (by (rw [hps]))),trivial⟩
         ·exact ⟨(cI rfl rfl rfl),(fJ rfl rfl rfl (by (rw [hps]))),trivial⟩
         ·kernel_rfl
        ·omega
     ·skip
      obtain rfl:i=C.length:=by omega
      refine bK (id (⟨(((dm C s C.length).1,(dm C s C.length).2.1),(dm C s C.length).2.2),?_,?_,?_⟩))
      ·exact ⟨hw.flag,we hf1 hf2 hpd⟩
      ·skip
       refine Le.mkJ [] [] rfl ?_ ?_ trivial trivial ?_
       ·exact ⟨(iP rfl),(iR rfl),(gR ag),(gR ag),trivial⟩
       ·exact ⟨(cI rfl rfl rfl),(fJ rfl rfl rfl ag),trivial⟩
       ·kernel_rfl
      ·rw [show Je (s,ch)=neg s.1+1 from if_pos hc39];exact CN hpd
    ·skip
     have hzR:s=R:=by
      unfold vz at hz
      rwa [if_neg (by simp [hc39])] at hz
     subst hzR
     have hsl:=hdi.len
     refine bK (id (hK14 _ ?_))
     clear hK14;try clear K14
     refine am (gD rfl (cP rfl (fb rfl (cw rfl (aj (aD ?_))))))
     rw [← hR]
     exact lN (.inr rfl) rfl (.tmp (rfl:_=AV.ref _ _ _)) (.tmp (rfl:_=AV.v (.bool _))) (Le.out [] [(6,0)] (.tup rfl (aC (yq rfl rfl (by simp only at hsl;simp [hsl]) rfl hsl.symm) lz)) rfl rfl rfl tr trivial)
theorem tB (C:List eu) (en:Nat→Int) (dd vv:Int) (h:Nat) (hh:h < 40) (hC:C.length≤1000000) (D:Nat→Nat) (nv:Nat) (hg:Good D nv 0 (C.length - 1) 0 C) (hD: ∀ i,D i≤1000000) (he:0≤en h→en h < C.length→D (en h).toNat=0):
  Spec Tryz.prog 74 (bk [.agg (yf C.length (inl C) en dd vv), .v (.int .i64 (h:Int))] []) (aW (.v (.int .i64 (jt C (ic C (en h)).1 C.length))) []):=by
 have hds:=rK C en dd vv (en h) hC D nv hg hD he
 have hdi:=oI hg he
 have hdl:=hdi.len
 have hml:=fun k (hk:k≤C.length)=> mj (C:=C) (n:=C.length) hdi (B:=1000000) (fun i _=> hD i) k hk
 generalize ic C (en h)=R at hds hdi hdl hml
 have hen:=mf C.length (inl C) en dd vv h hh
 refine Spec.ofN Tryz.func74 rfl Tryz.ntmps74 rfl ?_
 refine am (ai (bf (2,0) _ rfl rfl) (aZ rfl (aj (aq (bE 11 [11,12,13,14,15,16,10,17,18,5,6] [] ae ae rfl (aK rfl) (rfl:_=[_,_,_,_,_,_,_,_,_,_,_]) (rfl:_=[]) ?_)))))
 refine ap (_,[]) (fun τ=> aP _ aa rfl rfl rfl rfl) ?_
 refine eE rfl ?_
 refine ap (_,[]) (fun τ=> aE _ (rfl:_=AV.v (.int _ _))) ?_
 refine eF rfl ?_
 refine ap (_,[]) (fun τ=> aI _ aa rfl rfl rfl) ?_
 refine eD rfl ?_
 refine ap (_,[]) (fun τ=> eg _ _ aa rfl rfl rfl h rfl ab (by exact congrArg (fun z=> 0+1+z) (Nat.mul_one h))) ?_
 refine eI rfl ?_
 refine ap (_,[]) (fun τ=> aL _ aa rfl rfl (by exact (congrArg (fun z=> (yf C.length (inl C) en dd vv)[z]?) ab).trans hen)) ?_
 refine eU rfl ?_
 refine ap (_,[]) (fun τ=> (aM aa al (hds) rfl rfl)) ?_
 refine fh rfl ?_
 refine ap (_,[]) (fun τ=> aE _ (rfl:_=AV.tup _)) ?_
 refine fZ rfl ?_
 refine ap (_,[]) (fun τ=> dh _ rfl (rfl:_=some (AV.sl _ _))) ?_
 refine jz rfl ?_
 refine ap (_,[]) (fun τ=> dh _ rfl (rfl:_=some (AV.v (.bool _)))) ?_
 refine jC rfl ?_
 refine ap (_,[]) (fun τ=> bA _ (rfl:_=AV.sl _ _)) ?_
 refine fK rfl ?_
 refine ap (_,[]) (fun τ=> bA _ (rfl:_=AV.v (.bool _))) ?_
 refine gl rfl (bi ⟨rfl,?_⟩)
 refine aj (am (aZ rfl (aj (aG fun K4 hK4=> ?_))))
 refine am (aZ rfl (aj (au ?_)))
 refine bB (α:=Nat) (fun k=> k≤C.length) 53 [(2,_),(5,_)] [((2,0),_)] (fun k=> [(8, .v (.int .i64 (k:Int))),(7, .v (.int .i64 (jt C R.1 k)))]) (fun k=> []) [] [] (fun k=> C.length - k) 0 ?_ (by
  refine Le.mkJ [] [] rfl ?_ ?_ trivial trivial ?_
  ·exact ⟨(iP rfl),(iS rfl),(co ag),(co ag),trivial⟩
  ·exact ⟨(cI rfl rfl rfl),trivial⟩
  ·kernel_rfl) ?_
 ·omega
 intro k hk
 have hm1:=hml k hk
 have hs:=nQ C R.1 k
 simp only at hdl hm1
 refine aG fun K6 hK6=> ?_
 refine am (aS rfl (ez rfl (ai (bH _ aa rfl) (ai (bq _ _ rfl rfl rfl) (aj (aV rfl (fun hc22=> ?_) (fun hc22=> ?_)))))))
 ·skip
  have hm2:=hml (k+1) ab
  have hv:=hdi.val k ab
  simp only at hv hm2
  rw [gu ab] at hv hs
  have hDk:=hD k
  obtain ⟨q,hq⟩: ∃ q,q=cL C k:=⟨_,rfl⟩
  have hp3:q.op.pops≤3:=by generalize q.op=o;cases o <;> decide
  have hp4:q.op.puts≤1:=by generalize q.op=o;cases o <;> decide
  have hpp:=pn q.op
  have hpq:=pq q.op
  have hg0:=lD C k ab
  rw [← hq] at hg0 hs
  refine bz (hK6 _ ?_)
  clear hK6;try clear K6
  refine aq (au (am (ez rfl (aS rfl (ai (bg _ _ aa rfl rfl _ rfl ab (by (simp only [ba,bo,bm,bC,bw,bJ,bD,bQ,ed,ba];omega)) (by exact Nat.mul_one _)) ?_)))))
  refine ai (bG _ aa rfl (by exact dY _ _ ab) rfl) ?_
  refine ai (fc _ _ rfl rfl rfl) (aj (aV rfl (fun hc29=> ?_) (fun hc29=> ?_)))
  ·skip
   rw [if_pos ab] at hs
   refine am (bv rfl rfl rfl (fG rfl rfl rfl (aS rfl (ai (bg _ _ aa rfl rfl _ rfl ab (by (simp only [ba,bo,bm,bC,bw,bJ,bD,bQ,ed,ba];omega)) ag) ?_))))
   refine ai (dk _ aa rfl rfl) (ai (bG _ aa rfl (by exact hg0) rfl) ?_)
   refine aZ rfl (aj ?_)
   refine aO (σ':=aB 53 [(2,_),(5,_),(7,_),(8,_),(9,_)] [((2,0),_)] [] []) kp ?_
   refine bE 16 [36,37,38,39,40,41,42,43,44,45,46,47,48,49,50,51] [] ae ae rfl (aK rfl) (rfl:_=[_,_,_,_,_,_,_,_,_,_,_,_,_,_,_,_]) (rfl:_=[_]) ?_
   refine ap (_,[]) (fun τ=> aE _ (rfl:_=AV.v (.int _ _))) ?_
   refine eE rfl ?_
   refine ap (_,[]) (fun τ=> aE _ (rfl:_=AV.sl _ _)) ?_
   refine eF rfl ?_
   refine ap (_,[]) (fun τ=> aE _ (rfl:_=AV.v (.int _ _))) ?_
   refine eD rfl ?_
   refine ap (_,[]) (fun τ=> bg _ _ aa rfl rfl _ rfl ab (by (simp only [ba,bo,bm,bC,bw,bJ,bD,bQ,ed,ba];omega)) (by exact Nat.mul_one _)) ?_
   refine eI rfl ?_
   refine ap (_,[]) (fun τ=> bG _ aa rfl (by exact dY _ _ ab) rfl) ?_
   refine eU rfl ?_
   refine ap (_,[]) (fun τ=> aE _ (rfl:_=AV.sl _ _)) ?_
   refine fh rfl ?_
   refine ap (_,[]) (fun τ=> aE _ (rfl:_=AV.v (.int _ _))) ?_
   refine fZ rfl ?_
   refine ap (_,[]) (fun τ=> bg _ _ aa rfl rfl _ rfl ab (by (simp only [ba,bo,bm,bC,bw,bJ,bD,bQ,ed,ba];omega)) (by exact Nat.mul_one _)) ?_
   refine jz rfl ?_
   refine ap (_,[]) (fun τ=> bG _ aa rfl (by exact dY _ _ ab) rfl) ?_
   refine jC rfl ?_
   refine ap (_,[]) (fun τ=> aE _ (rfl:_=AV.v (.int _ _))) ?_
   refine fK rfl ?_
   refine ap (_,[]) (fun τ=> (aM aa al (hpp) rfl rfl)) ?_
   refine gl rfl ?_
   refine ap (_,[]) (fun τ=> ce _ _ rfl rfl (br ab)) ?_
   refine kP rfl ?_
   refine ap (_,[]) (fun τ=> aE _ (rfl:_=AV.v (.int _ _))) ?_
   refine lQ rfl ?_
   refine ap (_,[]) (fun τ=> (aM aa al (hpq) rfl rfl)) ?_
   refine oX rfl ?_
   refine ap (_,[]) (fun τ=> be _ _ rfl rfl (br ab)) ?_
   refine vS rfl ?_
   refine ap (_,[]) (fun τ=> zy _ _ _ rfl rfl rfl (by exact hs.symm)) ?_
   refine uM rfl (bi ⟨rfl,?_⟩)
   refine aZ rfl (fP ?_)
   refine aO (σ':=aB 53 [(2,_),(5,_),(7,_),(8,_)] [((2,0),_)] [] []) kp ?_
   refine an (aS rfl (ai (be _ _ rfl rfl (br ab)) ?_))
   refine aZ rfl (az (⟨k+1,?_,?_,?_⟩))
   ·omega
   ·skip
    refine Le.mkJ [] [] rfl ?_ ?_ trivial trivial ?_
    ·exact ⟨(iP rfl),(iS rfl),(co ag),(co ag),trivial⟩
    ·exact ⟨(cI rfl rfl rfl),trivial⟩
    ·kernel_rfl
   ·omega
  ·skip
   rw [if_neg ab] at hs
   refine cg (an (aS rfl (ai (be _ _ rfl rfl (br ab)) ?_)))
   refine aZ rfl (az (⟨k+1,?_,?_,?_⟩))
   ·omega
   ·skip
    refine Le.mkJ [] [] rfl ?_ ?_ trivial trivial ?_
    ·exact ⟨(iP rfl),(iS rfl),(co ag),(co ab),trivial⟩
    ·exact ⟨(cI rfl rfl rfl),trivial⟩
    ·kernel_rfl
   ·omega
 ·skip
  obtain rfl:k=C.length:=by omega
  refine bK (id (hK4 _ ?_))
  clear hK4;try clear K4
  exact am (aS rfl (aZ rfl (aj (aD (aY (.inr rfl) rfl (.tmp (rfl:_=AV.v _)) (Le.out [] [] .v rfl rfl rfl trivial trivial))))))

theorem dP: ∀ (e:Ex) (d x:Nat),x∈du e d→x≤d+(du e d).length
 | .int _,d,x,h=> by simp [du] at h ⊢;omega
 | .bool _,d,x,h=> by simp [du] at h ⊢;omega
 | .var _,d,x,h=> by simp [du] at h ⊢;omega
 | .name _,d,x,h=> by simp [du] at h ⊢;omega
 | .draw e,d,x,h=> by
  have:=dP e d x
  simp only [du,List.mem_append,List.length_append,List.length_cons,List.length_nil,List.mem_singleton] at h ⊢
  rcases h with h | h
  ·have:=this h;omega
  ·omega
 | .neg e,d,x,h=> by
  have:=dP e d x
  simp only [du,List.mem_append,List.length_append,List.length_cons,List.length_nil,List.mem_singleton] at h ⊢
  rcases h with h | h
  ·have:=this h;omega
  ·omega
 | .not e,d,x,h=> by
  have:=dP e d x
  simp only [du,List.mem_append,List.length_append,List.length_cons,List.length_nil,List.mem_singleton] at h ⊢
  rcases h with h | h
  ·have:=this h;omega
  ·omega
 | .bin o a b,d,x,h=> by
  have h1:=dP a d x
  have h2:=dP b (d+1) x
  have h3:1≤(du b (d+1)).length:=by obtain ⟨l,hl⟩:=ee b (d+1);rw [hl];simp
  have h4:1≤(du a d).length:=by obtain ⟨l,hl⟩:=ee a d;rw [hl];simp
  simp only [du,List.mem_append,List.length_append] at h ⊢
  rcases h with (h | h) | h
  ·have:=h1 h;omega
  ·have:=h2 h;omega
  ·have:x≤d+2:=by cases o <;> simp at h <;> omega
   omega
 | .and a b,d,x,h=> by
  have h1:=dP a d x
  have h2:=dP b d x
  simp only [du,List.mem_append,List.length_append,List.length_cons,List.length_nil,List.mem_singleton] at h ⊢
  rcases h with (((h | h) | h) | h) | h
  ·have:=h1 h;omega
  ·omega
  ·have:=h2 h;omega
  ·omega
  ·omega
 | .or a b,d,x,h=> by
  have h1:=dP a d x
  have h2:=dP b d x
  simp only [du,List.mem_append,List.length_append,List.length_cons,List.length_nil,List.mem_singleton] at h ⊢
  rcases h with (((h | h) | h) | h) | h
  ·have:=h1 h;omega
  ·omega
  ·omega
  ·omega
  ·have:=h2 h;omega
theorem kd (e:Ex) (d:Nat):1≤(du e d).length:=by obtain ⟨l,hl⟩:=ee e d;rw [hl];simp
mutual
theorem zZ: ∀ (s:Sm) (x:Nat),x∈dS s→x≤(dS s).length
 | .assign _ e,x,h=> by
  have:=dP e 0 x
  simp only [dS,List.mem_append,List.length_append,List.length_cons,List.length_nil,List.mem_singleton] at h ⊢
  rcases h with h | h
  ·have:=this h;omega
  ·omega
 | .send t _ a b,x,h=> by
  have h1:=dP t 0 x
  have h2:=dP a 1 x
  have h3:=dP b 2 x
  have k1:=kd t 0
  have k2:=kd a 1
  have k3:=kd b 2
  simp only [dS,List.mem_append,List.length_append,List.length_cons,List.length_nil,List.mem_singleton] at h ⊢
  rcases h with ((h | h) | h) | h
  ·have:=h1 h;omega
  ·have:=h2 h;omega
  ·have:=h3 h;omega
  ·omega
 | .timer _,x,h=> by simp [dS] at h ⊢;omega
 | .cancel _,x,h=> by simp [dS] at h ⊢;omega
 | .sync,x,h=> by simp [dS] at h ⊢;omega
 | .stop,x,h=> by simp [dS] at h ⊢;omega
 | .reply a b,x,h=> by
  have h2:=dP a 0 x
  have h3:=dP b 1 x
  have k2:=kd a 0
  have k3:=kd b 1
  simp only [dS,List.mem_append,List.length_append,List.length_cons,List.length_nil,List.mem_singleton] at h ⊢
  rcases h with (h | h) | h
  ·have:=h2 h;omega
  ·have:=h3 h;omega
  ·omega
 | .fail e,x,h=> by
  have:=dP e 0 x
  simp only [dS,List.mem_append,List.length_append,List.length_cons,List.length_nil,List.mem_singleton] at h ⊢
  rcases h with h | h
  ·have:=this h;omega
  ·omega
 | .loop c b,x,h=> by
  have h1:=dP c 0 x
  have h2:=lu b x
  simp only [dS,List.mem_append,List.length_append,List.length_cons,List.length_nil,List.mem_singleton] at h ⊢
  rcases h with ((h | h) | h) | h
  ·have:=h1 h;omega
  ·omega
  ·have:=h2 h;omega
  ·omega
 | .ite c a b,x,h=> by
  have h1:=dP c 0 x
  have h2:=lu a x
  have h3:=lu b x
  simp only [dS,List.mem_append,List.length_append,List.length_cons,List.length_nil,List.mem_singleton] at h ⊢
  rcases h with (((h | h) | h) | h) | h
  ·have:=h1 h;omega
  ·omega
  ·have:=h2 h;omega
  ·omega
  ·have:=h3 h;omega
theorem lu: ∀ (b:Bk) (x:Nat),x∈kA b→x≤(kA b).length
 | .nil,x,h=> by simp [kA] at h
 | .cons s b,x,h=> by
  have h1:=zZ s x
  have h2:=lu b x
  simp only [kA,List.mem_append,List.length_append] at h ⊢
  rcases h with h | h
  ·have:=h1 h;omega
  ·have:=h2 h;omega
end
theorem tQ: ∀ (l:List (Nat×Bk)) (x:Nat),x∈kz l→x≤(kz l).length
 | [],x,h=> by simp [kz] at h
 | (k,b)::l,x,h=> by
  have h1:=lu b x
  have h2:=tQ l x
  simp only [kz,List.mem_append,List.length_append,List.length_cons,List.length_nil,List.mem_singleton] at h ⊢
  rcases h with (h | h) | h
  ·have:=h1 h;omega
  ·omega
  ·have:=h2 h;omega
theorem xl (l:List (Nat×Bk)) (i:Nat):qH l i≤(bU l 0).length:=by
 unfold qH
 rw [List.getD_eq_getElem?_getD]
 by_cases h:i < (kz l).length
 ·rw [List.getElem?_eq_getElem h,← ow l 0];exact tQ l _ (List.getElem_mem h)
 ·rw [List.getElem?_eq_none ab];exact Nat.zero_le _

theorem mD: ∀ (l m:List (Nat×Bk)) (a:Nat),bU (l++m) a=bU l a++bU m (a+(bU l a).length)
 | [],m,a=> by simp [bU]
 | (h,b)::l,m,a=> by
  simp only [List.cons_append,bU,mD l m,List.append_assoc,List.length_append,List.length_cons,List.length_nil,Nat.add_assoc,Nat.zero_add,List.nil_append,Nat.add_comm 1 (List.length _)]
theorem sa: ∀ (l m:List (Nat×Bk)) (a:Nat),ix (l++m) a=ix l a++ix m (a+(bU l a).length)
 | [],m,a=> by simp [bU,ix]
 | (h,b)::l,m,a=> by
  simp only [List.cons_append,bU,ix,sa l m,List.append_assoc,List.length_append,List.length_cons,List.length_nil,Nat.add_assoc,Nat.zero_add,Nat.add_comm 1 (List.length _)]
def bZ (l:List (Nat×Bk)) (k:Nat):Int:=(lX (ix l 0)).getD k (-1)
theorem vm (l:List (Nat×Bk)) (p:Nat×Bk) (hp:p.1 < 40):bZ (l++[p])=oS (bZ l) p.1 (bU l 0).length:=by
 funext k
 have e:lX (ix (l++[p]) 0)=(lX (ix l 0)).set p.1 ((bU l 0).length:Int):=by
  rw [sa]
  obtain ⟨h,b⟩:=p
  simp only [ix,lX,List.foldl_append,List.foldl_cons,List.foldl_nil,Nat.zero_add]
 unfold bZ oS
 rw [e,iz]
 by_cases hk:k=p.1
 ·rw [if_pos ⟨hk,by rw [za];exact hp⟩,if_pos hk]
 ·rw [if_neg (fun h=> hk h.1),if_neg hk]
theorem tf (l:List (Nat×Bk)) (p:Nat×Bk):bU (l++[p]) 0=bU l 0++cZ p.2 (bU l 0).length++[{ op:= .stop }]:=by
 rw [mD]
 obtain ⟨h,b⟩:=p
 simp [bU]
def dQ (h k:Nat):Int:=if k < h∨40≤k then -1 else 0
theorem yQ (h:Nat) (hh:h < 40):oS (dQ h) h (-1)=dQ (h+1):=by
 funext k
 unfold oS dQ
 by_cases h1:k=h
 ·rw [if_pos h1,if_pos ab]
 ·rw [if_neg h1]
  by_cases h2:k < h∨40≤k
  ·rw [if_pos h2,if_pos ab]
  ·rw [if_neg h2,if_neg ab]
theorem yx:dQ 40=bZ []:=by
 funext k
 have e:bZ [] k=(List.replicate 40 (-1:Int)).getD k (-1):=rfl
 rw [e,dQ,if_pos ab,List.getD_eq_getElem?_getD,List.getElem?_replicate]
 by_cases hk:k < 40
 ·rw [if_pos hk];rfl
 ·rw [if_neg hk];rfl
theorem yy (ons:List (Nat×Bk)) (j:Nat) (h:j < ons.length):ons.take (j+1)=ons.take j++[ons[j]]:=List.take_succ_eq_append_getElem h
theorem ox (ons:List (Nat×Bk)) (j:Nat):(bU (ons.take j) 0).length≤(bU ons 0).length:=by
 conv=> rhs;rw [← List.take_append_drop j ons,mD]
 rw [List.length_append];omega
theorem vC {n:Nat} (h:n < 40):gT (n:Int) 40=n:=by unfold gT;rw [if_neg ab];omega
structure UOk (d v:List Tx) (ons:List (Nat×Bk)):Prop where
 nd:(d++v).Nodup
 len:(d++v).length≤16
 ok: ∀ p∈ons,ig (d++v).length p.2
 pp: ∀ p∈ons,mZ p.2=true
 h: ∀ p∈ons,p.1 < 40
 c:(bU ons 0).length≤1000000
 n:ons.length≤1000
theorem UOk.good {d v:List Tx} {ons:List (Nat×Bk)} (U:UOk d v ons):Good (qH ons) (d++v).length 0 ((bU ons 0).length - 1) 0 (bU ons 0):=
 tZ (qH ons) (d++v).length ons 0 0 ((bU ons 0).length - 1) U.ok (nh ons) (Nat.le_refl _) ab
theorem UOk.ent {d v:List Tx} {ons:List (Nat×Bk)} (U:UOk d v ons) (k:Nat):0≤bZ ons k→bZ ons k < (bU ons 0).length→qH ons (bZ ons k).toNat=0:=fun h0 h1=> by
 rcases sE ons k with h | ⟨e,_,h,_,h2⟩
 ·unfold bZ at h0;omega
 ·unfold bZ;rw [h,Int.toNat_natCast];exact h2
abbrev ST (d v:List Tx) (ons:List (Nat×Bk)):AV:= .agg (yf (bU ons 0).length (inl (bU ons 0)) (bZ ons) (d.length:Int) (v.length:Int))
abbrev zA:AV:= .agg (DJ (.v (.slice none 0 0)) (fun _=> 0) 0 0)
def DR (ons:List (Nat×Bk)):Int:=if 400 < (bU ons 0).length then 2 else 13
abbrev wy (d v:List Tx) (ons:List (Nat×Bk)):AV:=if gU ons=true then .tup [ST d v ons, .v (.int .i64 0)] else .tup [zA, .v (.int .i64 (DR ons))]
abbrev nc (d v:List Tx) (ons:List (Nat×Bk)):List Hd:=ons.map fun p=> (p.1,jB (d++v) p.2)
theorem jl (d v:List Tx) (ons:List (Nat×Bk)) (U:UOk d v ons):
  Spec Tryz.prog 57 (bk [Ed d v (nc d v ons)] []) (aW (wy d v ons) []):=by
 obtain ⟨H,hH⟩: ∃ H,H=nc d v ons:=⟨_,rfl⟩
 have hHl:H.length=ons.length:=by rw [hH,List.length_map]
 have hHk: ∀ k (h:k < ons.length),mt H k=((ons[k]).1,jB (d++v) (ons[k]).2):=fun k h=> by rw [hH];exact yG ons _ k h
 rw [← hH]
 clear hH
 have hUn:=U.n
 have hUc:=U.c
 have hUl:=U.len
 have hdl:d.length≤16∧v.length≤16:=by rw [List.length_append] at hUl;omega
 refine Spec.ofN Tryz.func57 rfl Tryz.ntmps57 rfl ?_
 refine am (ai (bf (1,0) _ rfl rfl) (ai (ax (2,0) aa rfl rfl) (aZ rfl (aj (am (bv rfl rfl rfl (fG rfl rfl rfl (ai (bH _ aa rfl) (bv rfl rfl rfl (fG rfl rfl rfl ?_))))))))))
 refine ai (bH _ aa rfl) (ai (ay _ aa rfl (by exact (rfl:_=some [_,_,_,_,_,_,_,_,_,_,_,_,_,_,_,_,_,_,_,_,_,_,_,_,_,_,_,_,_,_,_,_,_,_,_,_,_,_,_,_,_,_,_]))) ?_)
 refine ai (ax (4,0) aa rfl rfl) (bL rfl rfl rfl rfl rfl rfl (aj (aG fun K3 hK3=> ?_)))
 refine am (aZ rfl (aj (au ?_)))
 refine aO (Le.nilB (4,0) 0 (60,0) 48 2 rfl rfl rfl) ?_
 refine bB (α:=Nat) (fun q=> q≤40) 79 [(1,_),(2,_),(4,_)] [((1,0),_),((2,0),_),((60,0),_)] (fun q=> [(5, .v (.int .i64 (q:Int)))]) (fun q=> [((4,0), .box 26 [.ref (60,0) 0 0, .v (.int .i64 (dQ q 0)), .v (.int .i64 (dQ q 1)), .v (.int .i64 (dQ q 2)), .v (.int .i64 (dQ q 3)), .v (.int .i64 (dQ q 4)), .v (.int .i64 (dQ q 5)), .v (.int .i64 (dQ q 6)), .v (.int .i64 (dQ q 7)), .v (.int .i64 (dQ q 8)), .v (.int .i64 (dQ q 9)), .v (.int .i64 (dQ q 10)), .v (.int .i64 (dQ q 11)), .v (.int .i64 (dQ q 12)), .v (.int .i64 (dQ q 13)), .v (.int .i64 (dQ q 14)), .v (.int .i64 (dQ q 15)), .v (.int .i64 (dQ q 16)), .v (.int .i64 (dQ q 17)), .v (.int .i64 (dQ q 18)), .v (.int .i64 (dQ q 19)), .v (.int .i64 (dQ q 20)), .v (.int .i64 (dQ q 21)), .v (.int .i64 (dQ q 22)), .v (.int .i64 (dQ q 23)), .v (.int .i64 (dQ q 24)), .v (.int .i64 (dQ q 25)), .v (.int .i64 (dQ q 26)), .v (.int .i64 (dQ q 27)), .v (.int .i64 (dQ q 28)), .v (.int .i64 (dQ q 29)), .v (.int .i64 (dQ q 30)), .v (.int .i64 (dQ q 31)), .v (.int .i64 (dQ q 32)), .v (.int .i64 (dQ q 33)), .v (.int .i64 (dQ q 34)), .v (.int .i64 (dQ q 35)), .v (.int .i64 (dQ q 36)), .v (.int .i64 (dQ q 37)), .v (.int .i64 (dQ q 38)), .v (.int .i64 (dQ q 39)), .v (.int .i64 (d.length:Int)), .v (.int .i64 (v.length:Int))])]) [] [] (fun q=> 40 - q) 0 ?_ (by
  refine Le.mkJ [] [] rfl ?_ ?_ trivial trivial ?_
  ·exact ⟨(iP rfl),(iP rfl),(iP rfl),(co ag),trivial⟩
  ·exact ⟨(cI rfl rfl rfl),(cI rfl rfl rfl),(cI rfl rfl rfl),(fg rfl rfl rfl rfl lz),trivial⟩
  ·kernel_rfl) ?_
 ·omega
 intro q hq
 refine aG fun K5 hK5=> ?_
 refine am (aS rfl (ai (bq _ _ rfl rfl rfl) (aj (aV rfl (fun hc17=> ?_) (fun hc17=> ?_)))))
 ·skip
  refine bz (hK5 _ ?_)
  clear hK5;try clear K5
  refine aq (au (an (aS rfl (bv rfl rfl rfl (ai (eg _ _ aa rfl rfl rfl q rfl ab (by exact congrArg (fun z=> 0+1+z) (Nat.mul_one q))) ?_)))))
  refine ai (ip _ _ aa rfl rfl rfl rfl (show 0+1+q+1≤43 by omega) ((congrArg (fun z=> ft (DJ (.ref (60,0) 0 0) (dQ q) (d.length:Int) (v.length:Int)) z [.v (.int .i64 (-1))]) ab).trans ((qy _ _ _ _ q ab _).trans (by rw [yQ _ ab])))) ?_
  refine fP (an (aS rfl (ai (be _ _ rfl rfl (br ab)) ?_)))
  refine aZ rfl (az (⟨q+1,?_,?_,?_⟩))
  ·omega
  ·skip
   refine Le.mkJ [] [] rfl ?_ ?_ trivial trivial ?_
   ·exact ⟨(iP rfl),(iP rfl),(iP rfl),(co ag),trivial⟩
   ·exact ⟨(cI rfl rfl rfl),(cI rfl rfl rfl),(cI rfl rfl rfl),(fg rfl rfl rfl rfl lz),trivial⟩
   ·kernel_rfl
  ·omega
 ·skip
  obtain rfl:q=40:=by omega
  rw [yx]
  refine bK (id (hK3 _ ?_))
  clear hK3;try clear K3
  refine aG fun K8 hK8=> ?_
  refine am (aZ rfl (aj (au ?_)))
  refine bB (α:=Nat) (fun j=> j≤H.length) 79 [(1,_),(2,_),(4,_)] [((1,0),_),((2,0),_)] (fun j=> [(6, .v (.int .i64 (j:Int)))]) (fun j=> [((60,0), .row 48 2 (inl (bU (ons.take j) 0))),((4,0), .box 26 [.ref (60,0) 0 (bU (ons.take j) 0).length, .v (.int .i64 (bZ (ons.take j) 0)), .v (.int .i64 (bZ (ons.take j) 1)), .v (.int .i64 (bZ (ons.take j) 2)), .v (.int .i64 (bZ (ons.take j) 3)), .v (.int .i64 (bZ (ons.take j) 4)), .v (.int .i64 (bZ (ons.take j) 5)), .v (.int .i64 (bZ (ons.take j) 6)), .v (.int .i64 (bZ (ons.take j) 7)), .v (.int .i64 (bZ (ons.take j) 8)), .v (.int .i64 (bZ (ons.take j) 9)), .v (.int .i64 (bZ (ons.take j) 10)), .v (.int .i64 (bZ (ons.take j) 11)), .v (.int .i64 (bZ (ons.take j) 12)), .v (.int .i64 (bZ (ons.take j) 13)), .v (.int .i64 (bZ (ons.take j) 14)), .v (.int .i64 (bZ (ons.take j) 15)), .v (.int .i64 (bZ (ons.take j) 16)), .v (.int .i64 (bZ (ons.take j) 17)), .v (.int .i64 (bZ (ons.take j) 18)), .v (.int .i64 (bZ (ons.take j) 19)), .v (.int .i64 (bZ (ons.take j) 20)), .v (.int .i64 (bZ (ons.take j) 21)), .v (.int .i64 (bZ (ons.take j) 22)), .v (.int .i64 (bZ (ons.take j) 23)), .v (.int .i64 (bZ (ons.take j) 24)), .v (.int .i64 (bZ (ons.take j) 25)), .v (.int .i64 (bZ (ons.take j) 26)), .v (.int .i64 (bZ (ons.take j) 27)), .v (.int .i64 (bZ (ons.take j) 28)), .v (.int .i64 (bZ (ons.take j) 29)), .v (.int .i64 (bZ (ons.take j) 30)), .v (.int .i64 (bZ (ons.take j) 31)), .v (.int .i64 (bZ (ons.take j) 32)), .v (.int .i64 (bZ (ons.take j) 33)), .v (.int .i64 (bZ (ons.take j) 34)), .v (.int .i64 (bZ (ons.take j) 35)), .v (.int .i64 (bZ (ons.take j) 36)), .v (.int .i64 (bZ (ons.take j) 37)), .v (.int .i64 (bZ (ons.take j) 38)), .v (.int .i64 (bZ (ons.take j) 39)), .v (.int .i64 (d.length:Int)), .v (.int .i64 (v.length:Int))])]) [] [] (fun j=> H.length - j) 0 ?_ (by
   refine Le.mkJ [] [] rfl ?_ ?_ trivial trivial ?_
   ·exact ⟨(iP rfl),(iP rfl),(iP rfl),(co ag),trivial⟩
   ·exact ⟨(cI rfl rfl rfl),(cI rfl rfl rfl),(fJ rfl rfl rfl ag),(fg rfl rfl rfl rfl lz),trivial⟩
   ·kernel_rfl) ?_
  ·omega
  intro j hj
  have hct:=ox ons j
  refine aG fun K10 hK10=> ?_
  refine am (aS rfl (bv rfl rfl rfl (fG rfl rfl rfl (ai (bH _ aa rfl) (ai (bq _ _ rfl rfl rfl) (aj (aV rfl (fun hc27=> ?_) (fun hc27=> ?_))))))))
  ·skip
   have hj:j < ons.length:=by omega
   have hct1:=ox ons (j+1)
   have hUh:=U.h _ (List.getElem_mem hj)
   have hUo:=U.ok _ (List.getElem_mem hj)
   have hUp:=U.pp _ (List.getElem_mem hj)
   have hbody:=qZ H j ab
   have hg0:=iC H j ab
   rw [hHk j hj] at hbody hg0
   have hsn:=tf (ons.take j) (ons[j])
   have hen:=vm (ons.take j) (ons[j]) hUh
   rw [← yy ons j hj] at hsn hen
   have hsl:=congrArg List.length hsn
   simp only [List.length_append,List.length_cons,List.length_nil] at hsl
   have hcb:=Bq (d:=d) (v:=v) (no:=H.length) (on:=lk H) U.nd ab (ons[j]).2 hUo hUp (bU (ons.take j) 0).length ab
   generalize cZ (ons[j]).2 (bU (ons.take j) 0).length=C at hsn hsl hcb
   generalize (ons[j]).2=bd at hbody hcb
   generalize (ons[j]).1=h at hbody hg0 hen hUh
   have har:=jG (h:Int) 40 ab ab ab ab
   rw [vC hUh] at har
   refine bz (hK10 _ ?_)
   clear hK10;try clear K10
   refine aq (au (am (bv rfl rfl rfl (fG rfl rfl rfl (aS rfl (ai (bg _ _ aa rfl rfl _ rfl ab (by (simp only [ba,bo,bm,bC,bw,bJ,bD,bQ,ed,ba,List.length_map];omega)) ag) ?_))))))
   refine ai (dk _ aa rfl rfl) (ai (bG _ aa rfl (by exact hg0) rfl) ?_)
   refine ai (aM aa al (har) rfl rfl) ?_
   refine aZ rfl (aj (am (aS rfl (bv rfl rfl rfl (ai (aL _ aa rfl rfl (rfl:_=some (AV.ref _ _ _))) (ai (dv _ aa rfl rfl) (bv rfl rfl rfl (ai (eg _ _ aa rfl rfl rfl h rfl ab (by exact congrArg (fun z=> 0+1+z) (Nat.mul_one h))) ?_))))))))
   refine ai (ip _ _ aa rfl rfl rfl rfl (show 0+1+h+1≤43 by omega) ((congrArg (fun z=> ft (DJ (.ref (60,0) 0 (bU (ons.take j) 0).length) (bZ (ons.take j)) (d.length:Int) (v.length:Int)) z [.v (.int .i64 ((bU (ons.take j) 0).length:Int))]) ab).trans ((qy _ _ _ _ h ab _).trans (by rw [← hen])))) ?_
   refine aj (aq ?_)
   refine aO (σ':=aB 79 [(1,_),(2,_),(4,_),(6,_)] [((1,0),_),((2,0),_),((60,0),_),((4,0),_)] [] []) kp ?_
   refine bE 13 [43,44,45,46,47,48,49,50,51,52,53,54,55] [(50,0)] ae ae rfl (aK rfl) (rfl:_=[_,_,_,_,_,_,_,_,_,_,_,_,_]) (rfl:_=[_,_,_]) ?_
   refine ap (_,[]) (fun τ=> aI _ aa rfl rfl rfl) ?_
   refine eE rfl ?_
   refine ap (_,[]) (fun τ=> aL _ aa rfl rfl (rfl:_=some (AV.ref _ _ _))) ?_
   refine eF rfl ?_
   refine ap (_,[]) (fun τ=> aP _ aa rfl rfl rfl rfl) ?_
   refine eD rfl ?_
   refine ap (_,[]) (fun τ=> aI _ aa rfl rfl rfl) ?_
   refine eI rfl ?_
   refine ap (_,[]) (fun τ=> aL _ aa rfl rfl (rfl:_=some (AV.sl _ _))) ?_
   refine eU rfl ?_
   refine ap (_,[]) (fun τ=> aE _ (rfl:_=AV.v (.int _ _))) ?_
   refine fh rfl ?_
   refine ap (_,[]) (fun τ=> bg _ _ aa rfl rfl _ rfl ab (by (simp only [ba,bo,bm,bC,bw,bJ,bD,bQ,ed,ba,List.length_map];omega)) ag) ?_
   refine fZ rfl ?_
   refine ap (_,[]) (fun τ=> dk _ aa rfl rfl) ?_
   refine jz rfl ?_
   refine ap (_,[]) (fun τ=> cj _ aa rfl (by exact hbody) rfl) ?_
   refine jC rfl ?_
   refine ap (_,[]) (fun τ=> aI _ aa rfl rfl rfl) ?_
   refine fK rfl ?_
   refine ap (_,[]) (fun τ=> aL _ aa rfl rfl (rfl:_=some (AV.ref _ _ _))) ?_
   refine gl rfl ?_
   refine ap (_,[]) (fun τ=> dv _ aa rfl rfl) ?_
   refine kP rfl ?_
   refine ap (_,[((50,0),_)]) (fun τ=> (cQ aa [((0,8),(50,0))] ar (hcb.toI) trivial tr tr rfl rfl ae ae)) ?_
   refine lQ rfl (bi ⟨rfl,?_⟩)
   refine ai (dt (56,0) _ _ aa rfl rfl (bQ _).symm (.ref rfl (mc _) (ka _)) ab rfl (ko _ _) (show (bU (ons.take j) 0).length+C.length=(bU (ons.take j) 0++C).length by simp)) ?_
   refine bv rfl rfl rfl (bL rfl rfl rfl rfl rfl rfl (aj ?_))
   refine aO (σ':=aB 79 [(1,_),(2,_),(4,_),(6,_)] [((1,0),_),((2,0),_),((4,0),_),((56,0),_)] [] []) kp ?_
   refine an (bv rfl rfl rfl (ai (aL _ aa rfl rfl (rfl:_=some (AV.ref _ _ _))) (ai (ay _ aa rfl (by exact (rfl:_=some [_,_]))) ?_)))
   refine ai (aX _ _ aa rfl ag (by (simp <;> rfl)) ah rfl) ?_
   refine ai (dt (62,0) _ _ aa rfl rfl (bQ _).symm (.sl rfl) (by simp;omega) rfl ((ev _ { op:= .stop }).trans (congrArg inl hsn.symm)) (show (bU (ons.take j) 0++C).length+1=(bU (ons.take (j+1)) 0).length by simp [hsl])) ?_
   refine bv rfl rfl rfl (bL rfl rfl rfl rfl rfl rfl (fP (an (aS rfl (ai (be _ _ rfl rfl (br ab)) ?_)))))
   refine aZ rfl (az (⟨j+1,?_,?_,?_⟩))
   ·omega
   ·skip
    refine Le.mkJ [((60,0),(62,0))] [] rfl ?_ ?_ trivial trivial ?_
    ·exact ⟨(dD (id:=(1,0)) rfl),(dD (id:=(2,0)) rfl),(dD (id:=(4,0)) rfl),(co ag),trivial⟩
    ·exact ⟨(fg rfl rfl rfl rfl (by repeat' (first | exact Lv.sl | exact bn | refine aC ?_ ?_))),(fg rfl rfl rfl rfl (by repeat' (first | exact Lv.v | exact bn | refine aC ?_ ?_))),(fJ rfl rfl rfl ag),(fg rfl rfl rfl rfl lz),trivial⟩
    ·kernel_rfl
   ·omega
  ·skip
   obtain rfl:j=ons.length:=by omega
   rw [List.take_length]
   refine bK (id (hK8 _ ?_))
   clear hK8;try clear K8
   refine aq (am (bv rfl rfl rfl (ai (aL _ aa rfl rfl (rfl:_=some (AV.ref _ _ _))) (ai (dv _ aa rfl rfl) (ai (dB _ _ rfl rfl rfl) (aj (aV rfl (fun hc67=> ?_) (fun hc67=> ?_))))))))
   ·skip
    have hco:gU ons≠true:=by
     unfold gU
     rw [decide_eq_false ab,Bool.false_and]
     exact Bool.false_ne_true
    rw [wy,if_neg hco,DR,if_pos ab]
    refine am (ai (ay _ aa rfl (by exact (rfl:_=some [_,_,_,_,_,_,_,_,_,_,_,_,_,_,_,_,_,_,_,_,_,_,_,_,_,_,_,_,_,_,_,_,_,_,_,_,_,_,_,_,_,_,_]))) ?_)
    exact bL rfl rfl rfl rfl rfl rfl (aZ rfl (aj (aD (lN (.inr rfl) rfl (.cellA aa rfl rfl rfl) (.tmp (rfl:_=AV.v _)) (Le.out [] [] (.tup rfl lz) rfl rfl rfl trivial trivial)))))
   ·skip
    have hl4:(bU ons 0).length≤400:=by omega
    refine aJ (aG fun K19 hK19=> ?_)
    refine am (aZ rfl (aj (au ?_)))
    refine aO (Le.frzB (4,0) 0 rfl rfl rfl rfl (ys:=inl (bU ons 0)) (by rw [List.drop_zero];exact List.take_of_length_le (by rw [bQ];omega)) (by rw [bQ];omega)) ?_
    refine bB (α:=Nat) (fun h=> h≤40∧ ∀ k,k < h→jt (bU ons 0) (ic (bU ons 0) (bZ ons k)).1 (bU ons 0).length≤16) 79 [(2,_),(4,_)] [((2,0),_)] (fun h=> [(8, .v (.int .i64 (h:Int)))]) (fun h=> [((4,0), .box 26 [.sl (bU ons 0).length (inl (bU ons 0)), .v (.int .i64 (bZ ons 0)), .v (.int .i64 (bZ ons 1)), .v (.int .i64 (bZ ons 2)), .v (.int .i64 (bZ ons 3)), .v (.int .i64 (bZ ons 4)), .v (.int .i64 (bZ ons 5)), .v (.int .i64 (bZ ons 6)), .v (.int .i64 (bZ ons 7)), .v (.int .i64 (bZ ons 8)), .v (.int .i64 (bZ ons 9)), .v (.int .i64 (bZ ons 10)), .v (.int .i64 (bZ ons 11)), .v (.int .i64 (bZ ons 12)), .v (.int .i64 (bZ ons 13)), .v (.int .i64 (bZ ons 14)), .v (.int .i64 (bZ ons 15)), .v (.int .i64 (bZ ons 16)), .v (.int .i64 (bZ ons 17)), .v (.int .i64 (bZ ons 18)), .v (.int .i64 (bZ ons 19)), .v (.int .i64 (bZ ons 20)), .v (.int .i64 (bZ ons 21)), .v (.int .i64 (bZ ons 22)), .v (.int .i64 (bZ ons 23)), .v (.int .i64 (bZ ons 24)), .v (.int .i64 (bZ ons 25)), .v (.int .i64 (bZ ons 26)), .v (.int .i64 (bZ ons 27)), .v (.int .i64 (bZ ons 28)), .v (.int .i64 (bZ ons 29)), .v (.int .i64 (bZ ons 30)), .v (.int .i64 (bZ ons 31)), .v (.int .i64 (bZ ons 32)), .v (.int .i64 (bZ ons 33)), .v (.int .i64 (bZ ons 34)), .v (.int .i64 (bZ ons 35)), .v (.int .i64 (bZ ons 36)), .v (.int .i64 (bZ ons 37)), .v (.int .i64 (bZ ons 38)), .v (.int .i64 (bZ ons 39)), .v (.int .i64 (d.length:Int)), .v (.int .i64 (v.length:Int))])]) [] [] (fun h=> 40 - h) 0 ?_ (by
     refine Le.mkJ [] [] rfl ?_ ?_ trivial trivial ?_
     ·exact ⟨(iP rfl),(iP rfl),(co ag),trivial⟩
     ·exact ⟨(cI rfl rfl rfl),(fg rfl rfl rfl rfl lz),trivial⟩
     ·kernel_rfl) ?_
    ·exact ⟨Nat.zero_le _,fun k hk=> absurd hk (Nat.not_lt_zero _)⟩
    intro h hh
    obtain ⟨hk,hks⟩:=hh
    refine aG fun K21 hK21=> ?_
    refine am (aS rfl (ai (bq _ _ rfl rfl rfl) (aj (aV rfl (fun hc70=> ?_) (fun hc70=> ?_)))))
    ·skip
     have hh4:h < 40:=by omega
     have hdm:=mj (C:=bU ons 0) (oI U.good (U.ent h)) (B:=1000000) (fun i _=> Nat.le_trans (xl ons i) hUc) _ (Nat.le_refl _)
     have hde:=tB (bU ons 0) (bZ ons) (d.length:Int) (v.length:Int) h hh4 hUc (qH ons) (d++v).length U.good (fun i=> Nat.le_trans (xl ons i) hUc) (U.ent h)
     refine bz (hK21 _ ?_)
     clear hK21;try clear K21
     refine aq (au (am (ai (aP _ aa rfl rfl rfl rfl) (aS rfl (ai (aM aa al (hde) rfl rfl) ?_)))))
     refine ai (dB _ _ rfl rfl rfl) (aj (aV rfl (fun hc76=> ?_) (fun hc76=> ?_)))
     ·skip
      have hco:gU ons≠true:=fun e=> by
       unfold gU at e
       rw [Bool.and_eq_true,List.all_eq_true] at e
       have:=e.2 h (List.mem_range.2 hh4)
       rw [decide_eq_true_eq] at this
       exact absurd (show jt (bU ons 0) (ic (bU ons 0) (bZ ons h)).1 (bU ons 0).length≤16 from this) ab
      rw [wy,if_neg hco,DR,if_neg ab]
      refine am (ai (ay _ aa rfl (by exact (rfl:_=some [_,_,_,_,_,_,_,_,_,_,_,_,_,_,_,_,_,_,_,_,_,_,_,_,_,_,_,_,_,_,_,_,_,_,_,_,_,_,_,_,_,_,_]))) ?_)
      exact bL rfl rfl rfl rfl rfl rfl (aZ rfl (aj (aD (lN (.inr rfl) rfl (.cellA aa rfl rfl rfl) (.tmp (rfl:_=AV.v _)) (Le.out [] [] (.tup rfl lz) rfl rfl rfl trivial trivial)))))
     ·skip
      refine cg (an (aS rfl (ai (be _ _ rfl rfl (br ab)) ?_)))
      refine aZ rfl (az (⟨h+1,?_,?_,?_⟩))
      ·exact ⟨by omega,fun k hk=> (by
        rcases Nat.lt_or_ge k h with hlt | hge
        ·exact hks k hlt
        ·obtain rfl:k=h:=by omega
         omega)⟩
      ·skip
       refine Le.mkJ [] [] rfl ?_ ?_ trivial trivial ?_
       ·exact ⟨(iP rfl),(iP rfl),(co ag),trivial⟩
       ·exact ⟨(cI rfl rfl rfl),(fg rfl rfl rfl rfl lz),trivial⟩
       ·kernel_rfl
      ·omega
    ·skip
     obtain rfl:h=40:=by omega
     have hco:gU ons=true:=by
      unfold gU
      rw [Bool.and_eq_true,decide_eq_true_eq,List.all_eq_true]
      exact ⟨hl4,fun k hk=> decide_eq_true (hks k (List.mem_range.1 hk))⟩
     refine bK (id (hK19 _ ?_))
     clear hK19;try clear K19
     refine am (ai (aP _ aa rfl rfl rfl rfl) (bL rfl rfl rfl rfl rfl rfl (aZ rfl (aj (aD ?_)))))
     rw [wy,if_pos hco]
     exact lN (.inr rfl) rfl (.cellA aa rfl rfl rfl) (.tmp (rfl:_=AV.v _)) (Le.out [] [] (.tup rfl lz) rfl rfl rfl trivial trivial)

structure AK (s:Tx) (d v:List Tx) (ons:List (Nat×Bk)):Prop extends UOk d v ons where
 p:qa s=some (d,v,nc d v ons)
 l:s.length≤3000
 wl: ∀ p∈ons,nH p.2=true
theorem ya {s:Tx} {d v:List Tx} {ons:List (Nat×Bk)} (U:AK s d v ons) (hc:gU ons=true):
  Spec Tryz.prog 64 (bk [.v (bt s)] []) (aW (wy d v ons) []):=by
 have h1:=nE s U.l _ _ _ U.p
 have h2:Spec Tryz.prog 97 (bk [Ed d v (nc d v ons)] []) (aW (.v (.int .i64 0)) []):=nY d v ons U.nd U.len U.ok U.wl U.n
 have h3:=jl d v ons U.toUOk
 rw [wy,if_pos hc] at h3 ⊢
 obtain ⟨H,hH⟩: ∃ H,H=nc d v ons:=⟨_,rfl⟩
 rw [← hH] at h1 h2 h3
 clear hH
 refine Spec.ofN Tryz.func64 rfl Tryz.ntmps64 rfl ?_
 refine am (ai (ax (2,0) aa rfl rfl) (aZ rfl (aj (am (dL rfl (ai (aM aa al (h1) rfl rfl) ?_))))))
 refine ai (aE _ (rfl:_=AV.tup _)) (ai (dh _ rfl (rfl:_=some (AV.agg _))) (ai (dh _ rfl (rfl:_=some (AV.v (.int _ _)))) (ai (dh _ rfl (rfl:_=some (AV.v (.int _ _)))) (ai (ax (4,0) aa rfl rfl) (bL rfl rfl rfl rfl rfl rfl (aZ rfl (aZ rfl (aj (aq (am ?_))))))))))
 refine aS rfl (ai (cb (r:=false) _ _ rfl rfl rfl) (aj (aR rfl rfl (aJ (am (ai (aP _ aa rfl rfl rfl rfl) (ai (aM aa al (h2) rfl rfl) ?_)))))))
 refine aZ rfl (aj (aq (aq ?_)))
 refine aO (σ':=aB 32 [(2,_),(4,_),(6,_)] [((2,0),_),((4,0),_)] [] []) kp ?_
 refine an (aS rfl (ai (cb (r:=false) _ _ rfl rfl rfl) (aj (aR rfl rfl (aJ (am (ai (aP _ aa rfl rfl rfl rfl) (ai (aM aa al (h3) rfl rfl) ?_))))))))
 refine ai (aE _ (rfl:_=AV.tup _)) (ai (dh _ rfl (rfl:_=some (AV.agg _))) (ai (dh _ rfl (rfl:_=some (AV.v (.int _ _)))) (ai (ax (7,0) aa rfl rfl) (bL rfl rfl rfl rfl rfl rfl (aZ rfl (aj (am (ai (aP _ aa rfl rfl rfl rfl) (aS rfl (bL rfl rfl rfl rfl rfl rfl ?_))))))))))
 exact aZ rfl (aj (aD (lN (.inr rfl) rfl (.cellA aa rfl rfl rfl) (.tmp (rfl:_=AV.v _)) (Le.out [] [] (.tup rfl lz) rfl rfl rfl trivial trivial))))
theorem yi {s:Tx} {d v:List Tx} {ons:List (Nat×Bk)} (U:AK s d v ons) (hc:gU ons≠true):
  Spec Tryz.prog 64 (bk [.v (bt s)] []) (aW (wy d v ons) []):=by
 have h1:=nE s U.l _ _ _ U.p
 have h2:Spec Tryz.prog 97 (bk [Ed d v (nc d v ons)] []) (aW (.v (.int .i64 0)) []):=nY d v ons U.nd U.len U.ok U.wl U.n
 have h3:=jl d v ons U.toUOk
 rw [wy,if_neg hc] at h3 ⊢
 generalize DR ons=er at h3 ⊢
 obtain ⟨H,hH⟩: ∃ H,H=nc d v ons:=⟨_,rfl⟩
 rw [← hH] at h1 h2 h3
 clear hH
 refine Spec.ofN Tryz.func64 rfl Tryz.ntmps64 rfl ?_
 refine am (ai (ax (2,0) aa rfl rfl) (aZ rfl (aj (am (dL rfl (ai (aM aa al (h1) rfl rfl) ?_))))))
 refine ai (aE _ (rfl:_=AV.tup _)) (ai (dh _ rfl (rfl:_=some (AV.agg _))) (ai (dh _ rfl (rfl:_=some (AV.v (.int _ _)))) (ai (dh _ rfl (rfl:_=some (AV.v (.int _ _)))) (ai (ax (4,0) aa rfl rfl) (bL rfl rfl rfl rfl rfl rfl (aZ rfl (aZ rfl (aj (aq (am ?_))))))))))
 refine aS rfl (ai (cb (r:=false) _ _ rfl rfl rfl) (aj (aR rfl rfl (aJ (am (ai (aP _ aa rfl rfl rfl rfl) (ai (aM aa al (h2) rfl rfl) ?_)))))))
 refine aZ rfl (aj (aq (aq ?_)))
 refine aO (σ':=aB 32 [(2,_),(4,_),(6,_)] [((2,0),_),((4,0),_)] [] []) kp ?_
 refine an (aS rfl (ai (cb (r:=false) _ _ rfl rfl rfl) (aj (aR rfl rfl (aJ (am (ai (aP _ aa rfl rfl rfl rfl) (ai (aM aa al (h3) rfl rfl) ?_))))))))
 refine ai (aE _ (rfl:_=AV.tup _)) (ai (dh _ rfl (rfl:_=some (AV.agg _))) (ai (dh _ rfl (rfl:_=some (AV.v (.int _ _)))) (ai (ax (7,0) aa rfl rfl) (bL rfl rfl rfl rfl rfl rfl (aZ rfl (aj (am (ai (aP _ aa rfl rfl rfl rfl) (aS rfl (bL rfl rfl rfl rfl rfl rfl ?_))))))))))
 exact aZ rfl (aj (aD (lN (.inr rfl) rfl (.cellA aa rfl rfl rfl) (.tmp (rfl:_=AV.v _)) (Le.out [] [] (.tup rfl lz) rfl rfl rfl trivial trivial))))
theorem sX {s:Tx} {d v:List Tx} {ons:List (Nat×Bk)} (U:AK s d v ons):
  Spec Tryz.prog 64 (bk [.v (bt s)] []) (aW (wy d v ons) []):=by
 by_cases hc:gU ons=true
 ·exact ya U hc
 ·exact yi U hc
theorem Cq {d v:List Tx} {ons:List (Nat×Bk)} (h:Hx ons (d++v).length) (h1:(d++v).Nodup) (h2:(d++v).length≤16) (h3:(ons.all fun p=> mZ p.2)=true) (h4:ons.length≤1000):UOk d v ons:=
 ⟨h1,h2,h.ok,fun p hp=> (List.all_eq_true.1 h3) p hp,h.h,by have:=h.n;omega,h4⟩
theorem usrcL:AK DH BN As onsL:=⟨Cq srcOkL ah ah ae ah,CA,of_decide_eq_true ae,srcOkL.wl⟩
end Go.Proofs.YtmjnackchaahbaaGreat

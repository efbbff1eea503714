/- Part 14 of the texts that the walk leans on: the machine, the walks, the plain laws. -/
import Derived.Test.YtmjnackchaahbaaGreatVrZ13
set_option linter.unusedSimpArgs false
set_option linter.unusedVariables false
namespace Go.Proofs.YtmjnackchaahbaaGreat
open Go.RowKit

theorem gG {l:List Int} {i:Nat} (h:i < l.length):l.getD i (-1)=l.getD i 0:=by
 rw [List.getD_eq_getElem?_getD,List.getD_eq_getElem?_getD,List.getElem?_eq_getElem h];rfl
theorem tk {n:Nat} {d:Int} {s:DS} {l:List Nat} {k:Nat} (h:k < l.length):(l.take (k+1)).foldl (iz n d) s=iz n d ((l.take k).foldl (iz n d) s) (l.getD k 0):=by
 rw [List.take_succ_eq_append_getElem h,List.foldl_append,List.getD_eq_getElem?_getD,List.getElem?_eq_getElem h];rfl
theorem BA (n k:Nat) (h:k < n):((List.replicate k (-1:Int))++List.replicate (n - k) 0).set k (-1)=List.replicate (k+1) (-1)++List.replicate (n - (k+1)) 0:=by
 rw [List.set_append_right _ _ (by simp),List.length_replicate,Nat.sub_self,show n - k=(n - (k+1))+1 by omega,List.replicate_succ,List.set_cons_zero,show List.replicate (k+1) (-1:Int)=List.replicate k (-1)++[-1] from List.replicate_succ']
 simp
theorem yq {ρ:aJ→aJ} {σ:St} {F:aJ→Bool} {id:aJ} {e:TypeId} {sz n m:Nat} {xs ys:List PV} (hid:σ.ob id= .obj (.row e sz xs)) (hF:F id=true) (hl:n*sz=xs.length) (hy:xs=ys) (hn:n=m):Lv ρ σ F (.sl m ys) (.ref id 0 n):=by
 subst hn;exact fY hid hF hl hy
theorem DI.flag {D:Nat→Nat} {n:Nat} {s:DS} {b:Bool} (h:DI D n s):DI D n (s.1,s.2.1,b):=⟨h.len,h.val,h.ok⟩
def vb (C:List eQ) (R:List Int×Bool) (z:(List Int×Bool)×Bool):Prop:=if z.2=true then ∃ f,neg z.1.1+1≤f∧iH C f z.1=R else z.1=R
theorem wi {C:List eQ} {R:List Int×Bool} {s:List Int×Bool} {f:Nat} (hf:neg s.1+1≤f) (hR:iH C f s=R) (hd:(dA C s C.length).2.2=true→neg (dA C s C.length).1 < neg s.1):
  vb C R (((dA C s C.length).1,(dA C s C.length).2.1),(dA C s C.length).2.2):=by
 obtain ⟨g,rfl⟩: ∃ g,f=g+1:=⟨f - 1,by omega⟩
 unfold vb
 cases hb:(dA C s C.length).2.2 with
 | true=>
  have:=hd hb
  rw [if_pos rfl]
  exact ⟨g,by simp only;omega,by rw [← hR,sW hb]⟩
 | false=> rw [if_neg (by simp)];rw [← hR,sU hb]
def FL (z:(List Int×Bool)×Bool):Nat:=if z.2=true then neg z.1.1+1 else 0
theorem Cq {C:List eQ} {s:List Int×Bool} (hd:(dA C s C.length).2.2=true→neg (dA C s C.length).1 < neg s.1):FL (((dA C s C.length).1,(dA C s C.length).2.1),(dA C s C.length).2.2) < neg s.1+1:=by
 unfold FL
 simp only
 split
 ·rename_i h;have:=hd h;omega
 ·omega
theorem vD {C:List eQ} {s:DS} {i:Nat} (h:s.1.getD i (-1) < 0):jV C s i=s:=by unfold jV;rw [if_pos h]
theorem xc {C:List eQ} {s:DS} {i:Nat} (h: ¬ s.1.getD i (-1) < 0) (h2: ¬ s.1.getD i (-1) - (cP C i).op.pops < 0):jV C s i=(dI i (cP C i)).foldl (iz C.length (s.1.getD i (-1) - (cP C i).op.pops+(cP C i).op.puts)) s:=by
 unfold jV Ap
 rw [if_neg h,if_neg h2,show max (s.1.getD i (-1) - (cP C i).op.pops) 0=s.1.getD i (-1) - (cP C i).op.pops by omega]
theorem rJ (C:List eQ) (en:Nat→Int) (dd vv:Int) (e:Int) (hC:C.length≤1000000) (D:Nat→Nat) (nv:Nat) (hg:Good D nv 0 (C.length - 1) 0 C) (hD: ∀ i,D i≤1000000) (he:0≤e→e < C.length→D e.toNat=0):
  Spec Tryz.prog 72 (bj [.agg (xx C.length (inl C) en dd vv), .v (.int .i64 e)] []) (aT (.tup [.sl (ix C e).1.length (cu (ix C e).1), .v (.bool (ix C e).2)]) []):=by
 refine Spec.ofN Tryz.func72 rfl Tryz.ntmps72 rfl ?_
 refine am (ai (bm (2,0) _ rfl rfl) (ai (bJ _ (rfl:_=AV.v (.slice _ _ _))) (ci rfl (aj (am (bz rfl rfl rfl (fA rfl rfl rfl (ai (bI _ aa rfl) (ai (FF (17,0) _ _ aa rfl rfl C.length rfl rfl ab rfl (uQ C.length)) ?_)))))))))
 refine dY rfl (aj (aH fun K3 hK3=> ?_))
 refine am (ba rfl (aj (au ?_)))
 refine bD (α:=Nat) (fun k=> k≤C.length) 123 [(1,_),(2,_)] [((2,0),_)] (fun k=> [(7, .v (.int .i64 (k:Int))),(6, .ref (6,0) 0 C.length)]) (fun k=> [((6,0), .row 3 1 (cu (List.replicate k (-1)++List.replicate (C.length - k) 0)))]) [] [] (fun k=> C.length - k) 0 ?_ (by
  refine Le.mkJ [((6,0),(17,0))] [] rfl ?_ ?_ trivial trivial ?_
  ·exact ⟨(by repeat' (exact Lv.v)),(cr (id:=(2,0)) rfl),(bY ag),(cq rfl ag),trivial⟩
  ·exact ⟨(di rfl rfl rfl rfl (by repeat' (first | exact Lv.v | exact Lv.sl | exact bf | refine aD ?_ ?_))),(cw rfl rfl rfl ag),trivial⟩
  ·kernel_rfl) ?_
 ·omega
 intro k hk
 have hll:(List.replicate k (-1:Int)++List.replicate (C.length - k) 0).length=C.length:=by simp;omega
 refine aH fun K5 hK5=> ?_
 refine am (aP rfl (ei rfl (ai (dv _ aa rfl rfl) (ai (bp _ _ rfl rfl rfl) (aj (aO rfl (fun hc21=> ?_) (fun hc21=> ?_)))))))
 ·skip
  have hrs:=BA C.length k ab
  refine bB (hK5 _ ?_)
  clear hK5;try clear K5
  refine aq (au (an (ei rfl (aP rfl (ai (bZ _ _ aa rfl rfl rfl _ rfl ab (by exact (Nat.zero_add _).trans (Nat.mul_one _))) ?_)))))
  refine ai (fg _ _ aa rfl rfl rfl rfl rfl (by simp;omega) ((eg _ _ _ ab).trans (congrArg cu hrs))) ?_
  refine ga (an (aP rfl (ai (bc _ _ rfl rfl (be ab)) ?_)))
  refine ba rfl (ax (⟨k+1,?_,?_,?_⟩))
  ·omega
  ·skip
   refine Le.mkJ [] [] rfl ?_ ?_ trivial trivial ?_
   ·exact ⟨(iV rfl),(iP rfl),(bY ag),(cq rfl ag),trivial⟩
   ·exact ⟨(ce rfl rfl rfl),(cw rfl rfl rfl ag),trivial⟩
   ·kernel_rfl
  ·omega
 ·skip
  obtain rfl:k=C.length:=by omega
  have hrep:List.replicate C.length (-1:Int)++List.replicate (C.length - C.length) 0=List.replicate C.length (-1):=by simp
  refine bK (id (hK3 _ ?_))
  clear hK3;try clear K3
  refine aq (am (aP rfl (ai (bp _ _ rfl rfl rfl) (cM rfl (dx (fun hg29=> ?_) (fun hg29=> ?_))))))
  ·skip
   have hdf:ix C e=(List.replicate C.length (-1),true):=if_pos (.inl ab)
   refine aW rfl rfl ah ?_
   refine aW rfl rfl ah ?_
   refine aW rfl rfl ah ?_
   refine aW rfl rfl ah ?_
   refine ai (aG _ _ _ rfl (rfl:_=AV.v (.bool _))) (aj (bC rfl rfl (am (ei rfl (dY rfl (ci rfl (aj (aE ?_))))))))
   rw [hdf]
   exact lT (.inr rfl) rfl (.tmp (rfl:_=AV.ref _ _ _)) (.tmp (rfl:_=AV.v (.bool _))) (Le.out [] [(6,0)] (.tup rfl (aD (yq rfl rfl (by simp) (congrArg cu hrep) (by simp)) lz)) rfl rfl rfl tr trivial)
  ·skip
   refine ay rfl rfl (aC _ (rfl:_=AV.v (.int _ _))) (ay rfl rfl (aC _ (rfl:_=AV.ref _ _ _)) (ay rfl rfl (dv _ aa rfl rfl) (ay rfl rfl (eH _ _ rfl rfl rfl) (ai (aG _ _ _ rfl (rfl:_=AV.v (.bool _))) (aj (aO rfl (fun hc34=> ?_) (fun hc34=> ?_)))))))
   ·skip
    have hdf:ix C e=(List.replicate C.length (-1),true):=if_pos (.inr ab)
    refine am (ei rfl (dY rfl (ci rfl (aj (aE ?_)))))
    rw [hdf]
    exact lT (.inr rfl) rfl (.tmp (rfl:_=AV.ref _ _ _)) (.tmp (rfl:_=AV.v (.bool _))) (Le.out [] [(6,0)] (.tup rfl (aD (yq rfl rfl (by simp) (congrArg cu hrep) (by simp)) lz)) rfl rfl rfl tr trivial)
   ·skip
    have hdf:ix C e=iH C (C.length+1) ((List.replicate C.length (-1)).set e.toNat 0,true):=if_neg ab
    have hdi0:DI D C.length ((List.replicate C.length (-1)).set e.toNat 0,true,false):=by
     have hr: ∀ i,(List.replicate C.length (-1:Int)).getD i (-1)= -1:=fun i=> by rw [List.getD_eq_getElem?_getD,List.getElem?_replicate];split <;> rfl
     refine ⟨by simp,fun i hi=> ?_,rfl⟩
     simp only
     rw [jj]
     split
     ·rename_i h;right;rw [h.1,he ab ab];rfl
     ·exact .inl (hr i)
    have hn0:neg ((List.replicate C.length (-1)).set e.toNat 0)≤C.length:=by
     have:=List.countP_le_length (p:=fun x:Int=> decide (x < 0)) (l:=(List.replicate C.length (-1:Int)).set e.toNat 0)
     simpa [neg] using this
    obtain ⟨R,hR⟩: ∃ R,R=ix C e:=⟨_,rfl⟩
    rw [← hR] at hdf
    refine aL (am (ei rfl (aP rfl (ai (bZ _ _ aa rfl rfl rfl e.toNat ab ab (by exact (Nat.zero_add _).trans (Nat.mul_one _))) ?_))))
    refine ai (fg _ _ aa rfl rfl rfl rfl rfl (by simp;omega) ((eg _ _ _ (by simp;omega)).trans (congrArg (fun l=> cu (List.set l e.toNat 0)) hrep))) ?_
    refine aj (aq ?_)
    refine aN (σ':=aA 123 [(2,_),(6,_)] [((2,0),_),((6,0),_)] [] []) kp ?_
    refine an (ci rfl (aj (aH fun K14 hK14=> ?_)))
    refine am (ci rfl (aj (au ?_)))
    refine bD (α:=(List Int×Bool)×Bool) (fun z=> DI D C.length (z.1.1,z.1.2,false)∧vb C R z) 123 [(2,_),(6,_)] [((2,0),_)] (fun z=> [(8, .v (.bool z.1.2)),(9, .v (.bool z.2))]) (fun z=> [((6,0), .row 3 1 (cu z.1.1))]) [] [] (fun z=> FL z) (((List.replicate C.length (-1)).set e.toNat 0,true),true) ?_ (by
     refine Le.mkJ [] [] rfl ?_ ?_ trivial trivial ?_
     ·exact ⟨(iP rfl),(iR rfl),(hG ag),(hG ag),trivial⟩
     ·exact ⟨(ce rfl rfl rfl),(cw rfl rfl rfl ag),trivial⟩
     ·kernel_rfl) ?_
    ·exact ⟨hdi0,by unfold vb;rw [if_pos rfl];exact ⟨C.length+1,by simp only;omega,hdf.symm⟩⟩
    intro z hz
    obtain ⟨s,ch⟩:=z
    obtain ⟨hdi,hz⟩:=hz
    simp only at hdi hz ⊢
    refine aH fun K16 hK16=> ?_
    refine am (cM rfl (aj (aO rfl (fun hc39=> ?_) (fun hc39=> ?_))))
    ·skip
     obtain ⟨f,hf1,hf2⟩: ∃ f,neg s.1+1≤f∧iH C f s=R:=by
      unfold vb at hz
      rwa [if_pos hc39] at hz
     have hpd:=(jW hg hdi C.length (Nat.le_refl _)).2.2
     refine bB (hK16 _ ?_)
     clear hK16;try clear K16
     refine au (am (ci rfl (aj (am (ba rfl (aj (au ?_)))))))
     refine bD (α:=Nat) (fun i=> i≤C.length) 123 [(2,_),(6,_)] [((2,0),_)] (fun i=> [(10, .v (.int .i64 (i:Int))),(8, .v (.bool (dA C s i).2.1)),(9, .v (.bool (dA C s i).2.2))]) (fun i=> [((6,0), .row 3 1 (cu (dA C s i).1))]) [] [] (fun i=> C.length - i) 0 ?_ (by
      refine Le.mkJ [] [] rfl ?_ ?_ trivial trivial ?_
      ·exact ⟨(iP rfl),(iR rfl),(bY ag),(hG ag),(hG ag),trivial⟩
      ·exact ⟨(ce rfl rfl rfl),(cw rfl rfl rfl ag),trivial⟩
      ·kernel_rfl) ?_
     ·omega
     intro i hi
     have hw:=(jW hg hdi i hi).1
     have hps:=oB C s i
     have hwl:=hw.len
     refine aH fun K20 hK20=> ?_
     refine am (aP rfl (ei rfl (ai (dv _ aa rfl rfl) (ai (bp _ _ rfl rfl rfl) (aj (aO rfl (fun hc43=> ?_) (fun hc43=> ?_)))))))
     ·skip
      have hdn:=(jW hg hdi (i+1) ab).1
      have hvi:=hw.val i ab
      generalize dA C s i=w at hw hps hwl hvi
      rw [gG ab] at hvi
      obtain ⟨hins,hpop,hsuc⟩:=hg i (cP C i) (by unfold cP;rw [List.getD_eq_getElem?_getD,List.getElem?_eq_getElem ab];rfl)
      rw [Nat.zero_add] at hpop hsuc
      have hDi:=hD i
      refine bB (hK20 _ ?_)
      clear hK20;try clear K20
      refine aH fun K22 hK22=> ?_
      refine au (aq (am (ei rfl (aP rfl (ai (bZ _ _ aa rfl rfl rfl _ rfl ab (by exact (Nat.zero_add _).trans (Nat.mul_one _))) ?_)))))
      refine ai (cR _ aa rfl rfl (by exact dl _ _ ab) rfl) ?_
      refine ai (bp _ _ rfl rfl rfl) (aj (aO rfl (fun hc50=> ?_) (fun hc50=> ?_)))
      ·skip
       rw [vD (by rw [gG ab];omega)] at hps
       refine bK (id (hK22 _ ?_))
       clear hK22;try clear K22
       refine an (aP rfl (ai (bc _ _ rfl rfl (be ab)) ?_))
       refine ba rfl (ax (⟨i+1,?_,?_,?_⟩))
       ·omega
       ·skip
        refine Le.mkJ [] [] rfl ?_ ?_ trivial trivial ?_
        ·exact ⟨(iP rfl),(iR rfl),(bY ag),(hG (by (rw [hps]))),(hG (by (rw [hps]))),trivial⟩
        ·exact ⟨(ce rfl rfl rfl),(cw rfl rfl rfl (by (rw [hps]))),trivial⟩
        ·kernel_rfl
       ·omega
      ·skip
       have hvD:=hvi.resolve_left ab
       have hgo:=xc (C:=C) (s:=w) (i:=i) (by rw [gG ab];omega) (by rw [gG ab];omega)
       rw [gG ab,hvD] at hgo
       rw [hgo] at hps
       obtain ⟨L,hL⟩: ∃ L,L=dI i (cP C i):=⟨_,rfl⟩
       have hLl:L.length≤2:=by rw [hL];unfold dI;split <;> simp
       have hnn:(cP C i).op= .jump∨(cP C i).op= .unl→0≤(cP C i).n:=by
        unfold dh at hins
        rintro (e | e) <;> rw [e] at hins <;> exact hins
       have hnx:=vF C en dd vv i hC ab hnn
       rw [← hL] at hps hsuc hnx
       have hpp:=pO (cP C i).op
       have hpq:=pF (cP C i).op
       have hp3:(cP C i).op.pops≤3:=by generalize (cP C i).op=o;cases o <;> decide
       have hp4:(cP C i).op.puts≤1:=by generalize (cP C i).op=o;cases o <;> decide
       refine aL (aq ?_)
       refine aN (σ':=aA 123 [(2,_),(6,_),(8,_),(9,_),(10,_)] [((2,0),_),((6,0),_)] [] []) kp ?_
       refine bu 13 [51,52,53,54,55,56,57,58,59,60,61,62,11] [] ae ae rfl (aK rfl) (rfl:_=[_,_,_,_,_,_,_,_,_,_,_,_,_]) (rfl:_=[]) ?_
       refine ap (_,[]) (fun τ=> aC _ (rfl:_=AV.ref _ _ _)) ?_
       refine el rfl ?_
       refine ap (_,[]) (fun τ=> aC _ (rfl:_=AV.v (.int _ _))) ?_
       refine eo rfl ?_
       refine ap (_,[]) (fun τ=> bZ _ _ aa rfl rfl rfl _ rfl ab (by exact (Nat.zero_add _).trans (Nat.mul_one _))) ?_
       refine ep rfl ?_
       refine ap (_,[]) (fun τ=> cR _ aa rfl rfl (by exact dl _ _ ab) rfl) ?_
       refine ew rfl ?_
       refine ap (_,[]) (fun τ=> aI _ aa rfl rfl rfl) ?_
       refine eF rfl ?_
       refine ap (_,[]) (fun τ=> aM _ aa rfl rfl (rfl:_=some (AV.sl _ _))) ?_
       refine eV rfl ?_
       refine ap (_,[]) (fun τ=> aC _ (rfl:_=AV.v (.int _ _))) ?_
       refine fF rfl ?_
       refine ap (_,[]) (fun τ=> bi _ _ aa rfl rfl _ rfl ab (by (simp only [aZ,bq,bo,bG,bE,bM,bF,bN,eu,aZ];omega)) ag) ?_
       refine iu rfl ?_
       refine ap (_,[]) (fun τ=> dn _ aa rfl rfl) ?_
       refine ig rfl ?_
       refine ap (_,[]) (fun τ=> bH _ aa rfl (by exact lP C i ab) rfl) ?_
       refine eO rfl ?_
       refine ap (_,[]) (fun τ=> (aF aa al (hpp) rfl rfl)) ?_
       refine fc rfl ?_
       refine ap (_,[]) (fun τ=> bk _ _ rfl rfl (be (by rw [hvD];omega))) ?_
       refine gU rfl ?_
       refine ap (_,[]) (fun τ=> bJ _ (rfl:_=AV.v (.int _ _))) ?_
       refine gY rfl (bg ⟨rfl,?_⟩)
       refine aj (aq (am (aP rfl (ai (bp _ _ rfl rfl rfl) (aj (aS rfl (decide_eq_false (by rw [hvD];omega)) ?_))))))
       refine aL (aq ?_)
       refine aN (σ':=aA 123 [(2,_),(6,_),(8,_),(9,_),(10,_),(11,_)] [((2,0),_),((6,0),_)] [] []) kp ?_
       refine an (aP rfl (bz rfl rfl rfl (fA rfl rfl rfl (aP rfl (ai (bi _ _ aa rfl rfl _ rfl ab (by (simp only [aZ,bq,bo,bG,bE,bM,bF,bN,eu,aZ];omega)) ag) ?_)))))
       refine ai (dn _ aa rfl rfl) (ai (bH _ aa rfl (by exact lP C i ab) rfl) ?_)
       refine ai (aF aa al (hpq) rfl rfl) ?_
       refine ai (bc _ _ rfl rfl (be (by rw [hvD];omega))) ?_
       refine ba rfl (aj (am (ai (aR _ aa rfl rfl rfl rfl) (aP rfl (ai (aF aa al (hnx) rfl rfl) ?_)))))
       refine ke rfl (aj (am (ba rfl (aj (au ?_)))))
       refine bD (α:=Nat) (fun k=> k≤L.length) 123 [(2,_),(6,_),(10,_),(12,_)] [((2,0),_)] (fun k=> [(13, .v (.int .i64 (k:Int))),(11, .v (.int .i64 ((D i:Int) - (cP C i).op.pops+(cP C i).op.puts))),(8, .v (.bool ((L.take k).foldl (iz C.length ((D i:Int) - (cP C i).op.pops+(cP C i).op.puts)) w).2.1)),(9, .v (.bool ((L.take k).foldl (iz C.length ((D i:Int) - (cP C i).op.pops+(cP C i).op.puts)) w).2.2))]) (fun k=> [((6,0), .row 3 1 (cu ((L.take k).foldl (iz C.length ((D i:Int) - (cP C i).op.pops+(cP C i).op.puts)) w).1))]) [] [] (fun k=> L.length - k) 0 ?_ (by
        refine Le.mkJ [] [] rfl ?_ ?_ trivial trivial ?_
        ·exact ⟨(iP rfl),(iR rfl),(iV rfl),(iS rfl),(bY ag),(bY (by rw [hvD])),(hG ag),(hG ag),trivial⟩
        ·exact ⟨(ce rfl rfl rfl),(cw rfl rfl rfl ag),trivial⟩
        ·kernel_rfl) ?_
       ·omega
       intro k hk
       have hwd: ∀ j∈L,(D i:Int) - (cP C i).op.pops+(cP C i).op.puts=(D j:Int):=fun j hj=> by have:=(hsuc j hj).2.2;omega
       have hu:=(lG (L.take k) hw (fun j hj=> hwd j (List.mem_of_mem_take hj))).1
       have hul:=hu.len
       refine aH fun K31 hK31=> ?_
       refine am (aP rfl (ef rfl (ai (bI _ aa rfl) (ai (bp _ _ rfl rfl rfl) (aj (aO rfl (fun hc80=> ?_) (fun hc80=> ?_)))))))
       ·skip
        have hfs:=tk (n:=C.length) (d:=(D i:Int) - (cP C i).op.pops+(cP C i).op.puts) (s:=w) (l:=L) (k:=k) ab
        have hu1:=(lG (L.take (k+1)) hw (fun j hj=> hwd j (List.mem_of_mem_take hj))).1.len
        obtain ⟨j,hj⟩: ∃ j,j=L.getD k 0:=⟨_,rfl⟩
        have hjm:j∈L:=by rw [hj,List.getD_eq_getElem?_getD,List.getElem?_eq_getElem ab];exact List.getElem_mem ab
        obtain ⟨hj1,hj2,_⟩:=hsuc j hjm
        have hjn:j < C.length:=by omega
        have hwj:=hwd j hjm
        have hnk:=zp L k ab
        rw [← hj] at hfs hnk
        have huv:=hu.val j hjn
        rw [gG ab] at huv
        generalize (L.take k).foldl (iz C.length ((D i:Int) - (cP C i).op.pops+(cP C i).op.puts)) w=u at hu hul hfs huv
        refine bB (hK31 _ ?_)
        clear hK31;try clear K31
        refine aq (au (aq (am (ef rfl (aP rfl (ai (bi _ _ aa rfl rfl _ rfl ab (by (simp only [aZ,bq,bo,bG,bE,bM,bF,bN,eu,aZ];omega)) (by exact Nat.mul_one _)) ?_))))))
        refine ai (bH _ aa rfl (by exact hnk) rfl) ?_
        refine ai (bp _ _ rfl rfl rfl) (cM rfl (dx (fun hg88=> ?_) (fun hg88=> ?_)))
        ·skip
         exact absurd hg88 ab
        ·skip
         refine ay rfl rfl (aC _ (rfl:_=AV.sl _ _)) (ay rfl rfl (aC _ (rfl:_=AV.v (.int _ _))) (ay rfl rfl (bi _ _ aa rfl rfl _ rfl ab (by (simp only [aZ,bq,bo,bG,bE,bM,bF,bN,eu,aZ];omega)) (by exact Nat.mul_one _)) ?_))
         refine ay rfl rfl (bH _ aa rfl (by exact hnk) rfl) ?_
         refine ay rfl rfl (aC _ (rfl:_=AV.ref _ _ _)) (ay rfl rfl (dv _ aa rfl rfl) (ay rfl rfl (eH _ _ rfl rfl rfl) (ai (aG _ _ _ rfl (rfl:_=AV.v (.bool _))) (aj (aS rfl (decide_eq_false ab) ?_)))))
         refine aL (aq ?_)
         refine aN (σ':=aA 123 [(2,_),(6,_),(8,_),(9,_),(10,_),(11,_),(12,_),(13,_)] [((2,0),_),((6,0),_)] [] []) kp ?_
         refine an (ei rfl (ef rfl (aP rfl (ai (bi _ _ aa rfl rfl _ rfl ab (by (simp only [aZ,bq,bo,bG,bE,bM,bF,bN,eu,aZ];omega)) (by exact Nat.mul_one _)) ?_))))
         refine ai (bH _ aa rfl (by exact hnk) rfl) ?_
         refine ai (bZ _ _ aa rfl rfl rfl _ rfl ab (by exact (Nat.zero_add _).trans (Nat.mul_one _))) ?_
         refine ai (cR _ aa rfl rfl (by exact dl _ _ ab) rfl) ?_
         refine ai (bp _ _ rfl rfl rfl) (aj (aO rfl (fun hc104=> ?_) (fun hc104=> ?_)))
         ·skip
          have hds:iz C.length ((D i:Int) - (cP C i).op.pops+(cP C i).op.puts) u j=(u.1.set j ((D i:Int) - (cP C i).op.pops+(cP C i).op.puts),u.2.1,true):=by
           unfold iz
           rw [if_neg ab,if_pos (by rw [gG ab];omega)]
          rw [hds] at hfs
          refine am (ei rfl (ef rfl (aP rfl (ai (bi _ _ aa rfl rfl _ rfl ab (by (simp only [aZ,bq,bo,bG,bE,bM,bF,bN,eu,aZ];omega)) (by exact Nat.mul_one _)) ?_))))
          refine ai (bH _ aa rfl (by exact hnk) rfl) ?_
          refine aP rfl (ai (bZ _ _ aa rfl rfl rfl _ rfl ab (by exact (Nat.zero_add _).trans (Nat.mul_one _))) ?_)
          refine ai (fg _ _ aa rfl rfl rfl rfl rfl (by simp;omega) (eg _ _ _ ab)) ?_
          refine aj ?_
          refine aN (σ':=aA 123 [(2,_),(6,_),(8,_),(10,_),(11,_),(12,_),(13,_)] [((2,0),_),((6,0),_)] [] []) kp ?_
          refine an (ci rfl (ga (an (aP rfl (ai (bc _ _ rfl rfl (be ab)) ?_)))))
          refine ba rfl (ax (⟨k+1,?_,?_,?_⟩))
          ·omega
          ·skip
           refine Le.mkJ [] [] rfl ?_ ?_ trivial trivial ?_
           ·exact ⟨(iP rfl),(iR rfl),(iV rfl),(iS rfl),(bY ag),(bY ag),(hG (by (rw [hfs]))),(hG (by (rw [hfs]))),trivial⟩
           ·exact ⟨(ce rfl rfl rfl),(cw rfl rfl rfl (by (rw [hfs]))),trivial⟩
           ·kernel_rfl
          ·omega
         ·skip
          have hds:iz C.length ((D i:Int) - (cP C i).op.pops+(cP C i).op.puts) u j=u:=by
           unfold iz
           rw [if_neg ab,if_neg (by rw [gG ab];omega),if_neg (by rw [gG ab];omega)]
          rw [hds] at hfs
          refine am (ei rfl (ef rfl (aP rfl (ai (bi _ _ aa rfl rfl _ rfl ab (by (simp only [aZ,bq,bo,bG,bE,bM,bF,bN,eu,aZ];omega)) (by exact Nat.mul_one _)) ?_))))
          refine ai (bH _ aa rfl (by exact hnk) rfl) ?_
          refine ai (bZ _ _ aa rfl rfl rfl _ rfl ab (by exact (Nat.zero_add _).trans (Nat.mul_one _))) ?_
          refine ai (cR _ aa rfl rfl (by exact dl _ _ ab) rfl) ?_
          refine aP rfl (ai (cg _ _ rfl rfl rfl) (aj (aS rfl (by rw [bne_eq_false_iff_eq];omega) ?_)))
          refine cf ?_
          refine aN (σ':=aA 123 [(2,_),(6,_),(8,_),(9,_),(10,_),(11,_),(12,_),(13,_)] [((2,0),_),((6,0),_)] [] []) kp ?_
          refine an (aP rfl (ai (bc _ _ rfl rfl (be ab)) ?_))
          refine ba rfl (ax (⟨k+1,?_,?_,?_⟩))
          ·omega
          ·skip
           refine Le.mkJ [] [] rfl ?_ ?_ trivial trivial ?_
           ·exact ⟨(iP rfl),(iR rfl),(iV rfl),(iS rfl),(bY ag),(bY ag),(hG (by (rw [hfs]))),(hG (by (rw [hfs]))),trivial⟩
           ·exact ⟨(ce rfl rfl rfl),(cw rfl rfl rfl (by (rw [hfs]))),trivial⟩
           ·kernel_rfl
          ·omega
       ·skip
        obtain rfl:k=L.length:=by omega
        rw [List.take_length] at hu hul
        rw [List.take_length]
        refine bK (id (hK22 _ ?_))
        clear hK22;try clear K22
        refine an (aP rfl (ai (bc _ _ rfl rfl (be ab)) ?_))
        refine ba rfl (ax (⟨i+1,?_,?_,?_⟩))
        ·omega
        ·skip
         refine Le.mkJ [] [] rfl ?_ ?_ trivial trivial ?_
         ·exact ⟨(iP rfl),(iR rfl),(bY ag),(hG (by (rw [hps]))),(hG (by (rw [hps]))),trivial⟩
         ·exact ⟨(ce rfl rfl rfl),(cw rfl rfl rfl (by (rw [hps]))),trivial⟩
         ·kernel_rfl
        ·omega
     ·skip
      obtain rfl:i=C.length:=by omega
      refine bK (id (⟨(((dA C s C.length).1,(dA C s C.length).2.1),(dA C s C.length).2.2),?_,?_,?_⟩))
      ·exact ⟨hw.flag,wi hf1 hf2 hpd⟩
      ·skip
       refine Le.mkJ [] [] rfl ?_ ?_ trivial trivial ?_
       ·exact ⟨(iP rfl),(iR rfl),(hG ag),(hG ag),trivial⟩
       ·exact ⟨(ce rfl rfl rfl),(cw rfl rfl rfl ag),trivial⟩
       ·kernel_rfl
      ·rw [show FL (s,ch)=neg s.1+1 from if_pos hc39];exact Cq hpd
    ·skip
     have hzR:s=R:=by
      unfold vb at hz
      rwa [if_neg (by simp [hc39])] at hz
     subst hzR
     have hsl:=hdi.len
     refine bK (id (hK14 _ ?_))
     clear hK14;try clear K14
     refine am (ei rfl (cM rfl (dY rfl (ci rfl (aj (aE ?_))))))
     rw [← hR]
     exact lT (.inr rfl) rfl (.tmp (rfl:_=AV.ref _ _ _)) (.tmp (rfl:_=AV.v (.bool _))) (Le.out [] [(6,0)] (.tup rfl (aD (yq rfl rfl (by simp only at hsl;simp [hsl]) rfl hsl.symm) lz)) rfl rfl rfl tr trivial)
theorem sN (C:List eQ) (en:Nat→Int) (dd vv:Int) (h:Nat) (hh:h < 40) (hC:C.length≤1000000) (D:Nat→Nat) (nv:Nat) (hg:Good D nv 0 (C.length - 1) 0 C) (hD: ∀ i,D i≤1000000) (he:0≤en h→en h < C.length→D (en h).toNat=0):
  Spec Tryz.prog 74 (bj [.agg (xx C.length (inl C) en dd vv), .v (.int .i64 (h:Int))] []) (aT (.v (.int .i64 (jN C (ix C (en h)).1 C.length))) []):=by
 have hds:=rJ C en dd vv (en h) hC D nv hg hD he
 have hdi:=oG hg he
 have hdl:=hdi.len
 have hml:=fun k (hk:k≤C.length)=> lB (C:=C) (n:=C.length) hdi (B:=1000000) (fun i _=> hD i) k hk
 generalize ix C (en h)=R at hds hdi hdl hml
 have hen:=lS C.length (inl C) en dd vv h hh
 refine Spec.ofN Tryz.func74 rfl Tryz.ntmps74 rfl ?_
 refine am (ai (bm (2,0) _ rfl rfl) (ba rfl (aj (aq (bu 11 [11,12,13,14,15,16,10,17,18,5,6] [] ae ae rfl (aK rfl) (rfl:_=[_,_,_,_,_,_,_,_,_,_,_]) (rfl:_=[]) ?_)))))
 refine ap (_,[]) (fun τ=> aR _ aa rfl rfl rfl rfl) ?_
 refine el rfl ?_
 refine ap (_,[]) (fun τ=> aC _ (rfl:_=AV.v (.int _ _))) ?_
 refine eo rfl ?_
 refine ap (_,[]) (fun τ=> aI _ aa rfl rfl rfl) ?_
 refine ep rfl ?_
 refine ap (_,[]) (fun τ=> ek _ _ aa rfl rfl rfl h rfl ab (by exact congrArg (fun z=> 0+1+z) (Nat.mul_one h))) ?_
 refine ew rfl ?_
 refine ap (_,[]) (fun τ=> aM _ aa rfl rfl (by exact (congrArg (fun z=> (xx C.length (inl C) en dd vv)[z]?) ab).trans hen)) ?_
 refine eF rfl ?_
 refine ap (_,[]) (fun τ=> (aF aa al (hds) rfl rfl)) ?_
 refine eV rfl ?_
 refine ap (_,[]) (fun τ=> aC _ (rfl:_=AV.tup _)) ?_
 refine fF rfl ?_
 refine ap (_,[]) (fun τ=> dk _ rfl (rfl:_=some (AV.sl _ _))) ?_
 refine iu rfl ?_
 refine ap (_,[]) (fun τ=> dk _ rfl (rfl:_=some (AV.v (.bool _)))) ?_
 refine ig rfl ?_
 refine ap (_,[]) (fun τ=> bJ _ (rfl:_=AV.sl _ _)) ?_
 refine eO rfl ?_
 refine ap (_,[]) (fun τ=> bJ _ (rfl:_=AV.v (.bool _))) ?_
 refine fc rfl (bg ⟨rfl,?_⟩)
 refine aj (am (ba rfl (aj (aH fun K4 hK4=> ?_))))
 refine am (ba rfl (aj (au ?_)))
 refine bD (α:=Nat) (fun k=> k≤C.length) 53 [(2,_),(5,_)] [((2,0),_)] (fun k=> [(8, .v (.int .i64 (k:Int))),(7, .v (.int .i64 (jN C R.1 k)))]) (fun k=> []) [] [] (fun k=> C.length - k) 0 ?_ (by
  refine Le.mkJ [] [] rfl ?_ ?_ trivial trivial ?_
  ·exact ⟨(iP rfl),(iS rfl),(bY ag),(bY ag),trivial⟩
  ·exact ⟨(ce rfl rfl rfl),trivial⟩
  ·kernel_rfl) ?_
 ·omega
 intro k hk
 have hm1:=hml k hk
 have hs:=ou C R.1 k
 simp only at hdl hm1
 refine aH fun K6 hK6=> ?_
 refine am (aP rfl (ef rfl (ai (bI _ aa rfl) (ai (bp _ _ rfl rfl rfl) (aj (aO rfl (fun hc22=> ?_) (fun hc22=> ?_)))))))
 ·skip
  have hm2:=hml (k+1) ab
  have hv:=hdi.val k ab
  simp only at hv hm2
  rw [gG ab] at hv hs
  have hDk:=hD k
  obtain ⟨q,hq⟩: ∃ q,q=cP C k:=⟨_,rfl⟩
  have hp3:q.op.pops≤3:=by generalize q.op=o;cases o <;> decide
  have hp4:q.op.puts≤1:=by generalize q.op=o;cases o <;> decide
  have hpp:=pO q.op
  have hpq:=pF q.op
  have hg0:=lP C k ab
  rw [← hq] at hg0 hs
  refine bB (hK6 _ ?_)
  clear hK6;try clear K6
  refine aq (au (am (ef rfl (aP rfl (ai (bi _ _ aa rfl rfl _ rfl ab (by (simp only [aZ,bq,bo,bG,bE,bM,bF,bN,eu,aZ];omega)) (by exact Nat.mul_one _)) ?_)))))
  refine ai (bH _ aa rfl (by exact dl _ _ ab) rfl) ?_
  refine ai (eH _ _ rfl rfl rfl) (aj (aO rfl (fun hc29=> ?_) (fun hc29=> ?_)))
  ·skip
   rw [if_pos ab] at hs
   refine am (bz rfl rfl rfl (fA rfl rfl rfl (aP rfl (ai (bi _ _ aa rfl rfl _ rfl ab (by (simp only [aZ,bq,bo,bG,bE,bM,bF,bN,eu,aZ];omega)) ag) ?_))))
   refine ai (dn _ aa rfl rfl) (ai (bH _ aa rfl (by exact hg0) rfl) ?_)
   refine ba rfl (aj ?_)
   refine aN (σ':=aA 53 [(2,_),(5,_),(7,_),(8,_),(9,_)] [((2,0),_)] [] []) kp ?_
   refine bu 16 [36,37,38,39,40,41,42,43,44,45,46,47,48,49,50,51] [] ae ae rfl (aK rfl) (rfl:_=[_,_,_,_,_,_,_,_,_,_,_,_,_,_,_,_]) (rfl:_=[_]) ?_
   refine ap (_,[]) (fun τ=> aC _ (rfl:_=AV.v (.int _ _))) ?_
   refine el rfl ?_
   refine ap (_,[]) (fun τ=> aC _ (rfl:_=AV.sl _ _)) ?_
   refine eo rfl ?_
   refine ap (_,[]) (fun τ=> aC _ (rfl:_=AV.v (.int _ _))) ?_
   refine ep rfl ?_
   refine ap (_,[]) (fun τ=> bi _ _ aa rfl rfl _ rfl ab (by (simp only [aZ,bq,bo,bG,bE,bM,bF,bN,eu,aZ];omega)) (by exact Nat.mul_one _)) ?_
   refine ew rfl ?_
   refine ap (_,[]) (fun τ=> bH _ aa rfl (by exact dl _ _ ab) rfl) ?_
   refine eF rfl ?_
   refine ap (_,[]) (fun τ=> aC _ (rfl:_=AV.sl _ _)) ?_
   refine eV rfl ?_
   refine ap (_,[]) (fun τ=> aC _ (rfl:_=AV.v (.int _ _))) ?_
   refine fF rfl ?_
   refine ap (_,[]) (fun τ=> bi _ _ aa rfl rfl _ rfl ab (by (simp only [aZ,bq,bo,bG,bE,bM,bF,bN,eu,aZ];omega)) (by exact Nat.mul_one _)) ?_
   refine iu rfl ?_
   refine ap (_,[]) (fun τ=> bH _ aa rfl (by exact dl _ _ ab) rfl) ?_
   refine ig rfl ?_
   refine ap (_,[]) (fun τ=> aC _ (rfl:_=AV.v (.int _ _))) ?_
   refine eO rfl ?_
   refine ap (_,[]) (fun τ=> (aF aa al (hpp) rfl rfl)) ?_
   refine fc rfl ?_
   refine ap (_,[]) (fun τ=> bk _ _ rfl rfl (be ab)) ?_
   refine gU rfl ?_
   refine ap (_,[]) (fun τ=> aC _ (rfl:_=AV.v (.int _ _))) ?_
   refine gY rfl ?_
   refine ap (_,[]) (fun τ=> (aF aa al (hpq) rfl rfl)) ?_
   refine jm rfl ?_
   refine ap (_,[]) (fun τ=> bc _ _ rfl rfl (be ab)) ?_
   refine lU rfl ?_
   refine ap (_,[]) (fun τ=> Ab _ _ _ rfl rfl rfl (by exact hs.symm)) ?_
   refine lQ rfl (bg ⟨rfl,?_⟩)
   refine ba rfl (ga ?_)
   refine aN (σ':=aA 53 [(2,_),(5,_),(7,_),(8,_)] [((2,0),_)] [] []) kp ?_
   refine an (aP rfl (ai (bc _ _ rfl rfl (be ab)) ?_))
   refine ba rfl (ax (⟨k+1,?_,?_,?_⟩))
   ·omega
   ·skip
    refine Le.mkJ [] [] rfl ?_ ?_ trivial trivial ?_
    ·exact ⟨(iP rfl),(iS rfl),(bY ag),(bY ag),trivial⟩
    ·exact ⟨(ce rfl rfl rfl),trivial⟩
    ·kernel_rfl
   ·omega
  ·skip
   rw [if_neg ab] at hs
   refine cf (an (aP rfl (ai (bc _ _ rfl rfl (be ab)) ?_)))
   refine ba rfl (ax (⟨k+1,?_,?_,?_⟩))
   ·omega
   ·skip
    refine Le.mkJ [] [] rfl ?_ ?_ trivial trivial ?_
    ·exact ⟨(iP rfl),(iS rfl),(bY ag),(bY ab),trivial⟩
    ·exact ⟨(ce rfl rfl rfl),trivial⟩
    ·kernel_rfl
   ·omega
 ·skip
  obtain rfl:k=C.length:=by omega
  refine bK (id (hK4 _ ?_))
  clear hK4;try clear K4
  exact am (aP rfl (ba rfl (aj (aE (aX (.inr rfl) rfl (.tmp (rfl:_=AV.v _)) (Le.out [] [] .v rfl rfl rfl trivial trivial))))))

theorem dU: ∀ (e:Ex) (d x:Nat),x∈dC e d→x≤d+(dC e d).length
 | .int _,d,x,h=> by simp [dC] at h ⊢;omega
 | .bool _,d,x,h=> by simp [dC] at h ⊢;omega
 | .var _,d,x,h=> by simp [dC] at h ⊢;omega
 | .name _,d,x,h=> by simp [dC] at h ⊢;omega
 | .draw e,d,x,h=> by
  have:=dU e d x
  simp only [dC,List.mem_append,List.length_append,List.length_cons,List.length_nil,List.mem_singleton] at h ⊢
  rcases h with h | h
  ·have:=this h;omega
  ·omega
 | .neg e,d,x,h=> by
  have:=dU e d x
  simp only [dC,List.mem_append,List.length_append,List.length_cons,List.length_nil,List.mem_singleton] at h ⊢
  rcases h with h | h
  ·have:=this h;omega
  ·omega
 | .not e,d,x,h=> by
  have:=dU e d x
  simp only [dC,List.mem_append,List.length_append,List.length_cons,List.length_nil,List.mem_singleton] at h ⊢
  rcases h with h | h
  ·have:=this h;omega
  ·omega
 | .bin o a b,d,x,h=> by
  have h1:=dU a d x
  have h2:=dU b (d+1) x
  have h3:1≤(dC b (d+1)).length:=by obtain ⟨l,hl⟩:=et b (d+1);rw [hl];simp
  have h4:1≤(dC a d).length:=by obtain ⟨l,hl⟩:=et a d;rw [hl];simp
  simp only [dC,List.mem_append,List.length_append] at h ⊢
  rcases h with (h | h) | h
  ·have:=h1 h;omega
  ·have:=h2 h;omega
  ·have:x≤d+2:=by cases o <;> simp at h <;> omega
   omega
 | .and a b,d,x,h=> by
  have h1:=dU a d x
  have h2:=dU b d x
  simp only [dC,List.mem_append,List.length_append,List.length_cons,List.length_nil,List.mem_singleton] at h ⊢
  rcases h with (((h | h) | h) | h) | h
  ·have:=h1 h;omega
  ·omega
  ·have:=h2 h;omega
  ·omega
  ·omega
 | .or a b,d,x,h=> by
  have h1:=dU a d x
  have h2:=dU b d x
  simp only [dC,List.mem_append,List.length_append,List.length_cons,List.length_nil,List.mem_singleton] at h ⊢
  rcases h with (((h | h) | h) | h) | h
  ·have:=h1 h;omega
  ·omega
  ·omega
  ·omega
  ·have:=h2 h;omega
theorem kw (e:Ex) (d:Nat):1≤(dC e d).length:=by obtain ⟨l,hl⟩:=et e d;rw [hl];simp
mutual
theorem zJ: ∀ (s:Sm) (x:Nat),x∈dZ s→x≤(dZ s).length
 | .assign _ e,x,h=> by
  have:=dU e 0 x
  simp only [dZ,List.mem_append,List.length_append,List.length_cons,List.length_nil,List.mem_singleton] at h ⊢
  rcases h with h | h
  ·have:=this h;omega
  ·omega
 | .send t _ a b,x,h=> by
  have h1:=dU t 0 x
  have h2:=dU a 1 x
  have h3:=dU b 2 x
  have k1:=kw t 0
  have k2:=kw a 1
  have k3:=kw b 2
  simp only [dZ,List.mem_append,List.length_append,List.length_cons,List.length_nil,List.mem_singleton] at h ⊢
  rcases h with ((h | h) | h) | h
  ·have:=h1 h;omega
  ·have:=h2 h;omega
  ·have:=h3 h;omega
  ·omega
 | .timer _,x,h=> by simp [dZ] at h ⊢;omega
 | .cancel _,x,h=> by simp [dZ] at h ⊢;omega
 | .sync,x,h=> by simp [dZ] at h ⊢;omega
 | .stop,x,h=> by simp [dZ] at h ⊢;omega
 | .reply a b,x,h=> by
  have h2:=dU a 0 x
  have h3:=dU b 1 x
  have k2:=kw a 0
  have k3:=kw b 1
  simp only [dZ,List.mem_append,List.length_append,List.length_cons,List.length_nil,List.mem_singleton] at h ⊢
  rcases h with (h | h) | h
  ·have:=h2 h;omega
  ·have:=h3 h;omega
  ·omega
 | .fail e,x,h=> by
  have:=dU e 0 x
  simp only [dZ,List.mem_append,List.length_append,List.length_cons,List.length_nil,List.mem_singleton] at h ⊢
  rcases h with h | h
  ·have:=this h;omega
  ·omega
 | .loop c b,x,h=> by
  have h1:=dU c 0 x
  have h2:=lC b x
  simp only [dZ,List.mem_append,List.length_append,List.length_cons,List.length_nil,List.mem_singleton] at h ⊢
  rcases h with ((h | h) | h) | h
  ·have:=h1 h;omega
  ·omega
  ·have:=h2 h;omega
  ·omega
 | .ite c a b,x,h=> by
  have h1:=dU c 0 x
  have h2:=lC a x
  have h3:=lC b x
  simp only [dZ,List.mem_append,List.length_append,List.length_cons,List.length_nil,List.mem_singleton] at h ⊢
  rcases h with (((h | h) | h) | h) | h
  ·have:=h1 h;omega
  ·omega
  ·have:=h2 h;omega
  ·omega
  ·have:=h3 h;omega
theorem lC: ∀ (b:Bk) (x:Nat),x∈kQ b→x≤(kQ b).length
 | .nil,x,h=> by simp [kQ] at h
 | .cons s b,x,h=> by
  have h1:=zJ s x
  have h2:=lC b x
  simp only [kQ,List.mem_append,List.length_append] at h ⊢
  rcases h with h | h
  ·have:=h1 h;omega
  ·have:=h2 h;omega
end
theorem tR: ∀ (l:List (Nat×Bk)) (x:Nat),x∈kP l→x≤(kP l).length
 | [],x,h=> by simp [kP] at h
 | (k,b)::l,x,h=> by
  have h1:=lC b x
  have h2:=tR l x
  simp only [kP,List.mem_append,List.length_append,List.length_cons,List.length_nil,List.mem_singleton] at h ⊢
  rcases h with (h | h) | h
  ·have:=h1 h;omega
  ·omega
  ·have:=h2 h;omega
theorem wB (l:List (Nat×Bk)) (i:Nat):qX l i≤(bU l 0).length:=by
 unfold qX
 rw [List.getD_eq_getElem?_getD]
 by_cases h:i < (kP l).length
 ·rw [List.getElem?_eq_getElem h,← oF l 0];exact tR l _ (List.getElem_mem h)
 ·rw [List.getElem?_eq_none ab];exact Nat.zero_le _

theorem mD: ∀ (l m:List (Nat×Bk)) (a:Nat),bU (l++m) a=bU l a++bU m (a+(bU l a).length)
 | [],m,a=> by simp [bU]
 | (h,b)::l,m,a=> by
  simp only [List.cons_append,bU,mD l m,List.append_assoc,List.length_append,List.length_cons,List.length_nil,Nat.add_assoc,Nat.zero_add,List.nil_append,Nat.add_comm 1 (List.length _)]
theorem su: ∀ (l m:List (Nat×Bk)) (a:Nat),jn (l++m) a=jn l a++jn m (a+(bU l a).length)
 | [],m,a=> by simp [bU,jn]
 | (h,b)::l,m,a=> by
  simp only [List.cons_append,bU,jn,su l m,List.append_assoc,List.length_append,List.length_cons,List.length_nil,Nat.add_assoc,Nat.zero_add,Nat.add_comm 1 (List.length _)]
def cd (l:List (Nat×Bk)) (k:Nat):Int:=(mt (jn l 0)).getD k (-1)
theorem vm (l:List (Nat×Bk)) (p:Nat×Bk) (hp:p.1 < 40):cd (l++[p])=oZ (cd l) p.1 (bU l 0).length:=by
 funext k
 have e:mt (jn (l++[p]) 0)=(mt (jn l 0)).set p.1 ((bU l 0).length:Int):=by
  rw [su]
  obtain ⟨h,b⟩:=p
  simp only [jn,mt,List.foldl_append,List.foldl_cons,List.foldl_nil,Nat.zero_add]
 unfold cd oZ
 rw [e,jj]
 by_cases hk:k=p.1
 ·rw [if_pos ⟨hk,by rw [zc];exact hp⟩,if_pos hk]
 ·rw [if_neg (fun h=> hk h.1),if_neg hk]
theorem tE (l:List (Nat×Bk)) (p:Nat×Bk):bU (l++[p]) 0=bU l 0++de p.2 (bU l 0).length++[{ op:= .stop }]:=by
 rw [mD]
 obtain ⟨h,b⟩:=p
 simp [bU]
def dX (h k:Nat):Int:=if k < h∨40≤k then -1 else 0
theorem yF (h:Nat) (hh:h < 40):oZ (dX h) h (-1)=dX (h+1):=by
 funext k
 unfold oZ dX
 by_cases h1:k=h
 ·rw [if_pos h1,if_pos ab]
 ·rw [if_neg h1]
  by_cases h2:k < h∨40≤k
  ·rw [if_pos h2,if_pos ab]
  ·rw [if_neg h2,if_neg ab]
theorem xX:dX 40=cd []:=by
 funext k
 have e:cd [] k=(List.replicate 40 (-1:Int)).getD k (-1):=rfl
 rw [e,dX,if_pos ab,List.getD_eq_getElem?_getD,List.getElem?_replicate]
 by_cases hk:k < 40
 ·rw [if_pos hk];rfl
 ·rw [if_neg hk];rfl
theorem xP (ons:List (Nat×Bk)) (j:Nat) (h:j < ons.length):ons.take (j+1)=ons.take j++[ons[j]]:=List.take_succ_eq_append_getElem h
theorem oz (ons:List (Nat×Bk)) (j:Nat):(bU (ons.take j) 0).length≤(bU ons 0).length:=by
 conv=> rhs;rw [← List.take_append_drop j ons,mD]
 rw [List.length_append];omega
theorem vi {n:Nat} (h:n < 40):ij (n:Int) 40=n:=by unfold ij;rw [if_neg ab];omega
structure UOk (d v:List Tx) (ons:List (Nat×Bk)):Prop where
 nd:(d++v).Nodup
 len:(d++v).length≤16
 ok: ∀ p∈ons,iB (d++v).length p.2
 pp: ∀ p∈ons,nj p.2=true
 h: ∀ p∈ons,p.1 < 40
 c:(bU ons 0).length≤1000000
 n:ons.length≤1000
theorem UOk.good {d v:List Tx} {ons:List (Nat×Bk)} (U:UOk d v ons):Good (qX ons) (d++v).length 0 ((bU ons 0).length - 1) 0 (bU ons 0):=
 tT (qX ons) (d++v).length ons 0 0 ((bU ons 0).length - 1) U.ok (nw ons) (Nat.le_refl _) ab
theorem UOk.ent {d v:List Tx} {ons:List (Nat×Bk)} (U:UOk d v ons) (k:Nat):0≤cd ons k→cd ons k < (bU ons 0).length→qX ons (cd ons k).toNat=0:=fun h0 h1=> by
 rcases tj ons k with h | ⟨e,_,h,_,h2⟩
 ·unfold cd at h0;omega
 ·unfold cd;rw [h,Int.toNat_natCast];exact h2
abbrev JE (d v:List Tx) (ons:List (Nat×Bk)):AV:= .agg (xx (bU ons 0).length (inl (bU ons 0)) (cd ons) (d.length:Int) (v.length:Int))
abbrev zA:AV:= .agg (De (.v (.slice none 0 0)) (fun _=> 0) 0 0)
def Ce (ons:List (Nat×Bk)):Int:=if 400 < (bU ons 0).length then 2 else 13
abbrev wt (d v:List Tx) (ons:List (Nat×Bk)):AV:=if ip ons=true then .tup [JE d v ons, .v (.int .i64 0)] else .tup [zA, .v (.int .i64 (Ce ons))]
abbrev nk (d v:List Tx) (ons:List (Nat×Bk)):List Hd:=ons.map fun p=> (p.1,jP (d++v) p.2)
theorem jK (d v:List Tx) (ons:List (Nat×Bk)) (U:UOk d v ons):
  Spec Tryz.prog 57 (bj [DX d v (nk d v ons)] []) (aT (wt d v ons) []):=by
 obtain ⟨H,hH⟩: ∃ H,H=nk d v ons:=⟨_,rfl⟩
 have hHl:H.length=ons.length:=by rw [hH,List.length_map]
 have hHk: ∀ k (h:k < ons.length),mK H k=((ons[k]).1,jP (d++v) (ons[k]).2):=fun k h=> by rw [hH];exact za ons _ k h
 rw [← hH]
 clear hH
 have hUn:=U.n
 have hUc:=U.c
 have hUl:=U.len
 have hdl:d.length≤16∧v.length≤16:=by rw [List.length_append] at hUl;omega
 refine Spec.ofN Tryz.func57 rfl Tryz.ntmps57 rfl ?_
 refine am (ai (bm (1,0) _ rfl rfl) (ai (az (2,0) aa rfl rfl) (ba rfl (aj (am (bz rfl rfl rfl (fA rfl rfl rfl (ai (bI _ aa rfl) (bz rfl rfl rfl (fA rfl rfl rfl ?_))))))))))
 refine ai (bI _ aa rfl) (ai (aB _ aa rfl (by exact (rfl:_=some [_,_,_,_,_,_,_,_,_,_,_,_,_,_,_,_,_,_,_,_,_,_,_,_,_,_,_,_,_,_,_,_,_,_,_,_,_,_,_,_,_,_,_]))) ?_)
 refine ai (az (4,0) aa rfl rfl) (bO rfl rfl rfl rfl rfl rfl (aj (aH fun K3 hK3=> ?_)))
 refine am (ba rfl (aj (au ?_)))
 refine aN (Le.nilB (4,0) 0 (60,0) 48 2 rfl rfl rfl) ?_
 refine bD (α:=Nat) (fun q=> q≤40) 79 [(1,_),(2,_),(4,_)] [((1,0),_),((2,0),_),((60,0),_)] (fun q=> [(5, .v (.int .i64 (q:Int)))]) (fun q=> [((4,0), .box 26 [.ref (60,0) 0 0, .v (.int .i64 (dX q 0)), .v (.int .i64 (dX q 1)), .v (.int .i64 (dX q 2)), .v (.int .i64 (dX q 3)), .v (.int .i64 (dX q 4)), .v (.int .i64 (dX q 5)), .v (.int .i64 (dX q 6)), .v (.int .i64 (dX q 7)), .v (.int .i64 (dX q 8)), .v (.int .i64 (dX q 9)), .v (.int .i64 (dX q 10)), .v (.int .i64 (dX q 11)), .v (.int .i64 (dX q 12)), .v (.int .i64 (dX q 13)), .v (.int .i64 (dX q 14)), .v (.int .i64 (dX q 15)), .v (.int .i64 (dX q 16)), .v (.int .i64 (dX q 17)), .v (.int .i64 (dX q 18)), .v (.int .i64 (dX q 19)), .v (.int .i64 (dX q 20)), .v (.int .i64 (dX q 21)), .v (.int .i64 (dX q 22)), .v (.int .i64 (dX q 23)), .v (.int .i64 (dX q 24)), .v (.int .i64 (dX q 25)), .v (.int .i64 (dX q 26)), .v (.int .i64 (dX q 27)), .v (.int .i64 (dX q 28)), .v (.int .i64 (dX q 29)), .v (.int .i64 (dX q 30)), .v (.int .i64 (dX q 31)), .v (.int .i64 (dX q 32)), .v (.int .i64 (dX q 33)), .v (.int .i64 (dX q 34)), .v (.int .i64 (dX q 35)), .v (.int .i64 (dX q 36)), .v (.int .i64 (dX q 37)), .v (.int .i64 (dX q 38)), .v (.int .i64 (dX q 39)), .v (.int .i64 (d.length:Int)), .v (.int .i64 (v.length:Int))])]) [] [] (fun q=> 40 - q) 0 ?_ (by
  refine Le.mkJ [] [] rfl ?_ ?_ trivial trivial ?_
  ·exact ⟨(iP rfl),(iP rfl),(iP rfl),(bY ag),trivial⟩
  ·exact ⟨(ce rfl rfl rfl),(ce rfl rfl rfl),(ce rfl rfl rfl),(di rfl rfl rfl rfl lz),trivial⟩
  ·kernel_rfl) ?_
 ·omega
 intro q hq
 refine aH fun K5 hK5=> ?_
 refine am (aP rfl (ai (bp _ _ rfl rfl rfl) (aj (aO rfl (fun hc17=> ?_) (fun hc17=> ?_)))))
 ·skip
  refine bB (hK5 _ ?_)
  clear hK5;try clear K5
  refine aq (au (an (aP rfl (bz rfl rfl rfl (ai (ek _ _ aa rfl rfl rfl q rfl ab (by exact congrArg (fun z=> 0+1+z) (Nat.mul_one q))) ?_)))))
  refine ai (lm _ _ aa rfl rfl rfl rfl (show 0+1+q+1≤43 by omega) ((congrArg (fun z=> fC (De (.ref (60,0) 0 0) (dX q) (d.length:Int) (v.length:Int)) z [.v (.int .i64 (-1))]) ab).trans ((qe _ _ _ _ q ab _).trans (by rw [yF _ ab])))) ?_
  refine ga (an (aP rfl (ai (bc _ _ rfl rfl (be ab)) ?_)))
  refine ba rfl (ax (⟨q+1,?_,?_,?_⟩))
  ·omega
  ·skip
   refine Le.mkJ [] [] rfl ?_ ?_ trivial trivial ?_
   ·exact ⟨(iP rfl),(iP rfl),(iP rfl),(bY ag),trivial⟩
   ·exact ⟨(ce rfl rfl rfl),(ce rfl rfl rfl),(ce rfl rfl rfl),(di rfl rfl rfl rfl lz),trivial⟩
   ·kernel_rfl
  ·omega
 ·skip
  obtain rfl:q=40:=by omega
  rw [xX]
  refine bK (id (hK3 _ ?_))
  clear hK3;try clear K3
  refine aH fun K8 hK8=> ?_
  refine am (ba rfl (aj (au ?_)))
  refine bD (α:=Nat) (fun j=> j≤H.length) 79 [(1,_),(2,_),(4,_)] [((1,0),_),((2,0),_)] (fun j=> [(6, .v (.int .i64 (j:Int)))]) (fun j=> [((60,0), .row 48 2 (inl (bU (ons.take j) 0))),((4,0), .box 26 [.ref (60,0) 0 (bU (ons.take j) 0).length, .v (.int .i64 (cd (ons.take j) 0)), .v (.int .i64 (cd (ons.take j) 1)), .v (.int .i64 (cd (ons.take j) 2)), .v (.int .i64 (cd (ons.take j) 3)), .v (.int .i64 (cd (ons.take j) 4)), .v (.int .i64 (cd (ons.take j) 5)), .v (.int .i64 (cd (ons.take j) 6)), .v (.int .i64 (cd (ons.take j) 7)), .v (.int .i64 (cd (ons.take j) 8)), .v (.int .i64 (cd (ons.take j) 9)), .v (.int .i64 (cd (ons.take j) 10)), .v (.int .i64 (cd (ons.take j) 11)), .v (.int .i64 (cd (ons.take j) 12)), .v (.int .i64 (cd (ons.take j) 13)), .v (.int .i64 (cd (ons.take j) 14)), .v (.int .i64 (cd (ons.take j) 15)), .v (.int .i64 (cd (ons.take j) 16)), .v (.int .i64 (cd (ons.take j) 17)), .v (.int .i64 (cd (ons.take j) 18)), .v (.int .i64 (cd (ons.take j) 19)), .v (.int .i64 (cd (ons.take j) 20)), .v (.int .i64 (cd (ons.take j) 21)), .v (.int .i64 (cd (ons.take j) 22)), .v (.int .i64 (cd (ons.take j) 23)), .v (.int .i64 (cd (ons.take j) 24)), .v (.int .i64 (cd (ons.take j) 25)), .v (.int .i64 (cd (ons.take j) 26)), .v (.int .i64 (cd (ons.take j) 27)), .v (.int .i64 (cd (ons.take j) 28)), .v (.int .i64 (cd (ons.take j) 29)), .v (.int .i64 (cd (ons.take j) 30)), .v (.int .i64 (cd (ons.take j) 31)), .v (.int .i64 (cd (ons.take j) 32)), .v (.int .i64 (cd (ons.take j) 33)), .v (.int .i64 (cd (ons.take j) 34)), .v (.int .i64 (cd (ons.take j) 35)), .v (.int .i64 (cd (ons.take j) 36)), .v (.int .i64 (cd (ons.take j) 37)), .v (.int .i64 (cd (ons.take j) 38)), .v (.int .i64 (cd (ons.take j) 39)), .v (.int .i64 (d.length:Int)), .v (.int .i64 (v.length:Int))])]) [] [] (fun j=> H.length - j) 0 ?_ (by
   refine Le.mkJ [] [] rfl ?_ ?_ trivial trivial ?_
   ·exact ⟨(iP rfl),(iP rfl),(iP rfl),(bY ag),trivial⟩
   ·exact ⟨(ce rfl rfl rfl),(ce rfl rfl rfl),(cw rfl rfl rfl ag),(di rfl rfl rfl rfl lz),trivial⟩
   ·kernel_rfl) ?_
  ·omega
  intro j hj
  have hct:=oz ons j
  refine aH fun K10 hK10=> ?_
  refine am (aP rfl (bz rfl rfl rfl (fA rfl rfl rfl (ai (bI _ aa rfl) (ai (bp _ _ rfl rfl rfl) (aj (aO rfl (fun hc27=> ?_) (fun hc27=> ?_))))))))
  ·skip
   have hj:j < ons.length:=by omega
   have hct1:=oz ons (j+1)
   have hUh:=U.h _ (List.getElem_mem hj)
   have hUo:=U.ok _ (List.getElem_mem hj)
   have hUp:=U.pp _ (List.getElem_mem hj)
   have hbody:=rC H j ab
   have hg0:=ja H j ab
   rw [hHk j hj] at hbody hg0
   have hsn:=tE (ons.take j) (ons[j])
   have hen:=vm (ons.take j) (ons[j]) hUh
   rw [← xP ons j hj] at hsn hen
   have hsl:=congrArg List.length hsn
   simp only [List.length_append,List.length_cons,List.length_nil] at hsl
   have hcb:=Bp (d:=d) (v:=v) (no:=H.length) (on:=lA H) U.nd ab (ons[j]).2 hUo hUp (bU (ons.take j) 0).length ab
   generalize de (ons[j]).2 (bU (ons.take j) 0).length=C at hsn hsl hcb
   generalize (ons[j]).2=bd at hbody hcb
   generalize (ons[j]).1=h at hbody hg0 hen hUh
   have har:=kv (h:Int) 40 ab ab ab ab
   rw [vi hUh] at har
   refine bB (hK10 _ ?_)
   clear hK10;try clear K10
   refine aq (au (am (bz rfl rfl rfl (fA rfl rfl rfl (aP rfl (ai (bi _ _ aa rfl rfl _ rfl ab (by (simp only [aZ,bq,bo,bG,bE,bM,bF,bN,eu,aZ,List.length_map];omega)) ag) ?_))))))
   refine ai (dn _ aa rfl rfl) (ai (bH _ aa rfl (by exact hg0) rfl) ?_)
   refine ai (aF aa al (har) rfl rfl) ?_
   refine ba rfl (aj (am (aP rfl (bz rfl rfl rfl (ai (aM _ aa rfl rfl (rfl:_=some (AV.ref _ _ _))) (ai (dv _ aa rfl rfl) (bz rfl rfl rfl (ai (ek _ _ aa rfl rfl rfl h rfl ab (by exact congrArg (fun z=> 0+1+z) (Nat.mul_one h))) ?_))))))))
   refine ai (lm _ _ aa rfl rfl rfl rfl (show 0+1+h+1≤43 by omega) ((congrArg (fun z=> fC (De (.ref (60,0) 0 (bU (ons.take j) 0).length) (cd (ons.take j)) (d.length:Int) (v.length:Int)) z [.v (.int .i64 ((bU (ons.take j) 0).length:Int))]) ab).trans ((qe _ _ _ _ h ab _).trans (by rw [← hen])))) ?_
   refine aj (aq ?_)
   refine aN (σ':=aA 79 [(1,_),(2,_),(4,_),(6,_)] [((1,0),_),((2,0),_),((60,0),_),((4,0),_)] [] []) kp ?_
   refine bu 13 [43,44,45,46,47,48,49,50,51,52,53,54,55] [(50,0)] ae ae rfl (aK rfl) (rfl:_=[_,_,_,_,_,_,_,_,_,_,_,_,_]) (rfl:_=[_,_,_]) ?_
   refine ap (_,[]) (fun τ=> aI _ aa rfl rfl rfl) ?_
   refine el rfl ?_
   refine ap (_,[]) (fun τ=> aM _ aa rfl rfl (rfl:_=some (AV.ref _ _ _))) ?_
   refine eo rfl ?_
   refine ap (_,[]) (fun τ=> aR _ aa rfl rfl rfl rfl) ?_
   refine ep rfl ?_
   refine ap (_,[]) (fun τ=> aI _ aa rfl rfl rfl) ?_
   refine ew rfl ?_
   refine ap (_,[]) (fun τ=> aM _ aa rfl rfl (rfl:_=some (AV.sl _ _))) ?_
   refine eF rfl ?_
   refine ap (_,[]) (fun τ=> aC _ (rfl:_=AV.v (.int _ _))) ?_
   refine eV rfl ?_
   refine ap (_,[]) (fun τ=> bi _ _ aa rfl rfl _ rfl ab (by (simp only [aZ,bq,bo,bG,bE,bM,bF,bN,eu,aZ,List.length_map];omega)) ag) ?_
   refine fF rfl ?_
   refine ap (_,[]) (fun τ=> dn _ aa rfl rfl) ?_
   refine iu rfl ?_
   refine ap (_,[]) (fun τ=> cp _ aa rfl (by exact hbody) rfl) ?_
   refine ig rfl ?_
   refine ap (_,[]) (fun τ=> aI _ aa rfl rfl rfl) ?_
   refine eO rfl ?_
   refine ap (_,[]) (fun τ=> aM _ aa rfl rfl (rfl:_=some (AV.ref _ _ _))) ?_
   refine fc rfl ?_
   refine ap (_,[]) (fun τ=> dv _ aa rfl rfl) ?_
   refine gU rfl ?_
   refine ap (_,[((50,0),_)]) (fun τ=> (eC aa [((0,8),(50,0))] ar (hcb.toI) trivial tr tr rfl rfl ae ae)) ?_
   refine gY rfl (bg ⟨rfl,?_⟩)
   refine ai (cE (56,0) _ _ aa rfl rfl (bN _).symm (.ref rfl (lD _) (kr _)) ab rfl (kL _ _) (show (bU (ons.take j) 0).length+C.length=(bU (ons.take j) 0++C).length by simp)) ?_
   refine bz rfl rfl rfl (bO rfl rfl rfl rfl rfl rfl (aj ?_))
   refine aN (σ':=aA 79 [(1,_),(2,_),(4,_),(6,_)] [((1,0),_),((2,0),_),((4,0),_),((56,0),_)] [] []) kp ?_
   refine an (bz rfl rfl rfl (ai (aM _ aa rfl rfl (rfl:_=some (AV.ref _ _ _))) (ai (aB _ aa rfl (by exact (rfl:_=some [_,_]))) ?_)))
   refine ai (aU _ _ aa rfl ag (by (simp <;> rfl)) ah rfl) ?_
   refine ai (cE (62,0) _ _ aa rfl rfl (bN _).symm (.sl rfl) (by simp;omega) rfl ((eR _ { op:= .stop }).trans (congrArg inl hsn.symm)) (show (bU (ons.take j) 0++C).length+1=(bU (ons.take (j+1)) 0).length by simp [hsl])) ?_
   refine bz rfl rfl rfl (bO rfl rfl rfl rfl rfl rfl (ga (an (aP rfl (ai (bc _ _ rfl rfl (be ab)) ?_)))))
   refine ba rfl (ax (⟨j+1,?_,?_,?_⟩))
   ·omega
   ·skip
    refine Le.mkJ [((60,0),(62,0))] [] rfl ?_ ?_ trivial trivial ?_
    ·exact ⟨(cr (id:=(1,0)) rfl),(cr (id:=(2,0)) rfl),(cr (id:=(4,0)) rfl),(bY ag),trivial⟩
    ·exact ⟨(di rfl rfl rfl rfl (by repeat' (first | exact Lv.sl | exact bf | refine aD ?_ ?_))),(di rfl rfl rfl rfl (by repeat' (first | exact Lv.v | exact bf | refine aD ?_ ?_))),(cw rfl rfl rfl ag),(di rfl rfl rfl rfl lz),trivial⟩
    ·kernel_rfl
   ·omega
  ·skip
   obtain rfl:j=ons.length:=by omega
   rw [List.take_length]
   refine bK (id (hK8 _ ?_))
   clear hK8;try clear K8
   refine aq (am (bz rfl rfl rfl (ai (aM _ aa rfl rfl (rfl:_=some (AV.ref _ _ _))) (ai (dv _ aa rfl rfl) (ai (dB _ _ rfl rfl rfl) (aj (aO rfl (fun hc67=> ?_) (fun hc67=> ?_))))))))
   ·skip
    have hco:ip ons≠true:=by
     unfold ip
     rw [decide_eq_false ab,Bool.false_and]
     exact Bool.false_ne_true
    rw [wt,if_neg hco,Ce,if_pos ab]
    refine am (ai (aB _ aa rfl (by exact (rfl:_=some [_,_,_,_,_,_,_,_,_,_,_,_,_,_,_,_,_,_,_,_,_,_,_,_,_,_,_,_,_,_,_,_,_,_,_,_,_,_,_,_,_,_,_]))) ?_)
    exact bO rfl rfl rfl rfl rfl rfl (ba rfl (aj (aE (lT (.inr rfl) rfl (.cellA aa rfl rfl rfl) (.tmp (rfl:_=AV.v _)) (Le.out [] [] (.tup rfl lz) rfl rfl rfl trivial trivial)))))
   ·skip
    have hl4:(bU ons 0).length≤400:=by omega
    refine aL (aH fun K19 hK19=> ?_)
    refine am (ba rfl (aj (au ?_)))
    refine aN (Le.frzB (4,0) 0 rfl rfl rfl rfl (ys:=inl (bU ons 0)) (by rw [List.drop_zero];exact List.take_of_length_le (by rw [bN];omega)) (by rw [bN];omega)) ?_
    refine bD (α:=Nat) (fun h=> h≤40∧ ∀ k,k < h→jN (bU ons 0) (ix (bU ons 0) (cd ons k)).1 (bU ons 0).length≤16) 79 [(2,_),(4,_)] [((2,0),_)] (fun h=> [(8, .v (.int .i64 (h:Int)))]) (fun h=> [((4,0), .box 26 [.sl (bU ons 0).length (inl (bU ons 0)), .v (.int .i64 (cd ons 0)), .v (.int .i64 (cd ons 1)), .v (.int .i64 (cd ons 2)), .v (.int .i64 (cd ons 3)), .v (.int .i64 (cd ons 4)), .v (.int .i64 (cd ons 5)), .v (.int .i64 (cd ons 6)), .v (.int .i64 (cd ons 7)), .v (.int .i64 (cd ons 8)), .v (.int .i64 (cd ons 9)), .v (.int .i64 (cd ons 10)), .v (.int .i64 (cd ons 11)), .v (.int .i64 (cd ons 12)), .v (.int .i64 (cd ons 13)), .v (.int .i64 (cd ons 14)), .v (.int .i64 (cd ons 15)), .v (.int .i64 (cd ons 16)), .v (.int .i64 (cd ons 17)), .v (.int .i64 (cd ons 18)), .v (.int .i64 (cd ons 19)), .v (.int .i64 (cd ons 20)), .v (.int .i64 (cd ons 21)), .v (.int .i64 (cd ons 22)), .v (.int .i64 (cd ons 23)), .v (.int .i64 (cd ons 24)), .v (.int .i64 (cd ons 25)), .v (.int .i64 (cd ons 26)), .v (.int .i64 (cd ons 27)), .v (.int .i64 (cd ons 28)), .v (.int .i64 (cd ons 29)), .v (.int .i64 (cd ons 30)), .v (.int .i64 (cd ons 31)), .v (.int .i64 (cd ons 32)), .v (.int .i64 (cd ons 33)), .v (.int .i64 (cd ons 34)), .v (.int .i64 (cd ons 35)), .v (.int .i64 (cd ons 36)), .v (.int .i64 (cd ons 37)), .v (.int .i64 (cd ons 38)), .v (.int .i64 (cd ons 39)), .v (.int .i64 (d.length:Int)), .v (.int .i64 (v.length:Int))])]) [] [] (fun h=> 40 - h) 0 ?_ (by
     refine Le.mkJ [] [] rfl ?_ ?_ trivial trivial ?_
     ·exact ⟨(iP rfl),(iP rfl),(bY ag),trivial⟩
     ·exact ⟨(ce rfl rfl rfl),(di rfl rfl rfl rfl lz),trivial⟩
     ·kernel_rfl) ?_
    ·exact ⟨Nat.zero_le _,fun k hk=> absurd hk (Nat.not_lt_zero _)⟩
    intro h hh
    obtain ⟨hk,hks⟩:=hh
    refine aH fun K21 hK21=> ?_
    refine am (aP rfl (ai (bp _ _ rfl rfl rfl) (aj (aO rfl (fun hc70=> ?_) (fun hc70=> ?_)))))
    ·skip
     have hh4:h < 40:=by omega
     have hdm:=lB (C:=bU ons 0) (oG U.good (U.ent h)) (B:=1000000) (fun i _=> Nat.le_trans (wB ons i) hUc) _ (Nat.le_refl _)
     have hde:=sN (bU ons 0) (cd ons) (d.length:Int) (v.length:Int) h hh4 hUc (qX ons) (d++v).length U.good (fun i=> Nat.le_trans (wB ons i) hUc) (U.ent h)
     refine bB (hK21 _ ?_)
     clear hK21;try clear K21
     refine aq (au (am (ai (aR _ aa rfl rfl rfl rfl) (aP rfl (ai (aF aa al (hde) rfl rfl) ?_)))))
     refine ai (dB _ _ rfl rfl rfl) (aj (aO rfl (fun hc76=> ?_) (fun hc76=> ?_)))
     ·skip
      have hco:ip ons≠true:=fun e=> by
       unfold ip at e
       rw [Bool.and_eq_true,List.all_eq_true] at e
       have:=e.2 h (List.mem_range.2 hh4)
       rw [decide_eq_true_eq] at this
       exact absurd (show jN (bU ons 0) (ix (bU ons 0) (cd ons h)).1 (bU ons 0).length≤16 from this) ab
      rw [wt,if_neg hco,Ce,if_neg ab]
      refine am (ai (aB _ aa rfl (by exact (rfl:_=some [_,_,_,_,_,_,_,_,_,_,_,_,_,_,_,_,_,_,_,_,_,_,_,_,_,_,_,_,_,_,_,_,_,_,_,_,_,_,_,_,_,_,_]))) ?_)
      exact bO rfl rfl rfl rfl rfl rfl (ba rfl (aj (aE (lT (.inr rfl) rfl (.cellA aa rfl rfl rfl) (.tmp (rfl:_=AV.v _)) (Le.out [] [] (.tup rfl lz) rfl rfl rfl trivial trivial)))))
     ·skip
      refine cf (an (aP rfl (ai (bc _ _ rfl rfl (be ab)) ?_)))
      refine ba rfl (ax (⟨h+1,?_,?_,?_⟩))
      ·exact ⟨by omega,fun k hk=> (by
        rcases Nat.lt_or_ge k h with hlt | hge
        ·exact hks k hlt
        ·obtain rfl:k=h:=by omega
         omega)⟩
      ·skip
       refine Le.mkJ [] [] rfl ?_ ?_ trivial trivial ?_
       ·exact ⟨(iP rfl),(iP rfl),(bY ag),trivial⟩
       ·exact ⟨(ce rfl rfl rfl),(di rfl rfl rfl rfl lz),trivial⟩
       ·kernel_rfl
      ·omega
    ·skip
     obtain rfl:h=40:=by omega
     have hco:ip ons=true:=by
      unfold ip
      rw [Bool.and_eq_true,decide_eq_true_eq,List.all_eq_true]
      exact ⟨hl4,fun k hk=> decide_eq_true (hks k (List.mem_range.1 hk))⟩
     refine bK (id (hK19 _ ?_))
     clear hK19;try clear K19
     refine am (ai (aR _ aa rfl rfl rfl rfl) (bO rfl rfl rfl rfl rfl rfl (ba rfl (aj (aE ?_)))))
     rw [wt,if_pos hco]
     exact lT (.inr rfl) rfl (.cellA aa rfl rfl rfl) (.tmp (rfl:_=AV.v _)) (Le.out [] [] (.tup rfl lz) rfl rfl rfl trivial trivial)

structure zW (s:Tx) (d v:List Tx) (ons:List (Nat×Bk)):Prop extends UOk d v ons where
 p:qv s=some (d,v,nk d v ons)
 l:s.length≤3000
 wl: ∀ p∈ons,oK p.2=true
theorem wJ {s:Tx} {d v:List Tx} {ons:List (Nat×Bk)} (U:zW s d v ons) (hc:ip ons=true):
  Spec Tryz.prog 64 (bj [.v (bt s)] []) (aT (wt d v ons) []):=by
 have h1:=nL s U.l _ _ _ U.p
 have h2:Spec Tryz.prog 97 (bj [DX d v (nk d v ons)] []) (aT (.v (.int .i64 0)) []):=oA d v ons U.nd U.len U.ok U.wl U.n
 have h3:=jK d v ons U.toUOk
 rw [wt,if_pos hc] at h3 ⊢
 obtain ⟨H,hH⟩: ∃ H,H=nk d v ons:=⟨_,rfl⟩
 rw [← hH] at h1 h2 h3
 clear hH
 refine Spec.ofN Tryz.func64 rfl Tryz.ntmps64 rfl ?_
 refine am (ai (az (2,0) aa rfl rfl) (ba rfl (aj (am (dQ rfl (ai (aF aa al (h1) rfl rfl) ?_))))))
 refine ai (aC _ (rfl:_=AV.tup _)) (ai (dk _ rfl (rfl:_=some (AV.agg _))) (ai (dk _ rfl (rfl:_=some (AV.v (.int _ _)))) (ai (dk _ rfl (rfl:_=some (AV.v (.int _ _)))) (ai (az (4,0) aa rfl rfl) (bO rfl rfl rfl rfl rfl rfl (ba rfl (ba rfl (aj (aq (am ?_))))))))))
 refine aP rfl (ai (cg (r:=false) _ _ rfl rfl rfl) (aj (aS rfl rfl (aL (am (ai (aR _ aa rfl rfl rfl rfl) (ai (aF aa al (h2) rfl rfl) ?_)))))))
 refine ba rfl (aj (aq (aq ?_)))
 refine aN (σ':=aA 32 [(2,_),(4,_),(6,_)] [((2,0),_),((4,0),_)] [] []) kp ?_
 refine an (aP rfl (ai (cg (r:=false) _ _ rfl rfl rfl) (aj (aS rfl rfl (aL (am (ai (aR _ aa rfl rfl rfl rfl) (ai (aF aa al (h3) rfl rfl) ?_))))))))
 refine ai (aC _ (rfl:_=AV.tup _)) (ai (dk _ rfl (rfl:_=some (AV.agg _))) (ai (dk _ rfl (rfl:_=some (AV.v (.int _ _)))) (ai (az (7,0) aa rfl rfl) (bO rfl rfl rfl rfl rfl rfl (ba rfl (aj (am (ai (aR _ aa rfl rfl rfl rfl) (aP rfl (bO rfl rfl rfl rfl rfl rfl ?_))))))))))
 exact ba rfl (aj (aE (lT (.inr rfl) rfl (.cellA aa rfl rfl rfl) (.tmp (rfl:_=AV.v _)) (Le.out [] [] (.tup rfl lz) rfl rfl rfl trivial trivial))))
theorem yl {s:Tx} {d v:List Tx} {ons:List (Nat×Bk)} (U:zW s d v ons) (hc:ip ons≠true):
  Spec Tryz.prog 64 (bj [.v (bt s)] []) (aT (wt d v ons) []):=by
 have h1:=nL s U.l _ _ _ U.p
 have h2:Spec Tryz.prog 97 (bj [DX d v (nk d v ons)] []) (aT (.v (.int .i64 0)) []):=oA d v ons U.nd U.len U.ok U.wl U.n
 have h3:=jK d v ons U.toUOk
 rw [wt,if_neg hc] at h3 ⊢
 generalize Ce ons=er at h3 ⊢
 obtain ⟨H,hH⟩: ∃ H,H=nk d v ons:=⟨_,rfl⟩
 rw [← hH] at h1 h2 h3
 clear hH
 refine Spec.ofN Tryz.func64 rfl Tryz.ntmps64 rfl ?_
 refine am (ai (az (2,0) aa rfl rfl) (ba rfl (aj (am (dQ rfl (ai (aF aa al (h1) rfl rfl) ?_))))))
 refine ai (aC _ (rfl:_=AV.tup _)) (ai (dk _ rfl (rfl:_=some (AV.agg _))) (ai (dk _ rfl (rfl:_=some (AV.v (.int _ _)))) (ai (dk _ rfl (rfl:_=some (AV.v (.int _ _)))) (ai (az (4,0) aa rfl rfl) (bO rfl rfl rfl rfl rfl rfl (ba rfl (ba rfl (aj (aq (am ?_))))))))))
 refine aP rfl (ai (cg (r:=false) _ _ rfl rfl rfl) (aj (aS rfl rfl (aL (am (ai (aR _ aa rfl rfl rfl rfl) (ai (aF aa al (h2) rfl rfl) ?_)))))))
 refine ba rfl (aj (aq (aq ?_)))
 refine aN (σ':=aA 32 [(2,_),(4,_),(6,_)] [((2,0),_),((4,0),_)] [] []) kp ?_
 refine an (aP rfl (ai (cg (r:=false) _ _ rfl rfl rfl) (aj (aS rfl rfl (aL (am (ai (aR _ aa rfl rfl rfl rfl) (ai (aF aa al (h3) rfl rfl) ?_))))))))
 refine ai (aC _ (rfl:_=AV.tup _)) (ai (dk _ rfl (rfl:_=some (AV.agg _))) (ai (dk _ rfl (rfl:_=some (AV.v (.int _ _)))) (ai (az (7,0) aa rfl rfl) (bO rfl rfl rfl rfl rfl rfl (ba rfl (aj (am (ai (aR _ aa rfl rfl rfl rfl) (aP rfl (bO rfl rfl rfl rfl rfl rfl ?_))))))))))
 exact ba rfl (aj (aE (lT (.inr rfl) rfl (.cellA aa rfl rfl rfl) (.tmp (rfl:_=AV.v _)) (Le.out [] [] (.tup rfl lz) rfl rfl rfl trivial trivial))))
theorem tI {s:Tx} {d v:List Tx} {ons:List (Nat×Bk)} (U:zW s d v ons):
  Spec Tryz.prog 64 (bj [.v (bt s)] []) (aT (wt d v ons) []):=by
 by_cases hc:ip ons=true
 ·exact wJ U hc
 ·exact yl U hc
theorem CX {d v:List Tx} {ons:List (Nat×Bk)} (h:FX ons (d++v).length) (h1:(d++v).Nodup) (h2:(d++v).length≤16) (h3:(ons.all fun p=> nj p.2)=true) (h4:ons.length≤1000):UOk d v ons:=
 ⟨h1,h2,h.ok,fun p hp=> (List.all_eq_true.1 h3) p hp,h.h,by have:=h.n;omega,h4⟩
theorem usrcL:zW Co BH Bv onsL:=⟨CX srcOkL ah ah ae ah,DB,of_decide_eq_true ae,srcOkL.wl⟩
end Go.Proofs.YtmjnackchaahbaaGreat

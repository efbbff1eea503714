/- Part 14 of the texts that the walk leans on: the machine, the walks, the plain laws. -/
import Derived.Test.YtmjnackchaahbaaGreatVaZ13
set_option linter.unusedSimpArgs false
set_option linter.unusedVariables false
namespace Go.Proofs.YtmjnackchaahbaaGreat
open Go.RowKit

theorem gv {l:List Int} {i:Nat} (h:i < l.length):l.getD i (-1)=l.getD i 0:=by
 rw [List.getD_eq_getElem?_getD,List.getD_eq_getElem?_getD,List.getElem?_eq_getElem h];rfl
theorem tu {n:Nat} {d:Int} {s:DS} {l:List Nat} {k:Nat} (h:k < l.length):(l.take (k+1)).foldl (ig n d) s=ig n d ((l.take k).foldl (ig n d) s) (l.getD k 0):=by
 rw [List.take_succ_eq_append_getElem h,List.foldl_append,List.getD_eq_getElem?_getD,List.getElem?_eq_getElem h];rfl
theorem Br (n k:Nat) (h:k < n):((List.replicate k (-1:Int))++List.replicate (n - k) 0).set k (-1)=List.replicate (k+1) (-1)++List.replicate (n - (k+1)) 0:=by
 rw [List.set_append_right _ _ (by simp),List.length_replicate,Nat.sub_self,show n - k=(n - (k+1))+1 by omega,List.replicate_succ,List.set_cons_zero,show List.replicate (k+1) (-1:Int)=List.replicate k (-1)++[-1] from List.replicate_succ']
 simp
theorem xG {ρ:aE→aE} {σ:St} {F:aE→Bool} {id:aE} {e:TypeId} {sz n m:Nat} {xs ys:List PV} (hid:σ.ob id= .obj (.row e sz xs)) (hF:F id=true) (hl:n*sz=xs.length) (hy:xs=ys) (hn:n=m):Lv ρ σ F (.sl m ys) (.ref id 0 n):=by
 subst hn;exact iy hid hF hl hy
theorem DI.flag {D:Nat→Nat} {n:Nat} {s:DS} {b:Bool} (h:DI D n s):DI D n (s.1,s.2.1,b):=⟨h.len,h.val,h.ok⟩
def ve (C:List ek) (R:List Int×Bool) (z:(List Int×Bool)×Bool):Prop:=if z.2=true then ∃ f,neg z.1.1+1≤f∧il C f z.1=R else z.1=R
theorem wj {C:List ek} {R:List Int×Bool} {s:List Int×Bool} {f:Nat} (hf:neg s.1+1≤f) (hR:il C f s=R) (hd:(dm C s C.length).2.2=true→neg (dm C s C.length).1 < neg s.1):
  ve C R (((dm C s C.length).1,(dm C s C.length).2.1),(dm C s C.length).2.2):=by
 obtain ⟨g,rfl⟩: ∃ g,f=g+1:=⟨f - 1,by omega⟩
 unfold ve
 cases hb:(dm C s C.length).2.2 with
 | true=>
  have:=hd hb
  rw [if_pos rfl]
  exact ⟨g,by simp only;omega,by rw [← hR,tx hb]⟩
 | false=> rw [if_neg (by simp)];rw [← hR,tB hb]
def Je (z:(List Int×Bool)×Bool):Nat:=if z.2=true then neg z.1.1+1 else 0
theorem Ek {C:List ek} {s:List Int×Bool} (hd:(dm C s C.length).2.2=true→neg (dm C s C.length).1 < neg s.1):Je (((dm C s C.length).1,(dm C s C.length).2.1),(dm C s C.length).2.2) < neg s.1+1:=by
 unfold Je
 simp only
 split
 ·rename_i h;have:=hd h;omega
 ·omega
theorem vp {C:List ek} {s:DS} {i:Nat} (h:s.1.getD i (-1) < 0):kb C s i=s:=by unfold kb;rw [if_pos h]
theorem xp {C:List ek} {s:DS} {i:Nat} (h: ¬ s.1.getD i (-1) < 0) (h2: ¬ s.1.getD i (-1) - (cK C i).op.pops < 0):kb C s i=(dy i (cK C i)).foldl (ig C.length (s.1.getD i (-1) - (cK C i).op.pops+(cK C i).op.puts)) s:=by
 unfold kb BL
 rw [if_neg h,if_neg h2,show max (s.1.getD i (-1) - (cK C i).op.pops) 0=s.1.getD i (-1) - (cK C i).op.pops by omega]
theorem ro (C:List ek) (en:Nat→Int) (dd vv:Int) (e:Int) (hC:C.length≤1000000) (D:Nat→Nat) (nv:Nat) (hg:Good D nv 0 (C.length - 1) 0 C) (hD: ∀ i,D i≤1000000) (he:0≤e→e < C.length→D e.toNat=0):
  Spec Tryz.prog 72 (bi [.agg (Ax C.length (inl C) en dd vv), .v (.int .i64 e)] []) (aW (.tup [.sl (gV C e).1.length (da (gV C e).1), .v (.bool (gV C e).2)]) []):=by
 refine Spec.ofN Tryz.func72 rfl Tryz.ntmps72 rfl ?_
 refine am (ai (bk (2,0) _ rfl rfl) (ai (bH _ (rfl:_=AV.v (.slice _ _ _))) (cq rfl (aj (am (bF rfl rfl rfl (fK rfl rfl rfl (ai (bG _ aa rfl) (ai (Gq (17,0) _ _ aa rfl rfl C.length rfl rfl ab rfl (uT C.length)) ?_)))))))))
 refine eZ rfl (aj (aG fun K3 hK3=> ?_))
 refine am (ba rfl (aj (au ?_)))
 refine bC (α:=Nat) (fun k=> k≤C.length) 123 [(1,_),(2,_)] [((2,0),_)] (fun k=> [(7, .v (.int .i64 (k:Int))),(6, .ref (6,0) 0 C.length)]) (fun k=> [((6,0), .row 3 1 (da (List.replicate k (-1)++List.replicate (C.length - k) 0)))]) [] [] (fun k=> C.length - k) 0 ?_ (by
  refine Le.mkJ [((6,0),(17,0))] [] rfl ?_ ?_ trivial trivial ?_
  ·exact ⟨(by repeat' (exact Lv.v)),(dL (id:=(2,0)) rfl),(cj ag),(dc rfl ag),trivial⟩
  ·exact ⟨(fH rfl rfl rfl rfl (by repeat' (first | exact Lv.v | exact Lv.sl | exact br | refine aH ?_ ?_))),(gH rfl rfl rfl ag),trivial⟩
  ·kernel_rfl) ?_
 ·omega
 intro k hk
 have hll:(List.replicate k (-1:Int)++List.replicate (C.length - k) 0).length=C.length:=by simp;omega
 refine aG fun K5 hK5=> ?_
 refine am (aR rfl (gG rfl (ai (dz _ aa rfl rfl) (ai (bp _ _ rfl rfl rfl) (aj (aV rfl (fun hc21=> ?_) (fun hc21=> ?_)))))))
 ·skip
  have hrs:=Br C.length k ab
  refine bA (hK5 _ ?_)
  clear hK5;try clear K5
  refine aq (au (an (gG rfl (aR rfl (ai (gK _ _ aa rfl rfl rfl _ rfl ab (by exact (Nat.zero_add _).trans (Nat.mul_one _))) ?_)))))
  refine ai (oz _ _ aa rfl rfl rfl rfl rfl (by simp;omega) ((lx _ _ _ ab).trans (congrArg da hrs))) ?_
  refine fT (an (aR rfl (ai (bc _ _ rfl rfl (bq ab)) ?_)))
  refine ba rfl (az (⟨k+1,?_,?_,?_⟩))
  ·omega
  ·skip
   refine Le.mkJ [] [] rfl ?_ ?_ trivial trivial ?_
   ·exact ⟨(iV rfl),(iP rfl),(cj ag),(dc rfl ag),trivial⟩
   ·exact ⟨(cG rfl rfl rfl),(gH rfl rfl rfl ag),trivial⟩
   ·kernel_rfl
  ·omega
 ·skip
  obtain rfl:k=C.length:=by omega
  have hrep:List.replicate C.length (-1:Int)++List.replicate (C.length - C.length) 0=List.replicate C.length (-1):=by simp
  refine bL (id (hK3 _ ?_))
  clear hK3;try clear K3
  refine aq (am (aR rfl (ai (bp _ _ rfl rfl rfl) (cH rfl (dO (fun hg29=> ?_) (fun hg29=> ?_))))))
  ·skip
   have hdf:gV C e=(List.replicate C.length (-1),true):=if_pos (.inl ab)
   refine aX rfl rfl ah ?_
   refine aX rfl rfl ah ?_
   refine aX rfl rfl ah ?_
   refine aX rfl rfl ah ?_
   refine ai (aF _ _ _ rfl (rfl:_=AV.v (.bool _))) (aj (bD rfl rfl (am (gG rfl (eZ rfl (cq rfl (aj (aC ?_))))))))
   rw [hdf]
   exact lK (.inr rfl) rfl (.tmp (rfl:_=AV.ref _ _ _)) (.tmp (rfl:_=AV.v (.bool _))) (Le.out [] [(6,0)] (.tup rfl (aH (xG rfl rfl (by simp) (congrArg da hrep) (by simp)) lz)) rfl rfl rfl tr trivial)
  ·skip
   refine ax rfl rfl (aD _ (rfl:_=AV.v (.int _ _))) (ax rfl rfl (aD _ (rfl:_=AV.ref _ _ _)) (ax rfl rfl (dz _ aa rfl rfl) (ax rfl rfl (eF _ _ rfl rfl rfl) (ai (aF _ _ _ rfl (rfl:_=AV.v (.bool _))) (aj (aV rfl (fun hc34=> ?_) (fun hc34=> ?_)))))))
   ·skip
    have hdf:gV C e=(List.replicate C.length (-1),true):=if_pos (.inr ab)
    refine am (gG rfl (eZ rfl (cq rfl (aj (aC ?_)))))
    rw [hdf]
    exact lK (.inr rfl) rfl (.tmp (rfl:_=AV.ref _ _ _)) (.tmp (rfl:_=AV.v (.bool _))) (Le.out [] [(6,0)] (.tup rfl (aH (xG rfl rfl (by simp) (congrArg da hrep) (by simp)) lz)) rfl rfl rfl tr trivial)
   ·skip
    have hdf:gV C e=il C (C.length+1) ((List.replicate C.length (-1)).set e.toNat 0,true):=if_neg ab
    have hdi0:DI D C.length ((List.replicate C.length (-1)).set e.toNat 0,true,false):=by
     have hr: ∀ i,(List.replicate C.length (-1:Int)).getD i (-1)= -1:=fun i=> by rw [List.getD_eq_getElem?_getD,List.getElem?_replicate];split <;> rfl
     refine ⟨by simp,fun i hi=> ?_,rfl⟩
     simp only
     rw [iL]
     split
     ·rename_i h;right;rw [h.1,he ab ab];rfl
     ·exact .inl (hr i)
    have hn0:neg ((List.replicate C.length (-1)).set e.toNat 0)≤C.length:=by
     have:=List.countP_le_length (p:=fun x:Int=> decide (x < 0)) (l:=(List.replicate C.length (-1:Int)).set e.toNat 0)
     simpa [neg] using this
    obtain ⟨R,hR⟩: ∃ R,R=gV C e:=⟨_,rfl⟩
    rw [← hR] at hdf
    refine aI (am (gG rfl (aR rfl (ai (gK _ _ aa rfl rfl rfl e.toNat ab ab (by exact (Nat.zero_add _).trans (Nat.mul_one _))) ?_))))
    refine ai (oz _ _ aa rfl rfl rfl rfl rfl (by simp;omega) ((lx _ _ _ (by simp;omega)).trans (congrArg (fun l=> da (List.set l e.toNat 0)) hrep))) ?_
    refine aj (aq ?_)
    refine aM (σ':=aB 123 [(2,_),(6,_)] [((2,0),_),((6,0),_)] [] []) kp ?_
    refine an (cq rfl (aj (aG fun K14 hK14=> ?_)))
    refine am (cq rfl (aj (au ?_)))
    refine bC (α:=(List Int×Bool)×Bool) (fun z=> DI D C.length (z.1.1,z.1.2,false)∧ve C R z) 123 [(2,_),(6,_)] [((2,0),_)] (fun z=> [(8, .v (.bool z.1.2)),(9, .v (.bool z.2))]) (fun z=> [((6,0), .row 3 1 (da z.1.1))]) [] [] (fun z=> Je z) (((List.replicate C.length (-1)).set e.toNat 0,true),true) ?_ (by
     refine Le.mkJ [] [] rfl ?_ ?_ trivial trivial ?_
     ·exact ⟨(iP rfl),(iR rfl),(ie ag),(ie ag),trivial⟩
     ·exact ⟨(cG rfl rfl rfl),(gH rfl rfl rfl ag),trivial⟩
     ·kernel_rfl) ?_
    ·exact ⟨hdi0,by unfold ve;rw [if_pos rfl];exact ⟨C.length+1,by simp only;omega,hdf.symm⟩⟩
    intro z hz
    obtain ⟨s,ch⟩:=z
    obtain ⟨hdi,hz⟩:=hz
    simp only at hdi hz ⊢
    refine aG fun K16 hK16=> ?_
    refine am (cH rfl (aj (aV rfl (fun hc39=> ?_) (fun hc39=> ?_))))
    ·skip
     obtain ⟨f,hf1,hf2⟩: ∃ f,neg s.1+1≤f∧il C f s=R:=by
      unfold ve at hz
      rwa [if_pos hc39] at hz
     have hpd:=(ke hg hdi C.length (Nat.le_refl _)).2.2
     refine bA (hK16 _ ?_)
     clear hK16;try clear K16
     refine au (am (cq rfl (aj (am (ba rfl (aj (au ?_)))))))
     refine bC (α:=Nat) (fun i=> i≤C.length) 123 [(2,_),(6,_)] [((2,0),_)] (fun i=> [(10, .v (.int .i64 (i:Int))),(8, .v (.bool (dm C s i).2.1)),(9, .v (.bool (dm C s i).2.2))]) (fun i=> [((6,0), .row 3 1 (da (dm C s i).1))]) [] [] (fun i=> C.length - i) 0 ?_ (by
      refine Le.mkJ [] [] rfl ?_ ?_ trivial trivial ?_
      ·exact ⟨(iP rfl),(iR rfl),(cj ag),(ie ag),(ie ag),trivial⟩
      ·exact ⟨(cG rfl rfl rfl),(gH rfl rfl rfl ag),trivial⟩
      ·kernel_rfl) ?_
     ·omega
     intro i hi
     have hw:=(ke hg hdi i hi).1
     have hps:=oJ C s i
     have hwl:=hw.len
     refine aG fun K20 hK20=> ?_
     refine am (aR rfl (gG rfl (ai (dz _ aa rfl rfl) (ai (bp _ _ rfl rfl rfl) (aj (aV rfl (fun hc43=> ?_) (fun hc43=> ?_)))))))
     ·skip
      have hdn:=(ke hg hdi (i+1) ab).1
      have hvi:=hw.val i ab
      generalize dm C s i=w at hw hps hwl hvi
      rw [gv ab] at hvi
      obtain ⟨hins,hpop,hsuc⟩:=hg i (cK C i) (by unfold cK;rw [List.getD_eq_getElem?_getD,List.getElem?_eq_getElem ab];rfl)
      rw [Nat.zero_add] at hpop hsuc
      have hDi:=hD i
      refine bA (hK20 _ ?_)
      clear hK20;try clear K20
      refine aG fun K22 hK22=> ?_
      refine au (aq (am (gG rfl (aR rfl (ai (gK _ _ aa rfl rfl rfl _ rfl ab (by exact (Nat.zero_add _).trans (Nat.mul_one _))) ?_)))))
      refine ai (kS _ aa rfl rfl (by exact dj _ _ ab) rfl) ?_
      refine ai (bp _ _ rfl rfl rfl) (aj (aV rfl (fun hc50=> ?_) (fun hc50=> ?_)))
      ·skip
       rw [vp (by rw [gv ab];omega)] at hps
       refine bL (id (hK22 _ ?_))
       clear hK22;try clear K22
       refine an (aR rfl (ai (bc _ _ rfl rfl (bq ab)) ?_))
       refine ba rfl (az (⟨i+1,?_,?_,?_⟩))
       ·omega
       ·skip
        refine Le.mkJ [] [] rfl ?_ ?_ trivial trivial ?_
        ·exact ⟨(iP rfl),(iR rfl),(cj ag),(ie (by (rw [hps]))),(ie (by (rw [hps]))),trivial⟩
        ·exact ⟨(cG rfl rfl rfl),(gH rfl rfl rfl (by (rw [hps]))),trivial⟩
        ·kernel_rfl
       ·omega
      ·skip
       have hvD:=hvi.resolve_left ab
       have hgo:=xp (C:=C) (s:=w) (i:=i) (by rw [gv ab];omega) (by rw [gv ab];omega)
       rw [gv ab,hvD] at hgo
       rw [hgo] at hps
       obtain ⟨L,hL⟩: ∃ L,L=dy i (cK C i):=⟨_,rfl⟩
       have hLl:L.length≤2:=by rw [hL];unfold dy;split <;> simp
       have hnn:(cK C i).op= .jump∨(cK C i).op= .unl→0≤(cK C i).n:=by
        unfold cT at hins
        rintro (e | e) <;> rw [e] at hins <;> exact hins
       have hnx:=wa C en dd vv i hC ab hnn
       rw [← hL] at hps hsuc hnx
       have hpp:=pI (cK C i).op
       have hpq:=pJ (cK C i).op
       have hp3:(cK C i).op.pops≤3:=by generalize (cK C i).op=o;cases o <;> decide
       have hp4:(cK C i).op.puts≤1:=by generalize (cK C i).op=o;cases o <;> decide
       refine aI (aq ?_)
       refine aM (σ':=aB 123 [(2,_),(6,_),(8,_),(9,_),(10,_)] [((2,0),_),((6,0),_)] [] []) kp ?_
       refine bE 13 [51,52,53,54,55,56,57,58,59,60,61,62,11] [] ae ae rfl (aL rfl) (rfl:_=[_,_,_,_,_,_,_,_,_,_,_,_,_]) (rfl:_=[]) ?_
       refine ap (_,[]) (fun τ=> aD _ (rfl:_=AV.ref _ _ _)) ?_
       refine eL rfl ?_
       refine ap (_,[]) (fun τ=> aD _ (rfl:_=AV.v (.int _ _))) ?_
       refine eK rfl ?_
       refine ap (_,[]) (fun τ=> gK _ _ aa rfl rfl rfl _ rfl ab (by exact (Nat.zero_add _).trans (Nat.mul_one _))) ?_
       refine eM rfl ?_
       refine ap (_,[]) (fun τ=> kS _ aa rfl rfl (by exact dj _ _ ab) rfl) ?_
       refine eP rfl ?_
       refine ap (_,[]) (fun τ=> aK _ aa rfl rfl rfl) ?_
       refine fe rfl ?_
       refine ap (_,[]) (fun τ=> aN _ aa rfl rfl (rfl:_=some (AV.sl _ _))) ?_
       refine fB rfl ?_
       refine ap (_,[]) (fun τ=> aD _ (rfl:_=AV.v (.int _ _))) ?_
       refine gy rfl ?_
       refine ap (_,[]) (fun τ=> bf _ _ aa rfl rfl _ rfl ab (by (simp only [aZ,bm,bl,bw,bv,bJ,bz,bK,ec,aZ];omega)) ag) ?_
       refine jS rfl ?_
       refine ap (_,[]) (fun τ=> di _ aa rfl rfl) ?_
       refine kd rfl ?_
       refine ap (_,[]) (fun τ=> bB _ aa rfl (by exact lV C i ab) rfl) ?_
       refine fW rfl ?_
       refine ap (_,[]) (fun τ=> (aJ aa al (hpp) rfl rfl)) ?_
       refine gA rfl ?_
       refine ap (_,[]) (fun τ=> ca _ _ rfl rfl (bq (by rw [hvD];omega))) ?_
       refine kA rfl ?_
       refine ap (_,[]) (fun τ=> bH _ (rfl:_=AV.v (.int _ _))) ?_
       refine kP rfl (bh ⟨rfl,?_⟩)
       refine aj (aq (am (aR rfl (ai (bp _ _ rfl rfl rfl) (aj (aQ rfl (decide_eq_false (by rw [hvD];omega)) ?_))))))
       refine aI (aq ?_)
       refine aM (σ':=aB 123 [(2,_),(6,_),(8,_),(9,_),(10,_),(11,_)] [((2,0),_),((6,0),_)] [] []) kp ?_
       refine an (aR rfl (bF rfl rfl rfl (fK rfl rfl rfl (aR rfl (ai (bf _ _ aa rfl rfl _ rfl ab (by (simp only [aZ,bm,bl,bw,bv,bJ,bz,bK,ec,aZ];omega)) ag) ?_)))))
       refine ai (di _ aa rfl rfl) (ai (bB _ aa rfl (by exact lV C i ab) rfl) ?_)
       refine ai (aJ aa al (hpq) rfl rfl) ?_
       refine ai (bc _ _ rfl rfl (bq (by rw [hvD];omega))) ?_
       refine ba rfl (aj (am (ai (aP _ aa rfl rfl rfl rfl) (aR rfl (ai (aJ aa al (hnx) rfl rfl) ?_)))))
       refine jO rfl (aj (am (ba rfl (aj (au ?_)))))
       refine bC (α:=Nat) (fun k=> k≤L.length) 123 [(2,_),(6,_),(10,_),(12,_)] [((2,0),_)] (fun k=> [(13, .v (.int .i64 (k:Int))),(11, .v (.int .i64 ((D i:Int) - (cK C i).op.pops+(cK C i).op.puts))),(8, .v (.bool ((L.take k).foldl (ig C.length ((D i:Int) - (cK C i).op.pops+(cK C i).op.puts)) w).2.1)),(9, .v (.bool ((L.take k).foldl (ig C.length ((D i:Int) - (cK C i).op.pops+(cK C i).op.puts)) w).2.2))]) (fun k=> [((6,0), .row 3 1 (da ((L.take k).foldl (ig C.length ((D i:Int) - (cK C i).op.pops+(cK C i).op.puts)) w).1))]) [] [] (fun k=> L.length - k) 0 ?_ (by
        refine Le.mkJ [] [] rfl ?_ ?_ trivial trivial ?_
        ·exact ⟨(iP rfl),(iR rfl),(iV rfl),(iS rfl),(cj ag),(cj (by rw [hvD])),(ie ag),(ie ag),trivial⟩
        ·exact ⟨(cG rfl rfl rfl),(gH rfl rfl rfl ag),trivial⟩
        ·kernel_rfl) ?_
       ·omega
       intro k hk
       have hwd: ∀ j∈L,(D i:Int) - (cK C i).op.pops+(cK C i).op.puts=(D j:Int):=fun j hj=> by have:=(hsuc j hj).2.2;omega
       have hu:=(lR (L.take k) hw (fun j hj=> hwd j (List.mem_of_mem_take hj))).1
       have hul:=hu.len
       refine aG fun K31 hK31=> ?_
       refine am (aR rfl (ep rfl (ai (bG _ aa rfl) (ai (bp _ _ rfl rfl rfl) (aj (aV rfl (fun hc80=> ?_) (fun hc80=> ?_)))))))
       ·skip
        have hfs:=tu (n:=C.length) (d:=(D i:Int) - (cK C i).op.pops+(cK C i).op.puts) (s:=w) (l:=L) (k:=k) ab
        have hu1:=(lR (L.take (k+1)) hw (fun j hj=> hwd j (List.mem_of_mem_take hj))).1.len
        obtain ⟨j,hj⟩: ∃ j,j=L.getD k 0:=⟨_,rfl⟩
        have hjm:j∈L:=by rw [hj,List.getD_eq_getElem?_getD,List.getElem?_eq_getElem ab];exact List.getElem_mem ab
        obtain ⟨hj1,hj2,_⟩:=hsuc j hjm
        have hjn:j < C.length:=by omega
        have hwj:=hwd j hjm
        have hnk:=Av L k ab
        rw [← hj] at hfs hnk
        have huv:=hu.val j hjn
        rw [gv ab] at huv
        generalize (L.take k).foldl (ig C.length ((D i:Int) - (cK C i).op.pops+(cK C i).op.puts)) w=u at hu hul hfs huv
        refine bA (hK31 _ ?_)
        clear hK31;try clear K31
        refine aq (au (aq (am (ep rfl (aR rfl (ai (bf _ _ aa rfl rfl _ rfl ab (by (simp only [aZ,bm,bl,bw,bv,bJ,bz,bK,ec,aZ];omega)) (by exact Nat.mul_one _)) ?_))))))
        refine ai (bB _ aa rfl (by exact hnk) rfl) ?_
        refine ai (bp _ _ rfl rfl rfl) (cH rfl (dO (fun hg88=> ?_) (fun hg88=> ?_)))
        ·skip
         exact absurd hg88 ab
        ·skip
         refine ax rfl rfl (aD _ (rfl:_=AV.sl _ _)) (ax rfl rfl (aD _ (rfl:_=AV.v (.int _ _))) (ax rfl rfl (bf _ _ aa rfl rfl _ rfl ab (by (simp only [aZ,bm,bl,bw,bv,bJ,bz,bK,ec,aZ];omega)) (by exact Nat.mul_one _)) ?_))
         refine ax rfl rfl (bB _ aa rfl (by exact hnk) rfl) ?_
         refine ax rfl rfl (aD _ (rfl:_=AV.ref _ _ _)) (ax rfl rfl (dz _ aa rfl rfl) (ax rfl rfl (eF _ _ rfl rfl rfl) (ai (aF _ _ _ rfl (rfl:_=AV.v (.bool _))) (aj (aQ rfl (decide_eq_false ab) ?_)))))
         refine aI (aq ?_)
         refine aM (σ':=aB 123 [(2,_),(6,_),(8,_),(9,_),(10,_),(11,_),(12,_),(13,_)] [((2,0),_),((6,0),_)] [] []) kp ?_
         refine an (gG rfl (ep rfl (aR rfl (ai (bf _ _ aa rfl rfl _ rfl ab (by (simp only [aZ,bm,bl,bw,bv,bJ,bz,bK,ec,aZ];omega)) (by exact Nat.mul_one _)) ?_))))
         refine ai (bB _ aa rfl (by exact hnk) rfl) ?_
         refine ai (gK _ _ aa rfl rfl rfl _ rfl ab (by exact (Nat.zero_add _).trans (Nat.mul_one _))) ?_
         refine ai (kS _ aa rfl rfl (by exact dj _ _ ab) rfl) ?_
         refine ai (bp _ _ rfl rfl rfl) (aj (aV rfl (fun hc104=> ?_) (fun hc104=> ?_)))
         ·skip
          have hds:ig C.length ((D i:Int) - (cK C i).op.pops+(cK C i).op.puts) u j=(u.1.set j ((D i:Int) - (cK C i).op.pops+(cK C i).op.puts),u.2.1,true):=by
           unfold ig
           rw [if_neg ab,if_pos (by rw [gv ab];omega)]
          rw [hds] at hfs
          refine am (gG rfl (ep rfl (aR rfl (ai (bf _ _ aa rfl rfl _ rfl ab (by (simp only [aZ,bm,bl,bw,bv,bJ,bz,bK,ec,aZ];omega)) (by exact Nat.mul_one _)) ?_))))
          refine ai (bB _ aa rfl (by exact hnk) rfl) ?_
          refine aR rfl (ai (gK _ _ aa rfl rfl rfl _ rfl ab (by exact (Nat.zero_add _).trans (Nat.mul_one _))) ?_)
          refine ai (oz _ _ aa rfl rfl rfl rfl rfl (by simp;omega) (lx _ _ _ ab)) ?_
          refine aj ?_
          refine aM (σ':=aB 123 [(2,_),(6,_),(8,_),(10,_),(11,_),(12,_),(13,_)] [((2,0),_),((6,0),_)] [] []) kp ?_
          refine an (cq rfl (fT (an (aR rfl (ai (bc _ _ rfl rfl (bq ab)) ?_)))))
          refine ba rfl (az (⟨k+1,?_,?_,?_⟩))
          ·omega
          ·skip
           refine Le.mkJ [] [] rfl ?_ ?_ trivial trivial ?_
           ·exact ⟨(iP rfl),(iR rfl),(iV rfl),(iS rfl),(cj ag),(cj ag),(ie (by (rw [hfs]))),(ie (by (rw [hfs]))),trivial⟩
           ·exact ⟨(cG rfl rfl rfl),(gH rfl rfl rfl (by (rw [hfs]))),trivial⟩
           ·kernel_rfl
          ·omega
         ·skip
          have hds:ig C.length ((D i:Int) - (cK C i).op.pops+(cK C i).op.puts) u j=u:=by
           unfold ig
           rw [if_neg ab,if_neg (by rw [gv ab];omega),if_neg (by rw [gv ab];omega)]
          rw [hds] at hfs
          refine am (gG rfl (ep rfl (aR rfl (ai (bf _ _ aa rfl rfl _ rfl ab (by (simp only [aZ,bm,bl,bw,bv,bJ,bz,bK,ec,aZ];omega)) (by exact Nat.mul_one _)) ?_))))
          refine ai (bB _ aa rfl (by exact hnk) rfl) ?_
          refine ai (gK _ _ aa rfl rfl rfl _ rfl ab (by exact (Nat.zero_add _).trans (Nat.mul_one _))) ?_
          refine ai (kS _ aa rfl rfl (by exact dj _ _ ab) rfl) ?_
          refine aR rfl (ai (bY _ _ rfl rfl rfl) (aj (aQ rfl (by rw [bne_eq_false_iff_eq];omega) ?_)))
          refine cf ?_
          refine aM (σ':=aB 123 [(2,_),(6,_),(8,_),(9,_),(10,_),(11,_),(12,_),(13,_)] [((2,0),_),((6,0),_)] [] []) kp ?_
          refine an (aR rfl (ai (bc _ _ rfl rfl (bq ab)) ?_))
          refine ba rfl (az (⟨k+1,?_,?_,?_⟩))
          ·omega
          ·skip
           refine Le.mkJ [] [] rfl ?_ ?_ trivial trivial ?_
           ·exact ⟨(iP rfl),(iR rfl),(iV rfl),(iS rfl),(cj ag),(cj ag),(ie (by (rw [hfs]))),(ie (by (rw [hfs]))),trivial⟩
           ·exact ⟨(cG rfl rfl rfl),(gH rfl rfl rfl (by (rw [hfs]))),trivial⟩
           ·kernel_rfl
          ·omega
       ·skip
        obtain rfl:k=L.length:=by omega
        rw [List.take_length] at hu hul
        rw [List.take_length]
        refine bL (id (hK22 _ ?_))
        clear hK22;try clear K22
        refine an (aR rfl (ai (bc _ _ rfl rfl (bq ab)) ?_))
        refine ba rfl (az (⟨i+1,?_,?_,?_⟩))
        ·omega
        ·skip
         refine Le.mkJ [] [] rfl ?_ ?_ trivial trivial ?_
         ·exact ⟨(iP rfl),(iR rfl),(cj ag),(ie (by (rw [hps]))),(ie (by (rw [hps]))),trivial⟩
         ·exact ⟨(cG rfl rfl rfl),(gH rfl rfl rfl (by (rw [hps]))),trivial⟩
         ·kernel_rfl
        ·omega
     ·skip
      obtain rfl:i=C.length:=by omega
      refine bL (id (⟨(((dm C s C.length).1,(dm C s C.length).2.1),(dm C s C.length).2.2),?_,?_,?_⟩))
      ·exact ⟨hw.flag,wj hf1 hf2 hpd⟩
      ·skip
       refine Le.mkJ [] [] rfl ?_ ?_ trivial trivial ?_
       ·exact ⟨(iP rfl),(iR rfl),(ie ag),(ie ag),trivial⟩
       ·exact ⟨(cG rfl rfl rfl),(gH rfl rfl rfl ag),trivial⟩
       ·kernel_rfl
      ·rw [show Je (s,ch)=neg s.1+1 from if_pos hc39];exact Ek hpd
    ·skip
     have hzR:s=R:=by
      unfold ve at hz
      rwa [if_neg (by simp [hc39])] at hz
     subst hzR
     have hsl:=hdi.len
     refine bL (id (hK14 _ ?_))
     clear hK14;try clear K14
     refine am (gG rfl (cH rfl (eZ rfl (cq rfl (aj (aC ?_))))))
     rw [← hR]
     exact lK (.inr rfl) rfl (.tmp (rfl:_=AV.ref _ _ _)) (.tmp (rfl:_=AV.v (.bool _))) (Le.out [] [(6,0)] (.tup rfl (aH (xG rfl rfl (by simp only at hsl;simp [hsl]) rfl hsl.symm) lz)) rfl rfl rfl tr trivial)
theorem tb (C:List ek) (en:Nat→Int) (dd vv:Int) (h:Nat) (hh:h < 40) (hC:C.length≤1000000) (D:Nat→Nat) (nv:Nat) (hg:Good D nv 0 (C.length - 1) 0 C) (hD: ∀ i,D i≤1000000) (he:0≤en h→en h < C.length→D (en h).toNat=0):
  Spec Tryz.prog 74 (bi [.agg (Ax C.length (inl C) en dd vv), .v (.int .i64 (h:Int))] []) (aW (.v (.int .i64 (jx C (gV C (en h)).1 C.length))) []):=by
 have hds:=ro C en dd vv (en h) hC D nv hg hD he
 have hdi:=oG hg he
 have hdl:=hdi.len
 have hml:=fun k (hk:k≤C.length)=> lC (C:=C) (n:=C.length) hdi (B:=1000000) (fun i _=> hD i) k hk
 generalize gV C (en h)=R at hds hdi hdl hml
 have hen:=qH C.length (inl C) en dd vv h hh
 refine Spec.ofN Tryz.func74 rfl Tryz.ntmps74 rfl ?_
 refine am (ai (bk (2,0) _ rfl rfl) (ba rfl (aj (aq (bE 11 [11,12,13,14,15,16,10,17,18,5,6] [] ae ae rfl (aL rfl) (rfl:_=[_,_,_,_,_,_,_,_,_,_,_]) (rfl:_=[]) ?_)))))
 refine ap (_,[]) (fun τ=> aP _ aa rfl rfl rfl rfl) ?_
 refine eL rfl ?_
 refine ap (_,[]) (fun τ=> aD _ (rfl:_=AV.v (.int _ _))) ?_
 refine eK rfl ?_
 refine ap (_,[]) (fun τ=> aK _ aa rfl rfl rfl) ?_
 refine eM rfl ?_
 refine ap (_,[]) (fun τ=> eS _ _ aa rfl rfl rfl h rfl ab (by exact congrArg (fun z=> 0+1+z) (Nat.mul_one h))) ?_
 refine eP rfl ?_
 refine ap (_,[]) (fun τ=> aN _ aa rfl rfl (by exact (congrArg (fun z=> (Ax C.length (inl C) en dd vv)[z]?) ab).trans hen)) ?_
 refine fe rfl ?_
 refine ap (_,[]) (fun τ=> (aJ aa al (hds) rfl rfl)) ?_
 refine fB rfl ?_
 refine ap (_,[]) (fun τ=> aD _ (rfl:_=AV.tup _)) ?_
 refine gy rfl ?_
 refine ap (_,[]) (fun τ=> cR _ rfl (rfl:_=some (AV.sl _ _))) ?_
 refine jS rfl ?_
 refine ap (_,[]) (fun τ=> cR _ rfl (rfl:_=some (AV.v (.bool _)))) ?_
 refine kd rfl ?_
 refine ap (_,[]) (fun τ=> bH _ (rfl:_=AV.sl _ _)) ?_
 refine fW rfl ?_
 refine ap (_,[]) (fun τ=> bH _ (rfl:_=AV.v (.bool _))) ?_
 refine gA rfl (bh ⟨rfl,?_⟩)
 refine aj (am (ba rfl (aj (aG fun K4 hK4=> ?_))))
 refine am (ba rfl (aj (au ?_)))
 refine bC (α:=Nat) (fun k=> k≤C.length) 53 [(2,_),(5,_)] [((2,0),_)] (fun k=> [(8, .v (.int .i64 (k:Int))),(7, .v (.int .i64 (jx C R.1 k)))]) (fun k=> []) [] [] (fun k=> C.length - k) 0 ?_ (by
  refine Le.mkJ [] [] rfl ?_ ?_ trivial trivial ?_
  ·exact ⟨(iP rfl),(iS rfl),(cj ag),(cj ag),trivial⟩
  ·exact ⟨(cG rfl rfl rfl),trivial⟩
  ·kernel_rfl) ?_
 ·omega
 intro k hk
 have hm1:=hml k hk
 have hs:=ox C R.1 k
 simp only at hdl hm1
 refine aG fun K6 hK6=> ?_
 refine am (aR rfl (ep rfl (ai (bG _ aa rfl) (ai (bp _ _ rfl rfl rfl) (aj (aV rfl (fun hc22=> ?_) (fun hc22=> ?_)))))))
 ·skip
  have hm2:=hml (k+1) ab
  have hv:=hdi.val k ab
  simp only at hv hm2
  rw [gv ab] at hv hs
  have hDk:=hD k
  obtain ⟨q,hq⟩: ∃ q,q=cK C k:=⟨_,rfl⟩
  have hp3:q.op.pops≤3:=by generalize q.op=o;cases o <;> decide
  have hp4:q.op.puts≤1:=by generalize q.op=o;cases o <;> decide
  have hpp:=pI q.op
  have hpq:=pJ q.op
  have hg0:=lV C k ab
  rw [← hq] at hg0 hs
  refine bA (hK6 _ ?_)
  clear hK6;try clear K6
  refine aq (au (am (ep rfl (aR rfl (ai (bf _ _ aa rfl rfl _ rfl ab (by (simp only [aZ,bm,bl,bw,bv,bJ,bz,bK,ec,aZ];omega)) (by exact Nat.mul_one _)) ?_)))))
  refine ai (bB _ aa rfl (by exact dj _ _ ab) rfl) ?_
  refine ai (eF _ _ rfl rfl rfl) (aj (aV rfl (fun hc29=> ?_) (fun hc29=> ?_)))
  ·skip
   rw [if_pos ab] at hs
   refine am (bF rfl rfl rfl (fK rfl rfl rfl (aR rfl (ai (bf _ _ aa rfl rfl _ rfl ab (by (simp only [aZ,bm,bl,bw,bv,bJ,bz,bK,ec,aZ];omega)) ag) ?_))))
   refine ai (di _ aa rfl rfl) (ai (bB _ aa rfl (by exact hg0) rfl) ?_)
   refine ba rfl (aj ?_)
   refine aM (σ':=aB 53 [(2,_),(5,_),(7,_),(8,_),(9,_)] [((2,0),_)] [] []) kp ?_
   refine bE 16 [36,37,38,39,40,41,42,43,44,45,46,47,48,49,50,51] [] ae ae rfl (aL rfl) (rfl:_=[_,_,_,_,_,_,_,_,_,_,_,_,_,_,_,_]) (rfl:_=[_]) ?_
   refine ap (_,[]) (fun τ=> aD _ (rfl:_=AV.v (.int _ _))) ?_
   refine eL rfl ?_
   refine ap (_,[]) (fun τ=> aD _ (rfl:_=AV.sl _ _)) ?_
   refine eK rfl ?_
   refine ap (_,[]) (fun τ=> aD _ (rfl:_=AV.v (.int _ _))) ?_
   refine eM rfl ?_
   refine ap (_,[]) (fun τ=> bf _ _ aa rfl rfl _ rfl ab (by (simp only [aZ,bm,bl,bw,bv,bJ,bz,bK,ec,aZ];omega)) (by exact Nat.mul_one _)) ?_
   refine eP rfl ?_
   refine ap (_,[]) (fun τ=> bB _ aa rfl (by exact dj _ _ ab) rfl) ?_
   refine fe rfl ?_
   refine ap (_,[]) (fun τ=> aD _ (rfl:_=AV.sl _ _)) ?_
   refine fB rfl ?_
   refine ap (_,[]) (fun τ=> aD _ (rfl:_=AV.v (.int _ _))) ?_
   refine gy rfl ?_
   refine ap (_,[]) (fun τ=> bf _ _ aa rfl rfl _ rfl ab (by (simp only [aZ,bm,bl,bw,bv,bJ,bz,bK,ec,aZ];omega)) (by exact Nat.mul_one _)) ?_
   refine jS rfl ?_
   refine ap (_,[]) (fun τ=> bB _ aa rfl (by exact dj _ _ ab) rfl) ?_
   refine kd rfl ?_
   refine ap (_,[]) (fun τ=> aD _ (rfl:_=AV.v (.int _ _))) ?_
   refine fW rfl ?_
   refine ap (_,[]) (fun τ=> (aJ aa al (hpp) rfl rfl)) ?_
   refine gA rfl ?_
   refine ap (_,[]) (fun τ=> ca _ _ rfl rfl (bq ab)) ?_
   refine kA rfl ?_
   refine ap (_,[]) (fun τ=> aD _ (rfl:_=AV.v (.int _ _))) ?_
   refine kP rfl ?_
   refine ap (_,[]) (fun τ=> (aJ aa al (hpq) rfl rfl)) ?_
   refine nK rfl ?_
   refine ap (_,[]) (fun τ=> bc _ _ rfl rfl (bq ab)) ?_
   refine tv rfl ?_
   refine ap (_,[]) (fun τ=> Cf _ _ _ rfl rfl rfl (by exact hs.symm)) ?_
   refine sG rfl (bh ⟨rfl,?_⟩)
   refine ba rfl (fT ?_)
   refine aM (σ':=aB 53 [(2,_),(5,_),(7,_),(8,_)] [((2,0),_)] [] []) kp ?_
   refine an (aR rfl (ai (bc _ _ rfl rfl (bq ab)) ?_))
   refine ba rfl (az (⟨k+1,?_,?_,?_⟩))
   ·omega
   ·skip
    refine Le.mkJ [] [] rfl ?_ ?_ trivial trivial ?_
    ·exact ⟨(iP rfl),(iS rfl),(cj ag),(cj ag),trivial⟩
    ·exact ⟨(cG rfl rfl rfl),trivial⟩
    ·kernel_rfl
   ·omega
  ·skip
   rw [if_neg ab] at hs
   refine cf (an (aR rfl (ai (bc _ _ rfl rfl (bq ab)) ?_)))
   refine ba rfl (az (⟨k+1,?_,?_,?_⟩))
   ·omega
   ·skip
    refine Le.mkJ [] [] rfl ?_ ?_ trivial trivial ?_
    ·exact ⟨(iP rfl),(iS rfl),(cj ag),(cj ab),trivial⟩
    ·exact ⟨(cG rfl rfl rfl),trivial⟩
    ·kernel_rfl
   ·omega
 ·skip
  obtain rfl:k=C.length:=by omega
  refine bL (id (hK4 _ ?_))
  clear hK4;try clear K4
  exact am (aR rfl (ba rfl (aj (aC (aY (.inr rfl) rfl (.tmp (rfl:_=AV.v _)) (Le.out [] [] .v rfl rfl rfl trivial trivial))))))

theorem dQ: ∀ (e:Ex) (d x:Nat),x∈du e d→x≤d+(du e d).length
 | .int _,d,x,h=> by simp [du] at h ⊢;omega
 | .bool _,d,x,h=> by simp [du] at h ⊢;omega
 | .var _,d,x,h=> by simp [du] at h ⊢;omega
 | .name _,d,x,h=> by simp [du] at h ⊢;omega
 | .draw e,d,x,h=> by
  have:=dQ e d x
  simp only [du,List.mem_append,List.length_append,List.length_cons,List.length_nil,List.mem_singleton] at h ⊢
  rcases h with h | h
  ·have:=this h;omega
  ·omega
 | .neg e,d,x,h=> by
  have:=dQ e d x
  simp only [du,List.mem_append,List.length_append,List.length_cons,List.length_nil,List.mem_singleton] at h ⊢
  rcases h with h | h
  ·have:=this h;omega
  ·omega
 | .not e,d,x,h=> by
  have:=dQ e d x
  simp only [du,List.mem_append,List.length_append,List.length_cons,List.length_nil,List.mem_singleton] at h ⊢
  rcases h with h | h
  ·have:=this h;omega
  ·omega
 | .bin o a b,d,x,h=> by
  have h1:=dQ a d x
  have h2:=dQ b (d+1) x
  have h3:1≤(du b (d+1)).length:=by obtain ⟨l,hl⟩:=ed b (d+1);rw [hl];simp
  have h4:1≤(du a d).length:=by obtain ⟨l,hl⟩:=ed a d;rw [hl];simp
  simp only [du,List.mem_append,List.length_append] at h ⊢
  rcases h with (h | h) | h
  ·have:=h1 h;omega
  ·have:=h2 h;omega
  ·have:x≤d+2:=by cases o <;> simp at h <;> omega
   omega
 | .and a b,d,x,h=> by
  have h1:=dQ a d x
  have h2:=dQ b d x
  simp only [du,List.mem_append,List.length_append,List.length_cons,List.length_nil,List.mem_singleton] at h ⊢
  rcases h with (((h | h) | h) | h) | h
  ·have:=h1 h;omega
  ·omega
  ·have:=h2 h;omega
  ·omega
  ·omega
 | .or a b,d,x,h=> by
  have h1:=dQ a d x
  have h2:=dQ b d x
  simp only [du,List.mem_append,List.length_append,List.length_cons,List.length_nil,List.mem_singleton] at h ⊢
  rcases h with (((h | h) | h) | h) | h
  ·have:=h1 h;omega
  ·omega
  ·omega
  ·omega
  ·have:=h2 h;omega
theorem jL (e:Ex) (d:Nat):1≤(du e d).length:=by obtain ⟨l,hl⟩:=ed e d;rw [hl];simp
mutual
theorem BQ: ∀ (s:Sm) (x:Nat),x∈dR s→x≤(dR s).length
 | .assign _ e,x,h=> by
  have:=dQ e 0 x
  simp only [dR,List.mem_append,List.length_append,List.length_cons,List.length_nil,List.mem_singleton] at h ⊢
  rcases h with h | h
  ·have:=this h;omega
  ·omega
 | .send t _ a b,x,h=> by
  have h1:=dQ t 0 x
  have h2:=dQ a 1 x
  have h3:=dQ b 2 x
  have k1:=jL t 0
  have k2:=jL a 1
  have k3:=jL b 2
  simp only [dR,List.mem_append,List.length_append,List.length_cons,List.length_nil,List.mem_singleton] at h ⊢
  rcases h with ((h | h) | h) | h
  ·have:=h1 h;omega
  ·have:=h2 h;omega
  ·have:=h3 h;omega
  ·omega
 | .timer _,x,h=> by simp [dR] at h ⊢;omega
 | .cancel _,x,h=> by simp [dR] at h ⊢;omega
 | .sync,x,h=> by simp [dR] at h ⊢;omega
 | .stop,x,h=> by simp [dR] at h ⊢;omega
 | .reply a b,x,h=> by
  have h2:=dQ a 0 x
  have h3:=dQ b 1 x
  have k2:=jL a 0
  have k3:=jL b 1
  simp only [dR,List.mem_append,List.length_append,List.length_cons,List.length_nil,List.mem_singleton] at h ⊢
  rcases h with (h | h) | h
  ·have:=h2 h;omega
  ·have:=h3 h;omega
  ·omega
 | .fail e,x,h=> by
  have:=dQ e 0 x
  simp only [dR,List.mem_append,List.length_append,List.length_cons,List.length_nil,List.mem_singleton] at h ⊢
  rcases h with h | h
  ·have:=this h;omega
  ·omega
 | .loop c b,x,h=> by
  have h1:=dQ c 0 x
  have h2:=lq b x
  simp only [dR,List.mem_append,List.length_append,List.length_cons,List.length_nil,List.mem_singleton] at h ⊢
  rcases h with ((h | h) | h) | h
  ·have:=h1 h;omega
  ·omega
  ·have:=h2 h;omega
  ·omega
 | .ite c a b,x,h=> by
  have h1:=dQ c 0 x
  have h2:=lq a x
  have h3:=lq b x
  simp only [dR,List.mem_append,List.length_append,List.length_cons,List.length_nil,List.mem_singleton] at h ⊢
  rcases h with (((h | h) | h) | h) | h
  ·have:=h1 h;omega
  ·omega
  ·have:=h2 h;omega
  ·omega
  ·have:=h3 h;omega
theorem lq: ∀ (b:Bk) (x:Nat),x∈ky b→x≤(ky b).length
 | .nil,x,h=> by simp [ky] at h
 | .cons s b,x,h=> by
  have h1:=BQ s x
  have h2:=lq b x
  simp only [ky,List.mem_append,List.length_append] at h ⊢
  rcases h with h | h
  ·have:=h1 h;omega
  ·have:=h2 h;omega
end
theorem uz: ∀ (l:List (Nat×Bk)) (x:Nat),x∈kB l→x≤(kB l).length
 | [],x,h=> by simp [kB] at h
 | (k,b)::l,x,h=> by
  have h1:=lq b x
  have h2:=uz l x
  simp only [kB,List.mem_append,List.length_append,List.length_cons,List.length_nil,List.mem_singleton] at h ⊢
  rcases h with (h | h) | h
  ·have:=h1 h;omega
  ·omega
  ·have:=h2 h;omega
theorem xN (l:List (Nat×Bk)) (i:Nat):qM l i≤(bS l 0).length:=by
 unfold qM
 rw [List.getD_eq_getElem?_getD]
 by_cases h:i < (kB l).length
 ·rw [List.getElem?_eq_getElem h,← oh l 0];exact uz l _ (List.getElem_mem h)
 ·rw [List.getElem?_eq_none ab];exact Nat.zero_le _

theorem mC: ∀ (l m:List (Nat×Bk)) (a:Nat),bS (l++m) a=bS l a++bS m (a+(bS l a).length)
 | [],m,a=> by simp [bS]
 | (h,b)::l,m,a=> by
  simp only [List.cons_append,bS,mC l m,List.append_assoc,List.length_append,List.length_cons,List.length_nil,Nat.add_assoc,Nat.zero_add,List.nil_append,Nat.add_comm 1 (List.length _)]
theorem sw: ∀ (l m:List (Nat×Bk)) (a:Nat),iQ (l++m) a=iQ l a++iQ m (a+(bS l a).length)
 | [],m,a=> by simp [bS,iQ]
 | (h,b)::l,m,a=> by
  simp only [List.cons_append,bS,iQ,sw l m,List.append_assoc,List.length_append,List.length_cons,List.length_nil,Nat.add_assoc,Nat.zero_add,Nat.add_comm 1 (List.length _)]
def bX (l:List (Nat×Bk)) (k:Nat):Int:=(lI (iQ l 0)).getD k (-1)
theorem vV (l:List (Nat×Bk)) (p:Nat×Bk) (hp:p.1 < 40):bX (l++[p])=oX (bX l) p.1 (bS l 0).length:=by
 funext k
 have e:lI (iQ (l++[p]) 0)=(lI (iQ l 0)).set p.1 ((bS l 0).length:Int):=by
  rw [sw]
  obtain ⟨h,b⟩:=p
  simp only [iQ,lI,List.foldl_append,List.foldl_cons,List.foldl_nil,Nat.zero_add]
 unfold bX oX
 rw [e,iL]
 by_cases hk:k=p.1
 ·rw [if_pos ⟨hk,by rw [zn];exact hp⟩,if_pos hk]
 ·rw [if_neg (fun h=> hk h.1),if_neg hk]
theorem tG (l:List (Nat×Bk)) (p:Nat×Bk):bS (l++[p]) 0=bS l 0++cW p.2 (bS l 0).length++[{ op:= .stop }]:=by
 rw [mC]
 obtain ⟨h,b⟩:=p
 simp [bS]
def dS (h k:Nat):Int:=if k < h∨40≤k then -1 else 0
theorem zt (h:Nat) (hh:h < 40):oX (dS h) h (-1)=dS (h+1):=by
 funext k
 unfold oX dS
 by_cases h1:k=h
 ·rw [if_pos h1,if_pos ab]
 ·rw [if_neg h1]
  by_cases h2:k < h∨40≤k
  ·rw [if_pos h2,if_pos ab]
  ·rw [if_neg h2,if_neg ab]
theorem xS:dS 40=bX []:=by
 funext k
 have e:bX [] k=(List.replicate 40 (-1:Int)).getD k (-1):=rfl
 rw [e,dS,if_pos ab,List.getD_eq_getElem?_getD,List.getElem?_replicate]
 by_cases hk:k < 40
 ·rw [if_pos hk];rfl
 ·rw [if_neg hk];rfl
theorem xR (ons:List (Nat×Bk)) (j:Nat) (h:j < ons.length):ons.take (j+1)=ons.take j++[ons[j]]:=List.take_succ_eq_append_getElem h
theorem ol (ons:List (Nat×Bk)) (j:Nat):(bS (ons.take j) 0).length≤(bS ons 0).length:=by
 conv=> rhs;rw [← List.take_append_drop j ons,mC]
 rw [List.length_append];omega
theorem wv {n:Nat} (h:n < 40):gj (n:Int) 40=n:=by unfold gj;rw [if_neg ab];omega
structure UOk (d v:List Tx) (ons:List (Nat×Bk)):Prop where
 nd:(d++v).Nodup
 len:(d++v).length≤16
 ok: ∀ p∈ons,ii (d++v).length p.2
 pp: ∀ p∈ons,mW p.2=true
 h: ∀ p∈ons,p.1 < 40
 c:(bS ons 0).length≤1000000
 n:ons.length≤1000
theorem UOk.good {d v:List Tx} {ons:List (Nat×Bk)} (U:UOk d v ons):Good (qM ons) (d++v).length 0 ((bS ons 0).length - 1) 0 (bS ons 0):=
 tT (qM ons) (d++v).length ons 0 0 ((bS ons 0).length - 1) U.ok (nw ons) (Nat.le_refl _) ab
theorem UOk.ent {d v:List Tx} {ons:List (Nat×Bk)} (U:UOk d v ons) (k:Nat):0≤bX ons k→bX ons k < (bS ons 0).length→qM ons (bX ons k).toNat=0:=fun h0 h1=> by
 rcases ta ons k with h | ⟨e,_,h,_,h2⟩
 ·unfold bX at h0;omega
 ·unfold bX;rw [h,Int.toNat_natCast];exact h2
abbrev Tg (d v:List Tx) (ons:List (Nat×Bk)):AV:= .agg (Ax (bS ons 0).length (inl (bS ons 0)) (bX ons) (d.length:Int) (v.length:Int))
abbrev zA:AV:= .agg (En (.v (.slice none 0 0)) (fun _=> 0) 0 0)
def DD (ons:List (Nat×Bk)):Int:=if 400 < (bS ons 0).length then 2 else 13
abbrev wH (d v:List Tx) (ons:List (Nat×Bk)):AV:=if hQ ons=true then .tup [Tg d v ons, .v (.int .i64 0)] else .tup [zA, .v (.int .i64 (DD ons))]
abbrev na (d v:List Tx) (ons:List (Nat×Bk)):List Hd:=ons.map fun p=> (p.1,jB (d++v) p.2)
theorem jt (d v:List Tx) (ons:List (Nat×Bk)) (U:UOk d v ons):
  Spec Tryz.prog 57 (bi [EM d v (na d v ons)] []) (aW (wH d v ons) []):=by
 obtain ⟨H,hH⟩: ∃ H,H=na d v ons:=⟨_,rfl⟩
 have hHl:H.length=ons.length:=by rw [hH,List.length_map]
 have hHk: ∀ k (h:k < ons.length),mw H k=((ons[k]).1,jB (d++v) (ons[k]).2):=fun k h=> by rw [hH];exact zg ons _ k h
 rw [← hH]
 clear hH
 have hUn:=U.n
 have hUc:=U.c
 have hUl:=U.len
 have hdl:d.length≤16∧v.length≤16:=by rw [List.length_append] at hUl;omega
 refine Spec.ofN Tryz.func57 rfl Tryz.ntmps57 rfl ?_
 refine am (ai (bk (1,0) _ rfl rfl) (ai (ay (2,0) aa rfl rfl) (ba rfl (aj (am (bF rfl rfl rfl (fK rfl rfl rfl (ai (bG _ aa rfl) (bF rfl rfl rfl (fK rfl rfl rfl ?_))))))))))
 refine ai (bG _ aa rfl) (ai (aA _ aa rfl (by exact (rfl:_=some [_,_,_,_,_,_,_,_,_,_,_,_,_,_,_,_,_,_,_,_,_,_,_,_,_,_,_,_,_,_,_,_,_,_,_,_,_,_,_,_,_,_,_]))) ?_)
 refine ai (ay (4,0) aa rfl rfl) (bO rfl rfl rfl rfl rfl rfl (aj (aG fun K3 hK3=> ?_)))
 refine am (ba rfl (aj (au ?_)))
 refine aM (Le.nilB (4,0) 0 (60,0) 48 2 rfl rfl rfl) ?_
 refine bC (α:=Nat) (fun q=> q≤40) 79 [(1,_),(2,_),(4,_)] [((1,0),_),((2,0),_),((60,0),_)] (fun q=> [(5, .v (.int .i64 (q:Int)))]) (fun q=> [((4,0), .box 26 [.ref (60,0) 0 0, .v (.int .i64 (dS q 0)), .v (.int .i64 (dS q 1)), .v (.int .i64 (dS q 2)), .v (.int .i64 (dS q 3)), .v (.int .i64 (dS q 4)), .v (.int .i64 (dS q 5)), .v (.int .i64 (dS q 6)), .v (.int .i64 (dS q 7)), .v (.int .i64 (dS q 8)), .v (.int .i64 (dS q 9)), .v (.int .i64 (dS q 10)), .v (.int .i64 (dS q 11)), .v (.int .i64 (dS q 12)), .v (.int .i64 (dS q 13)), .v (.int .i64 (dS q 14)), .v (.int .i64 (dS q 15)), .v (.int .i64 (dS q 16)), .v (.int .i64 (dS q 17)), .v (.int .i64 (dS q 18)), .v (.int .i64 (dS q 19)), .v (.int .i64 (dS q 20)), .v (.int .i64 (dS q 21)), .v (.int .i64 (dS q 22)), .v (.int .i64 (dS q 23)), .v (.int .i64 (dS q 24)), .v (.int .i64 (dS q 25)), .v (.int .i64 (dS q 26)), .v (.int .i64 (dS q 27)), .v (.int .i64 (dS q 28)), .v (.int .i64 (dS q 29)), .v (.int .i64 (dS q 30)), .v (.int .i64 (dS q 31)), .v (.int .i64 (dS q 32)), .v (.int .i64 (dS q 33)), .v (.int .i64 (dS q 34)), .v (.int .i64 (dS q 35)), .v (.int .i64 (dS q 36)), .v (.int .i64 (dS q 37)), .v (.int .i64 (dS q 38)), .v (.int .i64 (dS q 39)), .v (.int .i64 (d.length:Int)), .v (.int .i64 (v.length:Int))])]) [] [] (fun q=> 40 - q) 0 ?_ (by
  refine Le.mkJ [] [] rfl ?_ ?_ trivial trivial ?_
  ·exact ⟨(iP rfl),(iP rfl),(iP rfl),(cj ag),trivial⟩
  ·exact ⟨(cG rfl rfl rfl),(cG rfl rfl rfl),(cG rfl rfl rfl),(fH rfl rfl rfl rfl lz),trivial⟩
  ·kernel_rfl) ?_
 ·omega
 intro q hq
 refine aG fun K5 hK5=> ?_
 refine am (aR rfl (ai (bp _ _ rfl rfl rfl) (aj (aV rfl (fun hc17=> ?_) (fun hc17=> ?_)))))
 ·skip
  refine bA (hK5 _ ?_)
  clear hK5;try clear K5
  refine aq (au (an (aR rfl (bF rfl rfl rfl (ai (eS _ _ aa rfl rfl rfl q rfl ab (by exact congrArg (fun z=> 0+1+z) (Nat.mul_one q))) ?_)))))
  refine ai (kO _ _ aa rfl rfl rfl rfl (show 0+1+q+1≤43 by omega) ((congrArg (fun z=> fq (En (.ref (60,0) 0 0) (dS q) (d.length:Int) (v.length:Int)) z [.v (.int .i64 (-1))]) ab).trans ((qn _ _ _ _ q ab _).trans (by rw [zt _ ab])))) ?_
  refine fT (an (aR rfl (ai (bc _ _ rfl rfl (bq ab)) ?_)))
  refine ba rfl (az (⟨q+1,?_,?_,?_⟩))
  ·omega
  ·skip
   refine Le.mkJ [] [] rfl ?_ ?_ trivial trivial ?_
   ·exact ⟨(iP rfl),(iP rfl),(iP rfl),(cj ag),trivial⟩
   ·exact ⟨(cG rfl rfl rfl),(cG rfl rfl rfl),(cG rfl rfl rfl),(fH rfl rfl rfl rfl lz),trivial⟩
   ·kernel_rfl
  ·omega
 ·skip
  obtain rfl:q=40:=by omega
  rw [xS]
  refine bL (id (hK3 _ ?_))
  clear hK3;try clear K3
  refine aG fun K8 hK8=> ?_
  refine am (ba rfl (aj (au ?_)))
  refine bC (α:=Nat) (fun j=> j≤H.length) 79 [(1,_),(2,_),(4,_)] [((1,0),_),((2,0),_)] (fun j=> [(6, .v (.int .i64 (j:Int)))]) (fun j=> [((60,0), .row 48 2 (inl (bS (ons.take j) 0))),((4,0), .box 26 [.ref (60,0) 0 (bS (ons.take j) 0).length, .v (.int .i64 (bX (ons.take j) 0)), .v (.int .i64 (bX (ons.take j) 1)), .v (.int .i64 (bX (ons.take j) 2)), .v (.int .i64 (bX (ons.take j) 3)), .v (.int .i64 (bX (ons.take j) 4)), .v (.int .i64 (bX (ons.take j) 5)), .v (.int .i64 (bX (ons.take j) 6)), .v (.int .i64 (bX (ons.take j) 7)), .v (.int .i64 (bX (ons.take j) 8)), .v (.int .i64 (bX (ons.take j) 9)), .v (.int .i64 (bX (ons.take j) 10)), .v (.int .i64 (bX (ons.take j) 11)), .v (.int .i64 (bX (ons.take j) 12)), .v (.int .i64 (bX (ons.take j) 13)), .v (.int .i64 (bX (ons.take j) 14)), .v (.int .i64 (bX (ons.take j) 15)), .v (.int .i64 (bX (ons.take j) 16)), .v (.int .i64 (bX (ons.take j) 17)), .v (.int .i64 (bX (ons.take j) 18)), .v (.int .i64 (bX (ons.take j) 19)), .v (.int .i64 (bX (ons.take j) 20)), .v (.int .i64 (bX (ons.take j) 21)), .v (.int .i64 (bX (ons.take j) 22)), .v (.int .i64 (bX (ons.take j) 23)), .v (.int .i64 (bX (ons.take j) 24)), .v (.int .i64 (bX (ons.take j) 25)), .v (.int .i64 (bX (ons.take j) 26)), .v (.int .i64 (bX (ons.take j) 27)), .v (.int .i64 (bX (ons.take j) 28)), .v (.int .i64 (bX (ons.take j) 29)), .v (.int .i64 (bX (ons.take j) 30)), .v (.int .i64 (bX (ons.take j) 31)), .v (.int .i64 (bX (ons.take j) 32)), .v (.int .i64 (bX (ons.take j) 33)), .v (.int .i64 (bX (ons.take j) 34)), .v (.int .i64 (bX (ons.take j) 35)), .v (.int .i64 (bX (ons.take j) 36)), .v (.int .i64 (bX (ons.take j) 37)), .v (.int .i64 (bX (ons.take j) 38)), .v (.int .i64 (bX (ons.take j) 39)), .v (.int .i64 (d.length:Int)), .v (.int .i64 (v.length:Int))])]) [] [] (fun j=> H.length - j) 0 ?_ (by
   refine Le.mkJ [] [] rfl ?_ ?_ trivial trivial ?_
   ·exact ⟨(iP rfl),(iP rfl),(iP rfl),(cj ag),trivial⟩
   ·exact ⟨(cG rfl rfl rfl),(cG rfl rfl rfl),(gH rfl rfl rfl ag),(fH rfl rfl rfl rfl lz),trivial⟩
   ·kernel_rfl) ?_
  ·omega
  intro j hj
  have hct:=ol ons j
  refine aG fun K10 hK10=> ?_
  refine am (aR rfl (bF rfl rfl rfl (fK rfl rfl rfl (ai (bG _ aa rfl) (ai (bp _ _ rfl rfl rfl) (aj (aV rfl (fun hc27=> ?_) (fun hc27=> ?_))))))))
  ·skip
   have hj:j < ons.length:=by omega
   have hct1:=ol ons (j+1)
   have hUh:=U.h _ (List.getElem_mem hj)
   have hUo:=U.ok _ (List.getElem_mem hj)
   have hUp:=U.pp _ (List.getElem_mem hj)
   have hbody:=rP H j ab
   have hg0:=iB H j ab
   rw [hHk j hj] at hbody hg0
   have hsn:=tG (ons.take j) (ons[j])
   have hen:=vV (ons.take j) (ons[j]) hUh
   rw [← xR ons j hj] at hsn hen
   have hsl:=congrArg List.length hsn
   simp only [List.length_append,List.length_cons,List.length_nil] at hsl
   have hcb:=Bz (d:=d) (v:=v) (no:=H.length) (on:=ll H) U.nd ab (ons[j]).2 hUo hUp (bS (ons.take j) 0).length ab
   generalize cW (ons[j]).2 (bS (ons.take j) 0).length=C at hsn hsl hcb
   generalize (ons[j]).2=bd at hbody hcb
   generalize (ons[j]).1=h at hbody hg0 hen hUh
   have har:=iq (h:Int) 40 ab ab ab ab
   rw [wv hUh] at har
   refine bA (hK10 _ ?_)
   clear hK10;try clear K10
   refine aq (au (am (bF rfl rfl rfl (fK rfl rfl rfl (aR rfl (ai (bf _ _ aa rfl rfl _ rfl ab (by (simp only [aZ,bm,bl,bw,bv,bJ,bz,bK,ec,aZ,List.length_map];omega)) ag) ?_))))))
   refine ai (di _ aa rfl rfl) (ai (bB _ aa rfl (by exact hg0) rfl) ?_)
   refine ai (aJ aa al (har) rfl rfl) ?_
   refine ba rfl (aj (am (aR rfl (bF rfl rfl rfl (ai (aN _ aa rfl rfl (rfl:_=some (AV.ref _ _ _))) (ai (dz _ aa rfl rfl) (bF rfl rfl rfl (ai (eS _ _ aa rfl rfl rfl h rfl ab (by exact congrArg (fun z=> 0+1+z) (Nat.mul_one h))) ?_))))))))
   refine ai (kO _ _ aa rfl rfl rfl rfl (show 0+1+h+1≤43 by omega) ((congrArg (fun z=> fq (En (.ref (60,0) 0 (bS (ons.take j) 0).length) (bX (ons.take j)) (d.length:Int) (v.length:Int)) z [.v (.int .i64 ((bS (ons.take j) 0).length:Int))]) ab).trans ((qn _ _ _ _ h ab _).trans (by rw [← hen])))) ?_
   refine aj (aq ?_)
   refine aM (σ':=aB 79 [(1,_),(2,_),(4,_),(6,_)] [((1,0),_),((2,0),_),((60,0),_),((4,0),_)] [] []) kp ?_
   refine bE 13 [43,44,45,46,47,48,49,50,51,52,53,54,55] [(50,0)] ae ae rfl (aL rfl) (rfl:_=[_,_,_,_,_,_,_,_,_,_,_,_,_]) (rfl:_=[_,_,_]) ?_
   refine ap (_,[]) (fun τ=> aK _ aa rfl rfl rfl) ?_
   refine eL rfl ?_
   refine ap (_,[]) (fun τ=> aN _ aa rfl rfl (rfl:_=some (AV.ref _ _ _))) ?_
   refine eK rfl ?_
   refine ap (_,[]) (fun τ=> aP _ aa rfl rfl rfl rfl) ?_
   refine eM rfl ?_
   refine ap (_,[]) (fun τ=> aK _ aa rfl rfl rfl) ?_
   refine eP rfl ?_
   refine ap (_,[]) (fun τ=> aN _ aa rfl rfl (rfl:_=some (AV.sl _ _))) ?_
   refine fe rfl ?_
   refine ap (_,[]) (fun τ=> aD _ (rfl:_=AV.v (.int _ _))) ?_
   refine fB rfl ?_
   refine ap (_,[]) (fun τ=> bf _ _ aa rfl rfl _ rfl ab (by (simp only [aZ,bm,bl,bw,bv,bJ,bz,bK,ec,aZ,List.length_map];omega)) ag) ?_
   refine gy rfl ?_
   refine ap (_,[]) (fun τ=> di _ aa rfl rfl) ?_
   refine jS rfl ?_
   refine ap (_,[]) (fun τ=> cg _ aa rfl (by exact hbody) rfl) ?_
   refine kd rfl ?_
   refine ap (_,[]) (fun τ=> aK _ aa rfl rfl rfl) ?_
   refine fW rfl ?_
   refine ap (_,[]) (fun τ=> aN _ aa rfl rfl (rfl:_=some (AV.ref _ _ _))) ?_
   refine gA rfl ?_
   refine ap (_,[]) (fun τ=> dz _ aa rfl rfl) ?_
   refine kA rfl ?_
   refine ap (_,[((50,0),_)]) (fun τ=> (ef aa [((0,8),(50,0))] ar (hcb.toI) trivial tr tr rfl rfl ae ae)) ?_
   refine kP rfl (bh ⟨rfl,?_⟩)
   refine ai (dg (56,0) _ _ aa rfl rfl (bK _).symm (.ref rfl (lm _) (jC _)) ab rfl (kw _ _) (show (bS (ons.take j) 0).length+C.length=(bS (ons.take j) 0++C).length by simp)) ?_
   refine bF rfl rfl rfl (bO rfl rfl rfl rfl rfl rfl (aj ?_))
   refine aM (σ':=aB 79 [(1,_),(2,_),(4,_),(6,_)] [((1,0),_),((2,0),_),((4,0),_),((56,0),_)] [] []) kp ?_
   refine an (bF rfl rfl rfl (ai (aN _ aa rfl rfl (rfl:_=some (AV.ref _ _ _))) (ai (aA _ aa rfl (by exact (rfl:_=some [_,_]))) ?_)))
   refine ai (aU _ _ aa rfl ag (by (simp <;> rfl)) ah rfl) ?_
   refine ai (dg (62,0) _ _ aa rfl rfl (bK _).symm (.sl rfl) (by simp;omega) rfl ((ey _ { op:= .stop }).trans (congrArg inl hsn.symm)) (show (bS (ons.take j) 0++C).length+1=(bS (ons.take (j+1)) 0).length by simp [hsl])) ?_
   refine bF rfl rfl rfl (bO rfl rfl rfl rfl rfl rfl (fT (an (aR rfl (ai (bc _ _ rfl rfl (bq ab)) ?_)))))
   refine ba rfl (az (⟨j+1,?_,?_,?_⟩))
   ·omega
   ·skip
    refine Le.mkJ [((60,0),(62,0))] [] rfl ?_ ?_ trivial trivial ?_
    ·exact ⟨(dL (id:=(1,0)) rfl),(dL (id:=(2,0)) rfl),(dL (id:=(4,0)) rfl),(cj ag),trivial⟩
    ·exact ⟨(fH rfl rfl rfl rfl (by repeat' (first | exact Lv.sl | exact br | refine aH ?_ ?_))),(fH rfl rfl rfl rfl (by repeat' (first | exact Lv.v | exact br | refine aH ?_ ?_))),(gH rfl rfl rfl ag),(fH rfl rfl rfl rfl lz),trivial⟩
    ·kernel_rfl
   ·omega
  ·skip
   obtain rfl:j=ons.length:=by omega
   rw [List.take_length]
   refine bL (id (hK8 _ ?_))
   clear hK8;try clear K8
   refine aq (am (bF rfl rfl rfl (ai (aN _ aa rfl rfl (rfl:_=some (AV.ref _ _ _))) (ai (dz _ aa rfl rfl) (ai (dq _ _ rfl rfl rfl) (aj (aV rfl (fun hc67=> ?_) (fun hc67=> ?_))))))))
   ·skip
    have hco:hQ ons≠true:=by
     unfold hQ
     rw [decide_eq_false ab,Bool.false_and]
     exact Bool.false_ne_true
    rw [wH,if_neg hco,DD,if_pos ab]
    refine am (ai (aA _ aa rfl (by exact (rfl:_=some [_,_,_,_,_,_,_,_,_,_,_,_,_,_,_,_,_,_,_,_,_,_,_,_,_,_,_,_,_,_,_,_,_,_,_,_,_,_,_,_,_,_,_]))) ?_)
    exact bO rfl rfl rfl rfl rfl rfl (ba rfl (aj (aC (lK (.inr rfl) rfl (.cellA aa rfl rfl rfl) (.tmp (rfl:_=AV.v _)) (Le.out [] [] (.tup rfl lz) rfl rfl rfl trivial trivial)))))
   ·skip
    have hl4:(bS ons 0).length≤400:=by omega
    refine aI (aG fun K19 hK19=> ?_)
    refine am (ba rfl (aj (au ?_)))
    refine aM (Le.frzB (4,0) 0 rfl rfl rfl rfl (ys:=inl (bS ons 0)) (by rw [List.drop_zero];exact List.take_of_length_le (by rw [bK];omega)) (by rw [bK];omega)) ?_
    refine bC (α:=Nat) (fun h=> h≤40∧ ∀ k,k < h→jx (bS ons 0) (gV (bS ons 0) (bX ons k)).1 (bS ons 0).length≤16) 79 [(2,_),(4,_)] [((2,0),_)] (fun h=> [(8, .v (.int .i64 (h:Int)))]) (fun h=> [((4,0), .box 26 [.sl (bS ons 0).length (inl (bS ons 0)), .v (.int .i64 (bX ons 0)), .v (.int .i64 (bX ons 1)), .v (.int .i64 (bX ons 2)), .v (.int .i64 (bX ons 3)), .v (.int .i64 (bX ons 4)), .v (.int .i64 (bX ons 5)), .v (.int .i64 (bX ons 6)), .v (.int .i64 (bX ons 7)), .v (.int .i64 (bX ons 8)), .v (.int .i64 (bX ons 9)), .v (.int .i64 (bX ons 10)), .v (.int .i64 (bX ons 11)), .v (.int .i64 (bX ons 12)), .v (.int .i64 (bX ons 13)), .v (.int .i64 (bX ons 14)), .v (.int .i64 (bX ons 15)), .v (.int .i64 (bX ons 16)), .v (.int .i64 (bX ons 17)), .v (.int .i64 (bX ons 18)), .v (.int .i64 (bX ons 19)), .v (.int .i64 (bX ons 20)), .v (.int .i64 (bX ons 21)), .v (.int .i64 (bX ons 22)), .v (.int .i64 (bX ons 23)), .v (.int .i64 (bX ons 24)), .v (.int .i64 (bX ons 25)), .v (.int .i64 (bX ons 26)), .v (.int .i64 (bX ons 27)), .v (.int .i64 (bX ons 28)), .v (.int .i64 (bX ons 29)), .v (.int .i64 (bX ons 30)), .v (.int .i64 (bX ons 31)), .v (.int .i64 (bX ons 32)), .v (.int .i64 (bX ons 33)), .v (.int .i64 (bX ons 34)), .v (.int .i64 (bX ons 35)), .v (.int .i64 (bX ons 36)), .v (.int .i64 (bX ons 37)), .v (.int .i64 (bX ons 38)), .v (.int .i64 (bX ons 39)), .v (.int .i64 (d.length:Int)), .v (.int .i64 (v.length:Int))])]) [] [] (fun h=> 40 - h) 0 ?_ (by
     refine Le.mkJ [] [] rfl ?_ ?_ trivial trivial ?_
     ·exact ⟨(iP rfl),(iP rfl),(cj ag),trivial⟩
     ·exact ⟨(cG rfl rfl rfl),(fH rfl rfl rfl rfl lz),trivial⟩
     ·kernel_rfl) ?_
    ·exact ⟨Nat.zero_le _,fun k hk=> absurd hk (Nat.not_lt_zero _)⟩
    intro h hh
    obtain ⟨hk,hks⟩:=hh
    refine aG fun K21 hK21=> ?_
    refine am (aR rfl (ai (bp _ _ rfl rfl rfl) (aj (aV rfl (fun hc70=> ?_) (fun hc70=> ?_)))))
    ·skip
     have hh4:h < 40:=by omega
     have hdm:=lC (C:=bS ons 0) (oG U.good (U.ent h)) (B:=1000000) (fun i _=> Nat.le_trans (xN ons i) hUc) _ (Nat.le_refl _)
     have hde:=tb (bS ons 0) (bX ons) (d.length:Int) (v.length:Int) h hh4 hUc (qM ons) (d++v).length U.good (fun i=> Nat.le_trans (xN ons i) hUc) (U.ent h)
     refine bA (hK21 _ ?_)
     clear hK21;try clear K21
     refine aq (au (am (ai (aP _ aa rfl rfl rfl rfl) (aR rfl (ai (aJ aa al (hde) rfl rfl) ?_)))))
     refine ai (dq _ _ rfl rfl rfl) (aj (aV rfl (fun hc76=> ?_) (fun hc76=> ?_)))
     ·skip
      have hco:hQ ons≠true:=fun e=> by
       unfold hQ at e
       rw [Bool.and_eq_true,List.all_eq_true] at e
       have:=e.2 h (List.mem_range.2 hh4)
       rw [decide_eq_true_eq] at this
       exact absurd (show jx (bS ons 0) (gV (bS ons 0) (bX ons h)).1 (bS ons 0).length≤16 from this) ab
      rw [wH,if_neg hco,DD,if_neg ab]
      refine am (ai (aA _ aa rfl (by exact (rfl:_=some [_,_,_,_,_,_,_,_,_,_,_,_,_,_,_,_,_,_,_,_,_,_,_,_,_,_,_,_,_,_,_,_,_,_,_,_,_,_,_,_,_,_,_]))) ?_)
      exact bO rfl rfl rfl rfl rfl rfl (ba rfl (aj (aC (lK (.inr rfl) rfl (.cellA aa rfl rfl rfl) (.tmp (rfl:_=AV.v _)) (Le.out [] [] (.tup rfl lz) rfl rfl rfl trivial trivial)))))
     ·skip
      refine cf (an (aR rfl (ai (bc _ _ rfl rfl (bq ab)) ?_)))
      refine ba rfl (az (⟨h+1,?_,?_,?_⟩))
      ·exact ⟨by omega,fun k hk=> (by
        rcases Nat.lt_or_ge k h with hlt | hge
        ·exact hks k hlt
        ·obtain rfl:k=h:=by omega
         omega)⟩
      ·skip
       refine Le.mkJ [] [] rfl ?_ ?_ trivial trivial ?_
       ·exact ⟨(iP rfl),(iP rfl),(cj ag),trivial⟩
       ·exact ⟨(cG rfl rfl rfl),(fH rfl rfl rfl rfl lz),trivial⟩
       ·kernel_rfl
      ·omega
    ·skip
     obtain rfl:h=40:=by omega
     have hco:hQ ons=true:=by
      unfold hQ
      rw [Bool.and_eq_true,decide_eq_true_eq,List.all_eq_true]
      exact ⟨hl4,fun k hk=> decide_eq_true (hks k (List.mem_range.1 hk))⟩
     refine bL (id (hK19 _ ?_))
     clear hK19;try clear K19
     refine am (ai (aP _ aa rfl rfl rfl rfl) (bO rfl rfl rfl rfl rfl rfl (ba rfl (aj (aC ?_)))))
     rw [wH,if_pos hco]
     exact lK (.inr rfl) rfl (.cellA aa rfl rfl rfl) (.tmp (rfl:_=AV.v _)) (Le.out [] [] (.tup rfl lz) rfl rfl rfl trivial trivial)

structure Au (s:Tx) (d v:List Tx) (ons:List (Nat×Bk)):Prop extends UOk d v ons where
 p:qc s=some (d,v,na d v ons)
 l:s.length≤3000
 wl: ∀ p∈ons,nR p.2=true
theorem yO {s:Tx} {d v:List Tx} {ons:List (Nat×Bk)} (U:Au s d v ons) (hc:hQ ons=true):
  Spec Tryz.prog 64 (bi [.v (bt s)] []) (aW (wH d v ons) []):=by
 have h1:=oo s U.l _ _ _ U.p
 have h2:Spec Tryz.prog 97 (bi [EM d v (na d v ons)] []) (aW (.v (.int .i64 0)) []):=oN d v ons U.nd U.len U.ok U.wl U.n
 have h3:=jt d v ons U.toUOk
 rw [wH,if_pos hc] at h3 ⊢
 obtain ⟨H,hH⟩: ∃ H,H=na d v ons:=⟨_,rfl⟩
 rw [← hH] at h1 h2 h3
 clear hH
 refine Spec.ofN Tryz.func64 rfl Tryz.ntmps64 rfl ?_
 refine am (ai (ay (2,0) aa rfl rfl) (ba rfl (aj (am (dJ rfl (ai (aJ aa al (h1) rfl rfl) ?_))))))
 refine ai (aD _ (rfl:_=AV.tup _)) (ai (cR _ rfl (rfl:_=some (AV.agg _))) (ai (cR _ rfl (rfl:_=some (AV.v (.int _ _)))) (ai (cR _ rfl (rfl:_=some (AV.v (.int _ _)))) (ai (ay (4,0) aa rfl rfl) (bO rfl rfl rfl rfl rfl rfl (ba rfl (ba rfl (aj (aq (am ?_))))))))))
 refine aR rfl (ai (bY (r:=false) _ _ rfl rfl rfl) (aj (aQ rfl rfl (aI (am (ai (aP _ aa rfl rfl rfl rfl) (ai (aJ aa al (h2) rfl rfl) ?_)))))))
 refine ba rfl (aj (aq (aq ?_)))
 refine aM (σ':=aB 32 [(2,_),(4,_),(6,_)] [((2,0),_),((4,0),_)] [] []) kp ?_
 refine an (aR rfl (ai (bY (r:=false) _ _ rfl rfl rfl) (aj (aQ rfl rfl (aI (am (ai (aP _ aa rfl rfl rfl rfl) (ai (aJ aa al (h3) rfl rfl) ?_))))))))
 refine ai (aD _ (rfl:_=AV.tup _)) (ai (cR _ rfl (rfl:_=some (AV.agg _))) (ai (cR _ rfl (rfl:_=some (AV.v (.int _ _)))) (ai (ay (7,0) aa rfl rfl) (bO rfl rfl rfl rfl rfl rfl (ba rfl (aj (am (ai (aP _ aa rfl rfl rfl rfl) (aR rfl (bO rfl rfl rfl rfl rfl rfl ?_))))))))))
 exact ba rfl (aj (aC (lK (.inr rfl) rfl (.cellA aa rfl rfl rfl) (.tmp (rfl:_=AV.v _)) (Le.out [] [] (.tup rfl lz) rfl rfl rfl trivial trivial))))
theorem yg {s:Tx} {d v:List Tx} {ons:List (Nat×Bk)} (U:Au s d v ons) (hc:hQ ons≠true):
  Spec Tryz.prog 64 (bi [.v (bt s)] []) (aW (wH d v ons) []):=by
 have h1:=oo s U.l _ _ _ U.p
 have h2:Spec Tryz.prog 97 (bi [EM d v (na d v ons)] []) (aW (.v (.int .i64 0)) []):=oN d v ons U.nd U.len U.ok U.wl U.n
 have h3:=jt d v ons U.toUOk
 rw [wH,if_neg hc] at h3 ⊢
 generalize DD ons=er at h3 ⊢
 obtain ⟨H,hH⟩: ∃ H,H=na d v ons:=⟨_,rfl⟩
 rw [← hH] at h1 h2 h3
 clear hH
 refine Spec.ofN Tryz.func64 rfl Tryz.ntmps64 rfl ?_
 refine am (ai (ay (2,0) aa rfl rfl) (ba rfl (aj (am (dJ rfl (ai (aJ aa al (h1) rfl rfl) ?_))))))
 refine ai (aD _ (rfl:_=AV.tup _)) (ai (cR _ rfl (rfl:_=some (AV.agg _))) (ai (cR _ rfl (rfl:_=some (AV.v (.int _ _)))) (ai (cR _ rfl (rfl:_=some (AV.v (.int _ _)))) (ai (ay (4,0) aa rfl rfl) (bO rfl rfl rfl rfl rfl rfl (ba rfl (ba rfl (aj (aq (am ?_))))))))))
 refine aR rfl (ai (bY (r:=false) _ _ rfl rfl rfl) (aj (aQ rfl rfl (aI (am (ai (aP _ aa rfl rfl rfl rfl) (ai (aJ aa al (h2) rfl rfl) ?_)))))))
 refine ba rfl (aj (aq (aq ?_)))
 refine aM (σ':=aB 32 [(2,_),(4,_),(6,_)] [((2,0),_),((4,0),_)] [] []) kp ?_
 refine an (aR rfl (ai (bY (r:=false) _ _ rfl rfl rfl) (aj (aQ rfl rfl (aI (am (ai (aP _ aa rfl rfl rfl rfl) (ai (aJ aa al (h3) rfl rfl) ?_))))))))
 refine ai (aD _ (rfl:_=AV.tup _)) (ai (cR _ rfl (rfl:_=some (AV.agg _))) (ai (cR _ rfl (rfl:_=some (AV.v (.int _ _)))) (ai (ay (7,0) aa rfl rfl) (bO rfl rfl rfl rfl rfl rfl (ba rfl (aj (am (ai (aP _ aa rfl rfl rfl rfl) (aR rfl (bO rfl rfl rfl rfl rfl rfl ?_))))))))))
 exact ba rfl (aj (aC (lK (.inr rfl) rfl (.cellA aa rfl rfl rfl) (.tmp (rfl:_=AV.v _)) (Le.out [] [] (.tup rfl lz) rfl rfl rfl trivial trivial))))
theorem sK {s:Tx} {d v:List Tx} {ons:List (Nat×Bk)} (U:Au s d v ons):
  Spec Tryz.prog 64 (bi [.v (bt s)] []) (aW (wH d v ons) []):=by
 by_cases hc:hQ ons=true
 ·exact yO U hc
 ·exact yg U hc
theorem Dz {d v:List Tx} {ons:List (Nat×Bk)} (h:HQ ons (d++v).length) (h1:(d++v).Nodup) (h2:(d++v).length≤16) (h3:(ons.all fun p=> mW p.2)=true) (h4:ons.length≤1000):UOk d v ons:=
 ⟨h1,h2,h.ok,fun p hp=> (List.all_eq_true.1 h3) p hp,h.h,by have:=h.n;omega,h4⟩
theorem usrcL:Au Ey AO BD onsL:=⟨Dz srcOkL ah ah ae ah,Ee,of_decide_eq_true ae,srcOkL.wl⟩
end Go.Proofs.YtmjnackchaahbaaGreat

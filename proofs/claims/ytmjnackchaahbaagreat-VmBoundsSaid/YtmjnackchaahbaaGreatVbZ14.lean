/- Part 14 of the texts that the walk leans on: the machine, the walks, the plain laws. -/
import Derived.Test.YtmjnackchaahbaaGreatVbZ13
set_option linter.unusedSimpArgs false
set_option linter.unusedVariables false
namespace Go.Proofs.YtmjnackchaahbaaGreat
open Go.RowKit

theorem gu {l:List Int} {i:Nat} (h:i < l.length):l.getD i (-1)=l.getD i 0:=by
 rw [List.getD_eq_getElem?_getD,List.getD_eq_getElem?_getD,List.getElem?_eq_getElem h];rfl
theorem tI {n:Nat} {d:Int} {s:DS} {l:List Nat} {k:Nat} (h:k < l.length):(l.take (k+1)).foldl (ig n d) s=ig n d ((l.take k).foldl (ig n d) s) (l.getD k 0):=by
 rw [List.take_succ_eq_append_getElem h,List.foldl_append,List.getD_eq_getElem?_getD,List.getElem?_eq_getElem h];rfl
theorem zO (n k:Nat) (h:k < n):((List.replicate k (-1:Int))++List.replicate (n - k) 0).set k (-1)=List.replicate (k+1) (-1)++List.replicate (n - (k+1)) 0:=by
 rw [List.set_append_right _ _ (by simp),List.length_replicate,Nat.sub_self,show n - k=(n - (k+1))+1 by omega,List.replicate_succ,List.set_cons_zero,show List.replicate (k+1) (-1:Int)=List.replicate k (-1)++[-1] from List.replicate_succ']
 simp
theorem yh {ρ:aG→aG} {σ:St} {F:aG→Bool} {id:aG} {e:TypeId} {sz n m:Nat} {xs ys:List PV} (hid:σ.ob id= .obj (.row e sz xs)) (hF:F id=true) (hl:n*sz=xs.length) (hy:xs=ys) (hn:n=m):Lv ρ σ F (.sl m ys) (.ref id 0 n):=by
 subst hn;exact iu hid hF hl hy
theorem DI.flag {D:Nat→Nat} {n:Nat} {s:DS} {b:Bool} (h:DI D n s):DI D n (s.1,s.2.1,b):=⟨h.len,h.val,h.ok⟩
def vf (C:List eu) (R:List Int×Bool) (z:(List Int×Bool)×Bool):Prop:=if z.2=true then ∃ f,neg z.1.1+1≤f∧ij C f z.1=R else z.1=R
theorem uY {C:List eu} {R:List Int×Bool} {s:List Int×Bool} {f:Nat} (hf:neg s.1+1≤f) (hR:ij C f s=R) (hd:(dj C s C.length).2.2=true→neg (dj C s C.length).1 < neg s.1):
  vf C R (((dj C s C.length).1,(dj C s C.length).2.1),(dj C s C.length).2.2):=by
 obtain ⟨g,rfl⟩: ∃ g,f=g+1:=⟨f - 1,by omega⟩
 unfold vf
 cases hb:(dj C s C.length).2.2 with
 | true=>
  have:=hd hb
  rw [if_pos rfl]
  exact ⟨g,by simp only;omega,by rw [← hR,sV hb]⟩
 | false=> rw [if_neg (by simp)];rw [← hR,tn hb]
def HL (z:(List Int×Bool)×Bool):Nat:=if z.2=true then neg z.1.1+1 else 0
theorem Di {C:List eu} {s:List Int×Bool} (hd:(dj C s C.length).2.2=true→neg (dj C s C.length).1 < neg s.1):HL (((dj C s C.length).1,(dj C s C.length).2.1),(dj C s C.length).2.2) < neg s.1+1:=by
 unfold HL
 simp only
 split
 ·rename_i h;have:=hd h;omega
 ·omega
theorem uI {C:List eu} {s:DS} {i:Nat} (h:s.1.getD i (-1) < 0):jE C s i=s:=by unfold jE;rw [if_pos h]
theorem wJ {C:List eu} {s:DS} {i:Nat} (h: ¬ s.1.getD i (-1) < 0) (h2: ¬ s.1.getD i (-1) - (cO C i).op.pops < 0):jE C s i=(dz i (cO C i)).foldl (ig C.length (s.1.getD i (-1) - (cO C i).op.pops+(cO C i).op.puts)) s:=by
 unfold jE BG
 rw [if_neg h,if_neg h2,show max (s.1.getD i (-1) - (cO C i).op.pops) 0=s.1.getD i (-1) - (cO C i).op.pops by omega]
theorem rY (C:List eu) (en:Nat→Int) (dd vv:Int) (e:Int) (hC:C.length≤1000000) (D:Nat→Nat) (nv:Nat) (hg:Good D nv 0 (C.length - 1) 0 C) (hD: ∀ i,D i≤1000000) (he:0≤e→e < C.length→D e.toNat=0):
  Spec Tryz.prog 72 (bj [.agg (Aa C.length (inl C) en dd vv), .v (.int .i64 e)] []) (aX (.tup [.sl (hQ C e).1.length (du (hQ C e).1), .v (.bool (hQ C e).2)]) []):=by
 refine Spec.ofN Tryz.func72 rfl Tryz.ntmps72 rfl ?_
 refine am (ai (bk (2,0) _ rfl rfl) (ai (bG _ (rfl:_=AV.v (.slice _ _ _))) (ct rfl (aj (am (bA rfl rfl rfl (fh rfl rfl rfl (ai (bE _ aa rfl) (ai (Ft (17,0) _ _ aa rfl rfl C.length rfl rfl ab rfl (vL C.length)) ?_)))))))))
 refine fa rfl (aj (aF fun K3 hK3=> ?_))
 refine am (aZ rfl (aj (au ?_)))
 refine bw (α:=Nat) (fun k=> k≤C.length) 123 [(1,_),(2,_)] [((2,0),_)] (fun k=> [(7, .v (.int .i64 (k:Int))),(6, .ref (6,0) 0 C.length)]) (fun k=> [((6,0), .row 3 1 (du (List.replicate k (-1)++List.replicate (C.length - k) 0)))]) [] [] (fun k=> C.length - k) 0 ?_ (by
  refine Le.mkJ [((6,0),(17,0))] [] rfl ?_ ?_ trivial trivial ?_
  ·exact ⟨(by repeat' (exact Lv.v)),(dW (id:=(2,0)) rfl),(ck ag),(dh rfl ag),trivial⟩
  ·exact ⟨(fS rfl rfl rfl rfl (by repeat' (first | exact Lv.v | exact Lv.sl | exact bu | refine aI ?_ ?_))),(gM rfl rfl rfl ag),trivial⟩
  ·kernel_rfl) ?_
 ·omega
 intro k hk
 have hll:(List.replicate k (-1:Int)++List.replicate (C.length - k) 0).length=C.length:=by simp;omega
 refine aF fun K5 hK5=> ?_
 refine am (aQ rfl (gG rfl (ai (dA _ aa rfl rfl) (ai (bo _ _ rfl rfl rfl) (aj (aT rfl (fun hc21=> ?_) (fun hc21=> ?_)))))))
 ·skip
  have hrs:=zO C.length k ab
  refine bv (hK5 _ ?_)
  clear hK5;try clear K5
  refine ap (au (an (gG rfl (aQ rfl (ai (gI _ _ aa rfl rfl rfl _ rfl ab (by exact (Nat.zero_add _).trans (Nat.mul_one _))) ?_)))))
  refine ai (nY _ _ aa rfl rfl rfl rfl rfl (by simp;omega) ((li _ _ _ ab).trans (congrArg du hrs))) ?_
  refine fY (an (aQ rfl (ai (bc _ _ rfl rfl (bq ab)) ?_)))
  refine aZ rfl (az (⟨k+1,?_,?_,?_⟩))
  ·omega
  ·skip
   refine Le.mkJ [] [] rfl ?_ ?_ trivial trivial ?_
   ·exact ⟨(iV rfl),(iP rfl),(ck ag),(dh rfl ag),trivial⟩
   ·exact ⟨(cF rfl rfl rfl),(gM rfl rfl rfl ag),trivial⟩
   ·kernel_rfl
  ·omega
 ·skip
  obtain rfl:k=C.length:=by omega
  have hrep:List.replicate C.length (-1:Int)++List.replicate (C.length - C.length) 0=List.replicate C.length (-1):=by simp
  refine bK (id (hK3 _ ?_))
  clear hK3;try clear K3
  refine ap (am (aQ rfl (ai (bo _ _ rfl rfl rfl) (cJ rfl (dE (fun hg29=> ?_) (fun hg29=> ?_))))))
  ·skip
   have hdf:hQ C e=(List.replicate C.length (-1),true):=if_pos (.inl ab)
   refine aW rfl rfl ah ?_
   refine aW rfl rfl ah ?_
   refine aW rfl rfl ah ?_
   refine aW rfl rfl ah ?_
   refine ai (aD _ _ _ rfl (rfl:_=AV.v (.bool _))) (aj (bD rfl rfl (am (gG rfl (fa rfl (ct rfl (aj (aC ?_))))))))
   rw [hdf]
   exact lw (.inr rfl) rfl (.tmp (rfl:_=AV.ref _ _ _)) (.tmp (rfl:_=AV.v (.bool _))) (Le.out [] [(6,0)] (.tup rfl (aI (yh rfl rfl (by simp) (congrArg du hrep) (by simp)) lz)) rfl rfl rfl tr trivial)
  ·skip
   refine ax rfl rfl (aE _ (rfl:_=AV.v (.int _ _))) (ax rfl rfl (aE _ (rfl:_=AV.ref _ _ _)) (ax rfl rfl (dA _ aa rfl rfl) (ax rfl rfl (eR _ _ rfl rfl rfl) (ai (aD _ _ _ rfl (rfl:_=AV.v (.bool _))) (aj (aT rfl (fun hc34=> ?_) (fun hc34=> ?_)))))))
   ·skip
    have hdf:hQ C e=(List.replicate C.length (-1),true):=if_pos (.inr ab)
    refine am (gG rfl (fa rfl (ct rfl (aj (aC ?_)))))
    rw [hdf]
    exact lw (.inr rfl) rfl (.tmp (rfl:_=AV.ref _ _ _)) (.tmp (rfl:_=AV.v (.bool _))) (Le.out [] [(6,0)] (.tup rfl (aI (yh rfl rfl (by simp) (congrArg du hrep) (by simp)) lz)) rfl rfl rfl tr trivial)
   ·skip
    have hdf:hQ C e=ij C (C.length+1) ((List.replicate C.length (-1)).set e.toNat 0,true):=if_neg ab
    have hdi0:DI D C.length ((List.replicate C.length (-1)).set e.toNat 0,true,false):=by
     have hr: ∀ i,(List.replicate C.length (-1:Int)).getD i (-1)= -1:=fun i=> by rw [List.getD_eq_getElem?_getD,List.getElem?_replicate];split <;> rfl
     refine ⟨by simp,fun i hi=> ?_,rfl⟩
     simp only
     rw [iU]
     split
     ·rename_i h;right;rw [h.1,he ab ab];rfl
     ·exact .inl (hr i)
    have hn0:neg ((List.replicate C.length (-1)).set e.toNat 0)≤C.length:=by
     have:=List.countP_le_length (p:=fun x:Int=> decide (x < 0)) (l:=(List.replicate C.length (-1:Int)).set e.toNat 0)
     simpa [neg] using this
    obtain ⟨R,hR⟩: ∃ R,R=hQ C e:=⟨_,rfl⟩
    rw [← hR] at hdf
    refine aJ (am (gG rfl (aQ rfl (ai (gI _ _ aa rfl rfl rfl e.toNat ab ab (by exact (Nat.zero_add _).trans (Nat.mul_one _))) ?_))))
    refine ai (nY _ _ aa rfl rfl rfl rfl rfl (by simp;omega) ((li _ _ _ (by simp;omega)).trans (congrArg (fun l=> du (List.set l e.toNat 0)) hrep))) ?_
    refine aj (ap ?_)
    refine aN (σ':=aB 123 [(2,_),(6,_)] [((2,0),_),((6,0),_)] [] []) kp ?_
    refine an (ct rfl (aj (aF fun K14 hK14=> ?_)))
    refine am (ct rfl (aj (au ?_)))
    refine bw (α:=(List Int×Bool)×Bool) (fun z=> DI D C.length (z.1.1,z.1.2,false)∧vf C R z) 123 [(2,_),(6,_)] [((2,0),_)] (fun z=> [(8, .v (.bool z.1.2)),(9, .v (.bool z.2))]) (fun z=> [((6,0), .row 3 1 (du z.1.1))]) [] [] (fun z=> HL z) (((List.replicate C.length (-1)).set e.toNat 0,true),true) ?_ (by
     refine Le.mkJ [] [] rfl ?_ ?_ trivial trivial ?_
     ·exact ⟨(iP rfl),(iR rfl),(ic ag),(ic ag),trivial⟩
     ·exact ⟨(cF rfl rfl rfl),(gM rfl rfl rfl ag),trivial⟩
     ·kernel_rfl) ?_
    ·exact ⟨hdi0,by unfold vf;rw [if_pos rfl];exact ⟨C.length+1,by simp only;omega,hdf.symm⟩⟩
    intro z hz
    obtain ⟨s,ch⟩:=z
    obtain ⟨hdi,hz⟩:=hz
    simp only at hdi hz ⊢
    refine aF fun K16 hK16=> ?_
    refine am (cJ rfl (aj (aT rfl (fun hc39=> ?_) (fun hc39=> ?_))))
    ·skip
     obtain ⟨f,hf1,hf2⟩: ∃ f,neg s.1+1≤f∧ij C f s=R:=by
      unfold vf at hz
      rwa [if_pos hc39] at hz
     have hpd:=(jJ hg hdi C.length (Nat.le_refl _)).2.2
     refine bv (hK16 _ ?_)
     clear hK16;try clear K16
     refine au (am (ct rfl (aj (am (aZ rfl (aj (au ?_)))))))
     refine bw (α:=Nat) (fun i=> i≤C.length) 123 [(2,_),(6,_)] [((2,0),_)] (fun i=> [(10, .v (.int .i64 (i:Int))),(8, .v (.bool (dj C s i).2.1)),(9, .v (.bool (dj C s i).2.2))]) (fun i=> [((6,0), .row 3 1 (du (dj C s i).1))]) [] [] (fun i=> C.length - i) 0 ?_ (by
      refine Le.mkJ [] [] rfl ?_ ?_ trivial trivial ?_
      ·exact ⟨(iP rfl),(iR rfl),(ck ag),(ic ag),(ic ag),trivial⟩
      ·exact ⟨(cF rfl rfl rfl),(gM rfl rfl rfl ag),trivial⟩
      ·kernel_rfl) ?_
     ·omega
     intro i hi
     have hw:=(jJ hg hdi i hi).1
     have hps:=nF C s i
     have hwl:=hw.len
     refine aF fun K20 hK20=> ?_
     refine am (aQ rfl (gG rfl (ai (dA _ aa rfl rfl) (ai (bo _ _ rfl rfl rfl) (aj (aT rfl (fun hc43=> ?_) (fun hc43=> ?_)))))))
     ·skip
      have hdn:=(jJ hg hdi (i+1) ab).1
      have hvi:=hw.val i ab
      generalize dj C s i=w at hw hps hwl hvi
      rw [gu ab] at hvi
      obtain ⟨hins,hpop,hsuc⟩:=hg i (cO C i) (by unfold cO;rw [List.getD_eq_getElem?_getD,List.getElem?_eq_getElem ab];rfl)
      rw [Nat.zero_add] at hpop hsuc
      have hDi:=hD i
      refine bv (hK20 _ ?_)
      clear hK20;try clear K20
      refine aF fun K22 hK22=> ?_
      refine au (ap (am (gG rfl (aQ rfl (ai (gI _ _ aa rfl rfl rfl _ rfl ab (by exact (Nat.zero_add _).trans (Nat.mul_one _))) ?_)))))
      refine ai (kM _ aa rfl rfl (by exact dH _ _ ab) rfl) ?_
      refine ai (bo _ _ rfl rfl rfl) (aj (aT rfl (fun hc50=> ?_) (fun hc50=> ?_)))
      ·skip
       rw [uI (by rw [gu ab];omega)] at hps
       refine bK (id (hK22 _ ?_))
       clear hK22;try clear K22
       refine an (aQ rfl (ai (bc _ _ rfl rfl (bq ab)) ?_))
       refine aZ rfl (az (⟨i+1,?_,?_,?_⟩))
       ·omega
       ·skip
        refine Le.mkJ [] [] rfl ?_ ?_ trivial trivial ?_
        ·exact ⟨(iP rfl),(iR rfl),(ck ag),(ic (by (rw [hps]))),(ic (by (rw [hps]))),trivial⟩
        ·exact ⟨(cF rfl rfl rfl),(gM rfl rfl rfl (by (rw [hps]))),trivial⟩
        ·kernel_rfl
       ·omega
      ·skip
       have hvD:=hvi.resolve_left ab
       have hgo:=wJ (C:=C) (s:=w) (i:=i) (by rw [gu ab];omega) (by rw [gu ab];omega)
       rw [gu ab,hvD] at hgo
       rw [hgo] at hps
       obtain ⟨L,hL⟩: ∃ L,L=dz i (cO C i):=⟨_,rfl⟩
       have hLl:L.length≤2:=by rw [hL];unfold dz;split <;> simp
       have hnn:(cO C i).op= .jump∨(cO C i).op= .unl→0≤(cO C i).n:=by
        unfold cT at hins
        rintro (e | e) <;> rw [e] at hins <;> exact hins
       have hnx:=vM C en dd vv i hC ab hnn
       rw [← hL] at hps hsuc hnx
       have hpp:=pR (cO C i).op
       have hpq:=pb (cO C i).op
       have hp3:(cO C i).op.pops≤3:=by generalize (cO C i).op=o;cases o <;> decide
       have hp4:(cO C i).op.puts≤1:=by generalize (cO C i).op=o;cases o <;> decide
       refine aJ (ap ?_)
       refine aN (σ':=aB 123 [(2,_),(6,_),(8,_),(9,_),(10,_)] [((2,0),_),((6,0),_)] [] []) kp ?_
       refine bF 13 [51,52,53,54,55,56,57,58,59,60,61,62,11] [] ae ae rfl (aM rfl) (rfl:_=[_,_,_,_,_,_,_,_,_,_,_,_,_]) (rfl:_=[]) ?_
       refine aq (_,[]) (fun τ=> aE _ (rfl:_=AV.ref _ _ _)) ?_
       refine eJ rfl ?_
       refine aq (_,[]) (fun τ=> aE _ (rfl:_=AV.v (.int _ _))) ?_
       refine eK rfl ?_
       refine aq (_,[]) (fun τ=> gI _ _ aa rfl rfl rfl _ rfl ab (by exact (Nat.zero_add _).trans (Nat.mul_one _))) ?_
       refine eH rfl ?_
       refine aq (_,[]) (fun τ=> kM _ aa rfl rfl (by exact dH _ _ ab) rfl) ?_
       refine eS rfl ?_
       refine aq (_,[]) (fun τ=> aH _ aa rfl rfl rfl) ?_
       refine eZ rfl ?_
       refine aq (_,[]) (fun τ=> aK _ aa rfl rfl (rfl:_=some (AV.sl _ _))) ?_
       refine fH rfl ?_
       refine aq (_,[]) (fun τ=> aE _ (rfl:_=AV.v (.int _ _))) ?_
       refine gF rfl ?_
       refine aq (_,[]) (fun τ=> bf _ _ aa rfl rfl _ rfl ab (by (simp only [ba,bn,bl,bC,bz,bJ,bB,bM,ed,ba];omega)) ag) ?_
       refine kv rfl ?_
       refine aq (_,[]) (fun τ=> di _ aa rfl rfl) ?_
       refine ko rfl ?_
       refine aq (_,[]) (fun τ=> bH _ aa rfl (by exact lQ C i ab) rfl) ?_
       refine gj rfl ?_
       refine aq (_,[]) (fun τ=> (aL aa al (hpp) rfl rfl)) ?_
       refine gH rfl ?_
       refine aq (_,[]) (fun τ=> ce _ _ rfl rfl (bq (by rw [hvD];omega))) ?_
       refine lf rfl ?_
       refine aq (_,[]) (fun τ=> bG _ (rfl:_=AV.v (.int _ _))) ?_
       refine lO rfl (bh ⟨rfl,?_⟩)
       refine aj (ap (am (aQ rfl (ai (bo _ _ rfl rfl rfl) (aj (aP rfl (decide_eq_false (by rw [hvD];omega)) ?_))))))
       refine aJ (ap ?_)
       refine aN (σ':=aB 123 [(2,_),(6,_),(8,_),(9,_),(10,_),(11,_)] [((2,0),_),((6,0),_)] [] []) kp ?_
       refine an (aQ rfl (bA rfl rfl rfl (fh rfl rfl rfl (aQ rfl (ai (bf _ _ aa rfl rfl _ rfl ab (by (simp only [ba,bn,bl,bC,bz,bJ,bB,bM,ed,ba];omega)) ag) ?_)))))
       refine ai (di _ aa rfl rfl) (ai (bH _ aa rfl (by exact lQ C i ab) rfl) ?_)
       refine ai (aL aa al (hpq) rfl rfl) ?_
       refine ai (bc _ _ rfl rfl (bq (by rw [hvD];omega))) ?_
       refine aZ rfl (aj (am (ai (aR _ aa rfl rfl rfl rfl) (aQ rfl (ai (aL aa al (hnx) rfl rfl) ?_)))))
       refine kJ rfl (aj (am (aZ rfl (aj (au ?_)))))
       refine bw (α:=Nat) (fun k=> k≤L.length) 123 [(2,_),(6,_),(10,_),(12,_)] [((2,0),_)] (fun k=> [(13, .v (.int .i64 (k:Int))),(11, .v (.int .i64 ((D i:Int) - (cO C i).op.pops+(cO C i).op.puts))),(8, .v (.bool ((L.take k).foldl (ig C.length ((D i:Int) - (cO C i).op.pops+(cO C i).op.puts)) w).2.1)),(9, .v (.bool ((L.take k).foldl (ig C.length ((D i:Int) - (cO C i).op.pops+(cO C i).op.puts)) w).2.2))]) (fun k=> [((6,0), .row 3 1 (du ((L.take k).foldl (ig C.length ((D i:Int) - (cO C i).op.pops+(cO C i).op.puts)) w).1))]) [] [] (fun k=> L.length - k) 0 ?_ (by
        refine Le.mkJ [] [] rfl ?_ ?_ trivial trivial ?_
        ·exact ⟨(iP rfl),(iR rfl),(iV rfl),(iS rfl),(ck ag),(ck (by rw [hvD])),(ic ag),(ic ag),trivial⟩
        ·exact ⟨(cF rfl rfl rfl),(gM rfl rfl rfl ag),trivial⟩
        ·kernel_rfl) ?_
       ·omega
       intro k hk
       have hwd: ∀ j∈L,(D i:Int) - (cO C i).op.pops+(cO C i).op.puts=(D j:Int):=fun j hj=> by have:=(hsuc j hj).2.2;omega
       have hu:=(lB (L.take k) hw (fun j hj=> hwd j (List.mem_of_mem_take hj))).1
       have hul:=hu.len
       refine aF fun K31 hK31=> ?_
       refine am (aQ rfl (eV rfl (ai (bE _ aa rfl) (ai (bo _ _ rfl rfl rfl) (aj (aT rfl (fun hc80=> ?_) (fun hc80=> ?_)))))))
       ·skip
        have hfs:=tI (n:=C.length) (d:=(D i:Int) - (cO C i).op.pops+(cO C i).op.puts) (s:=w) (l:=L) (k:=k) ab
        have hu1:=(lB (L.take (k+1)) hw (fun j hj=> hwd j (List.mem_of_mem_take hj))).1.len
        obtain ⟨j,hj⟩: ∃ j,j=L.getD k 0:=⟨_,rfl⟩
        have hjm:j∈L:=by rw [hj,List.getD_eq_getElem?_getD,List.getElem?_eq_getElem ab];exact List.getElem_mem ab
        obtain ⟨hj1,hj2,_⟩:=hsuc j hjm
        have hjn:j < C.length:=by omega
        have hwj:=hwd j hjm
        have hnk:=AF L k ab
        rw [← hj] at hfs hnk
        have huv:=hu.val j hjn
        rw [gu ab] at huv
        generalize (L.take k).foldl (ig C.length ((D i:Int) - (cO C i).op.pops+(cO C i).op.puts)) w=u at hu hul hfs huv
        refine bv (hK31 _ ?_)
        clear hK31;try clear K31
        refine ap (au (ap (am (eV rfl (aQ rfl (ai (bf _ _ aa rfl rfl _ rfl ab (by (simp only [ba,bn,bl,bC,bz,bJ,bB,bM,ed,ba];omega)) (by exact Nat.mul_one _)) ?_))))))
        refine ai (bH _ aa rfl (by exact hnk) rfl) ?_
        refine ai (bo _ _ rfl rfl rfl) (cJ rfl (dE (fun hg88=> ?_) (fun hg88=> ?_)))
        ·skip
         exact absurd hg88 ab
        ·skip
         refine ax rfl rfl (aE _ (rfl:_=AV.sl _ _)) (ax rfl rfl (aE _ (rfl:_=AV.v (.int _ _))) (ax rfl rfl (bf _ _ aa rfl rfl _ rfl ab (by (simp only [ba,bn,bl,bC,bz,bJ,bB,bM,ed,ba];omega)) (by exact Nat.mul_one _)) ?_))
         refine ax rfl rfl (bH _ aa rfl (by exact hnk) rfl) ?_
         refine ax rfl rfl (aE _ (rfl:_=AV.ref _ _ _)) (ax rfl rfl (dA _ aa rfl rfl) (ax rfl rfl (eR _ _ rfl rfl rfl) (ai (aD _ _ _ rfl (rfl:_=AV.v (.bool _))) (aj (aP rfl (decide_eq_false ab) ?_)))))
         refine aJ (ap ?_)
         refine aN (σ':=aB 123 [(2,_),(6,_),(8,_),(9,_),(10,_),(11,_),(12,_),(13,_)] [((2,0),_),((6,0),_)] [] []) kp ?_
         refine an (gG rfl (eV rfl (aQ rfl (ai (bf _ _ aa rfl rfl _ rfl ab (by (simp only [ba,bn,bl,bC,bz,bJ,bB,bM,ed,ba];omega)) (by exact Nat.mul_one _)) ?_))))
         refine ai (bH _ aa rfl (by exact hnk) rfl) ?_
         refine ai (gI _ _ aa rfl rfl rfl _ rfl ab (by exact (Nat.zero_add _).trans (Nat.mul_one _))) ?_
         refine ai (kM _ aa rfl rfl (by exact dH _ _ ab) rfl) ?_
         refine ai (bo _ _ rfl rfl rfl) (aj (aT rfl (fun hc104=> ?_) (fun hc104=> ?_)))
         ·skip
          have hds:ig C.length ((D i:Int) - (cO C i).op.pops+(cO C i).op.puts) u j=(u.1.set j ((D i:Int) - (cO C i).op.pops+(cO C i).op.puts),u.2.1,true):=by
           unfold ig
           rw [if_neg ab,if_pos (by rw [gu ab];omega)]
          rw [hds] at hfs
          refine am (gG rfl (eV rfl (aQ rfl (ai (bf _ _ aa rfl rfl _ rfl ab (by (simp only [ba,bn,bl,bC,bz,bJ,bB,bM,ed,ba];omega)) (by exact Nat.mul_one _)) ?_))))
          refine ai (bH _ aa rfl (by exact hnk) rfl) ?_
          refine aQ rfl (ai (gI _ _ aa rfl rfl rfl _ rfl ab (by exact (Nat.zero_add _).trans (Nat.mul_one _))) ?_)
          refine ai (nY _ _ aa rfl rfl rfl rfl rfl (by simp;omega) (li _ _ _ ab)) ?_
          refine aj ?_
          refine aN (σ':=aB 123 [(2,_),(6,_),(8,_),(10,_),(11,_),(12,_),(13,_)] [((2,0),_),((6,0),_)] [] []) kp ?_
          refine an (ct rfl (fY (an (aQ rfl (ai (bc _ _ rfl rfl (bq ab)) ?_)))))
          refine aZ rfl (az (⟨k+1,?_,?_,?_⟩))
          ·omega
          ·skip
           refine Le.mkJ [] [] rfl ?_ ?_ trivial trivial ?_
           ·exact ⟨(iP rfl),(iR rfl),(iV rfl),(iS rfl),(ck ag),(ck ag),(ic (by (rw [hfs]))),(ic (by (rw [hfs]))),trivial⟩
           ·exact ⟨(cF rfl rfl rfl),(gM rfl rfl rfl (by (rw [hfs]))),trivial⟩
           ·kernel_rfl
          ·omega
         ·skip
          have hds:ig C.length ((D i:Int) - (cO C i).op.pops+(cO C i).op.puts) u j=u:=by
           unfold ig
           rw [if_neg ab,if_neg (by rw [gu ab];omega),if_neg (by rw [gu ab];omega)]
          rw [hds] at hfs
          refine am (gG rfl (eV rfl (aQ rfl (ai (bf _ _ aa rfl rfl _ rfl ab (by (simp only [ba,bn,bl,bC,bz,bJ,bB,bM,ed,ba];omega)) (by exact Nat.mul_one _)) ?_))))
          refine ai (bH _ aa rfl (by exact hnk) rfl) ?_
          refine ai (gI _ _ aa rfl rfl rfl _ rfl ab (by exact (Nat.zero_add _).trans (Nat.mul_one _))) ?_
          refine ai (kM _ aa rfl rfl (by exact dH _ _ ab) rfl) ?_
          refine aQ rfl (ai (ca _ _ rfl rfl rfl) (aj (aP rfl (by rw [bne_eq_false_iff_eq];omega) ?_)))
          refine bZ ?_
          refine aN (σ':=aB 123 [(2,_),(6,_),(8,_),(9,_),(10,_),(11,_),(12,_),(13,_)] [((2,0),_),((6,0),_)] [] []) kp ?_
          refine an (aQ rfl (ai (bc _ _ rfl rfl (bq ab)) ?_))
          refine aZ rfl (az (⟨k+1,?_,?_,?_⟩))
          ·omega
          ·skip
           refine Le.mkJ [] [] rfl ?_ ?_ trivial trivial ?_
           ·exact ⟨(iP rfl),(iR rfl),(iV rfl),(iS rfl),(ck ag),(ck ag),(ic (by (rw [hfs]))),(ic (by (rw [hfs]))),trivial⟩
           ·exact ⟨(cF rfl rfl rfl),(gM rfl rfl rfl (by (rw [hfs]))),trivial⟩
           ·kernel_rfl
          ·omega
       ·skip
        obtain rfl:k=L.length:=by omega
        rw [List.take_length] at hu hul
        rw [List.take_length]
        refine bK (id (hK22 _ ?_))
        clear hK22;try clear K22
        refine an (aQ rfl (ai (bc _ _ rfl rfl (bq ab)) ?_))
        refine aZ rfl (az (⟨i+1,?_,?_,?_⟩))
        ·omega
        ·skip
         refine Le.mkJ [] [] rfl ?_ ?_ trivial trivial ?_
         ·exact ⟨(iP rfl),(iR rfl),(ck ag),(ic (by (rw [hps]))),(ic (by (rw [hps]))),trivial⟩
         ·exact ⟨(cF rfl rfl rfl),(gM rfl rfl rfl (by (rw [hps]))),trivial⟩
         ·kernel_rfl
        ·omega
     ·skip
      obtain rfl:i=C.length:=by omega
      refine bK (id (⟨(((dj C s C.length).1,(dj C s C.length).2.1),(dj C s C.length).2.2),?_,?_,?_⟩))
      ·exact ⟨hw.flag,uY hf1 hf2 hpd⟩
      ·skip
       refine Le.mkJ [] [] rfl ?_ ?_ trivial trivial ?_
       ·exact ⟨(iP rfl),(iR rfl),(ic ag),(ic ag),trivial⟩
       ·exact ⟨(cF rfl rfl rfl),(gM rfl rfl rfl ag),trivial⟩
       ·kernel_rfl
      ·rw [show HL (s,ch)=neg s.1+1 from if_pos hc39];exact Di hpd
    ·skip
     have hzR:s=R:=by
      unfold vf at hz
      rwa [if_neg (by simp [hc39])] at hz
     subst hzR
     have hsl:=hdi.len
     refine bK (id (hK14 _ ?_))
     clear hK14;try clear K14
     refine am (gG rfl (cJ rfl (fa rfl (ct rfl (aj (aC ?_))))))
     rw [← hR]
     exact lw (.inr rfl) rfl (.tmp (rfl:_=AV.ref _ _ _)) (.tmp (rfl:_=AV.v (.bool _))) (Le.out [] [(6,0)] (.tup rfl (aI (yh rfl rfl (by simp only at hsl;simp [hsl]) rfl hsl.symm) lz)) rfl rfl rfl tr trivial)
theorem tf (C:List eu) (en:Nat→Int) (dd vv:Int) (h:Nat) (hh:h < 40) (hC:C.length≤1000000) (D:Nat→Nat) (nv:Nat) (hg:Good D nv 0 (C.length - 1) 0 C) (hD: ∀ i,D i≤1000000) (he:0≤en h→en h < C.length→D (en h).toNat=0):
  Spec Tryz.prog 74 (bj [.agg (Aa C.length (inl C) en dd vv), .v (.int .i64 (h:Int))] []) (aX (.v (.int .i64 (jt C (hQ C (en h)).1 C.length))) []):=by
 have hds:=rY C en dd vv (en h) hC D nv hg hD he
 have hdi:=nA hg he
 have hdl:=hdi.len
 have hml:=fun k (hk:k≤C.length)=> lG (C:=C) (n:=C.length) hdi (B:=1000000) (fun i _=> hD i) k hk
 generalize hQ C (en h)=R at hds hdi hdl hml
 have hen:=qk C.length (inl C) en dd vv h hh
 refine Spec.ofN Tryz.func74 rfl Tryz.ntmps74 rfl ?_
 refine am (ai (bk (2,0) _ rfl rfl) (aZ rfl (aj (ap (bF 11 [11,12,13,14,15,16,10,17,18,5,6] [] ae ae rfl (aM rfl) (rfl:_=[_,_,_,_,_,_,_,_,_,_,_]) (rfl:_=[]) ?_)))))
 refine aq (_,[]) (fun τ=> aR _ aa rfl rfl rfl rfl) ?_
 refine eJ rfl ?_
 refine aq (_,[]) (fun τ=> aE _ (rfl:_=AV.v (.int _ _))) ?_
 refine eK rfl ?_
 refine aq (_,[]) (fun τ=> aH _ aa rfl rfl rfl) ?_
 refine eH rfl ?_
 refine aq (_,[]) (fun τ=> eD _ _ aa rfl rfl rfl h rfl ab (by exact congrArg (fun z=> 0+1+z) (Nat.mul_one h))) ?_
 refine eS rfl ?_
 refine aq (_,[]) (fun τ=> aK _ aa rfl rfl (by exact (congrArg (fun z=> (Aa C.length (inl C) en dd vv)[z]?) ab).trans hen)) ?_
 refine eZ rfl ?_
 refine aq (_,[]) (fun τ=> (aL aa al (hds) rfl rfl)) ?_
 refine fH rfl ?_
 refine aq (_,[]) (fun τ=> aE _ (rfl:_=AV.tup _)) ?_
 refine gF rfl ?_
 refine aq (_,[]) (fun τ=> db _ rfl (rfl:_=some (AV.sl _ _))) ?_
 refine kv rfl ?_
 refine aq (_,[]) (fun τ=> db _ rfl (rfl:_=some (AV.v (.bool _)))) ?_
 refine ko rfl ?_
 refine aq (_,[]) (fun τ=> bG _ (rfl:_=AV.sl _ _)) ?_
 refine gj rfl ?_
 refine aq (_,[]) (fun τ=> bG _ (rfl:_=AV.v (.bool _))) ?_
 refine gH rfl (bh ⟨rfl,?_⟩)
 refine aj (am (aZ rfl (aj (aF fun K4 hK4=> ?_))))
 refine am (aZ rfl (aj (au ?_)))
 refine bw (α:=Nat) (fun k=> k≤C.length) 53 [(2,_),(5,_)] [((2,0),_)] (fun k=> [(8, .v (.int .i64 (k:Int))),(7, .v (.int .i64 (jt C R.1 k)))]) (fun k=> []) [] [] (fun k=> C.length - k) 0 ?_ (by
  refine Le.mkJ [] [] rfl ?_ ?_ trivial trivial ?_
  ·exact ⟨(iP rfl),(iS rfl),(ck ag),(ck ag),trivial⟩
  ·exact ⟨(cF rfl rfl rfl),trivial⟩
  ·kernel_rfl) ?_
 ·omega
 intro k hk
 have hm1:=hml k hk
 have hs:=oK C R.1 k
 simp only at hdl hm1
 refine aF fun K6 hK6=> ?_
 refine am (aQ rfl (eV rfl (ai (bE _ aa rfl) (ai (bo _ _ rfl rfl rfl) (aj (aT rfl (fun hc22=> ?_) (fun hc22=> ?_)))))))
 ·skip
  have hm2:=hml (k+1) ab
  have hv:=hdi.val k ab
  simp only at hv hm2
  rw [gu ab] at hv hs
  have hDk:=hD k
  obtain ⟨q,hq⟩: ∃ q,q=cO C k:=⟨_,rfl⟩
  have hp3:q.op.pops≤3:=by generalize q.op=o;cases o <;> decide
  have hp4:q.op.puts≤1:=by generalize q.op=o;cases o <;> decide
  have hpp:=pR q.op
  have hpq:=pb q.op
  have hg0:=lQ C k ab
  rw [← hq] at hg0 hs
  refine bv (hK6 _ ?_)
  clear hK6;try clear K6
  refine ap (au (am (eV rfl (aQ rfl (ai (bf _ _ aa rfl rfl _ rfl ab (by (simp only [ba,bn,bl,bC,bz,bJ,bB,bM,ed,ba];omega)) (by exact Nat.mul_one _)) ?_)))))
  refine ai (bH _ aa rfl (by exact dH _ _ ab) rfl) ?_
  refine ai (eR _ _ rfl rfl rfl) (aj (aT rfl (fun hc29=> ?_) (fun hc29=> ?_)))
  ·skip
   rw [if_pos ab] at hs
   refine am (bA rfl rfl rfl (fh rfl rfl rfl (aQ rfl (ai (bf _ _ aa rfl rfl _ rfl ab (by (simp only [ba,bn,bl,bC,bz,bJ,bB,bM,ed,ba];omega)) ag) ?_))))
   refine ai (di _ aa rfl rfl) (ai (bH _ aa rfl (by exact hg0) rfl) ?_)
   refine aZ rfl (aj ?_)
   refine aN (σ':=aB 53 [(2,_),(5,_),(7,_),(8,_),(9,_)] [((2,0),_)] [] []) kp ?_
   refine bF 16 [36,37,38,39,40,41,42,43,44,45,46,47,48,49,50,51] [] ae ae rfl (aM rfl) (rfl:_=[_,_,_,_,_,_,_,_,_,_,_,_,_,_,_,_]) (rfl:_=[_]) ?_
   refine aq (_,[]) (fun τ=> aE _ (rfl:_=AV.v (.int _ _))) ?_
   refine eJ rfl ?_
   refine aq (_,[]) (fun τ=> aE _ (rfl:_=AV.sl _ _)) ?_
   refine eK rfl ?_
   refine aq (_,[]) (fun τ=> aE _ (rfl:_=AV.v (.int _ _))) ?_
   refine eH rfl ?_
   refine aq (_,[]) (fun τ=> bf _ _ aa rfl rfl _ rfl ab (by (simp only [ba,bn,bl,bC,bz,bJ,bB,bM,ed,ba];omega)) (by exact Nat.mul_one _)) ?_
   refine eS rfl ?_
   refine aq (_,[]) (fun τ=> bH _ aa rfl (by exact dH _ _ ab) rfl) ?_
   refine eZ rfl ?_
   refine aq (_,[]) (fun τ=> aE _ (rfl:_=AV.sl _ _)) ?_
   refine fH rfl ?_
   refine aq (_,[]) (fun τ=> aE _ (rfl:_=AV.v (.int _ _))) ?_
   refine gF rfl ?_
   refine aq (_,[]) (fun τ=> bf _ _ aa rfl rfl _ rfl ab (by (simp only [ba,bn,bl,bC,bz,bJ,bB,bM,ed,ba];omega)) (by exact Nat.mul_one _)) ?_
   refine kv rfl ?_
   refine aq (_,[]) (fun τ=> bH _ aa rfl (by exact dH _ _ ab) rfl) ?_
   refine ko rfl ?_
   refine aq (_,[]) (fun τ=> aE _ (rfl:_=AV.v (.int _ _))) ?_
   refine gj rfl ?_
   refine aq (_,[]) (fun τ=> (aL aa al (hpp) rfl rfl)) ?_
   refine gH rfl ?_
   refine aq (_,[]) (fun τ=> ce _ _ rfl rfl (bq ab)) ?_
   refine lf rfl ?_
   refine aq (_,[]) (fun τ=> aE _ (rfl:_=AV.v (.int _ _))) ?_
   refine lO rfl ?_
   refine aq (_,[]) (fun τ=> (aL aa al (hpq) rfl rfl)) ?_
   refine pa rfl ?_
   refine aq (_,[]) (fun τ=> bc _ _ rfl rfl (bq ab)) ?_
   refine wb rfl ?_
   refine aq (_,[]) (fun τ=> Cc _ _ _ rfl rfl rfl (by exact hs.symm)) ?_
   refine vi rfl (bh ⟨rfl,?_⟩)
   refine aZ rfl (fY ?_)
   refine aN (σ':=aB 53 [(2,_),(5,_),(7,_),(8,_)] [((2,0),_)] [] []) kp ?_
   refine an (aQ rfl (ai (bc _ _ rfl rfl (bq ab)) ?_))
   refine aZ rfl (az (⟨k+1,?_,?_,?_⟩))
   ·omega
   ·skip
    refine Le.mkJ [] [] rfl ?_ ?_ trivial trivial ?_
    ·exact ⟨(iP rfl),(iS rfl),(ck ag),(ck ag),trivial⟩
    ·exact ⟨(cF rfl rfl rfl),trivial⟩
    ·kernel_rfl
   ·omega
  ·skip
   rw [if_neg ab] at hs
   refine bZ (an (aQ rfl (ai (bc _ _ rfl rfl (bq ab)) ?_)))
   refine aZ rfl (az (⟨k+1,?_,?_,?_⟩))
   ·omega
   ·skip
    refine Le.mkJ [] [] rfl ?_ ?_ trivial trivial ?_
    ·exact ⟨(iP rfl),(iS rfl),(ck ag),(ck ab),trivial⟩
    ·exact ⟨(cF rfl rfl rfl),trivial⟩
    ·kernel_rfl
   ·omega
 ·skip
  obtain rfl:k=C.length:=by omega
  refine bK (id (hK4 _ ?_))
  clear hK4;try clear K4
  exact am (aQ rfl (aZ rfl (aj (aC (aY (.inr rfl) rfl (.tmp (rfl:_=AV.v _)) (Le.out [] [] .v rfl rfl rfl trivial trivial))))))

theorem dO: ∀ (e:Ex) (d x:Nat),x∈dq e d→x≤d+(dq e d).length
 | .int _,d,x,h=> by simp [dq] at h ⊢;omega
 | .bool _,d,x,h=> by simp [dq] at h ⊢;omega
 | .var _,d,x,h=> by simp [dq] at h ⊢;omega
 | .name _,d,x,h=> by simp [dq] at h ⊢;omega
 | .draw e,d,x,h=> by
  have:=dO e d x
  simp only [dq,List.mem_append,List.length_append,List.length_cons,List.length_nil,List.mem_singleton] at h ⊢
  rcases h with h | h
  ·have:=this h;omega
  ·omega
 | .neg e,d,x,h=> by
  have:=dO e d x
  simp only [dq,List.mem_append,List.length_append,List.length_cons,List.length_nil,List.mem_singleton] at h ⊢
  rcases h with h | h
  ·have:=this h;omega
  ·omega
 | .not e,d,x,h=> by
  have:=dO e d x
  simp only [dq,List.mem_append,List.length_append,List.length_cons,List.length_nil,List.mem_singleton] at h ⊢
  rcases h with h | h
  ·have:=this h;omega
  ·omega
 | .bin o a b,d,x,h=> by
  have h1:=dO a d x
  have h2:=dO b (d+1) x
  have h3:1≤(dq b (d+1)).length:=by obtain ⟨l,hl⟩:=ec b (d+1);rw [hl];simp
  have h4:1≤(dq a d).length:=by obtain ⟨l,hl⟩:=ec a d;rw [hl];simp
  simp only [dq,List.mem_append,List.length_append] at h ⊢
  rcases h with (h | h) | h
  ·have:=h1 h;omega
  ·have:=h2 h;omega
  ·have:x≤d+2:=by cases o <;> simp at h <;> omega
   omega
 | .and a b,d,x,h=> by
  have h1:=dO a d x
  have h2:=dO b d x
  simp only [dq,List.mem_append,List.length_append,List.length_cons,List.length_nil,List.mem_singleton] at h ⊢
  rcases h with (((h | h) | h) | h) | h
  ·have:=h1 h;omega
  ·omega
  ·have:=h2 h;omega
  ·omega
  ·omega
 | .or a b,d,x,h=> by
  have h1:=dO a d x
  have h2:=dO b d x
  simp only [dq,List.mem_append,List.length_append,List.length_cons,List.length_nil,List.mem_singleton] at h ⊢
  rcases h with (((h | h) | h) | h) | h
  ·have:=h1 h;omega
  ·omega
  ·omega
  ·omega
  ·have:=h2 h;omega
theorem ka (e:Ex) (d:Nat):1≤(dq e d).length:=by obtain ⟨l,hl⟩:=ec e d;rw [hl];simp
mutual
theorem zN: ∀ (s:Sm) (x:Nat),x∈dS s→x≤(dS s).length
 | .assign _ e,x,h=> by
  have:=dO e 0 x
  simp only [dS,List.mem_append,List.length_append,List.length_cons,List.length_nil,List.mem_singleton] at h ⊢
  rcases h with h | h
  ·have:=this h;omega
  ·omega
 | .send t _ a b,x,h=> by
  have h1:=dO t 0 x
  have h2:=dO a 1 x
  have h3:=dO b 2 x
  have k1:=ka t 0
  have k2:=ka a 1
  have k3:=ka b 2
  simp only [dS,List.mem_append,List.length_append,List.length_cons,List.length_nil,List.mem_singleton] at h ⊢
  rcases h with ((h | h) | h) | h
  ·have:=h1 h;omega
  ·have:=h2 h;omega
  ·have:=h3 h;omega
  ·omega
 | .timer _,x,h=> by simp [dS] at h ⊢;omega
 | .cancel _,x,h=> by simp [dS] at h ⊢;omega
 | .sync,x,h=> by simp [dS] at h ⊢;omega
 | .stop,x,h=> by simp [dS] at h ⊢;omega
 | .reply a b,x,h=> by
  have h2:=dO a 0 x
  have h3:=dO b 1 x
  have k2:=ka a 0
  have k3:=ka b 1
  simp only [dS,List.mem_append,List.length_append,List.length_cons,List.length_nil,List.mem_singleton] at h ⊢
  rcases h with (h | h) | h
  ·have:=h2 h;omega
  ·have:=h3 h;omega
  ·omega
 | .fail e,x,h=> by
  have:=dO e 0 x
  simp only [dS,List.mem_append,List.length_append,List.length_cons,List.length_nil,List.mem_singleton] at h ⊢
  rcases h with h | h
  ·have:=this h;omega
  ·omega
 | .loop c b,x,h=> by
  have h1:=dO c 0 x
  have h2:=lS b x
  simp only [dS,List.mem_append,List.length_append,List.length_cons,List.length_nil,List.mem_singleton] at h ⊢
  rcases h with ((h | h) | h) | h
  ·have:=h1 h;omega
  ·omega
  ·have:=h2 h;omega
  ·omega
 | .ite c a b,x,h=> by
  have h1:=dO c 0 x
  have h2:=lS a x
  have h3:=lS b x
  simp only [dS,List.mem_append,List.length_append,List.length_cons,List.length_nil,List.mem_singleton] at h ⊢
  rcases h with (((h | h) | h) | h) | h
  ·have:=h1 h;omega
  ·omega
  ·have:=h2 h;omega
  ·omega
  ·have:=h3 h;omega
theorem lS: ∀ (b:Bk) (x:Nat),x∈kx b→x≤(kx b).length
 | .nil,x,h=> by simp [kx] at h
 | .cons s b,x,h=> by
  have h1:=zN s x
  have h2:=lS b x
  simp only [kx,List.mem_append,List.length_append] at h ⊢
  rcases h with h | h
  ·have:=h1 h;omega
  ·have:=h2 h;omega
end
theorem ua: ∀ (l:List (Nat×Bk)) (x:Nat),x∈kw l→x≤(kw l).length
 | [],x,h=> by simp [kw] at h
 | (k,b)::l,x,h=> by
  have h1:=lS b x
  have h2:=ua l x
  simp only [kw,List.mem_append,List.length_append,List.length_cons,List.length_nil,List.mem_singleton] at h ⊢
  rcases h with (h | h) | h
  ·have:=h1 h;omega
  ·omega
  ·have:=h2 h;omega
theorem yc (l:List (Nat×Bk)) (i:Nat):qP l i≤(bS l 0).length:=by
 unfold qP
 rw [List.getD_eq_getElem?_getD]
 by_cases h:i < (kw l).length
 ·rw [List.getElem?_eq_getElem h,← nD l 0];exact ua l _ (List.getElem_mem h)
 ·rw [List.getElem?_eq_none ab];exact Nat.zero_le _

theorem mx: ∀ (l m:List (Nat×Bk)) (a:Nat),bS (l++m) a=bS l a++bS m (a+(bS l a).length)
 | [],m,a=> by simp [bS]
 | (h,b)::l,m,a=> by
  simp only [List.cons_append,bS,mx l m,List.append_assoc,List.length_append,List.length_cons,List.length_nil,Nat.add_assoc,Nat.zero_add,List.nil_append,Nat.add_comm 1 (List.length _)]
theorem ry: ∀ (l m:List (Nat×Bk)) (a:Nat),iJ (l++m) a=iJ l a++iJ m (a+(bS l a).length)
 | [],m,a=> by simp [bS,iJ]
 | (h,b)::l,m,a=> by
  simp only [List.cons_append,bS,iJ,ry l m,List.append_assoc,List.length_append,List.length_cons,List.length_nil,Nat.add_assoc,Nat.zero_add,Nat.add_comm 1 (List.length _)]
def bY (l:List (Nat×Bk)) (k:Nat):Int:=(lk (iJ l 0)).getD k (-1)
theorem vn (l:List (Nat×Bk)) (p:Nat×Bk) (hp:p.1 < 40):bY (l++[p])=oQ (bY l) p.1 (bS l 0).length:=by
 funext k
 have e:lk (iJ (l++[p]) 0)=(lk (iJ l 0)).set p.1 ((bS l 0).length:Int):=by
  rw [ry]
  obtain ⟨h,b⟩:=p
  simp only [iJ,lk,List.foldl_append,List.foldl_cons,List.foldl_nil,Nat.zero_add]
 unfold bY oQ
 rw [e,iU]
 by_cases hk:k=p.1
 ·rw [if_pos ⟨hk,by rw [yb];exact hp⟩,if_pos hk]
 ·rw [if_neg (fun h=> hk h.1),if_neg hk]
theorem sT (l:List (Nat×Bk)) (p:Nat×Bk):bS (l++[p]) 0=bS l 0++cV p.2 (bS l 0).length++[{ op:= .stop }]:=by
 rw [mx]
 obtain ⟨h,b⟩:=p
 simp [bS]
def dQ (h k:Nat):Int:=if k < h∨40≤k then -1 else 0
theorem xG (h:Nat) (hh:h < 40):oQ (dQ h) h (-1)=dQ (h+1):=by
 funext k
 unfold oQ dQ
 by_cases h1:k=h
 ·rw [if_pos h1,if_pos ab]
 ·rw [if_neg h1]
  by_cases h2:k < h∨40≤k
  ·rw [if_pos h2,if_pos ab]
  ·rw [if_neg h2,if_neg ab]
theorem zg:dQ 40=bY []:=by
 funext k
 have e:bY [] k=(List.replicate 40 (-1:Int)).getD k (-1):=rfl
 rw [e,dQ,if_pos ab,List.getD_eq_getElem?_getD,List.getElem?_replicate]
 by_cases hk:k < 40
 ·rw [if_pos hk];rfl
 ·rw [if_neg hk];rfl
theorem wY (ons:List (Nat×Bk)) (j:Nat) (h:j < ons.length):ons.take (j+1)=ons.take j++[ons[j]]:=List.take_succ_eq_append_getElem h
theorem nq (ons:List (Nat×Bk)) (j:Nat):(bS (ons.take j) 0).length≤(bS ons 0).length:=by
 conv=> rhs;rw [← List.take_append_drop j ons,mx]
 rw [List.length_append];omega
theorem vU {n:Nat} (h:n < 40):gf (n:Int) 40=n:=by unfold gf;rw [if_neg ab];omega
structure UOk (d v:List Tx) (ons:List (Nat×Bk)):Prop where
 nd:(d++v).Nodup
 len:(d++v).length≤16
 ok: ∀ p∈ons,ie (d++v).length p.2
 pp: ∀ p∈ons,mV p.2=true
 h: ∀ p∈ons,p.1 < 40
 c:(bS ons 0).length≤1000000
 n:ons.length≤1000
theorem UOk.good {d v:List Tx} {ons:List (Nat×Bk)} (U:UOk d v ons):Good (qP ons) (d++v).length 0 ((bS ons 0).length - 1) 0 (bS ons 0):=
 uF (qP ons) (d++v).length ons 0 0 ((bS ons 0).length - 1) U.ok (mZ ons) (Nat.le_refl _) ab
theorem UOk.ent {d v:List Tx} {ons:List (Nat×Bk)} (U:UOk d v ons) (k:Nat):0≤bY ons k→bY ons k < (bS ons 0).length→qP ons (bY ons k).toNat=0:=fun h0 h1=> by
 rcases tw ons k with h | ⟨e,_,h,_,h2⟩
 ·unfold bY at h0;omega
 ·unfold bY;rw [h,Int.toNat_natCast];exact h2
abbrev ST (d v:List Tx) (ons:List (Nat×Bk)):AV:= .agg (Aa (bS ons 0).length (inl (bS ons 0)) (bY ons) (d.length:Int) (v.length:Int))
abbrev zA:AV:= .agg (Dt (.v (.slice none 0 0)) (fun _=> 0) 0 0)
def Eu (ons:List (Nat×Bk)):Int:=if 400 < (bS ons 0).length then 2 else 13
abbrev wy (d v:List Tx) (ons:List (Nat×Bk)):AV:=if ia ons=true then .tup [ST d v ons, .v (.int .i64 0)] else .tup [zA, .v (.int .i64 (Eu ons))]
abbrev mW (d v:List Tx) (ons:List (Nat×Bk)):List Hd:=ons.map fun p=> (p.1,jy (d++v) p.2)
theorem jj (d v:List Tx) (ons:List (Nat×Bk)) (U:UOk d v ons):
  Spec Tryz.prog 57 (bj [Ez d v (mW d v ons)] []) (aX (wy d v ons) []):=by
 obtain ⟨H,hH⟩: ∃ H,H=mW d v ons:=⟨_,rfl⟩
 have hHl:H.length=ons.length:=by rw [hH,List.length_map]
 have hHk: ∀ k (h:k < ons.length),mq H k=((ons[k]).1,jy (d++v) (ons[k]).2):=fun k h=> by rw [hH];exact xW ons _ k h
 rw [← hH]
 clear hH
 have hUn:=U.n
 have hUc:=U.c
 have hUl:=U.len
 have hdl:d.length≤16∧v.length≤16:=by rw [List.length_append] at hUl;omega
 refine Spec.ofN Tryz.func57 rfl Tryz.ntmps57 rfl ?_
 refine am (ai (bk (1,0) _ rfl rfl) (ai (ay (2,0) aa rfl rfl) (aZ rfl (aj (am (bA rfl rfl rfl (fh rfl rfl rfl (ai (bE _ aa rfl) (bA rfl rfl rfl (fh rfl rfl rfl ?_))))))))))
 refine ai (bE _ aa rfl) (ai (aA _ aa rfl (by exact (rfl:_=some [_,_,_,_,_,_,_,_,_,_,_,_,_,_,_,_,_,_,_,_,_,_,_,_,_,_,_,_,_,_,_,_,_,_,_,_,_,_,_,_,_,_,_]))) ?_)
 refine ai (ay (4,0) aa rfl rfl) (bO rfl rfl rfl rfl rfl rfl (aj (aF fun K3 hK3=> ?_)))
 refine am (aZ rfl (aj (au ?_)))
 refine aN (Le.nilB (4,0) 0 (60,0) 48 2 rfl rfl rfl) ?_
 refine bw (α:=Nat) (fun q=> q≤40) 79 [(1,_),(2,_),(4,_)] [((1,0),_),((2,0),_),((60,0),_)] (fun q=> [(5, .v (.int .i64 (q:Int)))]) (fun q=> [((4,0), .box 26 [.ref (60,0) 0 0, .v (.int .i64 (dQ q 0)), .v (.int .i64 (dQ q 1)), .v (.int .i64 (dQ q 2)), .v (.int .i64 (dQ q 3)), .v (.int .i64 (dQ q 4)), .v (.int .i64 (dQ q 5)), .v (.int .i64 (dQ q 6)), .v (.int .i64 (dQ q 7)), .v (.int .i64 (dQ q 8)), .v (.int .i64 (dQ q 9)), .v (.int .i64 (dQ q 10)), .v (.int .i64 (dQ q 11)), .v (.int .i64 (dQ q 12)), .v (.int .i64 (dQ q 13)), .v (.int .i64 (dQ q 14)), .v (.int .i64 (dQ q 15)), .v (.int .i64 (dQ q 16)), .v (.int .i64 (dQ q 17)), .v (.int .i64 (dQ q 18)), .v (.int .i64 (dQ q 19)), .v (.int .i64 (dQ q 20)), .v (.int .i64 (dQ q 21)), .v (.int .i64 (dQ q 22)), .v (.int .i64 (dQ q 23)), .v (.int .i64 (dQ q 24)), .v (.int .i64 (dQ q 25)), .v (.int .i64 (dQ q 26)), .v (.int .i64 (dQ q 27)), .v (.int .i64 (dQ q 28)), .v (.int .i64 (dQ q 29)), .v (.int .i64 (dQ q 30)), .v (.int .i64 (dQ q 31)), .v (.int .i64 (dQ q 32)), .v (.int .i64 (dQ q 33)), .v (.int .i64 (dQ q 34)), .v (.int .i64 (dQ q 35)), .v (.int .i64 (dQ q 36)), .v (.int .i64 (dQ q 37)), .v (.int .i64 (dQ q 38)), .v (.int .i64 (dQ q 39)), .v (.int .i64 (d.length:Int)), .v (.int .i64 (v.length:Int))])]) [] [] (fun q=> 40 - q) 0 ?_ (by
  refine Le.mkJ [] [] rfl ?_ ?_ trivial trivial ?_
  ·exact ⟨(iP rfl),(iP rfl),(iP rfl),(ck ag),trivial⟩
  ·exact ⟨(cF rfl rfl rfl),(cF rfl rfl rfl),(cF rfl rfl rfl),(fS rfl rfl rfl rfl lz),trivial⟩
  ·kernel_rfl) ?_
 ·omega
 intro q hq
 refine aF fun K5 hK5=> ?_
 refine am (aQ rfl (ai (bo _ _ rfl rfl rfl) (aj (aT rfl (fun hc17=> ?_) (fun hc17=> ?_)))))
 ·skip
  refine bv (hK5 _ ?_)
  clear hK5;try clear K5
  refine ap (au (an (aQ rfl (bA rfl rfl rfl (ai (eD _ _ aa rfl rfl rfl q rfl ab (by exact congrArg (fun z=> 0+1+z) (Nat.mul_one q))) ?_)))))
  refine ai (jN _ _ aa rfl rfl rfl rfl (show 0+1+q+1≤43 by omega) ((congrArg (fun z=> fj (Dt (.ref (60,0) 0 0) (dQ q) (d.length:Int) (v.length:Int)) z [.v (.int .i64 (-1))]) ab).trans ((qd _ _ _ _ q ab _).trans (by rw [xG _ ab])))) ?_
  refine fY (an (aQ rfl (ai (bc _ _ rfl rfl (bq ab)) ?_)))
  refine aZ rfl (az (⟨q+1,?_,?_,?_⟩))
  ·omega
  ·skip
   refine Le.mkJ [] [] rfl ?_ ?_ trivial trivial ?_
   ·exact ⟨(iP rfl),(iP rfl),(iP rfl),(ck ag),trivial⟩
   ·exact ⟨(cF rfl rfl rfl),(cF rfl rfl rfl),(cF rfl rfl rfl),(fS rfl rfl rfl rfl lz),trivial⟩
   ·kernel_rfl
  ·omega
 ·skip
  obtain rfl:q=40:=by omega
  rw [zg]
  refine bK (id (hK3 _ ?_))
  clear hK3;try clear K3
  refine aF fun K8 hK8=> ?_
  refine am (aZ rfl (aj (au ?_)))
  refine bw (α:=Nat) (fun j=> j≤H.length) 79 [(1,_),(2,_),(4,_)] [((1,0),_),((2,0),_)] (fun j=> [(6, .v (.int .i64 (j:Int)))]) (fun j=> [((60,0), .row 48 2 (inl (bS (ons.take j) 0))),((4,0), .box 26 [.ref (60,0) 0 (bS (ons.take j) 0).length, .v (.int .i64 (bY (ons.take j) 0)), .v (.int .i64 (bY (ons.take j) 1)), .v (.int .i64 (bY (ons.take j) 2)), .v (.int .i64 (bY (ons.take j) 3)), .v (.int .i64 (bY (ons.take j) 4)), .v (.int .i64 (bY (ons.take j) 5)), .v (.int .i64 (bY (ons.take j) 6)), .v (.int .i64 (bY (ons.take j) 7)), .v (.int .i64 (bY (ons.take j) 8)), .v (.int .i64 (bY (ons.take j) 9)), .v (.int .i64 (bY (ons.take j) 10)), .v (.int .i64 (bY (ons.take j) 11)), .v (.int .i64 (bY (ons.take j) 12)), .v (.int .i64 (bY (ons.take j) 13)), .v (.int .i64 (bY (ons.take j) 14)), .v (.int .i64 (bY (ons.take j) 15)), .v (.int .i64 (bY (ons.take j) 16)), .v (.int .i64 (bY (ons.take j) 17)), .v (.int .i64 (bY (ons.take j) 18)), .v (.int .i64 (bY (ons.take j) 19)), .v (.int .i64 (bY (ons.take j) 20)), .v (.int .i64 (bY (ons.take j) 21)), .v (.int .i64 (bY (ons.take j) 22)), .v (.int .i64 (bY (ons.take j) 23)), .v (.int .i64 (bY (ons.take j) 24)), .v (.int .i64 (bY (ons.take j) 25)), .v (.int .i64 (bY (ons.take j) 26)), .v (.int .i64 (bY (ons.take j) 27)), .v (.int .i64 (bY (ons.take j) 28)), .v (.int .i64 (bY (ons.take j) 29)), .v (.int .i64 (bY (ons.take j) 30)), .v (.int .i64 (bY (ons.take j) 31)), .v (.int .i64 (bY (ons.take j) 32)), .v (.int .i64 (bY (ons.take j) 33)), .v (.int .i64 (bY (ons.take j) 34)), .v (.int .i64 (bY (ons.take j) 35)), .v (.int .i64 (bY (ons.take j) 36)), .v (.int .i64 (bY (ons.take j) 37)), .v (.int .i64 (bY (ons.take j) 38)), .v (.int .i64 (bY (ons.take j) 39)), .v (.int .i64 (d.length:Int)), .v (.int .i64 (v.length:Int))])]) [] [] (fun j=> H.length - j) 0 ?_ (by
   refine Le.mkJ [] [] rfl ?_ ?_ trivial trivial ?_
   ·exact ⟨(iP rfl),(iP rfl),(iP rfl),(ck ag),trivial⟩
   ·exact ⟨(cF rfl rfl rfl),(cF rfl rfl rfl),(gM rfl rfl rfl ag),(fS rfl rfl rfl rfl lz),trivial⟩
   ·kernel_rfl) ?_
  ·omega
  intro j hj
  have hct:=nq ons j
  refine aF fun K10 hK10=> ?_
  refine am (aQ rfl (bA rfl rfl rfl (fh rfl rfl rfl (ai (bE _ aa rfl) (ai (bo _ _ rfl rfl rfl) (aj (aT rfl (fun hc27=> ?_) (fun hc27=> ?_))))))))
  ·skip
   have hj:j < ons.length:=by omega
   have hct1:=nq ons (j+1)
   have hUh:=U.h _ (List.getElem_mem hj)
   have hUo:=U.ok _ (List.getElem_mem hj)
   have hUp:=U.pp _ (List.getElem_mem hj)
   have hbody:=rV H j ab
   have hg0:=iy H j ab
   rw [hHk j hj] at hbody hg0
   have hsn:=sT (ons.take j) (ons[j])
   have hen:=vn (ons.take j) (ons[j]) hUh
   rw [← wY ons j hj] at hsn hen
   have hsl:=congrArg List.length hsn
   simp only [List.length_append,List.length_cons,List.length_nil] at hsl
   have hcb:=zH (d:=d) (v:=v) (no:=H.length) (on:=lg H) U.nd ab (ons[j]).2 hUo hUp (bS (ons.take j) 0).length ab
   generalize cV (ons[j]).2 (bS (ons.take j) 0).length=C at hsn hsl hcb
   generalize (ons[j]).2=bd at hbody hcb
   generalize (ons[j]).1=h at hbody hg0 hen hUh
   have har:=gE (h:Int) 40 ab ab ab ab
   rw [vU hUh] at har
   refine bv (hK10 _ ?_)
   clear hK10;try clear K10
   refine ap (au (am (bA rfl rfl rfl (fh rfl rfl rfl (aQ rfl (ai (bf _ _ aa rfl rfl _ rfl ab (by (simp only [ba,bn,bl,bC,bz,bJ,bB,bM,ed,ba,List.length_map];omega)) ag) ?_))))))
   refine ai (di _ aa rfl rfl) (ai (bH _ aa rfl (by exact hg0) rfl) ?_)
   refine ai (aL aa al (har) rfl rfl) ?_
   refine aZ rfl (aj (am (aQ rfl (bA rfl rfl rfl (ai (aK _ aa rfl rfl (rfl:_=some (AV.ref _ _ _))) (ai (dA _ aa rfl rfl) (bA rfl rfl rfl (ai (eD _ _ aa rfl rfl rfl h rfl ab (by exact congrArg (fun z=> 0+1+z) (Nat.mul_one h))) ?_))))))))
   refine ai (jN _ _ aa rfl rfl rfl rfl (show 0+1+h+1≤43 by omega) ((congrArg (fun z=> fj (Dt (.ref (60,0) 0 (bS (ons.take j) 0).length) (bY (ons.take j)) (d.length:Int) (v.length:Int)) z [.v (.int .i64 ((bS (ons.take j) 0).length:Int))]) ab).trans ((qd _ _ _ _ h ab _).trans (by rw [← hen])))) ?_
   refine aj (ap ?_)
   refine aN (σ':=aB 79 [(1,_),(2,_),(4,_),(6,_)] [((1,0),_),((2,0),_),((60,0),_),((4,0),_)] [] []) kp ?_
   refine bF 13 [43,44,45,46,47,48,49,50,51,52,53,54,55] [(50,0)] ae ae rfl (aM rfl) (rfl:_=[_,_,_,_,_,_,_,_,_,_,_,_,_]) (rfl:_=[_,_,_]) ?_
   refine aq (_,[]) (fun τ=> aH _ aa rfl rfl rfl) ?_
   refine eJ rfl ?_
   refine aq (_,[]) (fun τ=> aK _ aa rfl rfl (rfl:_=some (AV.ref _ _ _))) ?_
   refine eK rfl ?_
   refine aq (_,[]) (fun τ=> aR _ aa rfl rfl rfl rfl) ?_
   refine eH rfl ?_
   refine aq (_,[]) (fun τ=> aH _ aa rfl rfl rfl) ?_
   refine eS rfl ?_
   refine aq (_,[]) (fun τ=> aK _ aa rfl rfl (rfl:_=some (AV.sl _ _))) ?_
   refine eZ rfl ?_
   refine aq (_,[]) (fun τ=> aE _ (rfl:_=AV.v (.int _ _))) ?_
   refine fH rfl ?_
   refine aq (_,[]) (fun τ=> bf _ _ aa rfl rfl _ rfl ab (by (simp only [ba,bn,bl,bC,bz,bJ,bB,bM,ed,ba,List.length_map];omega)) ag) ?_
   refine gF rfl ?_
   refine aq (_,[]) (fun τ=> di _ aa rfl rfl) ?_
   refine kv rfl ?_
   refine aq (_,[]) (fun τ=> cd _ aa rfl (by exact hbody) rfl) ?_
   refine ko rfl ?_
   refine aq (_,[]) (fun τ=> aH _ aa rfl rfl rfl) ?_
   refine gj rfl ?_
   refine aq (_,[]) (fun τ=> aK _ aa rfl rfl (rfl:_=some (AV.ref _ _ _))) ?_
   refine gH rfl ?_
   refine aq (_,[]) (fun τ=> dA _ aa rfl rfl) ?_
   refine lf rfl ?_
   refine aq (_,[((50,0),_)]) (fun τ=> (ef aa [((0,8),(50,0))] ar (hcb.toI) trivial tr tr rfl rfl ae ae)) ?_
   refine lO rfl (bh ⟨rfl,?_⟩)
   refine ai (dl (56,0) _ _ aa rfl rfl (bM _).symm (.ref rfl (lI _) (jD _)) ab rfl (kj _ _) (show (bS (ons.take j) 0).length+C.length=(bS (ons.take j) 0++C).length by simp)) ?_
   refine bA rfl rfl rfl (bO rfl rfl rfl rfl rfl rfl (aj ?_))
   refine aN (σ':=aB 79 [(1,_),(2,_),(4,_),(6,_)] [((1,0),_),((2,0),_),((4,0),_),((56,0),_)] [] []) kp ?_
   refine an (bA rfl rfl rfl (ai (aK _ aa rfl rfl (rfl:_=some (AV.ref _ _ _))) (ai (aA _ aa rfl (by exact (rfl:_=some [_,_]))) ?_)))
   refine ai (aV _ _ aa rfl ag (by (simp <;> rfl)) ah rfl) ?_
   refine ai (dl (62,0) _ _ aa rfl rfl (bM _).symm (.sl rfl) (by simp;omega) rfl ((ey _ { op:= .stop }).trans (congrArg inl hsn.symm)) (show (bS (ons.take j) 0++C).length+1=(bS (ons.take (j+1)) 0).length by simp [hsl])) ?_
   refine bA rfl rfl rfl (bO rfl rfl rfl rfl rfl rfl (fY (an (aQ rfl (ai (bc _ _ rfl rfl (bq ab)) ?_)))))
   refine aZ rfl (az (⟨j+1,?_,?_,?_⟩))
   ·omega
   ·skip
    refine Le.mkJ [((60,0),(62,0))] [] rfl ?_ ?_ trivial trivial ?_
    ·exact ⟨(dW (id:=(1,0)) rfl),(dW (id:=(2,0)) rfl),(dW (id:=(4,0)) rfl),(ck ag),trivial⟩
    ·exact ⟨(fS rfl rfl rfl rfl (by repeat' (first | exact Lv.sl | exact bu | refine aI ?_ ?_))),(fS rfl rfl rfl rfl (by repeat' (first | exact Lv.v | exact bu | refine aI ?_ ?_))),(gM rfl rfl rfl ag),(fS rfl rfl rfl rfl lz),trivial⟩
    ·kernel_rfl
   ·omega
  ·skip
   obtain rfl:j=ons.length:=by omega
   rw [List.take_length]
   refine bK (id (hK8 _ ?_))
   clear hK8;try clear K8
   refine ap (am (bA rfl rfl rfl (ai (aK _ aa rfl rfl (rfl:_=some (AV.ref _ _ _))) (ai (dA _ aa rfl rfl) (ai (cP _ _ rfl rfl rfl) (aj (aT rfl (fun hc67=> ?_) (fun hc67=> ?_))))))))
   ·skip
    have hco:ia ons≠true:=by
     unfold ia
     rw [decide_eq_false ab,Bool.false_and]
     exact Bool.false_ne_true
    rw [wy,if_neg hco,Eu,if_pos ab]
    refine am (ai (aA _ aa rfl (by exact (rfl:_=some [_,_,_,_,_,_,_,_,_,_,_,_,_,_,_,_,_,_,_,_,_,_,_,_,_,_,_,_,_,_,_,_,_,_,_,_,_,_,_,_,_,_,_]))) ?_)
    exact bO rfl rfl rfl rfl rfl rfl (aZ rfl (aj (aC (lw (.inr rfl) rfl (.cellA aa rfl rfl rfl) (.tmp (rfl:_=AV.v _)) (Le.out [] [] (.tup rfl lz) rfl rfl rfl trivial trivial)))))
   ·skip
    have hl4:(bS ons 0).length≤400:=by omega
    refine aJ (aF fun K19 hK19=> ?_)
    refine am (aZ rfl (aj (au ?_)))
    refine aN (Le.frzB (4,0) 0 rfl rfl rfl rfl (ys:=inl (bS ons 0)) (by rw [List.drop_zero];exact List.take_of_length_le (by rw [bM];omega)) (by rw [bM];omega)) ?_
    refine bw (α:=Nat) (fun h=> h≤40∧ ∀ k,k < h→jt (bS ons 0) (hQ (bS ons 0) (bY ons k)).1 (bS ons 0).length≤16) 79 [(2,_),(4,_)] [((2,0),_)] (fun h=> [(8, .v (.int .i64 (h:Int)))]) (fun h=> [((4,0), .box 26 [.sl (bS ons 0).length (inl (bS ons 0)), .v (.int .i64 (bY ons 0)), .v (.int .i64 (bY ons 1)), .v (.int .i64 (bY ons 2)), .v (.int .i64 (bY ons 3)), .v (.int .i64 (bY ons 4)), .v (.int .i64 (bY ons 5)), .v (.int .i64 (bY ons 6)), .v (.int .i64 (bY ons 7)), .v (.int .i64 (bY ons 8)), .v (.int .i64 (bY ons 9)), .v (.int .i64 (bY ons 10)), .v (.int .i64 (bY ons 11)), .v (.int .i64 (bY ons 12)), .v (.int .i64 (bY ons 13)), .v (.int .i64 (bY ons 14)), .v (.int .i64 (bY ons 15)), .v (.int .i64 (bY ons 16)), .v (.int .i64 (bY ons 17)), .v (.int .i64 (bY ons 18)), .v (.int .i64 (bY ons 19)), .v (.int .i64 (bY ons 20)), .v (.int .i64 (bY ons 21)), .v (.int .i64 (bY ons 22)), .v (.int .i64 (bY ons 23)), .v (.int .i64 (bY ons 24)), .v (.int .i64 (bY ons 25)), .v (.int .i64 (bY ons 26)), .v (.int .i64 (bY ons 27)), .v (.int .i64 (bY ons 28)), .v (.int .i64 (bY ons 29)), .v (.int .i64 (bY ons 30)), .v (.int .i64 (bY ons 31)), .v (.int .i64 (bY ons 32)), .v (.int .i64 (bY ons 33)), .v (.int .i64 (bY ons 34)), .v (.int .i64 (bY ons 35)), .v (.int .i64 (bY ons 36)), .v (.int .i64 (bY ons 37)), .v (.int .i64 (bY ons 38)), .v (.int .i64 (bY ons 39)), .v (.int .i64 (d.length:Int)), .v (.int .i64 (v.length:Int))])]) [] [] (fun h=> 40 - h) 0 ?_ (by
     refine Le.mkJ [] [] rfl ?_ ?_ trivial trivial ?_
     ·exact ⟨(iP rfl),(iP rfl),(ck ag),trivial⟩
     ·exact ⟨(cF rfl rfl rfl),(fS rfl rfl rfl rfl lz),trivial⟩
     ·kernel_rfl) ?_
    ·exact ⟨Nat.zero_le _,fun k hk=> absurd hk (Nat.not_lt_zero _)⟩
    intro h hh
    obtain ⟨hk,hks⟩:=hh
    refine aF fun K21 hK21=> ?_
    refine am (aQ rfl (ai (bo _ _ rfl rfl rfl) (aj (aT rfl (fun hc70=> ?_) (fun hc70=> ?_)))))
    ·skip
     have hh4:h < 40:=by omega
     have hdm:=lG (C:=bS ons 0) (nA U.good (U.ent h)) (B:=1000000) (fun i _=> Nat.le_trans (yc ons i) hUc) _ (Nat.le_refl _)
     have hde:=tf (bS ons 0) (bY ons) (d.length:Int) (v.length:Int) h hh4 hUc (qP ons) (d++v).length U.good (fun i=> Nat.le_trans (yc ons i) hUc) (U.ent h)
     refine bv (hK21 _ ?_)
     clear hK21;try clear K21
     refine ap (au (am (ai (aR _ aa rfl rfl rfl rfl) (aQ rfl (ai (aL aa al (hde) rfl rfl) ?_)))))
     refine ai (cP _ _ rfl rfl rfl) (aj (aT rfl (fun hc76=> ?_) (fun hc76=> ?_)))
     ·skip
      have hco:ia ons≠true:=fun e=> by
       unfold ia at e
       rw [Bool.and_eq_true,List.all_eq_true] at e
       have:=e.2 h (List.mem_range.2 hh4)
       rw [decide_eq_true_eq] at this
       exact absurd (show jt (bS ons 0) (hQ (bS ons 0) (bY ons h)).1 (bS ons 0).length≤16 from this) ab
      rw [wy,if_neg hco,Eu,if_neg ab]
      refine am (ai (aA _ aa rfl (by exact (rfl:_=some [_,_,_,_,_,_,_,_,_,_,_,_,_,_,_,_,_,_,_,_,_,_,_,_,_,_,_,_,_,_,_,_,_,_,_,_,_,_,_,_,_,_,_]))) ?_)
      exact bO rfl rfl rfl rfl rfl rfl (aZ rfl (aj (aC (lw (.inr rfl) rfl (.cellA aa rfl rfl rfl) (.tmp (rfl:_=AV.v _)) (Le.out [] [] (.tup rfl lz) rfl rfl rfl trivial trivial)))))
     ·skip
      refine bZ (an (aQ rfl (ai (bc _ _ rfl rfl (bq ab)) ?_)))
      refine aZ rfl (az (⟨h+1,?_,?_,?_⟩))
      ·exact ⟨by omega,fun k hk=> (by
        rcases Nat.lt_or_ge k h with hlt | hge
        ·exact hks k hlt
        ·obtain rfl:k=h:=by omega
         omega)⟩
      ·skip
       refine Le.mkJ [] [] rfl ?_ ?_ trivial trivial ?_
       ·exact ⟨(iP rfl),(iP rfl),(ck ag),trivial⟩
       ·exact ⟨(cF rfl rfl rfl),(fS rfl rfl rfl rfl lz),trivial⟩
       ·kernel_rfl
      ·omega
    ·skip
     obtain rfl:h=40:=by omega
     have hco:ia ons=true:=by
      unfold ia
      rw [Bool.and_eq_true,decide_eq_true_eq,List.all_eq_true]
      exact ⟨hl4,fun k hk=> decide_eq_true (hks k (List.mem_range.1 hk))⟩
     refine bK (id (hK19 _ ?_))
     clear hK19;try clear K19
     refine am (ai (aR _ aa rfl rfl rfl rfl) (bO rfl rfl rfl rfl rfl rfl (aZ rfl (aj (aC ?_)))))
     rw [wy,if_pos hco]
     exact lw (.inr rfl) rfl (.cellA aa rfl rfl rfl) (.tmp (rfl:_=AV.v _)) (Le.out [] [] (.tup rfl lz) rfl rfl rfl trivial trivial)

structure Af (s:Tx) (d v:List Tx) (ons:List (Nat×Bk)):Prop extends UOk d v ons where
 p:pX s=some (d,v,mW d v ons)
 l:s.length≤3000
 wl: ∀ p∈ons,oa p.2=true
theorem xB {s:Tx} {d v:List Tx} {ons:List (Nat×Bk)} (U:Af s d v ons) (hc:ia ons=true):
  Spec Tryz.prog 64 (bj [.v (bt s)] []) (aX (wy d v ons) []):=by
 have h1:=og s U.l _ _ _ U.p
 have h2:Spec Tryz.prog 97 (bj [Ez d v (mW d v ons)] []) (aX (.v (.int .i64 0)) []):=od d v ons U.nd U.len U.ok U.wl U.n
 have h3:=jj d v ons U.toUOk
 rw [wy,if_pos hc] at h3 ⊢
 obtain ⟨H,hH⟩: ∃ H,H=mW d v ons:=⟨_,rfl⟩
 rw [← hH] at h1 h2 h3
 clear hH
 refine Spec.ofN Tryz.func64 rfl Tryz.ntmps64 rfl ?_
 refine am (ai (ay (2,0) aa rfl rfl) (aZ rfl (aj (am (dK rfl (ai (aL aa al (h1) rfl rfl) ?_))))))
 refine ai (aE _ (rfl:_=AV.tup _)) (ai (db _ rfl (rfl:_=some (AV.agg _))) (ai (db _ rfl (rfl:_=some (AV.v (.int _ _)))) (ai (db _ rfl (rfl:_=some (AV.v (.int _ _)))) (ai (ay (4,0) aa rfl rfl) (bO rfl rfl rfl rfl rfl rfl (aZ rfl (aZ rfl (aj (ap (am ?_))))))))))
 refine aQ rfl (ai (ca (r:=false) _ _ rfl rfl rfl) (aj (aP rfl rfl (aJ (am (ai (aR _ aa rfl rfl rfl rfl) (ai (aL aa al (h2) rfl rfl) ?_)))))))
 refine aZ rfl (aj (ap (ap ?_)))
 refine aN (σ':=aB 32 [(2,_),(4,_),(6,_)] [((2,0),_),((4,0),_)] [] []) kp ?_
 refine an (aQ rfl (ai (ca (r:=false) _ _ rfl rfl rfl) (aj (aP rfl rfl (aJ (am (ai (aR _ aa rfl rfl rfl rfl) (ai (aL aa al (h3) rfl rfl) ?_))))))))
 refine ai (aE _ (rfl:_=AV.tup _)) (ai (db _ rfl (rfl:_=some (AV.agg _))) (ai (db _ rfl (rfl:_=some (AV.v (.int _ _)))) (ai (ay (7,0) aa rfl rfl) (bO rfl rfl rfl rfl rfl rfl (aZ rfl (aj (am (ai (aR _ aa rfl rfl rfl rfl) (aQ rfl (bO rfl rfl rfl rfl rfl rfl ?_))))))))))
 exact aZ rfl (aj (aC (lw (.inr rfl) rfl (.cellA aa rfl rfl rfl) (.tmp (rfl:_=AV.v _)) (Le.out [] [] (.tup rfl lz) rfl rfl rfl trivial trivial))))
theorem yB {s:Tx} {d v:List Tx} {ons:List (Nat×Bk)} (U:Af s d v ons) (hc:ia ons≠true):
  Spec Tryz.prog 64 (bj [.v (bt s)] []) (aX (wy d v ons) []):=by
 have h1:=og s U.l _ _ _ U.p
 have h2:Spec Tryz.prog 97 (bj [Ez d v (mW d v ons)] []) (aX (.v (.int .i64 0)) []):=od d v ons U.nd U.len U.ok U.wl U.n
 have h3:=jj d v ons U.toUOk
 rw [wy,if_neg hc] at h3 ⊢
 generalize Eu ons=er at h3 ⊢
 obtain ⟨H,hH⟩: ∃ H,H=mW d v ons:=⟨_,rfl⟩
 rw [← hH] at h1 h2 h3
 clear hH
 refine Spec.ofN Tryz.func64 rfl Tryz.ntmps64 rfl ?_
 refine am (ai (ay (2,0) aa rfl rfl) (aZ rfl (aj (am (dK rfl (ai (aL aa al (h1) rfl rfl) ?_))))))
 refine ai (aE _ (rfl:_=AV.tup _)) (ai (db _ rfl (rfl:_=some (AV.agg _))) (ai (db _ rfl (rfl:_=some (AV.v (.int _ _)))) (ai (db _ rfl (rfl:_=some (AV.v (.int _ _)))) (ai (ay (4,0) aa rfl rfl) (bO rfl rfl rfl rfl rfl rfl (aZ rfl (aZ rfl (aj (ap (am ?_))))))))))
 refine aQ rfl (ai (ca (r:=false) _ _ rfl rfl rfl) (aj (aP rfl rfl (aJ (am (ai (aR _ aa rfl rfl rfl rfl) (ai (aL aa al (h2) rfl rfl) ?_)))))))
 refine aZ rfl (aj (ap (ap ?_)))
 refine aN (σ':=aB 32 [(2,_),(4,_),(6,_)] [((2,0),_),((4,0),_)] [] []) kp ?_
 refine an (aQ rfl (ai (ca (r:=false) _ _ rfl rfl rfl) (aj (aP rfl rfl (aJ (am (ai (aR _ aa rfl rfl rfl rfl) (ai (aL aa al (h3) rfl rfl) ?_))))))))
 refine ai (aE _ (rfl:_=AV.tup _)) (ai (db _ rfl (rfl:_=some (AV.agg _))) (ai (db _ rfl (rfl:_=some (AV.v (.int _ _)))) (ai (ay (7,0) aa rfl rfl) (bO rfl rfl rfl rfl rfl rfl (aZ rfl (aj (am (ai (aR _ aa rfl rfl rfl rfl) (aQ rfl (bO rfl rfl rfl rfl rfl rfl ?_))))))))))
 exact aZ rfl (aj (aC (lw (.inr rfl) rfl (.cellA aa rfl rfl rfl) (.tmp (rfl:_=AV.v _)) (Le.out [] [] (.tup rfl lz) rfl rfl rfl trivial trivial))))
theorem tq {s:Tx} {d v:List Tx} {ons:List (Nat×Bk)} (U:Af s d v ons):
  Spec Tryz.prog 64 (bj [.v (bt s)] []) (aX (wy d v ons) []):=by
 by_cases hc:ia ons=true
 ·exact xB U hc
 ·exact yB U hc
theorem Du {d v:List Tx} {ons:List (Nat×Bk)} (h:Jk ons (d++v).length) (h1:(d++v).Nodup) (h2:(d++v).length≤16) (h3:(ons.all fun p=> mV p.2)=true) (h4:ons.length≤1000):UOk d v ons:=
 ⟨h1,h2,h.ok,fun p hp=> (List.all_eq_true.1 h3) p hp,h.h,by have:=h.n;omega,h4⟩
theorem usrcL:Af CM Bb Ad onsL:=⟨Du srcOkL ah ah ae ah,CF,of_decide_eq_true ae,srcOkL.wl⟩
end Go.Proofs.YtmjnackchaahbaaGreat

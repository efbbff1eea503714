/- Part 14 of the texts that the walk leans on: the machine, the walks, the plain laws. -/
import Derived.Test.YtmjnackchaahbaaGreatVtZ13
set_option linter.unusedSimpArgs false
set_option linter.unusedVariables false
namespace Go.Proofs.YtmjnackchaahbaaGreat
open Go.RowKit

theorem fG {l:List Int} {i:Nat} (h:i < l.length):l.getD i (-1)=l.getD i 0:=by
 rw [List.getD_eq_getElem?_getD,List.getD_eq_getElem?_getD,List.getElem?_eq_getElem h];rfl
theorem qY {n:Nat} {d:Int} {s:DS} {l:List Nat} {k:Nat} (h:k < l.length):(l.take (k+1)).foldl (gB n d) s=gB n d ((l.take k).foldl (gB n d) s) (l.getD k 0):=by
 rw [List.take_succ_eq_append_getElem h,List.foldl_append,List.getD_eq_getElem?_getD,List.getElem?_eq_getElem h];rfl
theorem yI (n k:Nat) (h:k < n):((List.replicate k (-1:Int))++List.replicate (n - k) 0).set k (-1)=List.replicate (k+1) (-1)++List.replicate (n - (k+1)) 0:=by
 rw [List.set_append_right _ _ (by simp),List.length_replicate,Nat.sub_self,show n - k=(n - (k+1))+1 by omega,List.replicate_succ,List.set_cons_zero,show List.replicate (k+1) (-1:Int)=List.replicate k (-1)++[-1] from List.replicate_succ']
 simp
theorem vn {ρ:ay→ay} {σ:St} {F:ay→Bool} {id:ay} {e:TypeId} {sz n m:Nat} {xs ys:List PV} (hid:σ.ob id= .obj (.row e sz xs)) (hF:F id=true) (hl:n*sz=xs.length) (hy:xs=ys) (hn:n=m):Lv ρ σ F (.sl m ys) (.ref id 0 n):=by
 subst hn;exact iL hid hF hl hy
theorem DI.flag {D:Nat→Nat} {n:Nat} {s:DS} {b:Bool} (h:DI D n s):DI D n (s.1,s.2.1,b):=⟨h.len,h.val,h.ok⟩
def sT (C:List dY) (R:List Int×Bool) (z:(List Int×Bool)×Bool):Prop:=if z.2=true then ∃ f,neg z.1.1+1≤f∧gG C f z.1=R else z.1=R
theorem th {C:List dY} {R:List Int×Bool} {s:List Int×Bool} {f:Nat} (hf:neg s.1+1≤f) (hR:gG C f s=R) (hd:(cR C s C.length).2.2=true→neg (cR C s C.length).1 < neg s.1):
  sT C R (((cR C s C.length).1,(cR C s C.length).2.1),(cR C s C.length).2.2):=by
 obtain ⟨g,rfl⟩: ∃ g,f=g+1:=⟨f - 1,by omega⟩
 unfold sT
 cases hb:(cR C s C.length).2.2 with
 | true=>
  have:=hd hb
  rw [if_pos rfl]
  exact ⟨g,by simp only;omega,by rw [← hR,ri hb]⟩
 | false=> rw [if_neg (by simp)];rw [← hR,ro hb]
def Fu (z:(List Int×Bool)×Bool):Nat:=if z.2=true then neg z.1.1+1 else 0
theorem BV {C:List dY} {s:List Int×Bool} (hd:(cR C s C.length).2.2=true→neg (cR C s C.length).1 < neg s.1):Fu (((cR C s C.length).1,(cR C s C.length).2.1),(cR C s C.length).2.2) < neg s.1+1:=by
 unfold Fu
 simp only
 split
 ·rename_i h;have:=hd h;omega
 ·omega
theorem tb {C:List dY} {s:DS} {i:Nat} (h:s.1.getD i (-1) < 0):jm C s i=s:=by unfold jm;rw [if_pos h]
theorem wV {C:List dY} {s:DS} {i:Nat} (h: ¬ s.1.getD i (-1) < 0) (h2: ¬ s.1.getD i (-1) - (cD C i).op.pops < 0):jm C s i=(db i (cD C i)).foldl (gB C.length (s.1.getD i (-1) - (cD C i).op.pops+(cD C i).op.puts)) s:=by
 unfold jm yH
 rw [if_neg h,if_neg h2,show max (s.1.getD i (-1) - (cD C i).op.pops) 0=s.1.getD i (-1) - (cD C i).op.pops by omega]
theorem pU (C:List dY) (en:Nat→Int) (dd vv:Int) (e:Int) (hC:C.length≤1000000) (D:Nat→Nat) (nv:Nat) (hg:Good D nv 0 (C.length - 1) 0 C) (hD: ∀ i,D i≤1000000) (he:0≤e→e < C.length→D e.toNat=0):
  Spec Tryz.prog 72 (bf [.agg (yG C.length (inl C) en dd vv), .v (.int .i64 e)] []) (aL (.tup [.sl (gw C e).1.length (dS (gw C e).1), .v (.bool (gw C e).2)]) []):=by
 refine Spec.ofN Tryz.func72 rfl Tryz.ntmps72 rfl ?_
 refine am (aj (bg (2,0) _ rfl rfl) (aj (bB _ (rfl:_=AV.v (.slice _ _ _))) (ce rfl (ai (am (bu rfl rfl rfl (eY rfl rfl rfl (aj (bD _ aa rfl) (aj (CT (17,0) _ _ aa rfl rfl C.length rfl rfl ab rfl (tn C.length)) ?_)))))))))
 refine eE rfl (ai (aT fun K3 hK3=> ?_))
 refine am (bc rfl (ai (au ?_)))
 refine bv (α:=Nat) (fun k=> k≤C.length) 123 [(1,_),(2,_)] [((2,0),_)] (fun k=> [(7, .v (.int .i64 (k:Int))),(6, .ref (6,0) 0 C.length)]) (fun k=> [((6,0), .row 3 1 (dS (List.replicate k (-1)++List.replicate (C.length - k) 0)))]) [] [] (fun k=> C.length - k) 0 ?_ (by
  refine Le.mkJ [((6,0),(17,0))] [] rfl ?_ ?_ trivial trivial ?_
  ·exact ⟨(by repeat' (exact Lv.v)),(eg (id:=(2,0)) rfl),(cd ag),(cY rfl ag),trivial⟩
  ·exact ⟨(gz rfl rfl rfl rfl (by repeat' (first | exact Lv.v | exact Lv.sl | exact br | refine aB ?_ ?_))),(gJ rfl rfl rfl ag),trivial⟩
  ·kernel_rfl) ?_
 ·omega
 intro k hk
 have hll:(List.replicate k (-1:Int)++List.replicate (C.length - k) 0).length=C.length:=by simp;omega
 refine aT fun K5 hK5=> ?_
 refine am (aV rfl (fW rfl (aj (dh _ aa rfl rfl) (aj (bo _ _ rfl rfl rfl) (ai (aP rfl (fun hc21=> ?_) (fun hc21=> ?_)))))))
 ·skip
  have hrs:=yI C.length k ab
  refine bA (hK5 _ ?_)
  clear hK5;try clear K5
  refine aq (au (an (fW rfl (aV rfl (aj (fS _ _ aa rfl rfl rfl _ rfl ab (by exact (Nat.zero_add _).trans (Nat.mul_one _))) ?_)))))
  refine aj (mG _ _ aa rfl rfl rfl rfl rfl (by simp;omega) ((kF _ _ _ ab).trans (congrArg dS hrs))) ?_
  refine gq (an (aV rfl (aj (aZ _ _ rfl rfl (bJ ab)) ?_)))
  refine bc rfl (aI (⟨k+1,?_,?_,?_⟩))
  ·omega
  ·skip
   refine Le.mkJ [] [] rfl ?_ ?_ trivial trivial ?_
   ·exact ⟨(iV rfl),(iP rfl),(cd ag),(cY rfl ag),trivial⟩
   ·exact ⟨(cH rfl rfl rfl),(gJ rfl rfl rfl ag),trivial⟩
   ·kernel_rfl
  ·omega
 ·skip
  obtain rfl:k=C.length:=by omega
  have hrep:List.replicate C.length (-1:Int)++List.replicate (C.length - C.length) 0=List.replicate C.length (-1):=by simp
  refine bI (id (hK3 _ ?_))
  clear hK3;try clear K3
  refine aq (am (aV rfl (aj (bo _ _ rfl rfl rfl) (cE rfl (dw (fun hg29=> ?_) (fun hg29=> ?_))))))
  ·skip
   have hdf:gw C e=(List.replicate C.length (-1),true):=if_pos (.inl ab)
   refine aN rfl rfl ah ?_
   refine aN rfl rfl ah ?_
   refine aN rfl rfl ah ?_
   refine aN rfl rfl ah ?_
   refine aj (az _ _ _ rfl (rfl:_=AV.v (.bool _))) (ai (bR rfl rfl (am (fW rfl (eE rfl (ce rfl (ai (aE ?_))))))))
   rw [hdf]
   exact kJ (.inr rfl) rfl (.tmp (rfl:_=AV.ref _ _ _)) (.tmp (rfl:_=AV.v (.bool _))) (Le.out [] [(6,0)] (.tup rfl (aB (vn rfl rfl (by simp) (congrArg dS hrep) (by simp)) lz)) rfl rfl rfl tr trivial)
  ·skip
   refine ax rfl rfl (aH _ (rfl:_=AV.v (.int _ _))) (ax rfl rfl (aH _ (rfl:_=AV.ref _ _ _)) (ax rfl rfl (dh _ aa rfl rfl) (ax rfl rfl (fj _ _ rfl rfl rfl) (aj (az _ _ _ rfl (rfl:_=AV.v (.bool _))) (ai (aP rfl (fun hc34=> ?_) (fun hc34=> ?_)))))))
   ·skip
    have hdf:gw C e=(List.replicate C.length (-1),true):=if_pos (.inr ab)
    refine am (fW rfl (eE rfl (ce rfl (ai (aE ?_)))))
    rw [hdf]
    exact kJ (.inr rfl) rfl (.tmp (rfl:_=AV.ref _ _ _)) (.tmp (rfl:_=AV.v (.bool _))) (Le.out [] [(6,0)] (.tup rfl (aB (vn rfl rfl (by simp) (congrArg dS hrep) (by simp)) lz)) rfl rfl rfl tr trivial)
   ·skip
    have hdf:gw C e=gG C (C.length+1) ((List.replicate C.length (-1)).set e.toNat 0,true):=if_neg ab
    have hdi0:DI D C.length ((List.replicate C.length (-1)).set e.toNat 0,true,false):=by
     have hr: ∀ i,(List.replicate C.length (-1:Int)).getD i (-1)= -1:=fun i=> by rw [List.getD_eq_getElem?_getD,List.getElem?_replicate];split <;> rfl
     refine ⟨by simp,fun i hi=> ?_,rfl⟩
     simp only
     rw [gQ]
     split
     ·rename_i h;right;rw [h.1,he ab ab];rfl
     ·exact .inl (hr i)
    have hn0:neg ((List.replicate C.length (-1)).set e.toNat 0)≤C.length:=by
     have:=List.countP_le_length (p:=fun x:Int=> decide (x < 0)) (l:=(List.replicate C.length (-1:Int)).set e.toNat 0)
     simpa [neg] using this
    obtain ⟨R,hR⟩: ∃ R,R=gw C e:=⟨_,rfl⟩
    rw [← hR] at hdf
    refine aO (am (fW rfl (aV rfl (aj (fS _ _ aa rfl rfl rfl e.toNat ab ab (by exact (Nat.zero_add _).trans (Nat.mul_one _))) ?_))))
    refine aj (mG _ _ aa rfl rfl rfl rfl rfl (by simp;omega) ((kF _ _ _ (by simp;omega)).trans (congrArg (fun l=> dS (List.set l e.toNat 0)) hrep))) ?_
    refine ai (aq ?_)
    refine aQ (σ':=aA 123 [(2,_),(6,_)] [((2,0),_),((6,0),_)] [] []) kp ?_
    refine an (ce rfl (ai (aT fun K14 hK14=> ?_)))
    refine am (ce rfl (ai (au ?_)))
    refine bv (α:=(List Int×Bool)×Bool) (fun z=> DI D C.length (z.1.1,z.1.2,false)∧sT C R z) 123 [(2,_),(6,_)] [((2,0),_)] (fun z=> [(8, .v (.bool z.1.2)),(9, .v (.bool z.2))]) (fun z=> [((6,0), .row 3 1 (dS z.1.1))]) [] [] (fun z=> Fu z) (((List.replicate C.length (-1)).set e.toNat 0,true),true) ?_ (by
     refine Le.mkJ [] [] rfl ?_ ?_ trivial trivial ?_
     ·exact ⟨(iP rfl),(iR rfl),(gy ag),(gy ag),trivial⟩
     ·exact ⟨(cH rfl rfl rfl),(gJ rfl rfl rfl ag),trivial⟩
     ·kernel_rfl) ?_
    ·exact ⟨hdi0,by unfold sT;rw [if_pos rfl];exact ⟨C.length+1,by simp only;omega,hdf.symm⟩⟩
    intro z hz
    obtain ⟨s,ch⟩:=z
    obtain ⟨hdi,hz⟩:=hz
    simp only at hdi hz ⊢
    refine aT fun K16 hK16=> ?_
    refine am (cE rfl (ai (aP rfl (fun hc39=> ?_) (fun hc39=> ?_))))
    ·skip
     obtain ⟨f,hf1,hf2⟩: ∃ f,neg s.1+1≤f∧gG C f s=R:=by
      unfold sT at hz
      rwa [if_pos hc39] at hz
     have hpd:=(jo hg hdi C.length (Nat.le_refl _)).2.2
     refine bA (hK16 _ ?_)
     clear hK16;try clear K16
     refine au (am (ce rfl (ai (am (bc rfl (ai (au ?_)))))))
     refine bv (α:=Nat) (fun i=> i≤C.length) 123 [(2,_),(6,_)] [((2,0),_)] (fun i=> [(10, .v (.int .i64 (i:Int))),(8, .v (.bool (cR C s i).2.1)),(9, .v (.bool (cR C s i).2.2))]) (fun i=> [((6,0), .row 3 1 (dS (cR C s i).1))]) [] [] (fun i=> C.length - i) 0 ?_ (by
      refine Le.mkJ [] [] rfl ?_ ?_ trivial trivial ?_
      ·exact ⟨(iP rfl),(iR rfl),(cd ag),(gy ag),(gy ag),trivial⟩
      ·exact ⟨(cH rfl rfl rfl),(gJ rfl rfl rfl ag),trivial⟩
      ·kernel_rfl) ?_
     ·omega
     intro i hi
     have hw:=(jo hg hdi i hi).1
     have hps:=ng C s i
     have hwl:=hw.len
     refine aT fun K20 hK20=> ?_
     refine am (aV rfl (fW rfl (aj (dh _ aa rfl rfl) (aj (bo _ _ rfl rfl rfl) (ai (aP rfl (fun hc43=> ?_) (fun hc43=> ?_)))))))
     ·skip
      have hdn:=(jo hg hdi (i+1) ab).1
      have hvi:=hw.val i ab
      generalize cR C s i=w at hw hps hwl hvi
      rw [fG ab] at hvi
      obtain ⟨hins,hpop,hsuc⟩:=hg i (cD C i) (by unfold cD;rw [List.getD_eq_getElem?_getD,List.getElem?_eq_getElem ab];rfl)
      rw [Nat.zero_add] at hpop hsuc
      have hDi:=hD i
      refine bA (hK20 _ ?_)
      clear hK20;try clear K20
      refine aT fun K22 hK22=> ?_
      refine au (aq (am (fW rfl (aV rfl (aj (fS _ _ aa rfl rfl rfl _ rfl ab (by exact (Nat.zero_add _).trans (Nat.mul_one _))) ?_)))))
      refine aj (km _ aa rfl rfl (by exact dz _ _ ab) rfl) ?_
      refine aj (bo _ _ rfl rfl rfl) (ai (aP rfl (fun hc50=> ?_) (fun hc50=> ?_)))
      ·skip
       rw [tb (by rw [fG ab];omega)] at hps
       refine bI (id (hK22 _ ?_))
       clear hK22;try clear K22
       refine an (aV rfl (aj (aZ _ _ rfl rfl (bJ ab)) ?_))
       refine bc rfl (aI (⟨i+1,?_,?_,?_⟩))
       ·omega
       ·skip
        refine Le.mkJ [] [] rfl ?_ ?_ trivial trivial ?_
        ·exact ⟨(iP rfl),(iR rfl),(cd ag),(gy (by (rw [hps]))),(gy (by (rw [hps]))),trivial⟩
        ·exact ⟨(cH rfl rfl rfl),(gJ rfl rfl rfl (by (rw [hps]))),trivial⟩
        ·kernel_rfl
       ·omega
      ·skip
       have hvD:=hvi.resolve_left ab
       have hgo:=wV (C:=C) (s:=w) (i:=i) (by rw [fG ab];omega) (by rw [fG ab];omega)
       rw [fG ab,hvD] at hgo
       rw [hgo] at hps
       obtain ⟨L,hL⟩: ∃ L,L=db i (cD C i):=⟨_,rfl⟩
       have hLl:L.length≤2:=by rw [hL];unfold db;split <;> simp
       have hnn:(cD C i).op= .jump∨(cD C i).op= .unl→0≤(cD C i).n:=by
        unfold cJ at hins
        rintro (e | e) <;> rw [e] at hins <;> exact hins
       have hnx:=tg C en dd vv i hC ab hnn
       rw [← hL] at hps hsuc hnx
       have hpp:=nX (cD C i).op
       have hpq:=nT (cD C i).op
       have hp3:(cD C i).op.pops≤3:=by generalize (cD C i).op=o;cases o <;> decide
       have hp4:(cD C i).op.puts≤1:=by generalize (cD C i).op=o;cases o <;> decide
       refine aO (aq ?_)
       refine aQ (σ':=aA 123 [(2,_),(6,_),(8,_),(9,_),(10,_)] [((2,0),_),((6,0),_)] [] []) kp ?_
       refine bT 13 [51,52,53,54,55,56,57,58,59,60,61,62,11] [] ae ae rfl (aM rfl) (rfl:_=[_,_,_,_,_,_,_,_,_,_,_,_,_]) (rfl:_=[]) ?_
       refine ap (_,[]) (fun τ=> aH _ (rfl:_=AV.ref _ _ _)) ?_
       refine fO rfl ?_
       refine ap (_,[]) (fun τ=> aH _ (rfl:_=AV.v (.int _ _))) ?_
       refine fR rfl ?_
       refine ap (_,[]) (fun τ=> fS _ _ aa rfl rfl rfl _ rfl ab (by exact (Nat.zero_add _).trans (Nat.mul_one _))) ?_
       refine fT rfl ?_
       refine ap (_,[]) (fun τ=> km _ aa rfl rfl (by exact dz _ _ ab) rfl) ?_
       refine fP rfl ?_
       refine ap (_,[]) (fun τ=> aD _ aa rfl rfl rfl) ?_
       refine gb rfl ?_
       refine ap (_,[]) (fun τ=> aG _ aa rfl rfl (rfl:_=some (AV.sl _ _))) ?_
       refine gC rfl ?_
       refine ap (_,[]) (fun τ=> aH _ (rfl:_=AV.v (.int _ _))) ?_
       refine iy rfl ?_
       refine ap (_,[]) (fun τ=> bl _ _ aa rfl rfl _ rfl ab (by (simp only [aU,bj,bh,bq,bp,bE,bs,bF,dM,aU];omega)) ag) ?_
       refine jy rfl ?_
       refine ap (_,[]) (fun τ=> cQ _ aa rfl rfl) ?_
       refine jr rfl ?_
       refine ap (_,[]) (fun τ=> bU _ aa rfl (by exact lk C i ab) rfl) ?_
       refine fq rfl ?_
       refine ap (_,[]) (fun τ=> (aC aa al (hpp) rfl rfl)) ?_
       refine fv rfl ?_
       refine ap (_,[]) (fun τ=> gK _ _ rfl rfl (bJ (by rw [hvD];omega))) ?_
       refine jf rfl ?_
       refine ap (_,[]) (fun τ=> bB _ (rfl:_=AV.v (.int _ _))) ?_
       refine jR rfl (bw ⟨rfl,?_⟩)
       refine ai (aq (am (aV rfl (aj (bo _ _ rfl rfl rfl) (ai (aS rfl (decide_eq_false (by rw [hvD];omega)) ?_))))))
       refine aO (aq ?_)
       refine aQ (σ':=aA 123 [(2,_),(6,_),(8,_),(9,_),(10,_),(11,_)] [((2,0),_),((6,0),_)] [] []) kp ?_
       refine an (aV rfl (bu rfl rfl rfl (eY rfl rfl rfl (aV rfl (aj (bl _ _ aa rfl rfl _ rfl ab (by (simp only [aU,bj,bh,bq,bp,bE,bs,bF,dM,aU];omega)) ag) ?_)))))
       refine aj (cQ _ aa rfl rfl) (aj (bU _ aa rfl (by exact lk C i ab) rfl) ?_)
       refine aj (aC aa al (hpq) rfl rfl) ?_
       refine aj (aZ _ _ rfl rfl (bJ (by rw [hvD];omega))) ?_
       refine bc rfl (ai (am (aj (aX _ aa rfl rfl rfl rfl) (aV rfl (aj (aC aa al (hnx) rfl rfl) ?_)))))
       refine jS rfl (ai (am (bc rfl (ai (au ?_)))))
       refine bv (α:=Nat) (fun k=> k≤L.length) 123 [(2,_),(6,_),(10,_),(12,_)] [((2,0),_)] (fun k=> [(13, .v (.int .i64 (k:Int))),(11, .v (.int .i64 ((D i:Int) - (cD C i).op.pops+(cD C i).op.puts))),(8, .v (.bool ((L.take k).foldl (gB C.length ((D i:Int) - (cD C i).op.pops+(cD C i).op.puts)) w).2.1)),(9, .v (.bool ((L.take k).foldl (gB C.length ((D i:Int) - (cD C i).op.pops+(cD C i).op.puts)) w).2.2))]) (fun k=> [((6,0), .row 3 1 (dS ((L.take k).foldl (gB C.length ((D i:Int) - (cD C i).op.pops+(cD C i).op.puts)) w).1))]) [] [] (fun k=> L.length - k) 0 ?_ (by
        refine Le.mkJ [] [] rfl ?_ ?_ trivial trivial ?_
        ·exact ⟨(iP rfl),(iR rfl),(iV rfl),(iS rfl),(cd ag),(cd (by rw [hvD])),(gy ag),(gy ag),trivial⟩
        ·exact ⟨(cH rfl rfl rfl),(gJ rfl rfl rfl ag),trivial⟩
        ·kernel_rfl) ?_
       ·omega
       intro k hk
       have hwd: ∀ j∈L,(D i:Int) - (cD C i).op.pops+(cD C i).op.puts=(D j:Int):=fun j hj=> by have:=(hsuc j hj).2.2;omega
       have hu:=(la (L.take k) hw (fun j hj=> hwd j (List.mem_of_mem_take hj))).1
       have hul:=hu.len
       refine aT fun K31 hK31=> ?_
       refine am (aV rfl (eT rfl (aj (bD _ aa rfl) (aj (bo _ _ rfl rfl rfl) (ai (aP rfl (fun hc80=> ?_) (fun hc80=> ?_)))))))
       ·skip
        have hfs:=qY (n:=C.length) (d:=(D i:Int) - (cD C i).op.pops+(cD C i).op.puts) (s:=w) (l:=L) (k:=k) ab
        have hu1:=(la (L.take (k+1)) hw (fun j hj=> hwd j (List.mem_of_mem_take hj))).1.len
        obtain ⟨j,hj⟩: ∃ j,j=L.getD k 0:=⟨_,rfl⟩
        have hjm:j∈L:=by rw [hj,List.getD_eq_getElem?_getD,List.getElem?_eq_getElem ab];exact List.getElem_mem ab
        obtain ⟨hj1,hj2,_⟩:=hsuc j hjm
        have hjn:j < C.length:=by omega
        have hwj:=hwd j hjm
        have hnk:=xE L k ab
        rw [← hj] at hfs hnk
        have huv:=hu.val j hjn
        rw [fG ab] at huv
        generalize (L.take k).foldl (gB C.length ((D i:Int) - (cD C i).op.pops+(cD C i).op.puts)) w=u at hu hul hfs huv
        refine bA (hK31 _ ?_)
        clear hK31;try clear K31
        refine aq (au (aq (am (eT rfl (aV rfl (aj (bl _ _ aa rfl rfl _ rfl ab (by (simp only [aU,bj,bh,bq,bp,bE,bs,bF,dM,aU];omega)) (by exact Nat.mul_one _)) ?_))))))
        refine aj (bU _ aa rfl (by exact hnk) rfl) ?_
        refine aj (bo _ _ rfl rfl rfl) (cE rfl (dw (fun hg88=> ?_) (fun hg88=> ?_)))
        ·skip
         exact absurd hg88 ab
        ·skip
         refine ax rfl rfl (aH _ (rfl:_=AV.sl _ _)) (ax rfl rfl (aH _ (rfl:_=AV.v (.int _ _))) (ax rfl rfl (bl _ _ aa rfl rfl _ rfl ab (by (simp only [aU,bj,bh,bq,bp,bE,bs,bF,dM,aU];omega)) (by exact Nat.mul_one _)) ?_))
         refine ax rfl rfl (bU _ aa rfl (by exact hnk) rfl) ?_
         refine ax rfl rfl (aH _ (rfl:_=AV.ref _ _ _)) (ax rfl rfl (dh _ aa rfl rfl) (ax rfl rfl (fj _ _ rfl rfl rfl) (aj (az _ _ _ rfl (rfl:_=AV.v (.bool _))) (ai (aS rfl (decide_eq_false ab) ?_)))))
         refine aO (aq ?_)
         refine aQ (σ':=aA 123 [(2,_),(6,_),(8,_),(9,_),(10,_),(11,_),(12,_),(13,_)] [((2,0),_),((6,0),_)] [] []) kp ?_
         refine an (fW rfl (eT rfl (aV rfl (aj (bl _ _ aa rfl rfl _ rfl ab (by (simp only [aU,bj,bh,bq,bp,bE,bs,bF,dM,aU];omega)) (by exact Nat.mul_one _)) ?_))))
         refine aj (bU _ aa rfl (by exact hnk) rfl) ?_
         refine aj (fS _ _ aa rfl rfl rfl _ rfl ab (by exact (Nat.zero_add _).trans (Nat.mul_one _))) ?_
         refine aj (km _ aa rfl rfl (by exact dz _ _ ab) rfl) ?_
         refine aj (bo _ _ rfl rfl rfl) (ai (aP rfl (fun hc104=> ?_) (fun hc104=> ?_)))
         ·skip
          have hds:gB C.length ((D i:Int) - (cD C i).op.pops+(cD C i).op.puts) u j=(u.1.set j ((D i:Int) - (cD C i).op.pops+(cD C i).op.puts),u.2.1,true):=by
           unfold gB
           rw [if_neg ab,if_pos (by rw [fG ab];omega)]
          rw [hds] at hfs
          refine am (fW rfl (eT rfl (aV rfl (aj (bl _ _ aa rfl rfl _ rfl ab (by (simp only [aU,bj,bh,bq,bp,bE,bs,bF,dM,aU];omega)) (by exact Nat.mul_one _)) ?_))))
          refine aj (bU _ aa rfl (by exact hnk) rfl) ?_
          refine aV rfl (aj (fS _ _ aa rfl rfl rfl _ rfl ab (by exact (Nat.zero_add _).trans (Nat.mul_one _))) ?_)
          refine aj (mG _ _ aa rfl rfl rfl rfl rfl (by simp;omega) (kF _ _ _ ab)) ?_
          refine ai ?_
          refine aQ (σ':=aA 123 [(2,_),(6,_),(8,_),(10,_),(11,_),(12,_),(13,_)] [((2,0),_),((6,0),_)] [] []) kp ?_
          refine an (ce rfl (gq (an (aV rfl (aj (aZ _ _ rfl rfl (bJ ab)) ?_)))))
          refine bc rfl (aI (⟨k+1,?_,?_,?_⟩))
          ·omega
          ·skip
           refine Le.mkJ [] [] rfl ?_ ?_ trivial trivial ?_
           ·exact ⟨(iP rfl),(iR rfl),(iV rfl),(iS rfl),(cd ag),(cd ag),(gy (by (rw [hfs]))),(gy (by (rw [hfs]))),trivial⟩
           ·exact ⟨(cH rfl rfl rfl),(gJ rfl rfl rfl (by (rw [hfs]))),trivial⟩
           ·kernel_rfl
          ·omega
         ·skip
          have hds:gB C.length ((D i:Int) - (cD C i).op.pops+(cD C i).op.puts) u j=u:=by
           unfold gB
           rw [if_neg ab,if_neg (by rw [fG ab];omega),if_neg (by rw [fG ab];omega)]
          rw [hds] at hfs
          refine am (fW rfl (eT rfl (aV rfl (aj (bl _ _ aa rfl rfl _ rfl ab (by (simp only [aU,bj,bh,bq,bp,bE,bs,bF,dM,aU];omega)) (by exact Nat.mul_one _)) ?_))))
          refine aj (bU _ aa rfl (by exact hnk) rfl) ?_
          refine aj (fS _ _ aa rfl rfl rfl _ rfl ab (by exact (Nat.zero_add _).trans (Nat.mul_one _))) ?_
          refine aj (km _ aa rfl rfl (by exact dz _ _ ab) rfl) ?_
          refine aV rfl (aj (bY _ _ rfl rfl rfl) (ai (aS rfl (by rw [bne_eq_false_iff_eq];omega) ?_)))
          refine cf ?_
          refine aQ (σ':=aA 123 [(2,_),(6,_),(8,_),(9,_),(10,_),(11,_),(12,_),(13,_)] [((2,0),_),((6,0),_)] [] []) kp ?_
          refine an (aV rfl (aj (aZ _ _ rfl rfl (bJ ab)) ?_))
          refine bc rfl (aI (⟨k+1,?_,?_,?_⟩))
          ·omega
          ·skip
           refine Le.mkJ [] [] rfl ?_ ?_ trivial trivial ?_
           ·exact ⟨(iP rfl),(iR rfl),(iV rfl),(iS rfl),(cd ag),(cd ag),(gy (by (rw [hfs]))),(gy (by (rw [hfs]))),trivial⟩
           ·exact ⟨(cH rfl rfl rfl),(gJ rfl rfl rfl (by (rw [hfs]))),trivial⟩
           ·kernel_rfl
          ·omega
       ·skip
        obtain rfl:k=L.length:=by omega
        rw [List.take_length] at hu hul
        rw [List.take_length]
        refine bI (id (hK22 _ ?_))
        clear hK22;try clear K22
        refine an (aV rfl (aj (aZ _ _ rfl rfl (bJ ab)) ?_))
        refine bc rfl (aI (⟨i+1,?_,?_,?_⟩))
        ·omega
        ·skip
         refine Le.mkJ [] [] rfl ?_ ?_ trivial trivial ?_
         ·exact ⟨(iP rfl),(iR rfl),(cd ag),(gy (by (rw [hps]))),(gy (by (rw [hps]))),trivial⟩
         ·exact ⟨(cH rfl rfl rfl),(gJ rfl rfl rfl (by (rw [hps]))),trivial⟩
         ·kernel_rfl
        ·omega
     ·skip
      obtain rfl:i=C.length:=by omega
      refine bI (id (⟨(((cR C s C.length).1,(cR C s C.length).2.1),(cR C s C.length).2.2),?_,?_,?_⟩))
      ·exact ⟨hw.flag,th hf1 hf2 hpd⟩
      ·skip
       refine Le.mkJ [] [] rfl ?_ ?_ trivial trivial ?_
       ·exact ⟨(iP rfl),(iR rfl),(gy ag),(gy ag),trivial⟩
       ·exact ⟨(cH rfl rfl rfl),(gJ rfl rfl rfl ag),trivial⟩
       ·kernel_rfl
      ·rw [show Fu (s,ch)=neg s.1+1 from if_pos hc39];exact BV hpd
    ·skip
     have hzR:s=R:=by
      unfold sT at hz
      rwa [if_neg (by simp [hc39])] at hz
     subst hzR
     have hsl:=hdi.len
     refine bI (id (hK14 _ ?_))
     clear hK14;try clear K14
     refine am (fW rfl (cE rfl (eE rfl (ce rfl (ai (aE ?_))))))
     rw [← hR]
     exact kJ (.inr rfl) rfl (.tmp (rfl:_=AV.ref _ _ _)) (.tmp (rfl:_=AV.v (.bool _))) (Le.out [] [(6,0)] (.tup rfl (aB (vn rfl rfl (by simp only at hsl;simp [hsl]) rfl hsl.symm) lz)) rfl rfl rfl tr trivial)
theorem rS (C:List dY) (en:Nat→Int) (dd vv:Int) (h:Nat) (hh:h < 40) (hC:C.length≤1000000) (D:Nat→Nat) (nv:Nat) (hg:Good D nv 0 (C.length - 1) 0 C) (hD: ∀ i,D i≤1000000) (he:0≤en h→en h < C.length→D (en h).toNat=0):
  Spec Tryz.prog 74 (bf [.agg (yG C.length (inl C) en dd vv), .v (.int .i64 (h:Int))] []) (aL (.v (.int .i64 (iC C (gw C (en h)).1 C.length))) []):=by
 have hds:=pU C en dd vv (en h) hC D nv hg hD he
 have hdi:=nk hg he
 have hdl:=hdi.len
 have hml:=fun k (hk:k≤C.length)=> kW (C:=C) (n:=C.length) hdi (B:=1000000) (fun i _=> hD i) k hk
 generalize gw C (en h)=R at hds hdi hdl hml
 have hen:=pD C.length (inl C) en dd vv h hh
 refine Spec.ofN Tryz.func74 rfl Tryz.ntmps74 rfl ?_
 refine am (aj (bg (2,0) _ rfl rfl) (bc rfl (ai (aq (bT 11 [11,12,13,14,15,16,10,17,18,5,6] [] ae ae rfl (aM rfl) (rfl:_=[_,_,_,_,_,_,_,_,_,_,_]) (rfl:_=[]) ?_)))))
 refine ap (_,[]) (fun τ=> aX _ aa rfl rfl rfl rfl) ?_
 refine fO rfl ?_
 refine ap (_,[]) (fun τ=> aH _ (rfl:_=AV.v (.int _ _))) ?_
 refine fR rfl ?_
 refine ap (_,[]) (fun τ=> aD _ aa rfl rfl rfl) ?_
 refine fT rfl ?_
 refine ap (_,[]) (fun τ=> em _ _ aa rfl rfl rfl h rfl ab (by exact congrArg (fun z=> 0+1+z) (Nat.mul_one h))) ?_
 refine fP rfl ?_
 refine ap (_,[]) (fun τ=> aG _ aa rfl rfl (by exact (congrArg (fun z=> (yG C.length (inl C) en dd vv)[z]?) ab).trans hen)) ?_
 refine gb rfl ?_
 refine ap (_,[]) (fun τ=> (aC aa al (hds) rfl rfl)) ?_
 refine gC rfl ?_
 refine ap (_,[]) (fun τ=> aH _ (rfl:_=AV.tup _)) ?_
 refine iy rfl ?_
 refine ap (_,[]) (fun τ=> dl _ rfl (rfl:_=some (AV.sl _ _))) ?_
 refine jy rfl ?_
 refine ap (_,[]) (fun τ=> dl _ rfl (rfl:_=some (AV.v (.bool _)))) ?_
 refine jr rfl ?_
 refine ap (_,[]) (fun τ=> bB _ (rfl:_=AV.sl _ _)) ?_
 refine fq rfl ?_
 refine ap (_,[]) (fun τ=> bB _ (rfl:_=AV.v (.bool _))) ?_
 refine fv rfl (bw ⟨rfl,?_⟩)
 refine ai (am (bc rfl (ai (aT fun K4 hK4=> ?_))))
 refine am (bc rfl (ai (au ?_)))
 refine bv (α:=Nat) (fun k=> k≤C.length) 53 [(2,_),(5,_)] [((2,0),_)] (fun k=> [(8, .v (.int .i64 (k:Int))),(7, .v (.int .i64 (iC C R.1 k)))]) (fun k=> []) [] [] (fun k=> C.length - k) 0 ?_ (by
  refine Le.mkJ [] [] rfl ?_ ?_ trivial trivial ?_
  ·exact ⟨(iP rfl),(iS rfl),(cd ag),(cd ag),trivial⟩
  ·exact ⟨(cH rfl rfl rfl),trivial⟩
  ·kernel_rfl) ?_
 ·omega
 intro k hk
 have hm1:=hml k hk
 have hs:=ni C R.1 k
 simp only at hdl hm1
 refine aT fun K6 hK6=> ?_
 refine am (aV rfl (eT rfl (aj (bD _ aa rfl) (aj (bo _ _ rfl rfl rfl) (ai (aP rfl (fun hc22=> ?_) (fun hc22=> ?_)))))))
 ·skip
  have hm2:=hml (k+1) ab
  have hv:=hdi.val k ab
  simp only at hv hm2
  rw [fG ab] at hv hs
  have hDk:=hD k
  obtain ⟨q,hq⟩: ∃ q,q=cD C k:=⟨_,rfl⟩
  have hp3:q.op.pops≤3:=by generalize q.op=o;cases o <;> decide
  have hp4:q.op.puts≤1:=by generalize q.op=o;cases o <;> decide
  have hpp:=nX q.op
  have hpq:=nT q.op
  have hg0:=lk C k ab
  rw [← hq] at hg0 hs
  refine bA (hK6 _ ?_)
  clear hK6;try clear K6
  refine aq (au (am (eT rfl (aV rfl (aj (bl _ _ aa rfl rfl _ rfl ab (by (simp only [aU,bj,bh,bq,bp,bE,bs,bF,dM,aU];omega)) (by exact Nat.mul_one _)) ?_)))))
  refine aj (bU _ aa rfl (by exact dz _ _ ab) rfl) ?_
  refine aj (fj _ _ rfl rfl rfl) (ai (aP rfl (fun hc29=> ?_) (fun hc29=> ?_)))
  ·skip
   rw [if_pos ab] at hs
   refine am (bu rfl rfl rfl (eY rfl rfl rfl (aV rfl (aj (bl _ _ aa rfl rfl _ rfl ab (by (simp only [aU,bj,bh,bq,bp,bE,bs,bF,dM,aU];omega)) ag) ?_))))
   refine aj (cQ _ aa rfl rfl) (aj (bU _ aa rfl (by exact hg0) rfl) ?_)
   refine bc rfl (ai ?_)
   refine aQ (σ':=aA 53 [(2,_),(5,_),(7,_),(8,_),(9,_)] [((2,0),_)] [] []) kp ?_
   refine bT 16 [36,37,38,39,40,41,42,43,44,45,46,47,48,49,50,51] [] ae ae rfl (aM rfl) (rfl:_=[_,_,_,_,_,_,_,_,_,_,_,_,_,_,_,_]) (rfl:_=[_]) ?_
   refine ap (_,[]) (fun τ=> aH _ (rfl:_=AV.v (.int _ _))) ?_
   refine fO rfl ?_
   refine ap (_,[]) (fun τ=> aH _ (rfl:_=AV.sl _ _)) ?_
   refine fR rfl ?_
   refine ap (_,[]) (fun τ=> aH _ (rfl:_=AV.v (.int _ _))) ?_
   refine fT rfl ?_
   refine ap (_,[]) (fun τ=> bl _ _ aa rfl rfl _ rfl ab (by (simp only [aU,bj,bh,bq,bp,bE,bs,bF,dM,aU];omega)) (by exact Nat.mul_one _)) ?_
   refine fP rfl ?_
   refine ap (_,[]) (fun τ=> bU _ aa rfl (by exact dz _ _ ab) rfl) ?_
   refine gb rfl ?_
   refine ap (_,[]) (fun τ=> aH _ (rfl:_=AV.sl _ _)) ?_
   refine gC rfl ?_
   refine ap (_,[]) (fun τ=> aH _ (rfl:_=AV.v (.int _ _))) ?_
   refine iy rfl ?_
   refine ap (_,[]) (fun τ=> bl _ _ aa rfl rfl _ rfl ab (by (simp only [aU,bj,bh,bq,bp,bE,bs,bF,dM,aU];omega)) (by exact Nat.mul_one _)) ?_
   refine jy rfl ?_
   refine ap (_,[]) (fun τ=> bU _ aa rfl (by exact dz _ _ ab) rfl) ?_
   refine jr rfl ?_
   refine ap (_,[]) (fun τ=> aH _ (rfl:_=AV.v (.int _ _))) ?_
   refine fq rfl ?_
   refine ap (_,[]) (fun τ=> (aC aa al (hpp) rfl rfl)) ?_
   refine fv rfl ?_
   refine ap (_,[]) (fun τ=> gK _ _ rfl rfl (bJ ab)) ?_
   refine jf rfl ?_
   refine ap (_,[]) (fun τ=> aH _ (rfl:_=AV.v (.int _ _))) ?_
   refine jR rfl ?_
   refine ap (_,[]) (fun τ=> (aC aa al (hpq) rfl rfl)) ?_
   refine mh rfl ?_
   refine ap (_,[]) (fun τ=> aZ _ _ rfl rfl (bJ ab)) ?_
   refine qp rfl ?_
   refine ap (_,[]) (fun τ=> yl _ _ _ rfl rfl rfl (by exact hs.symm)) ?_
   refine qC rfl (bw ⟨rfl,?_⟩)
   refine bc rfl (gq ?_)
   refine aQ (σ':=aA 53 [(2,_),(5,_),(7,_),(8,_)] [((2,0),_)] [] []) kp ?_
   refine an (aV rfl (aj (aZ _ _ rfl rfl (bJ ab)) ?_))
   refine bc rfl (aI (⟨k+1,?_,?_,?_⟩))
   ·omega
   ·skip
    refine Le.mkJ [] [] rfl ?_ ?_ trivial trivial ?_
    ·exact ⟨(iP rfl),(iS rfl),(cd ag),(cd ag),trivial⟩
    ·exact ⟨(cH rfl rfl rfl),trivial⟩
    ·kernel_rfl
   ·omega
  ·skip
   rw [if_neg ab] at hs
   refine cf (an (aV rfl (aj (aZ _ _ rfl rfl (bJ ab)) ?_)))
   refine bc rfl (aI (⟨k+1,?_,?_,?_⟩))
   ·omega
   ·skip
    refine Le.mkJ [] [] rfl ?_ ?_ trivial trivial ?_
    ·exact ⟨(iP rfl),(iS rfl),(cd ag),(cd ab),trivial⟩
    ·exact ⟨(cH rfl rfl rfl),trivial⟩
    ·kernel_rfl
   ·omega
 ·skip
  obtain rfl:k=C.length:=by omega
  refine bI (id (hK4 _ ?_))
  clear hK4;try clear K4
  exact am (aV rfl (bc rfl (ai (aE (aW (.inr rfl) rfl (.tmp (rfl:_=AV.v _)) (Le.out [] [] .v rfl rfl rfl trivial trivial))))))

theorem dB: ∀ (e:Ex) (d x:Nat),x∈cX e d→x≤d+(cX e d).length
 | .int _,d,x,h=> by simp [cX] at h ⊢;omega
 | .bool _,d,x,h=> by simp [cX] at h ⊢;omega
 | .var _,d,x,h=> by simp [cX] at h ⊢;omega
 | .name _,d,x,h=> by simp [cX] at h ⊢;omega
 | .draw e,d,x,h=> by
  have:=dB e d x
  simp only [cX,List.mem_append,List.length_append,List.length_cons,List.length_nil,List.mem_singleton] at h ⊢
  rcases h with h | h
  ·have:=this h;omega
  ·omega
 | .neg e,d,x,h=> by
  have:=dB e d x
  simp only [cX,List.mem_append,List.length_append,List.length_cons,List.length_nil,List.mem_singleton] at h ⊢
  rcases h with h | h
  ·have:=this h;omega
  ·omega
 | .not e,d,x,h=> by
  have:=dB e d x
  simp only [cX,List.mem_append,List.length_append,List.length_cons,List.length_nil,List.mem_singleton] at h ⊢
  rcases h with h | h
  ·have:=this h;omega
  ·omega
 | .bin o a b,d,x,h=> by
  have h1:=dB a d x
  have h2:=dB b (d+1) x
  have h3:1≤(cX b (d+1)).length:=by obtain ⟨l,hl⟩:=dN b (d+1);rw [hl];simp
  have h4:1≤(cX a d).length:=by obtain ⟨l,hl⟩:=dN a d;rw [hl];simp
  simp only [cX,List.mem_append,List.length_append] at h ⊢
  rcases h with (h | h) | h
  ·have:=h1 h;omega
  ·have:=h2 h;omega
  ·have:x≤d+2:=by cases o <;> simp at h <;> omega
   omega
 | .and a b,d,x,h=> by
  have h1:=dB a d x
  have h2:=dB b d x
  simp only [cX,List.mem_append,List.length_append,List.length_cons,List.length_nil,List.mem_singleton] at h ⊢
  rcases h with (((h | h) | h) | h) | h
  ·have:=h1 h;omega
  ·omega
  ·have:=h2 h;omega
  ·omega
  ·omega
 | .or a b,d,x,h=> by
  have h1:=dB a d x
  have h2:=dB b d x
  simp only [cX,List.mem_append,List.length_append,List.length_cons,List.length_nil,List.mem_singleton] at h ⊢
  rcases h with (((h | h) | h) | h) | h
  ·have:=h1 h;omega
  ·omega
  ·omega
  ·omega
  ·have:=h2 h;omega
theorem iQ (e:Ex) (d:Nat):1≤(cX e d).length:=by obtain ⟨l,hl⟩:=dN e d;rw [hl];simp
mutual
theorem xR: ∀ (s:Sm) (x:Nat),x∈dD s→x≤(dD s).length
 | .assign _ e,x,h=> by
  have:=dB e 0 x
  simp only [dD,List.mem_append,List.length_append,List.length_cons,List.length_nil,List.mem_singleton] at h ⊢
  rcases h with h | h
  ·have:=this h;omega
  ·omega
 | .send t _ a b,x,h=> by
  have h1:=dB t 0 x
  have h2:=dB a 1 x
  have h3:=dB b 2 x
  have k1:=iQ t 0
  have k2:=iQ a 1
  have k3:=iQ b 2
  simp only [dD,List.mem_append,List.length_append,List.length_cons,List.length_nil,List.mem_singleton] at h ⊢
  rcases h with ((h | h) | h) | h
  ·have:=h1 h;omega
  ·have:=h2 h;omega
  ·have:=h3 h;omega
  ·omega
 | .timer _,x,h=> by simp [dD] at h ⊢;omega
 | .cancel _,x,h=> by simp [dD] at h ⊢;omega
 | .sync,x,h=> by simp [dD] at h ⊢;omega
 | .stop,x,h=> by simp [dD] at h ⊢;omega
 | .reply a b,x,h=> by
  have h2:=dB a 0 x
  have h3:=dB b 1 x
  have k2:=iQ a 0
  have k3:=iQ b 1
  simp only [dD,List.mem_append,List.length_append,List.length_cons,List.length_nil,List.mem_singleton] at h ⊢
  rcases h with (h | h) | h
  ·have:=h2 h;omega
  ·have:=h3 h;omega
  ·omega
 | .fail e,x,h=> by
  have:=dB e 0 x
  simp only [dD,List.mem_append,List.length_append,List.length_cons,List.length_nil,List.mem_singleton] at h ⊢
  rcases h with h | h
  ·have:=this h;omega
  ·omega
 | .loop c b,x,h=> by
  have h1:=dB c 0 x
  have h2:=lf b x
  simp only [dD,List.mem_append,List.length_append,List.length_cons,List.length_nil,List.mem_singleton] at h ⊢
  rcases h with ((h | h) | h) | h
  ·have:=h1 h;omega
  ·omega
  ·have:=h2 h;omega
  ·omega
 | .ite c a b,x,h=> by
  have h1:=dB c 0 x
  have h2:=lf a x
  have h3:=lf b x
  simp only [dD,List.mem_append,List.length_append,List.length_cons,List.length_nil,List.mem_singleton] at h ⊢
  rcases h with (((h | h) | h) | h) | h
  ·have:=h1 h;omega
  ·omega
  ·have:=h2 h;omega
  ·omega
  ·have:=h3 h;omega
theorem lf: ∀ (b:Bk) (x:Nat),x∈jQ b→x≤(jQ b).length
 | .nil,x,h=> by simp [jQ] at h
 | .cons s b,x,h=> by
  have h1:=xR s x
  have h2:=lf b x
  simp only [jQ,List.mem_append,List.length_append] at h ⊢
  rcases h with h | h
  ·have:=h1 h;omega
  ·have:=h2 h;omega
end
theorem sg: ∀ (l:List (Nat×Bk)) (x:Nat),x∈jT l→x≤(jT l).length
 | [],x,h=> by simp [jT] at h
 | (k,b)::l,x,h=> by
  have h1:=lf b x
  have h2:=sg l x
  simp only [jT,List.mem_append,List.length_append,List.length_cons,List.length_nil,List.mem_singleton] at h ⊢
  rcases h with (h | h) | h
  ·have:=h1 h;omega
  ·omega
  ·have:=h2 h;omega
theorem vT (l:List (Nat×Bk)) (i:Nat):qb l i≤(bQ l 0).length:=by
 unfold qb
 rw [List.getD_eq_getElem?_getD]
 by_cases h:i < (jT l).length
 ·rw [List.getElem?_eq_getElem h,← nb l 0];exact sg l _ (List.getElem_mem h)
 ·rw [List.getElem?_eq_none ab];exact Nat.zero_le _

theorem lJ: ∀ (l m:List (Nat×Bk)) (a:Nat),bQ (l++m) a=bQ l a++bQ m (a+(bQ l a).length)
 | [],m,a=> by simp [bQ]
 | (h,b)::l,m,a=> by
  simp only [List.cons_append,bQ,lJ l m,List.append_assoc,List.length_append,List.length_cons,List.length_nil,Nat.add_assoc,Nat.zero_add,List.nil_append,Nat.add_comm 1 (List.length _)]
theorem qJ: ∀ (l m:List (Nat×Bk)) (a:Nat),ij (l++m) a=ij l a++ij m (a+(bQ l a).length)
 | [],m,a=> by simp [bQ,ij]
 | (h,b)::l,m,a=> by
  simp only [List.cons_append,bQ,ij,qJ l m,List.append_assoc,List.length_append,List.length_cons,List.length_nil,Nat.add_assoc,Nat.zero_add,Nat.add_comm 1 (List.length _)]
def bV (l:List (Nat×Bk)) (k:Nat):Int:=(lx (ij l 0)).getD k (-1)
theorem uo (l:List (Nat×Bk)) (p:Nat×Bk) (hp:p.1 < 40):bV (l++[p])=nQ (bV l) p.1 (bQ l 0).length:=by
 funext k
 have e:lx (ij (l++[p]) 0)=(lx (ij l 0)).set p.1 ((bQ l 0).length:Int):=by
  rw [qJ]
  obtain ⟨h,b⟩:=p
  simp only [ij,lx,List.foldl_append,List.foldl_cons,List.foldl_nil,Nat.zero_add]
 unfold bV nQ
 rw [e,gQ]
 by_cases hk:k=p.1
 ·rw [if_pos ⟨hk,by rw [vS];exact hp⟩,if_pos hk]
 ·rw [if_neg (fun h=> hk h.1),if_neg hk]
theorem rk (l:List (Nat×Bk)) (p:Nat×Bk):bQ (l++[p]) 0=bQ l 0++di p.2 (bQ l 0).length++[{ op:= .stop }]:=by
 rw [lJ]
 obtain ⟨h,b⟩:=p
 simp [bQ]
def dC (h k:Nat):Int:=if k < h∨40≤k then -1 else 0
theorem uY (h:Nat) (hh:h < 40):nQ (dC h) h (-1)=dC (h+1):=by
 funext k
 unfold nQ dC
 by_cases h1:k=h
 ·rw [if_pos h1,if_pos ab]
 ·rw [if_neg h1]
  by_cases h2:k < h∨40≤k
  ·rw [if_pos h2,if_pos ab]
  ·rw [if_neg h2,if_neg ab]
theorem ww:dC 40=bV []:=by
 funext k
 have e:bV [] k=(List.replicate 40 (-1:Int)).getD k (-1):=rfl
 rw [e,dC,if_pos ab,List.getD_eq_getElem?_getD,List.getElem?_replicate]
 by_cases hk:k < 40
 ·rw [if_pos hk];rfl
 ·rw [if_neg hk];rfl
theorem uM (ons:List (Nat×Bk)) (j:Nat) (h:j < ons.length):ons.take (j+1)=ons.take j++[ons[j]]:=List.take_succ_eq_append_getElem h
theorem nA (ons:List (Nat×Bk)) (j:Nat):(bQ (ons.take j) 0).length≤(bQ ons 0).length:=by
 conv=> rhs;rw [← List.take_append_drop j ons,lJ]
 rw [List.length_append];omega
theorem sO {n:Nat} (h:n < 40):fh (n:Int) 40=n:=by unfold fh;rw [if_neg ab];omega
structure UOk (d v:List Tx) (ons:List (Nat×Bk)):Prop where
 nd:(d++v).Nodup
 len:(d++v).length≤16
 ok: ∀ p∈ons,iu (d++v).length p.2
 pp: ∀ p∈ons,oI p.2=true
 h: ∀ p∈ons,p.1 < 40
 c:(bQ ons 0).length≤1000000
 n:ons.length≤1000
theorem UOk.good {d v:List Tx} {ons:List (Nat×Bk)} (U:UOk d v ons):Good (qb ons) (d++v).length 0 ((bQ ons 0).length - 1) 0 (bQ ons 0):=
 sL (qb ons) (d++v).length ons 0 0 ((bQ ons 0).length - 1) U.ok (mz ons) (Nat.le_refl _) ab
theorem UOk.ent {d v:List Tx} {ons:List (Nat×Bk)} (U:UOk d v ons) (k:Nat):0≤bV ons k→bV ons k < (bQ ons 0).length→qb ons (bV ons k).toNat=0:=fun h0 h1=> by
 rcases vY ons k with h | ⟨e,_,h,_,h2⟩
 ·unfold bV at h0;omega
 ·unfold bV;rw [h,Int.toNat_natCast];exact h2
abbrev QA (d v:List Tx) (ons:List (Nat×Bk)):AV:= .agg (yG (bQ ons 0).length (inl (bQ ons 0)) (bV ons) (d.length:Int) (v.length:Int))
abbrev zA:AV:= .agg (AN (.v (.slice none 0 0)) (fun _=> 0) 0 0)
def EM (ons:List (Nat×Bk)):Int:=if 400 < (bQ ons 0).length then 2 else 13
abbrev xu (d v:List Tx) (ons:List (Nat×Bk)):AV:=if iB ons=true then .tup [QA d v ons, .v (.int .i64 0)] else .tup [zA, .v (.int .i64 (EM ons))]
abbrev rm (d v:List Tx) (ons:List (Nat×Bk)):List Hd:=ons.map fun p=> (p.1,lp (d++v) p.2)
theorem kV (d v:List Tx) (ons:List (Nat×Bk)) (U:UOk d v ons):
  Spec Tryz.prog 57 (bf [Dd d v (rm d v ons)] []) (aL (xu d v ons) []):=by
 obtain ⟨H,hH⟩: ∃ H,H=rm d v ons:=⟨_,rfl⟩
 have hHl:H.length=ons.length:=by rw [hH,List.length_map]
 have hHk: ∀ k (h:k < ons.length),lu H k=((ons[k]).1,lp (d++v) (ons[k]).2):=fun k h=> by rw [hH];exact wx ons _ k h
 rw [← hH]
 clear hH
 have hUn:=U.n
 have hUc:=U.c
 have hUl:=U.len
 have hdl:d.length≤16∧v.length≤16:=by rw [List.length_append] at hUl;omega
 refine Spec.ofN Tryz.func57 rfl Tryz.ntmps57 rfl ?_
 refine am (aj (bg (1,0) _ rfl rfl) (aj (aR (2,0) aa rfl rfl) (bc rfl (ai (am (bu rfl rfl rfl (eY rfl rfl rfl (aj (bD _ aa rfl) (bu rfl rfl rfl (eY rfl rfl rfl ?_))))))))))
 refine aj (bD _ aa rfl) (aj (aF _ aa rfl (by exact (rfl:_=some [_,_,_,_,_,_,_,_,_,_,_,_,_,_,_,_,_,_,_,_,_,_,_,_,_,_,_,_,_,_,_,_,_,_,_,_,_,_,_,_,_,_,_]))) ?_)
 refine aj (aR (4,0) aa rfl rfl) (cF rfl rfl rfl rfl rfl rfl (ai (aT fun K3 hK3=> ?_)))
 refine am (bc rfl (ai (au ?_)))
 refine aQ (Le.nilB (4,0) 0 (60,0) 48 2 rfl rfl rfl) ?_
 refine bv (α:=Nat) (fun q=> q≤40) 79 [(1,_),(2,_),(4,_)] [((1,0),_),((2,0),_),((60,0),_)] (fun q=> [(5, .v (.int .i64 (q:Int)))]) (fun q=> [((4,0), .box 26 [.ref (60,0) 0 0, .v (.int .i64 (dC q 0)), .v (.int .i64 (dC q 1)), .v (.int .i64 (dC q 2)), .v (.int .i64 (dC q 3)), .v (.int .i64 (dC q 4)), .v (.int .i64 (dC q 5)), .v (.int .i64 (dC q 6)), .v (.int .i64 (dC q 7)), .v (.int .i64 (dC q 8)), .v (.int .i64 (dC q 9)), .v (.int .i64 (dC q 10)), .v (.int .i64 (dC q 11)), .v (.int .i64 (dC q 12)), .v (.int .i64 (dC q 13)), .v (.int .i64 (dC q 14)), .v (.int .i64 (dC q 15)), .v (.int .i64 (dC q 16)), .v (.int .i64 (dC q 17)), .v (.int .i64 (dC q 18)), .v (.int .i64 (dC q 19)), .v (.int .i64 (dC q 20)), .v (.int .i64 (dC q 21)), .v (.int .i64 (dC q 22)), .v (.int .i64 (dC q 23)), .v (.int .i64 (dC q 24)), .v (.int .i64 (dC q 25)), .v (.int .i64 (dC q 26)), .v (.int .i64 (dC q 27)), .v (.int .i64 (dC q 28)), .v (.int .i64 (dC q 29)), .v (.int .i64 (dC q 30)), .v (.int .i64 (dC q 31)), .v (.int .i64 (dC q 32)), .v (.int .i64 (dC q 33)), .v (.int .i64 (dC q 34)), .v (.int .i64 (dC q 35)), .v (.int .i64 (dC q 36)), .v (.int .i64 (dC q 37)), .v (.int .i64 (dC q 38)), .v (.int .i64 (dC q 39)), .v (.int .i64 (d.length:Int)), .v (.int .i64 (v.length:Int))])]) [] [] (fun q=> 40 - q) 0 ?_ (by
  refine Le.mkJ [] [] rfl ?_ ?_ trivial trivial ?_
  ·exact ⟨(iP rfl),(iP rfl),(iP rfl),(cd ag),trivial⟩
  ·exact ⟨(cH rfl rfl rfl),(cH rfl rfl rfl),(cH rfl rfl rfl),(gz rfl rfl rfl rfl lz),trivial⟩
  ·kernel_rfl) ?_
 ·omega
 intro q hq
 refine aT fun K5 hK5=> ?_
 refine am (aV rfl (aj (bo _ _ rfl rfl rfl) (ai (aP rfl (fun hc17=> ?_) (fun hc17=> ?_)))))
 ·skip
  refine bA (hK5 _ ?_)
  clear hK5;try clear K5
  refine aq (au (an (aV rfl (bu rfl rfl rfl (aj (em _ _ aa rfl rfl rfl q rfl ab (by exact congrArg (fun z=> 0+1+z) (Nat.mul_one q))) ?_)))))
  refine aj (iX _ _ aa rfl rfl rfl rfl (show 0+1+q+1≤43 by omega) ((congrArg (fun z=> eH (AN (.ref (60,0) 0 0) (dC q) (d.length:Int) (v.length:Int)) z [.v (.int .i64 (-1))]) ab).trans ((oT _ _ _ _ q ab _).trans (by rw [uY _ ab])))) ?_
  refine gq (an (aV rfl (aj (aZ _ _ rfl rfl (bJ ab)) ?_)))
  refine bc rfl (aI (⟨q+1,?_,?_,?_⟩))
  ·omega
  ·skip
   refine Le.mkJ [] [] rfl ?_ ?_ trivial trivial ?_
   ·exact ⟨(iP rfl),(iP rfl),(iP rfl),(cd ag),trivial⟩
   ·exact ⟨(cH rfl rfl rfl),(cH rfl rfl rfl),(cH rfl rfl rfl),(gz rfl rfl rfl rfl lz),trivial⟩
   ·kernel_rfl
  ·omega
 ·skip
  obtain rfl:q=40:=by omega
  rw [ww]
  refine bI (id (hK3 _ ?_))
  clear hK3;try clear K3
  refine aT fun K8 hK8=> ?_
  refine am (bc rfl (ai (au ?_)))
  refine bv (α:=Nat) (fun j=> j≤H.length) 79 [(1,_),(2,_),(4,_)] [((1,0),_),((2,0),_)] (fun j=> [(6, .v (.int .i64 (j:Int)))]) (fun j=> [((60,0), .row 48 2 (inl (bQ (ons.take j) 0))),((4,0), .box 26 [.ref (60,0) 0 (bQ (ons.take j) 0).length, .v (.int .i64 (bV (ons.take j) 0)), .v (.int .i64 (bV (ons.take j) 1)), .v (.int .i64 (bV (ons.take j) 2)), .v (.int .i64 (bV (ons.take j) 3)), .v (.int .i64 (bV (ons.take j) 4)), .v (.int .i64 (bV (ons.take j) 5)), .v (.int .i64 (bV (ons.take j) 6)), .v (.int .i64 (bV (ons.take j) 7)), .v (.int .i64 (bV (ons.take j) 8)), .v (.int .i64 (bV (ons.take j) 9)), .v (.int .i64 (bV (ons.take j) 10)), .v (.int .i64 (bV (ons.take j) 11)), .v (.int .i64 (bV (ons.take j) 12)), .v (.int .i64 (bV (ons.take j) 13)), .v (.int .i64 (bV (ons.take j) 14)), .v (.int .i64 (bV (ons.take j) 15)), .v (.int .i64 (bV (ons.take j) 16)), .v (.int .i64 (bV (ons.take j) 17)), .v (.int .i64 (bV (ons.take j) 18)), .v (.int .i64 (bV (ons.take j) 19)), .v (.int .i64 (bV (ons.take j) 20)), .v (.int .i64 (bV (ons.take j) 21)), .v (.int .i64 (bV (ons.take j) 22)), .v (.int .i64 (bV (ons.take j) 23)), .v (.int .i64 (bV (ons.take j) 24)), .v (.int .i64 (bV (ons.take j) 25)), .v (.int .i64 (bV (ons.take j) 26)), .v (.int .i64 (bV (ons.take j) 27)), .v (.int .i64 (bV (ons.take j) 28)), .v (.int .i64 (bV (ons.take j) 29)), .v (.int .i64 (bV (ons.take j) 30)), .v (.int .i64 (bV (ons.take j) 31)), .v (.int .i64 (bV (ons.take j) 32)), .v (.int .i64 (bV (ons.take j) 33)), .v (.int .i64 (bV (ons.take j) 34)), .v (.int .i64 (bV (ons.take j) 35)), .v (.int .i64 (bV (ons.take j) 36)), .v (.int .i64 (bV (ons.take j) 37)), .v (.int .i64 (bV (ons.take j) 38)), .v (.int .i64 (bV (ons.take j) 39)), .v (.int .i64 (d.length:Int)), .v (.int .i64 (v.length:Int))])]) [] [] (fun j=> H.length - j) 0 ?_ (by
   refine Le.mkJ [] [] rfl ?_ ?_ trivial trivial ?_
   ·exact ⟨(iP rfl),(iP rfl),(iP rfl),(cd ag),trivial⟩
   ·exact ⟨(cH rfl rfl rfl),(cH rfl rfl rfl),(gJ rfl rfl rfl ag),(gz rfl rfl rfl rfl lz),trivial⟩
   ·kernel_rfl) ?_
  ·omega
  intro j hj
  have hct:=nA ons j
  refine aT fun K10 hK10=> ?_
  refine am (aV rfl (bu rfl rfl rfl (eY rfl rfl rfl (aj (bD _ aa rfl) (aj (bo _ _ rfl rfl rfl) (ai (aP rfl (fun hc27=> ?_) (fun hc27=> ?_))))))))
  ·skip
   have hj:j < ons.length:=by omega
   have hct1:=nA ons (j+1)
   have hUh:=U.h _ (List.getElem_mem hj)
   have hUo:=U.ok _ (List.getElem_mem hj)
   have hUp:=U.pp _ (List.getElem_mem hj)
   have hbody:=pN H j ab
   have hg0:=gM H j ab
   rw [hHk j hj] at hbody hg0
   have hsn:=rk (ons.take j) (ons[j])
   have hen:=uo (ons.take j) (ons[j]) hUh
   rw [← uM ons j hj] at hsn hen
   have hsl:=congrArg List.length hsn
   simp only [List.length_append,List.length_cons,List.length_nil] at hsl
   have hcb:=zP (d:=d) (v:=v) (no:=H.length) (on:=kU H) U.nd ab (ons[j]).2 hUo hUp (bQ (ons.take j) 0).length ab
   generalize di (ons[j]).2 (bQ (ons.take j) 0).length=C at hsn hsl hcb
   generalize (ons[j]).2=bd at hbody hcb
   generalize (ons[j]).1=h at hbody hg0 hen hUh
   have har:=iY (h:Int) 40 ab ab ab ab
   rw [sO hUh] at har
   refine bA (hK10 _ ?_)
   clear hK10;try clear K10
   refine aq (au (am (bu rfl rfl rfl (eY rfl rfl rfl (aV rfl (aj (bl _ _ aa rfl rfl _ rfl ab (by (simp only [aU,bj,bh,bq,bp,bE,bs,bF,dM,aU,List.length_map];omega)) ag) ?_))))))
   refine aj (cQ _ aa rfl rfl) (aj (bU _ aa rfl (by exact hg0) rfl) ?_)
   refine aj (aC aa al (har) rfl rfl) ?_
   refine bc rfl (ai (am (aV rfl (bu rfl rfl rfl (aj (aG _ aa rfl rfl (rfl:_=some (AV.ref _ _ _))) (aj (dh _ aa rfl rfl) (bu rfl rfl rfl (aj (em _ _ aa rfl rfl rfl h rfl ab (by exact congrArg (fun z=> 0+1+z) (Nat.mul_one h))) ?_))))))))
   refine aj (iX _ _ aa rfl rfl rfl rfl (show 0+1+h+1≤43 by omega) ((congrArg (fun z=> eH (AN (.ref (60,0) 0 (bQ (ons.take j) 0).length) (bV (ons.take j)) (d.length:Int) (v.length:Int)) z [.v (.int .i64 ((bQ (ons.take j) 0).length:Int))]) ab).trans ((oT _ _ _ _ h ab _).trans (by rw [← hen])))) ?_
   refine ai (aq ?_)
   refine aQ (σ':=aA 79 [(1,_),(2,_),(4,_),(6,_)] [((1,0),_),((2,0),_),((60,0),_),((4,0),_)] [] []) kp ?_
   refine bT 13 [43,44,45,46,47,48,49,50,51,52,53,54,55] [(50,0)] ae ae rfl (aM rfl) (rfl:_=[_,_,_,_,_,_,_,_,_,_,_,_,_]) (rfl:_=[_,_,_]) ?_
   refine ap (_,[]) (fun τ=> aD _ aa rfl rfl rfl) ?_
   refine fO rfl ?_
   refine ap (_,[]) (fun τ=> aG _ aa rfl rfl (rfl:_=some (AV.ref _ _ _))) ?_
   refine fR rfl ?_
   refine ap (_,[]) (fun τ=> aX _ aa rfl rfl rfl rfl) ?_
   refine fT rfl ?_
   refine ap (_,[]) (fun τ=> aD _ aa rfl rfl rfl) ?_
   refine fP rfl ?_
   refine ap (_,[]) (fun τ=> aG _ aa rfl rfl (rfl:_=some (AV.sl _ _))) ?_
   refine gb rfl ?_
   refine ap (_,[]) (fun τ=> aH _ (rfl:_=AV.v (.int _ _))) ?_
   refine gC rfl ?_
   refine ap (_,[]) (fun τ=> bl _ _ aa rfl rfl _ rfl ab (by (simp only [aU,bj,bh,bq,bp,bE,bs,bF,dM,aU,List.length_map];omega)) ag) ?_
   refine iy rfl ?_
   refine ap (_,[]) (fun τ=> cQ _ aa rfl rfl) ?_
   refine jy rfl ?_
   refine ap (_,[]) (fun τ=> bZ _ aa rfl (by exact hbody) rfl) ?_
   refine jr rfl ?_
   refine ap (_,[]) (fun τ=> aD _ aa rfl rfl rfl) ?_
   refine fq rfl ?_
   refine ap (_,[]) (fun τ=> aG _ aa rfl rfl (rfl:_=some (AV.ref _ _ _))) ?_
   refine fv rfl ?_
   refine ap (_,[]) (fun τ=> dh _ aa rfl rfl) ?_
   refine jf rfl ?_
   refine ap (_,[((50,0),_)]) (fun τ=> (eb aa [((0,8),(50,0))] ar (hcb.toI) trivial tr tr rfl rfl ae ae)) ?_
   refine jR rfl (bw ⟨rfl,?_⟩)
   refine aj (de (56,0) _ _ aa rfl rfl (bF _).symm (.ref rfl (kK _) (jb _)) ab rfl (jD _ _) (show (bQ (ons.take j) 0).length+C.length=(bQ (ons.take j) 0++C).length by simp)) ?_
   refine bu rfl rfl rfl (cF rfl rfl rfl rfl rfl rfl (ai ?_))
   refine aQ (σ':=aA 79 [(1,_),(2,_),(4,_),(6,_)] [((1,0),_),((2,0),_),((4,0),_),((56,0),_)] [] []) kp ?_
   refine an (bu rfl rfl rfl (aj (aG _ aa rfl rfl (rfl:_=some (AV.ref _ _ _))) (aj (aF _ aa rfl (by exact (rfl:_=some [_,_]))) ?_)))
   refine aj (bi _ _ aa rfl ag (by (simp <;> rfl)) ah rfl) ?_
   refine aj (de (62,0) _ _ aa rfl rfl (bF _).symm (.sl rfl) (by simp;omega) rfl ((dZ _ { op:= .stop }).trans (congrArg inl hsn.symm)) (show (bQ (ons.take j) 0++C).length+1=(bQ (ons.take (j+1)) 0).length by simp [hsl])) ?_
   refine bu rfl rfl rfl (cF rfl rfl rfl rfl rfl rfl (gq (an (aV rfl (aj (aZ _ _ rfl rfl (bJ ab)) ?_)))))
   refine bc rfl (aI (⟨j+1,?_,?_,?_⟩))
   ·omega
   ·skip
    refine Le.mkJ [((60,0),(62,0))] [] rfl ?_ ?_ trivial trivial ?_
    ·exact ⟨(eg (id:=(1,0)) rfl),(eg (id:=(2,0)) rfl),(eg (id:=(4,0)) rfl),(cd ag),trivial⟩
    ·exact ⟨(gz rfl rfl rfl rfl (by repeat' (first | exact Lv.sl | exact br | refine aB ?_ ?_))),(gz rfl rfl rfl rfl (by repeat' (first | exact Lv.v | exact br | refine aB ?_ ?_))),(gJ rfl rfl rfl ag),(gz rfl rfl rfl rfl lz),trivial⟩
    ·kernel_rfl
   ·omega
  ·skip
   obtain rfl:j=ons.length:=by omega
   rw [List.take_length]
   refine bI (id (hK8 _ ?_))
   clear hK8;try clear K8
   refine aq (am (bu rfl rfl rfl (aj (aG _ aa rfl rfl (rfl:_=some (AV.ref _ _ _))) (aj (dh _ aa rfl rfl) (aj (gj _ _ rfl rfl rfl) (ai (aP rfl (fun hc67=> ?_) (fun hc67=> ?_))))))))
   ·skip
    have hco:iB ons≠true:=by
     unfold iB
     rw [decide_eq_false ab,Bool.false_and]
     exact Bool.false_ne_true
    rw [xu,if_neg hco,EM,if_pos ab]
    refine am (aj (aF _ aa rfl (by exact (rfl:_=some [_,_,_,_,_,_,_,_,_,_,_,_,_,_,_,_,_,_,_,_,_,_,_,_,_,_,_,_,_,_,_,_,_,_,_,_,_,_,_,_,_,_,_]))) ?_)
    exact cF rfl rfl rfl rfl rfl rfl (bc rfl (ai (aE (kJ (.inr rfl) rfl (.cellA aa rfl rfl rfl) (.tmp (rfl:_=AV.v _)) (Le.out [] [] (.tup rfl lz) rfl rfl rfl trivial trivial)))))
   ·skip
    have hl4:(bQ ons 0).length≤400:=by omega
    refine aO (aT fun K19 hK19=> ?_)
    refine am (bc rfl (ai (au ?_)))
    refine aQ (Le.frzB (4,0) 0 rfl rfl rfl rfl (ys:=inl (bQ ons 0)) (by rw [List.drop_zero];exact List.take_of_length_le (by rw [bF];omega)) (by rw [bF];omega)) ?_
    refine bv (α:=Nat) (fun h=> h≤40∧ ∀ k,k < h→iC (bQ ons 0) (gw (bQ ons 0) (bV ons k)).1 (bQ ons 0).length≤16) 79 [(2,_),(4,_)] [((2,0),_)] (fun h=> [(8, .v (.int .i64 (h:Int)))]) (fun h=> [((4,0), .box 26 [.sl (bQ ons 0).length (inl (bQ ons 0)), .v (.int .i64 (bV ons 0)), .v (.int .i64 (bV ons 1)), .v (.int .i64 (bV ons 2)), .v (.int .i64 (bV ons 3)), .v (.int .i64 (bV ons 4)), .v (.int .i64 (bV ons 5)), .v (.int .i64 (bV ons 6)), .v (.int .i64 (bV ons 7)), .v (.int .i64 (bV ons 8)), .v (.int .i64 (bV ons 9)), .v (.int .i64 (bV ons 10)), .v (.int .i64 (bV ons 11)), .v (.int .i64 (bV ons 12)), .v (.int .i64 (bV ons 13)), .v (.int .i64 (bV ons 14)), .v (.int .i64 (bV ons 15)), .v (.int .i64 (bV ons 16)), .v (.int .i64 (bV ons 17)), .v (.int .i64 (bV ons 18)), .v (.int .i64 (bV ons 19)), .v (.int .i64 (bV ons 20)), .v (.int .i64 (bV ons 21)), .v (.int .i64 (bV ons 22)), .v (.int .i64 (bV ons 23)), .v (.int .i64 (bV ons 24)), .v (.int .i64 (bV ons 25)), .v (.int .i64 (bV ons 26)), .v (.int .i64 (bV ons 27)), .v (.int .i64 (bV ons 28)), .v (.int .i64 (bV ons 29)), .v (.int .i64 (bV ons 30)), .v (.int .i64 (bV ons 31)), .v (.int .i64 (bV ons 32)), .v (.int .i64 (bV ons 33)), .v (.int .i64 (bV ons 34)), .v (.int .i64 (bV ons 35)), .v (.int .i64 (bV ons 36)), .v (.int .i64 (bV ons 37)), .v (.int .i64 (bV ons 38)), .v (.int .i64 (bV ons 39)), .v (.int .i64 (d.length:Int)), .v (.int .i64 (v.length:Int))])]) [] [] (fun h=> 40 - h) 0 ?_ (by
     refine Le.mkJ [] [] rfl ?_ ?_ trivial trivial ?_
     ·exact ⟨(iP rfl),(iP rfl),(cd ag),trivial⟩
     ·exact ⟨(cH rfl rfl rfl),(gz rfl rfl rfl rfl lz),trivial⟩
     ·kernel_rfl) ?_
    ·exact ⟨Nat.zero_le _,fun k hk=> absurd hk (Nat.not_lt_zero _)⟩
    intro h hh
    obtain ⟨hk,hks⟩:=hh
    refine aT fun K21 hK21=> ?_
    refine am (aV rfl (aj (bo _ _ rfl rfl rfl) (ai (aP rfl (fun hc70=> ?_) (fun hc70=> ?_)))))
    ·skip
     have hh4:h < 40:=by omega
     have hdm:=kW (C:=bQ ons 0) (nk U.good (U.ent h)) (B:=1000000) (fun i _=> Nat.le_trans (vT ons i) hUc) _ (Nat.le_refl _)
     have hde:=rS (bQ ons 0) (bV ons) (d.length:Int) (v.length:Int) h hh4 hUc (qb ons) (d++v).length U.good (fun i=> Nat.le_trans (vT ons i) hUc) (U.ent h)
     refine bA (hK21 _ ?_)
     clear hK21;try clear K21
     refine aq (au (am (aj (aX _ aa rfl rfl rfl rfl) (aV rfl (aj (aC aa al (hde) rfl rfl) ?_)))))
     refine aj (gj _ _ rfl rfl rfl) (ai (aP rfl (fun hc76=> ?_) (fun hc76=> ?_)))
     ·skip
      have hco:iB ons≠true:=fun e=> by
       unfold iB at e
       rw [Bool.and_eq_true,List.all_eq_true] at e
       have:=e.2 h (List.mem_range.2 hh4)
       rw [decide_eq_true_eq] at this
       exact absurd (show iC (bQ ons 0) (gw (bQ ons 0) (bV ons h)).1 (bQ ons 0).length≤16 from this) ab
      rw [xu,if_neg hco,EM,if_neg ab]
      refine am (aj (aF _ aa rfl (by exact (rfl:_=some [_,_,_,_,_,_,_,_,_,_,_,_,_,_,_,_,_,_,_,_,_,_,_,_,_,_,_,_,_,_,_,_,_,_,_,_,_,_,_,_,_,_,_]))) ?_)
      exact cF rfl rfl rfl rfl rfl rfl (bc rfl (ai (aE (kJ (.inr rfl) rfl (.cellA aa rfl rfl rfl) (.tmp (rfl:_=AV.v _)) (Le.out [] [] (.tup rfl lz) rfl rfl rfl trivial trivial)))))
     ·skip
      refine cf (an (aV rfl (aj (aZ _ _ rfl rfl (bJ ab)) ?_)))
      refine bc rfl (aI (⟨h+1,?_,?_,?_⟩))
      ·exact ⟨by omega,fun k hk=> (by
        rcases Nat.lt_or_ge k h with hlt | hge
        ·exact hks k hlt
        ·obtain rfl:k=h:=by omega
         omega)⟩
      ·skip
       refine Le.mkJ [] [] rfl ?_ ?_ trivial trivial ?_
       ·exact ⟨(iP rfl),(iP rfl),(cd ag),trivial⟩
       ·exact ⟨(cH rfl rfl rfl),(gz rfl rfl rfl rfl lz),trivial⟩
       ·kernel_rfl
      ·omega
    ·skip
     obtain rfl:h=40:=by omega
     have hco:iB ons=true:=by
      unfold iB
      rw [Bool.and_eq_true,decide_eq_true_eq,List.all_eq_true]
      exact ⟨hl4,fun k hk=> decide_eq_true (hks k (List.mem_range.1 hk))⟩
     refine bI (id (hK19 _ ?_))
     clear hK19;try clear K19
     refine am (aj (aX _ aa rfl rfl rfl rfl) (cF rfl rfl rfl rfl rfl rfl (bc rfl (ai (aE ?_)))))
     rw [xu,if_pos hco]
     exact kJ (.inr rfl) rfl (.cellA aa rfl rfl rfl) (.tmp (rfl:_=AV.v _)) (Le.out [] [] (.tup rfl lz) rfl rfl rfl trivial trivial)

structure yf (s:Tx) (d v:List Tx) (ons:List (Nat×Bk)):Prop extends UOk d v ons where
 p:oM s=some (d,v,rm d v ons)
 l:s.length≤3000
 wl: ∀ p∈ons,nG p.2=true
theorem vd {s:Tx} {d v:List Tx} {ons:List (Nat×Bk)} (U:yf s d v ons) (hc:iB ons=true):
  Spec Tryz.prog 64 (bf [.v (bt s)] []) (aL (xu d v ons) []):=by
 have h1:=nB s U.l _ _ _ U.p
 have h2:Spec Tryz.prog 97 (bf [Dd d v (rm d v ons)] []) (aL (.v (.int .i64 0)) []):=mV d v ons U.nd U.len U.ok U.wl U.n
 have h3:=kV d v ons U.toUOk
 rw [xu,if_pos hc] at h3 ⊢
 obtain ⟨H,hH⟩: ∃ H,H=rm d v ons:=⟨_,rfl⟩
 rw [← hH] at h1 h2 h3
 clear hH
 refine Spec.ofN Tryz.func64 rfl Tryz.ntmps64 rfl ?_
 refine am (aj (aR (2,0) aa rfl rfl) (bc rfl (ai (am (dv rfl (aj (aC aa al (h1) rfl rfl) ?_))))))
 refine aj (aH _ (rfl:_=AV.tup _)) (aj (dl _ rfl (rfl:_=some (AV.agg _))) (aj (dl _ rfl (rfl:_=some (AV.v (.int _ _)))) (aj (dl _ rfl (rfl:_=some (AV.v (.int _ _)))) (aj (aR (4,0) aa rfl rfl) (cF rfl rfl rfl rfl rfl rfl (bc rfl (bc rfl (ai (aq (am ?_))))))))))
 refine aV rfl (aj (bY (r:=false) _ _ rfl rfl rfl) (ai (aS rfl rfl (aO (am (aj (aX _ aa rfl rfl rfl rfl) (aj (aC aa al (h2) rfl rfl) ?_)))))))
 refine bc rfl (ai (aq (aq ?_)))
 refine aQ (σ':=aA 32 [(2,_),(4,_),(6,_)] [((2,0),_),((4,0),_)] [] []) kp ?_
 refine an (aV rfl (aj (bY (r:=false) _ _ rfl rfl rfl) (ai (aS rfl rfl (aO (am (aj (aX _ aa rfl rfl rfl rfl) (aj (aC aa al (h3) rfl rfl) ?_))))))))
 refine aj (aH _ (rfl:_=AV.tup _)) (aj (dl _ rfl (rfl:_=some (AV.agg _))) (aj (dl _ rfl (rfl:_=some (AV.v (.int _ _)))) (aj (aR (7,0) aa rfl rfl) (cF rfl rfl rfl rfl rfl rfl (bc rfl (ai (am (aj (aX _ aa rfl rfl rfl rfl) (aV rfl (cF rfl rfl rfl rfl rfl rfl ?_))))))))))
 exact bc rfl (ai (aE (kJ (.inr rfl) rfl (.cellA aa rfl rfl rfl) (.tmp (rfl:_=AV.v _)) (Le.out [] [] (.tup rfl lz) rfl rfl rfl trivial trivial))))
theorem vu {s:Tx} {d v:List Tx} {ons:List (Nat×Bk)} (U:yf s d v ons) (hc:iB ons≠true):
  Spec Tryz.prog 64 (bf [.v (bt s)] []) (aL (xu d v ons) []):=by
 have h1:=nB s U.l _ _ _ U.p
 have h2:Spec Tryz.prog 97 (bf [Dd d v (rm d v ons)] []) (aL (.v (.int .i64 0)) []):=mV d v ons U.nd U.len U.ok U.wl U.n
 have h3:=kV d v ons U.toUOk
 rw [xu,if_neg hc] at h3 ⊢
 generalize EM ons=er at h3 ⊢
 obtain ⟨H,hH⟩: ∃ H,H=rm d v ons:=⟨_,rfl⟩
 rw [← hH] at h1 h2 h3
 clear hH
 refine Spec.ofN Tryz.func64 rfl Tryz.ntmps64 rfl ?_
 refine am (aj (aR (2,0) aa rfl rfl) (bc rfl (ai (am (dv rfl (aj (aC aa al (h1) rfl rfl) ?_))))))
 refine aj (aH _ (rfl:_=AV.tup _)) (aj (dl _ rfl (rfl:_=some (AV.agg _))) (aj (dl _ rfl (rfl:_=some (AV.v (.int _ _)))) (aj (dl _ rfl (rfl:_=some (AV.v (.int _ _)))) (aj (aR (4,0) aa rfl rfl) (cF rfl rfl rfl rfl rfl rfl (bc rfl (bc rfl (ai (aq (am ?_))))))))))
 refine aV rfl (aj (bY (r:=false) _ _ rfl rfl rfl) (ai (aS rfl rfl (aO (am (aj (aX _ aa rfl rfl rfl rfl) (aj (aC aa al (h2) rfl rfl) ?_)))))))
 refine bc rfl (ai (aq (aq ?_)))
 refine aQ (σ':=aA 32 [(2,_),(4,_),(6,_)] [((2,0),_),((4,0),_)] [] []) kp ?_
 refine an (aV rfl (aj (bY (r:=false) _ _ rfl rfl rfl) (ai (aS rfl rfl (aO (am (aj (aX _ aa rfl rfl rfl rfl) (aj (aC aa al (h3) rfl rfl) ?_))))))))
 refine aj (aH _ (rfl:_=AV.tup _)) (aj (dl _ rfl (rfl:_=some (AV.agg _))) (aj (dl _ rfl (rfl:_=some (AV.v (.int _ _)))) (aj (aR (7,0) aa rfl rfl) (cF rfl rfl rfl rfl rfl rfl (bc rfl (ai (am (aj (aX _ aa rfl rfl rfl rfl) (aV rfl (cF rfl rfl rfl rfl rfl rfl ?_))))))))))
 exact bc rfl (ai (aE (kJ (.inr rfl) rfl (.cellA aa rfl rfl rfl) (.tmp (rfl:_=AV.v _)) (Le.out [] [] (.tup rfl lz) rfl rfl rfl trivial trivial))))
theorem rp {s:Tx} {d v:List Tx} {ons:List (Nat×Bk)} (U:yf s d v ons):
  Spec Tryz.prog 64 (bf [.v (bt s)] []) (aL (xu d v ons) []):=by
 by_cases hc:iB ons=true
 ·exact vd U hc
 ·exact vu U hc
theorem BL {d v:List Tx} {ons:List (Nat×Bk)} (h:Fr ons (d++v).length) (h1:(d++v).Nodup) (h2:(d++v).length≤16) (h3:(ons.all fun p=> oI p.2)=true) (h4:ons.length≤1000):UOk d v ons:=
 ⟨h1,h2,h.ok,fun p hp=> (List.all_eq_true.1 h3) p hp,h.h,by have:=h.n;omega,h4⟩
theorem usrcL:yf AJ yu ym onsL:=⟨BL srcOkL ah ah ae ah,Az,of_decide_eq_true ae,srcOkL.wl⟩

structure GL (L:List Int):Prop where
 n:L.length≤4611686018427387904
 r: ∀ x∈L, -9223372036854775808≤x∧x≤9223372036854775807

structure Pg where
 c:List dY
 e:Nat→Int
 d:Nat
 v:Nat
abbrev Pb (p:Pg):List AV:=yG p.c.length (inl p.c) p.e (p.d:Int) (p.v:Int)
abbrev zO (p:Pg):AV:= .agg (Pb p)
def eB (h k:Nat):Int:=if 1≤k∧k < h∨40≤k then -1 else 0
theorem BZ (h:Nat) (h1:1≤h) (hh:h < 40):nQ (eB h) h (-1)=eB (h+1):=by
 funext k
 unfold nQ eB
 by_cases h1:k=h
 ·rw [if_pos h1,if_pos ab]
 ·rw [if_neg h1]
  by_cases h2:1≤k∧k < h∨40≤k
  ·rw [if_pos h2,if_pos ab]
  ·rw [if_neg h2,if_neg ab]
def CN (n k:Int):Pg:=⟨CD n k,eB 40,1,0⟩
theorem tN (n k:Int):Spec Tryz.prog 29 (bf [.v (.int .i64 n), .v (.int .i64 k)] []) (aL (zO (CN n k)) []):=by
 refine Spec.ofN Tryz.func29 rfl Tryz.ntmps29 rfl ?_
 refine am (aj (aR (4,0) aa rfl rfl) (ai (am (aj (aF _ aa rfl (by exact (rfl:_=some [_,_,_,_,_,_,_,_,_,_,_,_,_,_,_,_,_,_,_,_,_,_,_,_,_,_,_,_,_,_,_,_,_,_,_,_,_,_,_,_,_,_,_]))) ?_))))
 refine aj (aR (5,0) aa rfl rfl) (cF rfl rfl rfl rfl rfl rfl (ai (aT fun K3 hK3=> ?_)))
 refine am (bc rfl (ai (au ?_)))
 refine bv (α:=Nat) (fun q=> 1≤q∧q≤40) 34 [(0,_),(1,_),(4,_),(5,_)] [((4,0),_)] (fun q=> [(6, .v (.int .i64 (q:Int)))]) (fun q=> [((5,0), .box 26 [.v (.slice none 0 0), .v (.int .i64 (eB q 0)), .v (.int .i64 (eB q 1)), .v (.int .i64 (eB q 2)), .v (.int .i64 (eB q 3)), .v (.int .i64 (eB q 4)), .v (.int .i64 (eB q 5)), .v (.int .i64 (eB q 6)), .v (.int .i64 (eB q 7)), .v (.int .i64 (eB q 8)), .v (.int .i64 (eB q 9)), .v (.int .i64 (eB q 10)), .v (.int .i64 (eB q 11)), .v (.int .i64 (eB q 12)), .v (.int .i64 (eB q 13)), .v (.int .i64 (eB q 14)), .v (.int .i64 (eB q 15)), .v (.int .i64 (eB q 16)), .v (.int .i64 (eB q 17)), .v (.int .i64 (eB q 18)), .v (.int .i64 (eB q 19)), .v (.int .i64 (eB q 20)), .v (.int .i64 (eB q 21)), .v (.int .i64 (eB q 22)), .v (.int .i64 (eB q 23)), .v (.int .i64 (eB q 24)), .v (.int .i64 (eB q 25)), .v (.int .i64 (eB q 26)), .v (.int .i64 (eB q 27)), .v (.int .i64 (eB q 28)), .v (.int .i64 (eB q 29)), .v (.int .i64 (eB q 30)), .v (.int .i64 (eB q 31)), .v (.int .i64 (eB q 32)), .v (.int .i64 (eB q 33)), .v (.int .i64 (eB q 34)), .v (.int .i64 (eB q 35)), .v (.int .i64 (eB q 36)), .v (.int .i64 (eB q 37)), .v (.int .i64 (eB q 38)), .v (.int .i64 (eB q 39)), .v (.int .i64 1), .v (.int .i64 0)])]) [] [] (fun q=> 40 - q) 1 ?_ (by
  refine Le.mkJ [] [] rfl ?_ ?_ trivial trivial ?_
  ·exact ⟨(iV rfl),(iV rfl),(iP rfl),(iP rfl),(cd ag),trivial⟩
  ·exact ⟨(cH rfl rfl rfl),(gz rfl rfl rfl rfl (aB (by repeat' (exact Lv.v)) lz)),trivial⟩
  ·kernel_rfl) ?_
 ·exact ⟨Nat.le_refl _,by omega⟩
 intro q hq
 obtain ⟨hq1,hq⟩:=hq
 refine aT fun K5 hK5=> ?_
 refine am (aV rfl (aj (bo _ _ rfl rfl rfl) (ai (aP rfl (fun hc9=> ?_) (fun hc9=> ?_)))))
 ·skip
  refine bA (hK5 _ ?_)
  clear hK5;try clear K5
  refine aq (au (an (aV rfl (bu rfl rfl rfl (aj (em _ _ aa rfl rfl rfl q rfl ab (by exact congrArg (fun z=> 0+1+z) (Nat.mul_one q))) ?_)))))
  refine aj (iX _ _ aa rfl rfl rfl rfl (show 0+1+q+1≤43 by omega) ((congrArg (fun z=> eH (AN (.v (.slice none 0 0)) (eB q) 1 0) z [.v (.int .i64 (-1))]) ab).trans ((oT _ _ _ _ q ab _).trans (by rw [BZ _ ab ab])))) ?_
  refine gq (an (aV rfl (aj (aZ _ _ rfl rfl (bJ ab)) ?_)))
  refine bc rfl (aI (⟨q+1,?_,?_,?_⟩))
  ·exact ⟨by omega,by omega⟩
  ·skip
   refine Le.mkJ [] [] rfl ?_ ?_ trivial trivial ?_
   ·exact ⟨(iV rfl),(iV rfl),(iP rfl),(iP rfl),(cd ag),trivial⟩
   ·exact ⟨(cH rfl rfl rfl),(gz rfl rfl rfl rfl (aB (by repeat' (exact Lv.v)) lz)),trivial⟩
   ·kernel_rfl
  ·omega
 ·skip
  obtain rfl:q=40:=by omega
  refine bI (id (hK3 _ ?_))
  clear hK3;try clear K3
  refine am (aj (aF _ aa rfl (by exact (rfl:_=some [_,_]))) ?_)
  refine aV rfl (aj (aF _ aa rfl (by exact (rfl:_=some [_,_]))) ?_)
  refine aj (aF _ aa rfl (by exact (rfl:_=some [_,_]))) ?_
  refine aj (aF _ aa rfl (by exact (rfl:_=some [_,_]))) ?_
  refine aV rfl (aj (aF _ aa rfl (by exact (rfl:_=some [_,_]))) ?_)
  refine aj (aF _ aa rfl (by exact (rfl:_=some [_,_]))) ?_
  refine aj (aF _ aa rfl (by exact (rfl:_=some [_,_]))) ?_
  refine aj (aF _ aa rfl (by exact (rfl:_=some [_,_]))) ?_
  refine aj (aF _ aa rfl (by exact (rfl:_=some [_,_]))) ?_
  refine aj (aF _ aa rfl (by exact (rfl:_=some [_,_]))) ?_
  refine aj (aF _ aa rfl (by exact (rfl:_=some [_,_]))) ?_
  refine aj (aF _ aa rfl (by exact (rfl:_=some [_,_]))) ?_
  refine aj (aF _ aa rfl (by exact (rfl:_=some [_,_]))) ?_
  refine aj (aF _ aa rfl (by exact (rfl:_=some [_,_]))) ?_
  refine aj (bi _ _ aa rfl ag (by (simp <;> rfl)) ah rfl) ?_
  refine bu rfl rfl rfl (cF rfl rfl rfl rfl rfl rfl (ai (aq ?_)))
  refine aQ (σ':=aA 34 [(4,_),(5,_)] [((4,0),_),((5,0),_)] [] []) kp ?_
  exact an (aj (aX _ aa rfl rfl rfl rfl) (cF rfl rfl rfl rfl rfl rfl (ai (aE (aW (.inr rfl) rfl (.cellA aa rfl rfl rfl) (Le.out [] [] (.agg rfl lz) rfl rfl rfl trivial trivial))))))

structure Mk where
 P:Pg
 iv:List Int
 names:List Int
 ans:List Int
abbrev Mk.nm (M:Mk) (k:Nat):Int:=M.names.getD k 0
abbrev Mk.cx (M:Mk):Cx:=⟨M.P.c,M.P.d,M.names,M.ans⟩
abbrev ON (c:AV) (e:Nat→Int) (d v:Int) (iv:AV) (nm:Nat→Int) (F ov ac:AV) (sp:Int) (sb:Bool) (cv st:AV) (pc dr se:Int) (en:Bool):List AV:=[c, .v (.int .i64 (e 0)), .v (.int .i64 (e 1)), .v (.int .i64 (e 2)), .v (.int .i64 (e 3)), .v (.int .i64 (e 4)), .v (.int .i64 (e 5)), .v (.int .i64 (e 6)), .v (.int .i64 (e 7)), .v (.int .i64 (e 8)), .v (.int .i64 (e 9)), .v (.int .i64 (e 10)), .v (.int .i64 (e 11)), .v (.int .i64 (e 12)), .v (.int .i64 (e 13)), .v (.int .i64 (e 14)), .v (.int .i64 (e 15)), .v (.int .i64 (e 16)), .v (.int .i64 (e 17)), .v (.int .i64 (e 18)), .v (.int .i64 (e 19)), .v (.int .i64 (e 20)), .v (.int .i64 (e 21)), .v (.int .i64 (e 22)), .v (.int .i64 (e 23)), .v (.int .i64 (e 24)), .v (.int .i64 (e 25)), .v (.int .i64 (e 26)), .v (.int .i64 (e 27)), .v (.int .i64 (e 28)), .v (.int .i64 (e 29)), .v (.int .i64 (e 30)), .v (.int .i64 (e 31)), .v (.int .i64 (e 32)), .v (.int .i64 (e 33)), .v (.int .i64 (e 34)), .v (.int .i64 (e 35)), .v (.int .i64 (e 36)), .v (.int .i64 (e 37)), .v (.int .i64 (e 38)), .v (.int .i64 (e 39)), .v (.int .i64 d), .v (.int .i64 v),iv, .v (.int .i64 (nm 0)), .v (.int .i64 (nm 1)), .v (.int .i64 (nm 2)), .v (.int .i64 (nm 3)), .v (.int .i64 (nm 4)), .v (.int .i64 (nm 5)), .v (.int .i64 (nm 6)), .v (.int .i64 (nm 7)), .v (.int .i64 (nm 8)),F,ov,ac, .v (.int .i64 sp), .v (.bool sb),cv,st, .v (.int .i64 pc), .v (.int .i64 dr), .v (.int .i64 se), .v (.bool en)]
abbrev Ap (p:ay):AV:= .fn (.func 60) [.ptr p 0] []
abbrev HR (M:Mk) (s:Ms) (dr se:Int) (ac st:ay):List AV:=ON (.sl M.P.c.length (inl M.P.c)) M.P.e (M.P.d:Int) (M.P.v:Int) (.sl M.iv.length (dS M.iv)) M.nm (Ap (4,9)) (.ref (1,9) 0 s.vars.length) (.ref ac 0 s.acts.length) (s.steps:Int) false (.v (.slice none 0 0)) (.ref st 0 s.stack.length) (s.pc:Int) dr se s.fin
abbrev jY (M:Mk) (s:Ms) (dr se:Int) (ac st ak:ay):List (ay×Cells):=[((0,9), .box 171 (HR M s dr se ac st)),((1,9), .row 3 1 (dS s.vars)),(ac, .row 57 5 (sI s.acts)),(st, .row 3 1 (dS s.stack)),((4,9), .box 129 [.sl M.ans.length (dS M.ans), .ref ak 0 s.asked.length, .v (.bool true)]),(ak, .row 3 1 (dS s.asked))]
abbrev ki (M:Mk) (s:Ms) (dr se:Int):List (ay×Cells):=jY M s dr se (2,9) (3,9) (5,9)
theorem kg (x lo hi:Int):Spec Tryz.prog 188 (bf [.v (.int .i64 x), .v (.int .i64 lo), .v (.int .i64 hi)] []) (aL (.v (.int .i64 (max lo (min x hi)))) []):=by
 refine Spec.ofN Tryz.func188 rfl Tryz.ntmps188 rfl ?_
 refine am (bc rfl (ai (am (aV rfl (aV rfl (aV rfl (aj (qX _ _ rfl rfl rfl) (aj (vX _ _ rfl rfl rfl) (bc rfl (ai ?_))))))))))
 exact aE (aW (.inr rfl) rfl (.tmp (rfl:_=AV.v _)) (Le.out [] [] .v rfl rfl rfl trivial trivial))
theorem mX (l:List Int) (x:Int):dS l++[.v (.int .i64 x)]=dS (l++[x]):=by simp [dS]
theorem tZ (l:List Int) (k:Nat):(dS l).take k=dS (l.take k):=by simp [dS]
theorem sV (x:Int):max (-2147483647) (min x 2147483647)=jK x:=rfl
section
variable (M:Mk) (s:Ms) (dr se:Int)
theorem dJ (x:Int) (hs:s.stack.length≤100000):
  Spec Tryz.prog 129 (aY [.ptr (0,9) 0, .v (.int .i64 x)] (ki M s dr se)) (be (.tup []) (jY M { s with stack:=s.stack++[jK x] } dr se (2,9) (3,8) (5,9)) [(0,9),(1,9),(2,9),(3,8),(4,9),(5,9)] [(0,9),(1,9),(2,9),(4,9),(5,9)]):=by
 have hc:=kg x (-2147483647) 2147483647
 rw [sV] at hc
 have hl:(s.stack++[jK x]).length=s.stack.length+1:=by simp
 refine Spec.ofNI Tryz.func129 rfl Tryz.ntmps129 rfl ?_
 refine aQ (Le.incT (12,0) rfl) ?_
 refine wa 9 [4,5,6,7,8,9,10,11,12] [(3,9),(12,0)] [[],[],[],[(3,9)],[(3,9)],[(3,9)],[(3,9)],[(3,9)],[]] ae ae rfl (aM rfl) (rfl:_=[_,_,_,_,_,_,_,_,_]) (rfl:_=[_,_,_]) ?_
 refine ap (_,[]) (fun τ=> aH _ (rfl:_=AV.ptr _ _)) ?_
 refine fO rfl ?_
 refine ap (_,[]) (fun τ=> aH _ (rfl:_=AV.ptr _ _)) ?_
 refine fR rfl ?_
 refine ap (_,[]) (fun τ=> aJ _ rfl rfl) ?_
 refine fT rfl ?_
 refine ap (_,[]) (fun τ=> aD _ aa rfl rfl rfl) ?_
 refine fP rfl ?_
 refine ap (_,[]) (fun τ=> aG _ aa rfl rfl (rfl:_=some (AV.ref _ _ _))) ?_
 refine gb rfl ?_
 refine ap (_,[]) (fun τ=> aH _ (rfl:_=AV.v (.int _ _))) ?_
 refine gC rfl ?_
 refine ap (_,[]) (fun τ=> (aC aa al (hc) rfl rfl)) ?_
 refine iy rfl ?_
 refine ap (_,[]) (fun τ=> bi _ _ aa rfl ag (by (simp <;> rfl)) ah rfl) ?_
 refine jy rfl ?_
 refine ap (_,[((3,9), .gone),((12,0),_)]) (fun τ=> mS (b:=true) (12,0) _ _ aa rfl (sh rfl (by exact qi) rfl) (by simp) (.sl rfl) ab rfl rfl rfl (mX _ _) hl.symm) ?_
 refine jr rfl (bw ⟨⟨rfl,by kernel_rfl⟩,?_⟩)
 exact aj (aJ _ rfl rfl) (bu rfl rfl rfl (cF rfl rfl rfl rfl rfl rfl (aI (et (.inl rfl) rfl (Le.outI [((3,8),(12,0))] [] (.tup rfl br) rfl rfl rfl trivial ob tr rfl)))))
theorem bS (hs:s.stack.length≤100000) (h0:0 < s.stack.length):
  Spec Tryz.prog 131 (aY [.ptr (0,9) 0] (ki M s dr se)) (be (.v (.int .i64 (s.top 0))) (jY M { s with stack:=s.pop 1 } dr se (2,9) (3,8) (5,9)) [(0,9),(1,9),(2,9),(3,8),(4,9),(5,9)] [(0,9),(1,9),(2,9),(4,9),(5,9)]):=by
 obtain ⟨m,hm⟩: ∃ m,s.stack.length=m+1:=⟨s.stack.length - 1,by omega⟩
 have ht:s.top 0=s.stack.getD m 0:=by unfold Ms.top;rw [hm];rfl
 have hp:s.pop 1=s.stack.take m:=by unfold Ms.pop;rw [hm];rfl
 have hl:(s.stack.take m).length=m:=by rw [List.length_take];omega
 rw [ht,hp]
 refine Spec.ofNI Tryz.func131 rfl Tryz.ntmps131 rfl ?_
 refine am (bc rfl (ai (aq (bT 13 [4,5,6,7,8,9,10,11,12,13,14,15,3] [] ae ae rfl (aM rfl) (rfl:_=[_,_,_,_,_,_,_,_,_,_,_,_,_]) (rfl:_=[]) ?_))))
 refine ap (_,[]) (fun τ=> aH _ (rfl:_=AV.ptr _ _)) ?_
 refine fO rfl ?_
 refine ap (_,[]) (fun τ=> aJ _ rfl rfl) ?_
 refine fR rfl ?_
 refine ap (_,[]) (fun τ=> aD _ aa rfl rfl rfl) ?_
 refine fT rfl ?_
 refine ap (_,[]) (fun τ=> aG _ aa rfl rfl (rfl:_=some (AV.ref _ _ _))) ?_
 refine fP rfl ?_
 refine ap (_,[]) (fun τ=> aH _ (rfl:_=AV.ptr _ _)) ?_
 refine gb rfl ?_
 refine ap (_,[]) (fun τ=> aJ _ rfl rfl) ?_
 refine gC rfl ?_
 refine ap (_,[]) (fun τ=> aD _ aa rfl rfl rfl) ?_
 refine iy rfl ?_
 refine ap (_,[]) (fun τ=> aG _ aa rfl rfl (rfl:_=some (AV.ref _ _ _))) ?_
 refine jy rfl ?_
 refine ap (_,[]) (fun τ=> dh _ aa rfl rfl) ?_
 refine jr rfl ?_
 refine ap (_,[]) (fun τ=> gK (r:=(m:Int)) _ _ rfl rfl ((bJ ab).trans ab)) ?_
 refine fq rfl ?_
 refine ap (_,[]) (fun τ=> fS _ _ aa rfl rfl rfl _ rfl ab (by exact (Nat.zero_add _).trans (Nat.mul_one _))) ?_
 refine fv rfl ?_
 refine ap (_,[]) (fun τ=> km _ aa rfl rfl (by exact dz _ _ ab) rfl) ?_
 refine jf rfl ?_
 refine ap (_,[]) (fun τ=> bB _ (rfl:_=AV.v (.int _ _))) ?_
 refine jR rfl (bw ⟨rfl,?_⟩)
 refine ai (aq ?_)
 refine aQ (σ':=aA 31 [(0,_),(3,_)] [((0,9),_),((1,9),_),((2,9),_),((3,9),_),((4,9),_),((5,9),_)] [(0,9),(1,9),(2,9),(3,9),(4,9),(5,9)] [(0,9),(1,9),(2,9),(4,9),(5,9)]) kp ?_
 refine bT 14 [16,17,18,19,20,21,22,23,24,25,26,27,28,29] [] ae ae rfl (aM rfl) (rfl:_=[_,_,_,_,_,_,_,_,_,_,_,_,_,_]) (rfl:_=[_]) ?_
 refine ap (_,[]) (fun τ=> aH _ (rfl:_=AV.ptr _ _)) ?_
 refine fO rfl ?_
 refine ap (_,[]) (fun τ=> aH _ (rfl:_=AV.ptr _ _)) ?_
 refine fR rfl ?_
 refine ap (_,[]) (fun τ=> aJ _ rfl rfl) ?_
 refine fT rfl ?_
 refine ap (_,[]) (fun τ=> aD _ aa rfl rfl rfl) ?_
 refine fP rfl ?_
 refine ap (_,[]) (fun τ=> aG _ aa rfl rfl (rfl:_=some (AV.ref _ _ _))) ?_
 refine gb rfl ?_
 refine ap (_,[]) (fun τ=> aH _ (rfl:_=AV.ptr _ _)) ?_
 refine gC rfl ?_
 refine ap (_,[]) (fun τ=> aJ _ rfl rfl) ?_
 refine iy rfl ?_
 refine ap (_,[]) (fun τ=> aD _ aa rfl rfl rfl) ?_
 refine jy rfl ?_
 refine ap (_,[]) (fun τ=> aG _ aa rfl rfl (rfl:_=some (AV.ref _ _ _))) ?_
 refine jr rfl ?_
 refine ap (_,[]) (fun τ=> dh _ aa rfl rfl) ?_
 refine fq rfl ?_
 refine ap (_,[]) (fun τ=> gK (r:=(m:Int)) _ _ rfl rfl ((bJ ab).trans ab)) ?_
 refine fv rfl ?_
 refine ap (_,[]) (fun τ=> Bx _ _ _ aa rfl rfl 0 m .dflt (.lit rfl rfl) ab ab rfl rfl) ?_
 refine jf rfl ?_
 refine ap (_,[]) (fun τ=> aJ _ rfl rfl) ?_
 refine jR rfl ?_
 refine ap (_,[]) (fun τ=> aD _ aa rfl rfl rfl) ?_
 refine mh rfl (bw ⟨rfl,?_⟩)
 refine cF rfl rfl rfl rfl rfl rfl (ai (aq ?_))
 refine aQ (Le.cutR (3,9) m rfl (tZ _ _)) ?_
 exact an (aV rfl (bc rfl (ai (aE (aW (.inr rfl) rfl (.tmp (rfl:_=AV.v _)) (Le.outI [((3,8),(3,9))] [] .v rfl rfl rfl trivial ⟨⟨rfl,⟨_,rfl, .box rfl (aB .sl (uD (uD (uD (uD (aB .v (aB .v (aB .sl (Ce (Ce (aB .v (aB (.fn rfl lz rfl br) (aB (cY rfl rfl) (aB (cY rfl rfl) (aB .v (aB .v (aB .v (aB (cY rfl hl) lz))))))))))))))))))⟩,rfl⟩,⟨rfl,⟨_,rfl, .rowE rfl⟩,rfl⟩,⟨rfl,⟨_,rfl, .rowE rfl⟩,rfl⟩,⟨rfl,⟨_,rfl, .rowE rfl⟩,rfl⟩,⟨rfl,⟨_,rfl, .box rfl lz⟩,rfl⟩,⟨rfl,⟨_,rfl, .rowE rfl⟩,rfl⟩,trivial⟩ tr rfl))))))
theorem eR (k a b c d:Int) (hs:s.acts.length≤100000):
  Spec Tryz.prog 132 (aY [.ptr (0,9) 0, .v (.int .i64 k), .v (.int .i64 a), .v (.int .i64 b), .v (.int .i64 c), .v (.int .i64 d)] (ki M s dr se)) (be (.tup []) (jY M { s with acts:=s.acts++[{ k:=k,a:=a,b:=b,c:=c,d:=d }] } dr se (2,8) (3,9) (5,9)) [(0,9),(1,9),(2,8),(3,9),(4,9),(5,9)] [(0,9),(1,9),(3,9),(4,9),(5,9)]):=by
 have hl:(s.acts++[({ k:=k,a:=a,b:=b,c:=c,d:=d }:Ac)]).length=s.acts.length+1:=by simp
 refine Spec.ofNI Tryz.func132 rfl Tryz.ntmps132 rfl ?_
 refine an (bN rfl (bN rfl (aj (aJ _ rfl rfl) (bu rfl rfl rfl (bu rfl rfl rfl (aj (aG _ aa rfl rfl (rfl:_=some (AV.ref _ _ _))) (aV rfl (aV rfl (aV rfl (aV rfl ?_))))))))))
 refine aV rfl (aj (aF _ aa rfl (by exact (rfl:_=some [_,_,_,_,_]))) ?_)
 refine aj (bi _ _ aa rfl ag (by (simp <;> rfl)) ah rfl) ?_
 refine cu (Le.incT (25,0) rfl) ?_
 refine aj (mS (b:=true) (25,0) _ _ aa rfl rfl (fk _).symm (.sl rfl) ab rfl rfl rfl (wH _ { k:=k,a:=a,b:=b,c:=c,d:=d }) hl.symm) ?_
 exact aj (aJ _ rfl rfl) (bu rfl rfl rfl (bu rfl rfl rfl (cF rfl rfl rfl rfl rfl rfl (aI (et (.inl rfl) rfl (Le.outI [((2,8),(25,0))] [] (.tup rfl br) rfl rfl rfl trivial ob tr rfl))))))
end

section
variable (M:Mk) (s:Ms) (dr se:Int)
theorem yn (n:Int) (hs:s.stack.length≤90000):
  Spec Tryz.prog 127 (aY [.ptr (0,9) 0, .v (.int .i64 n)] (ki M s dr se)) (be (.tup []) (jY M { s with stack:=s.stack++[jK n] } dr se (2,8) (3,8) (5,8)) [(0,9),(1,9),(2,8),(3,8),(4,9),(5,8)] [(0,9),(1,9),(4,9)]):=by
 refine Spec.ofNI Tryz.func127 rfl Tryz.ntmps127 rfl ?_
 refine an (bN rfl (aV rfl (cu (Le.incT (6,0) rfl) ?_)))
 refine aj (bk aa [((3,8),(6,0))] ar (dJ M s dr se n ab) ob tr tr rfl ae ae) ?_
 exact aI (et (.inl rfl) rfl (Le.outI [((2,8),(2,9)),((3,8),(6,0)),((5,8),(5,9))] [] (.tup rfl br) rfl rfl rfl trivial ob tr rfl))
theorem zq (k:Nat) (hk:k < s.vars.length) (hs:s.stack.length≤90000):
  Spec Tryz.prog 128 (aY [.ptr (0,9) 0, .v (.int .i64 (k:Int))] (ki M s dr se)) (be (.tup []) (jY M { s with stack:=s.stack++[jK (s.vars.getD k 0)] } dr se (2,8) (3,8) (5,8)) [(0,9),(1,9),(2,8),(3,8),(4,9),(5,8)] [(0,9),(1,9),(4,9)]):=by
 refine Spec.ofNI Tryz.func128 rfl Tryz.ntmps128 rfl ?_
 refine an (bN rfl (bN rfl (aj (aJ _ rfl rfl) (bu rfl rfl rfl (bu rfl rfl rfl (aj (aG _ aa rfl rfl (rfl:_=some (AV.ref _ _ _))) (aV rfl (aj (fS _ _ aa rfl rfl rfl _ rfl ab (by exact (Nat.zero_add _).trans (Nat.mul_one _))) ?_))))))))
 refine aj (km _ aa rfl rfl (by exact dz _ _ ab) rfl) ?_
 refine cu (Le.incT (13,0) rfl) ?_
 refine aj (bk aa [((3,8),(13,0))] ar (dJ M s dr se (s.vars.getD k 0) ab) ob tr tr rfl ae ae) ?_
 exact aI (et (.inl rfl) rfl (Le.outI [((2,8),(2,9)),((3,8),(13,0)),((5,8),(5,9))] [] (.tup rfl br) rfl rfl rfl trivial ob tr rfl))
theorem vk (n:Int) (ha:s.acts.length≤90000):
  Spec Tryz.prog 150 (aY [.ptr (0,9) 0, .v (.int .i64 n)] (ki M s dr se)) (be (.tup []) (jY M { s with acts:=s.acts++[{ k:=4,a:=n }] } dr se (2,8) (3,8) (5,8)) [(0,9),(1,9),(2,8),(3,8),(4,9),(5,8)] [(0,9),(1,9),(4,9)]):=by
 refine Spec.ofNI Tryz.func150 rfl Tryz.ntmps150 rfl ?_
 refine an (bN rfl (aV rfl (cu (Le.incT (6,0) rfl) ?_)))
 refine aj (bk aa [((2,8),(6,0))] ar (eR M s dr se 4 n 0 0 0 ab) ob tr tr rfl ae ae) ?_
 exact aI (et (.inl rfl) rfl (Le.outI [((2,8),(6,0)),((3,8),(3,9)),((5,8),(5,9))] [] (.tup rfl br) rfl rfl rfl trivial ob tr rfl))
theorem tH (n:Int) (ha:s.acts.length≤90000):
  Spec Tryz.prog 151 (aY [.ptr (0,9) 0, .v (.int .i64 n)] (ki M s dr se)) (be (.tup []) (jY M { s with acts:=s.acts++[{ k:=5,a:=n }] } dr se (2,8) (3,8) (5,8)) [(0,9),(1,9),(2,8),(3,8),(4,9),(5,8)] [(0,9),(1,9),(4,9)]):=by
 refine Spec.ofNI Tryz.func151 rfl Tryz.ntmps151 rfl ?_
 refine an (bN rfl (aV rfl (cu (Le.incT (6,0) rfl) ?_)))
 refine aj (bk aa [((2,8),(6,0))] ar (eR M s dr se 5 n 0 0 0 ab) ob tr tr rfl ae ae) ?_
 exact aI (et (.inl rfl) rfl (Le.outI [((2,8),(6,0)),((3,8),(3,9)),((5,8),(5,9))] [] (.tup rfl br) rfl rfl rfl trivial ob tr rfl))
theorem xZ (n:Int) (ha:s.acts.length≤90000):
  Spec Tryz.prog 152 (aY [.ptr (0,9) 0, .v (.int .i64 n)] (ki M s dr se)) (be (.tup []) (jY M { s with acts:=s.acts++[{ k:=2 }] } dr se (2,8) (3,8) (5,8)) [(0,9),(1,9),(2,8),(3,8),(4,9),(5,8)] [(0,9),(1,9),(4,9)]):=by
 refine Spec.ofNI Tryz.func152 rfl Tryz.ntmps152 rfl ?_
 refine an (bN rfl (cu (Le.incT (5,0) rfl) ?_))
 refine aj (bk aa [((2,8),(5,0))] ar (eR M s dr se 2 0 0 0 0 ab) ob tr tr rfl ae ae) ?_
 exact aI (et (.inl rfl) rfl (Le.outI [((2,8),(5,0)),((3,8),(3,9)),((5,8),(5,9))] [] (.tup rfl br) rfl rfl rfl trivial ob tr rfl))
theorem yt (n:Int):
  Spec Tryz.prog 155 (aY [.ptr (0,9) 0, .v (.int .i64 n)] (ki M s dr se)) (be (.tup []) (jY M { s with fin:=true } dr se (2,8) (3,8) (5,8)) [(0,9),(1,9),(2,8),(3,8),(4,9),(5,8)] [(0,9),(1,9),(4,9)]):=by
 refine Spec.ofNI Tryz.func155 rfl Tryz.ntmps155 rfl ?_
 exact an (bN rfl (aj (aJ _ rfl rfl) (bu rfl rfl rfl (cF rfl rfl rfl rfl rfl rfl (aI (et (.inl rfl) rfl (Le.outI [((2,8),(2,9)),((3,8),(3,9)),((5,8),(5,9))] [] (.tup rfl br) rfl rfl rfl trivial ob tr rfl)))))))
theorem yK (n:Nat):
  Spec Tryz.prog 147 (aY [.ptr (0,9) 0, .v (.int .i64 (n:Int))] (ki M s dr se)) (be (.tup []) (jY M { s with pc:=n } dr se (2,8) (3,8) (5,8)) [(0,9),(1,9),(2,8),(3,8),(4,9),(5,8)] [(0,9),(1,9),(4,9)]):=by
 refine Spec.ofNI Tryz.func147 rfl Tryz.ntmps147 rfl ?_
 exact an (bN rfl (aV rfl (aj (aJ _ rfl rfl) (bu rfl rfl rfl (cF rfl rfl rfl rfl rfl rfl (aI (et (.inl rfl) rfl (Le.outI [((2,8),(2,9)),((3,8),(3,9)),((5,8),(5,9))] [] (.tup rfl br) rfl rfl rfl trivial ob tr rfl))))))))
theorem xH (n:Int) (hs:s.stack.length≤90000) (h0:0 < s.stack.length) (hr:Rg (s.top 0)):
  Spec Tryz.prog 141 (aY [.ptr (0,9) 0, .v (.int .i64 n)] (ki M s dr se)) (be (.tup []) (jY M { s with stack:=s.pop 1++[jK (-(s.top 0))] } dr se (2,8) (3,8) (5,8)) [(0,9),(1,9),(2,8),(3,8),(4,9),(5,8)] [(0,9),(1,9),(4,9)]):=by
 unfold Rg at hr
 refine Spec.ofNI Tryz.func141 rfl Tryz.ntmps141 rfl ?_
 refine an (bN rfl (bN rfl (cu (Le.incT (6,0) rfl) ?_)))
 refine aj (bk aa [((3,8),(6,0))] ar (bS M s dr se ab h0) ob tr tr rfl ae ae) ?_
 refine aj (xj (r:= -(s.top 0)) _ rfl (bJ ab)) ?_
 refine cu (Le.incT (8,0) rfl) ?_
 refine aj (bk aa [((3,9),(6,0)),((3,8),(8,0))] ar (dJ M { s with stack:=s.pop 1 } dr se (-(s.top 0)) (by have:=cb s 1;simp only;omega)) ob tr tr rfl ae ae) ?_
 exact aI (et (.inl rfl) rfl (Le.outI [((2,8),(2,9)),((3,8),(8,0)),((5,8),(5,9))] [] (.tup rfl br) rfl rfl rfl trivial ob tr rfl))
theorem vJ (n:Int) (hs:s.stack.length≤90000) (ha:s.acts.length≤90000) (h0:0 < s.stack.length):
  Spec Tryz.prog 154 (aY [.ptr (0,9) 0, .v (.int .i64 n)] (ki M s dr se)) (be (.tup []) (jY M { s with stack:=s.pop 1,acts:=s.acts++[{ k:=7,a:=s.top 0 }] } dr se (2,8) (3,8) (5,8)) [(0,9),(1,9),(2,8),(3,8),(4,9),(5,8)] [(0,9),(1,9),(4,9)]):=by
 refine Spec.ofNI Tryz.func154 rfl Tryz.ntmps154 rfl ?_
 refine an (bN rfl (bN rfl (cu (Le.incT (6,0) rfl) ?_)))
 refine aj (bk aa [((3,8),(6,0))] ar (bS M s dr se ab h0) ob tr tr rfl ae ae) ?_
 refine cu (Le.incT (7,0) rfl) ?_
 refine aj (bk aa [((3,9),(6,0)),((2,8),(7,0))] ar (eR M { s with stack:=s.pop 1 } dr se 7 (s.top 0) 0 0 0 (by simp only;omega)) ob tr tr rfl ae ae) ?_
 exact aI (et (.inl rfl) rfl (Le.outI [((2,8),(7,0)),((3,8),(6,0)),((5,8),(5,9))] [] (.tup rfl br) rfl rfl rfl trivial ob tr rfl))
end

section
variable (M:Mk) (s:Ms) (dr se:Int)
theorem vz (k:Nat) (hk:k < s.vars.length) (hs:s.stack.length≤90000) (ha:s.acts.length≤90000) (h0:0 < s.stack.length) (hd:k < M.P.d):
  Spec Tryz.prog 130 (aY [.ptr (0,9) 0, .v (.int .i64 (k:Int))] (ki M s dr se)) (be (.tup []) (jY M { s with vars:=s.vars.set k (s.top 0),stack:=s.pop 1,acts:=s.acts++[{ k:=1,a:=k,b:=s.top 0 }] } dr se (2,8) (3,8) (5,8)) [(0,9),(1,9),(2,8),(3,8),(4,9),(5,8)] [(0,9),(1,9),(4,9)]):=by
 have hl:(s.vars.set k (s.top 0)).length=s.vars.length:=List.length_set
 have hg:=dz (s.vars.set k (s.top 0)) k (by rw [hl];exact hk)
 rw [List.getD_eq_getElem?_getD,List.getElem?_set_self hk] at hg
 refine Spec.ofNI Tryz.func130 rfl Tryz.ntmps130 rfl ?_
 refine aq ?_
 refine aQ (Le.incT (11,0) rfl) ?_
 refine sq (0,9) (fun c=> ∃ xs,c=Slot.obj (.box 171 xs)∧xs[54]? =some (.ref (1,9) 0 s.vars.length)) 8 [4,5,6,7,8,9,10,11] [(0,9),(1,9),(2,9),(11,0),(4,9),(5,9),(3,9)] ae ae rfl (aM rfl) (rfl:_=[_,_,_,_,_,_,_,_]) (rfl:_=[_,_]) (⟨_,rfl,rfl⟩) ?_
 refine eA (_,[]) (fun τ hτ=> aH _ (rfl:_=AV.ptr _ _)) ?_
 refine eD (rfl:_=[_]) ?_
 refine eA (_,[]) (fun τ hτ=> aJ _ rfl (by exact hτ.choose_spec.1)) ?_
 refine eD (rfl:_=[_,_]) ?_
 refine eA (_,[]) (fun τ hτ=> aD _ aa rfl (by exact hτ.choose_spec.1) rfl) ?_
 refine eD (rfl:_=[_,_,_]) ?_
 refine eA (_,[]) (fun τ hτ=> aD _ aa rfl (by exact hτ.choose_spec.1) rfl) ?_
 refine eD (rfl:_=[_,_,_,_]) ?_
 refine eA (_,[]) (fun τ hτ=> aG _ aa rfl (by exact hτ.choose_spec.1) (by exact hτ.choose_spec.2)) ?_
 refine eD (rfl:_=[_,_,_,_,_]) ?_
 refine eA (_,[]) (fun τ hτ=> aH _ (rfl:_=AV.v (.int _ _))) ?_
 refine eD (rfl:_=[_,_,_,_,_,_]) ?_
 refine eA (_,[]) (fun τ hτ=> aH _ (rfl:_=AV.ptr _ _)) ?_
 refine eD (rfl:_=[_,_,_,_,_,_,_]) ?_
 refine eA (_,[((0,9),_),((1,9),_),((2,9),_),((11,0),_),((4,9),_),((5,9),_),((3,9), .gone)]) (fun τ hτ=> (bk aa [((3,8),(11,0))] ar (bS M s dr se ab h0) ob tr tr rfl ae ae)) ?_
 refine eD (rfl:_=[_,_,_,_,_,_,_,_]) ?_
 refine qq ⟨⟨rfl,(by intro r hr c hc;simp only [List.mem_cons,List.not_mem_nil,or_false] at hr;rcases hr with rfl | rfl | rfl | rfl | rfl | rfl | rfl | rfl <;> simp at hc;subst hc;exact ⟨_,rfl,rfl⟩)⟩,?_⟩
 refine aj (fS _ _ aa rfl rfl rfl _ rfl ab (by exact (Nat.zero_add _).trans (Nat.mul_one _))) ?_
 refine aj (mG _ _ aa rfl rfl rfl rfl rfl (by rw [aU];exact hk) (kF s.vars k (s.top 0) hk)) ?_
 refine ai (am (aV rfl (bN rfl (aj (aJ _ rfl rfl) (bu rfl rfl rfl (bu rfl rfl rfl (cw rfl rfl rfl (aj (bo _ _ rfl rfl rfl) (ai (bR rfl (decide_eq_true ab) ?_))))))))))
 refine aQ (σ':=aA 31 [(0,_),(1,_)] [((0,9),_),((1,9),_),((2,9),_),((4,9),_),((5,9),_),((11,0),_)] [(0,9),(1,9),(2,9),(4,9),(5,9),(11,0)] [(0,9),(1,9),(4,9)]) kp ?_
 refine an (bN rfl (aV rfl (bN rfl (aj (aJ _ rfl rfl) (bu rfl rfl rfl (bu rfl rfl rfl (aj (aG _ aa rfl rfl (rfl:_=some (AV.ref _ _ _))) (aV rfl (aj (fS _ _ aa rfl rfl rfl _ rfl ab (by exact (Nat.zero_add _).trans (Nat.mul_one _))) ?_)))))))))
 refine aj (km _ aa rfl rfl (by exact hg) rfl) ?_
 refine cu (Le.incT (30,0) rfl) ?_
 refine aj (bk aa [((3,9),(11,0)),((2,8),(30,0))] ar (eR M { s with vars:=s.vars.set k (s.top 0),stack:=s.pop 1 } dr se 1 (k:Int) (s.top 0) 0 0 (by simp only;omega)) ⟨⟨rfl,⟨_,rfl, .box ag (aB .sl (uD (uD (uD (uD (aB .v (aB .v (aB .sl (Ce (Ce (aB .v (aB (.fn rfl lz rfl br) (aB (cY (id:=(1,9)) (id':=(1,9)) rfl hl) lz)))))))))))))⟩,rfl⟩,⟨rfl,⟨_,rfl, .rowE rfl⟩,rfl⟩,⟨rfl,⟨_,rfl, .rowE rfl⟩,rfl⟩,⟨rfl,⟨_,rfl, .rowE rfl⟩,rfl⟩,⟨rfl,⟨_,rfl, .box ag lz⟩,rfl⟩,⟨rfl,⟨_,rfl, .rowE rfl⟩,rfl⟩,trivial⟩ tr tr rfl ae ae) ?_
 exact aI (et (.inl rfl) rfl (Le.outI [((2,8),(30,0)),((3,8),(11,0)),((5,8),(5,9))] [] (.tup rfl br) rfl rfl rfl trivial ob tr rfl))
theorem wX (k:Nat) (hk:k < s.vars.length) (hs:s.stack.length≤90000) (h0:0 < s.stack.length) (hd:M.P.d≤k):
  Spec Tryz.prog 130 (aY [.ptr (0,9) 0, .v (.int .i64 (k:Int))] (ki M s dr se)) (be (.tup []) (jY M { s with vars:=s.vars.set k (s.top 0),stack:=s.pop 1 } dr se (2,8) (3,8) (5,8)) [(0,9),(1,9),(2,8),(3,8),(4,9),(5,8)] [(0,9),(1,9),(4,9)]):=by
 have hl:(s.vars.set k (s.top 0)).length=s.vars.length:=List.length_set
 have hg:=dz (s.vars.set k (s.top 0)) k (by rw [hl];exact hk)
 rw [List.getD_eq_getElem?_getD,List.getElem?_set_self hk] at hg
 refine Spec.ofNI Tryz.func130 rfl Tryz.ntmps130 rfl ?_
 refine aq ?_
 refine aQ (Le.incT (11,0) rfl) ?_
 refine sq (0,9) (fun c=> ∃ xs,c=Slot.obj (.box 171 xs)∧xs[54]? =some (.ref (1,9) 0 s.vars.length)) 8 [4,5,6,7,8,9,10,11] [(0,9),(1,9),(2,9),(11,0),(4,9),(5,9),(3,9)] ae ae rfl (aM rfl) (rfl:_=[_,_,_,_,_,_,_,_]) (rfl:_=[_,_]) (⟨_,rfl,rfl⟩) ?_
 refine eA (_,[]) (fun τ hτ=> aH _ (rfl:_=AV.ptr _ _)) ?_
 refine eD (rfl:_=[_]) ?_
 refine eA (_,[]) (fun τ hτ=> aJ _ rfl (by exact hτ.choose_spec.1)) ?_
 refine eD (rfl:_=[_,_]) ?_
 refine eA (_,[]) (fun τ hτ=> aD _ aa rfl (by exact hτ.choose_spec.1) rfl) ?_
 refine eD (rfl:_=[_,_,_]) ?_
 refine eA (_,[]) (fun τ hτ=> aD _ aa rfl (by exact hτ.choose_spec.1) rfl) ?_
 refine eD (rfl:_=[_,_,_,_]) ?_
 refine eA (_,[]) (fun τ hτ=> aG _ aa rfl (by exact hτ.choose_spec.1) (by exact hτ.choose_spec.2)) ?_
 refine eD (rfl:_=[_,_,_,_,_]) ?_
 refine eA (_,[]) (fun τ hτ=> aH _ (rfl:_=AV.v (.int _ _))) ?_
 refine eD (rfl:_=[_,_,_,_,_,_]) ?_
 refine eA (_,[]) (fun τ hτ=> aH _ (rfl:_=AV.ptr _ _)) ?_
 refine eD (rfl:_=[_,_,_,_,_,_,_]) ?_
 refine eA (_,[((0,9),_),((1,9),_),((2,9),_),((11,0),_),((4,9),_),((5,9),_),((3,9), .gone)]) (fun τ hτ=> (bk aa [((3,8),(11,0))] ar (bS M s dr se ab h0) ob tr tr rfl ae ae)) ?_
 refine eD (rfl:_=[_,_,_,_,_,_,_,_]) ?_
 refine qq ⟨⟨rfl,(by intro r hr c hc;simp only [List.mem_cons,List.not_mem_nil,or_false] at hr;rcases hr with rfl | rfl | rfl | rfl | rfl | rfl | rfl | rfl <;> simp at hc;subst hc;exact ⟨_,rfl,rfl⟩)⟩,?_⟩
 refine aj (fS _ _ aa rfl rfl rfl _ rfl ab (by exact (Nat.zero_add _).trans (Nat.mul_one _))) ?_
 refine aj (mG _ _ aa rfl rfl rfl rfl rfl (by rw [aU];exact hk) (kF s.vars k (s.top 0) hk)) ?_
 refine ai (am (aV rfl (bN rfl (aj (aJ _ rfl rfl) (bu rfl rfl rfl (bu rfl rfl rfl (cw rfl rfl rfl (aj (bo _ _ rfl rfl rfl) (ai (aS rfl (decide_eq_false ab) ?_))))))))))
 exact bA (et (.inl rfl) rfl (Le.outI [((2,8),(2,9)),((3,8),(11,0)),((5,8),(5,9))] [] (.tup rfl br) rfl rfl rfl trivial ⟨⟨rfl,⟨_,rfl, .box rfl (aB .sl (uD (uD (uD (uD (aB .v (aB .v (aB .sl (Ce (Ce (aB .v (aB (.fn rfl lz rfl br) (aB (cY rfl hl) lz)))))))))))))⟩,rfl⟩,⟨rfl,⟨_,rfl, .rowE rfl⟩,rfl⟩,⟨rfl,⟨_,rfl, .rowE rfl⟩,rfl⟩,⟨rfl,⟨_,rfl, .rowE rfl⟩,rfl⟩,⟨rfl,⟨_,rfl, .box rfl lz⟩,rfl⟩,⟨rfl,⟨_,rfl, .rowE rfl⟩,rfl⟩,trivial⟩ tr rfl))
end

section
variable (M:Mk) (s:Ms) (dr se:Int)
theorem Ao (ac st:ay) (k:Nat) (hk:k < 9):(HR M s dr se ac st)[44+k]? =some (.v (.int .i64 (M.nm k))):=by
 rcases k with _ | _ | _ | _ | _ | _ | _ | _ | _ | k
 all_goals first | rfl | omega
theorem ej (j k:Nat) (h:j+k < s.stack.length):({ s with stack:=s.pop k }:Ms).top j=s.top (j+k):=by
 unfold Ms.top Ms.pop
 simp only [List.length_take]
 rw [List.getD_eq_getElem?_getD,List.getD_eq_getElem?_getD,List.getElem?_take_of_lt ab]
 congr 2;omega
theorem eo (j k:Nat):({ s with stack:=s.pop k }:Ms).pop j=s.pop (j+k):=by
 unfold Ms.pop
 simp only [List.length_take,List.take_take]
 congr 1;omega
theorem wW (k:Nat) (hk:k < 9) (hs:s.stack.length≤90000):
  Spec Tryz.prog 133 (aY [.ptr (0,9) 0, .v (.int .i64 (k:Int))] (ki M s dr se)) (be (.tup []) (jY M { s with stack:=s.stack++[jK (M.nm k)] } dr se (2,8) (3,8) (5,8)) [(0,9),(1,9),(2,8),(3,8),(4,9),(5,8)] [(0,9),(1,9),(4,9)]):=by
 refine Spec.ofNI Tryz.func133 rfl Tryz.ntmps133 rfl ?_
 refine an (bN rfl (bN rfl (aV rfl (aj (aJ _ rfl rfl) (bu rfl rfl rfl (bu rfl rfl rfl (aj (em _ _ aa rfl rfl rfl k rfl ab (by exact congrArg (fun z=> 0+43+1+z) (Nat.mul_one k))) ?_)))))))
 refine aj (aG _ aa rfl rfl (by exact (congrArg (fun z=> (HR M s dr se (2,9) (3,9))[z]?) ab).trans (Ao M s dr se (2,9) (3,9) k hk))) ?_
 refine cu (Le.incT (12,0) rfl) ?_
 refine aj (bk aa [((3,8),(12,0))] ar (dJ M s dr se (M.nm k) ab) ob tr tr rfl ae ae) ?_
 exact aI (et (.inl rfl) rfl (Le.outI [((2,8),(2,9)),((3,8),(12,0)),((5,8),(5,9))] [] (.tup rfl br) rfl rfl rfl trivial ob tr rfl))
theorem xw (n:Nat) (hs:s.stack.length≤90000) (h0:0 < s.stack.length) (hc:s.top 0=0):
  Spec Tryz.prog 148 (aY [.ptr (0,9) 0, .v (.int .i64 (n:Int))] (ki M s dr se)) (be (.tup []) (jY M { s with stack:=s.pop 1,pc:=n } dr se (2,8) (3,8) (5,8)) [(0,9),(1,9),(2,8),(3,8),(4,9),(5,8)] [(0,9),(1,9),(4,9)]):=by
 refine Spec.ofNI Tryz.func148 rfl Tryz.ntmps148 rfl ?_
 refine am (bN rfl (cu (Le.incT (5,0) rfl) ?_))
 refine aj (bk aa [((3,8),(5,0))] ar (bS M s dr se ab h0) ob tr tr rfl ae ae) ?_
 refine aj (bH _ _ rfl rfl rfl) (ai (bR rfl (decide_eq_true hc) ?_))
 exact an (bN rfl (aV rfl (aj (aJ _ rfl rfl) (bu rfl rfl rfl (cF rfl rfl rfl rfl rfl rfl (aI (et (.inl rfl) rfl (Le.outI [((2,8),(2,9)),((3,8),(5,0)),((5,8),(5,9))] [] (.tup rfl br) rfl rfl rfl trivial ob tr rfl))))))))
theorem yg (n:Int) (hs:s.stack.length≤90000) (h0:0 < s.stack.length) (hc:s.top 0=0):
  Spec Tryz.prog 146 (aY [.ptr (0,9) 0, .v (.int .i64 n)] (ki M s dr se)) (be (.tup []) (jY M { s with stack:=s.pop 1++[1] } dr se (2,8) (3,8) (5,8)) [(0,9),(1,9),(2,8),(3,8),(4,9),(5,8)] [(0,9),(1,9),(4,9)]):=by
 rw [show (1:Int)=jK 1 from ah]
 refine Spec.ofNI Tryz.func146 rfl Tryz.ntmps146 rfl ?_
 refine am (bN rfl (cu (Le.incT (5,0) rfl) ?_))
 refine aj (bk aa [((3,8),(5,0))] ar (bS M s dr se ab h0) ob tr tr rfl ae ae) ?_
 refine aj (bH _ _ rfl rfl rfl) (ai (bR rfl (decide_eq_true hc) ?_))
 refine an (bN rfl (cu (Le.incT (8,0) rfl) ?_))
 refine aj (bk aa [((3,9),(5,0)),((3,8),(8,0))] ar (dJ M { s with stack:=s.pop 1 } dr se 1 (by have:=cb s 1;simp only;omega)) ob tr tr rfl ae ae) ?_
 exact aI (et (.inl rfl) rfl (Le.outI [((2,8),(2,9)),((3,8),(8,0)),((5,8),(5,9))] [] (.tup rfl br) rfl rfl rfl trivial ob tr rfl))
theorem xx (n:Nat) (hs:s.stack.length≤90000) (h0:0 < s.stack.length) (hc:s.top 0≠0):
  Spec Tryz.prog 148 (aY [.ptr (0,9) 0, .v (.int .i64 (n:Int))] (ki M s dr se)) (be (.tup []) (jY M { s with stack:=s.pop 1 } dr se (2,8) (3,8) (5,8)) [(0,9),(1,9),(2,8),(3,8),(4,9),(5,8)] [(0,9),(1,9),(4,9)]):=by
 refine Spec.ofNI Tryz.func148 rfl Tryz.ntmps148 rfl ?_
 refine am (bN rfl (cu (Le.incT (5,0) rfl) ?_))
 refine aj (bk aa [((3,8),(5,0))] ar (bS M s dr se ab h0) ob tr tr rfl ae ae) ?_
 refine aj (bH _ _ rfl rfl rfl) (ai (aS rfl (decide_eq_false hc) ?_))
 exact bA (et (.inl rfl) rfl (Le.outI [((2,8),(2,9)),((3,8),(5,0)),((5,8),(5,9))] [] (.tup rfl br) rfl rfl rfl trivial ob tr rfl))
theorem zD (n:Int) (hs:s.stack.length≤90000) (h0:0 < s.stack.length) (hc:s.top 0≠0):
  Spec Tryz.prog 146 (aY [.ptr (0,9) 0, .v (.int .i64 n)] (ki M s dr se)) (be (.tup []) (jY M { s with stack:=s.pop 1++[0] } dr se (2,8) (3,8) (5,8)) [(0,9),(1,9),(2,8),(3,8),(4,9),(5,8)] [(0,9),(1,9),(4,9)]):=by
 rw [show (0:Int)=jK 0 from ah]
 refine Spec.ofNI Tryz.func146 rfl Tryz.ntmps146 rfl ?_
 refine am (bN rfl (cu (Le.incT (5,0) rfl) ?_))
 refine aj (bk aa [((3,8),(5,0))] ar (bS M s dr se ab h0) ob tr tr rfl ae ae) ?_
 refine aj (bH _ _ rfl rfl rfl) (ai (aS rfl (decide_eq_false hc) ?_))
 refine an (bN rfl (cu (Le.incT (10,0) rfl) ?_))
 refine aj (bk aa [((3,9),(5,0)),((3,8),(10,0))] ar (dJ M { s with stack:=s.pop 1 } dr se 0 (by have:=cb s 1;simp only;omega)) ob tr tr rfl ae ae) ?_
 exact aI (et (.inl rfl) rfl (Le.outI [((2,8),(2,9)),((3,8),(10,0)),((5,8),(5,9))] [] (.tup rfl br) rfl rfl rfl trivial ob tr rfl))
theorem wj (n:Int) (hs:s.stack.length≤90000) (ha:s.acts.length≤90000) (h2:2≤s.stack.length):
  Spec Tryz.prog 153 (aY [.ptr (0,9) 0, .v (.int .i64 n)] (ki M s dr se)) (be (.tup []) (jY M { s with stack:=s.pop 2,acts:=s.acts++[{ k:=6,a:=s.top 1,b:=s.top 0 }] } dr se (2,8) (3,8) (5,8)) [(0,9),(1,9),(2,8),(3,8),(4,9),(5,8)] [(0,9),(1,9),(4,9)]):=by
 have h2x:=bS M { s with stack:=s.pop 1 } dr se (by have:=cb s 1;simp only;omega) (by have:=cb s 1;simp only;omega)
 rw [ej s 0 1 ab,eo] at h2x
 refine Spec.ofNI Tryz.func153 rfl Tryz.ntmps153 rfl ?_
 refine am (bN rfl (cu (Le.incT (6,0) rfl) ?_))
 refine aj (bk aa [((3,8),(6,0))] ar (bS M s dr se ab ab) ob tr tr rfl ae ae) ?_
 refine bc rfl (ai (an (bN rfl (bN rfl (cu (Le.incT (9,0) rfl) ?_)))))
 refine aj (bk aa [((3,9),(6,0)),((3,8),(9,0))] ar (h2x) ob tr tr rfl ae ae) ?_
 refine aV rfl (cu (Le.incT (11,0) rfl) ?_)
 refine aj (bk aa [((3,9),(9,0)),((2,8),(11,0))] ar (eR M { s with stack:=s.pop 2 } dr se 6 (s.top 1) (s.top 0) 0 0 (by simp only;omega)) ob tr tr rfl ae ae) ?_
 exact aI (et (.inl rfl) rfl (Le.outI [((2,8),(11,0)),((3,8),(9,0)),((5,8),(5,9))] [] (.tup rfl br) rfl rfl rfl trivial ob tr rfl))
end
end Go.Proofs.YtmjnackchaahbaaGreat

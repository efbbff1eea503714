/- part 14 -/
import Derived.Test.YtmjnackchaahbaaGreatNvZ13
set_option linter.unusedSimpArgs false
set_option linter.unusedVariables false
set_option maxHeartbeats 2000000
namespace Go.Proofs.YtmjnackchaahbaaGreat
open Go.RowKit

abbrev Au (up:Bool) (ver ep ck:Int) (ce pe vo tm:AV) (e:Nat→Int) (wt:Int):List AV:=[.v (.bool up), .v (.int .i64 ver), .v (.int .i64 ep), .v (.int .i64 ck),ce,pe,vo,tm, .v (.int .i64 (e 0)), .v (.int .i64 (e 1)), .v (.int .i64 (e 2)), .v (.int .i64 (e 3)), .v (.int .i64 (e 4)), .v (.int .i64 (e 5)), .v (.int .i64 (e 6)), .v (.int .i64 (e 7)), .v (.int .i64 (e 8)), .v (.int .i64 (e 9)), .v (.int .i64 (e 10)), .v (.int .i64 (e 11)), .v (.int .i64 (e 12)), .v (.int .i64 (e 13)), .v (.int .i64 (e 14)), .v (.int .i64 (e 15)), .v (.int .i64 (e 16)), .v (.int .i64 (e 17)), .v (.int .i64 (e 18)), .v (.int .i64 (e 19)), .v (.int .i64 (e 20)), .v (.int .i64 (e 21)), .v (.int .i64 (e 22)), .v (.int .i64 (e 23)), .v (.int .i64 (e 24)), .v (.int .i64 (e 25)), .v (.int .i64 (e 26)), .v (.int .i64 (e 27)), .v (.int .i64 (e 28)), .v (.int .i64 (e 29)), .v (.int .i64 (e 30)), .v (.int .i64 (e 31)), .v (.int .i64 (e 32)), .v (.int .i64 (e 33)), .v (.int .i64 (e 34)), .v (.int .i64 (e 35)), .v (.int .i64 (e 36)), .v (.int .i64 (e 37)), .v (.int .i64 (e 38)), .v (.int .i64 (e 39)), .v (.int .i64 (e 40)), .v (.int .i64 wt), .v (.int .i64 0), .v (.int .i64 0)]
theorem lX (up:Bool) (ver ep ck:Int) (ce pe vo tm:AV) (e:Nat→Int) (wt:Int) (h:Nat) (hh:h < 41):(Au up ver ep ck ce pe vo tm e wt)[8+h]? =some (.v (.int .i64 (e h))):=by
 rcases (show h=0∨h=1∨h=2∨h=3∨h=4∨h=5∨h=6∨h=7∨h=8∨h=9∨h=10∨h=11∨h=12∨h=13∨h=14∨h=15∨h=16∨h=17∨h=18∨h=19∨h=20∨h=21∨h=22∨h=23∨h=24∨h=25∨h=26∨h=27∨h=28∨h=29∨h=30∨h=31∨h=32∨h=33∨h=34∨h=35∨h=36∨h=37∨h=38∨h=39∨h=40 by omega) with rfl | rfl | rfl | rfl | rfl | rfl | rfl | rfl | rfl | rfl | rfl | rfl | rfl | rfl | rfl | rfl | rfl | rfl | rfl | rfl | rfl | rfl | rfl | rfl | rfl | rfl | rfl | rfl | rfl | rfl | rfl | rfl | rfl | rfl | rfl | rfl | rfl | rfl | rfl | rfl | rfl <;> rfl
theorem tn (up:Bool) (ver ep ck:Int) (ce pe vo tm:AV) (e:Nat→Int) (wt:Int) (h:Nat) (hh:h < 41) (x:Int):eO (Au up ver ep ck ce pe vo tm e wt) (8+h) [.v (.int .i64 x)]=Au up ver ep ck ce pe vo tm (kB e h x) wt:=by
 rcases (show h=0∨h=1∨h=2∨h=3∨h=4∨h=5∨h=6∨h=7∨h=8∨h=9∨h=10∨h=11∨h=12∨h=13∨h=14∨h=15∨h=16∨h=17∨h=18∨h=19∨h=20∨h=21∨h=22∨h=23∨h=24∨h=25∨h=26∨h=27∨h=28∨h=29∨h=30∨h=31∨h=32∨h=33∨h=34∨h=35∨h=36∨h=37∨h=38∨h=39∨h=40 by omega) with rfl | rfl | rfl | rfl | rfl | rfl | rfl | rfl | rfl | rfl | rfl | rfl | rfl | rfl | rfl | rfl | rfl | rfl | rfl | rfl | rfl | rfl | rfl | rfl | rfl | rfl | rfl | rfl | rfl | rfl | rfl | rfl | rfl | rfl | rfl | rfl | rfl | rfl | rfl | rfl | rfl <;> rfl
abbrev aP (s:Ns):Nat→Int:=fun k=> s.counts.getD k 0
abbrev QY (s:Ns) (tm:AV):List AV:=Au s.up s.ver s.epoch s.clock (.sl s.dk.cells.length (ba s.dk.cells)) (.sl s.dk.pend.length (eT s.dk.pend)) (.sl s.vol.length (ba s.vol)) tm (aP s) s.wait
abbrev PU (s:Ns):List AV:=QY s (.sl s.timers.length (ba s.timers))
abbrev ii (s:Ns):AV:= .agg (PU s)
structure fJ (s:Ns):Prop where
 c:s.dk.cells.length≤1000
 p:s.dk.pend.length≤1000
 v:s.vol.length≤1000
 t:s.timers.length≤1000
theorem gI (l:List Int) (h:l.length≤1000000):Spec Tryz.prog 117 (aI [.sl l.length (ba l)] []) (aA (.ref (0,8) 0 l.length) [((0,8), .row 3 1 (ba l))]):=by
 refine Spec.ofN Tryz.func117 rfl Tryz.ntmps117 rfl ?_
 refine aG (aj (aX _ ea) (go 4 ?_))
 refine aj (oV (6,0) _ _ aa rfl rfl _ rfl rfl ab rfl rfl) ?_
 refine go 5 ?_
 refine aj (Bz _ _ aa rfl rfl (by simp [jc]) (.sl (by rw [aq,Nat.mul_one])) rfl rfl) ?_
 exact am (aG (ij rfl (dZ rfl (am (au (cq (.inr rfl) rfl (.tmp mP) (Le.out [((0,8),(6,0))] [] (ca rfl rfl) rfl rfl rfl trivial ⟨⟨rfl,⟨_,rfl, .rowE (by rw [List.take_of_length_le (by rw [aq];omega),List.drop_of_length_le (by simp [jc]),List.append_nil])⟩,rfl⟩,trivial⟩)))))))
theorem GQ (l:List (Int×Int)) (h:l.length≤1000000) (h0:0 < l.length):Spec Tryz.prog 118 (aI [.sl l.length (eT l)] []) (aA (.sl l.length (eT l)) []):=by
 refine Spec.ofN Tryz.func118 rfl Tryz.ntmps118 rfl ?_
 refine aG (aj (aX _ ea) (am (aE (aG (gT rfl (aj (tF _ _ Tryz.underlying78 (.inl ⟨_,rfl⟩) h0 rfl) ?_))))))
 refine am (cP rfl rfl (cO (aG (aj (tL _ aa rfl) (gT rfl (aj (AP _ _ aa rfl (.sl (by rw [bC])) ab) ?_))))))
 exact Ee rfl (am (au (qW rfl rfl)))
theorem Gq:Spec Tryz.prog 118 (aI [.sl 0 (eT [])] []) (aA (.sl 0 (eT [])) []):=by
 refine Spec.ofN Tryz.func118 rfl Tryz.ntmps118 rfl ?_
 refine aG (aj (aX _ ea) (am (aE (aG (gT rfl (Ds (sR _ _ Tryz.underlying78 rfl rfl) ?_))))))
 rintro _ ⟨b4,rfl⟩
 refine am (ax rfl (fun hc4=> ?_) (fun hc4=> ?_))
 ·exact aG (aj (aX _ ea) (am (au (cq (.inr rfl) rfl (.tmp kM) (Le.out [] [] .nil rfl rfl rfl trivial trivial)))))
 refine cO (aG (aj (tL _ aa rfl) (gT rfl (aj (AP _ _ aa rfl (.sl rfl) ab) ?_))))
 exact Ee rfl (am (au (qW rfl rfl)))
theorem uV (l:List (Int×Int)) (h:l.length≤1000000):Spec Tryz.prog 118 (aI [.sl l.length (eT l)] []) (aA (.sl l.length (eT l)) []):=by
 by_cases h0:0 < l.length
 ·exact GQ l h h0
 obtain rfl:l=[]:=List.eq_nil_of_length_eq_zero ab
 exact Gq
set_option maxHeartbeats 1000000 in
theorem rt (s:Ns) (hs:fJ s):Spec Tryz.prog 86 (aI [ii s] []) (aA (.agg (QY s (.ref (1,8) 0 s.timers.length))) [((1,8), .row 3 1 (ba s.timers))]):=by
 have f1:=gI s.vol (by have:=hs.v;omega)
 have f2:=gI s.timers (by have:=hs.t;omega)
 have f3:=gI s.dk.cells (by have:=hs.c;omega)
 have f4:=uV s.dk.pend (by have:=hs.p;omega)
 refine Spec.ofN Tryz.func86 rfl Tryz.ntmps86 rfl ?_
 refine go 7 ?_
 refine aE (dA 14 [(7,0),(11,0),(16,0)] ?_)
 refine go 6 ?_
 refine aC (_,[((7,0),_)]) (fun τ=> (iE rfl aa [((0,8),(7,0))] ar (f1.toI) trivial tr tr rfl rfl ae ae)) ?_
 refine go 7 ?_
 refine aC (_,[((11,0),_)]) (fun τ=> (iE rfl aa [((0,8),(11,0))] ar (f2.toI) trivial tr tr rfl rfl ae ae)) ?_
 refine go 9 ?_
 refine aC (_,[((16,0),_)]) (fun τ=> (iE rfl aa [((0,8),(16,0))] ar (f3.toI) trivial tr tr rfl rfl ae ae)) ?_
 refine go 11 ?_
 refine aE ?_
 refine aB (σ':=an 28 [(1,_),(2,_)] [((1,0),_),((2,0),_),((7,0),_),((11,0),_),((16,0),_)] [] []) kp ?_
 refine go 4 ?_
 refine aj (ap aa al (f4) rfl rfl) ?_
 refine go 8 ?_
 exact au (cq (.inr rfl) rfl (.cellA aa rfl rfl rfl) (Le.out [((1,8),(11,0))] [(7,0),(16,0)] (.agg rfl (xF (ai (Jj rfl rfl rfl rfl) (ai .sl (ai (Jj rfl rfl rfl rfl) lz))))) rfl rfl rfl tr ob))
theorem rI (d:Dk) (h1:d.cells.length≤1000000) (h2:d.pend.length≤1000000) (ho:eX d):
  Spec Tryz.prog 115 (aI [mf d] []) (aA (.agg [.ref (0,8) 0 d.cells.length, .v (.slice none 0 0)]) [((0,8), .row 3 1 (ba d.view))]):=by
 have hd:=gH d h1 h2
 have ha:=iw d.cells d.pend h2 h1 ho
 refine Spec.ofN Tryz.func115 rfl Tryz.ntmps115 rfl ?_
 refine go 6 ?_
 refine aj (bM aa [((0,8),(5,0)),((1,8),(5,1))] ar (hd.toI) trivial tr ae) ?_
 refine go 3 ?_
 refine aF fun K3 hK3=> ?_
 refine aB (Le.frzB (ys:=eT d.pend) (3,0) 1 rfl rfl rfl rfl (by rw [List.drop_zero,oe]) (by rw [bC];omega)) ?_
 refine go 5 ?_
 refine aj (bM aa [((0,9),(5,0))] ar (ha) ob tr ae) ?_
 refine ay (hK3 _ ?_)
 refine go 8 ?_
 exact au (uo [((0,8),(5,0))])
theorem si (d:Dk) (h1:d.cells.length≤1000000) (h2:d.pend.length≤1000000) (ho:eX d):
  Spec Tryz.prog 82 (aI [mf d] []) (aA (.ref (0,8) 0 d.cells.length) [((0,8), .row 3 1 (ba d.view))]):=by
 have hs:=rI d h1 h2 ho
 refine Spec.ofN Tryz.func82 rfl Tryz.ntmps82 rfl ?_
 refine aG (aj (dX (1,0) _ rfl rfl) (aj (aX _ ea) (go 3 ?_)))
 refine aj (bM aa [((0,8),(4,0))] ar (hs.toI) trivial tr ae) ?_
 refine go 3 ?_
 exact au (lQ [((0,8),(4,0))])
theorem lM (a b:List Int):ba a++ba b=ba (a++b):=by simp [ba]
theorem qJ (s:Ns) (hs:fJ s) (ho:eX s.dk):Spec Tryz.prog 47 (aI [ii s] []) (aA (.sl (s.dk.view++s.vol).length (ba (s.dk.view++s.vol))) []):=by
 have hc:=hs.c
 have hp:=hs.p
 have hv:=hs.v
 have hw:=si s.dk ab ab ho
 have hl:s.dk.view.length=s.dk.cells.length:=dq _ _
 have hl2:s.dk.cells.length+s.vol.length=(s.dk.view++s.vol).length:=by rw [List.length_append,hl]
 refine Spec.ofN Tryz.func47 rfl Tryz.ntmps47 rfl ?_
 refine aG (aj (dX (1,0) _ rfl rfl) (aj (aX _ ea) (am (aE (lK 6 [3,4,5,6,7,8] [(5,0),(5,0),(8,0)] ae ae rfl (rfl:_=[_,_,_,_,_,_]) (rfl:_=[_]) ?_)))))
 refine bn (_,[]) (fun τ=> dT _ aa rfl rfl rfl) ?_
 refine bo (rfl:_=[_]) ?_
 refine bn (_,[]) (fun τ=> gd _ aa rfl rfl rfl rfl) ?_
 refine bo (rfl:_=[_,_]) ?_
 refine bn (_,[((5,0),_)]) (fun τ=> (bu aa [((0,8),(5,0))] ar (hw.toI) trivial tr tr rfl rfl ae ae)) ?_
 refine bo (rfl:_=[_,_,_]) ?_
 refine bn (_,[]) (fun τ=> dT _ aa rfl rfl rfl) ?_
 refine bo (rfl:_=[_,_,_,_]) ?_
 refine bn (_,[]) (fun τ=> bK _ aa rfl rfl xm) ?_
 refine bo (rfl:_=[_,_,_,_,_]) ?_
 refine bn (_,[((5,0), .gone),((8,0), .gone)]) (fun τ=> Ay (8,0) _ _ aa rfl rfl (by rw [aq,hl,Nat.mul_one]) (.sl (by rw [aq,Nat.mul_one])) ab rfl rfl rfl (lM _ _) hl2) ?_
 refine bo (rfl:_=[_,_,_,_,_,_]) ?_
 refine jM ⟨⟨rfl,by kernel_rfl,by kernel_rfl⟩,?_⟩
 exact Ee rfl (am (au (qW rfl rfl)))
end Go.Proofs.YtmjnackchaahbaaGreat

set_option maxHeartbeats 2000000
namespace Go.Proofs.YtmjnackchaahbaaGreat
open Go.RowKit

theorem lh (s:Ns) (a:Na) (h:Nat) (hh:h < 41) (h1:a.draws.length≤1000) (h2:a.keeps.length≤1000):
  Spec Tryz.prog 52 (aI [ii s,vz a, .v (.int .i64 (h:Int))] []) (aA (.ptr (4,8) 0) [((4,8), .box 103 [.v (.int .i64 1), .v (.int .i64 (h:Int)), .v (.int .i64 (aP s h)), .sl (eD 1 (h:Int) (aP s h) a.tick a.draws a.keeps).length (nD (eD 1 (h:Int) (aP s h) a.tick a.draws a.keeps)), .v (.slice none 0 0)])]):=by
 have hg:=lX s.up s.ver s.epoch s.clock (.sl s.dk.cells.length (ba s.dk.cells)) (.sl s.dk.pend.length (eT s.dk.pend)) (.sl s.vol.length (ba s.vol)) (.sl s.timers.length (ba s.timers)) (aP s) s.wait h hh
 have ha:=ir 1 (h:Int) (aP s h) a h1 h2
 generalize eD 1 (h:Int) (aP s h) a.tick a.draws a.keeps=A at ha
 refine Spec.ofN Tryz.func52 rfl Tryz.ntmps52 rfl ?_
 refine go 9 ?_
 refine aj (bO _ _ aa rfl rfl rfl h rfl ab (by exact congrArg (fun z=> 0+8+z) (Nat.mul_one h))) ?_
 refine aj (bK _ aa rfl rfl (by exact (congrArg (fun z=> (PU s)[z]?) (show 0+8+h=8+h by omega)).trans hg)) ?_
 refine go 4 ?_
 refine aE ?_
 refine aB (σ':=an 20 [(4,_),(7,_)] [((4,0),_),((7,0),_)] [] []) kp ?_
 refine dA 7 [(19,0)] ?_
 refine go 6 ?_
 refine aC (_,[]) (fun τ=> (ap aa al (ha) rfl rfl)) ?_
 refine go 1 ?_
 refine aC (_,[]) (fun τ=> gl _ aa rfl (by exact (rfl:_=some [AV.v _,AV.v _,AV.v _,AV.sl _ _,AV.v _]))) ?_
 refine go 1 ?_
 refine aC (_,[((19,0),_)]) (fun τ=> dX (19,0) _ rfl rfl) ?_
 refine go 5 ?_
 exact au (cq (.inr rfl) rfl (.tmp uM) (Le.out [((4,8),(19,0))] [] (bv rfl) rfl rfl rfl trivial ob))
theorem sf:Spec Tryz.prog 41 (aI [] []) (aA (ii {}) []):=by
 refine Spec.ofN Tryz.func41 rfl Tryz.ntmps41 rfl ?_
 refine go 7 ?_
 exact au (uo [])
theorem Es (x:Int):Spec Tryz.prog 228 (aI [.v (.int .i64 x)] []) (aA (.v (.bool false)) []):=by
 refine Spec.ofN Tryz.func228 rfl Tryz.ntmps228 rfl ?_
 refine go 6 ?_
 refine aj (cV (r:=false) _ _ rfl rfl (bne_self_eq_false _)) ?_
 exact gn rfl (am (au (eb rfl rfl)))
theorem zZ (x:Int):Spec Tryz.prog 208 (aI [.v (.int .i64 x)] []) (aA (.v (.bool false)) []):=by
 refine Spec.ofN Tryz.func208 rfl Tryz.ntmps208 rfl ?_
 refine go 6 ?_
 refine aj (cV (r:=false) _ _ rfl rfl (bne_self_eq_false _)) ?_
 exact gn rfl (am (au (eb rfl rfl)))
theorem zp (a b:Int):Spec Tryz.prog 207 (aI [.v (.int .i64 a), .v (.int .i64 b)] []) (aA (.v (.bool (decide (a < b)))) []):=by
 refine Spec.ofN Tryz.func207 rfl Tryz.ntmps207 rfl ?_
 refine aG (gn rfl (am (aG (bV rfl (aj (ap aa al (Es a) rfl rfl) ?_)))))
 refine go 8 ?_
 refine aZ rfl rfl (cT (r:=decide (a < b)) _ _ rfl rfl rfl) ?_
 refine go 3 ?_
 exact au (eb rfl rfl)
theorem kr (l:List Int) (k:Int) (hl:l.length≤1):
  Spec Tryz.prog 184 (aI [.sl l.length (ba l), .v (.int .i64 k)] []) (aA (.tup [.v (.int .i64 (if 0 < l.length∧l.getD 0 0 < k then 1 else 0)), .v (.bool (decide (0 < l.length∧l.getD 0 0=k)))]) []):=by
 have hg:=fun h:0 < l.length=> cw l 0 h
 refine Spec.ofN Tryz.func184 rfl Tryz.ntmps184 rfl ?_
 refine go 14 ?_
 refine aF fun K4 hK4=> ?_
 refine aH ?_
 refine aS (α:=Nat×Nat) (fun z=> z.1≤z.2∧z.2≤l.length∧(0 < z.1→l.getD 0 0 < k)∧(z.2 < l.length→ ¬ l.getD 0 0 < k)) 54 [(0,_),(1,_),(6,_)] [] (fun z=> [(7, .v (.int .i64 (z.1:Int))),(8, .v (.int .i64 (z.2:Int)))]) (fun z=> []) [] [] (fun z=> z.2 - z.1) (0,l.length) ?_ (kj [] [] []) ?_
 ·exact ⟨Nat.zero_le _,Nat.le_refl _,fun h=> absurd h (Nat.lt_irrefl _),fun h=> absurd h (Nat.lt_irrefl _)⟩
 intro z hz
 obtain ⟨i,j⟩:=z
 simp only at hz ⊢
 obtain ⟨hz1,hz2,hz3,hz4⟩:=hz
 refine aF fun K5 hK5=> ?_
 refine go 5 ?_
 refine ax rfl (fun hc15=> ?_) (fun hc15=> ?_)
 ·obtain rfl:i=0:=by omega
  obtain rfl:j=1:=by omega
  have hls:=zp (l.getD 0 0) k
  refine aR (hK5 _ ?_)
  refine aH (aG (bV rfl (bV rfl (aj (eI (r:=1) _ _ rfl rfl rfl) ?_))))
  refine aj (tu _ Tryz.underlying3 Tryz.underlying243 rfl (Mv ab)) ?_
  refine aj (HJ _ _ rfl rfl ab rfl) ?_
  refine aj (tu _ Tryz.underlying243 Tryz.underlying3 rfl rfl) (go 5 ?_)
  refine aj (aQ _ _ aa rfl rfl 0 rfl ab (by rw [aq];omega) rfl) ?_
  refine aj (bl _ aa rfl (by exact hg ab) rfl) ?_
  refine bV rfl (aj (ap aa al (hls) rfl rfl) ?_)
  refine am (ax rfl (fun hc27=> ?_) (fun hc27=> ?_))
  ·refine aB (σ':=an 54 [(0,_),(1,_),(6,_),(8,_),(9,_)] [] [] []) kp ?_
   refine aD (bV rfl (aj (eI _ _ rfl rfl rfl) (cp rfl (ay (⟨(1,1),?_,?_,?_⟩)))))
   ·exact ⟨Nat.le_refl _,hz2,fun _=> hc27,fun h=> absurd h ab⟩
   ·exact kj [] [] []
   simp only;omega
  refine aB (σ':=an 54 [(0,_),(1,_),(6,_),(7,_),(9,_)] [] [] []) kp ?_
  refine aD (bV rfl (cp rfl (ay (⟨(0,0),?_,?_,?_⟩))))
  ·exact ⟨Nat.le_refl _,Nat.zero_le _,fun h=> absurd h (Nat.lt_irrefl _),fun _=> by omega⟩
  ·exact kj [] [] []
  simp only;omega
 have hI:(i:Int)=if 0 < l.length∧l.getD 0 0 < k then 1 else 0:=by split <;> omega
 refine aW (id (hK4 _ ?_))
 refine go 6 ?_
 refine cj (fun hg35=> ?_) (fun hg35=> ?_)
 ·obtain rfl:i=0:=by omega
  refine go 2 ?_
  refine aZ rfl rfl (aQ _ _ aa rfl rfl 0 rfl ab (by rw [aq];omega) rfl) ?_
  refine aZ rfl rfl (bl _ aa rfl (by exact hg ab) rfl) ?_
  refine go 1 ?_
  refine aZ rfl rfl (bb (r:=decide (l.getD 0 0=k)) _ _ rfl rfl (by rw [Bool.eq_iff_iff];simp)) ?_
  refine go 1 ?_
  refine cj (fun hg42=> ?_) (fun hg42=> ?_)
  ·refine go 14 ?_
   exact au (km (.inr rfl) rfl (.tmp ry) (.tmp vV) (Le.out [] [] (.tup rfl (ai (aN hI.symm) (ai (jC (decide_eq_true ⟨by omega,hg42⟩)) aK))) rfl rfl rfl trivial trivial))
  refine go 2 ?_
  refine aZ rfl rfl (aQ _ _ aa rfl rfl 0 rfl ab (by rw [aq];omega) rfl) ?_
  refine aZ rfl rfl (bl _ aa rfl (by exact hg ab) rfl) ?_
  refine aZ rfl rfl (ap aa al (zZ (l.getD 0 0)) rfl rfl) ?_
  refine go 9 ?_
  exact au (km (.inr rfl) rfl (.tmp ry) (.tmp vV) (Le.out [] [] (.tup rfl (ai (aN hI.symm) (ai (jC (decide_eq_false (fun h=> hg42 h.2))) aK))) rfl rfl rfl trivial trivial))
 refine go 21 ?_
 exact au (km (.inr rfl) rfl (.tmp ry) (.tmp vV) (Le.out [] [] (.tup rfl (ai (aN hI.symm) (ai (jC (decide_eq_false (fun h=> by omega))) aK))) rfl rfl rfl trivial trivial))
theorem sI (k:Int):Spec Tryz.prog 185 (aL [.ref (0,9) 0 0, .v (.int .i64 0), .sl 1 (ba [k])] [((0,9), .row 3 1 [])]) (aO (.ref (0,8) 0 1) [((0,8), .row 3 1 (ba [k]))] [(0,8)] []):=by
 refine Spec.ofNI Tryz.func185 rfl Tryz.ntmps185 rfl ?_
 refine aG (aj (aX _ ea) (am (aG (ij rfl (bV rfl (aj (ej _ _ _ aa rfl rfl 0 0 (.lit rfl rfl) .dflt ab ab rfl rfl) ?_))))))
 refine go 25 ?_
 refine aE ?_
 refine aB (σ':=an 95 [(0,_),(2,_)] [((0,9),_)] [(0,9)] []) kp ?_
 refine aD (ij rfl (gT rfl (bA (Le.incT (25,0) rfl) ?_)))
 refine aj (kA (b:=true) (25,0) _ _ aa rfl rfl rfl (.sl rfl) ab rfl rfl rfl rfl rfl) ?_
 exact dZ rfl (am (au (cq (.inr rfl) rfl (.tmp mP) (Le.outI [((0,8),(25,0))] [] (ca rfl rfl) rfl rfl rfl trivial ob trivial rfl))))
end Go.Proofs.YtmjnackchaahbaaGreat

set_option maxHeartbeats 2000000
namespace Go.Proofs.YtmjnackchaahbaaGreat
open Go.RowKit

theorem Id {ρ:az→az} {σ:St} {F:az→Bool} {id:az} {e:TypeId} {n m:Nat} {xs:List PV} {r:List Int} (hid:σ.ob id= .obj (.row e 1 xs)) (hF:F id=true) (hm:n=m) (hx:xs=ba r) (hn:m=r.length):Lv ρ σ F (.sl m (ba r)) (.ref id 0 n):=by
 subst hm;subst hx
 exact dI hid hF (by rw [aq,Nat.mul_one];exact hn) rfl
def ym (t:Tl) (ks:List Int) (m:Nat):List PV:=(List.range m).flatMap fun (i:Nat)=> vT t 3 (i:Int) 2 (ks.getD i 0)
theorem uG (t:Tl) (ks:List Int) (m:Nat):ym t ks m++vT t 3 (m:Int) 2 (ks.getD m 0)=ym t ks (m+1):=by
 unfold ym;rw [List.range_succ,List.flatMap_append];simp
theorem yo (t:Tl) (ks:List Int) (m:Nat):(ym t ks m).length=m*7:=by
 unfold ym
 rw [gB (fun (i:Nat)=> vT t 3 (i:Int) 2 (ks.getD i 0)) 7 (fun _=> rfl),List.length_range]
theorem pL (k:Nat) (ks:List Int):fh (k+1) ks=fh k ks++[decide (ks.getD k 0=1)]:=by unfold fh;rw [List.range_succ,List.map_append];rfl
theorem eR (k:Nat) (ks:List Int):(fh k ks).length=k:=by simp [fh]
theorem qU (l:List Bool) (x:Bool):xo l++[.v (.bool x)]=xo (l++[x]):=by simp [xo]
theorem pz (s:Ns) (h:Nat) (hh:h < s.counts.length) (x:Int):kB (aP s) h x=fun k=> (s.counts.set h x).getD k 0:=by
 funext k
 unfold kB
 by_cases e:k=h
 ·subst e;rw [if_pos rfl,List.getD_eq_getElem?_getD,List.getElem?_set_self hh];rfl
 rw [if_neg e,List.getD_eq_getElem?_getD,List.getElem?_set_ne (Ne.symm e),← List.getD_eq_getElem?_getD]
end Go.Proofs.YtmjnackchaahbaaGreat

set_option maxHeartbeats 2000000
namespace Go.Proofs.YtmjnackchaahbaaGreat
open Go.RowKit

theorem yT {P:Program} {σ:St} {o:Oper} {f:FuncId} {avs:List AV} (hE:EntersAt P o σ f avs) {args:List AV} {x y:Value} (sp:Spec P f (aI args []) (aA (.tup [.v x, .v y]) []))
  (ha:ey σ (fun _=> true) avs args) (hp:AV.pures args=true):ik P o σ (σ.put o.dst (.tup [.v x, .v y])):=by
 intro K ι S a w R
 obtain ⟨vs,hrun,hvs,hrep⟩:=hE K ι S a w R
 have R1:=R.args ha hp hvs hrep
 refine hU hrun (sp _ _ _ _ w rfl rfl R1) ?_
 rintro e w' ⟨v,ι',S',rfl,R2⟩
 refine ⟨v,rfl,?_⟩
 have hb:Below w.heap.size w w':=⟨R2.keeps.os,R2.keeps.tape,R2.keeps.output,R2.keeps.size,fun g hg=> R2.keeps.block g hg (by simp)⟩
 have R3:=R.gen (ι':=ι) (S':=S) (w':=w') (ob':=σ.ob) (inc':=σ.inc) (fun _=> False) (.of_below hb) (fun _ _=> rfl) (fun _ _=> rfl) (fun _ _=> rfl) (fun _ h=> h) (fun g h=> h)
  (fun g h=> .inl h) (fun g h=> Nat.lt_of_lt_of_le (R.Slt g h) hb.size)
  (fun _ _ h=> h.elim) (fun _ _ h=> h.elim) (fun _ _ h=> h.elim) (fun _ _ _ _ _ h=> h.elim) (fun _ _ _ h=> h.elim) (fun _ _ _ h=> h.elim)
 refine ⟨ι,_,R3.put o.dst (av:= .tup [.v x, .v y]) ?_ fun id hi=> absurd hi (lE _ rfl)⟩
 have:=R2.fr 0 (by simp [aA])
 simp only [aA,Nat.beq_refl,cond_true] at this
 have:=(by simpa using this:Rep ι' S' w' (.tup [.v x, .v y]) v)
 cases this with
 | tup h1 h=>
  refine .tup h1 fun j a hj=> ?_
  have hr:=h j a hj
  match j,hj with
  | 0,hj=> cases hj;rw [hr.toV];exact .v
  | 1,hj=> cases hj;rw [hr.toV];exact .v
theorem ox {P:Program} {σ:St} {dd:Option Tmp} {ty:TypeId} {f:FuncId} {xs:Array Operand} {ats:Array TypeId} (C:bU P f) {args:List AV} {x y:Value} (ha:ey σ (fun _=> true) (xs.toList.map σ.eval) args) (sp:Spec P f (aI args []) (aA (.tup [.v x, .v y]) []))
  (hp:AV.pures args=true):Stp P dd (.call { callee:= .value (.func f),args:=xs,argTypes:=ats }) ty σ (σ.put dd (.tup [.v x, .v y])):=fun o hd ho ht=> by subst hd;exact yT (.fnc ho C) sp ha hp
structure Cz where
 a:Int
 b:Int
 c:Int
def Nw (c:Cz) (i:Nat) (x:Ac):List PV:=[.v (.int .i64 c.a), .v (.int .i64 c.b), .v (.int .i64 c.c), .v (.int .i64 (i:Int)), .v (.int .i64 0), .v (.int .i64 x.a), .v (.int .i64 x.b), .v (.int .i64 x.c), .v (.int .i64 x.d)]
def xI (c:Cz) (l:List Ac):List PV:=(List.range l.length).flatMap fun i=> Nw c i (mm l i)
theorem dQ (c:Cz) (l:List Ac):(xI c l).length=l.length*9:=by
 unfold xI
 rw [gB (fun i=> Nw c i (mm l i)) 9 (fun _=> rfl),List.length_range]
theorem vu (c:Cz) (l:List Ac) (x:Ac):xI c l++Nw c l.length x=xI c (l++[x]):=by
 unfold xI
 rw [List.length_append,List.length_singleton,List.range_succ,List.flatMap_append]
 congr 1
 ·unfold List.flatMap
  congr 1
  apply List.map_congr_left
  intro i hi
  have hi:=List.mem_range.1 hi
  have e:mm (l++[x]) i=mm l i:=by unfold mm;rw [List.getD_eq_getElem?_getD,List.getD_eq_getElem?_getD,List.getElem?_append_left hi]
  rw [e]
 have e:mm (l++[x]) l.length=x:=by unfold mm;rw [List.getD_eq_getElem?_getD,List.getElem?_append_right (Nat.le_refl _),Nat.sub_self];rfl
 simp [e]
structure Ot where
 vars:List Int
 acts:List Ac
 steps:Int
 spent:Bool
 cov:List Int
abbrev QU (c:Cz) (r:Nr) (o:Ot) (se fa ac:az):List AV:=[.v (.int .i64 c.a), .v (.int .i64 c.b), .v (.int .i64 c.c), .ref se 0 r.sent.length, .v (.bool r.repl), .v (.int .i64 r.value), .ref fa 0 r.fails.length, .sl o.vars.length (ba o.vars), .ref ac 0 o.acts.length, .v (.int .i64 o.steps), .v (.bool o.spent), .sl o.cov.length (ba o.cov)]
abbrev Tr (c:Cz) (o:Ot) (s:Ns) (r:Nr) (tm se fa:az):List (az×Cells):=[(tm, .row 3 1 (ba s.timers)),((2,9), .box 96 (QU c r o se fa (5,9))),(se, .row 117 9 (xI c r.sent)),(fa, .row 3 1 (ba r.fails)),((5,9), .row 57 5 (pt o.acts))]
section
variable (c:Cz) (o:Ot) (s:Ns) (r:Nr) (x y z w:Int)
end
end Go.Proofs.YtmjnackchaahbaaGreat

set_option maxHeartbeats 2000000
namespace Go.Proofs.YtmjnackchaahbaaGreat
def TmC (c:List et) (t:Int):Bool:=decide (0≤t∧t < 8) && c.all fun x=> (decide (x.op≠ .timer) || decide (x.n=t)) && (decide (x.op≠ .cancel) || decide (x.n≠t))
structure wR (t:Int) (a:Ac):Prop where
 kd:1≤a.k∧a.k≤7
 tm:a.k=4→a.a=t
 cn:a.k=5→a.a≠t
theorem FB {K:Cx} {x:et} {s:Ms} {t:Int} (h1:x.op= .timer→x.n=t) (h2:x.op= .cancel→x.n≠t) (h: ∀ a∈s.acts,wR t a): ∀ a∈(bS K x s).acts,wR t a:=by
 have app: ∀ (b:Ac),wR t b→ ∀ a∈s.acts++[b],wR t a:=fun b hb a ha=> by
  rcases List.mem_append.1 ha with ha | ha
  ·exact h a ha
  simp at ha;subst ha;exact hb
 unfold bS
 cases ho:x.op <;> simp only
 case setVar=>
  split
  ·exact app _ ⟨by simp,fun e=> by simp at e,fun e=> by simp at e⟩
  exact h
 case draw=> split <;> exact h
 case send=>
  split
  ·exact app _ ⟨by simp,fun e=> by simp at e,fun e=> by simp at e⟩
  exact h
 case timer=> exact app _ ⟨by simp,fun _=> h1 ho,fun e=> by simp at e⟩
 case cancel=> exact app _ ⟨by simp,fun e=> by simp at e,fun _=> h2 ho⟩
 case sync=> exact app _ ⟨by simp,fun e=> by simp at e,fun e=> by simp at e⟩
 case reply=> exact app _ ⟨by simp,fun e=> by simp at e,fun e=> by simp at e⟩
 case fail=> exact app _ ⟨by simp,fun e=> by simp at e,fun e=> by simp at e⟩
 all_goals exact h
theorem xY {c:List et} {t:Int} (h:TmC c t=true) (i:Nat):((c.getD i { op:= .stop }).op= .timer→(c.getD i { op:= .stop }).n=t)∧((c.getD i { op:= .stop }).op= .cancel→(c.getD i { op:= .stop }).n≠t):=by
 unfold TmC at h
 rw [Bool.and_eq_true,List.all_eq_true] at h
 by_cases hi:i < c.length
 ·have e:c.getD i { op:= .stop }=c[i]:=by rw [List.getD_eq_getElem?_getD,List.getElem?_eq_getElem hi];rfl
  rw [e]
  have:=h.2 _ (List.getElem_mem hi)
  simp only [Bool.and_eq_true,Bool.or_eq_true,decide_eq_true_eq] at this
  exact ⟨fun e=> (this.1.resolve_left fun h=> h e),fun e=> (this.2.resolve_left fun h=> h e)⟩
 have e:c.getD i { op:= .stop }={ op:= .stop }:=by rw [List.getD_eq_getElem?_getD,List.getElem?_eq_none ab];rfl
 rw [e];exact ⟨fun e=> (by cases e),fun e=> (by cases e)⟩
theorem If {K:Cx} {t:Int} (hc:TmC K.code t=true) (k:Nat) (s:Ms) (h: ∀ a∈s.acts,wR t a): ∀ a∈(jf K k s).acts,wR t a:=
 jb (I:=fun s=> ∀ a∈s.acts,wR t a) (fun s h _=> FB (xY hc s.pc).1 (xY hc s.pc).2 h) k s h
theorem qh {p:Pg} {t:Int} (hc:TmC p.c t=true) (h:Nat) (names vars ans:List Int): ∀ a∈(fT p h names vars ans).acts,wR t a:=by
 unfold fT
 split
 ·exact fun a ha=> by simp at ha
 exact If hc 500 _ fun a ha=> by simp [cQ] at ha
abbrev pE (t:Int) (l:List Int):Prop:=l=[]∨l=[t]
theorem TmC.rg {c:List et} {t:Int} (h:TmC c t=true):0≤t∧t < 8:=by
 unfold TmC at h
 rw [Bool.and_eq_true] at h
 exact of_decide_eq_true h.1
theorem Nj {P:Int→Prop} (h:P 0∧P 1∧P 2∧P 3∧P 4∧P 5∧P 6∧P 7) {t:Int} (ht:0≤t∧t < 8):P t:=by
 obtain ⟨h0,h1,h2,h3,h4,h5,h6,h7⟩:=h
 have:t=0∨t=1∨t=2∨t=3∨t=4∨t=5∨t=6∨t=7:=by omega
 rcases this with h | h | h | h | h | h | h | h <;> (subst h;assumption)
theorem xM {t:Int} (ht:0≤t∧t < 8) {l:List Int} (h:pE t l):rX l t true=[t]:=by
 rcases h with h | h
 ·subst h;exact Nj (P:=fun t=> rX [] t true=[t]) ah ht
 subst h;exact Nj (P:=fun t=> rX [t] t true=[t]) ah ht
theorem xq {t u:Int} (ht:0≤t∧t < 8) (hu:u≠t) {l:List Int} (h:pE t l):rX l u false=l:=by
 have e:rX l u false=((List.range 8).map fun (i:Nat)=> (i:Int)).filter fun i=> decide (i∈l):=by
  unfold rX
  refine List.filter_congr fun i _=> ?_
  split
  ·rename_i hi
   subst hi
   rcases h with h | h
   ·subst h;rfl
   subst h;exact (decide_eq_false (by simpa using hu)).symm
  rfl
 rw [e]
 rcases h with h | h
 ·subst h;rfl
 subst h;exact Nj (P:=fun t=> (((List.range 8).map fun (i:Nat)=> (i:Int)).filter fun i=> decide (i∈[t]))=[t]) ah ht
theorem vJ {t:Int} (ht:0≤t∧t < 8) {q:Ns×Nr} {a:Ac} (ha:wR t a) (h:pE t q.1.timers):pE t (dj q a).1.timers:=by
 unfold dj
 split
 ·exact h
 split
 ·exact h
 split
 ·rename_i h4
  show pE t (rX q.1.timers a.a true)
  rw [ha.tm h4,xM ht h]
  exact .inr rfl
 split
 ·rename_i h5
  show pE t (rX q.1.timers a.a false)
  rw [xq ht (ha.cn h5) h]
  exact h
 split
 ·exact h
 split
 ·split <;> exact h
 split <;> exact h
theorem Hp {s:Ns} {l:List Int} (h:l=s.timers):{ s with timers:=l }=s:=by subst h;rfl
end Go.Proofs.YtmjnackchaahbaaGreat

set_option maxHeartbeats 2000000
namespace Go.Proofs.YtmjnackchaahbaaGreat
open Go.RowKit

abbrev Qo (s:Ns) (h:Nat) (ck:Int) (vol:List Int):Ns:={ s with clock:=ck,counts:=s.counts.set h (s.counts.getD h 0+1),vol:=vol }
abbrev co (s:Ns) (h:Nat) (ck:Int) (P:Pg) (R:Ms) (k:Nat):Ns×Nr:=(R.acts.take k).foldl dj (Qo s h ck (R.vars.drop P.d),{})
abbrev JV (R:Ms):Ot:=⟨R.vars,R.acts,(R.steps:Int), !R.fin,fz (kQ R.cov)⟩
abbrev KE (nm:List Int):AV:= .agg [.v (.slice none 0 0), .v (.int .i64 (nm.getD 0 0)), .v (.int .i64 (nm.getD 1 0)), .v (.int .i64 (nm.getD 2 0)), .v (.int .i64 (nm.getD 3 0)), .v (.int .i64 (nm.getD 4 0)), .v (.int .i64 (nm.getD 5 0)), .v (.int .i64 (nm.getD 6 0)), .v (.int .i64 (nm.getD 7 0)), .v (.int .i64 (nm.getD 8 0))]
abbrev SW (c:Cz) (R:Ms) (q:Ns×Nr) (t:Tl) (n:Nat) (L:List PV):List (az×Cells):=[((1,8), .row 3 1 (ba q.1.timers)),((2,8), .row 57 5 (pt R.acts)),((3,8), .row 117 9 (xI c q.2.sent)),((6,8), .row 3 1 (ba q.2.fails))]++vR t n L (5,8)
end Go.Proofs.YtmjnackchaahbaaGreat

set_option maxHeartbeats 2000000
namespace Go.Proofs.YtmjnackchaahbaaGreat
open Go.RowKit

def mh (p:Pg) (h:Nat) (names vars ans:List Int):Ms:=if p.e h < 0 then { vars:=vars,pc:=0,fin:=true } else jf ⟨p.c,p.d,names,ans⟩ 500 (cQ vars (p.e h).toNat)
theorem pw (p:Pg) (h:Nat) (names vars ans:List Int):(mh p h names vars ans).acts=(fT p h names vars ans).acts∧(mh p h names vars ans).vars=(fT p h names vars ans).vars∧(mh p h names vars ans).asked=(fT p h names vars ans).asked:=by
 unfold mh fT
 split <;> exact ⟨rfl,rfl,rfl⟩
set_option maxHeartbeats 2000000 in
theorem sU (M:Mk) (h:Nat) (hh:h < 40) (he:M.P.e h < 0) (h1:M.iv.length≤1000) (R:Ms) (hR:R={ vars:=M.iv,pc:=0,fin:=true }):
  Spec Tryz.prog 59 (aL [fY M.P, .v (.int .i64 (h:Int)), .agg [.sl M.iv.length (ba M.iv), .v (.int .i64 (M.nm 0)), .v (.int .i64 (M.nm 1)), .v (.int .i64 (M.nm 2)), .v (.int .i64 (M.nm 3)), .v (.int .i64 (M.nm 4)), .v (.int .i64 (M.nm 5)), .v (.int .i64 (M.nm 6)), .v (.int .i64 (M.nm 7)), .v (.int .i64 (M.nm 8))],zX (6,9)] (JN M [] (5,9))) (aO (.agg [.sl R.vars.length (ba R.vars), .ref (2,8) 0 R.acts.length, .v (.int .i64 (R.steps:Int)), .v (.bool (!R.fin)), .sl (fz (kQ R.cov)).length (ba (fz (kQ R.cov)))]) (((2,8), .row 57 5 (pt R.acts))::JN M R.asked (5,8)) [(2,8),(4,9),(5,8),(6,9)] [(4,9),(6,9)]):=by
 subst hR
 have hsk:fz (kQ [])=[]:=by simp [fz,kQ]
 have hcl:=mB M.iv ab
 have hg:=nh M.P.c.length (inl M.P.c) M.P.e (M.P.d:Int) (M.P.v:Int) h hh
 refine Spec.ofNI Tryz.func59 rfl Tryz.ntmps59 rfl ?_
 refine go 5 ?_
 refine aE (dA 11 [(22,0)] ?_)
 refine go 10 ?_
 refine aC (_,[]) (fun τ=> bO _ _ aa rfl rfl rfl h rfl ab (by exact congrArg (fun z=> 0+1+z) (Nat.mul_one h))) ?_
 refine go 1 ?_
 refine aC (_,[]) (fun τ=> bK _ aa rfl rfl (by exact (congrArg (fun z=> (Bx M.P.c.length (inl M.P.c) M.P.e (M.P.d:Int) (M.P.v:Int))[z]?) ab).trans hg)) ?_
 refine go 5 ?_
 refine aC (_,[((22,0),_)]) (fun τ=> (bu aa [((0,8),(22,0))] ar (hcl.toI) trivial tr tr rfl rfl ae ae)) ?_
 refine go 1 ?_
 refine aC (_,[]) (fun τ=> gl _ aa rfl (by exact (rfl:_=some [AV.ref (22,0) 0 M.iv.length,AV.v (.slice none 0 0),AV.v (.int .i64 0),AV.v (.bool false),AV.v (.slice none 0 0)]))) ?_
 refine go 1 ?_
 refine ci ⟨rfl,?_⟩
 refine aj (gl _ aa rfl (by exact (rfl:_=some [_,_,_,_,_,_,_,_,_,_,_,_,_,_,_,_,_,_,_,_,_,_,_,_,_,_,_,_,_,_,_,_,_,_,_,_,_,_,_,_,_,_,_,_,_,_,_,_,_,_,_,_,_,_,_,_,_,_,_,_,_,_,_,_]))) ?_
 refine aj (dX (25,0) _ rfl rfl) (Jo rfl (am (aE (aE ?_))))
 refine aB (σ':=an 108 [(4,_),(8,_),(9,_)] [((4,9),_),((5,9),_),((6,9),_),((4,0),_),((8,0),_),((22,0),_),((25,0),_)] [(4,9),(5,9),(6,9)] [(4,9),(6,9)]) kp ?_
 refine go 5 ?_
 refine aj (cT (r:=true) _ _ rfl rfl (decide_eq_true he)) ?_
 refine am (fX rfl rfl (aE ?_))
 refine aB (Le.trans (Le.nilB (25,0) 55 (61,0) 57 5 rfl rfl rfl) (Le.incT (61,0) rfl)) ?_
 refine go 7 ?_
 exact au (cq (.inr rfl) rfl (.cellA aa rfl rfl rfl) (Le.outI [((5,8),(5,9)),((2,8),(61,0))] [(22,0)] (.agg rfl (ai (dI rfl rfl (by simp) rfl) (ai (ca rfl rfl) (ai .v (ai .v (ai (by show Lv _ _ _ (.sl (fz (kQ [])).length (ba (fz (kQ [])))) _;rw [hsk];exact .nil) aK)))))) rfl rfl rfl tr ob tr rfl))
end Go.Proofs.YtmjnackchaahbaaGreat

set_option maxHeartbeats 2000000
namespace Go.Proofs.YtmjnackchaahbaaGreat
open Go.RowKit

theorem pR (s:Ns) (h:Nat) (ck:Int) (P:Pg) (R:Ms) {k:Nat} (hk:k < R.acts.length):co s h ck P R (k+1)=dj (co s h ck P R k) (mm R.acts k):=by
 show (R.acts.take (k+1)).foldl dj _=_
 rw [List.take_add_one,List.foldl_append,List.getElem?_eq_getElem hk,show mm R.acts k=R.acts[k] by simp [mm,hk]]
 rfl
theorem BQ (q:Ns×Nr) (a:Ac):(dj q a).2.sent.length≤q.2.sent.length+1∧(dj q a).2.fails.length≤q.2.fails.length+1:=by
 unfold dj
 split
 ·exact ⟨Nat.le_succ _,Nat.le_succ _⟩
 split
 ·exact ⟨Nat.le_succ _,Nat.le_succ _⟩
 split
 ·exact ⟨Nat.le_succ _,Nat.le_succ _⟩
 split
 ·exact ⟨Nat.le_succ _,Nat.le_succ _⟩
 split
 ·exact ⟨by simp,Nat.le_succ _⟩
 split
 ·split <;> exact ⟨Nat.le_succ _,Nat.le_succ _⟩
 split
 ·exact ⟨Nat.le_succ _,by simp⟩
 exact ⟨Nat.le_succ _,Nat.le_succ _⟩
theorem tK {l:List Ac} {k:Nat} (hk:k < l.length):mm l k∈l:=by
 rw [show mm l k=l[k] by simp [mm,hk]];exact List.getElem_mem hk
structure Sc (P:Pg) (t:Int) (R:Ms) (q:Ns×Nr) (k:Nat):Prop where
 tm:pE t q.1.timers
 dk:DkOk P.d q.1.dk
 vo:q.1.vol=R.vars.drop P.d
 se:q.2.sent.length≤k
 fa:q.2.fails.length≤k
theorem ti {s:Ns} {h:Nat} {ck:Int} {P:Pg} {R:Ms} {t:Int} (ht:0≤t∧t < 8) (hac: ∀ a∈R.acts,wR t a∧Rg a.b) (htl:pE t s.timers) (hdk:DkOk P.d s.dk): ∀ k,k≤R.acts.length→Sc P t R (co s h ck P R k) k
 | 0,_=> ⟨htl,hdk,rfl,Nat.le_refl _,Nat.le_refl _⟩
 | k+1,hk=> by
  obtain ⟨h1,h2,h3,h4,h5⟩:=ti (ck:=ck) ht hac htl hdk k ab
  obtain ⟨a1,a2⟩:=hac _ (tK (l:=R.acts) (k:=k) ab)
  rw [pR s h ck P R ab]
  obtain ⟨l1,l2⟩:=BQ (co s h ck P R k) (mm R.acts k)
  exact ⟨vJ ht a1 h1,tR h2 a2,(rL _ _).2.2.2.2.1.trans h3,by omega,by omega⟩
theorem ye (p:Pg) (h:Nat) (names vars ans:List Int):(mh p h names vars ans).acts.length≤500:=by
 unfold mh
 split
 ·exact Nat.zero_le _
 have h1:=jb (K:=⟨p.c,p.d,names,ans⟩) (I:=Sz) (fun s hs _=> pu hs) 500 (cQ vars (p.e h).toNat) ⟨Nat.le_refl _,Nat.le_refl _,Nat.le_refl _⟩
 have h2:=(lR (K:=⟨p.c,p.d,names,ans⟩) 500 (cQ vars (p.e h).toNat)).1
 have h3:=h1.ac
 have h4:(cQ vars (p.e h).toNat).steps=0:=rfl
 omega
theorem KN (P:Pg) (hp:po P) (hcl:P.c.length≤1000000) (h:Nat) (hh:h < 40) (nm iv ans:List Int) (hn: ∀ i,Rg (nm.getD i 0)) (hiv:iv.length=P.d+P.v) (hir: ∀ v∈iv,Rg v) (t:Tl) (ht:CU ⟨P,iv,nm,ans,t⟩) (R:Ms) (hR:R=mh P h nm iv ans):
  Spec Tryz.prog 59 (aL [fY P, .v (.int .i64 (h:Int)), .agg [.sl iv.length (ba iv), .v (.int .i64 (nm.getD 0 0)), .v (.int .i64 (nm.getD 1 0)), .v (.int .i64 (nm.getD 2 0)), .v (.int .i64 (nm.getD 3 0)), .v (.int .i64 (nm.getD 4 0)), .v (.int .i64 (nm.getD 5 0)), .v (.int .i64 (nm.getD 6 0)), .v (.int .i64 (nm.getD 7 0)), .v (.int .i64 (nm.getD 8 0))],zX (6,9)] (EO t t.np t.pre (5,9)))
   (aO (.agg [.sl R.vars.length (ba R.vars), .ref (2,8) 0 R.acts.length, .v (.int .i64 (R.steps:Int)), .v (.bool (!R.fin)), .sl (fz (kQ R.cov)).length (ba (fz (kQ R.cov)))]) (((2,8), .row 57 5 (pt R.acts))::EO t (t.np+R.asked.length) (t.pre++oP t ans R.asked) (5,8)) [(2,8),(4,9),(5,8),(6,9)] [(4,9),(6,9)]):=by
 have e0:JN ⟨P,iv,nm,ans,t⟩ [] (5,9)=EO t t.np t.pre (5,9):=by
  show EO t (t.np+0) (t.pre++oP t ans []) (5,9)=_
  rw [show oP t ans []=[] from rfl,List.append_nil];rfl
 rw [← e0]
 have hnv:=hp.nv
 by_cases he:P.e h < 0
 ·have hR2:R={ vars:=iv,pc:=0,fin:=true }:=by rw [hR];unfold mh;rw [if_pos he]
  exact sU ⟨P,iv,nm,ans,t⟩ h hh he (by show iv.length≤1000;omega) R hR2
 obtain ⟨D,hg,hE⟩:=hp.ex
 obtain ⟨e1,e2,e3⟩:=(hE h).resolve_left he
 have hR2:R=jf ⟨P.c,P.d,nm,ans⟩ 500 (cQ iv (P.e h).toNat):=by rw [hR];unfold mh;rw [if_neg he]
 exact As ⟨P,iv,nm,ans,t⟩ Kp D (P.d+P.v) ⟨hg,hnv,hn⟩ h hh (P.e h).toNat (by show P.e h=_;omega) (by show _ < P.c.length;omega) e3 hiv hir hcl ht R hR2
end Go.Proofs.YtmjnackchaahbaaGreat

set_option maxHeartbeats 2000000
namespace Go.Proofs.YtmjnackchaahbaaGreat
open Go.RowKit

theorem qk {names:List Int} (hl:names.length=9) (self nodes clock:Int):(dt names self nodes clock).getD 0 0=self∧(dt names self nodes clock).getD 1 0=nodes∧(dt names self nodes clock).getD 2 0=clock∧
  (dt names self nodes clock).getD 3 0=names.getD 3 0∧(dt names self nodes clock).getD 4 0=names.getD 4 0∧(dt names self nodes clock).getD 5 0=names.getD 5 0∧(dt names self nodes clock).getD 6 0=names.getD 6 0∧(dt names self nodes clock).getD 7 0=names.getD 7 0∧(dt names self nodes clock).getD 8 0=names.getD 8 0:=by
 match names,hl with
 | [a,b,c,d,e,f,g,h,i],_=> exact ⟨rfl,rfl,rfl,rfl,rfl,rfl,rfl,rfl,rfl⟩
structure HdOk (P:Pg) (tm:Int) (s:Ns):Prop where
 pg:po P
 cl:P.c.length≤1000000
 tc:TmC P.c tm=true
 ns:ud P s
 tl:pE tm s.timers
 cb: ∀ k, -1000000≤s.counts.getD k 0∧s.counts.getD k 0≤1000000
 ck: -1000000≤s.clock∧s.clock≤1000000
theorem HdOk.sm {P:Pg} {tm:Int} {s:Ns} (h:HdOk P tm s):fJ s∧eX s.dk:=by
 have h1:=h.ns.dk.len
 have h2:=h.ns.dk.pn
 have h3:=h.ns.vl
 have h4:=h.pg.nv
 refine ⟨⟨by omega,by omega,by omega,?_⟩,fun w hw=> ?_⟩
 ·rcases h.tl with h | h <;> rw [h] <;> simp
 obtain ⟨b1,b2,_⟩:=h.ns.dk.pr w hw
 exact ⟨b1,by omega⟩
abbrev Rz (t:Tl) (np:Nat) (pre:List PV):Tl:={ t with np:=np,pre:=pre }
theorem vP {clock drift tick:Int} (h:drift≤0):aT clock drift tick=clock+1:=by unfold aT;rw [if_neg ab,Int.add_zero]
theorem Bn {clock drift tick:Int} (h:0 < drift):aT clock drift tick=clock+1+tick % (drift+1):=by unfold aT;rw [if_pos h]
abbrev iq (s:Ns) (P:Pg) (h:Nat) (self nodes drift tick:Int) (names ans:List Int):Ms:=mh P h (dt names self nodes (aT s.clock drift tick)) (s.dk.view++s.vol) ans
theorem pa (s:Ns) (P:Pg) (h:Nat) (self nodes drift tick:Int) (names ans:List Int):co s h (aT s.clock drift tick) P (iq s P h self nodes drift tick names ans) (iq s P h self nodes drift tick names ans).acts.length=cJ s P h self nodes drift tick names ans:=by
 obtain ⟨h1,h2,_⟩:=pw P h (dt names self nodes (aT s.clock drift tick)) (s.dk.view++s.vol) ans
 show ((iq s P h self nodes drift tick names ans).acts.take (iq s P h self nodes drift tick names ans).acts.length).foldl dj (Qo s h (aT s.clock drift tick) ((iq s P h self nodes drift tick names ans).vars.drop P.d),{})=_
 rw [List.take_length]
 unfold cJ
 show _=(fT P h (dt names self nodes (aT s.clock drift tick)) (s.dk.view++s.vol) ans).acts.foldl dj _
 rw [← h1,show (fw s P h self nodes drift tick names ans).vars=(iq s P h self nodes drift tick names ans).vars from h2.symm]
def jE (t:Tl) (drift tick:Int):List PV:=if 0 < drift then vT t 2 0 (drift+1) (tick % (drift+1)) else []
def jW (drift:Int):Nat:=if 0 < drift then 1 else 0
end Go.Proofs.YtmjnackchaahbaaGreat

set_option maxHeartbeats 2000000
namespace Go.Proofs.YtmjnackchaahbaaGreat
open Go.RowKit

theorem Jb (i:Nat):Rg ((List.replicate 9 (0:Int)).getD i 0):=by
 by_cases hi:i < 9
 ·rw [List.getD_eq_getElem?_getD,List.getElem?_replicate,if_pos hi];exact oB
 rw [List.getD_eq_getElem?_getD,List.getElem?_replicate,if_neg hi];exact oB
theorem pW {P:Pg} {tm:Int} {s:Ns} {m:Nat} (hp:po P) (hc:P.c.length≤1000000) (ht:TmC P.c tm=true) (hd:DkOk m s.dk) (hct:s.counts.length=41) (hcb: ∀ k, -1000000≤s.counts.getD k 0∧s.counts.getD k 0≤1000000) (hck: -1000000≤s.clock∧s.clock≤1000000) (ver:Int):HdOk P tm (cH s P ver) where
 pg:=hp
 cl:=hc
 tc:=ht
 ns:={
  dk:=by
   show DkOk P.d (if s.dk.cells.length=P.d then s.dk else s.dk.resize P.d)
   split
   ·rename_i h
    have:=hd.len
    rwa [← h,this]
   exact hd.resize P.d
  vl:=List.length_replicate
  vr:=fun v hv=> by
   have hv:v∈List.replicate P.v (0:Int):=hv
   rw [List.mem_replicate] at hv;rw [hv.2];exact oB
  tm:=⟨List.Pairwise.nil,fun x hx=> by cases hx⟩
  ct:=hct }
 tl:= .inl rfl
 cb:=hcb
 ck:=hck
end Go.Proofs.YtmjnackchaahbaaGreat

set_option maxHeartbeats 2000000
namespace Go.Proofs.YtmjnackchaahbaaGreat
open Go.RowKit

abbrev FZ (c:Cz) (r:Nr) (o:Ms):AV:= .agg [.v (.int .i64 c.a), .v (.int .i64 c.b), .v (.int .i64 c.c), .sl r.sent.length (xI c r.sent), .v (.bool r.repl), .v (.int .i64 r.value), .sl r.fails.length (ba r.fails), .sl o.vars.length (ba o.vars), .sl o.acts.length (pt o.acts), .v (.int .i64 (o.steps:Int)), .v (.bool (!o.fin)), .sl (fz (kQ o.cov)).length (ba (fz (kQ o.cov)))]
abbrev ft (s:Ns) (a:Na) (h:Nat):Tl:=⟨1,(h:Int),aP s h,(eD 1 (h:Int) (aP s h) a.tick a.draws a.keeps).length,nD (eD 1 (h:Int) (aP s h) a.tick a.draws a.keeps),0,[]⟩
abbrev Kl (s':Ns) (rd:AV) (t:Tl) (n:Nat) (L:List PV):St:=aA (.tup [ii s',rd, .ptr (4,8) 0]) [((4,8), .box 103 [.v (.int .i64 t.c1), .v (.int .i64 t.c2), .v (.int .i64 t.c3), .sl t.na t.A, .ref (5,8) 0 n]),((5,8), .row 111 7 L)]
abbrev Ls:AV:= .agg [.v (.int .i64 0), .v (.int .i64 0), .v (.int .i64 0), .sl 0 [], .v (.bool false), .v (.int .i64 0), .sl 0 [], .sl 0 [], .sl 0 [], .v (.int .i64 0), .v (.bool false), .sl 0 []]
end Go.Proofs.YtmjnackchaahbaaGreat

set_option maxHeartbeats 2000000
namespace Go.Proofs.YtmjnackchaahbaaGreat
open Go.RowKit

structure yk (a:Na):Prop where
 ok:FL a
 nl:a.names.length=9
 d0: ∀ x∈a.draws,0≤x
 k0: ∀ x∈a.keeps,x=0∨x=1
 dl:a.draws.length≤1000
 kl:a.keeps.length≤1000
theorem xK (s:Ns) {a:Na} (h:Nat) (hw:yk a) {q:Int} (hq:0 < q):tg (ft s a h) 2 0 q (a.tick % q):=by
 have hd:=hw.dl
 have hk:=hw.kl
 have:=gO (eD 1 (h:Int) (aP s h) a.tick a.draws a.keeps) (by rw [jG];omega) 1 (h:Int) (aP s h) 2 0 q hq
 rwa [zY hw.ok.tk.1] at this
theorem pB (s:Ns) {a:Na} (h:Nat) (hw:yk a) (i:Nat) {q:Int} (hq:0 < q):tg (ft s a h) 1 (i:Int) q (a.draws.getD i 0 % q):=by
 have hd:=hw.dl
 have hk:=hw.kl
 have:=gO (eD 1 (h:Int) (aP s h) a.tick a.draws a.keeps) (by rw [jG];omega) 1 (h:Int) (aP s h) 1 (i:Int) q hq
 rwa [rB i hw.d0] at this
theorem xt (s:Ns) {a:Na} (h:Nat) (hw:yk a) (i:Nat):tg (ft s a h) 3 (i:Int) 2 (a.keeps.getD i 0):=by
 have hd:=hw.dl
 have hk:=hw.kl
 have:=gO (eD 1 (h:Int) (aP s h) a.tick a.draws a.keeps) (by rw [jG];omega) 1 (h:Int) (aP s h) 3 (i:Int) 2 ab
 have h0: ∀ x∈a.keeps,0≤x:=fun x hx=> by rcases hw.k0 x hx with h | h <;> omega
 rw [Aa i h0] at this
 have h1:a.keeps.getD i 0=0∨a.keeps.getD i 0=1:=by
  by_cases hi:i < a.keeps.length
  ·rw [List.getD_eq_getElem?_getD,List.getElem?_eq_getElem hi];exact hw.k0 _ (List.getElem_mem hi)
  rw [List.getD_eq_getElem?_getD,List.getElem?_eq_none ab];exact .inl rfl
 rwa [show a.keeps.getD i 0 % 2=a.keeps.getD i 0 by omega] at this
def wz (t:Tl) (l:List Qa):List PV:=l.flatMap fun x=> vT t x.kind x.idx x.ar x.n
theorem mC (t:Tl) (drift tick:Int) (asked ans:List Int):jE t drift tick++oP t ans asked=wz t (fC drift tick asked ans):=by
 unfold wz fC jE oP
 rw [List.flatMap_append]
 congr 1
 ·split
  ·simp
  rfl
 rw [List.flatMap_map]
theorem kS (drift tick:Int) (asked ans:List Int):(fC drift tick asked ans).length=jW drift+asked.length:=by
 unfold fC jW
 rw [List.length_append,List.length_map,List.length_range]
 congr 1
 split <;> rfl
end Go.Proofs.YtmjnackchaahbaaGreat

set_option maxHeartbeats 2000000
namespace Go.Proofs.YtmjnackchaahbaaGreat
open Go.RowKit

structure lj (P:Pg) (tm:Int):Prop where
 pg:po P
 cl:P.c.length≤1000000
 tc:TmC P.c tm=true
abbrev hN (a:Na) (s:Ns):Nat:=if s.up=false then 0 else if a.crash=true then 40 else a.h
abbrev EJ (P Q:Pg) (drift:Int) (a:Na) (s:Ns):AV:=
 if s.up=false then FZ ⟨1,((0:Nat):Int),s.counts.getD 0 0⟩ (cg P Q drift a s).2 (iq (cH s (bP P Q s) (fV s)) (bP P Q s) 0 1 3 drift a.tick (List.replicate 9 0) a.draws)
 else if a.crash=true then Ls
 else FZ ⟨1,(a.h:Int),s.counts.getD a.h 0⟩ (cg P Q drift a s).2 (iq { s with wait:=a.wait } (bP P Q s) a.h 1 3 drift a.tick a.names a.draws)
theorem kE (s:Ns) (P:Pg) (h:Nat) (self nodes drift tick:Int) (names ans:List Int):(iq s P h self nodes drift tick names ans).asked=(fw s P h self nodes drift tick names ans).asked:=
 (pw P h (dt names self nodes (aT s.clock drift tick)) (s.dk.view++s.vol) ans).2.2
section
variable {P Q:Pg} {tp tq:Int} {i:Nat} {s:Ns} {drift:Int} {a:Na}
theorem su (t:Tl) (k:Nat) (keeps:List Int):wz t (kx k keeps)=ym t keeps k:=by
 unfold wz kx ym
 rw [List.flatMap_map]
end
end Go.Proofs.YtmjnackchaahbaaGreat

set_option maxHeartbeats 2000000
namespace Go.Proofs.YtmjnackchaahbaaGreat

theorem uA {t:Int} (ht:0≤t∧t < 8): ∀ (l:List Ac) (q:Ns×Nr),(∀ a∈l,wR t a)→pE t q.1.timers→pE t (l.foldl dj q).1.timers
 | [],_,_,h=> h
 | a::l,q,ha,h=> uA ht l (dj q a) (fun b hb=> ha b (List.mem_cons_of_mem _ hb)) (vJ ht (ha a List.mem_cons_self) h)
theorem jz {P:Pg} {t:Int} (hc:TmC P.c t=true) (s:Ns) (h:pE t s.timers) (k:Nat) (self nodes drift tick:Int) (names ans:List Int):pE t (cJ s P k self nodes drift tick names ans).1.timers:=
 uA (TmC.rg hc) _ _ (fun a ha=> qh hc _ _ _ _ a ha) h
structure SqT (P Q:Pg) (tp tq:Int) (i:Nat) (s:Ns):Prop where
 sq:Sq P Q i s
 sm:fJ s
 tl:s.up=true→pE (if s.ver=1 then tq else tp) s.timers
theorem HG (P Q:Pg) (tp tq:Int):SqT P Q tp tq 0 {}:=⟨IE P Q,⟨Nat.zero_le _,Nat.zero_le _,Nat.zero_le _,Nat.zero_le _⟩,fun h=> by simp at h⟩
theorem Hu {X:Pg} {t:Int} {s:Ns} (hX:po X) (h:ud X s) (ht:pE t s.timers):fJ s:=by
 have h1:=h.dk.len
 have h2:=h.dk.pn
 have h3:=h.vl
 have h4:=hX.nv
 refine ⟨by omega,by omega,by omega,?_⟩
 rcases ht with ht | ht <;> rw [ht] <;> simp
theorem JQ {P Q:Pg} {tp tq:Int} (hP:lj P tp) (hQ:lj Q tq) {drift:Int} (hd:0≤drift∧drift≤3) {a:Na} (ha:FL a) {i:Nat} (hi:i≤100) {s:Ns} (h:SqT P Q tp tq i s):SqT P Q tp tq (i+1) (cg P Q drift a s).1:=by
 have hn:=Gg hP.pg hQ.pg hd ha hi h.sq
 have up:(cg P Q drift a s).1.up=true→pE (if (cg P Q drift a s).1.ver=1 then tq else tp) (cg P Q drift a s).1.timers:=by
  unfold cg
  split
  ·rename_i hup
   intro _
   show pE (if (cJ (cH s (bP P Q s) (fV s)) (bP P Q s) 0 1 3 drift a.tick (List.replicate 9 0) a.draws).1.ver=1 then tq else tp) (cJ (cH s (bP P Q s) (fV s)) (bP P Q s) 0 1 3 drift a.tick (List.replicate 9 0) a.draws).1.timers
   rw [(fm (cH s (bP P Q s) (fV s)) (bP P Q s) 0 1 3 drift a.tick (List.replicate 9 0) a.draws).2.1]
   show pE (if fV s=1 then tq else tp) _
   have hnt: ¬ s.up=true:=by rw [hup];exact Bool.false_ne_true
   by_cases he:s.epoch % 2=1
   ·rw [show fV s=1 from if_pos he,show bP P Q s=Q by unfold bP;rw [if_neg hnt,if_pos he],if_pos rfl]
    exact jz hQ.tc _ (.inl rfl) _ _ _ _ _ _ _
   rw [show fV s=0 from if_neg he,show bP P Q s=P by unfold bP;rw [if_neg hnt,if_neg he],if_neg ah]
   exact jz hP.tc _ (.inl rfl) _ _ _ _ _ _ _
  rename_i hup
  split
  ·intro hx;cases hx
  intro _
  have hup:s.up=true:=by simpa using hup
  have htl:=h.tl hup
  rw [(fm { s with wait:=a.wait } (bP P Q s) a.h 1 3 drift a.tick a.names a.draws).2.1]
  show pE (if s.ver=1 then tq else tp) _
  by_cases hv:s.ver=1
  ·rw [if_pos hv] at htl ⊢
   rw [show bP P Q s=Q by unfold bP;rw [if_pos hup,if_pos hv]]
   exact jz hQ.tc { s with wait:=a.wait } htl _ _ _ _ _ _ _
  rw [if_neg hv] at htl ⊢
  rw [show bP P Q s=P by unfold bP;rw [if_pos hup,if_neg hv]]
  exact jz hP.tc { s with wait:=a.wait } htl _ _ _ _ _ _ _
 refine ⟨hn,?_,up⟩
 by_cases hu:(cg P Q drift a s).1.up=true
 ·have h1:=(hn.up hu).1
  have h2:=up hu
  by_cases hv:(cg P Q drift a s).1.ver=1
  ·rw [if_pos hv] at h1 h2;exact Hu hQ.pg h1 h2
  rw [if_neg hv] at h1 h2;exact Hu hP.pg h1 h2
 have hs:=h.sm
 unfold cg at hu ⊢
 split at hu
 ·exact absurd ((fm (cH s (bP P Q s) (fV s)) (bP P Q s) 0 1 3 drift a.tick (List.replicate 9 0) a.draws).1) hu
 rename_i hup
 rw [if_neg hup]
 split at hu
 ·rename_i hc
  rw [if_pos hc]
  refine ⟨?_,Nat.zero_le _,?_,Nat.zero_le _⟩
  ·show (ma s.dk.cells _).length≤1000
   rw [dq];exact hs.c
  show (List.replicate s.vol.length (0:Int)).length≤1000
  rw [List.length_replicate];exact hs.v
 exact absurd ((fm { s with wait:=a.wait } (bP P Q s) a.h 1 3 drift a.tick a.names a.draws).1.trans (show s.up=true by simpa using hup)) hu
end Go.Proofs.YtmjnackchaahbaaGreat

set_option maxHeartbeats 2000000
namespace Go.Proofs.YtmjnackchaahbaaGreat
open Go.RowKit

theorem EH {n:Int} (h0:0≤n):yk (gZ n):=by
 obtain ⟨h1,h2,h3,h4,_,h6⟩:=BL h0
 refine ⟨h1,h6,h4,fun x hx=> ?_,by omega,by omega⟩
 have hx:x∈[n / 2 % 2,n / 4 % 2,n / 8 % 2,n / 16 % 2]:=hx
 simp only [List.mem_cons,List.not_mem_nil,or_false] at hx
 omega
theorem Ia (s:Ns) (hup:s.up=true) (hv:s.ver≠1) (P Q:Pg) (hd:s.dk.cells.length=P.d) (hl:s.vol.length=P.v):Spec Tryz.prog 51 (aI [ii s,fY P,fY Q] []) (aA (.v (.bool true)) []):=by
 refine Spec.ofN Tryz.func51 rfl Tryz.ntmps51 rfl ?_
 refine go 10 ?_
 refine aj (fI (r:=false) _ rfl (by rw [hup];rfl)) ?_
 refine go 12 ?_
 refine Av rfl rfl (beq_eq_false_iff_ne.2 hv) ?_
 refine go 10 ?_
 refine Mh rfl rfl (by rw [hd];exact beq_self_eq_true _) ?_
 refine go 6 ?_
 refine aZ rfl rfl (bb (r:=true) _ _ rfl rfl (by rw [hl];exact beq_self_eq_true _)) ?_
 refine go 3 ?_
 exact au (eb rfl rfl)
end Go.Proofs.YtmjnackchaahbaaGreat

set_option maxHeartbeats 2000000
namespace Go.Proofs.YtmjnackchaahbaaGreat
open Go.RowKit

abbrev Js (n:Int):Nat:=(du n 12).toNat
def NF (n:Int):Pg:=⟨bE (onss.getD (Js n) []) 0,bI (onss.getD (Js n) []),(durs.getD (Js n) []).length,(vols.getD (Js n) []).length⟩
theorem BN (n:Int) (h: -9223372036854775808≤n∧n≤9223372036854775807):Spec Tryz.prog 39 (aI [.v (.int .i64 n)] []) (aA (fY (NF n)) []):=sB n h.1 h.2
def PY (n:Int):Int:=if Js n=6 then 1 else 0
theorem JC {d v:List Tx} {ons:List (Nat×Bk)} (U:UOk d v ons) {tm:Int} (ht:TmC (bE ons 0) tm=true):lj ⟨bE ons 0,bI ons,d.length,v.length⟩ tm where
 pg:=by
  have hl:(d++v).length=d.length+v.length:=List.length_append
  refine ⟨⟨yg ons,by show Good _ (d.length+v.length) _ _ _ _;rw [← hl];exact U.good,fun h=> ?_⟩,by show d.length+v.length≤16;rw [← hl];exact U.len⟩
  rcases vZ ons h with e | ⟨e,_,e2,e3,e4⟩
  ·exact .inl (by show (nO (jL ons 0)).getD h (-1) < 0;omega)
  have e5:bI ons h=(e:Int):=e2
  exact .inr ⟨by show 0≤bI ons h;omega,by show bI ons h < _;rw [e5];exact Int.ofNat_lt.2 e3,by show yg ons (bI ons h).toNat=0;rw [e5,Int.toNat_natCast];exact e4⟩
 cl:=U.c
 tc:=ht
theorem MX (k:Nat) (h:k < 12):TmC (bE (onss.getD k []) 0) (if k=6 then 1 else 0)=true:=by
 rcases (show k=0∨k=1∨k=2∨k=3∨k=4∨k=5∨k=6∨k=7∨k=8∨k=9∨k=10∨k=11 by omega) with rfl | rfl | rfl | rfl | rfl | rfl | rfl | rfl | rfl | rfl | rfl | rfl <;> kernel_rfl
theorem Jm (n:Int):lj (NF n) (PY n):=by
 have hlo:=iC n 12 ab
 have hhi:=jU n 12 ab
 have hk:Js n < 12:=by show (du n 12).toNat < 12;omega
 exact JC (KG _ hk).1.toUOk (MX _ hk)
abbrev FU (l:List Int) (k:Nat):Na:=gZ (du (l.getD k 0) 100000000)
theorem IS (l:List Int) (k:Nat):yk (FU l k):=EH (iC _ _ ab)
def JP (a:Na) (s:Ns):Cz:=if s.up=false then ⟨1,((0:Nat):Int),s.counts.getD 0 0⟩ else if a.crash=true then ⟨0,0,0⟩ else ⟨1,(a.h:Int),s.counts.getD a.h 0⟩
def Aw (P Q:Pg) (dr:Int) (a:Na) (s:Ns):Ms:=if s.up=false then iq (cH s (bP P Q s) (fV s)) (bP P Q s) 0 1 3 dr a.tick (List.replicate 9 0) a.draws else if a.crash=true then { vars:=[],pc:=0,fin:=true } else iq { s with wait:=a.wait } (bP P Q s) a.h 1 3 dr a.tick a.names a.draws
theorem IL (P Q:Pg) (dr:Int) (a:Na) (s:Ns):EJ P Q dr a s=FZ (JP a s) (cg P Q dr a s).2 (Aw P Q dr a s):=by
 unfold JP Aw
 by_cases hu:s.up=false
 ·rw [if_pos hu,if_pos hu]
  exact if_pos hu
 rw [if_neg hu,if_neg hu]
 by_cases hc:a.crash=true
 ·rw [if_pos hc,if_pos hc]
  refine ((if_neg hu).trans (if_pos hc)).trans ?_
  have e1:cg P Q dr a s=(fQ s (fh s.dk.pend.length a.keeps),{}):=by unfold cg;rw [if_neg hu,if_pos hc]
  have e2:fz (kQ [])=[]:=by simp [fz,kQ]
  rw [e1]
  show Ls=AV.agg [.v (.int .i64 0), .v (.int .i64 0), .v (.int .i64 0), .sl 0 (xI ⟨0,0,0⟩ []), .v (.bool false), .v (.int .i64 0), .sl 0 (ba []), .sl 0 (ba []), .sl 0 (pt []), .v (.int .i64 0), .v (.bool false), .sl (fz (kQ [])).length (ba (fz (kQ [])))]
  rw [e2];rfl
 rw [if_neg hc,if_neg hc]
 exact (if_neg hu).trans (if_neg hc)
end Go.Proofs.YtmjnackchaahbaaGreat

set_option maxHeartbeats 2000000
namespace Go.Proofs.YtmjnackchaahbaaGreat
open Go.RowKit

abbrev Nk (e:Nat→Int):List Value:=[.int .i64 (e 0), .int .i64 (e 1), .int .i64 (e 2), .int .i64 (e 3), .int .i64 (e 4), .int .i64 (e 5), .int .i64 (e 6), .int .i64 (e 7), .int .i64 (e 8), .int .i64 (e 9), .int .i64 (e 10), .int .i64 (e 11), .int .i64 (e 12), .int .i64 (e 13), .int .i64 (e 14), .int .i64 (e 15), .int .i64 (e 16), .int .i64 (e 17), .int .i64 (e 18), .int .i64 (e 19), .int .i64 (e 20), .int .i64 (e 21), .int .i64 (e 22), .int .i64 (e 23), .int .i64 (e 24), .int .i64 (e 25), .int .i64 (e 26), .int .i64 (e 27), .int .i64 (e 28), .int .i64 (e 29), .int .i64 (e 30), .int .i64 (e 31), .int .i64 (e 32), .int .i64 (e 33), .int .i64 (e 34), .int .i64 (e 35), .int .i64 (e 36), .int .i64 (e 37), .int .i64 (e 38), .int .i64 (e 39), .int .i64 (e 40)]
theorem rF (w:World) (cs:Array Value): ∀ (is:List Nat),(∀ j∈is,∃ a,cs[j]? =some (.int .i64 a))→(Op.eqItems 9999 3 1 cs cs is).run Tryz.prog w= .ok true w
 | [],_=> by simp [Op.eqItems]
 | j::is,h=> by
  obtain ⟨a,ha⟩:=h j List.mem_cons_self
  have ih:=rF w cs is fun i hi=> h i (List.mem_cons_of_mem _ hi)
  simp only [Op.eqItems,Sem.run_bind,Nat.mul_one]
  rw [jh w cs j _ ha,Result.andThen_ok,jh w cs j _ ha,Result.andThen_ok,tB 9998 w a a,Result.andThen_ok]
  simpa using ih
theorem JM (w:World) (e:Nat→Int):(Op.equal 81 (.agg (Nk e).toArray) (.agg (Nk e).toArray)).run Tryz.prog w= .ok true w:=by
 show (Op.equalIn (9999+1) 81 _ _).run Tryz.prog w=_
 obtain ⟨i,hi⟩:=Option.isSome_iff_exists.1 (show (Tryz.prog.info? 3).isSome=true by kernel_rfl)
 rw [run_equalIn_array w 9999 _ _ Tryz.underlying81 hi,show Tryz.prog.cellsOf 3=1 by kernel_rfl]
 refine rF w _ _ fun h hh=> ⟨e h,?_⟩
 have hh:=List.mem_range.1 hh
 rcases (show h=0∨h=1∨h=2∨h=3∨h=4∨h=5∨h=6∨h=7∨h=8∨h=9∨h=10∨h=11∨h=12∨h=13∨h=14∨h=15∨h=16∨h=17∨h=18∨h=19∨h=20∨h=21∨h=22∨h=23∨h=24∨h=25∨h=26∨h=27∨h=28∨h=29∨h=30∨h=31∨h=32∨h=33∨h=34∨h=35∨h=36∨h=37∨h=38∨h=39∨h=40 by omega) with rfl | rfl | rfl | rfl | rfl | rfl | rfl | rfl | rfl | rfl | rfl | rfl | rfl | rfl | rfl | rfl | rfl | rfl | rfl | rfl | rfl | rfl | rfl | rfl | rfl | rfl | rfl | rfl | rfl | rfl | rfl | rfl | rfl | rfl | rfl | rfl | rfl | rfl | rfl | rfl | rfl <;> rfl
section
variable {σ:St} {dd:Option Tmp} {ty:TypeId}
end
end Go.Proofs.YtmjnackchaahbaaGreat

set_option maxHeartbeats 2000000
namespace Go.Proofs.YtmjnackchaahbaaGreat
open Go.RowKit

def eP (h k:Nat):Int:=if k < h then -1 else 0
theorem IJ (h:Nat):kB (eP h) h (-1)=eP (h+1):=by
 funext k
 unfold kB eP
 by_cases h1:k=h
 ·rw [if_pos h1,if_pos ab]
 rw [if_neg h1]
 by_cases h2:k < h
 ·rw [if_pos h2,if_pos ab]
 rw [if_neg h2,if_neg ab]
def P13:Pg:=⟨[{ op:= .push,n:=5 },{ op:= .setVar,n:=0 },{ op:= .stop,n:=0 }],kB (eP 40) 10 0,0,1⟩
theorem DM:Spec Tryz.prog 85 (aI [] []) (aA (fY P13) []):=by
 refine Spec.ofN Tryz.func85 rfl Tryz.ntmps85 rfl ?_
 refine go 12 ?_
 refine aF fun K3 hK3=> ?_
 refine aG (cp rfl (am (aH ?_)))
 refine aS (α:=Nat) (fun q=> q≤40) 18 [(0,_),(1,_)] [((0,0),_)] (fun q=> [(2, .v (.int .i64 (q:Int)))]) (fun q=> [((1,0), .box 26 [.sl 3 (inl P13.c), .v (.int .i64 (eP q 0)), .v (.int .i64 (eP q 1)), .v (.int .i64 (eP q 2)), .v (.int .i64 (eP q 3)), .v (.int .i64 (eP q 4)), .v (.int .i64 (eP q 5)), .v (.int .i64 (eP q 6)), .v (.int .i64 (eP q 7)), .v (.int .i64 (eP q 8)), .v (.int .i64 (eP q 9)), .v (.int .i64 (eP q 10)), .v (.int .i64 (eP q 11)), .v (.int .i64 (eP q 12)), .v (.int .i64 (eP q 13)), .v (.int .i64 (eP q 14)), .v (.int .i64 (eP q 15)), .v (.int .i64 (eP q 16)), .v (.int .i64 (eP q 17)), .v (.int .i64 (eP q 18)), .v (.int .i64 (eP q 19)), .v (.int .i64 (eP q 20)), .v (.int .i64 (eP q 21)), .v (.int .i64 (eP q 22)), .v (.int .i64 (eP q 23)), .v (.int .i64 (eP q 24)), .v (.int .i64 (eP q 25)), .v (.int .i64 (eP q 26)), .v (.int .i64 (eP q 27)), .v (.int .i64 (eP q 28)), .v (.int .i64 (eP q 29)), .v (.int .i64 (eP q 30)), .v (.int .i64 (eP q 31)), .v (.int .i64 (eP q 32)), .v (.int .i64 (eP q 33)), .v (.int .i64 (eP q 34)), .v (.int .i64 (eP q 35)), .v (.int .i64 (eP q 36)), .v (.int .i64 (eP q 37)), .v (.int .i64 (eP q 38)), .v (.int .i64 (eP q 39)), .v (.int .i64 0), .v (.int .i64 1)])]) [] [] (fun q=> 40 - q) 0 ?_ (kj [0,1] [] []) ?_
 ·omega
 intro q hq
 refine aF fun K5 hK5=> ?_
 refine go 4 ?_
 refine ax rfl (fun hc9=> ?_) (fun hc9=> ?_)
 ·refine aR (hK5 _ ?_)
  refine go 5 ?_
  refine aj (bO _ _ aa rfl rfl rfl q rfl ab (by exact congrArg (fun z=> 0+1+z) (Nat.mul_one q))) ?_
  refine aj (dE _ _ aa rfl rfl rfl rfl (show 0+1+q+1≤43 by omega) ((congrArg (fun z=> eO (Ii (.sl 3 (inl P13.c)) (eP q) 0 1) z [.v (.int .i64 (-1))]) ab).trans ((tb _ _ _ _ q ab _).trans (by rw [IJ])))) ?_
  refine go 5 ?_
  refine ay (⟨q+1,?_,?_,?_⟩)
  ·omega
  ·exact kj [0,1] [] []
  omega
 obtain rfl:q=40:=by omega
 refine aW (id (hK3 _ ?_))
 refine aG (KW rfl rfl rfl (aj (bO _ _ aa rfl rfl rfl 10 rfl ab ag) ?_))
 refine go 6 ?_
 exact au (uo [])
theorem p13_ok:lj P13 0 where
 pg:=by
  refine ⟨⟨fun i=> [0,1,0].getD i 0,fun i x hx=> ?_,fun h=> ?_⟩,by show 0+1≤16;omega⟩
  ·rw [Nat.zero_add]
   rcases i with _ | _ | _ | i
   all_goals first | (simp [P13] at hx;done) | (simp only [P13,List.getElem?_cons_zero,List.getElem?_cons_succ,Option.some.injEq] at hx;subst hx)
   all_goals refine ⟨?_,?_,fun j hj=> ?_⟩
   all_goals first | (simp [cK,P13,Rg];done) | (simp [Opc.pops];done) | (simp [dx] at hj;done) | (simp [dx] at hj;subst hj;simp [P13,Opc.pops,Opc.puts];done)
  by_cases h1:h=10
  ·subst h1;exact .inr ⟨by decide,by decide,by decide⟩
  by_cases h2:h < 40
  ·refine .inl ?_
   show kB (eP 40) 10 0 h < 0
   unfold kB eP
   rw [if_neg h1,if_pos h2];omega
  have e:P13.e h=0:=by
   show kB (eP 40) 10 0 h=0
   unfold kB eP
   rw [if_neg h1,if_neg h2]
  rw [e]
  exact .inr ⟨Int.le_refl _,by decide,rfl⟩
 cl:=by decide
 tc:=by decide
abbrev vg:Tl:=⟨0,0,0,0,[],0,[]⟩
theorem Rq (kind idx q:Int) (hq:0 < q):tg vg kind idx q 0:=by
 have h:=gO [] (Nat.zero_le _) 0 0 0 kind idx q hq
 have e:og [] 0 0 0 kind idx % q=0:=Int.zero_emod q
 rw [e] at h
 exact h
theorem Fq (l:List Int):((ba l).drop 0).take (l.length*1)=ba l:=by rw [List.drop_zero,Nat.mul_one,List.take_of_length_le (by rw [aq];omega)]
abbrev EF:Ns:={ up:=true,ver:=0,clock:=1,vol:=[0],counts:=(List.replicate 41 0).set 0 1 }
abbrev Kn:Ns:={ up:=true,ver:=0,clock:=2,vol:=[5],counts:=((List.replicate 41 0).set 0 1).set 10 1 }
abbrev PB:Ns:={ up:=false,ver:=0,clock:=2,vol:=[0],epoch:=1,counts:=(((List.replicate 41 0).set 0 1).set 10 1).set 40 1 }
theorem JD (k:Nat) (l:List Int) (h: ∀ x∈l,0≤x∧x≤1): -1000000≤l.getD k 0∧l.getD k 0≤1000000:=by
 by_cases hk:k < l.length
 ·rw [List.getD_eq_getElem?_getD,List.getElem?_eq_getElem hk]
  have:=h _ (List.getElem_mem hk)
  simp only [Option.getD_some];omega
 rw [List.getD_eq_getElem?_getD,List.getElem?_eq_none ab];simp

theorem zS (l:List Int) (k:Nat) (h:k < (iL (l.take 10)).length):(iL (l.take 10)).getD k Kb=FU l k∧k < 10:=by
 have h1:k < (l.take 10).length:=by rw [lU] at h;exact h
 have h2:k < 10∧k < l.length:=by rw [List.length_take] at h1;omega
 refine ⟨?_,h2.1⟩
 unfold iL
 rw [List.getD_eq_getElem?_getD,List.getElem?_map,List.getElem?_eq_getElem h1,List.getElem_take]
 show gZ (du (l[k]) 100000000)=gZ (du (l.getD k 0) 100000000)
 rw [List.getD_eq_getElem?_getD,List.getElem?_eq_getElem h2.2];rfl

theorem HZ (l:List Na) (k:Nat) (h:k < l.length) (j:Nat) (hj:j < 15):(DZ l)[k*15+j]? =(FW (l.getD k Kb))[j]? :=by
 have e:l.getD k Kb=l[k]:=by rw [List.getD_eq_getElem?_getD,List.getElem?_eq_getElem h];rfl
 rw [e];exact jA FW 15 (fun _=> rfl) l k j h hj
end Go.Proofs.YtmjnackchaahbaaGreat

set_option maxHeartbeats 2000000
namespace Go.Proofs.YtmjnackchaahbaaGreat
open Go.RowKit

theorem xn (xs:List Int) (h:xs.length≤4611686018427387904):Spec Tryz.prog 30 (aI [.sl xs.length (ba xs), .sl xs.length (ba xs)] []) (aA (.v (.bool true)) []):=by
 have:=oy xs.length xs.length xs xs rfl rfl h h
 rwa [decide_eq_true rfl] at this
theorem SqT.dk {P Q:Pg} {tp tq:Int} {i:Nat} {s:Ns} (h:SqT P Q tp tq i s): ∃ n,DkOk n s.dk:=by
 by_cases hu:s.up=true
 ·exact ⟨_,(h.sq.up hu).1.dk⟩
 exact (h.sq.dn (by simpa using hu)).1
end Go.Proofs.YtmjnackchaahbaaGreat

set_option maxHeartbeats 2000000
namespace Go.Proofs.YtmjnackchaahbaaGreat
open Go.RowKit

theorem ER (l:List (Int×Int)) (k:Nat) (h:k < l.length) (j:Nat) (hj:j < 2):(eT l)[k*2+j]? =(vW (l.getD k (0,0)))[j]? :=by
 have e:l.getD k (0,0)=l[k]:=by rw [List.getD_eq_getElem?_getD,List.getElem?_eq_getElem h];rfl
 rw [e];exact jA vW 2 (fun _=> rfl) l k j h hj
theorem lu (c:List Int) (l:List (Int×Int)) (h1:c.length≤1000000) (h2:l.length≤1000000) (ho: ∀ w∈l,0≤w.1∧w.1 < (c.length:Int)):
  Spec Tryz.prog 116 (aI [.sl c.length (ba c), .sl l.length (eT l)] []) (aA (.ref (0,8) 0 c.length) [((0,8), .row 3 1 (ba (ma c l)))]):=by
 refine Spec.ofN Tryz.func116 rfl Tryz.ntmps116 rfl ?_
 refine aG (aj (aX _ ea) (am (aG (aj (gp (7,0) _ _ aa rfl ag (by (simp <;> rfl)) ah rfl rfl) ?_))))
 refine gT rfl (aj (bG (9,0) _ _ aa rfl rfl rfl (.sl (by rw [aq,Nat.mul_one])) ab rfl (List.nil_append _) (Nat.zero_add _)) ?_)
 refine dZ rfl (am (aF fun K3 hK3=> ?_))
 refine aG (cp rfl (am (aH ?_)))
 refine aS (α:=Nat) (fun k=> k≤l.length) 29 [(1,_),(5,_)] [] (fun k=> [(6, .v (.int .i64 (k:Int)))]) (fun k=> [((9,0), .row 3 1 (ba (ma c (l.take k))))]) [] [] (fun k=> l.length - k) 0 ?_ (kj [2] [] []) ?_
 ·omega
 intro k hk
 refine aF fun K5 hK5=> ?_
 refine go 6 ?_
 refine ax rfl (fun hc13=> ?_) (fun hc13=> ?_)
 ·have g:=ER l k ab
  have hm:l.getD k (0,0)∈l:=by rw [List.getD_eq_getElem?_getD,List.getElem?_eq_getElem ab];exact List.getElem_mem _
  obtain ⟨q1,q2⟩:=ho _ hm
  have q3:=vM c l (k:=k) ab
  generalize l.getD k (0,0)=w at g q1 q2 q3
  obtain ⟨i,hi⟩:=Int.eq_ofNat_of_zero_le q1
  rw [hi,Int.toNat_natCast] at q3
  have q4:(ma c (l.take k)).length=c.length:=dq _ _
  refine aR (hK5 _ ?_)
  refine aE (aH ?_)
  refine aB (σ':=an 29 [(1,_),(5,_),(6,_)] [((9,0),_)] [] []) kp ?_
  refine dA 12 [] ?_
  refine go 6 ?_
  refine aC (_,[]) (fun τ=> aQ _ _ aa rfl rfl _ rfl ab (by (simp only [aq,aJ,aM,aq,bC,aJ];omega)) ag) ?_
  refine go 3 ?_
  refine aC (_,[]) (fun τ=> bl _ aa rfl (by exact g 0 ab) rfl) ?_
  refine go 5 ?_
  refine aC (_,[]) (fun τ=> aQ _ _ aa rfl rfl _ rfl ab (by (simp only [aq,aJ,aM,aq,bC,aJ];omega)) ag) ?_
  refine go 3 ?_
  refine aC (_,[]) (fun τ=> bl _ aa rfl (by exact g 1 ab) rfl) ?_
  refine go 1 ?_
  refine aC (_,[]) (fun τ=> bq _ _ aa rfl rfl rfl i hi ab (by exact (Nat.zero_add _).trans (Nat.mul_one _))) ?_
  refine go 1 ?_
  refine ci ⟨rfl,?_⟩
  refine aj (dN _ _ aa rfl rfl rfl rfl rfl (by rw [aq];simp only [List.length_cons,List.length_nil];omega) ((dF _ _ _ ab).trans (congrArg ba q3.symm))) ?_
  refine go 5 ?_
  refine ay (⟨k+1,?_,?_,?_⟩)
  ·omega
  ·exact kj [2] [] []
  omega
 refine aW (id (hK3 _ ?_))
 exact aG (ij rfl (dZ rfl (am (au (cq (.inr rfl) rfl (.tmp mP) (Le.out [((0,8),(9,0))] [] (ca rfl rfl) rfl rfl rfl trivial ⟨⟨rfl,⟨_,rfl, .rowE (by rw [List.take_of_length_le ab])⟩,rfl⟩,trivial⟩))))))
theorem mz (d:Dk) (h1:d.cells.length≤1000000) (h2:d.pend.length≤1000000) (ho:eX d):
  Spec Tryz.prog 83 (aI [mf d] []) (aA (.ref (0,8) 0 d.cells.length) [((0,8), .row 3 1 (ba d.view))]):=by
 have ha:=lu d.cells d.pend h1 h2 ho
 refine Spec.ofN Tryz.func83 rfl Tryz.ntmps83 rfl ?_
 refine aG (aj (dX (1,0) _ rfl rfl) (aj (aX _ ea) (go 6 ?_)))
 refine aj (bu aa [((0,8),(7,0))] ar (ha.toI) trivial tr tr rfl rfl ae ae) ?_
 exact dZ rfl (am (au (lQ [((0,8),(7,0))])))
theorem wC (d:Dk) (h1:d.cells.length≤1000000) (h2:d.pend.length≤1000000) (ho:eX d):
  Spec Tryz.prog 181 (aI [mf d] []) (aA (mf d.sync) []):=by
 have hv:=mz d h1 h2 ho
 have hl:d.sync.cells.length=d.cells.length:=dq _ _
 refine Spec.ofN Tryz.func181 rfl Tryz.ntmps181 rfl ?_
 refine go 6 ?_
 refine aj (bu aa [((0,8),(4,0))] ar (hv.toI) trivial tr tr rfl rfl ae ae) ?_
 refine go 3 ?_
 exact au (cq (.inr rfl) rfl (.cellA aa rfl rfl rfl) (Le.out [] [(4,0)] (.agg rfl (ai (Jj rfl rfl hl.symm rfl) lz)) rfl rfl rfl tr trivial))
theorem wi (d:Dk) (c v:Int) (h1:d.cells.length≤1000000) (hc:c < 0∨(d.cells.length:Int)≤c):
  Spec Tryz.prog 180 (aI [mf d, .v (.int .i64 c), .v (.int .i64 v)] []) (aA (mf (d.write c v)) []):=by
 have e:d.write c v=d:=by unfold Dk.write;exact if_pos hc
 rw [e]
 rcases hc with hc | hc
 ·refine Spec.ofN Tryz.func180 rfl Tryz.ntmps180 rfl ?_
  refine go 7 ?_
  refine aj (cT (r:=true) _ _ rfl rfl (decide_eq_true hc)) ?_
  refine go 13 ?_
  exact au (uo [])
 refine Spec.ofN Tryz.func180 rfl Tryz.ntmps180 rfl ?_
 refine go 7 ?_
 refine aj (cT (r:=false) _ _ rfl rfl (decide_eq_false ab)) ?_
 refine go 5 ?_
 refine aZ rfl rfl (eg (r:=true) _ _ rfl rfl (decide_eq_true ab)) ?_
 refine go 7 ?_
 exact au (uo [])
theorem zk (d:Dk) (c v:Int) (h1:d.cells.length≤1000000) (h2:d.pend.length≤1000000) (ho:eX d) (hc:0≤c∧c < (d.cells.length:Int)):
  Spec Tryz.prog 180 (aI [mf d, .v (.int .i64 c), .v (.int .i64 v)] []) (aA (mf (d.write c v)) []):=by
 have e:d.write c v=if 4 < d.pend.length+1 then ⟨ma d.cells ((d.pend++[(c,v)]).take 1),(d.pend++[(c,v)]).drop 1⟩ else ⟨d.cells,d.pend++[(c,v)]⟩:=by unfold Dk.write;exact if_neg ab
 have hpl:(d.pend++[(c,v)]).length=d.pend.length+1:=by simp
 have hl1:((d.pend++[(c,v)]).take 1).length=1:=by rw [List.length_take];omega
 have hin: ∀ w∈(d.pend++[(c,v)]).take 1,0≤w.1∧w.1 < (d.cells.length:Int):=fun w hw=> by
  rcases List.mem_append.1 (List.mem_of_mem_take hw) with hw | hw
  ·exact ho w hw
  rw [List.mem_singleton.1 hw];exact hc
 have ha:=lu d.cells ((d.pend++[(c,v)]).take 1) h1 ab hin
 rw [hl1] at ha
 have q2:=mU d.pend (c,v)
 have hal:(ma d.cells ((d.pend++[(c,v)]).take 1)).length=d.cells.length:=dq _ _
 have hd1:(eT (d.pend++[(c,v)])).drop 2=eT ((d.pend++[(c,v)]).drop 1):=lS vW 2 (fun _=> rfl) (d.pend++[(c,v)]) 1
 have ht1:(eT (d.pend++[(c,v)])).take 2=eT ((d.pend++[(c,v)]).take 1):=CA vW 2 (fun _=> rfl) (d.pend++[(c,v)]) 1
 refine Spec.ofN Tryz.func180 rfl Tryz.ntmps180 rfl ?_
 refine go 7 ?_
 refine aj (cT (r:=false) _ _ rfl rfl (decide_eq_false ab)) ?_
 refine go 5 ?_
 refine aZ rfl rfl (eg (r:=false) _ _ rfl rfl (decide_eq_false ab)) ?_
 refine go 5 ?_
 refine aj (gp (18,0) _ _ aa rfl ag (by (simp <;> rfl)) ah rfl rfl) ?_
 refine go 2 ?_
 refine aj (bG (21,0) _ _ aa rfl rfl rfl (.sl (by rw [bC])) ab rfl (List.nil_append _) (Nat.zero_add _)) ?_
 refine go 3 ?_
 refine aj (gK (xs:=vW (c,v)) _ _ aa rfl ag (by simp <;> rfl) ah rfl) ?_
 refine aj (bG (26,0) _ _ aa rfl rfl (bC _).symm (.sl rfl) ab rfl q2 rfl) ?_
 refine dZ rfl (am (aE (aE ?_)))
 refine aB (Le.frzS (ys:=eT (d.pend++[(c,v)])) 7 mP rfl rfl (by rw [List.drop_zero,List.take_of_length_le (by rw [bC,hpl];exact Nat.le_refl _)]) (by rw [bC,hpl,Nat.zero_add];exact Nat.le_refl _)) ?_
 refine go 5 ?_
 refine ax rfl (fun hc29=> ?_) (fun hc29=> ?_)
 ·rw [if_pos ab] at e
  refine aE ?_
  refine aB (σ':=an 42 [(3,_),(6,_),(7,_)] [((3,0),_),((6,0),_)] [] []) kp ?_
  refine dA 8 [(34,0)] ?_
  refine go 6 ?_
  refine aC (_,[]) (fun τ=> gA (ys:=eT ((d.pend++[(c,v)]).take 1)) _ _ _ aa rfl 0 1 .dflt (.lit rfl rfl) ab ab (by rw [Nat.zero_mul,List.drop_zero];exact ht1) rfl) ?_
  refine go 1 ?_
  refine aC (_,[((34,0),_)]) (fun τ=> (bu aa [((0,8),(34,0))] ar (ha.toI) trivial tr tr rfl rfl ae ae)) ?_
  refine go 3 ?_
  refine aC (_,[]) (fun τ=> gA (ys:=eT ((d.pend++[(c,v)]).drop 1)) _ _ _ aa rfl 1 (d.pend.length+1) (.lit rfl rfl) .dflt ab ab (by rw [List.take_of_length_le (by rw [List.length_drop,bC,hpl];omega)];exact hd1) rfl) ?_
  refine go 1 ?_
  refine aC (_,[]) (fun τ=> gl _ aa rfl (by exact (rfl:_=some [AV.ref (34,0) 0 d.cells.length,AV.sl _ _]))) ?_
  refine go 4 ?_
  exact au (cq (.inr rfl) rfl (.cellA aa rfl rfl rfl) (Le.out [] [(34,0)] (.agg rfl (ai (Jj rfl rfl (by rw [e];exact hal.symm) (by rw [e]) (by rw [e])) (ai (cL (by rw [e];simp) (by rw [e])) aK))) rfl rfl rfl tr trivial))
 rw [if_neg ab] at e
 refine cO (aE ?_)
 refine aB (σ':=an 42 [(3,_),(6,_),(7,_)] [((3,0),_),((6,0),_)] [] []) kp ?_
 refine go 7 ?_
 exact au (cq (.inr rfl) rfl (.cellA aa rfl rfl rfl) (Le.out [] [] (.agg rfl (ai (cL (by rw [e]) (by rw [e])) (ai (cL (by rw [e];exact hpl) (by rw [e])) aK))) rfl rfl rfl trivial trivial))
theorem vm (d:Dk) (c v:Int) (h1:d.cells.length≤1000000) (h2:d.pend.length≤1000000) (ho:eX d):
  Spec Tryz.prog 180 (aI [mf d, .v (.int .i64 c), .v (.int .i64 v)] []) (aA (mf (d.write c v)) []):=by
 by_cases hc:c < 0∨(d.cells.length:Int)≤c
 ·exact wi d c v h1 hc
 exact zk d c v h1 h2 ho ab
end Go.Proofs.YtmjnackchaahbaaGreat

set_option maxHeartbeats 2000000
namespace Go.Proofs.YtmjnackchaahbaaGreat
open Go.RowKit

theorem ke (x:Int):Spec Tryz.prog 65 (aI [.v (.int .i64 x)] []) (aA (.v (.int .i64 (kR x))) []):=by
 refine Spec.ofN Tryz.func65 rfl Tryz.ntmps65 rfl ?_
 exact aG (cp rfl (am (aG (bV rfl (aj (qu _ _ rfl rfl rfl) (aj (qT _ _ rfl rfl rfl) (cp rfl (am (au (eb rfl rfl))))))))))
theorem ky (b:Bool):Spec Tryz.prog 62 (aI [.v (.bool b)] []) (aA (.v (.int .i64 (flag b))) []):=by
 cases b
 ·refine Spec.ofN Tryz.func62 rfl Tryz.ntmps62 rfl ?_
  refine go 12 ?_
  exact au (eb rfl rfl)
 refine Spec.ofN Tryz.func62 rfl Tryz.ntmps62 rfl ?_
 refine go 11 ?_
 exact au (eb rfl rfl)
theorem Iy {y x:Int} (hy:Rg y) (hx:Rg x):Spec Tryz.prog 31 (aI [.v (.int .i64 6), .v (.int .i64 y), .v (.int .i64 x)] []) (aA (.v (.int .i64 (eE .add y x))) []):=by
 refine Spec.ofN Tryz.func31 rfl Tryz.ntmps31 rfl ?_
 refine go 16 ?_
 refine aj (eI (r:=y+x) _ _ rfl rfl (bQ (by unfold Rg at hy hx;omega))) ?_
 refine aj (ap aa al (ke (y+x)) rfl rfl) ?_
 exact cp rfl (am (au (eb rfl rfl)))
theorem Ic {y x:Int} (hy:Rg y) (hx:Rg x):Spec Tryz.prog 31 (aI [.v (.int .i64 7), .v (.int .i64 y), .v (.int .i64 x)] []) (aA (.v (.int .i64 (eE .sub y x))) []):=by
 refine Spec.ofN Tryz.func31 rfl Tryz.ntmps31 rfl ?_
 refine go 21 ?_
 refine aj (bp (r:=y - x) _ _ rfl rfl (bQ (by unfold Rg at hy hx;omega))) ?_
 refine aj (ap aa al (ke (y - x)) rfl rfl) ?_
 exact cp rfl (am (au (eb rfl rfl)))
theorem Is {y x:Int} (hy:Rg y) (hx:Rg x):Spec Tryz.prog 31 (aI [.v (.int .i64 8), .v (.int .i64 y), .v (.int .i64 x)] []) (aA (.v (.int .i64 (eE .mul y x))) []):=by
 refine Spec.ofN Tryz.func31 rfl Tryz.ntmps31 rfl ?_
 refine go 26 ?_
 refine aj (wY (r:=y*x) _ _ rfl rfl (bQ (CV hy hx))) ?_
 refine aj (ap aa al (ke (y*x)) rfl rfl) ?_
 exact cp rfl (am (au (eb rfl rfl)))
theorem Gp {y x:Int} (hy:Rg y) (hx:Rg x) (h0:x=0):Spec Tryz.prog 31 (aI [.v (.int .i64 9), .v (.int .i64 y), .v (.int .i64 x)] []) (aA (.v (.int .i64 (0))) []):=by
 refine Spec.ofN Tryz.func31 rfl Tryz.ntmps31 rfl ?_
 refine go 31 ?_
 refine aj (bb _ _ rfl rfl rfl) (am (fX rfl (decide_eq_true h0) ?_))
 exact aG (cp rfl (am (au (eb rfl rfl))))
theorem Gv {y x:Int} (hy:Rg y) (hx:Rg x) (h0:x≠0):Spec Tryz.prog 31 (aI [.v (.int .i64 9), .v (.int .i64 y), .v (.int .i64 x)] []) (aA (.v (.int .i64 (kR (y.tdiv x)))) []):=by
 refine Spec.ofN Tryz.func31 rfl Tryz.ntmps31 rfl ?_
 refine go 31 ?_
 refine aj (bb _ _ rfl rfl rfl) (am (cP rfl (decide_eq_false h0) ?_))
 refine cO (aG (bV rfl (bV rfl (aj (dP (r:=y.tdiv x) _ _ rfl rfl h0 (bQ (by have:=yi (y:=x) hy;omega))) ?_))))
 refine aj (ap aa al (ke (y.tdiv x)) rfl rfl) ?_
 exact cp rfl (am (au (eb rfl rfl)))
theorem JT {y x:Int} (hy:Rg y) (hx:Rg x):Spec Tryz.prog 31 (aI [.v (.int .i64 11), .v (.int .i64 y), .v (.int .i64 x)] []) (aA (.v (.int .i64 (eE .lt y x))) []):=by
 refine Spec.ofN Tryz.func31 rfl Tryz.ntmps31 rfl ?_
 refine go 37 ?_
 refine aj (ap aa al (ky (decide (y < x))) rfl rfl) ?_
 exact cp rfl (am (au (eb rfl rfl)))
theorem Jx {y x:Int} (hy:Rg y) (hx:Rg x):Spec Tryz.prog 31 (aI [.v (.int .i64 12), .v (.int .i64 y), .v (.int .i64 x)] []) (aA (.v (.int .i64 (eE .le y x))) []):=by
 refine Spec.ofN Tryz.func31 rfl Tryz.ntmps31 rfl ?_
 refine go 42 ?_
 refine aj (ap aa al (ky (decide (y≤x))) rfl rfl) ?_
 exact cp rfl (am (au (eb rfl rfl)))
theorem KM {y x:Int} (hy:Rg y) (hx:Rg x):Spec Tryz.prog 31 (aI [.v (.int .i64 13), .v (.int .i64 y), .v (.int .i64 x)] []) (aA (.v (.int .i64 (eE .eq y x))) []):=by
 refine Spec.ofN Tryz.func31 rfl Tryz.ntmps31 rfl ?_
 refine go 42 ?_
 refine aj (bb _ _ rfl rfl rfl) (aj (ap aa al (ky (decide (y=x))) rfl rfl) ?_)
 exact cp rfl (am (au (eb rfl rfl)))
theorem fL {o:Opc} {y x:Int} (hy:Rg y) (hx:Rg x) (ho:o= .add∨o= .sub∨o= .mul∨o= .div∨o= .lt∨o= .le∨o= .eq):Spec Tryz.prog 31 (aI [.v (.int .i64 (o.num:Int)), .v (.int .i64 y), .v (.int .i64 x)] []) (aA (.v (.int .i64 (eE o y x))) []):=by
 rcases ho with rfl | rfl | rfl | rfl | rfl | rfl | rfl
 ·exact Iy hy hx
 ·exact Ic hy hx
 ·exact Is hy hx
 ·by_cases h0:x=0
  ·rw [show eE .div y x=0 from if_pos h0];exact Gp hy hx h0
  rw [show eE .div y x=kR (y.tdiv x) from if_neg h0];exact Gv hy hx h0
 ·exact JT hy hx
 ·exact Jx hy hx
 exact KM hy hx
theorem yO (l:List Int) (i:Nat) (k:Int) (hk:1≤k∧k≤1000) (hi:i < l.length) (hn:l.length≤4611686018427387904):Spec Tryz.prog 32 (aI [.sl l.length (ba l), .v (.int .i64 (i:Int)), .v (.int .i64 k)] []) (aA (.v (.int .i64 (el l i k))) []):=by
 have htm:=Hz (l.getD i 0) k hk.1
 refine Spec.ofN Tryz.func32 rfl Tryz.ntmps32 rfl ?_
 refine go 6 ?_
 refine aj (cT (r:=false) _ _ rfl rfl (decide_eq_false ab)) ?_
 refine go 4 ?_
 refine aZ rfl rfl (eg (r:=false) _ _ rfl rfl (decide_eq_false ab)) ?_
 refine go 7 ?_
 refine aj (aQ _ _ aa rfl rfl _ rfl ab (by (simp only [aq,aJ,aM,aq,bT,bm];omega)) (by exact Nat.mul_one _)) ?_
 refine aj (bl _ aa rfl (by exact cw _ _ ab) rfl) ?_
 refine bV rfl (aj (de _ _ rfl rfl ab rfl) ?_)
 refine bV rfl (aj (eI (r:=(l.getD i 0).tmod k+k) _ _ rfl rfl (bQ ab)) ?_)
 refine bV rfl (aj (de (r:=el l i k) _ _ rfl rfl ab htm.2.2) ?_)
 exact cp rfl (am (au (eb rfl rfl)))
theorem wT (l:List Int) (i:Nat) (k:Int) (hi:l.length≤i) (hn:i≤4611686018427387904):Spec Tryz.prog 32 (aI [.sl l.length (ba l), .v (.int .i64 (i:Int)), .v (.int .i64 k)] []) (aA (.v (.int .i64 (el l i k))) []):=by
 rw [show el l i k=0 by unfold el;rw [List.getD_eq_getElem?_getD,List.getElem?_eq_none hi];simp]
 refine Spec.ofN Tryz.func32 rfl Tryz.ntmps32 rfl ?_
 refine go 6 ?_
 refine aj (cT (r:=false) _ _ rfl rfl (decide_eq_false ab)) ?_
 refine go 4 ?_
 refine aZ rfl rfl (eg (r:=true) _ _ rfl rfl (decide_eq_true ab)) ?_
 refine go 6 ?_
 exact au (eb rfl rfl)
theorem vL (l:List Int) (i:Nat) (k:Int) (hk:1≤k∧k≤1000) (hi:i≤90000) (hn:l.length≤4611686018427387904):Spec Tryz.prog 32 (aI [.sl l.length (ba l), .v (.int .i64 (i:Int)), .v (.int .i64 k)] []) (aA (.v (.int .i64 (el l i k))) []):=by
 by_cases h:i < l.length
 ·exact yO l i k hk h hn
 exact wT l i k ab ab
theorem yG (l:List Ac) (hl:l.length≤1000000):Spec Tryz.prog 63 (aI [.sl l.length (pt l)] []) (aA (.v (.int .i64 (bL l:Int))) []):=by
 refine Spec.ofN Tryz.func63 rfl Tryz.ntmps63 rfl ?_
 refine go 6 ?_
 refine aF fun K3 hK3=> ?_
 refine aG (cp rfl (am (aH ?_)))
 refine aS (α:=Nat) (fun k=> k≤l.length) 20 [(0,_)] [] (fun k=> [(4, .v (.int .i64 (k:Int))),(3, .v (.int .i64 (bL (l.take k):Int)))]) (fun k=> []) [] [] (fun k=> l.length - k) 0 ?_ (kj [] [] []) ?_
 ·omega
 intro k hk
 have hle:bL (l.take k)≤k:=Nat.le_trans List.countP_le_length (by rw [List.length_take];omega)
 refine aF fun K5 hK5=> ?_
 refine go 6 ?_
 refine ax rfl (fun hc8=> ?_) (fun hc8=> ?_)
 ·have hs:l.take (k+1)=l.take k++[mm l k]:=by rw [List.take_succ_eq_append_getElem ab];congr 2;simp [mm,show k < l.length by omega]
  have hsn:=fj (l.take k) (mm l k)
  rw [← hs] at hsn
  refine aR (hK5 _ ?_)
  refine aE (aH (aG (gT rfl (bV rfl (aj (aQ _ _ aa rfl rfl _ rfl ab (by (simp only [aq,aJ,aM,aq,bT,bm];omega)) ag) ?_)))))
  refine aj (eJ _ aa rfl rfl) (aj (bl _ aa rfl (by exact BD _ _ ab) rfl) ?_)
  refine aj (bb _ _ rfl rfl rfl) (am (ax rfl (fun hc16=> ?_) (fun hc16=> ?_)))
  ·rw [if_pos hc16] at hsn
   refine go 9 ?_
   refine ay (⟨k+1,?_,?_,?_⟩)
   ·omega
   ·refine Le.mkJ [] [] rfl ?_ ?_ trivial trivial ?_
    ·exact ⟨(iS rfl),(aN ag),(aN ab),trivial⟩
    ·exact trivial
    kernel_rfl
   omega
  rw [if_neg hc16] at hsn
  refine go 5 ?_
  refine ay (⟨k+1,?_,?_,?_⟩)
  ·omega
  ·refine Le.mkJ [] [] rfl ?_ ?_ trivial trivial ?_
   ·exact ⟨(iS rfl),(aN ag),(aN ab),trivial⟩
   ·exact trivial
   kernel_rfl
  omega
 obtain rfl:k=l.length:=by omega
 rw [List.take_length]
 refine aW (id (hK3 _ ?_))
 exact aG (bV rfl (cp rfl (am (au (eb rfl rfl)))))
end Go.Proofs.YtmjnackchaahbaaGreat

set_option maxHeartbeats 2000000
namespace Go.Proofs.YtmjnackchaahbaaGreat
open Go.RowKit

theorem rE (xs:List Int) (x:Int) (h1:xs.length≤4611686018427387904):
  Spec Tryz.prog 35 (aI [.sl xs.length (ba xs), .v (.int .i64 x)] []) (aA (.v (.bool (decide (x∈xs)))) []):=by
 refine Spec.ofN Tryz.func35 rfl Tryz.ntmps35 rfl ?_
 refine aG (gn rfl (am (aF fun K2 hK2=> ?_)))
 refine aG (cp rfl (am (aH ?_)))
 refine aS (α:=Nat) (fun k=> k≤xs.length∧x∉xs.take k) 18 [(0,_),(1,_)] [] (fun k=> [(5, .v (.int .i64 (k:Int)))]) (fun k=> []) [] [] (fun k=> xs.length - k) 0 ?_ (kj [] [] []) ?_
 ·exact ⟨Nat.zero_le _,by simp⟩
 intro k hk
 obtain ⟨hk,hnt⟩:=hk
 refine aF fun K4 hK4=> ?_
 refine go 6 ?_
 refine ax rfl (fun hc9=> ?_) (fun hc9=> ?_)
 ·have hkx:k < xs.length:=by omega
  have hgk:xs.getD k 0=xs[k]:=by rw [List.getD_eq_getElem?_getD,List.getElem?_eq_getElem hkx];rfl
  refine aR (hK4 _ ?_)
  refine aE (aH (aG (gT rfl (bV rfl (aj (aQ _ _ aa rfl rfl _ rfl ab (by (simp only [aq,aJ,aM,aq,bT,bm];omega)) (by exact Nat.mul_one _)) ?_)))))
  refine aj (bl _ aa rfl (by exact cw _ _ ab) rfl) ?_
  refine bV rfl (aj (bb _ _ rfl rfl rfl) (am (ax rfl (fun hc17=> ?_) (fun hc17=> ?_))))
  ·refine aG (gn rfl (am (au (qZ rfl rfl ?_))))
   rw [hgk] at hc17
   exact decide_eq_true (hc17 ▸ List.getElem_mem hkx)
  refine go 5 ?_
  refine ay (⟨k+1,?_,?_,?_⟩)
  ·rw [hgk] at hc17
   refine ⟨by omega,?_⟩
   rw [List.take_succ_eq_append_getElem hkx,List.mem_append,List.mem_singleton]
   exact fun h=> h.elim hnt fun e=> hc17 (by rw [e])
  ·exact kj [] [] []
  omega
 have hall:x∉xs:=by rwa [List.take_of_length_le ab] at hnt
 refine aW (id (hK2 _ ?_))
 refine aG (gn rfl (am (au (qZ rfl rfl ?_))))
 exact decide_eq_false hall
def sZ (l:List Int) (x:Int):List Int:=if x∈l then l else l.takeWhile (fun y=> decide (y < x))++[x]++l.dropWhile (fun y=> decide (y < x))
theorem DK: ∀ (l:List Int) (x:Int) (k:Nat),(∀ j,j < k→l.getD j 0 < x)→k≤l.length→(k < l.length→ ¬ l.getD k 0 < x)→l.takeWhile (fun y=> decide (y < x))=l.take k∧l.dropWhile (fun y=> decide (y < x))=l.drop k
 | [],x,k,_,hk,_=> by simp
 | a::l,x,0,_,_,h=> by
  have: ¬ a < x:=by simpa using h (by simp)
  simp [List.takeWhile_cons,List.dropWhile_cons,this]
 | a::l,x,k+1,h,hk,h2=> by
  have ha:a < x:=by simpa using h 0 ab
  obtain ⟨h3,h4⟩:=DK l x k (fun j hj=> by simpa using h (j+1) ab) (by simpa using hk) (fun h5=> by simpa using h2 (by simpa using h5))
  simp [List.takeWhile_cons,List.dropWhile_cons,ha,h3,h4]
theorem zc (l:List Int) (x:Int) (hl:l.length≤1000000):
  Spec Tryz.prog 61 (aI [.sl l.length (ba l), .v (.int .i64 x)] []) (aA (.sl (sZ l x).length (ba (sZ l x))) []):=by
 have hh:=rE l x ab
 unfold sZ
 by_cases hx:x∈l
 ·rw [if_pos hx]
  rw [decide_eq_true hx] at hh
  refine Spec.ofN Tryz.func61 rfl Tryz.ntmps61 rfl ?_
  refine aG (aj (aX _ ea) (am (aE (aG (gT rfl (bV rfl (aj (ap aa al (hh) rfl rfl) ?_)))))))
  refine go 6 ?_
  exact au (qW rfl rfl)
 rw [if_neg hx]
 rw [decide_eq_false hx] at hh
 refine Spec.ofN Tryz.func61 rfl Tryz.ntmps61 rfl ?_
 refine aG (aj (aX _ ea) (am (aE (aG (gT rfl (bV rfl (aj (ap aa al (hh) rfl rfl) ?_)))))))
 refine am (cP rfl rfl (cO (aG (aj (pJ (5,0) _ 3 1 rfl rfl) ?_))))
 refine am (aG (cp rfl (am (aF fun K6 hK6=> ?_))))
 refine aH ?_
 refine aS (α:=Nat) (fun k=> k≤l.length∧ ∀ j,j < k→l.getD j 0 < x) 41 [(0,_),(1,_)] [] (fun k=> [(6, .v (.int .i64 (k:Int))),(5, .ref (5,0) 0 (l.take k).length)]) (fun k=> [((5,0), .row 3 1 (ba (l.take k)))]) [] [] (fun k=> l.length - k) 0 ?_ (kj [2] [] []) ?_
 ·exact ⟨Nat.zero_le _,fun j hj=> absurd hj (Nat.not_lt_zero _)⟩
 intro k hk
 obtain ⟨hk,hkj⟩:=hk
 have hlt:(l.take k).length=k:=by rw [List.length_take];omega
 refine aF fun K7 hK7=> ?_
 refine aF fun K8 hK8=> ?_
 refine go 6 ?_
 refine cj (fun hg15=> ?_) (fun hg15=> ?_)
 ·refine go 2 ?_
  refine aZ rfl rfl (aQ _ _ aa rfl rfl _ rfl ab (by (simp only [aq,aJ,aM,aq,bT,bm];omega)) (by exact Nat.mul_one _)) ?_
  refine aZ rfl rfl (bl _ aa rfl (by exact cw _ _ ab) rfl) ?_
  refine go 3 ?_
  refine ay (hK8 _ ?_)
  refine ax rfl (fun hc22=> ?_) (fun hc22=> ?_)
  ·have hkl:k < l.length:=by omega
   have hs:l.take (k+1)=l.take k++[l.getD k 0]:=by rw [List.take_succ_eq_append_getElem hkl,List.getD_eq_getElem?_getD,List.getElem?_eq_getElem hkl];rfl
   have hl1:(l.take (k+1)).length=(l.take k).length+1:=by rw [hs];simp
   refine aR (hK7 _ ?_)
   refine go 5 ?_
   refine aj (aQ _ _ aa rfl rfl _ rfl ab (by (simp only [aq,aJ,aM,aq,bT,bm];omega)) (by exact Nat.mul_one _)) ?_
   refine aj (bl _ aa rfl (by exact cw _ _ ab) rfl) ?_
   refine go 1 ?_
   refine aj (bG (29,0) _ _ aa rfl rfl (by simp) (.sl rfl) ab rfl ((gW _ _).trans (congrArg ba hs.symm)) hl1.symm) ?_
   refine dZ rfl (am ?_)
   refine aB (σ':=an 41 [(0,_),(1,_),(5,_),(6,_)] [((29,0),_)] [] []) kp ?_
   refine go 4 ?_
   refine ay (⟨k+1,?_,?_,?_⟩)
   ·exact ⟨by omega,fun j hj=> (Nat.lt_or_ge j k).elim (fun h=> hkj j h) fun h=> (show j=k by omega) ▸ hc22⟩
   ·refine Le.mkJ [((5,0),(29,0))] [] rfl ?_ ?_ trivial trivial ?_
    ·exact ⟨(by repeat' (exact Lv.sl)),(by repeat' (exact Lv.v)),(aN ag),(ca rfl ag),trivial⟩
    ·exact ⟨(cD rfl rfl rfl ag),trivial⟩
    kernel_rfl
   omega
  obtain ⟨ht1,ht2⟩:=DK l x k hkj hk fun _=> by omega
  refine aW (id (hK6 _ ?_))
  refine go 4 ?_
  refine aj (bG (35,0) _ _ aa rfl rfl (by simp) (.sl rfl) ab rfl (gW (l.take k) x) (show (l.take k).length+1=(l.take k++[x]).length by simp)) ?_
  refine dZ rfl (am (aE ?_))
  refine aB (σ':=an 41 [(0,_),(5,_),(6,_)] [((35,0),_)] [] []) kp ?_
  refine aD (ij rfl (gT rfl (bV rfl (aj (gA _ _ _ aa rfl k l.length (.lit rfl rfl) .dflt ab (Nat.le_refl _) (show _=ba (l.drop k) by simp [ba,List.take_of_length_le]) (show l.length - k=(l.drop k).length by simp)) ?_))))
  refine aj (bG (40,0) _ _ aa rfl rfl (by simp) (.sl (by simp)) (by simp;omega) rfl (show _=ba (l.take k++[x]++l.drop k) by simp [ba]) (show _=(l.take k++[x]++l.drop k).length by simp;omega)) ?_
  refine dZ rfl (am (au ?_))
  rw [ht1,ht2]
  exact cq (.inr rfl) rfl (.tmp mP) (Le.out [] [(40,0)] (dI rfl rfl (by simp) rfl) rfl rfl rfl tr trivial)
 obtain ⟨ht1,ht2⟩:=DK l x k hkj hk fun h=> absurd h ab
 refine go 7 ?_
 refine ay (hK8 _ ?_)
 refine cP rfl rfl (aW (id (hK6 _ ?_)))
 refine go 4 ?_
 refine aj (bG (35,0) _ _ aa rfl rfl (by simp) (.sl rfl) ab rfl (gW (l.take k) x) (show (l.take k).length+1=(l.take k++[x]).length by simp)) ?_
 refine dZ rfl (am (aE ?_))
 refine aB (σ':=an 41 [(0,_),(5,_),(6,_)] [((35,0),_)] [] []) kp ?_
 refine aD (ij rfl (gT rfl (bV rfl (aj (gA _ _ _ aa rfl k l.length (.lit rfl rfl) .dflt ab (Nat.le_refl _) (show _=ba (l.drop k) by simp [ba,List.take_of_length_le]) (show l.length - k=(l.drop k).length by simp)) ?_))))
 refine aj (bG (40,0) _ _ aa rfl rfl (by simp) (.sl (by simp)) (by simp;omega) rfl (show _=ba (l.take k++[x]++l.drop k) by simp [ba]) (show _=(l.take k++[x]++l.drop k).length by simp;omega)) ?_
 refine dZ rfl (am (au ?_))
 rw [ht1,ht2]
 exact cq (.inr rfl) rfl (.tmp mP) (Le.out [] [(40,0)] (dI rfl rfl (by simp) rfl) rfl rfl rfl tr trivial)
end Go.Proofs.YtmjnackchaahbaaGreat

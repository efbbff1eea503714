/- part 14 -/
import Derived.Test.YtmjnackchaahbaaGreatNpZ13
set_option linter.unusedSimpArgs false
set_option linter.unusedVariables false
set_option maxHeartbeats 2000000
namespace Go.Proofs.YtmjnackchaahbaaGreat
open Go.RowKit

abbrev AZ (up:Bool) (ver ep ck:Int) (ce pe vo tm:AV) (e:Nat→Int) (wt:Int):List AV:=[.v (.bool up), .v (.int .i64 ver), .v (.int .i64 ep), .v (.int .i64 ck),ce,pe,vo,tm, .v (.int .i64 (e 0)), .v (.int .i64 (e 1)), .v (.int .i64 (e 2)), .v (.int .i64 (e 3)), .v (.int .i64 (e 4)), .v (.int .i64 (e 5)), .v (.int .i64 (e 6)), .v (.int .i64 (e 7)), .v (.int .i64 (e 8)), .v (.int .i64 (e 9)), .v (.int .i64 (e 10)), .v (.int .i64 (e 11)), .v (.int .i64 (e 12)), .v (.int .i64 (e 13)), .v (.int .i64 (e 14)), .v (.int .i64 (e 15)), .v (.int .i64 (e 16)), .v (.int .i64 (e 17)), .v (.int .i64 (e 18)), .v (.int .i64 (e 19)), .v (.int .i64 (e 20)), .v (.int .i64 (e 21)), .v (.int .i64 (e 22)), .v (.int .i64 (e 23)), .v (.int .i64 (e 24)), .v (.int .i64 (e 25)), .v (.int .i64 (e 26)), .v (.int .i64 (e 27)), .v (.int .i64 (e 28)), .v (.int .i64 (e 29)), .v (.int .i64 (e 30)), .v (.int .i64 (e 31)), .v (.int .i64 (e 32)), .v (.int .i64 (e 33)), .v (.int .i64 (e 34)), .v (.int .i64 (e 35)), .v (.int .i64 (e 36)), .v (.int .i64 (e 37)), .v (.int .i64 (e 38)), .v (.int .i64 (e 39)), .v (.int .i64 (e 40)), .v (.int .i64 wt), .v (.int .i64 0), .v (.int .i64 0)]
theorem jA (up:Bool) (ver ep ck:Int) (ce pe vo tm:AV) (e:Nat→Int) (wt:Int) (h:Nat) (hh:h < 41):(AZ up ver ep ck ce pe vo tm e wt)[8+h]? =some (.v (.int .i64 (e h))):=by
 rcases (show h=0∨h=1∨h=2∨h=3∨h=4∨h=5∨h=6∨h=7∨h=8∨h=9∨h=10∨h=11∨h=12∨h=13∨h=14∨h=15∨h=16∨h=17∨h=18∨h=19∨h=20∨h=21∨h=22∨h=23∨h=24∨h=25∨h=26∨h=27∨h=28∨h=29∨h=30∨h=31∨h=32∨h=33∨h=34∨h=35∨h=36∨h=37∨h=38∨h=39∨h=40 by omega) with rfl | rfl | rfl | rfl | rfl | rfl | rfl | rfl | rfl | rfl | rfl | rfl | rfl | rfl | rfl | rfl | rfl | rfl | rfl | rfl | rfl | rfl | rfl | rfl | rfl | rfl | rfl | rfl | rfl | rfl | rfl | rfl | rfl | rfl | rfl | rfl | rfl | rfl | rfl | rfl | rfl <;> rfl
theorem pV (up:Bool) (ver ep ck:Int) (ce pe vo tm:AV) (e:Nat→Int) (wt:Int) (h:Nat) (hh:h < 41) (x:Int):fI (AZ up ver ep ck ce pe vo tm e wt) (8+h) [.v (.int .i64 x)]=AZ up ver ep ck ce pe vo tm (kO e h x) wt:=by
 rcases (show h=0∨h=1∨h=2∨h=3∨h=4∨h=5∨h=6∨h=7∨h=8∨h=9∨h=10∨h=11∨h=12∨h=13∨h=14∨h=15∨h=16∨h=17∨h=18∨h=19∨h=20∨h=21∨h=22∨h=23∨h=24∨h=25∨h=26∨h=27∨h=28∨h=29∨h=30∨h=31∨h=32∨h=33∨h=34∨h=35∨h=36∨h=37∨h=38∨h=39∨h=40 by omega) with rfl | rfl | rfl | rfl | rfl | rfl | rfl | rfl | rfl | rfl | rfl | rfl | rfl | rfl | rfl | rfl | rfl | rfl | rfl | rfl | rfl | rfl | rfl | rfl | rfl | rfl | rfl | rfl | rfl | rfl | rfl | rfl | rfl | rfl | rfl | rfl | rfl | rfl | rfl | rfl | rfl <;> rfl
abbrev aP (s:Ns):Nat→Int:=fun k=> s.counts.getD k 0
abbrev HN (s:Ns) (tm:AV):List AV:=AZ s.up s.ver s.epoch s.clock (.sl s.dk.cells.length (be s.dk.cells)) (.sl s.dk.pend.length (iu s.dk.pend)) (.sl s.vol.length (be s.vol)) tm (aP s) s.wait
abbrev QO (s:Ns):List AV:=HN s (.sl s.timers.length (be s.timers))
abbrev gm (s:Ns):AV:= .agg (QO s)
structure fB (s:Ns):Prop where
 c:s.dk.cells.length≤1000
 p:s.dk.pend.length≤1000
 v:s.vol.length≤1000
 t:s.timers.length≤1000
theorem mT (l:List Int) (h:l.length≤1000000):Spec Tryz.prog 117 (aI [.sl l.length (be l)] []) (aC (.ref (0,8) 0 l.length) [((0,8), .row 3 1 (be l))]):=by
 refine Spec.ofN Tryz.func117 rfl Tryz.ntmps117 rfl ?_
 refine aG (aj (aX _ eh) (go 4 ?_))
 refine aj (nX (6,0) _ _ aa rfl rfl _ rfl rfl ab rfl rfl) ?_
 refine go 5 ?_
 refine aj (Br _ _ aa rfl rfl (by simp [jq]) (.sl (by rw [aq,Nat.mul_one])) rfl rfl) ?_
 exact am (aG (iE rfl (eu rfl (am (au (cg (.inr rfl) rfl (.tmp mW) (Le.out [((0,8),(6,0))] [] (cf rfl rfl) rfl rfl rfl trivial ⟨⟨rfl,⟨_,rfl, .rowE (by rw [List.take_of_length_le (by rw [aq];omega),List.drop_of_length_le (by simp [jq]),List.append_nil])⟩,rfl⟩,trivial⟩)))))))
theorem Hr (l:List (Int×Int)) (h:l.length≤1000000) (h0:0 < l.length):Spec Tryz.prog 118 (aI [.sl l.length (iu l)] []) (aC (.sl l.length (iu l)) []):=by
 refine Spec.ofN Tryz.func118 rfl Tryz.ntmps118 rfl ?_
 refine aG (aj (aX _ eh) (am (aE (aG (gR rfl (aj (tL _ _ Tryz.underlying78 (.inl ⟨_,rfl⟩) h0 rfl) ?_))))))
 refine am (cK rfl rfl (cE (aG (aj (qM _ aa rfl) (gR rfl (aj (tg _ _ aa rfl (.sl (by rw [bA])) ab) ?_))))))
 exact yq rfl (am (au (pO rfl rfl)))
theorem FK:Spec Tryz.prog 118 (aI [.sl 0 (iu [])] []) (aC (.sl 0 (iu [])) []):=by
 refine Spec.ofN Tryz.func118 rfl Tryz.ntmps118 rfl ?_
 refine aG (aj (aX _ eh) (am (aE (aG (gR rfl (EC (uc _ _ Tryz.underlying78 rfl rfl) ?_))))))
 rintro _ ⟨b4,rfl⟩
 refine am (ay rfl (fun hc4=> ?_) (fun hc4=> ?_))
 ·exact aG (aj (aX _ eh) (am (au (cg (.inr rfl) rfl (.tmp kU) (Le.out [] [] .nil rfl rfl rfl trivial trivial)))))
 refine cE (aG (aj (qM _ aa rfl) (gR rfl (aj (tg _ _ aa rfl (.sl rfl) ab) ?_))))
 exact yq rfl (am (au (pO rfl rfl)))
theorem uI (l:List (Int×Int)) (h:l.length≤1000000):Spec Tryz.prog 118 (aI [.sl l.length (iu l)] []) (aC (.sl l.length (iu l)) []):=by
 by_cases h0:0 < l.length
 ·exact Hr l h h0
 obtain rfl:l=[]:=List.eq_nil_of_length_eq_zero ab
 exact FK
set_option maxHeartbeats 1000000 in
theorem jT (s:Ns) (hs:fB s):Spec Tryz.prog 86 (aI [gm s] []) (aC (.agg (HN s (.ref (1,8) 0 s.timers.length))) [((1,8), .row 3 1 (be s.timers))]):=by
 have f1:=mT s.vol (by have:=hs.v;omega)
 have f2:=mT s.timers (by have:=hs.t;omega)
 have f3:=mT s.dk.cells (by have:=hs.c;omega)
 have f4:=uI s.dk.pend (by have:=hs.p;omega)
 refine Spec.ofN Tryz.func86 rfl Tryz.ntmps86 rfl ?_
 refine go 7 ?_
 refine aE (dA 14 [(7,0),(11,0),(16,0)] ?_)
 refine go 6 ?_
 refine aB (_,[((7,0),_)]) (fun τ=> (oL rfl aa [((0,8),(7,0))] ar (f1.toI) trivial tr tr rfl rfl ae ae)) ?_
 refine go 7 ?_
 refine aB (_,[((11,0),_)]) (fun τ=> (oL rfl aa [((0,8),(11,0))] ar (f2.toI) trivial tr tr rfl rfl ae ae)) ?_
 refine go 9 ?_
 refine aB (_,[((16,0),_)]) (fun τ=> (oL rfl aa [((0,8),(16,0))] ar (f3.toI) trivial tr tr rfl rfl ae ae)) ?_
 refine go 11 ?_
 refine aE ?_
 refine az (σ':=an 28 [(1,_),(2,_)] [((1,0),_),((2,0),_),((7,0),_),((11,0),_),((16,0),_)] [] []) kp ?_
 refine go 4 ?_
 refine aj (ap aa al (f4) rfl rfl) ?_
 refine go 8 ?_
 exact au (cg (.inr rfl) rfl (.cellA aa rfl rfl rfl) (Le.out [((1,8),(11,0))] [(7,0),(16,0)] (.agg rfl (wv (ai (Ba rfl rfl rfl rfl) (ai .sl (ai (Ba rfl rfl rfl rfl) lz))))) rfl rfl rfl tr ob))
theorem zy (d:Dk) (h1:d.cells.length≤1000000) (h2:d.pend.length≤1000000) (ho:eL d):
  Spec Tryz.prog 115 (aI [lA d] []) (aC (.agg [.ref (0,8) 0 d.cells.length, .v (.slice none 0 0)]) [((0,8), .row 3 1 (be d.view))]):=by
 have hd:=gZ d h1 h2
 have ha:=iQ d.cells d.pend h2 h1 ho
 refine Spec.ofN Tryz.func115 rfl Tryz.ntmps115 rfl ?_
 refine go 6 ?_
 refine aj (bR aa [((0,8),(5,0)),((1,8),(5,1))] ar (hd.toI) trivial tr ae) ?_
 refine go 3 ?_
 refine aF fun K3 hK3=> ?_
 refine az (Le.frzB (ys:=iu d.pend) (3,0) 1 rfl rfl rfl rfl (by rw [List.drop_zero,oO]) (by rw [bA];omega)) ?_
 refine go 5 ?_
 refine aj (bR aa [((0,9),(5,0))] ar (ha) ob tr ae) ?_
 refine ax (hK3 _ ?_)
 refine go 8 ?_
 exact au (zX [((0,8),(5,0))])
theorem sO (d:Dk) (h1:d.cells.length≤1000000) (h2:d.pend.length≤1000000) (ho:eL d):
  Spec Tryz.prog 82 (aI [lA d] []) (aC (.ref (0,8) 0 d.cells.length) [((0,8), .row 3 1 (be d.view))]):=by
 have hs:=zy d h1 h2 ho
 refine Spec.ofN Tryz.func82 rfl Tryz.ntmps82 rfl ?_
 refine aG (aj (dZ (1,0) _ rfl rfl) (aj (aX _ eh) (go 3 ?_)))
 refine aj (bR aa [((0,8),(4,0))] ar (hs.toI) trivial tr ae) ?_
 refine go 3 ?_
 exact au (mX [((0,8),(4,0))])
theorem lY (a b:List Int):be a++be b=be (a++b):=by simp [be]
theorem mO (s:Ns) (hs:fB s) (ho:eL s.dk):Spec Tryz.prog 47 (aI [gm s] []) (aC (.sl (s.dk.view++s.vol).length (be (s.dk.view++s.vol))) []):=by
 have hc:=hs.c
 have hp:=hs.p
 have hv:=hs.v
 have hw:=sO s.dk ab ab ho
 have hl:s.dk.view.length=s.dk.cells.length:=dF _ _
 have hl2:s.dk.cells.length+s.vol.length=(s.dk.view++s.vol).length:=by rw [List.length_append,hl]
 refine Spec.ofN Tryz.func47 rfl Tryz.ntmps47 rfl ?_
 refine aG (aj (dZ (1,0) _ rfl rfl) (aj (aX _ eh) (am (aE (nT 6 [3,4,5,6,7,8] [(5,0),(5,0),(8,0)] ae ae rfl (rfl:_=[_,_,_,_,_,_]) (rfl:_=[_]) ?_)))))
 refine bP (_,[]) (fun τ=> di _ aa rfl rfl rfl) ?_
 refine bO (rfl:_=[_]) ?_
 refine bP (_,[]) (fun τ=> jM _ aa rfl rfl rfl rfl) ?_
 refine bO (rfl:_=[_,_]) ?_
 refine bP (_,[((5,0),_)]) (fun τ=> (bp aa [((0,8),(5,0))] ar (hw.toI) trivial tr tr rfl rfl ae ae)) ?_
 refine bO (rfl:_=[_,_,_]) ?_
 refine bP (_,[]) (fun τ=> di _ aa rfl rfl rfl) ?_
 refine bO (rfl:_=[_,_,_,_]) ?_
 refine bP (_,[]) (fun τ=> bB _ aa rfl rfl xn) ?_
 refine bO (rfl:_=[_,_,_,_,_]) ?_
 refine bP (_,[((5,0), .gone),((8,0), .gone)]) (fun τ=> wG (8,0) _ _ aa rfl rfl (by rw [aq,hl,Nat.mul_one]) (.sl (by rw [aq,Nat.mul_one])) ab rfl rfl rfl (lY _ _) hl2) ?_
 refine bO (rfl:_=[_,_,_,_,_,_]) ?_
 refine lp ⟨⟨rfl,by kernel_rfl,by kernel_rfl⟩,?_⟩
 exact yq rfl (am (au (pO rfl rfl)))
end Go.Proofs.YtmjnackchaahbaaGreat

set_option maxHeartbeats 2000000
namespace Go.Proofs.YtmjnackchaahbaaGreat
open Go.RowKit

theorem ii (s:Ns) (a:Na) (h:Nat) (hh:h < 41) (h1:a.draws.length≤1000) (h2:a.keeps.length≤1000):
  Spec Tryz.prog 52 (aI [gm s,ur a, .v (.int .i64 (h:Int))] []) (aC (.ptr (4,8) 0) [((4,8), .box 103 [.v (.int .i64 1), .v (.int .i64 (h:Int)), .v (.int .i64 (aP s h)), .sl (eJ 1 (h:Int) (aP s h) a.tick a.draws a.keeps).length (ng (eJ 1 (h:Int) (aP s h) a.tick a.draws a.keeps)), .v (.slice none 0 0)])]):=by
 have hg:=jA s.up s.ver s.epoch s.clock (.sl s.dk.cells.length (be s.dk.cells)) (.sl s.dk.pend.length (iu s.dk.pend)) (.sl s.vol.length (be s.vol)) (.sl s.timers.length (be s.timers)) (aP s) s.wait h hh
 have ha:=iW 1 (h:Int) (aP s h) a h1 h2
 generalize eJ 1 (h:Int) (aP s h) a.tick a.draws a.keeps=A at ha
 refine Spec.ofN Tryz.func52 rfl Tryz.ntmps52 rfl ?_
 refine go 9 ?_
 refine aj (bJ _ _ aa rfl rfl rfl h rfl ab (by exact congrArg (fun z=> 0+8+z) (Nat.mul_one h))) ?_
 refine aj (bB _ aa rfl rfl (by exact (congrArg (fun z=> (QO s)[z]?) (show 0+8+h=8+h by omega)).trans hg)) ?_
 refine go 4 ?_
 refine aE ?_
 refine az (σ':=an 20 [(4,_),(7,_)] [((4,0),_),((7,0),_)] [] []) kp ?_
 refine dA 7 [(19,0)] ?_
 refine go 6 ?_
 refine aB (_,[]) (fun τ=> (ap aa al (ha) rfl rfl)) ?_
 refine go 1 ?_
 refine aB (_,[]) (fun τ=> gA _ aa rfl (by exact (rfl:_=some [AV.v _,AV.v _,AV.v _,AV.sl _ _,AV.v _]))) ?_
 refine go 1 ?_
 refine aB (_,[((19,0),_)]) (fun τ=> dZ (19,0) _ rfl rfl) ?_
 refine go 5 ?_
 exact au (cg (.inr rfl) rfl (.tmp tz) (Le.out [((4,8),(19,0))] [] (bs rfl) rfl rfl rfl trivial ob))
theorem sD:Spec Tryz.prog 41 (aI [] []) (aC (gm {}) []):=by
 refine Spec.ofN Tryz.func41 rfl Tryz.ntmps41 rfl ?_
 refine go 7 ?_
 exact au (zX [])
theorem Em (x:Int):Spec Tryz.prog 228 (aI [.v (.int .i64 x)] []) (aC (.v (.bool false)) []):=by
 refine Spec.ofN Tryz.func228 rfl Tryz.ntmps228 rfl ?_
 refine go 6 ?_
 refine aj (cM (r:=false) _ _ rfl rfl (bne_self_eq_false _)) ?_
 exact gv rfl (am (au (dU rfl rfl)))
theorem AO (x:Int):Spec Tryz.prog 208 (aI [.v (.int .i64 x)] []) (aC (.v (.bool false)) []):=by
 refine Spec.ofN Tryz.func208 rfl Tryz.ntmps208 rfl ?_
 refine go 6 ?_
 refine aj (cM (r:=false) _ _ rfl rfl (bne_self_eq_false _)) ?_
 exact gv rfl (am (au (dU rfl rfl)))
theorem zo (a b:Int):Spec Tryz.prog 207 (aI [.v (.int .i64 a), .v (.int .i64 b)] []) (aC (.v (.bool (decide (a < b)))) []):=by
 refine Spec.ofN Tryz.func207 rfl Tryz.ntmps207 rfl ?_
 refine aG (gv rfl (am (aG (bW rfl (aj (ap aa al (Em a) rfl rfl) ?_)))))
 refine go 8 ?_
 refine aV rfl rfl (cZ (r:=decide (a < b)) _ _ rfl rfl rfl) ?_
 refine go 3 ?_
 exact au (dU rfl rfl)
theorem kK (l:List Int) (k:Int) (hl:l.length≤1):
  Spec Tryz.prog 184 (aI [.sl l.length (be l), .v (.int .i64 k)] []) (aC (.tup [.v (.int .i64 (if 0 < l.length∧l.getD 0 0 < k then 1 else 0)), .v (.bool (decide (0 < l.length∧l.getD 0 0=k)))]) []):=by
 have hg:=fun h:0 < l.length=> cI l 0 h
 refine Spec.ofN Tryz.func184 rfl Tryz.ntmps184 rfl ?_
 refine go 14 ?_
 refine aF fun K4 hK4=> ?_
 refine aH ?_
 refine aT (α:=Nat×Nat) (fun z=> z.1≤z.2∧z.2≤l.length∧(0 < z.1→l.getD 0 0 < k)∧(z.2 < l.length→ ¬ l.getD 0 0 < k)) 54 [(0,_),(1,_),(6,_)] [] (fun z=> [(7, .v (.int .i64 (z.1:Int))),(8, .v (.int .i64 (z.2:Int)))]) (fun z=> []) [] [] (fun z=> z.2 - z.1) (0,l.length) ?_ (kj [] [] []) ?_
 ·exact ⟨Nat.zero_le _,Nat.le_refl _,fun h=> absurd h (Nat.lt_irrefl _),fun h=> absurd h (Nat.lt_irrefl _)⟩
 intro z hz
 obtain ⟨i,j⟩:=z
 simp only at hz ⊢
 obtain ⟨hz1,hz2,hz3,hz4⟩:=hz
 refine aF fun K5 hK5=> ?_
 refine go 5 ?_
 refine ay rfl (fun hc15=> ?_) (fun hc15=> ?_)
 ·obtain rfl:i=0:=by omega
  obtain rfl:j=1:=by omega
  have hls:=zo (l.getD 0 0) k
  refine aR (hK5 _ ?_)
  refine aH (aG (bW rfl (bW rfl (aj (eT (r:=1) _ _ rfl rfl rfl) ?_))))
  refine aj (uf _ Tryz.underlying3 Tryz.underlying243 rfl (NU ab)) ?_
  refine aj (Jy _ _ rfl rfl ab rfl) ?_
  refine aj (uf _ Tryz.underlying243 Tryz.underlying3 rfl rfl) (go 5 ?_)
  refine aj (aO _ _ aa rfl rfl 0 rfl ab (by rw [aq];omega) rfl) ?_
  refine aj (bl _ aa rfl (by exact hg ab) rfl) ?_
  refine bW rfl (aj (ap aa al (hls) rfl rfl) ?_)
  refine am (ay rfl (fun hc27=> ?_) (fun hc27=> ?_))
  ·refine az (σ':=an 54 [(0,_),(1,_),(6,_),(8,_),(9,_)] [] [] []) kp ?_
   refine aD (bW rfl (aj (eT _ _ rfl rfl rfl) (cC rfl (ax (⟨(1,1),?_,?_,?_⟩)))))
   ·exact ⟨Nat.le_refl _,hz2,fun _=> hc27,fun h=> absurd h ab⟩
   ·exact kj [] [] []
   simp only;omega
  refine az (σ':=an 54 [(0,_),(1,_),(6,_),(7,_),(9,_)] [] [] []) kp ?_
  refine aD (bW rfl (cC rfl (ax (⟨(0,0),?_,?_,?_⟩))))
  ·exact ⟨Nat.le_refl _,Nat.zero_le _,fun h=> absurd h (Nat.lt_irrefl _),fun _=> by omega⟩
  ·exact kj [] [] []
  simp only;omega
 have hI:(i:Int)=if 0 < l.length∧l.getD 0 0 < k then 1 else 0:=by split <;> omega
 refine aW (id (hK4 _ ?_))
 refine go 6 ?_
 refine cA (fun hg35=> ?_) (fun hg35=> ?_)
 ·obtain rfl:i=0:=by omega
  refine go 2 ?_
  refine aV rfl rfl (aO _ _ aa rfl rfl 0 rfl ab (by rw [aq];omega) rfl) ?_
  refine aV rfl rfl (bl _ aa rfl (by exact hg ab) rfl) ?_
  refine go 1 ?_
  refine aV rfl rfl (ba (r:=decide (l.getD 0 0=k)) _ _ rfl rfl (by rw [Bool.eq_iff_iff];simp)) ?_
  refine go 1 ?_
  refine cA (fun hg42=> ?_) (fun hg42=> ?_)
  ·refine go 14 ?_
   exact au (jO (.inr rfl) rfl (.tmp rC) (.tmp wq) (Le.out [] [] (.tup rfl (ai (bj hI.symm) (ai (jL (decide_eq_true ⟨by omega,hg42⟩)) aK))) rfl rfl rfl trivial trivial))
  refine go 2 ?_
  refine aV rfl rfl (aO _ _ aa rfl rfl 0 rfl ab (by rw [aq];omega) rfl) ?_
  refine aV rfl rfl (bl _ aa rfl (by exact hg ab) rfl) ?_
  refine aV rfl rfl (ap aa al (AO (l.getD 0 0)) rfl rfl) ?_
  refine go 9 ?_
  exact au (jO (.inr rfl) rfl (.tmp rC) (.tmp wq) (Le.out [] [] (.tup rfl (ai (bj hI.symm) (ai (jL (decide_eq_false (fun h=> hg42 h.2))) aK))) rfl rfl rfl trivial trivial))
 refine go 21 ?_
 exact au (jO (.inr rfl) rfl (.tmp rC) (.tmp wq) (Le.out [] [] (.tup rfl (ai (bj hI.symm) (ai (jL (decide_eq_false (fun h=> by omega))) aK))) rfl rfl rfl trivial trivial))
theorem ua (k:Int):Spec Tryz.prog 185 (aL [.ref (0,9) 0 0, .v (.int .i64 0), .sl 1 (be [k])] [((0,9), .row 3 1 [])]) (aN (.ref (0,8) 0 1) [((0,8), .row 3 1 (be [k]))] [(0,8)] []):=by
 refine Spec.ofNI Tryz.func185 rfl Tryz.ntmps185 rfl ?_
 refine aG (aj (aX _ eh) (am (aG (iE rfl (bW rfl (aj (eI _ _ _ aa rfl rfl 0 0 (.lit rfl rfl) .dflt ab ab rfl rfl) ?_))))))
 refine go 25 ?_
 refine aE ?_
 refine az (σ':=an 95 [(0,_),(2,_)] [((0,9),_)] [(0,9)] []) kp ?_
 refine aD (iE rfl (gR rfl (bu (Le.incT (25,0) rfl) ?_)))
 refine aj (kJ (b:=true) (25,0) _ _ aa rfl rfl rfl (.sl rfl) ab rfl rfl rfl rfl rfl) ?_
 exact eu rfl (am (au (cg (.inr rfl) rfl (.tmp mW) (Le.outI [((0,8),(25,0))] [] (cf rfl rfl) rfl rfl rfl trivial ob trivial rfl))))
end Go.Proofs.YtmjnackchaahbaaGreat

set_option maxHeartbeats 2000000
namespace Go.Proofs.YtmjnackchaahbaaGreat
open Go.RowKit

theorem Hn {ρ:aA→aA} {σ:St} {F:aA→Bool} {id:aA} {e:TypeId} {n m:Nat} {xs:List PV} {r:List Int} (hid:σ.ob id= .obj (.row e 1 xs)) (hF:F id=true) (hm:n=m) (hx:xs=be r) (hn:m=r.length):Lv ρ σ F (.sl m (be r)) (.ref id 0 n):=by
 subst hm;subst hx
 exact dH hid hF (by rw [aq,Nat.mul_one];exact hn) rfl
def xM (t:Tl) (ks:List Int) (m:Nat):List PV:=(List.range m).flatMap fun (i:Nat)=> pZ t 3 (i:Int) 2 (ks.getD i 0)
theorem uW (t:Tl) (ks:List Int) (m:Nat):xM t ks m++pZ t 3 (m:Int) 2 (ks.getD m 0)=xM t ks (m+1):=by
 unfold xM;rw [List.range_succ,List.flatMap_append];simp
theorem ya (t:Tl) (ks:List Int) (m:Nat):(xM t ks m).length=m*7:=by
 unfold xM
 rw [gQ (fun (i:Nat)=> pZ t 3 (i:Int) 2 (ks.getD i 0)) 7 (fun _=> rfl),List.length_range]
theorem rt (k:Nat) (ks:List Int):keepB (k+1) ks=keepB k ks++[decide (ks.getD k 0=1)]:=by unfold keepB;rw [List.range_succ,List.map_append];rfl
theorem ff (k:Nat) (ks:List Int):(keepB k ks).length=k:=by simp [keepB]
theorem qH (l:List Bool) (x:Bool):xu l++[.v (.bool x)]=xu (l++[x]):=by simp [xu]
theorem nZ (s:Ns) (h:Nat) (hh:h < s.counts.length) (x:Int):kO (aP s) h x=fun k=> (s.counts.set h x).getD k 0:=by
 funext k
 unfold kO
 by_cases e:k=h
 ·subst e;rw [if_pos rfl,List.getD_eq_getElem?_getD,List.getElem?_set_self hh];rfl
 rw [if_neg e,List.getD_eq_getElem?_getD,List.getElem?_set_ne (Ne.symm e),← List.getD_eq_getElem?_getD]
set_option maxHeartbeats 2000000 in
theorem pu (s:Ns) (hs:fB s) (ho:eL s.dk) (hc:s.counts.length=41) (hcb: -1000000≤s.counts.getD 40 0∧s.counts.getD 40 0≤1000000) (hep: -1000000≤s.epoch∧s.epoch≤1000000)
  (t:Tl) (n:Nat) (L:List PV) (hL:L.length=n*7) (hn:n≤1000) (ks:List Int) (hlk: ∀ i:Nat,i < s.dk.pend.length→pB t 3 (i:Int) 2 (ks.getD i 0)):
  Spec Tryz.prog 53 (aL [gm s,jv] (pN t n L (5,9))) (aN (gm (gY s (keepB s.dk.pend.length ks))) (pN t (n+s.dk.pend.length) (L++xM t ks s.dk.pend.length) (5,8)) [(4,9),(5,8)] [(4,9)]):=by
 have hown:=jT s hs
 have hp:=hs.p
 have hcc:=hs.c
 have hv:=hs.v
 have hcr:=uQ s.dk ab ab ho (keepB s.dk.pend.length ks) (by rw [ff];omega)
 rw [ff] at hcr
 have hce:=nZ s 40 ab (s.counts.getD 40 0+1)
 have hcb2: -1000000≤aP s 40∧aP s 40≤1000000:=hcb
 have hl1:(s.dk.crash (keepB s.dk.pend.length ks)).cells.length=s.dk.cells.length:=dF _ _
 refine Spec.ofNI Tryz.func53 rfl Tryz.ntmps53 rfl ?_
 refine go 6 ?_
 refine aj (bp aa [((1,8),(8,0))] ar (hown.toI) trivial tr tr rfl rfl ae ae) ?_
 refine go 3 ?_
 refine aj (aX _ eh) (am (aF fun K4 hK4=> ?_))
 refine go 8 ?_
 refine az (Le.nilS 5 (60,0) 4 1 rfl rfl) ?_
 refine aT (α:=Nat) (fun k=> k≤s.dk.pend.length) 48 [(1,_),(2,_),(4,_),(12,_)] [((2,0),_),((4,0),_),((8,0),_)] (fun k=> [(5, .ref (60,0) 0 k),(13, .v (.int .i64 (k:Int)))]) (fun k=> [((60,0), .row 4 1 (xu (keepB k ks))),((4,9), .box 103 [.v (.int .i64 t.c1), .v (.int .i64 t.c2), .v (.int .i64 t.c3), .sl t.na t.A, .ref (5,9) 0 (n+k)]),((5,9), .row 111 7 (L++xM t ks k))]) [(4,9),(5,9)] [(4,9)] (fun k=> s.dk.pend.length - k) 0 ?_ (by
  refine Le.mkJ [] [] rfl ?_ ?_ trivial tr ?_
  ·exact ⟨(iN rfl),(iP rfl),(iP rfl),(iV rfl),(cf rfl ag),(bj ag),trivial⟩
  ·exact ⟨(bU rfl rfl rfl),(bU rfl rfl rfl),(bU rfl rfl rfl),(cL rfl rfl rfl ag),(cT rfl rfl rfl rfl lz),(cL rfl rfl rfl (by (simp [xM]))),trivial⟩
  kernel_rfl) ?_
 ·omega
 intro k hk
 refine go 3 ?_
 refine aF fun K7 hK7=> ?_
 refine ay rfl (fun hc14=> ?_) (fun hc14=> ?_)
 ·have htl:=oI t 3 (k:Int) 2 (ks.getD k 0) (n+k) (L++xM t ks k) (by rw [List.length_append,hL,ya,Nat.add_mul]) ab ab (hlk k ab)
  rw [List.append_assoc,uW] at htl
  have hkb:=rt k ks
  refine aR (hK7 _ ?_)
  refine go 10 ?_
  refine bu (Le.incT (19,0) rfl) ?_
  refine aj (jh rfl aa [((5,8),(19,0))] ar (htl) ob tr tr rfl ae ae) ?_
  refine aj (ba (r:=decide (ks.getD k 0=1)) _ _ rfl rfl (by rw [Bool.eq_iff_iff];simp)) ?_
  refine go 1 ?_
  refine aj (bI (22,0) _ _ aa rfl rfl (by rw [aJ,ff,Nat.mul_one]) (.sl rfl) ab rfl ((qH _ _).trans (congrArg xu hkb.symm)) rfl) ?_
  refine go 5 ?_
  refine ax (⟨k+1,?_,?_,?_⟩)
  ·omega
  ·refine Le.mkJ [((60,0),(22,0)),((5,9),(19,0))] [] rfl ?_ ?_ trivial tr ?_
   ·exact ⟨(by repeat' (first | exact bs (id:=(4,9)) rfl | refine Lv.fn rfl ?_ rfl ?_ | exact aK | refine ai ?_ ?_)),(bs (id:=(2,0)) rfl),(bs (id:=(4,0)) rfl),(by repeat' (exact Lv.v)),(cf rfl ag),(bj ag),trivial⟩
   ·exact ⟨(cT rfl rfl rfl rfl (by repeat' (first | exact Lv.v | exact Lv.sl | exact cf (id:=(8,0)) rfl rfl | exact aK | refine ai ?_ ?_))),(cT rfl rfl rfl rfl (by repeat' (first | exact Lv.v | exact aK | refine ai ?_ ?_))),(cL rfl rfl rfl rfl),(cL rfl rfl rfl ag),(cT rfl rfl rfl rfl lz),(cL rfl rfl rfl ag),trivial⟩
   kernel_rfl
  omega
 obtain rfl:k=s.dk.pend.length:=by omega
 refine aW (id (hK4 _ ?_))
 refine aE ?_
 refine az (Le.frzS (ys:=xu (keepB s.dk.pend.length ks)) 5 mW rfl rfl (by rw [List.drop_zero,Nat.mul_one,List.take_of_length_le (by rw [aJ,ff];omega)]) (by rw [aJ,ff];omega)) ?_
 refine go 4 ?_
 refine aj (ap aa al (hcr) rfl rfl) ?_
 refine go 5 ?_
 refine aj (bJ _ _ aa rfl rfl rfl 40 rfl ab rfl) ?_
 refine go 3 ?_
 refine aj (bJ _ _ aa rfl rfl rfl 40 rfl ab rfl) ?_
 refine aj (cY _ _ aa rfl rfl rfl rfl (by show 48+1≤52;omega) ((pV s.up s.ver s.epoch s.clock _ _ _ _ (aP s) s.wait 40 ab _).trans (congrArg (fun e=> AZ s.up s.ver s.epoch s.clock _ _ _ _ e s.wait) hce))) ?_
 refine go 8 ?_
 refine aE ?_
 refine az (σ':=an 48 [(2,_),(4,_)] [((2,0),_),((4,0),_),((8,0),_),((4,9),_),((5,9),_)] [(4,9),(5,9)] [(4,9)]) kp ?_
 refine go 4 ?_
 refine aj (nX (42,0) _ _ aa rfl rfl _ rfl rfl ab rfl rfl) ?_
 refine go 13 ?_
 exact au (cg (.inr rfl) rfl (.cellA aa rfl rfl rfl) (Le.outI [((5,8),(5,9))] [(42,0)] (.agg rfl (wv (ai (de rfl rfl) (ai (de rfl rfl) (ai (Hn rfl rfl (by simp [gY]) (by simp [gY,be,rep]) rfl) lz))))) rfl rfl rfl tr ob tr rfl))
end Go.Proofs.YtmjnackchaahbaaGreat

set_option maxHeartbeats 2000000
namespace Go.Proofs.YtmjnackchaahbaaGreat
open Go.RowKit

theorem zH {P:Program} {σ:St} {o:Oper} {f:FuncId} {avs:List AV} (hE:EntersAt P o σ f avs) {args:List AV} {x y:Value} (sp:Spec P f (aI args []) (aC (.tup [.v x, .v y]) []))
  (ha:fZ σ (fun _=> true) avs args) (hp:AV.pures args=true):iX P o σ (σ.put o.dst (.tup [.v x, .v y])):=by
 intro K ι S a w R
 obtain ⟨vs,hrun,hvs,hrep⟩:=hE K ι S a w R
 have R1:=R.args ha hp hvs hrep
 refine jz hrun (sp _ _ _ _ w rfl rfl R1) ?_
 rintro e w' ⟨v,ι',S',rfl,R2⟩
 refine ⟨v,rfl,?_⟩
 have hb:Below w.heap.size w w':=⟨R2.keeps.os,R2.keeps.tape,R2.keeps.output,R2.keeps.size,fun g hg=> R2.keeps.block g hg (by simp)⟩
 have R3:=R.gen (ι':=ι) (S':=S) (w':=w') (ob':=σ.ob) (inc':=σ.inc) (fun _=> False) (.of_below hb) (fun _ _=> rfl) (fun _ _=> rfl) (fun _ _=> rfl) (fun _ h=> h) (fun g h=> h)
  (fun g h=> .inl h) (fun g h=> Nat.lt_of_lt_of_le (R.Slt g h) hb.size)
  (fun _ _ h=> h.elim) (fun _ _ h=> h.elim) (fun _ _ h=> h.elim) (fun _ _ _ _ _ h=> h.elim) (fun _ _ _ h=> h.elim) (fun _ _ _ h=> h.elim)
 refine ⟨ι,_,R3.put o.dst (av:= .tup [.v x, .v y]) ?_ fun id hi=> absurd hi (lx _ rfl)⟩
 have:=R2.fr 0 (by simp [aC])
 simp only [aC,Nat.beq_refl,cond_true] at this
 have:=(by simpa using this:Rep ι' S' w' (.tup [.v x, .v y]) v)
 cases this with
 | tup h1 h=>
  refine .tup h1 fun j a hj=> ?_
  have hr:=h j a hj
  match j,hj with
  | 0,hj=> cases hj;rw [hr.toV];exact .v
  | 1,hj=> cases hj;rw [hr.toV];exact .v
theorem oY {P:Program} {σ:St} {dd:Option Tmp} {ty:TypeId} {f:FuncId} {xs:Array Operand} {ats:Array TypeId} (C:bV P f) {args:List AV} {x y:Value} (ha:fZ σ (fun _=> true) (xs.toList.map σ.eval) args) (sp:Spec P f (aI args []) (aC (.tup [.v x, .v y]) []))
  (hp:AV.pures args=true):Stp P dd (.call { callee:= .value (.func f),args:=xs,argTypes:=ats }) ty σ (σ.put dd (.tup [.v x, .v y])):=fun o hd ho ht=> by subst hd;exact zH (.fnc ho C) sp ha hp
structure Cz where
 a:Int
 b:Int
 c:Int
def Lj (c:Cz) (i:Nat) (x:Ac):List PV:=[.v (.int .i64 c.a), .v (.int .i64 c.b), .v (.int .i64 c.c), .v (.int .i64 (i:Int)), .v (.int .i64 0), .v (.int .i64 x.a), .v (.int .i64 x.b), .v (.int .i64 x.c), .v (.int .i64 x.d)]
def sY (c:Cz) (l:List Ac):List PV:=(List.range l.length).flatMap fun i=> Lj c i (kt l i)
theorem cU (c:Cz) (l:List Ac):(sY c l).length=l.length*9:=by
 unfold sY
 rw [gQ (fun i=> Lj c i (kt l i)) 9 (fun _=> rfl),List.length_range]
theorem vZ (c:Cz) (l:List Ac) (x:Ac):sY c l++Lj c l.length x=sY c (l++[x]):=by
 unfold sY
 rw [List.length_append,List.length_singleton,List.range_succ,List.flatMap_append]
 congr 1
 ·unfold List.flatMap
  congr 1
  apply List.map_congr_left
  intro i hi
  have hi:=List.mem_range.1 hi
  have e:kt (l++[x]) i=kt l i:=by unfold kt;rw [List.getD_eq_getElem?_getD,List.getD_eq_getElem?_getD,List.getElem?_append_left hi]
  rw [e]
 have e:kt (l++[x]) l.length=x:=by unfold kt;rw [List.getD_eq_getElem?_getD,List.getElem?_append_right (Nat.le_refl _),Nat.sub_self];rfl
 simp [e]
structure Ot where
 vars:List Int
 acts:List Ac
 steps:Int
 spent:Bool
 cov:List Int
abbrev LA (c:Cz) (r:Nr) (o:Ot) (se fa ac:aA):List AV:=[.v (.int .i64 c.a), .v (.int .i64 c.b), .v (.int .i64 c.c), .ref se 0 r.sent.length, .v (.bool r.repl), .v (.int .i64 r.value), .ref fa 0 r.fails.length, .sl o.vars.length (be o.vars), .ref ac 0 o.acts.length, .v (.int .i64 o.steps), .v (.bool o.spent), .sl o.cov.length (be o.cov)]
abbrev Pd (c:Cz) (o:Ot) (s:Ns) (r:Nr) (tm se fa:aA):List (aA×Cells):=[(tm, .row 3 1 (be s.timers)),((2,9), .box 96 (LA c r o se fa (5,9))),(se, .row 117 9 (sY c r.sent)),(fa, .row 3 1 (be r.fails)),((5,9), .row 57 5 (oz o.acts))]
abbrev nE (c:Cz) (o:Ot) (s:Ns) (r:Nr) (a:Ac) (s':Ns) (r':Nr):Prop:=Spec Tryz.prog 114 (aL [.agg (HN s (.ref (1,9) 0 s.timers.length)), .agg [.v (.int .i64 a.k), .v (.int .i64 a.a), .v (.int .i64 a.b), .v (.int .i64 a.c), .v (.int .i64 a.d)], .ptr (2,9) 0] (Pd c o s r (1,9) (3,9) (4,9)))
 (aN (.agg (HN s' (.ref (1,8) 0 s'.timers.length))) (Pd c o s' r' (1,8) (3,8) (4,8)) [(1,8),(2,9),(3,8),(4,8),(5,9)] [(2,9),(5,9)])
section
variable (c:Cz) (o:Ot) (s:Ns) (r:Nr) (x y z w:Int)
theorem ze (hs:fB s) (ho:eL s.dk):nE c o s r ⟨1,x,y,z,w⟩ { s with dk:=s.dk.write x y } r:=by
 have hc:=hs.c
 have hp:=hs.p
 have hw:=vY s.dk ab ab ho x y
 refine Spec.ofNI Tryz.func114 rfl Tryz.ntmps114 rfl ?_
 refine go 23 ?_
 refine aj (ap aa al (hw) rfl rfl) ?_
 refine go 3 ?_
 refine aE ?_
 refine az (σ':=an 134 [(3,_),(6,_)] [((1,9),_),((3,0),_),((6,0),_),((2,9),_),((3,9),_),((4,9),_),((5,9),_)] [(1,9),(2,9),(3,9),(4,9),(5,9)] [(2,9),(5,9)]) kp ?_
 refine go 4 ?_
 exact au (jF [((1,8),(1,9)),((3,8),(3,9)),((4,8),(4,9))])
theorem BW (hs:fB s) (ho:eL s.dk):nE c o s r ⟨2,x,y,z,w⟩ { s with dk:=s.dk.sync } r:=by
 have hc:=hs.c
 have hp:=hs.p
 have hw:=ru s.dk ab ab ho
 refine Spec.ofNI Tryz.func114 rfl Tryz.ntmps114 rfl ?_
 refine go 24 ?_
 refine aj (ap aa al (hw) rfl rfl) ?_
 refine go 7 ?_
 exact au (jF [((1,8),(1,9)),((3,8),(3,9)),((4,8),(4,9))])
theorem wV (ht:s.timers=[]):nE c o s r ⟨4,x,y,z,w⟩ { s with timers:=[x] } r:=by
 have hb:=kK s.timers x (by rw [ht];exact Nat.zero_le 1)
 have hl4:s.timers.length*1=(be s.timers).length:=by rw [aq,Nat.mul_one]
 have hi:Spec Tryz.prog 185 (aL [.ref (0,9) 0 s.timers.length, .v (.int .i64 0), .sl 1 (be [x])] [((0,9), .row 3 1 (be s.timers))]) (aN (.ref (0,8) 0 1) [((0,8), .row 3 1 (be [x]))] [(0,8)] []):=by rw [ht];exact ua x
 have hn0:s.timers.length=0:=by rw [ht];rfl
 rw [show (if 0 < s.timers.length∧s.timers.getD 0 0 < x then (1:Int) else 0)=0 by rw [if_neg ab],show decide (0 < s.timers.length∧s.timers.getD 0 0=x)=false from decide_eq_false ab] at hb
 refine Spec.ofNI Tryz.func114 rfl Tryz.ntmps114 rfl ?_
 refine go 31 ?_
 refine aj (oY aa (eN (dH rfl rfl hl4 rfl) (eN Lv.v cp)) hb rfl) ?_
 refine go 6 ?_
 refine aE ?_
 refine az (σ':=an 134 [(3,_),(4,_),(6,_),(7,_),(8,_)] [((1,9),_),((3,0),_),((4,0),_),((6,0),_),((2,9),_),((3,9),_),((4,9),_),((5,9),_)] [(1,9),(2,9),(3,9),(4,9),(5,9)] [(2,9),(5,9)]) kp ?_
 refine go 11 ?_
 refine aj (gX _ _ aa rfl ag (by simp <;> rfl) ah (by exact (rfl:_=some (be [x])))) ?_
 refine bu (Le.incT (48,0) rfl) ?_
 refine aj (aU aa [((0,9),(1,9)),((0,8),(48,0))] ar (hi) ob tr tr rfl ae ae) ?_
 refine go 7 ?_
 exact au (jF [((1,8),(48,0)),((3,8),(3,9)),((4,8),(4,9))])
theorem wT (ht:s.timers=[x]):nE c o s r ⟨4,x,y,z,w⟩ s r:=by
 have hb:=kK s.timers x (by rw [ht];exact Nat.le_refl 1)
 have hl4:s.timers.length*1=(be s.timers).length:=by rw [aq,Nat.mul_one]
 rw [show decide (0 < s.timers.length∧s.timers.getD 0 0=x)=true from decide_eq_true (by rw [ht];exact ⟨Nat.zero_lt_one,rfl⟩)] at hb
 refine Spec.ofNI Tryz.func114 rfl Tryz.ntmps114 rfl ?_
 refine go 31 ?_
 refine aj (oY aa (eN (dH rfl rfl hl4 rfl) (eN Lv.v cp)) hb rfl) ?_
 refine go 6 ?_
 refine aE ?_
 refine az (σ':=an 134 [(3,_),(4,_),(6,_),(7,_),(8,_)] [((1,9),_),((3,0),_),((4,0),_),((6,0),_),((2,9),_),((3,9),_),((4,9),_),((5,9),_)] [(1,9),(2,9),(3,9),(4,9),(5,9)] [(2,9),(5,9)]) kp ?_
 refine go 10 ?_
 exact au (jF [((1,8),(1,9)),((3,8),(3,9)),((4,8),(4,9))])
theorem xo (hl:s.timers.length≤1) (hx: ¬ (0 < s.timers.length∧s.timers.getD 0 0=x)):nE c o s r ⟨5,x,y,z,w⟩ s r:=by
 have hb:=kK s.timers x hl
 have hl4:s.timers.length*1=(be s.timers).length:=by rw [aq,Nat.mul_one]
 rw [decide_eq_false hx] at hb
 refine Spec.ofNI Tryz.func114 rfl Tryz.ntmps114 rfl ?_
 refine go 36 ?_
 refine aj (oY aa (eN (dH rfl rfl hl4 rfl) (eN Lv.v cp)) hb rfl) ?_
 refine go 6 ?_
 refine aE ?_
 refine az (σ':=an 134 [(3,_),(6,_),(9,_),(10,_)] [((1,9),_),((3,0),_),((6,0),_),((2,9),_),((3,9),_),((4,9),_),((5,9),_)] [(1,9),(2,9),(3,9),(4,9),(5,9)] [(2,9),(5,9)]) kp ?_
 refine go 9 ?_
 exact au (jF [((1,8),(1,9)),((3,8),(3,9)),((4,8),(4,9))])
theorem Ev (hr:r.sent.length≤1000):nE c o s r ⟨3,x,y,z,w⟩ s { r with sent:=r.sent++[(⟨3,x,y,z,w⟩:Ac)] }:=by
 have hl2:=cU c r.sent
 have hl3:r.sent.length+1=(r.sent++[(⟨3,x,y,z,w⟩:Ac)]).length:=by rw [List.length_append];rfl
 refine Spec.ofNI Tryz.func114 rfl Tryz.ntmps114 rfl ?_
 refine go 36 ?_
 refine aE ?_
 refine az (σ':=an 134 [(2,_),(3,_),(4,_),(6,_)] [((1,9),_),((2,9),_),((3,9),_),((4,9),_),((5,9),_),((3,0),_),((4,0),_),((6,0),_)] [(1,9),(2,9),(3,9),(4,9),(5,9)] [(2,9),(5,9)]) kp ?_
 refine nT 12 [70,71,72,73,74,75,76,77,78,79,11] [(11,0),(11,0)] ae ae rfl (rfl:_=[_,_,_,_,_,_,_,_,_,_,_,_]) (rfl:_=[]) ?_
 refine bP (_,[]) (fun τ=> cd _ tz) ?_
 refine bO (rfl:_=[_]) ?_
 refine bP (_,[]) (fun τ=> nB _ rfl rfl) ?_
 refine bO (rfl:_=[_,_]) ?_
 refine bP (_,[]) (fun τ=> di _ aa rfl rfl rfl) ?_
 refine bO (rfl:_=[_,_,_]) ?_
 refine bP (_,[]) (fun τ=> jM _ aa rfl rfl rfl rfl) ?_
 refine bO (rfl:_=[_,_,_,_]) ?_
 refine bP (_,[]) (fun τ=> cd _ tz) ?_
 refine bO (rfl:_=[_,_,_,_,_]) ?_
 refine bP (_,[]) (fun τ=> nB _ rfl rfl) ?_
 refine bO (rfl:_=[_,_,_,_,_,_]) ?_
 refine bP (_,[]) (fun τ=> di _ aa rfl rfl rfl) ?_
 refine bO (rfl:_=[_,_,_,_,_,_,_]) ?_
 refine bP (_,[]) (fun τ=> bB _ aa rfl rfl Ca) ?_
 refine bO (rfl:_=[_,_,_,_,_,_,_,_]) ?_
 refine bP (_,[]) (fun τ=> ym _ aa rfl rfl) ?_
 refine bO (rfl:_=[_,_,_,_,_,_,_,_,_]) ?_
 refine bP (_,[]) (fun τ=> gA _ aa rfl (by exact (rfl:_=some [_,_,_,_,_]))) ?_
 refine bO (rfl:_=[_,_,_,_,_,_,_,_,_,_]) ?_
 refine bP (_,[((11,0),_)]) (fun τ=> fq (11,0) aa rfl rfl) ?_
 refine bO (rfl:_=[_,_,_,_,_,_,_,_,_,_,_]) ?_
 refine bP (_,[((11,0),_)]) (fun τ=> cY _ _ aa rfl rfl rfl rfl (Nat.le_of_ble_eq_true rfl) rfl) ?_
 refine bO (rfl:_=[_,_,_,_,_,_,_,_,_,_,_,_]) ?_
 refine lp ⟨⟨rfl,by kernel_rfl,by kernel_rfl⟩,?_⟩
 refine am ?_
 refine az (σ':=an 134 [(2,_),(3,_),(4,_),(6,_),(11,_)] [((1,9),_),((2,9),_),((3,9),_),((4,9),_),((5,9),_),((3,0),_),((4,0),_),((6,0),_),((11,0),_)] [(1,9),(2,9),(3,9),(4,9),(5,9)] [(2,9),(5,9)]) kp ?_
 refine az (Le.incT (96,0) rfl) ?_
 refine hG 17 [80,81,82,83,84,85,86,87,88,89,90,91,92,93,94,95,96] [(3,9),(96,0)] [[],[],[],[(3,9)],[(3,9)],[],[],[],[],[],[],[],[],[],[(3,9)],[(3,9)],[]] ae ae rfl (bb rfl) (rfl:_=[_,_,_,_,_,_,_,_,_,_,_,_,_,_,_,_,_]) (rfl:_=[_,_,_]) ?_
 refine go 32 ?_
 refine aB (_,[((3,9), .gone),((96,0),_)]) (fun τ=> kJ (b:=true) (96,0) _ _ aa rfl (em rfl (by exact dB) rfl) hl2.symm (.sl rfl) ab rfl rfl rfl (vZ c r.sent ⟨3,x,y,z,w⟩) hl3) ?_
 refine go 6 ?_
 refine aE ?_
 refine az (σ':=an 134 [(3,_),(6,_)] [((1,9),_),((3,0),_),((6,0),_),((2,9),_),((4,9),_),((5,9),_),((96,0),_)] [(1,9),(2,9),(4,9),(5,9),(96,0)] [(2,9),(5,9)]) kp ?_
 refine go 4 ?_
 exact au (jF [((1,8),(1,9)),((3,8),(96,0)),((4,8),(4,9))])
theorem Ai (h0:0≤s.wait) (h1:x=s.wait):nE c o s r ⟨6,x,y,z,w⟩ { s with wait:= -1 } { r with repl:=true,value:=y }:=by
 refine Spec.ofNI Tryz.func114 rfl Tryz.ntmps114 rfl ?_
 refine go 36 ?_
 refine aE ?_
 refine az (σ':=an 134 [(2,_),(3,_),(4,_),(6,_),(13,_)] [((1,9),_),((2,9),_),((3,9),_),((4,9),_),((5,9),_),((3,0),_),((4,0),_),((6,0),_)] [(1,9),(2,9),(3,9),(4,9),(5,9)] [(2,9),(5,9)]) kp ?_
 refine go 8 ?_
 refine aj (ez (r:=true) _ _ rfl rfl (decide_eq_true ab)) ?_
 refine go 5 ?_
 refine aV rfl rfl (ba (r:=true) _ _ rfl rfl (by rw [h1];exact beq_self_eq_true _)) ?_
 refine go 3 ?_
 refine az (σ':=an 134 [(2,_),(3,_),(4,_),(6,_)] [((1,9),_),((2,9),_),((3,9),_),((4,9),_),((5,9),_),((3,0),_),((4,0),_),((6,0),_)] [(1,9),(2,9),(3,9),(4,9),(5,9)] [(2,9),(5,9)]) kp ?_
 refine hG 7 [111,112,113,114,115,116] [(2,9)] [[(2,9)],[],[],[],[(2,9)],[(2,9)],[]] ae ae rfl (bb rfl) (rfl:_=[_,_,_,_,_,_,_]) (rfl:_=[_,_,_,_,_]) ?_
 refine go 12 ?_
 refine aB (_,[((2,9),_)]) (fun τ=> cY _ _ aa rfl (em rfl (by exact dB) rfl) rfl rfl (Nat.le_of_ble_eq_true rfl) rfl) ?_
 refine go 12 ?_
 exact au (jF [((1,8),(1,9)),((3,8),(3,9)),((4,8),(4,9))])
theorem xG (h0:s.wait < 0):nE c o s r ⟨6,x,y,z,w⟩ s r:=by
 refine Spec.ofNI Tryz.func114 rfl Tryz.ntmps114 rfl ?_
 refine go 36 ?_
 refine aE ?_
 refine az (σ':=an 134 [(2,_),(3,_),(4,_),(6,_),(13,_)] [((1,9),_),((2,9),_),((3,9),_),((4,9),_),((5,9),_),((3,0),_),((4,0),_),((6,0),_)] [(1,9),(2,9),(3,9),(4,9),(5,9)] [(2,9),(5,9)]) kp ?_
 refine go 8 ?_
 refine aj (ez (r:=false) _ _ rfl rfl (decide_eq_false ab)) ?_
 refine go 14 ?_
 exact au (jF [((1,8),(1,9)),((3,8),(3,9)),((4,8),(4,9))])
theorem wy (h0:0≤s.wait) (h1:x≠s.wait):nE c o s r ⟨6,x,y,z,w⟩ s r:=by
 refine Spec.ofNI Tryz.func114 rfl Tryz.ntmps114 rfl ?_
 refine go 36 ?_
 refine aE ?_
 refine az (σ':=an 134 [(2,_),(3,_),(4,_),(6,_),(13,_)] [((1,9),_),((2,9),_),((3,9),_),((4,9),_),((5,9),_),((3,0),_),((4,0),_),((6,0),_)] [(1,9),(2,9),(3,9),(4,9),(5,9)] [(2,9),(5,9)]) kp ?_
 refine go 8 ?_
 refine aj (ez (r:=true) _ _ rfl rfl (decide_eq_true ab)) ?_
 refine go 5 ?_
 refine aV rfl rfl (ba (r:=false) _ _ rfl rfl (beq_eq_false_iff_ne.2 h1)) ?_
 refine go 8 ?_
 exact au (jF [((1,8),(1,9)),((3,8),(3,9)),((4,8),(4,9))])
theorem EL (hr:r.fails.length≤1000):nE c o s r ⟨7,x,y,z,w⟩ s { r with fails:=r.fails++[x] }:=by
 have hl3:r.fails.length+1=(r.fails++[x]).length:=by rw [List.length_append];rfl
 refine Spec.ofNI Tryz.func114 rfl Tryz.ntmps114 rfl ?_
 refine go 36 ?_
 refine aE ?_
 refine az (σ':=an 134 [(2,_),(3,_),(4,_),(6,_),(13,_)] [((1,9),_),((2,9),_),((3,9),_),((4,9),_),((5,9),_),((3,0),_),((4,0),_),((6,0),_)] [(1,9),(2,9),(3,9),(4,9),(5,9)] [(2,9),(5,9)]) kp ?_
 refine go 10 ?_
 refine az (σ':=an 134 [(2,_),(3,_),(4,_),(6,_)] [((1,9),_),((2,9),_),((3,9),_),((4,9),_),((5,9),_),((3,0),_),((4,0),_),((6,0),_)] [(1,9),(2,9),(3,9),(4,9),(5,9)] [(2,9),(5,9)]) kp ?_
 refine az (Le.incT (130,0) rfl) ?_
 refine hG 9 [122,123,124,125,126,127,128,129,130] [(4,9),(130,0)] [[],[],[],[(4,9)],[(4,9)],[],[(4,9)],[(4,9)],[]] ae ae rfl (bb rfl) (rfl:_=[_,_,_,_,_,_,_,_,_]) (rfl:_=[_,_,_]) ?_
 refine go 16 ?_
 refine aB (_,[((4,9), .gone),((130,0),_)]) (fun τ=> kJ (b:=true) (130,0) _ _ aa rfl (em rfl (by exact dB) rfl) (by rw [aq,Nat.mul_one]) (.sl rfl) ab rfl rfl rfl (lY r.fails [x]) hl3) ?_
 refine go 10 ?_
 exact au (jF [((1,8),(1,9)),((3,8),(3,9)),((4,8),(130,0))])
end
end Go.Proofs.YtmjnackchaahbaaGreat

set_option maxHeartbeats 2000000
namespace Go.Proofs.YtmjnackchaahbaaGreat
def TmC (c:List eD) (t:Int):Bool:=decide (0≤t∧t < 8) && c.all fun x=> (decide (x.op≠ .timer) || decide (x.n=t)) && (decide (x.op≠ .cancel) || decide (x.n≠t))
structure xg (t:Int) (a:Ac):Prop where
 kd:1≤a.k∧a.k≤7
 tm:a.k=4→a.a=t
 cn:a.k=5→a.a≠t
theorem Gl {K:Cx} {x:eD} {s:Ms} {t:Int} (h1:x.op= .timer→x.n=t) (h2:x.op= .cancel→x.n≠t) (h: ∀ a∈s.acts,xg t a): ∀ a∈(bS K x s).acts,xg t a:=by
 have app: ∀ (b:Ac),xg t b→ ∀ a∈s.acts++[b],xg t a:=fun b hb a ha=> by
  rcases List.mem_append.1 ha with ha | ha
  ·exact h a ha
  simp at ha;subst ha;exact hb
 unfold bS
 cases ho:x.op <;> simp only
 case setVar=>
  split
  ·exact app _ ⟨by simp,fun e=> by simp at e,fun e=> by simp at e⟩
  exact h
 case draw=> split <;> exact h
 case send=>
  split
  ·exact app _ ⟨by simp,fun e=> by simp at e,fun e=> by simp at e⟩
  exact h
 case timer=> exact app _ ⟨by simp,fun _=> h1 ho,fun e=> by simp at e⟩
 case cancel=> exact app _ ⟨by simp,fun e=> by simp at e,fun _=> h2 ho⟩
 case sync=> exact app _ ⟨by simp,fun e=> by simp at e,fun e=> by simp at e⟩
 case reply=> exact app _ ⟨by simp,fun e=> by simp at e,fun e=> by simp at e⟩
 case fail=> exact app _ ⟨by simp,fun e=> by simp at e,fun e=> by simp at e⟩
 all_goals exact h
theorem yJ {c:List eD} {t:Int} (h:TmC c t=true) (i:Nat):((c.getD i { op:= .stop }).op= .timer→(c.getD i { op:= .stop }).n=t)∧((c.getD i { op:= .stop }).op= .cancel→(c.getD i { op:= .stop }).n≠t):=by
 unfold TmC at h
 rw [Bool.and_eq_true,List.all_eq_true] at h
 by_cases hi:i < c.length
 ·have e:c.getD i { op:= .stop }=c[i]:=by rw [List.getD_eq_getElem?_getD,List.getElem?_eq_getElem hi];rfl
  rw [e]
  have:=h.2 _ (List.getElem_mem hi)
  simp only [Bool.and_eq_true,Bool.or_eq_true,decide_eq_true_eq] at this
  exact ⟨fun e=> (this.1.resolve_left fun h=> h e),fun e=> (this.2.resolve_left fun h=> h e)⟩
 have e:c.getD i { op:= .stop }={ op:= .stop }:=by rw [List.getD_eq_getElem?_getD,List.getElem?_eq_none ab];rfl
 rw [e];exact ⟨fun e=> (by cases e),fun e=> (by cases e)⟩
theorem Iu {K:Cx} {t:Int} (hc:TmC K.code t=true) (k:Nat) (s:Ms) (h: ∀ a∈s.acts,xg t a): ∀ a∈(ju K k s).acts,xg t a:=
 iB (I:=fun s=> ∀ a∈s.acts,xg t a) (fun s h _=> Gl (yJ hc s.pc).1 (yJ hc s.pc).2 h) k s h
theorem qW {p:Pg} {t:Int} (hc:TmC p.c t=true) (h:Nat) (names vars ans:List Int): ∀ a∈(fG p h names vars ans).acts,xg t a:=by
 unfold fG
 split
 ·exact fun a ha=> by simp at ha
 exact Iu hc 500 _ fun a ha=> by simp [cR] at ha
abbrev pG (t:Int) (l:List Int):Prop:=l=[]∨l=[t]
theorem TmC.rg {c:List eD} {t:Int} (h:TmC c t=true):0≤t∧t < 8:=by
 unfold TmC at h
 rw [Bool.and_eq_true] at h
 exact of_decide_eq_true h.1
theorem OF {P:Int→Prop} (h:P 0∧P 1∧P 2∧P 3∧P 4∧P 5∧P 6∧P 7) {t:Int} (ht:0≤t∧t < 8):P t:=by
 obtain ⟨h0,h1,h2,h3,h4,h5,h6,h7⟩:=h
 have:t=0∨t=1∨t=2∨t=3∨t=4∨t=5∨t=6∨t=7:=by omega
 rcases this with h | h | h | h | h | h | h | h <;> (subst h;assumption)
theorem xY {t:Int} (ht:0≤t∧t < 8) {l:List Int} (h:pG t l):sF l t true=[t]:=by
 rcases h with h | h
 ·subst h;exact OF (P:=fun t=> sF [] t true=[t]) ah ht
 subst h;exact OF (P:=fun t=> sF [t] t true=[t]) ah ht
theorem xO {t u:Int} (ht:0≤t∧t < 8) (hu:u≠t) {l:List Int} (h:pG t l):sF l u false=l:=by
 have e:sF l u false=((List.range 8).map fun (i:Nat)=> (i:Int)).filter fun i=> decide (i∈l):=by
  unfold sF
  refine List.filter_congr fun i _=> ?_
  split
  ·rename_i hi
   subst hi
   rcases h with h | h
   ·subst h;rfl
   subst h;exact (decide_eq_false (by simpa using hu)).symm
  rfl
 rw [e]
 rcases h with h | h
 ·subst h;rfl
 subst h;exact OF (P:=fun t=> (((List.range 8).map fun (i:Nat)=> (i:Int)).filter fun i=> decide (i∈[t]))=[t]) ah ht
theorem vi {t:Int} (ht:0≤t∧t < 8) {q:Ns×Nr} {a:Ac} (ha:xg t a) (h:pG t q.1.timers):pG t (dj q a).1.timers:=by
 unfold dj
 split
 ·exact h
 split
 ·exact h
 split
 ·rename_i h4
  show pG t (sF q.1.timers a.a true)
  rw [ha.tm h4,xY ht h]
  exact .inr rfl
 split
 ·rename_i h5
  show pG t (sF q.1.timers a.a false)
  rw [xO ht (ha.cn h5) h]
  exact h
 split
 ·exact h
 split
 ·split <;> exact h
 split <;> exact h
theorem HS {s:Ns} {l:List Int} (h:l=s.timers):{ s with timers:=l }=s:=by subst h;rfl
theorem Jq (c:Cz) (o:Ot) {t:Int} (ht:0≤t∧t < 8) (q:Ns×Nr) (a:Ac) (ha:xg t a) (hq:pG t q.1.timers) (hs:fB q.1) (ho:eL q.1.dk) (hr:q.2.sent.length≤1000) (hf:q.2.fails.length≤1000):
  nE c o q.1 q.2 a (dj q a).1 (dj q a).2:=by
 obtain ⟨s,r⟩:=q
 obtain ⟨k,x,y,z,w⟩:=a
 obtain ⟨hk,h4,h5⟩:=ha
 simp only at hk h4 h5 hq hs ho hr hf
 have:k=1∨k=2∨k=3∨k=4∨k=5∨k=6∨k=7:=by omega
 rcases this with e | e | e | e | e | e | e <;> subst e
 ·exact ze c o s r x y z w hs ho
 ·exact BW c o s r x y z w hs ho
 ·exact Ev c o s r x y z w hr
 ·obtain rfl:=h4 rfl
  have e:(dj (s,r) ⟨4,x,y,z,w⟩)=({ s with timers:=[x] },r):=by
   show ({ s with timers:=sF s.timers x true },r)=_
   rw [xY ht hq]
  rw [e]
  rcases hq with hq | hq
  ·exact wV c o s r x y z w hq
  have:=wT c o s r x y z w hq
  rwa [HS hq.symm]
 ·have hx:=h5 rfl
  have e:(dj (s,r) ⟨5,x,y,z,w⟩)=(s,r):=by
   show ({ s with timers:=sF s.timers x false },r)=_
   rw [xO ht hx hq,HS rfl]
  rw [e]
  refine xo c o s r x y z w ?_ ?_
  ·rcases hq with hq | hq <;> rw [hq]
   ·exact Nat.zero_le 1
   exact Nat.le_refl 1
  rcases hq with hq | hq <;> rw [hq]
  ·exact fun h=> absurd h.1 (Nat.lt_irrefl _)
  exact fun h=> hx h.2.symm
 ·by_cases h0:0≤s.wait
  ·by_cases h1:x=s.wait
   ·have e:(dj (s,r) ⟨6,x,y,z,w⟩)=({ s with wait:= -1 },{ r with repl:=true,value:=y }):=by
     show (if 0≤s.wait∧x=s.wait then ({ s with wait:= -1 },{ r with repl:=true,value:=y }) else (s,r))=_
     exact if_pos ⟨h0,h1⟩
    rw [e];exact Ai c o s r x y z w h0 h1
   have e:(dj (s,r) ⟨6,x,y,z,w⟩)=(s,r):=by
    show (if 0≤s.wait∧x=s.wait then ({ s with wait:= -1 },{ r with repl:=true,value:=y }) else (s,r))=_
    exact if_neg fun h=> h1 h.2
   rw [e];exact wy c o s r x y z w h0 h1
  have e:(dj (s,r) ⟨6,x,y,z,w⟩)=(s,r):=by
   show (if 0≤s.wait∧x=s.wait then ({ s with wait:= -1 },{ r with repl:=true,value:=y }) else (s,r))=_
   exact if_neg fun h=> h0 h.1
  rw [e];exact xG c o s r x y z w ab
 exact EL c o s r x y z w hf
end Go.Proofs.YtmjnackchaahbaaGreat

set_option maxHeartbeats 2000000
namespace Go.Proofs.YtmjnackchaahbaaGreat
open Go.RowKit
theorem pE (s:Ns) (hs:fB s) (ho:eL s.dk):Spec Tryz.prog 47 (aL [.agg (HN s (.ref (1,9) 0 s.timers.length))] [((1,9), .row 3 1 (be s.timers))]) (aN (.sl (s.dk.view++s.vol).length (be (s.dk.view++s.vol))) [((1,9), .row 3 1 (be s.timers))] [(1,9)] [(1,9)]):=by
 have hc:=hs.c
 have hp:=hs.p
 have hv:=hs.v
 have hw:=sO s.dk ab ab ho
 have hl:s.dk.view.length=s.dk.cells.length:=dF _ _
 have hl2:s.dk.cells.length+s.vol.length=(s.dk.view++s.vol).length:=by rw [List.length_append,hl]
 refine Spec.ofNI Tryz.func47 rfl Tryz.ntmps47 rfl ?_
 refine aG (aj (dZ (1,0) _ rfl rfl) (aj (aX _ eh) (am (aE (nT 6 [3,4,5,6,7,8] [(5,0),(5,0),(8,0)] ae ae rfl (rfl:_=[_,_,_,_,_,_]) (rfl:_=[_]) ?_)))))
 refine bP (_,[]) (fun τ=> di _ aa rfl rfl rfl) ?_
 refine bO (rfl:_=[_]) ?_
 refine bP (_,[]) (fun τ=> jM _ aa rfl rfl rfl rfl) ?_
 refine bO (rfl:_=[_,_]) ?_
 refine bP (_,[((5,0),_)]) (fun τ=> (bp aa [((0,8),(5,0))] ar (hw.toI) trivial tr tr rfl rfl ae ae)) ?_
 refine bO (rfl:_=[_,_,_]) ?_
 refine bP (_,[]) (fun τ=> di _ aa rfl rfl rfl) ?_
 refine bO (rfl:_=[_,_,_,_]) ?_
 refine bP (_,[]) (fun τ=> bB _ aa rfl rfl xn) ?_
 refine bO (rfl:_=[_,_,_,_,_]) ?_
 refine bP (_,[((5,0), .gone),((8,0), .gone)]) (fun τ=> wG (8,0) _ _ aa rfl rfl (by rw [aq,hl,Nat.mul_one]) (.sl (by rw [aq,Nat.mul_one])) ab rfl rfl rfl (lY _ _) hl2) ?_
 refine bO (rfl:_=[_,_,_,_,_,_]) ?_
 refine lp ⟨⟨rfl,by kernel_rfl,by kernel_rfl⟩,?_⟩
 exact yq rfl (am (au (cg (.inr rfl) rfl (.tmp zN) (Le.outI [] [] .sl rfl rfl rfl trivial ob tr rfl))))
theorem Aq (l:List Int) (h:l.length≤1000000) (h0:0 < l.length):Spec Tryz.prog 92 (aI [.sl l.length (be l)] []) (aC (.sl l.length (be l)) []):=by
 refine Spec.ofN Tryz.func92 rfl Tryz.ntmps92 rfl ?_
 refine aG (aj (aX _ eh) (am (aE (aG (gR rfl (aj (tL _ _ Tryz.underlying22 (.inl ⟨_,rfl⟩) h0 rfl) ?_))))))
 refine am (cK rfl rfl (cE (aG (aj (qM _ aa rfl) (gR rfl (aj (tg _ _ aa rfl (.sl (by rw [aq,Nat.mul_one])) ab) ?_))))))
 exact yq rfl (am (au (pO rfl rfl)))
theorem zU:Spec Tryz.prog 92 (aI [.sl 0 (be [])] []) (aC (.sl 0 (be [])) []):=by
 refine Spec.ofN Tryz.func92 rfl Tryz.ntmps92 rfl ?_
 refine aG (aj (aX _ eh) (am (aE (aG (gR rfl (EC (uc _ _ Tryz.underlying22 rfl rfl) ?_))))))
 rintro _ ⟨b4,rfl⟩
 refine am (ay rfl (fun hc4=> ?_) (fun hc4=> ?_))
 ·exact aG (aj (aX _ eh) (am (au (cg (.inr rfl) rfl (.tmp kU) (Le.out [] [] .nil rfl rfl rfl trivial trivial)))))
 refine cE (aG (aj (qM _ aa rfl) (gR rfl (aj (tg _ _ aa rfl (.sl rfl) ab) ?_))))
 exact yq rfl (am (au (pO rfl rfl)))
theorem nh (l:List Int) (h:l.length≤1000000):Spec Tryz.prog 92 (aI [.sl l.length (be l)] []) (aC (.sl l.length (be l)) []):=by
 by_cases h0:0 < l.length
 ·exact Aq l h h0
 obtain rfl:l=[]:=List.eq_nil_of_length_eq_zero ab
 exact zU
end Go.Proofs.YtmjnackchaahbaaGreat

set_option maxHeartbeats 2000000
namespace Go.Proofs.YtmjnackchaahbaaGreat
open Go.RowKit

abbrev Pi (s:Ns) (h:Nat) (ck:Int) (vol:List Int):Ns:={ s with clock:=ck,counts:=s.counts.set h (s.counts.getD h 0+1),vol:=vol }
abbrev bC (s:Ns) (h:Nat) (ck:Int) (P:Pg) (R:Ms) (k:Nat):Ns×Nr:=(R.acts.take k).foldl dj (Pi s h ck (R.vars.drop P.d),{})
abbrev Iq (R:Ms):Ot:=⟨R.vars,R.acts,(R.steps:Int), !R.fin,fg (jR R.cov)⟩
abbrev EZ (nm:List Int):AV:= .agg [.v (.slice none 0 0), .v (.int .i64 (nm.getD 0 0)), .v (.int .i64 (nm.getD 1 0)), .v (.int .i64 (nm.getD 2 0)), .v (.int .i64 (nm.getD 3 0)), .v (.int .i64 (nm.getD 4 0)), .v (.int .i64 (nm.getD 5 0)), .v (.int .i64 (nm.getD 6 0)), .v (.int .i64 (nm.getD 7 0)), .v (.int .i64 (nm.getD 8 0))]
abbrev Nm (c:Cz) (R:Ms) (q:Ns×Nr) (t:Tl) (n:Nat) (L:List PV):List (aA×Cells):=[((1,8), .row 3 1 (be q.1.timers)),((2,8), .row 57 5 (oz R.acts)),((3,8), .row 117 9 (sY c q.2.sent)),((6,8), .row 3 1 (be q.2.fails))]++pN t n L (5,8)
set_option maxHeartbeats 4000000 in
theorem Uf (s:Ns) (hs:fB s) (ho:eL s.dk) (hc:s.counts.length=41) (P:Pg) (h:Nat) (hh:h < 40) (self nodes drift tk:Int) (nm:List Int) (t:Tl) (n0:Nat) (L0:List PV) (hdr:drift≤0) (hcb: ∀ k, -1000000≤s.counts.getD k 0∧s.counts.getD k 0≤1000000) (hck: -1000000≤s.clock∧s.clock≤1000000)
  (R:Ms) (Q:List PV) (hv:Spec Tryz.prog 59 (aL [eU P, .v (.int .i64 (h:Int)), .agg [.sl (s.dk.view++s.vol).length (be (s.dk.view++s.vol)), .v (.int .i64 self), .v (.int .i64 nodes), .v (.int .i64 (s.clock+1)), .v (.int .i64 (nm.getD 3 0)), .v (.int .i64 (nm.getD 4 0)), .v (.int .i64 (nm.getD 5 0)), .v (.int .i64 (nm.getD 6 0)), .v (.int .i64 (nm.getD 7 0)), .v (.int .i64 (nm.getD 8 0))],wS (6,9)] (Bi t n0 (L0) (5,9)))
   (aN (.agg [.sl R.vars.length (be R.vars), .ref (2,8) 0 R.acts.length, .v (.int .i64 (R.steps:Int)), .v (.bool (!R.fin)), .sl (fg (jR R.cov)).length (be (fg (jR R.cov)))]) (((2,8), .row 57 5 (oz R.acts))::Bi t (n0+R.asked.length) (L0++Q) (5,8)) [(2,8),(4,9),(5,8),(6,9)] [(4,9),(6,9)]))
  (hd:P.d≤R.vars.length) (hrv:R.vars.length≤1000) (hra:R.acts.length≤500)
  (hq: ∀ i,i < R.acts.length→nE ⟨self,(h:Int),s.counts.getD h 0⟩ (Iq R) (bC s h (s.clock+1) P R i).1 (bC s h (s.clock+1) P R i).2 (kt R.acts i) (bC s h (s.clock+1) P R (i+1)).1 (bC s h (s.clock+1) P R (i+1)).2):
  Spec Tryz.prog 81 (aL [gm s,eU P, .v (.int .i64 (h:Int)), .v (.int .i64 self), .v (.int .i64 nodes), .v (.int .i64 drift),EZ nm,jv] (pN t n0 L0 (5,9)))
   (aN (.tup [.agg (HN (bC s h (s.clock+1) P R R.acts.length).1 (.ref (1,8) 0 (bC s h (s.clock+1) P R R.acts.length).1.timers.length)), .agg (LA ⟨self,(h:Int),s.counts.getD h 0⟩ (bC s h (s.clock+1) P R R.acts.length).2 (Iq R) (3,8) (6,8) (2,8))]) (Nm ⟨self,(h:Int),s.counts.getD h 0⟩ R (bC s h (s.clock+1) P R R.acts.length) t (n0+R.asked.length) (L0++Q)) [(1,8),(2,8),(3,8),(4,9),(5,8),(6,8)] [(4,9)]):=by
 have hcb2:=hcb h
 have hcb2: -1000000≤aP s h∧aP s h≤1000000:=hcb2
 have hce:=nZ s h ab (s.counts.getD h 0+1)
 have hal:=bN R.acts
 have hown:=jT s hs
 have hnv:=pE { s with clock:=s.clock+1 } ⟨hs.c,hs.p,hs.v,hs.t⟩ ho
 have hcl:=nh (R.vars.drop P.d) (by rw [List.length_drop];omega)
 have hds:((be R.vars).drop (P.d*1)).take ((R.vars.length - P.d)*1)=be (R.vars.drop P.d):=by
  rw [Nat.mul_one,Nat.mul_one,List.take_of_length_le (by rw [List.length_drop,aq];omega)]
  simp [be,List.map_drop]
 have hdl:R.vars.length - P.d=(R.vars.drop P.d).length:=by rw [List.length_drop]
 refine Spec.ofNI Tryz.func81 rfl Tryz.ntmps81 rfl ?_
 refine go 10 ?_
 refine aj (bp aa [((1,8),(22,0))] ar (hown.toI) trivial tr tr rfl rfl ae ae) ?_
 refine go 7 ?_
 refine aj (bJ _ _ aa rfl rfl rfl h rfl ab (show 8+h*1=8+h from by omega)) ?_
 refine aj (bB _ aa rfl rfl (jA _ _ _ _ _ _ _ _ _ _ h ab)) ?_
 refine go 5 ?_
 refine aE ?_
 refine az (σ':=an 93 [(2,_),(3,_),(4,_),(5,_),(8,_),(9,_),(14,_),(15,_),(16,_),(17,_),(18,_)] [((4,9),_),((5,9),_),((8,0),_),((9,0),_),((14,0),_),((15,0),_),((16,0),_),((17,0),_),((22,0),_),((18,0),_)] [(4,9),(5,9)] [(4,9)]) kp ?_
 refine go 10 ?_
 refine aj (oP (r:=false) _ _ rfl rfl (decide_eq_false ab)) ?_
 refine am (cK rfl rfl (cE (aF fun K7 hK7=> ?_)))
 refine go 2 ?_
 refine aj (bp aa [((1,9),(22,0))] ar (hnv) ob tr tr rfl rfl ae ae) ?_
 refine go 2 ?_
 refine ax (hK7 _ ?_)
 refine aE ?_
 refine az (σ':=an 93 [(2,_),(3,_),(4,_),(8,_),(9,_),(14,_),(15,_),(16,_),(17,_),(18,_)] [((4,9),_),((5,9),_),((8,0),_),((9,0),_),((14,0),_),((15,0),_),((16,0),_),((17,0),_),((22,0),_),((18,0),_)] [(4,9),(5,9)] [(4,9)]) kp ?_
 refine yx (14,0) (fun c=> ∃ xs,c=Slot.obj (.box 132 xs)) 11 [48,49,50,51,52,53,54,55,56] [(14,0),(14,0)] ae ae rfl (rfl:_=[_,_,_,_,_,_,_,_,_,_,_]) (rfl:_=[_,_]) (⟨_,rfl⟩) ?_
 refine ed (_,[]) (fun τ hτ=> cd _ rC) ?_
 refine ea (rfl:_=[_]) ?_
 refine ed (_,[]) (fun τ hτ=> cd _ rC) ?_
 refine ea (rfl:_=[_,_]) ?_
 refine ed (_,[]) (fun τ hτ=> di _ aa rfl rfl rfl) ?_
 refine ea (rfl:_=[_,_,_]) ?_
 refine ed (_,[]) (fun τ hτ=> bB _ aa rfl rfl JX) ?_
 refine ea (rfl:_=[_,_,_,_]) ?_
 refine ed (_,[]) (fun τ hτ=> di _ aa rfl (by exact hτ.choose_spec) rfl) ?_
 refine ea (rfl:_=[_,_,_,_,_]) ?_
 refine ed (_,[]) (fun τ hτ=> bJ _ _ aa rfl (by exact hτ.choose_spec) rfl 0 rfl ab rfl) ?_
 refine ea (rfl:_=[_,_,_,_,_,_]) ?_
 refine ed (_,[((14,0),_)]) (fun τ hτ=> cY _ _ aa rfl rfl rfl rfl (Nat.le_of_ble_eq_true rfl) rfl) ?_
 refine ea (rfl:_=[_,_,_,_,_,_,_]) ?_
 refine ed (_,[]) (fun τ hτ=> di _ aa rfl (by exact hτ.choose_spec) rfl) ?_
 refine ea (rfl:_=[_,_,_,_,_,_,_,_]) ?_
 refine ed (_,[]) (fun τ hτ=> bJ _ _ aa rfl rfl rfl 1 rfl ab rfl) ?_
 refine ea (rfl:_=[_,_,_,_,_,_,_,_,_]) ?_
 refine ed (_,[((14,0),_)]) (fun τ hτ=> cY _ _ aa rfl rfl rfl rfl (Nat.le_of_ble_eq_true rfl) rfl) ?_
 refine ea (rfl:_=[_,_,_,_,_,_,_,_,_,_]) ?_
 refine ed (_,[]) (fun τ hτ=> di _ aa rfl (by exact hτ.choose_spec) rfl) ?_
 refine ea (rfl:_=[_,_,_,_,_,_,_,_,_,_,_]) ?_
 refine uV ⟨⟨⟨rfl,by kernel_rfl,by kernel_rfl⟩,(by intro r hr c hc;simp only [List.mem_cons,List.not_mem_nil,or_false] at hr;rcases hr with rfl | rfl | rfl | rfl | rfl | rfl | rfl | rfl | rfl | rfl | rfl <;> simp at hc <;> (subst hc;exact ⟨_,rfl⟩))⟩,?_⟩
 refine aj (bJ _ _ aa rfl rfl rfl 2 rfl ab rfl) ?_
 refine go 2 ?_
 refine aF fun K9 hK9=> ?_
 refine go 4 ?_
 refine aj (jJ _ _ (rfl:_=[]) (rfl:_=[AV.ptr _ _])) ?_
 refine bu (Le.trans (Le.incT (62,1) rfl) (Le.incT (62,0) rfl)) ?_
 refine aj (aU aa [((6,9),(15,0)),((2,8),(62,0)),((5,8),(62,1))] ar (hv) ob tr tr rfl ae ae) ?_
 refine go 2 ?_
 refine ax (hK9 _ ?_)
 refine aE ?_
 refine az (σ':=an 93 [(2,_),(8,_),(9,_),(16,_),(17,_),(18,_)] [((8,0),_),((9,0),_),((16,0),_),((17,0),_),((22,0),_),((18,0),_),((62,0),_),((4,9),_),((62,1),_)] [(4,9),(62,0),(62,1)] [(4,9)]) kp ?_
 refine aD (bW rfl (IE rfl rfl rfl (aj (bJ _ _ aa rfl rfl rfl h rfl ab (show 8+h*1=8+h from by omega)) ?_)))
 refine aj (bB _ aa rfl rfl (jA _ _ _ _ _ _ _ _ _ _ h ab)) ?_
 refine go 2 ?_
 refine aj (bJ _ _ aa rfl rfl rfl h rfl ab (show 8+h*1=8+h from by omega)) ?_
 refine aj (cY _ _ aa rfl rfl rfl rfl (by show (8+h)+1≤52;omega) ((pV s.up s.ver s.epoch (s.clock+1) _ _ _ _ (aP s) s.wait h ab _).trans (congrArg (fun e=> AZ s.up s.ver s.epoch (s.clock+1) _ _ _ _ e s.wait) hce))) ?_
 refine go 7 ?_
 refine aj (fW _ _ _ aa rfl P.d R.vars.length (.lit rfl rfl) .dflt hd (Nat.le_refl _) hds hdl) ?_
 refine aj (ap aa al (hcl) rfl rfl) ?_
 refine go 3 ?_
 refine aF fun K12 hK12=> ?_
 refine aE ?_
 refine az (σ':=an 93 [(8,_),(16,_),(17,_),(18,_)] [((8,0),_),((16,0),_),((17,0),_),((22,0),_),((18,0),_),((62,0),_),((4,9),_),((62,1),_)] [(4,9),(62,0),(62,1)] [(4,9)]) kp ?_
 refine go 8 ?_
 refine az (Le.incA (22,0)) ?_
 refine az (Le.incT (63,0) rfl) ?_
 refine az (Le.incT (64,0) rfl) ?_
 refine az (Le.nilB (18,0) 3 (63,0) 117 9 rfl rfl rfl) ?_
 refine az (Le.nilB (18,0) 6 (64,0) 3 1 rfl rfl rfl) ?_
 refine aT (α:=Nat) (fun k=> k≤R.acts.length) 93 [(8,_),(16,_),(17,_),(18,_),(81,_),(82,_)] [((16,0),_),((17,0),_),((62,0),_),((4,9),_)] (fun k=> [(83, .v (.int .i64 (k:Int)))]) (fun k=> [((8,0), .box 83 [.v (.bool (bC s h (s.clock+1) P R k).1.up), .v (.int .i64 ((bC s h (s.clock+1) P R k).1.ver)), .v (.int .i64 ((bC s h (s.clock+1) P R k).1.epoch)), .v (.int .i64 ((bC s h (s.clock+1) P R k).1.clock)), .sl (bC s h (s.clock+1) P R k).1.dk.cells.length (be (bC s h (s.clock+1) P R k).1.dk.cells), .sl (bC s h (s.clock+1) P R k).1.dk.pend.length (iu (bC s h (s.clock+1) P R k).1.dk.pend), .sl (bC s h (s.clock+1) P R k).1.vol.length (be (bC s h (s.clock+1) P R k).1.vol), .ref (22,0) 0 (bC s h (s.clock+1) P R k).1.timers.length, .v (.int .i64 (aP (bC s h (s.clock+1) P R k).1 0)), .v (.int .i64 (aP (bC s h (s.clock+1) P R k).1 1)), .v (.int .i64 (aP (bC s h (s.clock+1) P R k).1 2)), .v (.int .i64 (aP (bC s h (s.clock+1) P R k).1 3)), .v (.int .i64 (aP (bC s h (s.clock+1) P R k).1 4)), .v (.int .i64 (aP (bC s h (s.clock+1) P R k).1 5)), .v (.int .i64 (aP (bC s h (s.clock+1) P R k).1 6)), .v (.int .i64 (aP (bC s h (s.clock+1) P R k).1 7)), .v (.int .i64 (aP (bC s h (s.clock+1) P R k).1 8)), .v (.int .i64 (aP (bC s h (s.clock+1) P R k).1 9)), .v (.int .i64 (aP (bC s h (s.clock+1) P R k).1 10)), .v (.int .i64 (aP (bC s h (s.clock+1) P R k).1 11)), .v (.int .i64 (aP (bC s h (s.clock+1) P R k).1 12)), .v (.int .i64 (aP (bC s h (s.clock+1) P R k).1 13)), .v (.int .i64 (aP (bC s h (s.clock+1) P R k).1 14)), .v (.int .i64 (aP (bC s h (s.clock+1) P R k).1 15)), .v (.int .i64 (aP (bC s h (s.clock+1) P R k).1 16)), .v (.int .i64 (aP (bC s h (s.clock+1) P R k).1 17)), .v (.int .i64 (aP (bC s h (s.clock+1) P R k).1 18)), .v (.int .i64 (aP (bC s h (s.clock+1) P R k).1 19)), .v (.int .i64 (aP (bC s h (s.clock+1) P R k).1 20)), .v (.int .i64 (aP (bC s h (s.clock+1) P R k).1 21)), .v (.int .i64 (aP (bC s h (s.clock+1) P R k).1 22)), .v (.int .i64 (aP (bC s h (s.clock+1) P R k).1 23)), .v (.int .i64 (aP (bC s h (s.clock+1) P R k).1 24)), .v (.int .i64 (aP (bC s h (s.clock+1) P R k).1 25)), .v (.int .i64 (aP (bC s h (s.clock+1) P R k).1 26)), .v (.int .i64 (aP (bC s h (s.clock+1) P R k).1 27)), .v (.int .i64 (aP (bC s h (s.clock+1) P R k).1 28)), .v (.int .i64 (aP (bC s h (s.clock+1) P R k).1 29)), .v (.int .i64 (aP (bC s h (s.clock+1) P R k).1 30)), .v (.int .i64 (aP (bC s h (s.clock+1) P R k).1 31)), .v (.int .i64 (aP (bC s h (s.clock+1) P R k).1 32)), .v (.int .i64 (aP (bC s h (s.clock+1) P R k).1 33)), .v (.int .i64 (aP (bC s h (s.clock+1) P R k).1 34)), .v (.int .i64 (aP (bC s h (s.clock+1) P R k).1 35)), .v (.int .i64 (aP (bC s h (s.clock+1) P R k).1 36)), .v (.int .i64 (aP (bC s h (s.clock+1) P R k).1 37)), .v (.int .i64 (aP (bC s h (s.clock+1) P R k).1 38)), .v (.int .i64 (aP (bC s h (s.clock+1) P R k).1 39)), .v (.int .i64 (aP (bC s h (s.clock+1) P R k).1 40)), .v (.int .i64 ((bC s h (s.clock+1) P R k).1.wait)), .v (.int .i64 (0)), .v (.int .i64 (0))]),((22,0), .row 3 1 (be (bC s h (s.clock+1) P R k).1.timers)),((18,0), .box 96 [.v (.int .i64 (self)), .v (.int .i64 (h:Int)), .v (.int .i64 (s.counts.getD h 0)), .ref (63,0) 0 (bC s h (s.clock+1) P R k).2.sent.length, .v (.bool (bC s h (s.clock+1) P R k).2.repl), .v (.int .i64 ((bC s h (s.clock+1) P R k).2.value)), .ref (64,0) 0 (bC s h (s.clock+1) P R k).2.fails.length, .sl R.vars.length (be R.vars), .ref (62,0) 0 R.acts.length, .v (.int .i64 ((R.steps:Int))), .v (.bool (!R.fin)), .sl (fg (jR R.cov)).length (be (fg (jR R.cov)))]),((63,0), .row 117 9 (sY ⟨self,(h:Int),s.counts.getD h 0⟩ (bC s h (s.clock+1) P R k).2.sent)),((64,0), .row 3 1 (be (bC s h (s.clock+1) P R k).2.fails)),((62,1), .row 111 7 (L0++Q))]) [(4,9),(62,0),(62,1),(22,0),(63,0),(64,0)] [(4,9)] (fun k=> R.acts.length - k) 0 ?_ (kj [0,0,0,0,1,2,1,2,2,2] [] []) ?_
 ·omega
 intro k hk
 refine go 3 ?_
 refine aF fun K15 hK15=> ?_
 refine ay rfl (fun hc84=> ?_) (fun hc84=> ?_)
 ·have ha:=hq k ab
  have hga:=nx R.acts k ab
  refine aR (hK15 _ ?_)
  refine aE (aH (aG (aj (bv _ _ aa rfl rfl rfl _ rfl ab (by exact Nat.zero_add _)) ?_)))
  refine aj (yN _ aa rfl rfl (by exact hga) rfl) ?_
  refine go 6 ?_
  refine bu (Le.trans (Le.incT (89,2) rfl) (Le.trans (Le.incT (89,1) rfl) (Le.incT (89,0) rfl))) ?_
  refine aj (aU aa [((1,9),(22,0)),((2,9),(18,0)),((3,9),(63,0)),((4,9),(64,0)),((5,9),(62,0)),((1,8),(89,0)),((3,8),(89,1)),((4,8),(89,2))] ar (ha) ob tr tr rfl ae ae) ?_
  refine go 5 ?_
  refine ax (⟨k+1,?_,?_,?_⟩)
  ·omega
  ·refine Le.mkJ [((22,0),(89,0)),((63,0),(89,1)),((64,0),(89,2))] [] rfl ?_ ?_ trivial tr ?_
   ·exact ⟨(bs (id:=(8,0)) rfl),(bs (id:=(16,0)) rfl),(bs (id:=(17,0)) rfl),(bs (id:=(18,0)) rfl),(cf (id:=(62,0)) rfl rfl),(by repeat' (exact Lv.v)),(bj ag),trivial⟩
   ·exact ⟨(cT rfl rfl rfl rfl (by repeat' (first | exact Lv.v | exact aK | refine ai ?_ ?_))),(cT rfl rfl rfl rfl (by repeat' (first | exact Lv.v | exact aK | refine ai ?_ ?_))),(cL rfl rfl rfl rfl),(cT rfl rfl rfl rfl (by repeat' (first | exact Lv.v | exact Lv.sl | exact cf (id:=(62,1)) rfl rfl | exact aK | refine ai ?_ ?_))),(cT rfl rfl rfl rfl lz),(cL rfl rfl rfl ag),(cT rfl rfl rfl rfl lz),(cL rfl rfl rfl ag),(cL rfl rfl rfl ag),(cL rfl rfl rfl ag),trivial⟩
   kernel_rfl
  omega
 obtain rfl:k=R.acts.length:=by omega
 refine aW (id (hK12 _ ?_))
 refine aE (hG 3 [91,92] [(16,0)] [[(16,0)],[],[]] ae ae rfl (bb rfl) (rfl:_=[_,_,_]) (rfl:_=[_]) ?_)
 refine go 4 ?_
 refine aB (_,[((16,0),_)]) (fun τ=> cY _ _ aa rfl (em rfl (by exact dB) rfl) rfl rfl (Nat.le_of_ble_eq_true rfl) rfl) ?_
 refine go 4 ?_
 exact au (jO (.inr rfl) rfl (.cellA aa rfl rfl rfl) (.cellA aa rfl rfl rfl) (Le.outI [((1,8),(22,0)),((2,8),(62,0)),((3,8),(63,0)),((6,8),(64,0)),((5,8),(62,1))] [] (.tup rfl lz) rfl rfl rfl trivial ob tr rfl))
set_option maxHeartbeats 4000000 in
theorem My (s:Ns) (hs:fB s) (ho:eL s.dk) (hc:s.counts.length=41) (P:Pg) (h:Nat) (hh:h < 40) (self nodes drift tk:Int) (nm:List Int) (t:Tl) (hdr:0 < drift) (hlk:pB t 2 0 (drift+1) tk) (htk:0≤tk∧tk≤1000000) (hdr2:drift≤1000000) (hcb: ∀ k, -1000000≤s.counts.getD k 0∧s.counts.getD k 0≤1000000) (hck: -1000000≤s.clock∧s.clock≤1000000)
  (R:Ms) (Q:List PV) (hv:Spec Tryz.prog 59 (aL [eU P, .v (.int .i64 (h:Int)), .agg [.sl (s.dk.view++s.vol).length (be (s.dk.view++s.vol)), .v (.int .i64 self), .v (.int .i64 nodes), .v (.int .i64 (s.clock+1+tk)), .v (.int .i64 (nm.getD 3 0)), .v (.int .i64 (nm.getD 4 0)), .v (.int .i64 (nm.getD 5 0)), .v (.int .i64 (nm.getD 6 0)), .v (.int .i64 (nm.getD 7 0)), .v (.int .i64 (nm.getD 8 0))],wS (6,9)] (Bi t 1 (pZ t 2 0 (drift+1) tk) (5,9)))
   (aN (.agg [.sl R.vars.length (be R.vars), .ref (2,8) 0 R.acts.length, .v (.int .i64 (R.steps:Int)), .v (.bool (!R.fin)), .sl (fg (jR R.cov)).length (be (fg (jR R.cov)))]) (((2,8), .row 57 5 (oz R.acts))::Bi t (1+R.asked.length) (pZ t 2 0 (drift+1) tk++Q) (5,8)) [(2,8),(4,9),(5,8),(6,9)] [(4,9),(6,9)]))
  (hd:P.d≤R.vars.length) (hrv:R.vars.length≤1000) (hra:R.acts.length≤500)
  (hq: ∀ i,i < R.acts.length→nE ⟨self,(h:Int),s.counts.getD h 0⟩ (Iq R) (bC s h (s.clock+1+tk) P R i).1 (bC s h (s.clock+1+tk) P R i).2 (kt R.acts i) (bC s h (s.clock+1+tk) P R (i+1)).1 (bC s h (s.clock+1+tk) P R (i+1)).2):
  Spec Tryz.prog 81 (aL [gm s,eU P, .v (.int .i64 (h:Int)), .v (.int .i64 self), .v (.int .i64 nodes), .v (.int .i64 drift),EZ nm,jv] (pN t 0 [] (5,9)))
   (aN (.tup [.agg (HN (bC s h (s.clock+1+tk) P R R.acts.length).1 (.ref (1,8) 0 (bC s h (s.clock+1+tk) P R R.acts.length).1.timers.length)), .agg (LA ⟨self,(h:Int),s.counts.getD h 0⟩ (bC s h (s.clock+1+tk) P R R.acts.length).2 (Iq R) (3,8) (6,8) (2,8))]) (Nm ⟨self,(h:Int),s.counts.getD h 0⟩ R (bC s h (s.clock+1+tk) P R R.acts.length) t (1+R.asked.length) (pZ t 2 0 (drift+1) tk++Q)) [(1,8),(2,8),(3,8),(4,9),(5,8),(6,8)] [(4,9)]):=by
 have hcb2:=hcb h
 have hcb2: -1000000≤aP s h∧aP s h≤1000000:=hcb2
 have hce:=nZ s h ab (s.counts.getD h 0+1)
 have hal:=bN R.acts
 have hown:=jT s hs
 have htl:=oI t 2 0 (drift+1) tk 0 [] rfl ab ab hlk
 have hnv:=pE { s with clock:=s.clock+1+tk } ⟨hs.c,hs.p,hs.v,hs.t⟩ ho
 have hcl:=nh (R.vars.drop P.d) (by rw [List.length_drop];omega)
 have hds:((be R.vars).drop (P.d*1)).take ((R.vars.length - P.d)*1)=be (R.vars.drop P.d):=by
  rw [Nat.mul_one,Nat.mul_one,List.take_of_length_le (by rw [List.length_drop,aq];omega)]
  simp [be,List.map_drop]
 have hdl:R.vars.length - P.d=(R.vars.drop P.d).length:=by rw [List.length_drop]
 refine Spec.ofNI Tryz.func81 rfl Tryz.ntmps81 rfl ?_
 refine go 10 ?_
 refine aj (bp aa [((1,8),(22,0))] ar (hown.toI) trivial tr tr rfl rfl ae ae) ?_
 refine go 7 ?_
 refine aj (bJ _ _ aa rfl rfl rfl h rfl ab (show 8+h*1=8+h from by omega)) ?_
 refine aj (bB _ aa rfl rfl (jA _ _ _ _ _ _ _ _ _ _ h ab)) ?_
 refine go 5 ?_
 refine aE ?_
 refine az (σ':=an 93 [(2,_),(3,_),(4,_),(5,_),(8,_),(9,_),(14,_),(15,_),(16,_),(17,_),(18,_)] [((4,9),_),((5,9),_),((8,0),_),((9,0),_),((14,0),_),((15,0),_),((16,0),_),((17,0),_),((22,0),_),((18,0),_)] [(4,9),(5,9)] [(4,9)]) kp ?_
 refine go 7 ?_
 refine aF fun K5 hK5=> ?_
 refine aG (bW rfl (aj (oP (r:=true) _ _ rfl rfl (decide_eq_true ab)) ?_))
 refine am (fR rfl rfl ?_)
 refine az (Le.incT (42,0) rfl) ?_
 refine dA 7 [(4,9),(42,0),(5,9)] ?_
 refine go 10 ?_
 refine aB (_,[((4,9),_),((42,0),_),((5,9), .gone)]) (fun τ=> (jh rfl aa [((5,8),(42,0))] ar (htl) ob tr tr rfl ae ae)) ?_
 refine go 6 ?_
 refine ax (hK5 _ ?_)
 refine aF fun K7 hK7=> ?_
 refine az (σ':=an 93 [(2,_),(3,_),(4,_),(8,_),(9,_),(14,_),(15,_),(16,_),(17,_),(18,_)] [((4,9),_),((8,0),_),((9,0),_),((14,0),_),((15,0),_),((16,0),_),((17,0),_),((22,0),_),((18,0),_),((42,0),_)] [(4,9),(42,0)] [(4,9)]) kp ?_
 refine go 2 ?_
 refine aj (bp aa [((1,9),(22,0))] ar (hnv) ob tr tr rfl rfl ae ae) ?_
 refine go 2 ?_
 refine ax (hK7 _ ?_)
 refine aE ?_
 refine az (σ':=an 93 [(2,_),(3,_),(4,_),(8,_),(9,_),(14,_),(15,_),(16,_),(17,_),(18,_)] [((4,9),_),((8,0),_),((9,0),_),((14,0),_),((15,0),_),((16,0),_),((17,0),_),((22,0),_),((18,0),_),((42,0),_)] [(4,9),(42,0)] [(4,9)]) kp ?_
 refine yx (14,0) (fun c=> ∃ xs,c=Slot.obj (.box 132 xs)) 11 [48,49,50,51,52,53,54,55,56] [(14,0),(14,0)] ae ae rfl (rfl:_=[_,_,_,_,_,_,_,_,_,_,_]) (rfl:_=[_,_]) (⟨_,rfl⟩) ?_
 refine ed (_,[]) (fun τ hτ=> cd _ rC) ?_
 refine ea (rfl:_=[_]) ?_
 refine ed (_,[]) (fun τ hτ=> cd _ rC) ?_
 refine ea (rfl:_=[_,_]) ?_
 refine ed (_,[]) (fun τ hτ=> di _ aa rfl rfl rfl) ?_
 refine ea (rfl:_=[_,_,_]) ?_
 refine ed (_,[]) (fun τ hτ=> bB _ aa rfl rfl JX) ?_
 refine ea (rfl:_=[_,_,_,_]) ?_
 refine ed (_,[]) (fun τ hτ=> di _ aa rfl (by exact hτ.choose_spec) rfl) ?_
 refine ea (rfl:_=[_,_,_,_,_]) ?_
 refine ed (_,[]) (fun τ hτ=> bJ _ _ aa rfl (by exact hτ.choose_spec) rfl 0 rfl ab rfl) ?_
 refine ea (rfl:_=[_,_,_,_,_,_]) ?_
 refine ed (_,[((14,0),_)]) (fun τ hτ=> cY _ _ aa rfl rfl rfl rfl (Nat.le_of_ble_eq_true rfl) rfl) ?_
 refine ea (rfl:_=[_,_,_,_,_,_,_]) ?_
 refine ed (_,[]) (fun τ hτ=> di _ aa rfl (by exact hτ.choose_spec) rfl) ?_
 refine ea (rfl:_=[_,_,_,_,_,_,_,_]) ?_
 refine ed (_,[]) (fun τ hτ=> bJ _ _ aa rfl rfl rfl 1 rfl ab rfl) ?_
 refine ea (rfl:_=[_,_,_,_,_,_,_,_,_]) ?_
 refine ed (_,[((14,0),_)]) (fun τ hτ=> cY _ _ aa rfl rfl rfl rfl (Nat.le_of_ble_eq_true rfl) rfl) ?_
 refine ea (rfl:_=[_,_,_,_,_,_,_,_,_,_]) ?_
 refine ed (_,[]) (fun τ hτ=> di _ aa rfl (by exact hτ.choose_spec) rfl) ?_
 refine ea (rfl:_=[_,_,_,_,_,_,_,_,_,_,_]) ?_
 refine uV ⟨⟨⟨rfl,by kernel_rfl,by kernel_rfl⟩,(by intro r hr c hc;simp only [List.mem_cons,List.not_mem_nil,or_false] at hr;rcases hr with rfl | rfl | rfl | rfl | rfl | rfl | rfl | rfl | rfl | rfl | rfl <;> simp at hc <;> (subst hc;exact ⟨_,rfl⟩))⟩,?_⟩
 refine aj (bJ _ _ aa rfl rfl rfl 2 rfl ab rfl) ?_
 refine go 2 ?_
 refine aF fun K9 hK9=> ?_
 refine go 4 ?_
 refine aj (jJ _ _ (rfl:_=[]) (rfl:_=[AV.ptr _ _])) ?_
 refine bu (Le.trans (Le.incT (62,1) rfl) (Le.incT (62,0) rfl)) ?_
 refine aj (aU aa [((5,9),(42,0)),((6,9),(15,0)),((2,8),(62,0)),((5,8),(62,1))] ar (hv) ob tr tr rfl ae ae) ?_
 refine go 2 ?_
 refine ax (hK9 _ ?_)
 refine aE ?_
 refine az (σ':=an 93 [(2,_),(8,_),(9,_),(16,_),(17,_),(18,_)] [((8,0),_),((9,0),_),((16,0),_),((17,0),_),((22,0),_),((18,0),_),((62,0),_),((4,9),_),((62,1),_)] [(4,9),(62,0),(62,1)] [(4,9)]) kp ?_
 refine aD (bW rfl (IE rfl rfl rfl (aj (bJ _ _ aa rfl rfl rfl h rfl ab (show 8+h*1=8+h from by omega)) ?_)))
 refine aj (bB _ aa rfl rfl (jA _ _ _ _ _ _ _ _ _ _ h ab)) ?_
 refine go 2 ?_
 refine aj (bJ _ _ aa rfl rfl rfl h rfl ab (show 8+h*1=8+h from by omega)) ?_
 refine aj (cY _ _ aa rfl rfl rfl rfl (by show (8+h)+1≤52;omega) ((pV s.up s.ver s.epoch (s.clock+1+tk) _ _ _ _ (aP s) s.wait h ab _).trans (congrArg (fun e=> AZ s.up s.ver s.epoch (s.clock+1+tk) _ _ _ _ e s.wait) hce))) ?_
 refine go 7 ?_
 refine aj (fW _ _ _ aa rfl P.d R.vars.length (.lit rfl rfl) .dflt hd (Nat.le_refl _) hds hdl) ?_
 refine aj (ap aa al (hcl) rfl rfl) ?_
 refine go 3 ?_
 refine aF fun K12 hK12=> ?_
 refine aE ?_
 refine az (σ':=an 93 [(8,_),(16,_),(17,_),(18,_)] [((8,0),_),((16,0),_),((17,0),_),((22,0),_),((18,0),_),((62,0),_),((4,9),_),((62,1),_)] [(4,9),(62,0),(62,1)] [(4,9)]) kp ?_
 refine go 8 ?_
 refine az (Le.incA (22,0)) ?_
 refine az (Le.incT (63,0) rfl) ?_
 refine az (Le.incT (64,0) rfl) ?_
 refine az (Le.nilB (18,0) 3 (63,0) 117 9 rfl rfl rfl) ?_
 refine az (Le.nilB (18,0) 6 (64,0) 3 1 rfl rfl rfl) ?_
 refine aT (α:=Nat) (fun k=> k≤R.acts.length) 93 [(8,_),(16,_),(17,_),(18,_),(81,_),(82,_)] [((16,0),_),((17,0),_),((62,0),_),((4,9),_)] (fun k=> [(83, .v (.int .i64 (k:Int)))]) (fun k=> [((8,0), .box 83 [.v (.bool (bC s h (s.clock+1+tk) P R k).1.up), .v (.int .i64 ((bC s h (s.clock+1+tk) P R k).1.ver)), .v (.int .i64 ((bC s h (s.clock+1+tk) P R k).1.epoch)), .v (.int .i64 ((bC s h (s.clock+1+tk) P R k).1.clock)), .sl (bC s h (s.clock+1+tk) P R k).1.dk.cells.length (be (bC s h (s.clock+1+tk) P R k).1.dk.cells), .sl (bC s h (s.clock+1+tk) P R k).1.dk.pend.length (iu (bC s h (s.clock+1+tk) P R k).1.dk.pend), .sl (bC s h (s.clock+1+tk) P R k).1.vol.length (be (bC s h (s.clock+1+tk) P R k).1.vol), .ref (22,0) 0 (bC s h (s.clock+1+tk) P R k).1.timers.length, .v (.int .i64 (aP (bC s h (s.clock+1+tk) P R k).1 0)), .v (.int .i64 (aP (bC s h (s.clock+1+tk) P R k).1 1)), .v (.int .i64 (aP (bC s h (s.clock+1+tk) P R k).1 2)), .v (.int .i64 (aP (bC s h (s.clock+1+tk) P R k).1 3)), .v (.int .i64 (aP (bC s h (s.clock+1+tk) P R k).1 4)), .v (.int .i64 (aP (bC s h (s.clock+1+tk) P R k).1 5)), .v (.int .i64 (aP (bC s h (s.clock+1+tk) P R k).1 6)), .v (.int .i64 (aP (bC s h (s.clock+1+tk) P R k).1 7)), .v (.int .i64 (aP (bC s h (s.clock+1+tk) P R k).1 8)), .v (.int .i64 (aP (bC s h (s.clock+1+tk) P R k).1 9)), .v (.int .i64 (aP (bC s h (s.clock+1+tk) P R k).1 10)), .v (.int .i64 (aP (bC s h (s.clock+1+tk) P R k).1 11)), .v (.int .i64 (aP (bC s h (s.clock+1+tk) P R k).1 12)), .v (.int .i64 (aP (bC s h (s.clock+1+tk) P R k).1 13)), .v (.int .i64 (aP (bC s h (s.clock+1+tk) P R k).1 14)), .v (.int .i64 (aP (bC s h (s.clock+1+tk) P R k).1 15)), .v (.int .i64 (aP (bC s h (s.clock+1+tk) P R k).1 16)), .v (.int .i64 (aP (bC s h (s.clock+1+tk) P R k).1 17)), .v (.int .i64 (aP (bC s h (s.clock+1+tk) P R k).1 18)), .v (.int .i64 (aP (bC s h (s.clock+1+tk) P R k).1 19)), .v (.int .i64 (aP (bC s h (s.clock+1+tk) P R k).1 20)), .v (.int .i64 (aP (bC s h (s.clock+1+tk) P R k).1 21)), .v (.int .i64 (aP (bC s h (s.clock+1+tk) P R k).1 22)), .v (.int .i64 (aP (bC s h (s.clock+1+tk) P R k).1 23)), .v (.int .i64 (aP (bC s h (s.clock+1+tk) P R k).1 24)), .v (.int .i64 (aP (bC s h (s.clock+1+tk) P R k).1 25)), .v (.int .i64 (aP (bC s h (s.clock+1+tk) P R k).1 26)), .v (.int .i64 (aP (bC s h (s.clock+1+tk) P R k).1 27)), .v (.int .i64 (aP (bC s h (s.clock+1+tk) P R k).1 28)), .v (.int .i64 (aP (bC s h (s.clock+1+tk) P R k).1 29)), .v (.int .i64 (aP (bC s h (s.clock+1+tk) P R k).1 30)), .v (.int .i64 (aP (bC s h (s.clock+1+tk) P R k).1 31)), .v (.int .i64 (aP (bC s h (s.clock+1+tk) P R k).1 32)), .v (.int .i64 (aP (bC s h (s.clock+1+tk) P R k).1 33)), .v (.int .i64 (aP (bC s h (s.clock+1+tk) P R k).1 34)), .v (.int .i64 (aP (bC s h (s.clock+1+tk) P R k).1 35)), .v (.int .i64 (aP (bC s h (s.clock+1+tk) P R k).1 36)), .v (.int .i64 (aP (bC s h (s.clock+1+tk) P R k).1 37)), .v (.int .i64 (aP (bC s h (s.clock+1+tk) P R k).1 38)), .v (.int .i64 (aP (bC s h (s.clock+1+tk) P R k).1 39)), .v (.int .i64 (aP (bC s h (s.clock+1+tk) P R k).1 40)), .v (.int .i64 ((bC s h (s.clock+1+tk) P R k).1.wait)), .v (.int .i64 (0)), .v (.int .i64 (0))]),((22,0), .row 3 1 (be (bC s h (s.clock+1+tk) P R k).1.timers)),((18,0), .box 96 [.v (.int .i64 (self)), .v (.int .i64 (h:Int)), .v (.int .i64 (s.counts.getD h 0)), .ref (63,0) 0 (bC s h (s.clock+1+tk) P R k).2.sent.length, .v (.bool (bC s h (s.clock+1+tk) P R k).2.repl), .v (.int .i64 ((bC s h (s.clock+1+tk) P R k).2.value)), .ref (64,0) 0 (bC s h (s.clock+1+tk) P R k).2.fails.length, .sl R.vars.length (be R.vars), .ref (62,0) 0 R.acts.length, .v (.int .i64 ((R.steps:Int))), .v (.bool (!R.fin)), .sl (fg (jR R.cov)).length (be (fg (jR R.cov)))]),((63,0), .row 117 9 (sY ⟨self,(h:Int),s.counts.getD h 0⟩ (bC s h (s.clock+1+tk) P R k).2.sent)),((64,0), .row 3 1 (be (bC s h (s.clock+1+tk) P R k).2.fails)),((62,1), .row 111 7 (pZ t 2 0 (drift+1) tk++Q))]) [(4,9),(62,0),(62,1),(22,0),(63,0),(64,0)] [(4,9)] (fun k=> R.acts.length - k) 0 ?_ (kj [0,0,0,0,1,2,1,2,2,2] [] []) ?_
 ·omega
 intro k hk
 refine go 3 ?_
 refine aF fun K15 hK15=> ?_
 refine ay rfl (fun hc84=> ?_) (fun hc84=> ?_)
 ·have ha:=hq k ab
  have hga:=nx R.acts k ab
  refine aR (hK15 _ ?_)
  refine aE (aH (aG (aj (bv _ _ aa rfl rfl rfl _ rfl ab (by exact Nat.zero_add _)) ?_)))
  refine aj (yN _ aa rfl rfl (by exact hga) rfl) ?_
  refine go 6 ?_
  refine bu (Le.trans (Le.incT (89,2) rfl) (Le.trans (Le.incT (89,1) rfl) (Le.incT (89,0) rfl))) ?_
  refine aj (aU aa [((1,9),(22,0)),((2,9),(18,0)),((3,9),(63,0)),((4,9),(64,0)),((5,9),(62,0)),((1,8),(89,0)),((3,8),(89,1)),((4,8),(89,2))] ar (ha) ob tr tr rfl ae ae) ?_
  refine go 5 ?_
  refine ax (⟨k+1,?_,?_,?_⟩)
  ·omega
  ·refine Le.mkJ [((22,0),(89,0)),((63,0),(89,1)),((64,0),(89,2))] [] rfl ?_ ?_ trivial tr ?_
   ·exact ⟨(bs (id:=(8,0)) rfl),(bs (id:=(16,0)) rfl),(bs (id:=(17,0)) rfl),(bs (id:=(18,0)) rfl),(cf (id:=(62,0)) rfl rfl),(by repeat' (exact Lv.v)),(bj ag),trivial⟩
   ·exact ⟨(cT rfl rfl rfl rfl (by repeat' (first | exact Lv.v | exact aK | refine ai ?_ ?_))),(cT rfl rfl rfl rfl (by repeat' (first | exact Lv.v | exact aK | refine ai ?_ ?_))),(cL rfl rfl rfl rfl),(cT rfl rfl rfl rfl (by repeat' (first | exact Lv.v | exact Lv.sl | exact cf (id:=(62,1)) rfl rfl | exact aK | refine ai ?_ ?_))),(cT rfl rfl rfl rfl lz),(cL rfl rfl rfl ag),(cT rfl rfl rfl rfl lz),(cL rfl rfl rfl ag),(cL rfl rfl rfl ag),(cL rfl rfl rfl ag),trivial⟩
   kernel_rfl
  omega
 obtain rfl:k=R.acts.length:=by omega
 refine aW (id (hK12 _ ?_))
 refine aE (hG 3 [91,92] [(16,0)] [[(16,0)],[],[]] ae ae rfl (bb rfl) (rfl:_=[_,_,_]) (rfl:_=[_]) ?_)
 refine go 4 ?_
 refine aB (_,[((16,0),_)]) (fun τ=> cY _ _ aa rfl (em rfl (by exact dB) rfl) rfl rfl (Nat.le_of_ble_eq_true rfl) rfl) ?_
 refine go 4 ?_
 exact au (jO (.inr rfl) rfl (.cellA aa rfl rfl rfl) (.cellA aa rfl rfl rfl) (Le.outI [((1,8),(22,0)),((2,8),(62,0)),((3,8),(63,0)),((6,8),(64,0)),((5,8),(62,1))] [] (.tup rfl lz) rfl rfl rfl trivial ob tr rfl))
end Go.Proofs.YtmjnackchaahbaaGreat

set_option maxHeartbeats 2000000
namespace Go.Proofs.YtmjnackchaahbaaGreat
open Go.RowKit

abbrev iL (c:Cz) (R:Ms) (q:Ns×Nr) (t:Tl) (n:Nat) (L:List PV):St:=aN (.tup [.agg (HN q.1 (.ref (1,8) 0 q.1.timers.length)), .agg (LA c q.2 (Iq R) (3,8) (6,8) (2,8))]) (Nm c R q t n L) [(1,8),(2,8),(3,8),(4,9),(5,8),(6,8)] [(4,9)]
set_option maxHeartbeats 4000000 in
theorem SM (s:Ns) (hs:fB s) (ho:eL s.dk) (P:Pg) (ver self nodes drift:Int) (t:Tl) (n0:Nat) (L0:List PV) (hd:s.dk.cells.length=P.d) (hpd:P.d≤1000) (hpv:P.v≤1000)
  (c:Cz) (R:Ms) (q:Ns×Nr) (n:Nat) (L:List PV) (hH:Spec Tryz.prog 81 (aL [gm (bM s P ver),eU P, .v (.int .i64 ((0:Nat):Int)), .v (.int .i64 self), .v (.int .i64 nodes), .v (.int .i64 drift),EZ (List.replicate 9 0),jv] (pN t n0 L0 (5,9))) (iL c R q t n L)):
  Spec Tryz.prog 56 (aL [gm s,eU P, .v (.int .i64 ver), .v (.int .i64 self), .v (.int .i64 nodes), .v (.int .i64 drift),jv] (pN t n0 L0 (5,9))) (iL c R q t n L):=by
 have hown:=jT s hs
 have hcc:=hs.c
 have hpp:=hs.p
 have hb:bM s P ver={ s with ver:=ver,vol:=List.replicate P.v 0,timers:=[],wait:= -1,up:=true }:=by unfold bM;rw [if_pos hd]
 rw [hb] at hH
 refine Spec.ofNI Tryz.func56 rfl Tryz.ntmps56 rfl ?_
 refine go 8 ?_
 refine aj (bp aa [((1,8),(17,0))] ar (hown.toI) trivial tr tr rfl rfl ae ae) ?_
 refine go 15 ?_
 refine aj (cM (r:=false) _ _ rfl rfl (by rw [hd];exact bne_self_eq_false _)) ?_
 refine am (cK rfl rfl (cE (aE ?_)))
 refine az (σ':=an 50 [(3,_),(4,_),(5,_),(6,_),(7,_),(8,_),(14,_),(15,_)] [((4,9),_),((5,9),_),((7,0),_),((8,0),_),((14,0),_),((15,0),_),((17,0),_)] [(4,9),(5,9)] [(4,9)]) kp ?_
 refine go 3 ?_
 refine aj (nX (35,0) _ _ aa rfl rfl (List.replicate P.v (0:Int)).length (by rw [List.length_replicate]) (by rw [List.length_replicate]) (by rw [List.length_replicate];omega) rfl (show _=be (List.replicate P.v 0) by rw [List.length_replicate];exact mc P.v)) ?_
 refine go 9 ?_
 refine aF fun K7 hK7=> ?_
 refine az (Le.frzB (ys:=be (List.replicate P.v 0)) (7,0) 6 rfl rfl rfl rfl (by rw [List.drop_zero,Nat.mul_one,List.take_of_length_le (by rw [aq];exact Nat.le_refl _)]) (by rw [aq,Nat.mul_one,Nat.zero_add];exact Nat.le_refl _)) ?_
 refine go 8 ?_
 refine bu (Le.trans (Le.incT (47,4) rfl) (Le.trans (Le.incT (47,3) rfl) (Le.trans (Le.incT (47,2) rfl) (Le.trans (Le.incT (47,1) rfl) (Le.incT (47,0) rfl))))) ?_
 refine aj (aU aa [((1,8),(47,0)),((2,8),(47,1)),((3,8),(47,2)),((6,8),(47,3)),((5,8),(47,4))] ar (hH) ob tr tr rfl ae ae) ?_
 refine go 4 ?_
 refine ax (hK7 _ ?_)
 exact au (jO (.inr rfl) rfl (.cellA aa rfl rfl rfl) (.cellA aa rfl rfl rfl) (Le.outI [((1,8),(47,0)),((2,8),(47,1)),((3,8),(47,2)),((6,8),(47,3)),((5,8),(47,4))] [] (.tup rfl lz) rfl rfl rfl trivial ob tr rfl))
set_option maxHeartbeats 4000000 in
theorem Tu (s:Ns) (hs:fB s) (ho:eL s.dk) (P:Pg) (ver self nodes drift:Int) (t:Tl) (n0:Nat) (L0:List PV) (hd:s.dk.cells.length≠P.d) (hpd:P.d≤1000) (hpv:P.v≤1000)
  (c:Cz) (R:Ms) (q:Ns×Nr) (n:Nat) (L:List PV) (hH:Spec Tryz.prog 81 (aL [gm (bM s P ver),eU P, .v (.int .i64 ((0:Nat):Int)), .v (.int .i64 self), .v (.int .i64 nodes), .v (.int .i64 drift),EZ (List.replicate 9 0),jv] (pN t n0 L0 (5,9))) (iL c R q t n L)):
  Spec Tryz.prog 56 (aL [gm s,eU P, .v (.int .i64 ver), .v (.int .i64 self), .v (.int .i64 nodes), .v (.int .i64 drift),jv] (pN t n0 L0 (5,9))) (iL c R q t n L):=by
 have hown:=jT s hs
 have hcc:=hs.c
 have hpp:=hs.p
 have hb:bM s P ver={ s with ver:=ver,dk:=s.dk.resize P.d,vol:=List.replicate P.v 0,timers:=[],wait:= -1,up:=true }:=by unfold bM;rw [if_neg hd]
 rw [hb] at hH
 have hrz:=tV s.dk P.d ab ab ab ho
 refine Spec.ofNI Tryz.func56 rfl Tryz.ntmps56 rfl ?_
 refine go 8 ?_
 refine aj (bp aa [((1,8),(17,0))] ar (hown.toI) trivial tr tr rfl rfl ae ae) ?_
 refine go 15 ?_
 refine aj (cM (r:=true) _ _ rfl rfl (bne_iff_ne.2 fun h=> hd (Int.ofNat_inj.1 h))) ?_
 refine am (fR rfl rfl ?_)
 refine az (σ':=an 50 [(3,_),(4,_),(5,_),(6,_),(7,_),(8,_),(14,_),(15,_)] [((4,9),_),((5,9),_),((7,0),_),((8,0),_),((14,0),_),((15,0),_),((17,0),_)] [(4,9),(5,9)] [(4,9)]) kp ?_
 refine go 5 ?_
 refine aj (ap aa al (hrz) rfl rfl) ?_
 refine go 6 ?_
 refine aj (nX (35,0) _ _ aa rfl rfl (List.replicate P.v (0:Int)).length (by rw [List.length_replicate]) (by rw [List.length_replicate]) (by rw [List.length_replicate];omega) rfl (show _=be (List.replicate P.v 0) by rw [List.length_replicate];exact mc P.v)) ?_
 refine go 9 ?_
 refine aF fun K7 hK7=> ?_
 refine az (Le.frzB (ys:=be (List.replicate P.v 0)) (7,0) 6 rfl rfl rfl rfl (by rw [List.drop_zero,Nat.mul_one,List.take_of_length_le (by rw [aq];exact Nat.le_refl _)]) (by rw [aq,Nat.mul_one,Nat.zero_add];exact Nat.le_refl _)) ?_
 refine go 8 ?_
 refine bu (Le.trans (Le.incT (47,4) rfl) (Le.trans (Le.incT (47,3) rfl) (Le.trans (Le.incT (47,2) rfl) (Le.trans (Le.incT (47,1) rfl) (Le.incT (47,0) rfl))))) ?_
 refine aj (aU aa [((1,8),(47,0)),((2,8),(47,1)),((3,8),(47,2)),((6,8),(47,3)),((5,8),(47,4))] ar (hH) ob tr tr rfl ae ae) ?_
 refine go 4 ?_
 refine ax (hK7 _ ?_)
 exact au (jO (.inr rfl) rfl (.cellA aa rfl rfl rfl) (.cellA aa rfl rfl rfl) (Le.outI [((1,8),(47,0)),((2,8),(47,1)),((3,8),(47,2)),((6,8),(47,3)),((5,8),(47,4))] [] (.tup rfl lz) rfl rfl rfl trivial ob tr rfl))
end Go.Proofs.YtmjnackchaahbaaGreat

set_option maxHeartbeats 2000000
namespace Go.Proofs.YtmjnackchaahbaaGreat
open Go.RowKit

def jN (p:Pg) (h:Nat) (names vars ans:List Int):Ms:=if p.e h < 0 then { vars:=vars,pc:=0,fin:=true } else ju ⟨p.c,p.d,names,ans⟩ 500 (cR vars (p.e h).toNat)
theorem nk (p:Pg) (h:Nat) (names vars ans:List Int):(jN p h names vars ans).acts=(fG p h names vars ans).acts∧(jN p h names vars ans).vars=(fG p h names vars ans).vars∧(jN p h names vars ans).asked=(fG p h names vars ans).asked:=by
 unfold jN fG
 split <;> exact ⟨rfl,rfl,rfl⟩
set_option maxHeartbeats 2000000 in
theorem tv (M:Mk) (h:Nat) (hh:h < 40) (he:M.P.e h < 0) (h1:M.iv.length≤1000) (R:Ms) (hR:R={ vars:=M.iv,pc:=0,fin:=true }):
  Spec Tryz.prog 59 (aL [eU M.P, .v (.int .i64 (h:Int)), .agg [.sl M.iv.length (be M.iv), .v (.int .i64 (M.nm 0)), .v (.int .i64 (M.nm 1)), .v (.int .i64 (M.nm 2)), .v (.int .i64 (M.nm 3)), .v (.int .i64 (M.nm 4)), .v (.int .i64 (M.nm 5)), .v (.int .i64 (M.nm 6)), .v (.int .i64 (M.nm 7)), .v (.int .i64 (M.nm 8))],wS (6,9)] (KH M [] (5,9))) (aN (.agg [.sl R.vars.length (be R.vars), .ref (2,8) 0 R.acts.length, .v (.int .i64 (R.steps:Int)), .v (.bool (!R.fin)), .sl (fg (jR R.cov)).length (be (fg (jR R.cov)))]) (((2,8), .row 57 5 (oz R.acts))::KH M R.asked (5,8)) [(2,8),(4,9),(5,8),(6,9)] [(4,9),(6,9)]):=by
 subst hR
 have hsk:fg (jR [])=[]:=by simp [fg,jR]
 have hcl:=qd M.iv ab
 have hg:=nJ M.P.c.length (inl M.P.c) M.P.e (M.P.d:Int) (M.P.v:Int) h hh
 refine Spec.ofNI Tryz.func59 rfl Tryz.ntmps59 rfl ?_
 refine go 5 ?_
 refine aE (dA 11 [(22,0)] ?_)
 refine go 10 ?_
 refine aB (_,[]) (fun τ=> bJ _ _ aa rfl rfl rfl h rfl ab (by exact congrArg (fun z=> 0+1+z) (Nat.mul_one h))) ?_
 refine go 1 ?_
 refine aB (_,[]) (fun τ=> bB _ aa rfl rfl (by exact (congrArg (fun z=> (CS M.P.c.length (inl M.P.c) M.P.e (M.P.d:Int) (M.P.v:Int))[z]?) ab).trans hg)) ?_
 refine go 5 ?_
 refine aB (_,[((22,0),_)]) (fun τ=> (bp aa [((0,8),(22,0))] ar (hcl.toI) trivial tr tr rfl rfl ae ae)) ?_
 refine go 1 ?_
 refine aB (_,[]) (fun τ=> gA _ aa rfl (by exact (rfl:_=some [AV.ref (22,0) 0 M.iv.length,AV.v (.slice none 0 0),AV.v (.int .i64 0),AV.v (.bool false),AV.v (.slice none 0 0)]))) ?_
 refine go 1 ?_
 refine cq ⟨rfl,?_⟩
 refine aj (gA _ aa rfl (by exact (rfl:_=some [_,_,_,_,_,_,_,_,_,_,_,_,_,_,_,_,_,_,_,_,_,_,_,_,_,_,_,_,_,_,_,_,_,_,_,_,_,_,_,_,_,_,_,_,_,_,_,_,_,_,_,_,_,_,_,_,_,_,_,_,_,_,_,_]))) ?_
 refine aj (dZ (25,0) _ rfl rfl) (JQ rfl (am (aE (aE ?_))))
 refine az (σ':=an 108 [(4,_),(8,_),(9,_)] [((4,9),_),((5,9),_),((6,9),_),((4,0),_),((8,0),_),((22,0),_),((25,0),_)] [(4,9),(5,9),(6,9)] [(4,9),(6,9)]) kp ?_
 refine go 5 ?_
 refine aj (cZ (r:=true) _ _ rfl rfl (decide_eq_true he)) ?_
 refine am (fR rfl rfl (aE ?_))
 refine az (Le.trans (Le.nilB (25,0) 55 (61,0) 57 5 rfl rfl rfl) (Le.incT (61,0) rfl)) ?_
 refine go 7 ?_
 exact au (cg (.inr rfl) rfl (.cellA aa rfl rfl rfl) (Le.outI [((5,8),(5,9)),((2,8),(61,0))] [(22,0)] (.agg rfl (ai (dH rfl rfl (by simp) rfl) (ai (cf rfl rfl) (ai .v (ai .v (ai (by show Lv _ _ _ (.sl (fg (jR [])).length (be (fg (jR [])))) _;rw [hsk];exact .nil) aK)))))) rfl rfl rfl tr ob tr rfl))
end Go.Proofs.YtmjnackchaahbaaGreat

set_option maxHeartbeats 2000000
namespace Go.Proofs.YtmjnackchaahbaaGreat
open Go.RowKit

theorem rp (s:Ns) (h:Nat) (ck:Int) (P:Pg) (R:Ms) {k:Nat} (hk:k < R.acts.length):bC s h ck P R (k+1)=dj (bC s h ck P R k) (kt R.acts k):=by
 show (R.acts.take (k+1)).foldl dj _=_
 rw [List.take_add_one,List.foldl_append,List.getElem?_eq_getElem hk,show kt R.acts k=R.acts[k] by simp [kt,hk]]
 rfl
theorem uy (q:Ns×Nr) (a:Ac):(dj q a).2.sent.length≤q.2.sent.length+1∧(dj q a).2.fails.length≤q.2.fails.length+1:=by
 unfold dj
 split
 ·exact ⟨Nat.le_succ _,Nat.le_succ _⟩
 split
 ·exact ⟨Nat.le_succ _,Nat.le_succ _⟩
 split
 ·exact ⟨Nat.le_succ _,Nat.le_succ _⟩
 split
 ·exact ⟨Nat.le_succ _,Nat.le_succ _⟩
 split
 ·exact ⟨by simp,Nat.le_succ _⟩
 split
 ·split <;> exact ⟨Nat.le_succ _,Nat.le_succ _⟩
 split
 ·exact ⟨Nat.le_succ _,by simp⟩
 exact ⟨Nat.le_succ _,Nat.le_succ _⟩
theorem tX {l:List Ac} {k:Nat} (hk:k < l.length):kt l k∈l:=by
 rw [show kt l k=l[k] by simp [kt,hk]];exact List.getElem_mem hk
structure Sx (P:Pg) (t:Int) (R:Ms) (q:Ns×Nr) (k:Nat):Prop where
 tm:pG t q.1.timers
 dk:DkOk P.d q.1.dk
 vo:q.1.vol=R.vars.drop P.d
 se:q.2.sent.length≤k
 fa:q.2.fails.length≤k
theorem sX {s:Ns} {h:Nat} {ck:Int} {P:Pg} {R:Ms} {t:Int} (ht:0≤t∧t < 8) (hac: ∀ a∈R.acts,xg t a∧Rg a.b) (htl:pG t s.timers) (hdk:DkOk P.d s.dk): ∀ k,k≤R.acts.length→Sx P t R (bC s h ck P R k) k
 | 0,_=> ⟨htl,hdk,rfl,Nat.le_refl _,Nat.le_refl _⟩
 | k+1,hk=> by
  obtain ⟨h1,h2,h3,h4,h5⟩:=sX (ck:=ck) ht hac htl hdk k ab
  obtain ⟨a1,a2⟩:=hac _ (tX (l:=R.acts) (k:=k) ab)
  rw [rp s h ck P R ab]
  obtain ⟨l1,l2⟩:=uy (bC s h ck P R k) (kt R.acts k)
  exact ⟨vi ht a1 h1,tb h2 a2,(so _ _).2.2.2.2.1.trans h3,by omega,by omega⟩
theorem Kn (c:Cz) {s:Ns} {h:Nat} {ck:Int} {P:Pg} {R:Ms} {t:Int} (ht:0≤t∧t < 8) (hac: ∀ a∈R.acts,xg t a∧Rg a.b) (htl:pG t s.timers) (hdk:DkOk P.d s.dk) (hd:P.d≤1000) (hv:R.vars.length≤1000) (hn:R.acts.length≤500):
  ∀ i,i < R.acts.length→nE c (Iq R) (bC s h ck P R i).1 (bC s h ck P R i).2 (kt R.acts i) (bC s h ck P R (i+1)).1 (bC s h ck P R (i+1)).2:=fun i hi=> by
 obtain ⟨h1,h2,h3,h4,h5⟩:=sX (h:=h) (ck:=ck) ht hac htl hdk i ab
 rw [rp s h ck P R hi]
 have hp:=h2.pn
 refine Jq c (Iq R) ht _ _ (hac _ (tX hi)).1 h1 ⟨by rw [h2.len];exact hd,by omega,by rw [h3,List.length_drop];omega,?_⟩ (fun w hw=> ?_) ab ab
 ·rcases h1 with h1 | h1 <;> rw [h1] <;> simp
 obtain ⟨b1,b2,_⟩:=h2.pr w hw
 exact ⟨b1,by rw [h2.len];exact b2⟩
theorem mZ (p:Pg) (h:Nat) (names vars ans:List Int):(jN p h names vars ans).acts.length≤500:=by
 unfold jN
 split
 ·exact Nat.zero_le _
 have h1:=iB (K:=⟨p.c,p.d,names,ans⟩) (I:=Sz) (fun s hs _=> pY hs) 500 (cR vars (p.e h).toNat) ⟨Nat.le_refl _,Nat.le_refl _,Nat.le_refl _⟩
 have h2:=(kr (K:=⟨p.c,p.d,names,ans⟩) 500 (cR vars (p.e h).toNat)).1
 have h3:=h1.ac
 have h4:(cR vars (p.e h).toNat).steps=0:=rfl
 omega
theorem Ky (P:Pg) (hp:lU P) (hcl:P.c.length≤1000000) (h:Nat) (hh:h < 40) (nm iv ans:List Int) (hn: ∀ i,Rg (nm.getD i 0)) (hiv:iv.length=P.d+P.v) (hir: ∀ v∈iv,Rg v) (t:Tl) (ht:Ao ⟨P,iv,nm,ans,t⟩) (R:Ms) (hR:R=jN P h nm iv ans):
  Spec Tryz.prog 59 (aL [eU P, .v (.int .i64 (h:Int)), .agg [.sl iv.length (be iv), .v (.int .i64 (nm.getD 0 0)), .v (.int .i64 (nm.getD 1 0)), .v (.int .i64 (nm.getD 2 0)), .v (.int .i64 (nm.getD 3 0)), .v (.int .i64 (nm.getD 4 0)), .v (.int .i64 (nm.getD 5 0)), .v (.int .i64 (nm.getD 6 0)), .v (.int .i64 (nm.getD 7 0)), .v (.int .i64 (nm.getD 8 0))],wS (6,9)] (Bi t t.np t.pre (5,9)))
   (aN (.agg [.sl R.vars.length (be R.vars), .ref (2,8) 0 R.acts.length, .v (.int .i64 (R.steps:Int)), .v (.bool (!R.fin)), .sl (fg (jR R.cov)).length (be (fg (jR R.cov)))]) (((2,8), .row 57 5 (oz R.acts))::Bi t (t.np+R.asked.length) (t.pre++mw t ans R.asked) (5,8)) [(2,8),(4,9),(5,8),(6,9)] [(4,9),(6,9)]):=by
 have e0:KH ⟨P,iv,nm,ans,t⟩ [] (5,9)=Bi t t.np t.pre (5,9):=by
  show Bi t (t.np+0) (t.pre++mw t ans []) (5,9)=_
  rw [show mw t ans []=[] from rfl,List.append_nil];rfl
 rw [← e0]
 have hnv:=hp.nv
 by_cases he:P.e h < 0
 ·have hR2:R={ vars:=iv,pc:=0,fin:=true }:=by rw [hR];unfold jN;rw [if_pos he]
  exact tv ⟨P,iv,nm,ans,t⟩ h hh he (by show iv.length≤1000;omega) R hR2
 obtain ⟨D,hg,hE⟩:=hp.ex
 obtain ⟨e1,e2,e3⟩:=(hE h).resolve_left he
 have hR2:R=ju ⟨P.c,P.d,nm,ans⟩ 500 (cR iv (P.e h).toNat):=by rw [hR];unfold jN;rw [if_neg he]
 exact AW ⟨P,iv,nm,ans,t⟩ KY D (P.d+P.v) ⟨hg,hnv,hn⟩ h hh (P.e h).toNat (by show P.e h=_;omega) (by show _ < P.c.length;omega) e3 hiv hir hcl ht R hR2
end Go.Proofs.YtmjnackchaahbaaGreat

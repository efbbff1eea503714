/- part 6 -/
import Derived.Test.YtmjnackchaahbaaGreatNvZ5
set_option linter.unusedSimpArgs false
set_option linter.unusedVariables false
namespace Go.Proofs.YtmjnackchaahbaaGreat
open Go.RowKit

inductive Ln (σ:St):PV→AV→Prop where
 | v {x:Value} (h:x.oneCell'=true):Ln σ (.v x) (.v x)
 | sl {n:Nat} {xs:List PV}:Ln σ (.sl n xs) (.sl n xs)
 | nil:Ln σ (.sl 0 []) (.v (.slice none 0 0))
 | fp {off:Nat} {xs:List PV}:Ln σ (.ptr off xs) (.fp off xs)
 | ref {id:az} {off n:Nat} {e:TypeId} {sz:Nat} {xs ys:List PV} (hid:σ.ob id= .obj (.row e sz xs)) (hy:(xs.drop off).take (n*sz)=ys) (hl:off+n*sz≤xs.length):Ln σ (.sl n ys) (.ref id off n)
 | ptr {id:az} {off:Nat} {e:TypeId} {xs:List AV} {ys:List PV} (hid:σ.ob id= .obj (.box e xs)) (hl:ys.length≤xs.length) (h: ∀ (j:Nat) (p:PV) (a:AV),ys[j]? =some p→xs[j]? =some a→Ln σ p a):Ln σ (.ptr off ys) (.ptr id off)
 | fn {f:Fn} {xs us:List PV} {ys vs:List AV} (hl:xs.length=ys.length) (h: ∀ (j:Nat) (p:PV) (a:AV),xs[j]? =some p→ys[j]? =some a→Ln σ p a)
   (hl':us.length=vs.length) (h': ∀ (j:Nat) (p:PV) (a:AV),us[j]? =some p→vs[j]? =some a→Ln σ p a):Ln σ (.fn f xs us) (.fn f ys vs)
theorem Ln.rd {K:lV} {ι:az→Option eC} {S S1:Nat→Prop} {σ:St} {act:Act} {w:World} (R:RelI K ι S σ act w) (hS: ∀ g,S g→S1 g) (hF: ∀ id B g,ι id=some B→B.g=some g→S1 g) {p:PV} {a:AV} (h:Ln σ p a): ∀ {v:Value},Rep ι S w a v→Rd S1 w p v:=by
 induction h with
 | v h1=> intro v hv;cases hv;exact .v h1
 | sl=> intro v hv;cases hv with
  | sl h=> exact h.next (fun _ _=> rfl) hS
 | nil=> intro v hv;cases hv;exact .sl0 (Nat.le_refl _) (by unfold maxLen;omega) fun _=> ⟨rfl,rfl⟩
 | fp=> intro v hv;cases hv with
  | fp h=> exact h.next (fun _ _=> rfl) hS
 | ref hid hy hl=>
  intro v hv
  have:=(Lv.frz (ρ:=fun i=> i) (F:=fun _=> true) hid rfl hy hl).rep (ι1:=ι) (S1:=S1) R (fun _ _ h=> h) hS (fun id B g _ a b=> hF id B g a b) hv
  cases this with
  | sl h=> exact h
 | ptr hid hl h ih=>
  intro v hv
  rename_i id off e xs ys
  obtain ⟨B,g,hB,hg,htot,hrow⟩:=R.ob id _ hid
  cases hv with
  | ptr hp _=>
   obtain ⟨g',hg',rfl⟩:=hp B hB
   rw [hg] at hg'
   obtain rfl:=Option.some.inj hg'
   rcases hrow with ⟨h6,_⟩ | ⟨g',cur,h10,h11,h12,h13,h14⟩
   ·rw [hg] at h6;cases h6
   rw [hg] at h10
   obtain rfl:=Option.some.inj h10
   have:=Rd.ptr (S:=S1) (w:=w) (off:=off) (b:=g) (o:=0) (xs:=ys) (fun j=> cur.getD j undef) (.mk (hF id B g hB hg) h11) (fun j p hp=> ?_) (fun j p hp=> ?_)
   ·simp only [Nat.zero_add] at this;exact this
   ·have hj:=(List.getElem?_eq_some_iff.1 hp).1
    obtain ⟨u,hu,_⟩:=h14 j ab
    exact ef h11 (by simp [hu])
   have hj:=(List.getElem?_eq_some_iff.1 hp).1
   have ha:=List.getElem?_eq_getElem (show j < xs.length by omega)
   obtain ⟨u,hu,hu1,hu2⟩:=h14 j ab
   simp only [Array.getD_eq_getD_getElem?,hu,Option.getD_some]
   exact ih j p _ hp ha (hu2 _ ha)
 | fn hl h hl' h' ih ih'=>
  intro v hv
  cases hv with
  | fn a1 a2 a3 a4=>
   refine .fn ab ab (fun j p hp=> ?_) fun j p hp=> ?_
   ·have hj:=(List.getElem?_eq_some_iff.1 hp).1
    exact ih j p _ hp (List.getElem?_eq_getElem (show j < _ by omega)) (a3 j _ (List.getElem?_eq_getElem (show j < _ by omega)))
   have hj:=(List.getElem?_eq_some_iff.1 hp).1
   exact ih' j p _ hp (List.getElem?_eq_getElem (show j < _ by omega)) (a4 j _ (List.getElem?_eq_getElem (show j < _ by omega)))

section
variable {P:Program} {σ τ:St} {o:Oper}
mutual
theorem tO: ∀ (a:AV),a.ren (fun i=> i)=a
 | .dead=> rfl
 | .v _=> rfl
 | .sl _ _=> rfl
 | .fp _ _=> rfl
 | .z=> rfl
 | .mp i=> rfl
 | .ref i _ _=> rfl
 | .ptr i _=> rfl
 | .agg xs=> by simp only [AV.ren,iJ xs]
 | .fn f xs ys=> by simp only [AV.ren,iJ xs,iJ ys]
 | .ifc t a=> by simp only [AV.ren,tO a]
 | .tup xs=> by simp only [AV.ren,iJ xs]
theorem iJ: ∀ (l:List AV),AV.rens (fun i=> i) l=l
 | []=> rfl
 | a::l=> by simp only [AV.rens,tO a,iJ l]
end
mutual
theorem nZ {ρ:az→az} {F:az→Bool} {ids:List az} (h: ∀ i,cr i ids=true→ρ i=i): ∀ (a:AV),a.within ids=true→Lv ρ σ F a a
 | .dead,_=> .dead
 | .v _,_=> .v
 | .sl _ _,_=> .sl
 | .fp _ _,_=> .fp
 | .z,_=> .z
 | .mp i,hw=> by have:=Lv.mp (ρ:=ρ) (σ:=σ) (F:=F) (id:=i);rwa [h i hw] at this
 | .ref i o n,hw=> ca (h i hw) rfl
 | .ptr i o,hw=> bv (h i hw)
 | .agg xs,hw=> .agg rfl fun j a b ha hb=> by rw [ha] at hb;cases hb;exact fM h xs hw j a ha
 | .fn f xs ys,hw=> by
  simp only [AV.within,Bool.and_eq_true] at hw
  exact .fn rfl (fun j a b ha hb=> by rw [ha] at hb;cases hb;exact fM h xs hw.1 j a ha) rfl fun j a b ha hb=> by rw [ha] at hb;cases hb;exact fM h ys hw.2 j a ha
 | .ifc t a,hw=> .ifc (nZ h a hw)
 | .tup xs,hw=> .tup rfl fun j a b ha hb=> by rw [ha] at hb;cases hb;exact fM h xs hw j a ha
theorem fM {ρ:az→az} {F:az→Bool} {ids:List az} (h: ∀ i,cr i ids=true→ρ i=i): ∀ (l:List AV),AV.withins ids l=true→ ∀ (j:Nat) (a:AV),l[j]? =some a→Lv ρ σ F a a
 | [],_,j,a,ha=> by simp at ha
 | x::l,hw,0,a,ha=> by
  simp only [AV.withins,Bool.and_eq_true] at hw
  simp at ha;subst ha;exact nZ h x hw.1
 | x::l,hw,j+1,a,ha=> by
  simp only [AV.withins,Bool.and_eq_true] at hw
  exact fM h l hw.2 j a (by simpa using ha)
end
theorem wX {ρ:az→az} {F:az→Bool} {ids:List az} (h: ∀ i,cr i ids=true→ρ i=i) (o:Cells) (hw:o.within ids=true):LvO ρ σ F o o:=by
 cases o with
 | row e sz xs=> exact .row (List.append_nil xs).symm
 | box e xs=> exact .box rfl fun j a b ha hb=> by rw [ha] at hb;cases hb;exact fM h xs hw j a ha
 | rowA e sz xs=> exact .rowA rfl fun j a b ha hb=> by rw [ha] at hb;cases hb;exact fM h xs hw j a ha
 | mp=> exact .mp
 | it m a b c=> have:=LvO.it (ρ:=ρ) (σ:=σ) (F:=F) (m:=m) (since:=a) (seen:=b) (stepped:=c);rwa [h m hw] at this
theorem vH (o:Cells):o.ren (fun i=> i)=o:=by
 cases o with
 | row=> rfl
 | box e xs=> simp only [Cells.ren,iJ xs]
 | rowA e sz xs=> simp only [Cells.ren,iJ xs]
 | mp=> rfl
 | it m=> rfl
theorem mt {ids:List az}: ∀ {l:List (az×Cells)},be ids l=true→ ∀ {x},x∈l→x.2.within ids=true
 | [],_,x,h=> by simp at h
 | y::l,hw,x,h=> by
  simp only [be,Bool.and_eq_true] at hw
  rcases List.mem_cons.1 h with rfl | h
  ·exact hw.1
  exact mt hw.2 h
def lO (σ:St):List (az×Cells)→Prop
 | []=> True
 | (i,o)::l=> σ.ob i= .obj o∧lO σ l
theorem ph: ∀ {l:List (az×Cells)},lO σ l→ ∀ {i o},(i,o)∈l→σ.ob i= .obj o
 | [],_,i,o,h=> by simp at h
 | (k,c)::l,h,i,o,hm=> by
  rcases List.mem_cons.1 hm with h0 | hm
  ·obtain ⟨rfl,rfl⟩:=Prod.mk.inj h0;exact h.1
  exact ph h.2 hm
theorem Bi {I:List az} {SS:List (az×Cells)} (hI:SS.map (·.1)=I) {c:az} (h:c∈I): ∃ o,(c,o)∈SS:=by
 subst hI
 obtain ⟨⟨i,o⟩,hm,rfl⟩:=List.mem_map.1 h
 exact ⟨o,hm⟩
theorem wZ {SS:List (az×Cells)} {I:List az} (hI:SS.map (·.1)=I) (hk:lO σ SS) (hn:bh I=true):σ.afterP (aU []) SS I I=σ:=by
 have hid:I.map (aU [])=I:=by rw [fk];simp
 have hno:((SS.map (·.1)).map (aU [])).Nodup:=by rw [hI,hid];exact bj hn
 have hren: ∀ o:Cells,o.ren (aU [])=o:=fun o=> by rw [fk];exact vH o
 refine St.eq rfl (fun _=> rfl) (fun c=> ?_) (funext fun c=> ?_) rfl
 ·show dw _ _ _ _ c=_
  by_cases hc:c∈I
  ·obtain ⟨o,ho⟩:=Bi hI hc
   have:=cU (ins:=I) (ob:=σ.ob) hno ho
   rw [hren] at this
   exact this.trans (ph hk ho).symm
  rw [dH (by rw [hI,hid];exact hc),hid]
  have:cr c I=false:=by
   cases h:cr c I with
   | true=> exact absurd (inO_iff.1 h) hc
   | false=> rfl
  rw [this];rfl
 show lg _ _ _ _ _ _ c=_
 by_cases hc:c∈I
 ·have:=qf (ins:=I) (I:=I) (any:=fv σ ((gx SS I).map (aU []))) (inc:=σ.inc) hno (hI ▸ hc)
  rw [inO_iff.2 hc,cond_true] at this
  exact this
 exact mu (by rw [hI,hid];exact hc)
theorem uS {SS:List (az×Cells)} {I:List az} {rn:List (az×az)} (hr: ∀ i,cr i I=true→aU rn i=i) (hk:lO σ SS) (hs: ∀ x∈SS,cr x.1 I=true∧x.2.within I=true):dK (aU rn) σ (fun _=> false) I SS:=by
 induction SS with
 | nil=> trivial
 | cons x l ih=>
  obtain ⟨i,o⟩:=x
  obtain ⟨h1,h2⟩:=hs _ List.mem_cons_self
  refine ⟨⟨rfl,⟨o,by rw [hr i h1];exact hk.1,?_⟩,by rw [h1];rfl⟩,ih hk.2 fun x hx=> hs x (List.mem_cons_of_mem _ hx)⟩
  exact wX hr o h2
theorem qO {I:List az} {ρ:az→az} {l':List (az×Cells)} (h':ev σ ρ I l'): ∀ {l:List (az×Cells)},(∀ x∈l,cr x.1 I=true)→ev σ ρ I (l++l')
 | [],_=> h'
 | (i,o)::l,h=> ⟨by rw [h (i,o) List.mem_cons_self];rfl,qO h' fun x hx=> h x (List.mem_cons_of_mem _ hx)⟩
theorem Ap {o:Oper} {f:FuncId} {avs:List AV} (hE:EntersAt P o σ f avs) (SS:List (az×Cells)) (I:List az) {args:List AV} {x:Value} (ha:fS σ [] avs args)
  (sp:Spec P f (aL args SS) (aO (.v x) SS I I)) (hk:lO σ SS) (hI:SS.map (·.1)=I) (hb:(AV.withins I args && be I SS && bh I && gY I I SS)=true) (h0:I≠[]):ik P o σ (σ.put o.dst (.v x)):=by
 subst hI
 simp only [Bool.and_eq_true] at hb
 obtain ⟨⟨⟨h1,h2⟩,h3⟩,h4⟩:=hb
 have hid:(SS.map (·.1)).map (aU [])=SS.map (·.1):=by rw [fk];simp
 have hw: ∀ x∈SS,cr x.1 (SS.map (·.1))=true∧x.2.within (SS.map (·.1))=true:=fun x hx=> ⟨inO_iff.2 (List.mem_map_of_mem hx),mt h2 hx⟩
 have h:=qV hE [] ha h1 h2 (uS (rn:=[]) (fun _ _=> rfl) hk hw) (by rw [hid];exact h3) h3 (by rw [hid];exact h3) h3 (by
  have:=qO (σ:=σ) (ρ:=aU []) (I:=SS.map (·.1)) (l':=[]) trivial (l:=SS) fun x hx=> (hw x hx).1
  rwa [List.append_nil] at this) h4 (r:= .v x) rfl h2 sp
 rw [wZ rfl hk h3] at h
 exact h
theorem aY {dd:Option Tmp} {ty:TypeId} {f:FuncId} {xs:Array Operand} {ats:Array TypeId} (C:bU P f) (SS:List (az×Cells)) (I:List az) {args:List AV} {x:Value} (ha:fS σ [] (xs.toList.map σ.eval) args)
  (sp:Spec P f (aL args SS) (aO (.v x) SS I I)) (hk:lO σ SS) (hI:SS.map (·.1)=I) (hb:(AV.withins I args && be I SS && bh I && gY I I SS)=true) (h0:I≠[]):Stp P dd (.call { callee:= .value (.func f),args:=xs,argTypes:=ats }) ty σ (σ.put dd (.v x)):=
 fun o hd ho ht=> by subst hd;exact Ap (.fnc ho C) SS I ha sp hk hI hb h0
end
section
variable {P:Program} {σ:St} {o:Oper} {T e:TypeId} {size bytes:Nat} {z:List Value}
theorem vc {w:World} {t e:TypeId} (a:Addr) (n c:Nat) (ht:P.underlying t=some (.slice e)):(binOp .eql t (.slice (some a) n c) (.slice none 0 0)).run P w= .ok (.bool false) w:=by
 have h1 (d:Nat):(Op.equalIn (d+1) t (.slice (some a) n c) (.slice none 0 0)).run P w= .ok false w:=by
  simp [run_underlying ht,Op.equalIn]
 have h2:=h1 9999
 simp only [binOp]
 simp [Op.equal,Op.maxDepth,h2]
theorem tF {dd:Option Tmp} {ty:TypeId} {t t' e:TypeId} (x y:Operand) (h:P.underlying t=some (.slice e)) {n:Nat} (hx:(∃ xs,σ.eval x= .sl n xs)∨ ∃ id off e sz xs,σ.eval x= .ref id off n∧σ.ob id= .obj (.row e sz xs)) (hn:0 < n) (hy:σ.eval y= .v (.slice none 0 0)):Stp P dd (.binOp .eql t x y t') ty σ (σ.put dd (.v (.bool false))):=by
 intro o hd ho ht
 subst hd
 refine bB fun _ ι S a w R=> ⟨_,?_, .v,fun _=> eH⟩
 have hp: ∃ p m c,a.eval x= .slice (some p) m c:=by
  rcases hx with ⟨xs,hx⟩ | ⟨id,off,e,sz,xs,hx,hid⟩
  ·have hr:=R.eval x
   rw [hx] at hr
   generalize a.eval x=u at hr
   cases hr with
   | sl h=>
    cases h with
    | sl0 h0 h1 h2=>
     rename_i c ao
     cases ao with
     | none=> have:=h2 rfl;omega
     | some p=> exact ⟨_,_,_,rfl⟩
    | sl=> exact ⟨_,_,_,rfl⟩
  obtain ⟨B,h1,_,_⟩:=R.ob id _ hid
  have hr:=R.eval x
  rw [hx] at hr
  generalize a.eval x=u at hr
  cases hr with
  | ref h _=>
   obtain ⟨c,_,_,h5⟩:=h B h1
   cases hg:B.g with
   | none=> rw [hg] at h5;have:=h5.2.1;omega
   | some g=>
    rw [hg] at h5
    obtain ⟨o',rfl,_⟩:=h5
    exact ⟨_,_,_,rfl⟩
 obtain ⟨p,m,c,hp⟩:=hp
 have h2:=Rep.evV R hy
 have hq:=vc (w:=w) p m c h
 clear h hx hy
 generalize a.eval=ρ at hp h2
 simp [execOp,ho,hp,h2,eqGuard,hq]
theorem xx {dd:Option Tmp} {ty:TypeId} (id':az) (s x:Operand) (E:Elem P T e size bytes z) (hs:σ.eval s= .z) {m:Nat} (hm:0 < m) {news:List PV} (hx:SrcAV σ (σ.eval x) size m news) (hb:m*bytes≤140737488355328) (hid':σ.ob id'= .free):
  Stp P dd (.call { callee:= .builtin .append,args:= #[s,x],argTypes:= #[T,T] }) ty σ ((σ.setOb id' (.obj (.row e size news))).put dd (.ref id' 0 m)):=by
 intro o hd ho ht
 subst hd
 intro K ι S a w R
 have hv:=R.eval s
 rw [hs] at hv
 obtain ⟨vs,hsl,hvl,hvr⟩:=hx.src R E.pos
 obtain ⟨v',w',hr,h4,h5,_,h7⟩:=px (P:=P) (T:=T) o.type 0 (.slice none 0 0) 0 [] (World.ownsRow_nil _ _ _ _) (a.eval x) m vs hsl (by simpa using hb) (Nat.zero_le _)
 have hrun:(execOp a.eval o).run P w= .ok (.value v') w':=by
  generalize hu:a.eval s=u at hv
  cases hv with
  | z=>
   rename_i ao
   have h0:(Builtin.append_ #[T,T] o.type #[.slice ao 0 0,a.eval x]).run P w= .ok v' w':=by
    cases ao with
    | none=> exact hr
    | some b=> exact ((uT (P:=P) (T:=T) w o.type b (a.eval x) m vs hsl hb).resolve_left fun h=> by omega).trans hr
   unfold execOp
   simp only [ho,resolve,invoke,builtin,Sem.run_bind,Sem.run_pure,Result.andThen_ok,List.map_toArray,List.map_cons,List.map_nil,hu,h0]
 simp only [List.nil_append,Nat.zero_add] at h4
 have hbl:Below w.heap.size w w':=ia (by simpa [Value.ownBlock] using h5)
 rcases gy h4 with ⟨hv',hn0,hu0⟩ | ⟨g,c,cur,hv',hg,hnc,hcm,hcs,hcu⟩
 ·omega
 subst hv'
 refine bH hrun (R.newRow hid' hbl e size m hg ?_ hnc hcm hcs (by rw [← hvl];exact h4.1) (fun j b hb'=> ?_) _)
 ·rcases h7 with h | ⟨k,hk,hle⟩
  ·simp [Value.ownBlock] at h
  simp [Value.ownBlock] at hk;omega
 obtain ⟨u,a1,a2,a3⟩:=hvr j b hb'
 exact ⟨u,hcu j u a1,a2,a3⟩
theorem dC {dd:Option Tmp} {ty:TypeId} {f:FuncId} {xs:Array Operand} {ats:Array TypeId} (C:bU P f) (rn:List (az×az)) {args:List AV} {ins outs:List (az×Cells)} {r:AV} {I Pn:List az}
  (ha:fS σ rn (xs.toList.map σ.eval) args) (sp:Spec P f (aL args ins) (aO r outs I Pn)) (hins:dK (aU rn) σ (fun _=> false) (ins.map (·.1)) ins) (hfr:ev σ (aU rn) (ins.map (·.1)) outs)
  (hb:(AV.withins (ins.map (·.1)) args && be (ins.map (·.1)) ins && bh ((ins.map (·.1)).map (aU rn)) && bh (ins.map (·.1)) && bh ((outs.map (·.1)).map (aU rn)) && bh (outs.map (·.1)) && gY (ins.map (·.1)) Pn outs && r.within (outs.map (·.1)) && be (outs.map (·.1)) outs)=true):
  Stp P dd (.call { callee:= .value (.func f),args:=xs,argTypes:=ats }) ty σ ((σ.afterP (aU rn) outs (ins.map (·.1)) I).put dd (r.ren (aU rn))):=by
 intro o hd ho ht
 subst hd
 simp only [Bool.and_eq_true] at hb
 obtain ⟨⟨⟨⟨⟨⟨⟨⟨h1,h2⟩,h3⟩,h4⟩,h5⟩,h6⟩,h7⟩,h8⟩,h9⟩:=hb
 exact qV (.fnc ho C) rn ha h1 h2 hins h3 h4 h5 h6 hfr h7 h8 h9 sp
theorem rG {dd:Option Tmp} {ty:TypeId} {f:FuncId} {x0:Operand} {xs:Array Operand} {ats:Array TypeId} {first caps:List AV} (hx:σ.eval x0= .fn (.func f) first caps) (C:bU P f) (rn:List (az×az)) {args:List AV} {ins outs:List (az×Cells)} {r:AV} {I Pn:List az}
  (ha:fS σ rn (first++xs.toList.map σ.eval++caps) args) (sp:Spec P f (aL args ins) (aO r outs I Pn)) (hins:dK (aU rn) σ (fun _=> false) (ins.map (·.1)) ins) (hfr:ev σ (aU rn) (ins.map (·.1)) outs)
  (hb:(AV.withins (ins.map (·.1)) args && be (ins.map (·.1)) ins && bh ((ins.map (·.1)).map (aU rn)) && bh (ins.map (·.1)) && bh ((outs.map (·.1)).map (aU rn)) && bh (outs.map (·.1)) && gY (ins.map (·.1)) Pn outs && r.within (outs.map (·.1)) && be (outs.map (·.1)) outs)=true):
  Stp P dd (.call { callee:= .value x0,args:=xs,argTypes:=ats }) ty σ ((σ.afterP (aU rn) outs (ins.map (·.1)) I).put dd (r.ren (aU rn))):=by
 intro o hd ho ht
 subst hd
 simp only [Bool.and_eq_true] at hb
 obtain ⟨⟨⟨⟨⟨⟨⟨⟨h1,h2⟩,h3⟩,h4⟩,h5⟩,h6⟩,h7⟩,h8⟩,h9⟩:=hb
 exact qV (.fnv ho C hx) rn ha h1 h2 hins h3 h4 h5 h6 hfr h7 h8 h9 sp
theorem Jv {ρ:az→az} {F:az→Bool} {a b:AV} (ids:List az) (hids:ids.all (fun j=> gq (ρ j) j)=true) (hb:b=a) (hw:a.within ids=true):Lv ρ σ F a b:=
 by subst hb;exact nZ (fun j hj=> oeq_iff.1 (List.all_eq_true.1 hids j (inO_iff.1 hj))) _ hw
end
def dz:List Res→(Nat→Bool)→Nat→az→Option Slot
 | [],_,_,_=> none
 | r::rs,L,k,i=> match dz rs L (k+1) i with
  | some c=> some c
  | none=> bif L k then ez r.2 i else none
theorem li {L:Nat→Bool} {i:az} {c:Slot}: ∀ {rs:List Res} {k0 k:Nat} {r:Res},rs[k]? =some r→L (k0+k)=true→ez r.2 i=some c→(∀ m r',k < m→rs[m]? =some r'→L (k0+m)=true→ez r'.2 i=none)→dz rs L k0 i=some c
 | [],_,_,_,h,_,_,_=> by simp at h
 | r0::rs,k0,k,r,h,hl,hc,hn=> by
  simp only [dz]
  cases k with
  | zero=>
   simp only [List.getElem?_cons_zero,Option.some.injEq] at h
   subst h
   have:dz rs L (k0+1) i=none:=by
    have key: ∀ {rs:List Res} {k1:Nat},(∀ m r',rs[m]? =some r'→L (k1+m)=true→ez r'.2 i=none)→dz rs L k1 i=none:=by
     intro rs
     induction rs with
     | nil=> intros;rfl
     | cons r rs ih=>
      intro k1 h
      simp only [dz]
      rw [ih (k1:=k1+1) fun m r' hr' hl'=> h (m+1) r' (by simpa using hr') (by rw [show k1+(m+1)=k1+1+m by omega];exact hl')]
      cases hl:L k1 with
      | true=> exact h 0 r rfl hl
      | false=> rfl
    exact key fun m r' hr' hl'=> hn (m+1) r' ab (by simpa using hr') (by rw [show k0+(m+1)=k0+1+m by omega];exact hl')
   rw [this,show L k0=true from hl]
   exact hc
  | succ k=>
   rw [li (k0:=k0+1) (k:=k) (r:=r) (by simpa using h) (by rw [show k0+1+k=k0+(k+1) by omega];exact hl) hc fun m r' hm hr' hl'=> hn (m+1) r' ab (by simpa using hr') (by rw [show k0+(m+1)=k0+1+m by omega];exact hl')]
theorem oY {L:Nat→Bool} {i:az}: ∀ {rs:List Res} {k0:Nat},(∀ m r',rs[m]? =some r'→L (k0+m)=true→ez r'.2 i=none)→dz rs L k0 i=none
 | [],_,_=> rfl
 | r::rs,k0,h=> by
  simp only [dz]
  rw [oY (k0:=k0+1) fun m r' hr' hl'=> h (m+1) r' (by simpa using hr') (by rw [show k0+(m+1)=k0+1+m by omega];exact hl')]
  cases hl:L k0 with
  | true=> exact h 0 r rfl hl
  | false=> rfl
theorem nC {L L':Nat→Bool} {i:az}: ∀ {rs:List Res} {k0:Nat},(∀ m r',rs[m]? =some r'→L (k0+m)=L' (k0+m)∨ez r'.2 i=none)→dz rs L k0 i=dz rs L' k0 i
 | [],_,_=> rfl
 | r::rs,k0,h=> by
  simp only [dz]
  rw [nC (L:=L) (L':=L') (k0:=k0+1) fun m r' hr'=> by
   have:=h (m+1) r' (by simpa using hr')
   rwa [show k0+(m+1)=k0+1+m by omega] at this]
  rcases h 0 r rfl with h0 | h0
  ·rw [show L k0=L' k0 from h0]
  rw [h0];cases L k0 <;> cases L' k0 <;> rfl
theorem od: ∀ {l:List (az×Slot)} {i:az} {c:Slot},(i,c)∈l→ ∃ c',ez l i=some c'
 | (k,x)::l,i,c,h=> by
  simp only [ez]
  cases hb:gq i k with
  | true=> exact ⟨x,rfl⟩
  | false=>
   rcases List.mem_cons.1 h with h0 | h
   ·obtain ⟨rfl,rfl⟩:=Prod.mk.inj h0
    rw [dO] at hb;cases hb
   exact od h
theorem xz (r:Res) (d:Option Tmp) (σ:St) (i:az) (hn:(r.2.map (·.1)).Nodup):(r.app d σ).ob i=(ez r.2 i).getD (σ.ob i):=by
 cases h:ez r.2 i with
 | some c=> exact oE r d σ hn (gF h)
 | none=> exact oz r d σ fun c hc=> by obtain ⟨c',h'⟩:=od hc;rw [h] at h';cases h'
theorem tZ {L:Nat→Bool}: ∀ (ops:List Oper) (rs:List Res) (k:Nat) (σ:St) (i:az),ops.length=rs.length→(∀ (k:Nat) (r:Res),rs[k]? =some r→(r.2.map (·.1)).Nodup)→(dh ops rs L k σ).ob i=(dz rs L k i).getD (σ.ob i)
 | [],[],_,_,_,_,_=> rfl
 | [],_::_,_,_,_,h,_=> by simp at h
 | _::_,[],_,_,_,h,_=> by simp at h
 | o::ops,r::rs,k,σ,i,h,hn=> by
  simp only [dh,dz]
  rw [tZ ops rs (k+1) _ i (by simpa using h) fun m r' hr'=> hn (m+1) r' (by simpa using hr')]
  cases hb:dz rs L (k+1) i with
  | some c=> rfl
  | none=>
   cases hl:L k with
   | true=> exact xz r o.dst σ i (hn 0 r rfl)
   | false=> rfl
def jB:List Res→List Nat→Nat→az→Option Slot
 | r::rs,dp,k,i=> Ow (jB rs dp (k+1) i) (bif rP k dp then ez r.2 i else none)
 | _,_,_,_=> none
theorem ld: ∀ {rs:List Res} {dp:List Nat} {k0:Nat} {i:az},jB rs dp k0 i=none→ ∀ {k:Nat} {r:Res},rs[k]? =some r→k0+k∈dp→ez r.2 i=none
 | [],_,_,_,_,_,_,h,_=> by simp at h
 | r0::rs,dp,k0,i,h,k,r,hr,hk=> by
  simp only [jB] at h
  cases hx:jB rs dp (k0+1) i with
  | some x=> rw [hx] at h;cases h
  | none=>
   rw [hx] at h
   cases k with
   | zero=>
    simp only [List.getElem?_cons_zero,Option.some.injEq] at hr
    subst hr
    rw [inL_iff.2 (by simpa using hk)] at h
    exact h
   | succ k=> exact ld hx (k:=k) (by simpa using hr) (by rw [show k0+1+k=k0+(k+1) by omega];exact hk)
theorem oR: ∀ {rs:List Res} {dp:List Nat} {k:Nat} {i:az} {c:Slot},jB rs dp k i=some c→ ∃ j r,rs[j]? =some r∧k+j∈dp∧ez r.2 i=some c∧ ∀ m r',j < m→rs[m]? =some r'→k+m∈dp→ez r'.2 i=none
 | [],_,_,_,_,h=> by simp [jB] at h
 | r::rs,dp,k,i,c,h=> by
  simp only [jB] at h
  cases hx:jB rs dp (k+1) i with
  | some x=>
   rw [hx] at h
   obtain rfl:=Option.some.inj (show some x=some c from h)
   obtain ⟨j,r',h1,h2,h3,h4⟩:=oR hx
   refine ⟨j+1,r',by simpa using h1,by rw [show k+(j+1)=k+1+j by omega];exact h2,h3,fun m r2 hm hr2 hk2=> ?_⟩
   obtain ⟨m,rfl⟩: ∃ m',m=m'+1:=⟨m - 1,by omega⟩
   exact h4 m r2 ab (by simpa using hr2) (by rw [show k+1+m=k+(m+1) by omega];exact hk2)
  | none=>
   rw [hx] at h
   cases hb:rP k dp with
   | false=> rw [hb] at h;cases h
   | true=>
    rw [hb] at h
    refine ⟨0,r,rfl,by simpa using inL_iff.1 hb,h,fun m r2 hm hr2 hk2=> ?_⟩
    obtain ⟨m,rfl⟩: ∃ m',m=m'+1:=⟨m - 1,by omega⟩
    exact ld hx (k:=m) (by simpa using hr2) (by rw [show k+1+m=k+(m+1) by omega];exact hk2)
def ei (σ:St) (W:List Nat) (I:List az) (own:List az) (ops:List Oper) (rs:List Res) (dp:List Nat) (τ:St):St where
 n:=σ.n
 fr t:=match mY ops rs dp 0 t with
  | some a=> a
  | none=> bif rP t W then τ.fr t else σ.fr t
 ob i:=match jB rs dp 0 i with
  | some c=> c
  | none=> bif cr i I && !(cr i own) then τ.ob i else σ.ob i
 inc:=σ.inc
 pin:=σ.pin
inductive tv (P:Program) (all:List Oper) (W:List Nat) (I:List az) (σ:St) (rs:List Res) (o:Oper):Res→Prop where
 | plain {r:Res} (hg:o.guard=none) (h: ∀ τ,ik P o (ei σ W I (r.2.map (·.1)) all rs (Edge.ons o.after.toList) τ) (r.app o.dst (ei σ W I (r.2.map (·.1)) all rs (Edge.ons o.after.toList) τ))):tv P all W I σ rs o r
 | yes {r:Res} {j d:Nat} {want:Bool} (hg:o.guard=some (j,want)) (hd:(all[j]?).bind (·.dst)=some d) (hv: ∀ τ,(ei σ W I (r.2.map (·.1)) all rs (Edge.ons o.after.toList) τ).eval (.tmp d)= .v (.bool want))
   (h: ∀ τ,ik P o (ei σ W I (r.2.map (·.1)) all rs (Edge.ons o.after.toList) τ) (r.app o.dst (ei σ W I (r.2.map (·.1)) all rs (Edge.ons o.after.toList) τ))):tv P all W I σ rs o r
 | no {j d:Nat} {want:Bool} {y:Value} (hg:o.guard=some (j,want)) (hd:(all[j]?).bind (·.dst)=some d) (hv: ∀ τ,(ei σ W I [] all rs (Edge.ons o.after.toList) τ).eval (.tmp d)= .v y) (hb:y≠ .bool want):tv P all W I σ rs o (.v undef,[])
def AnyOpsC (P:Program) (all:List Oper) (W:List Nat) (I:List az) (σ:St) (Kont:List Res→Prop):List Oper→List Res→Prop
 | [],rs=> Kont rs
 | o::os,rs=> ∃ r,tv P all W I σ rs o r∧AnyOpsC P all W I σ Kont os (rs++[r])
section
variable {P:Program} {σ:St} {all:List Oper} {W:List Nat} {I:List az} {Kont:List Res→Prop} {os:List Oper} {rs:List Res} {d:Option Tmp} {op:Op} {ty:TypeId} {p:String} {af:List Edge}
theorem bn (r:Res)
  (hs: ∀ τ,Stp P d op ty (ei σ W I (r.2.map (·.1)) all rs (Edge.ons af) τ) (r.app d (ei σ W I (r.2.map (·.1)) all rs (Edge.ons af) τ))) (h:AnyOpsC P all W I σ Kont os (rs++[r])):AnyOpsC P all W I σ Kont (⟨d,op,ty,p,af.toArray,none⟩::os) rs:=
 ⟨r, .plain rfl fun τ=> hs τ _ rfl rfl rfl,h⟩
theorem jM (h:Kont rs):AnyOpsC P all W I σ Kont [] rs:=h
theorem bo {rs':List Res} (h:rs=rs') (hh:AnyOpsC P all W I σ Kont os rs'):AnyOpsC P all W I σ Kont os rs:=h ▸ hh
end
def CE (r r':Res):Bool:=r.2.any fun p=> (ez r'.2 p.1).isSome
def chainB (ops:List Oper) (rs:List Res):Bool:=(List.range rs.length).all fun k=> (List.range k).all fun j=> match rs[j]?,rs[k]?,ops[k]? with
 | some r,some r',some o=> !(CE r r') || (rP j (Edge.ons o.after.toList) && (List.range ops.length).all fun m=> match ops[m]? with | some om=> !(rP j (Edge.ons om.after.toList)) || Nat.beq m k || rP m (Edge.ons o.after.toList) || rP k (Edge.ons om.after.toList) | none=> true)
 | _,_,_=> true
theorem kt {ops:List Oper} {rs:List Res} (h:chainB ops rs=true) {j k:Nat} (hjk:j < k) {r r':Res} (hr:rs[j]? =some r) (hr':rs[k]? =some r') {i:az} {c c':Slot} (hc:ez r.2 i=some c) (hc':ez r'.2 i=some c') {o:Oper} (ho:ops[k]? =some o):
  j∈Edge.ons o.after.toList∧ ∀ m om,ops[m]? =some om→j∈Edge.ons om.after.toList→m=k∨m∈Edge.ons o.after.toList∨k∈Edge.ons om.after.toList:=by
 unfold chainB at h
 have hk:=(List.getElem?_eq_some_iff.1 hr').1
 have h1:=List.all_eq_true.1 (List.all_eq_true.1 h k (List.mem_range.2 hk)) j (List.mem_range.2 hjk)
 rw [hr,hr',ho] at h1
 have hs:CE r r'=true:=List.any_eq_true.2 ⟨(i,c),gF hc,by rw [hc'];rfl⟩
 simp only [hs,Bool.not_true,Bool.false_or,Bool.and_eq_true,List.all_eq_true] at h1
 refine ⟨inL_iff.1 h1.1,fun m om hm hj=> ?_⟩
 have h2:=h1.2 m (List.mem_range.2 (List.getElem?_eq_some_iff.1 hm).1)
 rw [hm] at h2
 simp only [inL_iff.2 hj,Bool.not_true,Bool.false_or,Bool.or_eq_true] at h2
 rcases h2 with (h2 | h2) | h2
 ·exact .inl (Nat.eq_of_beq_eq_true h2)
 ·exact .inr (.inl (inL_iff.1 h2))
 exact .inr (.inr (inL_iff.1 h2))
def uH (rs:List Res):Bool:=rs.all fun r=> bh (r.2.map (·.1))
theorem yA {rs:List Res} (h:uH rs=true) {k:Nat} {r:Res} (hr:rs[k]? =some r):(r.2.map (·.1)).Nodup:=bj (List.all_eq_true.1 h r (List.mem_of_getElem? hr))
theorem qz {L:Nat→Bool} {i:az} {c:Slot}: ∀ {rs:List Res} {k:Nat},dz rs L k i=some c→ ∃ r∈rs,(i,c)∈r.2
 | [],_,h=> by simp [dz] at h
 | r::rs,k,h=> by
  simp only [dz] at h
  cases hx:dz rs L (k+1) i with
  | some x=>
   rw [hx] at h
   obtain rfl:=Option.some.inj h
   obtain ⟨r',h1,h2⟩:=qz hx
   exact ⟨r',List.mem_cons_of_mem _ h1,h2⟩
  | none=>
   rw [hx] at h
   simp only at h
   cases hb:L k with
   | false=> rw [hb] at h;cases h
   | true=> rw [hb] at h;exact ⟨r,List.mem_cons_self,gF h⟩
inductive pO (io:az) (Φ:Slot→Prop) (P:Program) (all:List Oper) (W:List Nat) (I:List az) (σ:St) (rs:List Res) (o:Oper):Res→Prop where
 | plain {r:Res} (hg:o.guard=none) (h: ∀ τ:St,Φ (τ.ob io)→ik P o (ei σ W I (r.2.map (·.1)) all rs (Edge.ons o.after.toList) τ) (r.app o.dst (ei σ W I (r.2.map (·.1)) all rs (Edge.ons o.after.toList) τ))):pO io Φ P all W I σ rs o r
 | yes {r:Res} {j d:Nat} {want:Bool} (hg:o.guard=some (j,want)) (hd:(all[j]?).bind (·.dst)=some d) (hv: ∀ τ:St,Φ (τ.ob io)→(ei σ W I (r.2.map (·.1)) all rs (Edge.ons o.after.toList) τ).eval (.tmp d)= .v (.bool want))
   (h: ∀ τ:St,Φ (τ.ob io)→ik P o (ei σ W I (r.2.map (·.1)) all rs (Edge.ons o.after.toList) τ) (r.app o.dst (ei σ W I (r.2.map (·.1)) all rs (Edge.ons o.after.toList) τ))):pO io Φ P all W I σ rs o r
 | no {j d:Nat} {want:Bool} {y:Value} (hg:o.guard=some (j,want)) (hd:(all[j]?).bind (·.dst)=some d) (hv: ∀ τ:St,Φ (τ.ob io)→(ei σ W I [] all rs (Edge.ons o.after.toList) τ).eval (.tmp d)= .v y) (hb:y≠ .bool want):pO io Φ P all W I σ rs o (.v undef,[])
def AnyOpsX (io:az) (Φ:Slot→Prop) (P:Program) (all:List Oper) (W:List Nat) (I:List az) (σ:St) (Kont:List Res→Prop):List Oper→List Res→Prop
 | [],rs=> Kont rs
 | o::os,rs=> ∃ r,pO io Φ P all W I σ rs o r∧AnyOpsX io Φ P all W I σ Kont os (rs++[r])
theorem AnyOpsX.get {io:az} {Φ:Slot→Prop} {P:Program} {all:List Oper} {W:List Nat} {I:List az} {σ:St} {Kont:List Res→Prop}: ∀ (os:List Oper) (rs0:List Res),AnyOpsX io Φ P all W I σ Kont os rs0→
  ∃ rs,rs.length=rs0.length+os.length∧rs.take rs0.length=rs0∧Kont rs∧ ∀ (j:Nat) (o:Oper) (r:Res),os[j]? =some o→rs[rs0.length+j]? =some r→pO io Φ P all W I σ (rs.take (rs0.length+j)) o r
 | [],rs0,h=> ⟨rs0,by simp,by simp,h,by simp⟩
 | o::os,rs0,⟨r,h1,h2⟩=> by
  obtain ⟨rs,a,b,c,d⟩:=AnyOpsX.get os (rs0++[r]) h2
  simp only [List.length_append,List.length_cons,List.length_nil] at a b d
  have ht:rs.take rs0.length=rs0:=by
   have:=congrArg (fun l=> l.take rs0.length) b
   simpa [List.take_take] using this
  have hr:rs[rs0.length]? =some r:=by
   have:=congrArg (fun l=> l[rs0.length]?) b
   simp only [List.getElem?_take] at this
   rw [if_pos ab] at this
   rw [this];simp
  refine ⟨rs,by simp;omega,ht,c,fun j o' r' ho hr'=> ?_⟩
  cases j with
  | zero=>
   simp at ho;subst ho
   simp only [Nat.add_zero] at hr' ⊢
   rw [hr] at hr'
   obtain rfl:=Option.some.inj hr'
   rw [ht];exact h1
  | succ j=>
   have:=d j o' r' (by simpa using ho) (by rw [← hr'];congr 1;omega)
   rwa [show rs0.length+(0+1)+j=rs0.length+(j+1) by omega] at this
theorem CM (io:az) (Φ:Slot→Prop) {rb:Bool} {P:Program} {Q:Exit→St→Prop} {σ:St} {id:Nat} {l:List Oper} (n:Nat) (W:List Nat) (I:List az) (hm:P.follows .mixedOrders=true) (hB:kG l.toArray n=true) (hW:(l.take n).filterMap (·.dst)=W)
  (h0:Φ (σ.ob io)) (h:AnyOpsX io Φ P (l.take n) W I σ (fun rs=> ((gh rs=I∧chainB (l.take n) rs=true∧uH rs=true)∧ ∀ r∈rs,∀ c,(io,c)∈r.2→Φ c)∧DL rb P l.toArray Q (l.drop n) (dh (l.take n) rs (fun _=> true) 0 σ)) (l.take n) []):D rb P (.region id l.toArray true) Q σ:=by
 obtain ⟨rs,hrl,_,⟨⟨⟨hmd,hch,hnd⟩,hΦ⟩,hend⟩,hops⟩:=AnyOpsX.get _ _ h
 simp only [List.length_nil,Nat.zero_add] at hrl hops
 subst hmd;subst hW
 intro K a0 w0 hrd ⟨ι0,S0,R0⟩
 simp only [kG,Bool.and_eq_true,decide_eq_true_eq,Bool.or_eq_true,List.all_eq_true,List.mem_range] at hB
 obtain ⟨⟨⟨⟨hn,hsc⟩,hseq⟩,hedge⟩,hdst⟩:=hB
 have hsz:l.toArray.size=l.length:=by simp
 have htk:(l.take n).length=n:=by rw [List.length_take];omega
 rw [htk] at hrl
 have hgetT: ∀ (j:Nat) (o:Oper),j < n→l.toArray[j]? =some o→(l.take n)[j]? =some o:=by
  intro j o hj ho
  rw [List.getElem?_take,if_pos hj]
  simpa using ho
 have hd: ∀ (j:Nat) (oj:Oper),(l.take n)[j]? =some oj→ ∀ (i:Nat) (oi:Oper),(l.take n)[i]? =some oi→i≠j→ ∀ x,oj.dst=some x→oi.dst≠some x:=by
  intro j oj hj i oi hi hne x hx hx'
  have hjn:=(List.getElem?_eq_some_iff.1 hj).1
  have hin:=(List.getElem?_eq_some_iff.1 hi).1
  rw [htk] at hjn hin
  have h:=hdst i hin j hjn
  rw [List.getElem?_take,if_pos hjn] at hj
  rw [List.getElem?_take,if_pos hin] at hi
  have hi':l.toArray[i]? =some oi:=by simpa using hi
  have hj':l.toArray[j]? =some oj:=by simpa using hj
  rw [hi',hj'] at h
  simp [hne,hx,hx'] at h
 have hlow: ∀ (j:Nat) (oj:Oper),(l.take n)[j]? =some oj→ ∀ m∈Edge.ons oj.after.toList,m < j:=by
  intro j oj hoj m hm'
  have hjn:=(List.getElem?_eq_some_iff.1 hoj).1
  rw [htk] at hjn
  obtain ⟨e,he,heb,rfl⟩:=jt hm'
  have h:=hedge j hjn
  rw [List.getElem?_take,if_pos hjn] at hoj
  rw [show l.toArray[j]? =some oj by simpa using hoj] at h
  have:=List.all_eq_true.1 h e he
  rw [heb] at this
  simpa using this
 have hrt:rs.length=(l.take n).length:=by omega
 have hndr: ∀ {k:Nat} {r:Res},rs[k]? =some r→(r.2.map (·.1)).Nodup:=fun h=> yA hnd h
 have hobs: ∀ (L:Nat→Bool) (i:az),(dh (l.take n) rs L 0 σ).ob i=(dz rs L 0 i).getD (σ.ob i):=fun L i=> tZ (l.take n) rs 0 σ i hrt.symm fun k r hr=> hndr hr
 let stL:Array Bool→St:=fun listed=> dh (l.take n) rs (fun k=> listed.getD k false) 0 σ
 have halt: ∀ listed:Array Bool,Φ ((stL listed).ob io):=by
  intro listed
  rw [show (stL listed).ob io=(dz rs (fun k=> listed.getD k false) 0 io).getD (σ.ob io) from hobs _ io]
  cases hl:dz rs (fun k=> listed.getD k false) 0 io with
  | none=> exact h0
  | some c=>
   obtain ⟨r,hr,hc⟩:=qz hl
   exact hΦ r hr c hc
 -- the state as the operation j may count on it
 have hmix: ∀ (listed:Array Bool) (j:Nat) (oj:Oper) (rj:Res),HeadInv .any l.toArray n listed→(l.take n)[j]? =some oj→rs[j]? =some rj→listed.getD j false=false→(∀ k∈Edge.ons oj.after.toList,listed.getD k false=true)→
   ∀ own:List az,(∀ i,i∈own→ ∃ c,(i,c)∈rj.2)→
   ei σ ((l.take n).filterMap (·.dst)) (gh rs) own (l.take n) (rs.take j) (Edge.ons oj.after.toList) (stL listed)=stL listed:=by
  intro listed j oj rj inv hoj hrj hun hdl own hown2
  refine St.eq (Eq.trans (b:=σ.n) rfl (jZ _ _ _ _).symm) (fun t=> ?_) (fun i=> ?_) (Eq.trans (b:=σ.inc) rfl (gg _ _ _ _).symm) (Eq.trans (b:=σ.pin) rfl (gf _ _ _ _).symm)
  ·simp only [ei]
   cases hdf:mY (l.take n) (rs.take j) (Edge.ons oj.after.toList) 0 t with
   | some a=>
    obtain ⟨k,o,r,h1,h2,h3,h4,h5⟩:=mE hdf
    rw [List.getElem?_take] at h2
    split at h2
    ·simp only [Nat.zero_add] at h3
     rw [h5]
     exact (gb _ _ 0 σ k o r h1 h2 (by simpa using hdl k h3) h4 fun i o' ho' hne=> hd k o h1 i o' ho' hne t h4).symm
    cases h2
   | none=>
    simp only
    cases hin:rP t ((l.take n).filterMap (·.dst)) with
    | true=> rfl
    | false=>
     simp only [cond_false]
     refine (fA _ _ 0 σ fun k o r ho hr hl hdo=> ?_).symm
     have:t∈(l.take n).filterMap (·.dst):=List.mem_filterMap.2 ⟨o,List.mem_of_getElem? ho,hdo⟩
     rw [inL_iff.2 this] at hin
     cases hin
  have hcl: ∀ (k m:Nat) (o:Oper),(l.take n)[k]? =some o→listed.getD k false=true→m∈Edge.ons o.after.toList→listed.getD m false=true:=fun k m o ho hl hm=> by
   obtain ⟨e,he,heb,hee⟩:=jt hm
   have ho':l.toArray[k]? =some o:=by
    rw [List.getElem?_take] at ho
    split at ho
    ·simpa using ho
    cases ho
   have h9:=inv.closed k o ho' hl e (by simpa using he) heb
   rwa [hee] at h9
  have hop: ∀ {k:Nat} {r:Res},rs[k]? =some r→ ∃ o,(l.take n)[k]? =some o:=fun hr=> by
   have:=(List.getElem?_eq_some_iff.1 hr).1
   exact ⟨_,List.getElem?_eq_getElem ab⟩
  rw [show (stL listed).ob i=(dz rs (fun k=> listed.getD k false) 0 i).getD (σ.ob i) from hobs _ i]
  simp only [ei]
  cases hdo:jB (rs.take j) (Edge.ons oj.after.toList) 0 i with
  | some c=>
   obtain ⟨k,r,h2,h3,h4,h5⟩:=oR hdo
   rw [List.getElem?_take] at h2
   split at h2
   ·rename_i hkj
    simp only [Nat.zero_add] at h3
    have hkl:=hdl k h3
    rw [li (k:=k) (r:=r) h2 (by simpa using hkl) h4 fun m r' hm' hr' hl'=> ?_]
    ·rfl
    cases hlk:ez r'.2 i with
    | none=> rfl
    | some c'=>
     obtain ⟨om,hom⟩:=hop hr'
     obtain ⟨c1,c2⟩:=kt hch hm' h2 hr' h4 hlk hom
     simp only [Nat.zero_add] at hl'
     rcases c2 j oj hoj h3 with rfl | c2 | c2
     ·rw [hl'] at hun;cases hun
     ·have:=hcl m j om hom hl' c2
      rw [this] at hun;cases hun
     have hmj:m < j:=hlow j oj hoj m c2
     have:=h5 m r' hm' (by rw [List.getElem?_take,if_pos hmj];exact hr') (by simpa using c2)
     rw [hlk] at this;cases this
   cases h2
  | none=>
   simp only
   cases hc:(cr i (gh rs) && !(cr i own)) with
   | true=> rw [show (stL listed).ob i=(dz rs (fun k=> listed.getD k false) 0 i).getD (σ.ob i) from hobs _ i];rfl
   | false=>
    simp only [cond_false]
    rw [oY fun m r' hr' hl'=> ?_]
    ·rfl
    cases hlk:ez r'.2 i with
    | none=> rfl
    | some c'=>
     simp only [Nat.zero_add] at hl'
     have hmem:i∈gh rs:=la hr' (gF hlk)
     rw [inO_iff.2 hmem] at hc
     simp only [Bool.true_and,Bool.not_eq_false'] at hc
     obtain ⟨c2,hc2⟩:=hown2 i (inO_iff.1 hc)
     obtain ⟨c3,hc3⟩:=od hc2
     rcases Nat.lt_trichotomy m j with hmj | rfl | hmj
     ·obtain ⟨c1,_⟩:=kt hch hmj hr' hrj hlk hc3 hoj
      have:=ld hdo (k:=m) (r:=r') (by rw [List.getElem?_take,if_pos hmj];exact hr') (by simpa using c1)
      rw [hlk] at this;cases this
     ·rw [hl'] at hun;cases hun
     obtain ⟨om,hom⟩:=hop hr'
     obtain ⟨c1,_⟩:=kt hch hmj hrj hr' hc3 hlk hom
     have:=hcl m j om hom hl' c1
     rw [this] at hun;cases hun
 have hset: ∀ (listed:Array Bool) (j:Nat) (oj:Oper) (rj:Res),HeadInv .any l.toArray n listed→j < listed.size→(l.take n)[j]? =some oj→rs[j]? =some rj→listed.getD j false=false→stL (listed.setIfInBounds j true)=rj.app oj.dst (stL listed):=by
  intro listed j oj rj inv hjs hoj hrj hun
  have hL: ∀ k,(listed.setIfInBounds j true).getD k false=if k=j then true else listed.getD k false:=by
   intro k
   by_cases h:k=j
   ·subst h;simp [hjs]
   rw [if_neg h,getD_set_ne false (Ne.symm h)]
  refine St.eq ((jZ _ _ _ _).trans ((CL _ _ _).trans (jZ _ _ _ _)).symm) (fun t=> ?_) (fun i=> ?_) ((gg _ _ _ _).trans ((tS _ _ _).trans (gg _ _ _ _)).symm) ((gf _ _ _ _).trans ((sJ _ _ _).trans (gf _ _ _ _)).symm)
  ·by_cases ht:oj.dst=some t
   ·rw [ht,oI]
    exact gb _ _ 0 σ j oj rj hoj hrj (by simp only [Nat.zero_add,hL,if_true]) ht fun i o' ho' hne=> hd j oj hoj i o' ho' hne t ht
   rw [ou _ _ _ ht]
   by_cases hex: ∃ k o r,(l.take n)[k]? =some o∧rs[k]? =some r∧listed.getD k false=true∧o.dst=some t
   ·obtain ⟨k,o,r,h1,h2,h3,h4⟩:=hex
    have hkj:k≠j:=fun e=> by subst e;rw [h3] at hun;cases hun
    rw [show (stL (listed.setIfInBounds j true)).fr t=r.1 from gb _ _ 0 σ k o r h1 h2 (by simp only [Nat.zero_add,hL,if_neg hkj];exact h3) h4 fun i o' ho' hne=> hd k o h1 i o' ho' hne t h4]
    exact (gb _ _ 0 σ k o r h1 h2 (by simpa using h3) h4 fun i o' ho' hne=> hd k o h1 i o' ho' hne t h4).symm
   have hno: ∀ (k:Nat) (o:Oper) (r:Res),(l.take n)[k]? =some o→rs[k]? =some r→listed.getD k false=true→o.dst≠some t:=fun k o r h1 h2 h3 h4=> hex ⟨k,o,r,h1,h2,h3,h4⟩
   rw [show (stL (listed.setIfInBounds j true)).fr t=σ.fr t from fA _ _ 0 σ fun k o r h1 h2 h3 h4=> by
    simp only [Nat.zero_add,hL] at h3
    by_cases hkj:k=j
    ·subst hkj;rw [hoj] at h1;obtain rfl:=Option.some.inj h1;exact ht h4
    rw [if_neg hkj] at h3;exact hno k o r h1 h2 h3 h4]
   exact (fA _ _ 0 σ fun k o r h1 h2 h3=> hno k o r h1 h2 (by simpa using h3)).symm
  have hcl: ∀ (k m:Nat) (o:Oper),(l.take n)[k]? =some o→listed.getD k false=true→m∈Edge.ons o.after.toList→listed.getD m false=true:=fun k m o ho hl hm=> by
   obtain ⟨e,he,heb,hee⟩:=jt hm
   have ho':l.toArray[k]? =some o:=by
    rw [List.getElem?_take] at ho
    split at ho
    ·simpa using ho
    cases ho
   have h9:=inv.closed k o ho' hl e (by simpa using he) heb
   rwa [hee] at h9
  rw [xz _ _ _ _ (hndr hrj),show (stL listed).ob i=(dz rs (fun k=> listed.getD k false) 0 i).getD (σ.ob i) from hobs _ i,show (stL (listed.setIfInBounds j true)).ob i=(dz rs (fun k=> (listed.setIfInBounds j true).getD k false) 0 i).getD (σ.ob i) from hobs _ i]
  cases hlj:ez rj.2 i with
  | some c=>
   rw [li (k:=j) (r:=rj) hrj (by simp only [Nat.zero_add,hL,if_true]) hlj fun m r' hm' hr' hl'=> ?_]
   ·rfl
   cases hlk:ez r'.2 i with
   | none=> rfl
   | some c'=>
    simp only [Nat.zero_add,hL,if_neg (show ¬ m=j by omega)] at hl'
    have hmn:=(List.getElem?_eq_some_iff.1 hr').1
    have hom:(l.take n)[m]? =some ((l.take n)[m]'ab):=List.getElem?_eq_getElem ab
    obtain ⟨c1,_⟩:=kt hch hm' hrj hr' hlj hlk hom
    have:=hcl m j _ hom hl' c1
    rw [this] at hun;cases hun
  | none=>
   rw [nC fun m r' hr'=> ?_]
   ·rfl
   by_cases hmj:m=j
   ·subst hmj
    rw [hrj] at hr'
    obtain rfl:=Option.some.inj hr'
    exact .inr hlj
   left;simp only [Nat.zero_add,hL,if_neg hmj]
 refine wpIn_region_any hm ?_
 have key: ∀ (f:Nat) (listed:Array Bool) (a':Act) (w':World),HeadInv .any l.toArray n listed→(((List.range n).filter fun i=> !listed.getD i true).length=f)→
   AK K (stL listed) a' w'→wpAnyIn (WF K.rd) 0 P .any l.toArray (Qr K Q) (f+(l.toArray.size - n)) listed a' w':=by
  intro f
  induction f with
  | zero=>
   intro listed a' w' inv hc hR
   have hall: ∀ i,i < n→listed.getD i true=true:=by
    intro i hi
    have h0:=List.eq_nil_of_length_eq_zero hc
    have:=List.filter_eq_nil_iff.1 h0 i (List.mem_range.2 hi)
    simpa using this
   have hcanon:listed=Array.ofFn (n:=l.toArray.size) fun i=> decide (i.1 < n):=by
    apply Array.ext
    ·simp [inv.size]
    intro i h1 h2
    simp only [Array.getElem_ofFn]
    by_cases hi:i < n
    ·have:=hall i hi
     simp [h1] at this
     simp [this,hi]
    have:=inv.tail i ab (by rw [inv.size] at h1;exact h1)
    simp [h1] at this
    simp [this,hi]
   rw [Nat.zero_add]
   have hfull:stL listed=dh (l.take n) rs (fun _=> true) 0 σ:=by
    have: ∀ (ops:List Oper) (rs:List Res) (k:Nat) (σ:St),k+ops.length≤n→dh ops rs (fun k=> listed.getD k false) k σ=dh ops rs (fun _=> true) k σ:=by
     intro ops
     induction ops with
     | nil=> intros;simp [dh]
     | cons o ops ih=>
      intro rs k σ hk
      cases rs with
      | nil=> simp [dh]
      | cons r rs=>
       simp only [dh]
       have h1:=hall k (by simp at hk;omega)
       have h2:listed.getD k false=true:=by
        have hks:k < listed.size:=by rw [inv.size];simp at hk;omega
        simp [hks] at h1 ⊢;exact h1
       rw [h2]
       exact ih rs (k+1) _ (by simp at hk;omega)
    exact this _ _ 0 _ ab
   rw [hfull] at hR
   have hw:=hend K a' w' hrd hR
   have hdl:(l.drop n).length=l.toArray.size - n:=by simp
   have:=ji (md:= .any) (Q':=Qr K Q) (l.drop n) n listed a' w' (fun j=> by simp [List.getElem?_drop]) (by rw [hdl,hcanon];exact hseq) hw
   rwa [hdl] at this
  | succ f ih=>
   intro listed a' w' inv hc hR
   have hex: ∃ i,i < n∧listed.getD i true=false:=by
    cases hL:(List.range n).filter fun i=> !listed.getD i true with
    | nil=> rw [hL] at hc;simp at hc
    | cons i r=>
     have:i∈(List.range n).filter fun i=> !listed.getD i true:=by rw [hL];exact List.mem_cons_self
     rw [List.mem_filter] at this
     exact ⟨i,List.mem_range.1 this.1,by simpa using this.2⟩
   have hnotail: ∀ t,n≤t→t∉Region.ready .any l.toArray listed:=by
    intro t ht
    rcases hsc with he | ⟨hsk,hch⟩
    ·intro hr
     obtain ⟨_,ot,hot,_⟩:=mem_ready.1 hr
     have:=(Array.getElem?_eq_some_iff.1 hot).1
     omega
    by_cases hlt:n < l.toArray.size
    ·obtain ⟨i,hi,hun⟩:=hex
     exact tail_waits hsk hch hlt inv _ i rfl hi hun t ht
    intro hr
    obtain ⟨_,ot,hot,_⟩:=mem_ready.1 hr
    have:=(Array.getElem?_eq_some_iff.1 hot).1
    omega
   have hfirst: ∀ i,i < n→listed.getD i true=false→ ∃ k,k∈Region.ready .any l.toArray listed:=by
    intro i
    induction i using Nat.strongRecOn with
    | _ i ihi=>
     intro hi hun
     by_cases hp: ∃ k,k < i∧listed.getD k true=false
     ·obtain ⟨k,hk,hku⟩:=hp
      exact ihi k hk ab hku
     have hlt:i < l.toArray.size:=by omega
     refine ⟨i,mem_ready.2 ⟨hun,l.toArray[i],Array.getElem?_eq_getElem hlt,fun e he heb=> ?_⟩⟩
     have h1:=hedge i hi
     rw [Array.getElem?_eq_getElem hlt] at h1
     have h2:=(List.all_eq_true.1 h1) e (by simpa using he)
     rw [heb] at h2
     simp only [Bool.not_true,Bool.false_or,decide_eq_true_eq] at h2
     have h3:listed.getD e.on true=true:=by
      cases hx:listed.getD e.on true with
      | true=> rfl
      | false=> exact absurd ⟨e.on,h2,hx⟩ hp
     have h4:e.on < listed.size:=by rw [inv.size];omega
     simp [h4] at h3 ⊢
     exact h3
   rw [show f+1+(l.toArray.size - n)=(f+(l.toArray.size - n))+1 by omega]
   refine ⟨fun h0=> ?_,fun j hj=> ?_⟩
   ·obtain ⟨i,hi,hun⟩:=hex
    obtain ⟨k,hk⟩:=hfirst i hi hun
    rw [h0] at hk
    cases hk
   have hjn:j < n:=by
    rcases Nat.lt_or_ge j n with h | h
    ·exact h
    exact absurd hj (hnotail j h)
   obtain ⟨hjun,oj,hoj,hall⟩:=mem_ready.1 hj
   have hojT:=hgetT j oj hjn hoj
   have hjs:j < listed.size:=by rw [inv.size];omega
   have hjr:j < rs.length:=by omega
   have hrj:rs[j]? =some rs[j]:=List.getElem?_eq_getElem hjr
   have hunf:listed.getD j false=false:=getD_both hjun
   have hO:=hops j oj rs[j] hojT hrj
   have hons: ∀ k∈Edge.ons oj.after.toList,listed.getD k false=true:=by
    intro k hk
    obtain ⟨e,he,heb,rfl⟩:=jt hk
    exact hall e (by simpa using he) heb
   have hcnt:((List.range n).filter fun i=> !(listed.setIfInBounds j true).getD i true).length=f:=by
    have e1:((List.range n).filter fun i=> !(listed.setIfInBounds j true).getD i true)=((List.range n).filter fun i=> !listed.getD i true).filter fun i=> i !=j:=by
     rw [List.filter_filter]
     apply List.filter_congr
     intro i _
     by_cases hij:j=i
     ·subst hij;simp [hjs]
     rw [getD_set_ne true hij];simp [Ne.symm hij]
    rw [e1]
    have hnd:((List.range n).filter fun i=> !listed.getD i true).Nodup:=List.Pairwise.filter _ List.nodup_range
    have hmem:j∈(List.range n).filter fun i=> !listed.getD i true:=by rw [List.mem_filter];exact ⟨List.mem_range.2 hjn,by simpa using hjun⟩
    have:=List.length_erase_of_mem hmem
    rw [hnd.erase_eq_filter] at this
    rw [this,hc]
    rfl
   have hnext: ∀ (v:Value) (w'':World),AK K (rs[j].app oj.dst (stL listed)) (a'.put oj.dst v) w''→
     wpAnyIn (WF K.rd) 0 P .any l.toArray (Qr K Q) (f+(l.toArray.size - n)) (listed.setIfInBounds j true) (a'.put oj.dst v) w'':=by
    intro v w'' hr
    refine ih _ _ w'' (inv.set hj hjn) hcnt ?_
    rw [hset listed j oj rs[j] inv hjs hojT hrj hunf];exact hr
   have hyl: ∀ (g d:Nat),((l.take n)[g]?).bind (·.dst)=some d→(l.toArray[g]?).bind (·.dst)=some d:=by
    intro g d hgd
    rw [List.getElem?_take] at hgd
    split at hgd
    ·simpa using hgd
    cases hgd
   obtain ⟨ι',S',R'⟩:=hR
   have own2: ∀ i,i∈(rs[j]).2.map (·.1)→ ∃ c,(i,c)∈(rs[j]).2:=fun i h=> by
    obtain ⟨⟨i',c⟩,h1,rfl⟩:=List.mem_map.1 h
    exact ⟨c,h1⟩
   have stepR:(∀ τ:St,Φ (τ.ob io)→ik P oj (ei σ ((l.take n).filterMap (·.dst)) (gh rs) ((rs[j]).2.map (·.1)) (l.take n) (rs.take j) (Edge.ons oj.after.toList) τ) ((rs[j]).app oj.dst (ei σ ((l.take n).filterMap (·.dst)) (gh rs) ((rs[j]).2.map (·.1)) (l.take n) (rs.take j) (Edge.ons oj.after.toList) τ)))→
     eS P oj a'.eval w' fun v w''=> AK K (rs[j].app oj.dst (stL listed)) (a'.put oj.dst v) w'':=by
    intro hst
    have:=hst (stL listed) (halt listed)
    rw [hmix listed j oj rs[j] inv hojT hrj hunf hons _ own2] at this
    exact this K ι' S' a' w' R'
   unfold wpOpIn
   simp only [hoj]
   generalize hrs:rs[j]=rj at hO
   cases hO with
   | plain hg hst=>
    rw [if_pos (by simp [Region.wanted,hg])]
    subst hrs
    exact dL (stepR hst) fun v w'' hp=> hnext v w'' hp
   | yes hg hgd hv hst=>
    subst hrs
    have hv':=hv (stL listed) (halt listed)
    rw [hmix listed j oj rs[j] inv hojT hrj hunf hons _ own2] at hv'
    rw [if_pos (by simp [Region.wanted,hg,mI R' (hyl _ _ hgd) hv'])]
    exact dL (stepR hst) fun v w'' hp=> hnext v w'' hp
   | no hg hgd hv hb=>
    have hv':=hv (stL listed) (halt listed)
    rw [hmix listed j oj rs[j] inv hojT hrj hunf hons [] (fun i h=> by cases h)] at hv'
    rw [if_neg (by simp [Region.wanted,hg,lI R' (hyl _ _ hgd) hv' hb])]
    refine ⟨fun _ _=> trivial,hnext _ _ ?_⟩
    rw [hrs]
    exact ⟨ι',S',R'.put oj.dst (av:= .v undef) .v fun i hi=> by cases hi⟩
 have inv0:HeadInv .any l.toArray n (Array.replicate l.toArray.size false):=
  ⟨by simp,fun j oj _ hl=> (by rw [getD_replicate_false] at hl;cases hl),fun t _ ht=> getD_in (by simpa using ht) (getD_replicate_false _ _)⟩
 have hcnt0:((List.range n).filter fun i=> !(Array.replicate l.toArray.size false).getD i true).length=n:=by
  have:((List.range n).filter fun i=> !(Array.replicate l.toArray.size false).getD i true)=List.range n:=by
   apply List.filter_eq_self.2
   intro i hi
   have:i < l.toArray.size:=by have:=List.mem_range.1 hi;omega
   simp only [getD_in (listed:=Array.replicate l.toArray.size false) (i:=i) (by simpa using this) (getD_replicate_false _ _)];rfl
  rw [this];simp
 have hst0:stL (Array.replicate l.toArray.size false)=σ:=by
  refine St.eq (jZ _ _ _ _) (fun t=> fA _ _ _ _ fun j o r _ _ hl=> ?_) (fun i=> hY _ _ _ _ fun j o r _ _ hl=> ?_) (gg _ _ _ _) (gf _ _ _ _)
  ·simp only [getD_replicate_false] at hl;cases hl
  simp only [getD_replicate_false] at hl;cases hl
 have:=key n _ a0 w0.drew inv0 hcnt0 (by rw [hst0];exact ⟨ι0,S0,R0.drew⟩)
 rw [show n+(l.toArray.size - n)=l.toArray.size by omega] at this
 exact this

theorem AnyOpsC.toX {P:Program} {all:List Oper} {W:List Nat} {I:List az} {σ:St} {K K':List Res→Prop} (hk: ∀ rs,K rs→K' rs): ∀ {os:List Oper} {rs:List Res},AnyOpsC P all W I σ K os rs→AnyOpsX (0,0) (fun _=> True) P all W I σ K' os rs
 | [],_,h=> hk _ h
 | o::os,rs,⟨r,h1,h2⟩=> ⟨r,(match h1 with
  | .plain hg h=> .plain hg fun τ _=> h τ
  | .yes hg hd hv h=> .yes hg hd (fun τ _=> hv τ) fun τ _=> h τ
  | .no hg hd hv hb=> .no hg hd (fun τ _=> hv τ) hb),AnyOpsC.toX hk h2⟩
theorem HQ {rb:Bool} {P:Program} {Q:Exit→St→Prop} {σ:St} {id:Nat} {l:List Oper} (n:Nat) (W:List Nat) (I:List az) (hm:P.follows .mixedOrders=true) (hB:kG l.toArray n=true) (hW:(l.take n).filterMap (·.dst)=W)
  (h:AnyOpsC P (l.take n) W I σ (fun rs=> (gh rs=I∧chainB (l.take n) rs=true∧uH rs=true)∧DL rb P l.toArray Q (l.drop n) (dh (l.take n) rs (fun _=> true) 0 σ)) (l.take n) []):D rb P (.region id l.toArray true) Q σ:=CM (0,0) (fun _=> True) n W I hm hB hW trivial (AnyOpsC.toX (fun _ h=> ⟨⟨h.1,fun _ _ _ _=> trivial⟩,h.2⟩) h)
theorem lK {rb:Bool} {P:Program} {Q:Exit→St→Prop} {σ:St} {id:Nat} {l hd tl:List Oper} (n:Nat) (W:List Nat) (I:List az) (hm:P.follows .mixedOrders=true) (hB:kG l.toArray n=true) (hW:(l.take n).filterMap (·.dst)=W)
  (e1:l.take n=hd) (e2:l.drop n=tl) (h:AnyOpsC P hd W I σ (fun rs=> (gh rs=I∧chainB hd rs=true∧uH rs=true)∧DL rb P l.toArray Q tl (dh hd rs (fun _=> true) 0 σ)) hd []):D rb P (.region id l.toArray true) Q σ:=by
 subst e1;subst e2
 exact HQ n W I hm hB hW h
abbrev bt (l:List UInt8):Value:= .string ⟨⟨l⟩⟩
theorem wW (l:List UInt8) (i j:Nat):(ByteArray.mk ⟨l⟩).extract i j=⟨⟨(l.drop i).take (j - i)⟩⟩:=by
 apply ByteArray.ext
 rw [ByteArray.data_extract]
 apply Array.ext'
 simp [List.extract_eq_take_drop]
theorem toList_mk (l:List UInt8):(ByteArray.mk ⟨l⟩).toList=l:=ByteArray.toList_mk l
instance Mx (l m:List UInt8):jX (l==m) (l=m) (l≠m):=⟨fun e=> by simpa using e,fun e=> by simpa using e⟩
instance Ma (l m:List UInt8):jX (l !=m) (l≠m) (l=m):=⟨fun e=> by simpa using e,fun e=> by simpa using e⟩
section
variable {P:Program} {σ:St} {dd:Option Tmp} {ty t t':TypeId}
theorem Fm (x:Operand) (ht:P.underlying t=some .string) {l:List UInt8} (hx:σ.eval x= .v (bt l)):Stp P dd (.call { callee:= .builtin .len,args:= #[x],argTypes:= #[t] }) ty σ (σ.put dd (.v (.int .i64 (l.length:Int)))):=
 DF hx fun o ρ w ho hx=> by simp [execOp,ho,resolve,invoke,builtin,Builtin.len_,run_underlying ht,hx,goInt];rfl
theorem kT (x i:Operand) (ht:P.underlying t=some .string) {l:List UInt8} (hx:σ.eval x= .v (bt l)) {k:IntKind} {n:Nat} (hi:σ.eval i= .v (.int k (n:Int))) {b:UInt8} (hb:l[n]? =some b):Stp P dd (.index t x i) ty σ (σ.put dd (.v (.int .u8 (b.toNat:Int)))):=by
 intro o hd ho ht'
 subst hd
 refine bB fun _ _ _ a w R=> ⟨_,?_, .v,fun _=> eH⟩
 have h1:=Rep.evV R hx
 have h2:=Rep.evV R hi
 have hb':(ByteArray.mk ⟨l⟩)[n]? =some b:=by
  obtain ⟨h,e⟩:=List.getElem?_eq_some_iff.1 hb
  rw [getElem?_pos (ByteArray.mk ⟨l⟩) n (show n < (ByteArray.mk ⟨l⟩).size from h)]
  exact congrArg some e
 generalize a.eval=ρ at h1 h2 ⊢
 simp [execOp,ho,h1,h2,Instr.index,run_underlying ht,go_sem,hb']
theorem cW (x y:Operand) (ht:P.underlying t=some .string) {l m:List UInt8} (hx:σ.eval x= .v (bt l)) (hy:σ.eval y= .v (bt m)) {r:Bool} (hr:(l==m)=r):Stp P dd (.binOp .eql t x y t') ty σ (σ.put dd (.v (.bool r))):=
 py hx hy fun o ρ w ho hx hy=> by subst hr;simp [execOp,ho,hx,hy,eqGuard,go_sem,ht,Op.stringOp,toList_mk]
theorem sA (x y:Operand) (ht:P.underlying t=some .string) {l m:List UInt8} (hx:σ.eval x= .v (bt l)) (hy:σ.eval y= .v (bt m)) {r:Bool} (hr:(l !=m)=r):Stp P dd (.binOp .neq t x y t') ty σ (σ.put dd (.v (.bool r))):=
 py hx hy fun o ρ w ho hx hy=> by subst hr;simp [execOp,ho,hx,hy,eqGuard,go_sem,ht,Op.stringOp,toList_mk,bne]
theorem ls (x:Operand) (lo hi:Option Operand) (ht:P.underlying t=some .string) {l:List UInt8} (hx:σ.eval x= .v (bt l)) (lv hv:Nat) (hl:Bnd σ 0 lo lv) (hh:Bnd σ l.length hi hv) (h1:lv≤hv) (h2:hv≤l.length) {m:List UInt8} (hm:(l.drop lv).take (hv - lv)=m):Stp P dd (.slice t x lo hi none) ty σ (σ.put dd (.v (bt m))):=by
 intro o hd ho ht'
 subst hd;subst hm
 refine bB fun _ _ _ a w R=> ⟨_,?_, .v,fun _=> eH⟩
 have h3:=Rep.evV R hx
 have h4:=hl.real R
 have h5:=hh.real R
 have hsz:(ByteArray.mk ⟨l⟩).size=l.length:=rfl
 have hex:=wW l lv hv
 generalize a.eval=ρ at h3 h4 h5 ⊢
 rcases h4 with ⟨rfl,rfl⟩ | ⟨p,k,L,rfl,h6,rfl⟩ <;> rcases h5 with ⟨rfl,rfl⟩ | ⟨q,k',L',rfl,h8,rfl⟩ <;>
  simp_all [execOp,Instr.slice,Instr.sliceBounds,Instr.sliceBound,run_underlying ht,go_sem] <;> (try omega)
end

theorem yb {ρ:az→az} {ins I:List az} {any:Bool} {inc:az→Bool} {c:az}: ∀ {l:List (az×Cells)},(∀ x∈l,cr x.1 ins=true)→lg ρ ins I any inc l c=inc c
 | [],_=> rfl
 | x::l,h=> by
  have h1:cr x.1 ins=true:=h x List.mem_cons_self
  have h2:=yb (ρ:=ρ) (I:=I) (any:=any) (inc:=inc) (c:=c) fun y hy=> h y (List.mem_cons_of_mem _ hy)
  show (bif gq c (ρ x.1) then (bif cr x.1 ins then inc c else bif cr x.1 I then any else false) else lg ρ ins I any inc l c)=inc c
  rw [h1,h2]
  cases gq c (ρ x.1) <;> rfl
theorem pb {σ:St} {ρ:az→az} {I:List az}: ∀ {l:List (az×Cells)},(∀ x∈l,cr x.1 I=true)→ev σ ρ I l
 | [],_=> trivial
 | x::l,h=> ⟨by rw [h x List.mem_cons_self];rfl,pb fun y hy=> h y (List.mem_cons_of_mem _ hy)⟩
theorem vw {σ:St} {outs:List (az×Cells)} {ins I:List az} (hi:outs.map (·.1)=ins) (hn:(outs.map (·.1)).Nodup):σ.afterP (aU []) outs ins I=St.setObs (outs.map fun p=> (p.1,Slot.obj p.2)) σ:=by
 have hin: ∀ x∈outs,cr x.1 ins=true:=fun x hx=> inO_iff.2 (hi ▸ List.mem_map_of_mem (f:=(·.1)) hx)
 have hids:(outs.map fun p=> (p.1,Slot.obj p.2)).map (·.1)=outs.map (·.1):=by rw [List.map_map];rfl
 have hmm:(outs.map (·.1)).map (aU [])=outs.map (·.1):=by rw [fk,List.map_id']
 refine St.eq ?_ (fun t=> ?_) (fun i=> ?_) (funext fun c=> ?_) ?_
 ·rw [lD];rfl
 ·rw [jI];rfl
 ·show dw (aU []) outs ins σ.ob i=_
  by_cases h:i∈outs.map (·.1)
  ·obtain ⟨⟨i',o⟩,hm,rfl⟩:=List.mem_map.1 h
   rw [gE _ _ (by rw [hids];exact hn) (List.mem_map.2 ⟨(i',o),hm,rfl⟩)]
   have:=cU (ρ:=aU []) (ins:=ins) (ob:=σ.ob) (by rw [hmm];exact hn) hm
   rw [fk] at this ⊢
   rw [this,vH]
  rw [iB _ _ (by rw [hids];exact h),dH (by rw [hmm];exact h),fk,List.map_id',← hi]
  cases hb:cr i (outs.map (·.1)) with
  | true=> exact absurd (inO_iff.1 hb) h
  | false=> rfl
 ·rw [iG]
  exact yb hin
 rw [iU];rfl
def qy (σ:St) (ρ:az→az) (ins:List az):List (az×Cells)→Prop
 | []=> True
 | x::l=> (bif cr x.1 ins then false else σ.inc (ρ x.1))=false∧qy σ ρ ins l
theorem vN {σ:St} {ρ:az→az} {ins I:List az} {c:az}: ∀ {l:List (az×Cells)},qy σ ρ ins l→lg ρ ins I false σ.inc l c=σ.inc c
 | [],_=> rfl
 | x::l,h=> by
  have h2:=vN (I:=I) (c:=c) h.2
  have h1:=h.1
  show (bif gq c (ρ x.1) then (bif cr x.1 ins then σ.inc c else bif cr x.1 I then false else false) else lg ρ ins I false σ.inc l c)=σ.inc c
  rw [h2]
  cases hc:gq c (ρ x.1) with
  | false=> rfl
  | true=>
   cases hi:cr x.1 ins with
   | true=> rfl
   | false=>
    rw [hi] at h1
    have h1:σ.inc (ρ x.1)=false:=h1
    rw [oeq_iff.1 hc,h1]
    cases cr x.1 I <;> rfl
def ig (ρ:az→az) (outs:List (az×Cells)) (ins:List az):List (az×Slot):=outs.map (fun p=> (ρ p.1,Slot.obj (p.2.ren ρ)))++(gx outs ins).map fun i=> (ρ i,Slot.gone)
theorem nu {outs:List (az×Cells)} {i:az}: ∀ {l:List az},i∈gx outs l→i∈l∧i∉outs.map (·.1)
 | [],h=> by cases h
 | k::l,h=> by
  simp only [gx] at h
  cases hb:cr k (outs.map (·.1)) with
  | true=>
   rw [hb] at h
   have:=nu (l:=l) h
   exact ⟨List.mem_cons_of_mem _ this.1,this.2⟩
  | false=>
   rw [hb] at h
   rcases List.mem_cons.1 h with rfl | h
   ·exact ⟨List.mem_cons_self,fun hm=> by rw [inO_iff.2 hm] at hb;cases hb⟩
   have:=nu (l:=l) h
   exact ⟨List.mem_cons_of_mem _ this.1,this.2⟩
theorem mi {σ:St} {ρ:az→az} {outs:List (az×Cells)} {ins I:List az} (hn:((ig ρ outs ins).map (·.1)).Nodup) (hno:((outs.map (·.1)).map ρ).Nodup) (hi:qy σ ρ ins outs) (ha:fv σ ((gx outs ins).map ρ)=false):σ.afterP ρ outs ins I=St.setObs (ig ρ outs ins) σ:=by
 refine St.eq ?_ (fun t=> ?_) (fun c=> ?_) (funext fun c=> ?_) ?_
 ·rw [lD];rfl
 ·rw [jI];rfl
 ·show dw ρ outs ins σ.ob c=_
  by_cases h:c∈(outs.map (·.1)).map ρ
  ·obtain ⟨i,hi,rfl⟩:=List.mem_map.1 h
   obtain ⟨⟨i',o⟩,hm,rfl⟩:=List.mem_map.1 hi
   rw [cU hno hm]
   exact (gE _ _ hn (List.mem_append.2 (.inl (List.mem_map.2 ⟨(i',o),hm,rfl⟩)))).symm
  rw [dH h]
  cases hb:cr c (ins.map ρ) with
  | true=>
   obtain ⟨i,hi,rfl⟩:=List.mem_map.1 (inO_iff.1 hb)
   exact (gE _ _ hn (List.mem_append.2 (.inr (List.mem_map.2 ⟨i,jJ hi fun hm=> h (List.mem_map_of_mem hm),rfl⟩)))).symm
  | false=>
   refine (iB _ _ fun hm=> ?_).symm
   obtain ⟨q,hq,rfl⟩:=List.mem_map.1 hm
   rcases List.mem_append.1 hq with hq | hq
   ·obtain ⟨⟨i,o⟩,hx,rfl⟩:=List.mem_map.1 hq
    exact h (List.mem_map_of_mem (List.mem_map_of_mem (f:=(·.1)) hx))
   obtain ⟨i,hx,rfl⟩:=List.mem_map.1 hq
   have hr:cr (ρ i) (ins.map ρ)=true:=inO_iff.2 (List.mem_map_of_mem (nu hx).1)
   exact absurd (hr.symm.trans hb) ah
 ·rw [iG]
  show lg ρ ins I (fv σ ((gx outs ins).map ρ)) σ.inc outs c=σ.inc c
  rw [ha]
  exact vN hi
 rw [iU];rfl
section
variable {P:Program} {σ:St}
theorem bu {dd:Option Tmp} {ty:TypeId} {f:FuncId} {xs:Array Operand} {ats:Array TypeId} (C:bU P f) (rn:List (az×az)) {args:List AV} {ins outs:List (az×Cells)} {r:AV} {I Pn:List az}
  (ha:fS σ rn (xs.toList.map σ.eval) args) (sp:Spec P f (aL args ins) (aO r outs I Pn)) (hins:dK (aU rn) σ (fun _=> false) (ins.map (·.1)) ins) (hfr:ev σ (aU rn) (ins.map (·.1)) outs) (hni:qy σ (aU rn) (ins.map (·.1)) outs)
  (hai:fv σ ((gx outs (ins.map (·.1))).map (aU rn))=false) {obs:List (az×Slot)} (ho:ig (aU rn) outs (ins.map (·.1))=obs)
  (hb:(AV.withins (ins.map (·.1)) args && be (ins.map (·.1)) ins && bh ((ins.map (·.1)).map (aU rn)) && bh (ins.map (·.1)) && bh ((outs.map (·.1)).map (aU rn)) && bh (outs.map (·.1)) && gY (ins.map (·.1)) Pn outs && r.within (outs.map (·.1)) && be (outs.map (·.1)) outs)=true)
  (hb2:bh ((ig (aU rn) outs (ins.map (·.1))).map (·.1))=true):
  Stp P dd (.call { callee:= .value (.func f),args:=xs,argTypes:=ats }) ty σ ((St.setObs obs σ).put dd (r.ren (aU rn))):=by
 subst ho
 have key:=dC (dd:=dd) (ty:=ty) (ats:=ats) C rn ha sp hins hfr hb
 simp only [Bool.and_eq_true] at hb
 rwa [mi (bj hb2) (bj hb.1.1.1.1.2) hni hai] at key
theorem iE {dd:Option Tmp} {ty:TypeId} {f:FuncId} {x0:Operand} {xs:Array Operand} {ats:Array TypeId} {first caps:List AV} (hx:σ.eval x0= .fn (.func f) first caps) (C:bU P f) (rn:List (az×az)) {args:List AV} {ins outs:List (az×Cells)} {r:AV} {I Pn:List az}
  (ha:fS σ rn (first++xs.toList.map σ.eval++caps) args) (sp:Spec P f (aL args ins) (aO r outs I Pn)) (hins:dK (aU rn) σ (fun _=> false) (ins.map (·.1)) ins) (hfr:ev σ (aU rn) (ins.map (·.1)) outs) (hni:qy σ (aU rn) (ins.map (·.1)) outs)
  (hai:fv σ ((gx outs (ins.map (·.1))).map (aU rn))=false) {obs:List (az×Slot)} (ho:ig (aU rn) outs (ins.map (·.1))=obs)
  (hb:(AV.withins (ins.map (·.1)) args && be (ins.map (·.1)) ins && bh ((ins.map (·.1)).map (aU rn)) && bh (ins.map (·.1)) && bh ((outs.map (·.1)).map (aU rn)) && bh (outs.map (·.1)) && gY (ins.map (·.1)) Pn outs && r.within (outs.map (·.1)) && be (outs.map (·.1)) outs)=true)
  (hb2:bh ((ig (aU rn) outs (ins.map (·.1))).map (·.1))=true):
  Stp P dd (.call { callee:= .value x0,args:=xs,argTypes:=ats }) ty σ ((St.setObs obs σ).put dd (r.ren (aU rn))):=by
 subst ho
 have key:=rG (dd:=dd) (ty:=ty) (ats:=ats) hx C rn ha sp hins hfr hb
 simp only [Bool.and_eq_true] at hb
 rwa [mi (bj hb2) (bj hb.1.1.1.1.2) hni hai] at key
end
section
variable {P:Program} {σ:St}
theorem jF {dd:Option Tmp} {ty:TypeId} {f:FuncId} {xs:Array Operand} {ats:Array TypeId} (C:bU P f) {args:List AV} {ins outs:List (az×Cells)} {r:AV} {I Pn:List az}
  (ha:fS σ [] (xs.toList.map σ.eval) args) (sp:Spec P f (aL args ins) (aO r outs I Pn)) (hins:dK (aU []) σ (fun _=> false) (ins.map (·.1)) ins) (hi:outs.map (·.1)=ins.map (·.1)) {obs:List (az×Slot)} (ho:(outs.map fun p=> (p.1,Slot.obj p.2))=obs)
  (hb:(AV.withins (ins.map (·.1)) args && be (ins.map (·.1)) ins && bh (ins.map (·.1)) && bh (outs.map (·.1)) && gY (ins.map (·.1)) Pn outs && r.within (outs.map (·.1)) && be (outs.map (·.1)) outs)=true):
  Stp P dd (.call { callee:= .value (.func f),args:=xs,argTypes:=ats }) ty σ ((St.setObs obs σ).put dd r):=by
 subst ho
 simp only [Bool.and_eq_true] at hb
 obtain ⟨⟨⟨⟨⟨⟨h1,h2⟩,h4⟩,h6⟩,h7⟩,h8⟩,h9⟩:=hb
 have e:(outs.map (·.1)).map (aU [])=outs.map (·.1):=by rw [fk,List.map_id']
 have e':(ins.map (·.1)).map (aU [])=ins.map (·.1):=by rw [fk,List.map_id']
 have key:=dC (dd:=dd) (ty:=ty) (ats:=ats) C [] ha sp hins (pb fun x hx=> inO_iff.2 (hi ▸ List.mem_map_of_mem (f:=(·.1)) hx)) (by simp only [Bool.and_eq_true];exact ⟨⟨⟨⟨⟨⟨⟨⟨h1,h2⟩,by rw [e'];exact h4⟩,h4⟩,by rw [e];exact h6⟩,h6⟩,h7⟩,h8⟩,h9⟩)
 rw [vw hi (bj h6)] at key
 rwa [fk,tO] at key
end
theorem Rep.slLen {ι:az→Option eC} {S:Nat→Prop} {w:World} {n:Nat} {xs:List PV} {x:Value} (h:Rep ι S w (.sl n xs) x):n≤maxLen:=by
 cases h with
 | sl h=>
  cases h with
  | sl0 a b _=> exact Nat.le_trans a b
  | sl _ a b=> exact Nat.le_trans a b
theorem lC {rb:Bool} {P:Program} {Q:Exit→St→Prop} {c:Code} {σ:St} (t j:Nat) {xs:List AV} {n:Nat} {ys:List PV} (ht:σ.fr t= .agg xs) (hx:xs[j]? =some (.sl n ys)) (hn:Nat.blt t σ.n=true) (h:n≤maxLen→D rb P c Q σ):D rb P c Q σ:=by
 intro K a w hr hR
 obtain ⟨ι,S,R⟩:=hR
 have hf:=R.fr t (by rwa [Nat.blt_eq] at hn)
 rw [ht] at hf
 generalize a.tmps.getD t undef=u at hf
 cases hf with
 | agg h1 h2 h3=> exact h (h3 j _ hx).slLen K a w hr ⟨ι,S,R⟩
theorem IZ {rb:Bool} {P:Program} {Q:Exit→St→Prop} {c:Code} {σ:St} (t:Nat) {n:Nat} {ys:List PV} (ht:σ.fr t= .sl n ys) (hn:Nat.blt t σ.n=true) (h:n≤maxLen→D rb P c Q σ):D rb P c Q σ:=by
 intro K a w hr hR
 obtain ⟨ι,S,R⟩:=hR
 have hf:=R.fr t (by rwa [Nat.blt_eq] at hn)
 rw [ht] at hf
 exact h hf.slLen K a w hr ⟨ι,S,R⟩
section
variable {P:Program} {σ:St} {dd:Option Tmp} {ty:TypeId}
theorem Hb {t t' t2:TypeId} {a b c:Int} (x y z:Operand) (hx:σ.eval x= .v (.int .i64 a)) (hy:σ.eval y= .v (.int .i64 b)) (hz:σ.eval z= .v (.int .i64 c)) {r:Int} (hr:max (max a b) c=r):Stp P dd (.call { callee:= .builtin .max,args:= #[x,y,z],argTypes:= #[t,t',t2] }) ty σ (σ.put dd (.v (.int .i64 r))):=by
 intro o hd ho ht
 subst hd
 refine bB fun _ _ _ A w R=> ⟨_,?_, .v,fun _=> eH⟩
 have h1:=Rep.evV R hx
 have h2:=Rep.evV R hy
 have h3:=Rep.evV R hz
 generalize A.eval=ρ at h1 h2 h3
 subst hr
 by_cases k1:b > a <;> by_cases k2:c > (if b > a then b else a) <;> simp [execOp,ho,resolve,invoke,builtin,h1,h2,h3,go_sem,Builtin.max_,Builtin.max2,k1] <;> (try simp [k1] at k2) <;> (try simp [k2]) <;> omega
end

theorem Le.cutR {σ:St} (id:az) (k:Nat) {e:TypeId} {sz:Nat} {xs ys:List PV} (hid:σ.ob id= .obj (.row e sz xs)) (hy:xs.take k=ys):Le (σ.setOb id (.obj (.row e sz ys))) σ:=by
 subst hy
 intro K ι S a w R
 obtain ⟨B,h1,h2,h3⟩:=R.ob id _ hid
 refine ⟨ι,S,R.upd hid h1 (.of_below (gN w)) ⟨B,h1,h2,?_⟩ fun i hi=> hi.elim⟩
 rcases h3 with ⟨a1,a2,a3⟩ | ⟨g,cur,b1,b2,b3,b4,b5⟩
 ·exact .inl ⟨a1,by rw [List.length_take];omega,a3⟩
 refine .inr ⟨g,cur,b1,b2,b3,by rw [List.length_take];omega,fun j hj=> ?_⟩
 rw [List.length_take] at hj
 obtain ⟨u,c1,c2,c3⟩:=b5 j ab
 refine ⟨u,c1,c2,fun p hp=> c3 p ?_⟩
 rw [List.getElem?_take_of_lt ab] at hp
 exact hp

def ny (σ:St) (ρ:az→az) (ins I:List az) (any:Bool):List (az×Cells)→Prop
 | []=> True
 | x::l=> (bif cr x.1 ins then true else bif cr x.1 I then (any==σ.inc (ρ x.1)) else !(σ.inc (ρ x.1)))=true∧ny σ ρ ins I any l
theorem sr {σ:St} {ρ:az→az} {ins I:List az} {any:Bool} {c:az}: ∀ {l:List (az×Cells)},ny σ ρ ins I any l→lg ρ ins I any σ.inc l c=σ.inc c
 | [],_=> rfl
 | x::l,h=> by
  have h2:=sr (c:=c) h.2
  have h1:=h.1
  show (bif gq c (ρ x.1) then (bif cr x.1 ins then σ.inc c else bif cr x.1 I then any else false) else lg ρ ins I any σ.inc l c)=σ.inc c
  rw [h2]
  cases hc:gq c (ρ x.1) with
  | false=> rfl
  | true=>
   rw [oeq_iff.1 hc]
   cases hi:cr x.1 ins with
   | true=> rfl
   | false=>
    rw [hi] at h1
    cases hj:cr x.1 I with
    | true=>
     rw [hj] at h1
     have h1:(any==σ.inc (ρ x.1))=true:=h1
     exact beq_iff_eq.1 h1
    | false=>
     rw [hj] at h1
     have h1:(!(σ.inc (ρ x.1)))=true:=h1
     show false=σ.inc (ρ x.1)
     cases h5:σ.inc (ρ x.1) with
     | true=> rw [h5] at h1;cases h1
     | false=> rfl
theorem kU {σ:St} {ρ:az→az} {outs:List (az×Cells)} {ins I:List az} (hn:((ig ρ outs ins).map (·.1)).Nodup) (hno:((outs.map (·.1)).map ρ).Nodup) (hi:ny σ ρ ins I (fv σ ((gx outs ins).map ρ)) outs):σ.afterP ρ outs ins I=St.setObs (ig ρ outs ins) σ:=by
 refine St.eq ?_ (fun t=> ?_) (fun c=> ?_) (funext fun c=> ?_) ?_
 ·rw [lD];rfl
 ·rw [jI];rfl
 ·show dw ρ outs ins σ.ob c=_
  by_cases h:c∈(outs.map (·.1)).map ρ
  ·obtain ⟨i,hi,rfl⟩:=List.mem_map.1 h
   obtain ⟨⟨i',o⟩,hm,rfl⟩:=List.mem_map.1 hi
   rw [cU hno hm]
   exact (gE _ _ hn (List.mem_append.2 (.inl (List.mem_map.2 ⟨(i',o),hm,rfl⟩)))).symm
  rw [dH h]
  cases hb:cr c (ins.map ρ) with
  | true=>
   obtain ⟨i,hi,rfl⟩:=List.mem_map.1 (inO_iff.1 hb)
   exact (gE _ _ hn (List.mem_append.2 (.inr (List.mem_map.2 ⟨i,jJ hi fun hm=> h (List.mem_map_of_mem hm),rfl⟩)))).symm
  | false=>
   refine (iB _ _ fun hm=> ?_).symm
   obtain ⟨q,hq,rfl⟩:=List.mem_map.1 hm
   rcases List.mem_append.1 hq with hq | hq
   ·obtain ⟨⟨i,o⟩,hx,rfl⟩:=List.mem_map.1 hq
    exact h (List.mem_map_of_mem (List.mem_map_of_mem (f:=(·.1)) hx))
   obtain ⟨i,hx,rfl⟩:=List.mem_map.1 hq
   have hr:cr (ρ i) (ins.map ρ)=true:=inO_iff.2 (List.mem_map_of_mem (nu hx).1)
   exact absurd (hr.symm.trans hb) ah
 ·rw [iG]
  show lg ρ ins I (fv σ ((gx outs ins).map ρ)) σ.inc outs c=σ.inc c
  exact sr hi
 rw [iU];rfl
section
variable {P:Program} {σ:St}
theorem aV {dd:Option Tmp} {ty:TypeId} {f:FuncId} {xs:Array Operand} {ats:Array TypeId} (C:bU P f) (rn:List (az×az)) {args:List AV} {ins outs:List (az×Cells)} {r:AV} {I Pn:List az}
  (ha:fS σ rn (xs.toList.map σ.eval) args) (sp:Spec P f (aL args ins) (aO r outs I Pn)) (hins:dK (aU rn) σ (fun _=> false) (ins.map (·.1)) ins) (hfr:ev σ (aU rn) (ins.map (·.1)) outs) (hni:ny σ (aU rn) (ins.map (·.1)) I (fv σ ((gx outs (ins.map (·.1))).map (aU rn))) outs) {obs:List (az×Slot)} (ho:ig (aU rn) outs (ins.map (·.1))=obs)
  (hb:(AV.withins (ins.map (·.1)) args && be (ins.map (·.1)) ins && bh ((ins.map (·.1)).map (aU rn)) && bh (ins.map (·.1)) && bh ((outs.map (·.1)).map (aU rn)) && bh (outs.map (·.1)) && gY (ins.map (·.1)) Pn outs && r.within (outs.map (·.1)) && be (outs.map (·.1)) outs)=true)
  (hb2:bh ((ig (aU rn) outs (ins.map (·.1))).map (·.1))=true):
  Stp P dd (.call { callee:= .value (.func f),args:=xs,argTypes:=ats }) ty σ ((St.setObs obs σ).put dd (r.ren (aU rn))):=by
 subst ho
 have key:=dC (dd:=dd) (ty:=ty) (ats:=ats) C rn ha sp hins hfr hb
 simp only [Bool.and_eq_true] at hb
 rwa [kU (bj hb2) (bj hb.1.1.1.1.2) hni] at key
theorem kh {dd:Option Tmp} {ty:TypeId} {f:FuncId} {x0:Operand} {xs:Array Operand} {ats:Array TypeId} {first caps:List AV} (hx:σ.eval x0= .fn (.func f) first caps) (C:bU P f) (rn:List (az×az)) {args:List AV} {ins outs:List (az×Cells)} {r:AV} {I Pn:List az}
  (ha:fS σ rn (first++xs.toList.map σ.eval++caps) args) (sp:Spec P f (aL args ins) (aO r outs I Pn)) (hins:dK (aU rn) σ (fun _=> false) (ins.map (·.1)) ins) (hfr:ev σ (aU rn) (ins.map (·.1)) outs) (hni:ny σ (aU rn) (ins.map (·.1)) I (fv σ ((gx outs (ins.map (·.1))).map (aU rn))) outs) {obs:List (az×Slot)} (ho:ig (aU rn) outs (ins.map (·.1))=obs)
  (hb:(AV.withins (ins.map (·.1)) args && be (ins.map (·.1)) ins && bh ((ins.map (·.1)).map (aU rn)) && bh (ins.map (·.1)) && bh ((outs.map (·.1)).map (aU rn)) && bh (outs.map (·.1)) && gY (ins.map (·.1)) Pn outs && r.within (outs.map (·.1)) && be (outs.map (·.1)) outs)=true)
  (hb2:bh ((ig (aU rn) outs (ins.map (·.1))).map (·.1))=true):
  Stp P dd (.call { callee:= .value x0,args:=xs,argTypes:=ats }) ty σ ((St.setObs obs σ).put dd (r.ren (aU rn))):=by
 subst ho
 have key:=rG (dd:=dd) (ty:=ty) (ats:=ats) hx C rn ha sp hins hfr hb
 simp only [Bool.and_eq_true] at hb
 rwa [kU (bj hb2) (bj hb.1.1.1.1.2) hni] at key
end

section
variable {P:Program} {σ:St} {io:az} {Φ:Slot→Prop}
theorem fx {all:List Oper} {W:List Nat} {I:List az} {AA:List (List az)} {Kont:List Res→Prop} {os:List Oper} {rs:List Res} {d:Option Tmp} {op:Op} {ty:TypeId} {p:String} {af:List Edge} (r:Res)
  (hs: ∀ τ:St,Φ (τ.ob io)→Stp P d op ty (ek σ W (iK AA I rs.length) (r.2.map (·.1)) all rs (Edge.ons af) τ) (r.app d (ek σ W (iK AA I rs.length) (r.2.map (·.1)) all rs (Edge.ons af) τ))) (h:AnyOpsW io Φ P all W I AA σ Kont os (rs++[r])):AnyOpsW io Φ P all W I AA σ Kont (⟨d,op,ty,p,af.toArray,none⟩::os) rs:=
 ⟨r, .plain rfl fun τ hτ=> hs τ hτ _ rfl rfl rfl,h⟩
theorem uW {all:List Oper} {W:List Nat} {I:List az} {AA:List (List az)} {Kont:List Res→Prop} {rs:List Res} (h:Kont rs):AnyOpsW io Φ P all W I AA σ Kont [] rs:=h
theorem fu {all:List Oper} {W:List Nat} {I:List az} {AA:List (List az)} {Kont:List Res→Prop} {os:List Oper} {rs rs':List Res} (h:rs=rs') (hh:AnyOpsW io Φ P all W I AA σ Kont os rs'):AnyOpsW io Φ P all W I AA σ Kont os rs:=h ▸ hh
theorem AnyOpsW.imp {all:List Oper} {W:List Nat} {I:List az} {AA:List (List az)} {K K':List Res→Prop} (hk: ∀ rs,K rs→K' rs): ∀ {os:List Oper} {rs:List Res},AnyOpsW io Φ P all W I AA σ K os rs→AnyOpsW io Φ P all W I AA σ K' os rs
 | [],rs,h=> hk rs h
 | o::os,rs,⟨r,h1,h2⟩=> ⟨r,h1,AnyOpsW.imp hk h2⟩
theorem xV (io:az) (Φ:Slot→Prop) {rb:Bool} {Q:Exit→St→Prop} {id:Nat} {l hd tl:List Oper} (n:Nat) (W:List Nat) (I:List az) (hm:P.follows .mixedOrders=true) (hB:kG l.toArray n=true) (hW:(l.take n).filterMap (·.dst)=W) (hI:I.Nodup)
  (e1:l.take n=hd) (e2:l.drop n=tl) (h0:Φ (σ.ob io)) (h:AnyOpsW io Φ P hd W I [] σ (fun rs=> (gh rs=I∧ ∀ r∈rs,∀ c,(io,c)∈r.2→Φ c)∧DL rb P l.toArray Q tl (dh hd rs (fun _=> true) 0 σ)) hd []):D rb P (.region id l.toArray true) Q σ:=by
 subst e1;subst e2
 exact AM io Φ n W I [] hm hB hW hI h0 (AnyOpsW.imp (fun rs h=> ⟨⟨⟨h.1.1,rfl⟩,h.1.2⟩,h.2⟩) h)
end

def jn (M:List (Int×Value)) (n:Int) (u:Value):List (Int×Value):=if (oL M n).isSome then M else M++[(n,u)]
theorem sG {k:Int}: ∀ {M:List (Int×Value)} {i j:Nat} {v:Value},nw k M i=some (j,v)→ ∃ q,j=i+q∧M[q]? =some (k,v)
 | [],_,_,_,h=> by cases h
 | p::l,i,j,v,h=> by
  unfold nw at h
  by_cases hk:k=p.1
  ·rw [if_pos hk] at h
   cases h
   exact ⟨0,rfl,by rw [hk];rfl⟩
  rw [if_neg hk] at h
  obtain ⟨q,h1,h2⟩:=sG h
  exact ⟨q+1,by omega,by simpa using h2⟩
variable {P:Program} {T k e:TypeId}
theorem Em {w:World} {g:Nat} {M:List (Int×Value)} {x:Int} {v:Value} (hT:P.underlying T=some (.map k e)) (hk:P.underlying k=some (.int .i64)) (hb:w.heap[g]? =some (.map (em M).toArray M.length)) (hm: ∀ u,oL M x=some u→u=v):
  (Instr.mapUpdate T (.map (some g)) (.int .i64 x) v).run P w= .ok () (w.putObj g (.map (em (jn M x v)).toArray (jn M x v).length)):=by
 cases hg:oL M x with
 | none=>
  have:jn M x v=M++[(x,v)]:=by unfold jn;rw [hg];rfl
  rw [this]
  exact DH hT hk hb hg
 | some u=>
  have hu:=hm u hg
  subst hu
  have:jn M x u=M:=by unfold jn;rw [hg];rfl
  rw [this]
  unfold oL at hg
  cases hf:nw x M 0 with
  | none=> rw [hf] at hg;cases hg
  | some p=>
   obtain ⟨i,v'⟩:=p
   rw [hf] at hg
   obtain rfl:v'=u:=Option.some.inj hg
   obtain ⟨q,hq,hM⟩:=sG hf
   have hq:i=q:=by omega
   subst hq
   have hes:(em M)[i]? =some ⟨.int .i64 x,v',i⟩:=by rw [jT,hM];rfl
   have hsame:((em M).modify i fun e=> { e with key:= .int .i64 x,val:=v' })=em M:=by
    apply List.ext_getElem?
    intro j
    rw [List.getElem?_modify]
    by_cases hj:i=j
    ·subst hj
     rw [hes];simp
    simp [hj]
   have hsb:Instr.sameBits 10000 (.int .i64 x) (.int .i64 x)=true:=by
    rw [show (10000:Nat)=9999+1 from rfl,Instr.sameBits];simp
   simp only [Instr.mapUpdate,Sem.run_bind,run_underlying hT,Result.andThen_ok,getObj,setObj,Sem.run,hb,Result.andThen,xS hk,xU hk,hf]
   simp [Instr.keyThatStays,hes,hsame,hsb,hb,World.putObj,Sem.run,Result.andThen]
section
variable {σ:St}
theorem EN {ty:TypeId} (x y v:Operand) (hT:P.underlying T=some (.map k e)) (hk:P.underlying k=some (.int .i64)) {id:az} {M M':List (Int×Value)} {c c':Nat} (hc:c=M.length) (hx:σ.eval x= .mp id) (hid:σ.ob id= .obj (.mp (em M) c))
  {n:Int} (hy:σ.eval y= .v (.int .i64 n)) (hv:σ.eval v= .agg []) (hr: ∀ u,oL M n=some u→u= .agg #[]) (hM:jn M n (.agg #[])=M') (hc':M'.length=c'):Stp P none (.mapUpdate T x y v) ty σ ((σ.setOb id (.obj (.mp (em M') c'))).put none .dead):=by
 intro o hd ho ht
 subst hc;subst hM;subst hc'
 intro K ι S a w R
 obtain ⟨B,g,h1,h2,h3,h4⟩:=R.mapAt hx hid
 have hi:=R.eval y
 rw [hy] at hi
 have hi:=hi.toV
 have hu:=R.eval v
 rw [hv] at hu
 generalize hav:a.eval v=uu at hu
 cases hu with
 | agg a1 a2 a3=>
 rename_i us
 obtain rfl:us= #[]:=Array.size_eq_zero_iff.1 (by simpa using a1)
 obtain ⟨M',hM'⟩: ∃ M',jn M n (.agg #[])=M':=⟨_,rfl⟩
 have hrun:(execOp a.eval o).run P w= .ok .skip (w.putObj g (.map (em M').toArray M'.length)):=by
  have:=Em hT hk h4 hr
  rw [hM'] at this
  simp only [execOp,ho,h3,hi,hav,this,Sem.run_map,Sem.run_bind,Sem.run_pure,Result.andThen_ok]
 rw [hM']
 have hot: ∀ k,k≠g→(w.putObj g (.map (em M').toArray M'.length)).heap[k]? =w.heap[k]? :=fun k hk=> World.putObj_heap_other hk
 have hk':Keeps (fun k=> B.g=some k) w (w.putObj g (.map (em M').toArray M'.length)):=⟨rfl,rfl,rfl,by simp,fun k _ hn=> hot k fun e=> hn (e ▸ h2)⟩
 have R1:=R.upd (o':= .mp (em M') M'.length) hid h1 hk' ⟨B,g,h1,h2,by
  have:=(Array.getElem?_eq_some_iff.1 h4).1
  simp [World.putObj,this]⟩ (fun i hi=> hi.elim)
 refine lA hrun ⟨ι,S,?_⟩
 rw [hd]
 exact R1.put none .dead fun i hi=> by cases hi
end

section
variable {rb:Bool} {P:Program} {Q:Exit→St→Prop} {σ:St}
theorem aE {x y:Code} (h:D rb P x (jP (D rb P y Q) Q) σ):D rb P (.seq x y) Q σ:=aF fun _ hK=> by
  intro K a w hr R
  refine wpIn_mono (h K a w hr R) ?_
  rintro e a' w' ⟨σ',R',q⟩
  refine ⟨σ',R',?_⟩
  cases e with
  | normal=> exact hK _ q
  | _=> exact q
theorem aG {id:Nat} {l:List Oper} {y:Code} (h:DL rb P l.toArray (jP (D rb P y Q) Q) l σ):D rb P (.seq (.region id l.toArray false) y) Q σ:=aE (aD h)
theorem am {ops:Array Oper} {y:Code} (h:D rb P y Q σ):DL rb P ops (jP (D rb P y Q) Q) [] σ:=ay h
theorem cO {y:Code} (h:D rb P y Q σ):D rb P .skip (jP (D rb P y Q) Q) σ:=aR h
theorem Ef {ops:Array Oper} {y:Code} {i:Nat} (h:D rb P y Q σ):DL rb P ops (kW i (jP (D rb P y Q) Q)) [] σ:=ay h
theorem kH {y:Code} {i:Nat} (h:D rb P y Q σ):D rb P .skip (kW i (jP (D rb P y Q) Q)) σ:=aR h
theorem KI {ops:Array Oper} {y:Code} {i j:Nat} (h:D rb P y Q σ):DL rb P ops (kW i (kW j (jP (D rb P y Q) Q))) [] σ:=ay h
theorem JU {y:Code} {i j:Nat} (h:D rb P y Q σ):D rb P .skip (kW i (kW j (jP (D rb P y Q) Q))) σ:=aR h
end
theorem AH {P:Program} {w:World} {t e:TypeId} (n c:Nat) (ht:P.underlying t=some (.slice e)): ∃ b,(binOp .eql t (.slice none n c) (.slice none 0 0)).run P w= .ok (.bool b) w:=by
  have h1 (d:Nat): ∃ b,(Op.equalIn (d+1) t (.slice none n c) (.slice none 0 0)).run P w= .ok b w:=by
    simp [run_underlying ht,Op.equalIn]
  obtain ⟨b,h2⟩:=h1 9999
  refine ⟨b,?_⟩
  simp only [binOp]
  simp [Op.equal,Op.maxDepth,h2]
theorem sR {P:Program} {σ:St} {dd:Option Tmp} {ty:TypeId} {t t' e:TypeId} (x y:Operand) (h:P.underlying t=some (.slice e)) {n:Nat} {xs:List PV} (hx:σ.eval x= .sl n xs) (hy:σ.eval y= .v (.slice none 0 0)):KK P dd (.binOp .eql t x y t') ty σ (fun σ'=> ∃ b,σ'=σ.put dd (.v (.bool b))):=by
  intro o hd ho ht
  subst hd
  intro K ι S a w R
  have hp: ∃ p m c,a.eval x= .slice p m c:=by
    have hr:=R.eval x
    rw [hx] at hr
    generalize a.eval x=u at hr
    cases hr with
    | sl h=>
      cases h with
      | sl0 h0 h1 h2=> exact ⟨_,_,_,rfl⟩
      | sl=> exact ⟨_,_,_,rfl⟩
  obtain ⟨p,m,c,hp⟩:=hp
  have h2:=Rep.evV R hy
  have hq: ∃ b,(binOp .eql t (.slice p m c) (.slice none 0 0)).run P w= .ok (.bool b) w:=by
    cases p with
    | none=> exact AH m c h
    | some p=> exact ⟨_,vc p m c h⟩
  obtain ⟨b,hq⟩:=hq
  have hrun:(execOp a.eval o).run P w= .ok (.value (.bool b)) w:=by
    clear h hx hy
    generalize a.eval=ρ at hp h2
    simp [execOp,ho,hp,h2,eqGuard,hq]
  exact bH hrun ⟨_,⟨b,rfl⟩,ι,S,R.put o.dst .v fun _=> eH⟩
section
variable {rb:Bool} {P:Program} {Q:Exit→St→Prop} {σ:St} {ops:Array Oper} {rest:List Oper} {d:Option Tmp} {ty:TypeId} {p:String} {af:Array Edge}
theorem FV {x:Operand} {b:Bool} (hx:σ.eval x= .v (.bool b)) (h:DL rb P ops Q rest (σ.put d (.v (.bool b)))):DL rb P ops Q (⟨d, .move x,ty,p,af,none⟩::rest) σ:=aj (bZ x hx) h
theorem gn {x:Operand} {b:Bool} (hx:σ.eval x= .v (.bool b)) (h:DL rb P ops Q rest (σ.put d (.v (.bool b)))):DL rb P ops Q (⟨d, .assign x,ty,p,af,none⟩::rest) σ:=aj (aX x hx) h
theorem bV {x:Operand} {k:IntKind} {n:Int} (hx:σ.eval x= .v (.int k n)) (h:DL rb P ops Q rest (σ.put d (.v (.int k n)))):DL rb P ops Q (⟨d, .move x,ty,p,af,none⟩::rest) σ:=aj (bZ x hx) h
theorem cp {x:Operand} {k:IntKind} {n:Int} (hx:σ.eval x= .v (.int k n)) (h:DL rb P ops Q rest (σ.put d (.v (.int k n)))):DL rb P ops Q (⟨d, .assign x,ty,p,af,none⟩::rest) σ:=aj (aX x hx) h
theorem tP {x:Operand} {s:ByteArray} (hx:σ.eval x= .v (.string s)) (h:DL rb P ops Q rest (σ.put d (.v (.string s)))):DL rb P ops Q (⟨d, .move x,ty,p,af,none⟩::rest) σ:=aj (bZ x hx) h
theorem HX {x:Operand} {s:ByteArray} (hx:σ.eval x= .v (.string s)) (h:DL rb P ops Q rest (σ.put d (.v (.string s)))):DL rb P ops Q (⟨d, .assign x,ty,p,af,none⟩::rest) σ:=aj (aX x hx) h
theorem dW {x:Operand} {i:az} {o:Nat} (hx:σ.eval x= .ptr i o) (h:DL rb P ops Q rest (σ.put d (.ptr i o))):DL rb P ops Q (⟨d, .move x,ty,p,af,none⟩::rest) σ:=aj (bZ x hx) h
theorem Jo {x:Operand} {i:az} {o:Nat} (hx:σ.eval x= .ptr i o) (h:DL rb P ops Q rest (σ.put d (.ptr i o))):DL rb P ops Q (⟨d, .assign x,ty,p,af,none⟩::rest) σ:=aj (aX x hx) h
theorem ij {x:Operand} {i:az} {o n:Nat} (hx:σ.eval x= .ref i o n) (h:DL rb P ops Q rest (σ.put d (.ref i o n))):DL rb P ops Q (⟨d, .move x,ty,p,af,none⟩::rest) σ:=aj (bZ x hx) h
theorem dZ {x:Operand} {i:az} {o n:Nat} (hx:σ.eval x= .ref i o n) (h:DL rb P ops Q rest (σ.put d (.ref i o n))):DL rb P ops Q (⟨d, .assign x,ty,p,af,none⟩::rest) σ:=aj (aX x hx) h
theorem gT {x:Operand} {n:Nat} {xs:List PV} (hx:σ.eval x= .sl n xs) (h:DL rb P ops Q rest (σ.put d (.sl n xs))):DL rb P ops Q (⟨d, .move x,ty,p,af,none⟩::rest) σ:=aj (bZ x hx) h
theorem Ee {x:Operand} {n:Nat} {xs:List PV} (hx:σ.eval x= .sl n xs) (h:DL rb P ops Q rest (σ.put d (.sl n xs))):DL rb P ops Q (⟨d, .assign x,ty,p,af,none⟩::rest) σ:=aj (aX x hx) h
theorem Pp {t:TypeId} {z:List Value} {x:Operand} [T:Ty P t false z] {i:az} {off:Nat} {e:TypeId} {ys:List AV} {k:IntKind} {n:Int} (hx:σ.eval x= .ptr i off) (hid:σ.ob i= .obj (.box e ys)) (hv:ys[off]? =some (.v (.int k n))) (h:DL rb P ops Q rest (σ.put d (.v (.int k n)))):DL rb P ops Q (⟨d, .load t x,ty,p,af,none⟩::rest) σ:=aj (bK x T hx hid hv) h
theorem Mh {t t':TypeId} {x y:Operand} {k:IntKind} {a b:Int} (hx:σ.eval x= .v (.int k a)) (hy:σ.eval y= .v (.int k b)) (hr:(a==b)=true) (h:DL rb P ops Q rest (σ.put d (.v (.bool true)))):DL rb P ops Q (⟨d, .binOp .eql t x y t',ty,p,af,none⟩::rest) σ:=aj (bb x y hx hy hr) h
theorem Av {t t':TypeId} {x y:Operand} {k:IntKind} {a b:Int} (hx:σ.eval x= .v (.int k a)) (hy:σ.eval y= .v (.int k b)) (hr:(a==b)=false) (h:DL rb P ops Q rest (σ.put d (.v (.bool false)))):DL rb P ops Q (⟨d, .binOp .eql t x y t',ty,p,af,none⟩::rest) σ:=aj (bb x y hx hy hr) h
theorem KW {T:TypeId} {f off:Nat} {x:Operand} [F:dG P T f off] {i:az} {of0 of1:Nat} {oc:Cells} (hx:σ.eval x= .ptr i of0) (hid:σ.ob i= .obj oc) (he:of0+off=of1) (h:DL rb P ops Q rest (σ.put d (.ptr i of1))):DL rb P ops Q (⟨d, .fieldAddr T x f,ty,p,af,none⟩::rest) σ:=aj (dT x F hx hid he) h
theorem JB {t:TypeId} {g:Bool} {z:List Value} {x y:Operand} [T:Ty P t g z] {i:az} {off:Nat} {e:TypeId} {xs vs ys:List AV} (hx:σ.eval x= .ptr i off) (hid:σ.ob i= .obj (.box e xs)) (hv:(σ.eval y).cells=some vs) (hl:vs.length=z.length) (hfit:Nat.ble (off+vs.length) xs.length=true) (hy:eO xs off vs=ys) (h:DL rb P ops Q rest ((σ.setOb i (.obj (.box e ys))).put d .dead)):DL rb P ops Q (⟨d, .store t x y,ty,p,af,none⟩::rest) σ:=aj (dE x y T hx hid hv hl (Nat.le_of_ble_eq_true hfit) hy) h
end
theorem ar {σ:St} {rn:List (az×az)} {xs ys:List AV} (h:fS σ rn xs ys:=by repeat' (first | exact dc | refine cC ?_ ?_ | exact Lv.v | exact aN (by assumption) | exact aN ab | exact Lv.sl | exact Lv.fp | exact Lv.nil | exact ca rfl rfl | exact bv rfl | refine Lv.agg rfl ?_ | refine Lv.fn rfl ?_ rfl ?_ | refine Lv.ifc ?_ | exact aK | refine ai ?_ ?_)):fS σ rn xs ys:=h
theorem al {σ:St} {F:az→Bool} {xs ys:List AV} (h:ey σ F xs ys:=by repeat' (first | exact bR | refine cM ?_ ?_ | exact Lv.v | exact aN ab | exact Lv.sl | exact Lv.fp | exact Lv.nil | refine Lv.agg rfl ?_ | refine Lv.fn rfl ?_ rfl ?_ | exact aK | refine ai ?_ ?_ | exact Lv.z0)):ey σ F xs ys:=h
theorem aw {σ:St} {F:az→Bool} {xs ys:List AV} (h:ey σ F xs ys:=by repeat' (first | exact bR | refine cM ?_ ?_ | exact Lv.v | exact aN ab | exact Lv.sl | exact Lv.fp | exact Lv.nil | refine Lv.agg rfl ?_ | refine Lv.fn rfl ?_ rfl ?_ | exact aK | refine ai ?_ ?_ | (refine dI rfl rfl ?_ rfl;first | assumption | (simp;done) | (simp;omega) | omega) | exact Lv.frzP rfl rfl rfl)):ey σ F xs ys:=h
theorem kp {σ:St} {n:Nat} {slots:List (Nat×AV)} {obs:List (az×Cells)} {I Pn:List az} (h:Le (an n slots obs I Pn) σ:=by
  refine Le.mkJ [] [] rfl ?_ ?_ trivial ?_ ?_
  · repeat' (first | exact trivial | exact iV rfl | exact iP rfl | exact iS rfl | exact iR rfl | exact iF rfl | exact iA rfl | exact iN rfl | exact iT rfl | exact iM rfl | exact iZ rfl | exact iD rfl | exact iI rfl | refine ⟨?_,?_⟩)
  · repeat' (first | exact trivial | exact bN rfl rfl rfl | refine ⟨?_,?_⟩)
  · repeat' (first | exact trivial | refine ⟨rfl,?_⟩)
  kernel_rfl):Le (an n slots obs I Pn) σ:=h
theorem bF {P:Program} {σ:St} {dd:Option Tmp} {ty:TypeId} {f:FuncId} {xs:Array Operand} {ats:Array TypeId} [C:bU P f] {args:List AV} {ins outs:List (az×Cells)} {r:AV} {I Pn:List az}
    (sp:Spec P f (aL args ins) (aO r outs I Pn)) (ha:fS σ [] (xs.toList.map σ.eval) args:=by repeat' (first | exact dc | refine cC ?_ ?_ | exact Lv.v | exact aN (by assumption) | exact aN ab | exact Lv.sl | exact Lv.fp | exact Lv.nil | exact ca rfl rfl | exact bv rfl | refine Lv.agg rfl ?_ | refine Lv.fn rfl ?_ rfl ?_ | refine Lv.ifc ?_ | exact aK | refine ai ?_ ?_))
    (hins:dK (aU []) σ (fun _=> false) (ins.map (·.1)) ins:=by exact ⟨⟨rfl,⟨_,rfl, .box rfl (by repeat' (first | exact aK | refine ai ?_ ?_ | exact Lv.sl | exact Lv.v | exact Lv.nil | exact ca rfl rfl))⟩,rfl⟩,trivial⟩) (hfr:ev σ (aU []) (ins.map (·.1)) outs:=by exact ⟨rfl,trivial⟩)
    (hb:(AV.withins (ins.map (·.1)) args && be (ins.map (·.1)) ins && bh ((ins.map (·.1)).map (aU [])) && bh (ins.map (·.1)) && bh ((outs.map (·.1)).map (aU [])) && bh (outs.map (·.1)) && gY (ins.map (·.1)) Pn outs && r.within (outs.map (·.1)) && be (outs.map (·.1)) outs)=true:=by kernel_rfl):
    Stp P dd (.call { callee:= .value (.func f),args:=xs,argTypes:=ats }) ty σ ((σ.afterP (aU []) outs (ins.map (·.1)) I).put dd (r.ren (aU []))):=dC C [] ha sp hins hfr hb
theorem lz {ρ:az→az} {σ:St} {F:az→Bool} {xs ys:List AV} (h: ∀ (j:Nat) (a b:AV),xs[j]? =some a→ys[j]? =some b→Lv ρ σ F a b:=by repeat' (first | exact aK | refine ai ?_ ?_ | exact Lv.v | exact Lv.sl | exact Lv.nil | exact ca rfl rfl | exact bv rfl | exact Lv.fp | exact aN rfl | exact jC rfl | exact cL rfl rfl | refine Lv.fn rfl ?_ rfl ?_ | refine Lv.agg rfl ?_ | exact Lv.z)): ∀ (j:Nat) (a b:AV),xs[j]? =some a→ys[j]? =some b→Lv ρ σ F a b:=h
theorem tr {p:Prop} (h:p:=by repeat' (first | exact trivial | refine ⟨rfl,?_⟩)):p:=h
theorem ob {p:Prop} (h:p:=by repeat' (first | exact trivial | exact ⟨rfl,⟨_,rfl, .rowE rfl⟩,rfl⟩ | exact ⟨rfl,⟨_,rfl, .box ag (by repeat' (first | exact aK | refine ai ?_ ?_ | exact Lv.v | exact Lv.sl | exact Lv.nil | exact ca rfl rfl | exact bv rfl | exact Lv.fp | exact aN rfl | exact jC rfl | exact cL rfl rfl | refine Lv.fn rfl ?_ rfl ?_ | refine Lv.agg rfl ?_ | exact Lv.z))⟩,rfl⟩ | refine ⟨?_,?_⟩)):p:=h
theorem xF {ρ:az→az} {σ:St} {F:az→Bool} {x0 x1 x2 x3:Value} {xs ys:List AV} (h: ∀ (j:Nat) (a b:AV),xs[j]? =some a→ys[j]? =some b→Lv ρ σ F a b): ∀ (j:Nat) (a b:AV),(.v x0:: .v x1:: .v x2:: .v x3::xs)[j]? =some a→(.v x0:: .v x1:: .v x2:: .v x3::ys)[j]? =some b→Lv ρ σ F a b:=ai .v (ai .v (ai .v (ai .v h)))
theorem so {ρ:az→az} {σ:St} {F:az→Bool} {x0 x1 x2 x3 x4 x5 x6 x7 x8 x9:Value} {xs ys:List AV} (h: ∀ (j:Nat) (a b:AV),xs[j]? =some a→ys[j]? =some b→Lv ρ σ F a b): ∀ (j:Nat) (a b:AV),(.v x0:: .v x1:: .v x2:: .v x3:: .v x4:: .v x5:: .v x6:: .v x7:: .v x8:: .v x9::xs)[j]? =some a→(.v x0:: .v x1:: .v x2:: .v x3:: .v x4:: .v x5:: .v x6:: .v x7:: .v x8:: .v x9::ys)[j]? =some b→Lv ρ σ F a b:=ai .v (ai .v (ai .v (ai .v (ai .v (ai .v (ai .v (ai .v (ai .v (ai .v h)))))))))
theorem eW {ρ:az→az} {σ:St} {F:az→Bool} {k0:IntKind} {x0 y0:Int} {xs ys:List AV} (h: ∀ (j:Nat) (a b:AV),xs[j]? =some a→ys[j]? =some b→Lv ρ σ F a b) (e0:x0=y0:=by rfl): ∀ (j:Nat) (a b:AV),(.v (.int k0 x0)::xs)[j]? =some a→(.v (.int k0 y0)::ys)[j]? =some b→Lv ρ σ F a b:=ai (aN e0) h
theorem rf {ρ:az→az} {σ:St} {F:az→Bool} {k0 k1 k2 k3:IntKind} {x0 x1 x2 x3 y0 y1 y2 y3:Int} {xs ys:List AV} (h: ∀ (j:Nat) (a b:AV),xs[j]? =some a→ys[j]? =some b→Lv ρ σ F a b) (e0:x0=y0:=by rfl) (e1:x1=y1:=by rfl) (e2:x2=y2:=by rfl) (e3:x3=y3:=by rfl): ∀ (j:Nat) (a b:AV),(.v (.int k0 x0):: .v (.int k1 x1):: .v (.int k2 x2):: .v (.int k3 x3)::xs)[j]? =some a→(.v (.int k0 y0):: .v (.int k1 y1):: .v (.int k2 y2):: .v (.int k3 y3)::ys)[j]? =some b→Lv ρ σ F a b:=ai (aN e0) (ai (aN e1) (ai (aN e2) (ai (aN e3) h)))
theorem eZ {ρ:az→az} {σ:St} {F:az→Bool} {k0 k1 k2 k3 k4 k5 k6 k7 k8 k9:IntKind} {x0 x1 x2 x3 x4 x5 x6 x7 x8 x9 y0 y1 y2 y3 y4 y5 y6 y7 y8 y9:Int} {xs ys:List AV} (h: ∀ (j:Nat) (a b:AV),xs[j]? =some a→ys[j]? =some b→Lv ρ σ F a b) (e0:x0=y0:=by rfl) (e1:x1=y1:=by rfl) (e2:x2=y2:=by rfl) (e3:x3=y3:=by rfl) (e4:x4=y4:=by rfl) (e5:x5=y5:=by rfl) (e6:x6=y6:=by rfl) (e7:x7=y7:=by rfl) (e8:x8=y8:=by rfl) (e9:x9=y9:=by rfl): ∀ (j:Nat) (a b:AV),(.v (.int k0 x0):: .v (.int k1 x1):: .v (.int k2 x2):: .v (.int k3 x3):: .v (.int k4 x4):: .v (.int k5 x5):: .v (.int k6 x6):: .v (.int k7 x7):: .v (.int k8 x8):: .v (.int k9 x9)::xs)[j]? =some a→(.v (.int k0 y0):: .v (.int k1 y1):: .v (.int k2 y2):: .v (.int k3 y3):: .v (.int k4 y4):: .v (.int k5 y5):: .v (.int k6 y6):: .v (.int k7 y7):: .v (.int k8 y8):: .v (.int k9 y9)::ys)[j]? =some b→Lv ρ σ F a b:=ai (aN e0) (ai (aN e1) (ai (aN e2) (ai (aN e3) (ai (aN e4) (ai (aN e5) (ai (aN e6) (ai (aN e7) (ai (aN e8) (ai (aN e9) h)))))))))
end Go.Proofs.YtmjnackchaahbaaGreat

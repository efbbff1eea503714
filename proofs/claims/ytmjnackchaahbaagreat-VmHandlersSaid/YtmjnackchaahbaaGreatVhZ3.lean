/- part 3 -/
import Derived.Test.YtmjnackchaahbaaGreatVhZ2
set_option linter.unusedSimpArgs false
set_option linter.unusedVariables false
namespace Go.Proofs.YtmjnackchaahbaaGreat
open Go.RowKit


inductive Lv (ρ:ay→ay) (σ:St) (F:ay→Bool):AV→AV→Prop where
  | dead {a:AV}:Lv ρ σ F .dead a
  | v {x:Value}:Lv ρ σ F (.v x) (.v x)
  | sl {n:Nat} {xs:List PV}:Lv ρ σ F (.sl n xs) (.sl n xs)
  | fp {off:Nat} {xs:List PV}:Lv ρ σ F (.fp off xs) (.fp off xs)
  | nil:Lv ρ σ F (.sl 0 []) (.v (.slice none 0 0))
  | ref {id:ay} {off n:Nat}:Lv ρ σ F (.ref id off n) (.ref (ρ id) off n)
  | ptr {id:ay} {off:Nat}:Lv ρ σ F (.ptr id off) (.ptr (ρ id) off)
  | frz {id:ay} {e:TypeId} {sz off n:Nat} {xs ys:List PV} (hid:σ.ob id= .obj (.row e sz xs)) (hF:F id=true) (hy:(xs.drop off).take (n*sz)=ys) (hl:off+n*sz≤xs.length):Lv ρ σ F (.sl n ys) (.ref id off n)
  | frzP {id:ay} {e:TypeId} {off:Nat} {xs:List AV} {ys:List PV} (hid:σ.ob id= .obj (.box e xs)) (hF:F id=true) (hy:kh xs=some ys):Lv ρ σ F (.fp off ys) (.ptr id off)
  | frzR {id:ay} {e:TypeId} {n:Nat} {xs:List AV} {ys:List PV} (hid:σ.ob id= .obj (.box e xs)) (hF:F id=true) (hy:kh xs=some ys):Lv ρ σ F (.sl n ys) (.ref id 0 n)
  | frzA {id:ay} {e:TypeId} {sz n:Nat} {xs:List AV} {ys:List PV} (hid:σ.ob id= .obj (.rowA e sz xs)) (hF:F id=true) (hy:kh xs=some ys) (hl:n*sz=xs.length) (hz:0 < sz):Lv ρ σ F (.sl n ys) (.ref id 0 n)
  | agg {xs ys:List AV} (hl:xs.length=ys.length) (h: ∀ (j:Nat) (a b:AV),xs[j]? =some a→ys[j]? =some b→Lv ρ σ F a b):Lv ρ σ F (.agg xs) (.agg ys)
  | fn {f:Fn} {xs ys us vs:List AV} (hl:xs.length=ys.length) (h: ∀ (j:Nat) (a b:AV),xs[j]? =some a→ys[j]? =some b→Lv ρ σ F a b)
      (hl':us.length=vs.length) (h': ∀ (j:Nat) (a b:AV),us[j]? =some a→vs[j]? =some b→Lv ρ σ F a b):Lv ρ σ F (.fn f xs us) (.fn f ys vs)
  | ifc {t:TypeId} {a b:AV} (h:Lv ρ σ F a b):Lv ρ σ F (.ifc t a) (.ifc t b)
  | z:Lv ρ σ F .z .z
  | mp {id:ay}:Lv ρ σ F (.mp id) (.mp (ρ id))
  | z0:Lv ρ σ F (.sl 0 []) .z
  | tup {xs ys:List AV} (hl:xs.length=ys.length) (h: ∀ (j:Nat) (a b:AV),xs[j]? =some a→ys[j]? =some b→Lv ρ σ F a b):Lv ρ σ F (.tup xs) (.tup ys)

theorem bz {ρ:ay→ay} {σ:St} {F:ay→Bool}: ∀ (j:Nat) (a b:AV),([]:List AV)[j]? =some a→([]:List AV)[j]? =some b→Lv ρ σ F a b:=by simp
theorem aB {ρ:ay→ay} {σ:St} {F:ay→Bool} {x y:AV} {xs ys:List AV} (h:Lv ρ σ F x y) (hs: ∀ (j:Nat) (a b:AV),xs[j]? =some a→ys[j]? =some b→Lv ρ σ F a b):
    ∀ (j:Nat) (a b:AV),(x::xs)[j]? =some a→(y::ys)[j]? =some b→Lv ρ σ F a b:=by
  intro j a b ha hb
  cases j with
  | zero=> simp at ha hb;subst ha;subst hb;exact h
  | succ j=> exact hs j a b (by simpa using ha) (by simpa using hb)

theorem Lv.rep {K:jb} {ι ι1:ay→Option dX} {S S1:Nat→Prop} {ρ:ay→ay} {σ:St} {F:ay→Bool} {act:Act} {w:World} (R:RelI K ι S σ act w) {a b:AV} (h:Lv ρ σ F a b)
    (h1: ∀ id B,ι1 id=some B→ι (ρ id)=some B) (hS: ∀ g,S g→S1 g) (hF: ∀ id B g,F id=true→ι id=some B→B.g=some g→S1 g): ∀ {v:Value},Rep ι S w b v→Rep ι1 S1 w a v:=by
  induction h with
  | dead=> intro v _;exact .dead
  | v=> intro v hv;cases hv;exact .v
  | sl=> intro v hv;cases hv with
    | sl h=> exact .sl (h.next (fun _ _=> rfl) hS)
  | fp=> intro v hv;cases hv with
    | fp h=> exact .fp (h.next (fun _ _=> rfl) hS)
  | nil=> intro v hv;cases hv;exact .sl (.sl0 (Nat.le_refl _) (by unfold maxLen;omega) fun _=> ⟨rfl,rfl⟩)
  | ref=> intro v hv;cases hv with
    | ref h h'=> exact .ref (fun B hB=> h B (h1 _ B hB)) h'
  | ptr=> intro v hv;cases hv with
    | ptr h h'=> exact .ptr (fun B hB=> h B (h1 _ B hB)) h'
  | frz hid hFi hy hl=>
    intro v hv
    rename_i id e sz off n xs ys
    obtain ⟨B,hB,hsz,hrow⟩:=R.ob id _ hid
    cases hv with
    | ref h _=>
      obtain ⟨c,h3,h4,h5⟩:=h B hB
      subst hy
      cases hg:B.g with
      | none=>
        rw [hg] at h5
        obtain ⟨rfl,rfl,rfl⟩:=h5
        simp only [Nat.zero_mul,List.take_zero]
        exact .sl (.sl0 (Nat.le_refl _) h4 fun _=> ⟨rfl,rfl⟩)
      | some g=>
        rw [hg] at h5
        obtain ⟨o',rfl,h8,h9⟩:=h5
        rcases hrow with ⟨h6,_⟩ | ⟨g',cur,h10,h11,h12,h13,h14⟩
        · rw [hg] at h6;cases h6
        rw [hg] at h10
        obtain rfl:=Option.some.inj h10
        by_cases hz:n*sz=0
        · rw [hz,List.take_zero]
          exact .sl (.sl0 h3 h4 fun hn=> by cases hn)
        have hn:0 < n:=by
          rcases Nat.eq_zero_or_pos n with h | h
          · simp [h] at hz
          exact h
        obtain rfl:=h8.resolve_right ab
        refine .sl (.sl (fun j=> cur.getD (o'+j) undef) h3 h4 (.mk (hF id B g hFi hB hg) h11) (fun j p hp=> ?_) fun j p hp=> ?_)
        · rw [List.getElem?_take] at hp
          split at hp
          · rw [List.getElem?_drop] at hp
            obtain ⟨u,hu,_⟩:=h14 _ (List.getElem?_eq_some_iff.1 hp).1
            exact ee h11 (by simp [hu])
          cases hp
        rw [List.getElem?_take] at hp
        split at hp
        · rw [List.getElem?_drop] at hp
          obtain ⟨u,hu,hu1,hu2⟩:=h14 _ (List.getElem?_eq_some_iff.1 hp).1
          have:=hu2 p hp
          simp only [Array.getD_eq_getD_getElem?,hu,Option.getD_some]
          exact this.next (fun _ _=> rfl) hS
        cases hp
  | frzP hid hFi hy=>
    intro v hv
    rename_i id e off xs ys
    obtain ⟨B,g,hB,hg,htot,hrow⟩:=R.ob id _ hid
    cases hv with
    | ptr h _=>
      obtain ⟨g',hg',rfl⟩:=h B hB
      rw [hg] at hg'
      obtain rfl:=Option.some.inj hg'
      rcases hrow with ⟨h6,_⟩ | ⟨g',cur,h10,h11,h12,h13,h14⟩
      · rw [hg] at h6;cases h6
      rw [hg] at h10
      obtain rfl:=Option.some.inj h10
      obtain ⟨d1,d2⟩:=fS hy
      have:=Rd.ptr (S:=S1) (w:=w) (off:=off) (b:=g) (o:=0) (xs:=ys) (fun j=> cur.getD j undef) (.mk (hF id B g hFi hB hg) h11) (fun j p hp=> ?_) (fun j p hp=> ?_)
      · simp only [Nat.zero_add] at this;exact .fp this
      · obtain ⟨a,ha,_⟩:=d2 j p hp
        obtain ⟨u,hu,_⟩:=h14 j (List.getElem?_eq_some_iff.1 ha).1
        exact ee h11 (by simp [hu])
      obtain ⟨a,ha,had⟩:=d2 j p hp
      obtain ⟨u,hu,hu1,hu2⟩:=h14 j (List.getElem?_eq_some_iff.1 ha).1
      simp only [Array.getD_eq_getD_getElem?,hu,Option.getD_some]
      exact ((hu2 a ha).down had hu1).next (fun _ _=> rfl) hS
  | frzR hid hFi hy=>
    intro v hv
    rename_i id e n xs ys
    obtain ⟨B,g,hB,hg,htot,hrow⟩:=R.ob id _ hid
    cases hv with
    | ref h _=>
      obtain ⟨c,h3,h4,h5⟩:=h B hB
      rw [hg] at h5
      obtain ⟨o',rfl,h8,h9⟩:=h5
      obtain rfl:=h8.resolve_right ab
      rcases hrow with ⟨h6,_⟩ | ⟨g',cur,h10,h11,h12,h13,h14⟩
      · rw [hg] at h6;cases h6
      rw [hg] at h10
      obtain rfl:=Option.some.inj h10
      obtain ⟨d1,d2⟩:=fS hy
      refine .sl (.sl (fun j=> cur.getD j undef) h3 h4 (.mk (hF id B g hFi hB hg) h11) (fun j p hp=> ?_) fun j p hp=> ?_)
      · obtain ⟨a,ha,_⟩:=d2 j p hp
        obtain ⟨u,hu,_⟩:=h14 j (List.getElem?_eq_some_iff.1 ha).1
        rw [Nat.zero_add]
        exact ee h11 (by simp [hu])
      obtain ⟨a,ha,had⟩:=d2 j p hp
      obtain ⟨u,hu,hu1,hu2⟩:=h14 j (List.getElem?_eq_some_iff.1 ha).1
      simp only [Array.getD_eq_getD_getElem?,hu,Option.getD_some]
      exact ((hu2 a ha).down had hu1).next (fun _ _=> rfl) hS
  | frzA hid hFi hy hl hz=>
    intro v hv
    rename_i id e sz n xs ys
    obtain ⟨B,hB,hsz,hrow⟩:=R.ob id _ hid
    obtain ⟨d1,d2⟩:=fS hy
    cases hv with
    | ref h _=>
      obtain ⟨c,h3,h4,h5⟩:=h B hB
      cases hg:B.g with
      | none=>
        rw [hg] at h5
        obtain ⟨rfl,rfl,rfl⟩:=h5
        have:ys=[]:=List.eq_nil_of_length_eq_zero ab
        subst this
        exact .sl (.sl0 (Nat.le_refl _) h4 fun _=> ⟨rfl,rfl⟩)
      | some g=>
        rw [hg] at h5
        obtain ⟨o',rfl,h8,h9⟩:=h5
        obtain rfl:=h8.resolve_right ab
        rcases hrow with ⟨h6,_⟩ | ⟨g',cur,h10,h11,h12,h13,h14⟩
        · rw [hg] at h6;cases h6
        rw [hg] at h10
        obtain rfl:=Option.some.inj h10
        refine .sl (.sl (fun j=> cur.getD j undef) h3 h4 (.mk (hF id B g hFi hB hg) h11) (fun j p hp=> ?_) fun j p hp=> ?_)
        · obtain ⟨a,ha,_⟩:=d2 j p hp
          obtain ⟨u,hu,_⟩:=h14 j (List.getElem?_eq_some_iff.1 ha).1
          rw [Nat.zero_add]
          exact ee h11 (by simp [hu])
        obtain ⟨a,ha,had⟩:=d2 j p hp
        obtain ⟨u,hu,hu1,hu2⟩:=h14 j (List.getElem?_eq_some_iff.1 ha).1
        simp only [Array.getD_eq_getD_getElem?,hu,Option.getD_some]
        exact ((hu2 a ha).down had hu1).next (fun _ _=> rfl) hS
  | agg hl h ih=>
    intro v hv
    cases hv with
    | agg a1 a2 a3=>
      refine .agg ab a2 fun j a ha=> ?_
      have hj:=(List.getElem?_eq_some_iff.1 ha).1
      exact ih j a _ ha (List.getElem?_eq_getElem (show j < _ by omega)) (a3 j _ (List.getElem?_eq_getElem (show j < _ by omega)))
  | fn hl h hl' h' ih ih'=>
    intro v hv
    cases hv with
    | fn a1 a2 a3 a4=>
      refine .fn ab ab (fun j a ha=> ?_) fun j a ha=> ?_
      · have hj:=(List.getElem?_eq_some_iff.1 ha).1
        exact ih j a _ ha (List.getElem?_eq_getElem (show j < _ by omega)) (a3 j _ (List.getElem?_eq_getElem (show j < _ by omega)))
      have hj:=(List.getElem?_eq_some_iff.1 ha).1
      exact ih' j a _ ha (List.getElem?_eq_getElem (show j < _ by omega)) (a4 j _ (List.getElem?_eq_getElem (show j < _ by omega)))
  | ifc h ih=>
    intro v hv
    cases hv with
    | ifc a1=> exact .ifc (ih a1)
  | z=> intro v hv;cases hv;exact .z
  | mp=> intro v hv;cases hv with
    | mp h h'=> exact .mp (fun B hB=> h B (h1 _ B hB)) h'
  | z0=> intro v hv;cases hv;exact .sl (.sl0 (Nat.le_refl _) (by unfold maxLen;omega) fun _=> ⟨rfl,rfl⟩)
  | tup hl h ih=>
    intro v hv
    cases hv with
    | tup a1 a3=>
      refine .tup ab fun j a ha=> ?_
      have hj:=(List.getElem?_eq_some_iff.1 ha).1
      exact ih j a _ ha (List.getElem?_eq_getElem (show j < _ by omega)) (a3 j _ (List.getElem?_eq_getElem (show j < _ by omega)))

inductive LvO (ρ:ay→ay) (σ:St) (F:ay→Bool):Cells→Cells→Prop where
  | row {e:TypeId} {sz:Nat} {xs ys zs:List PV} (h:ys=xs++zs):LvO ρ σ F (.row e sz xs) (.row e sz ys)
  | box {e:TypeId} {xs ys:List AV} (hl:xs.length=ys.length) (h: ∀ (j:Nat) (a b:AV),xs[j]? =some a→ys[j]? =some b→Lv ρ σ F a b):LvO ρ σ F (.box e xs) (.box e ys)
  | rowA {e:TypeId} {sz:Nat} {xs ys:List AV} (hl:xs.length=ys.length) (h: ∀ (j:Nat) (a b:AV),xs[j]? =some a→ys[j]? =some b→Lv ρ σ F a b):LvO ρ σ F (.rowA e sz xs) (.rowA e sz ys)
  | boxA {e:TypeId} {sz:Nat} {xs ys:List AV} (h0:0 < xs.length) (hl:xs.length=ys.length) (h: ∀ (j:Nat) (a b:AV),xs[j]? =some a→ys[j]? =some b→Lv ρ σ F a b):LvO ρ σ F (.box e xs) (.rowA e sz ys)
  | mp {es:List MapEntry} {clock:Nat}:LvO ρ σ F (.mp es clock) (.mp es clock)
  | it {m:ay} {since:Nat} {seen:Array Nat} {stepped:Nat}:LvO ρ σ F (.it m since seen stepped) (.it (ρ m) since seen stepped)

def Le (σ1 σ2:St):Prop:= ∀ K ι S a w,RelI K ι S σ2 a w→ ∃ ι' S',RelI K ι' S' σ1 a w
theorem Le.refl (σ:St):Le σ σ:=fun _ ι S _ _ R=> ⟨ι,S,R⟩
theorem Le.trans {a b c:St} (h:Le a b) (h':Le b c):Le a c:=fun K ι S x w R=> let ⟨ι',S',R'⟩:=h' K ι S x w R;h K ι' S' x w R'

theorem Le.of {σ1 σ2:St} (ρ:ay→ay) (F:ay→Bool) (hn:σ1.n=σ2.n) (hfr: ∀ t,t < σ1.n→Lv ρ σ2 F (σ1.fr t) (σ2.fr t))
    (hob: ∀ id o,σ1.ob id= .obj o→F (ρ id)=false∧ ∃ o2,σ2.ob (ρ id)= .obj o2∧LvO ρ σ2 F o o2) (hinj: ∀ id id' o o',σ1.ob id= .obj o→σ1.ob id'= .obj o'→ρ id=ρ id'→id=id')
    (hFi: ∀ id,F id=true→σ2.inc id=false) (hinc: ∀ id o,σ1.ob id= .obj o→σ1.inc id=false→σ2.inc (ρ id)=false)
    (hcl: ∀ t id,Has id (σ1.fr t)→σ1.ob id≠ .free) (hclo: ∀ id' o id,σ1.ob id'= .obj o→o.Has id→σ1.ob id≠ .free)
    (hpin: ∀ id h o,σ1.pin id=some h→σ1.ob id= .obj o→σ2.pin (ρ id)=some h) (hpf: ∀ id,σ1.ob id= .free→σ1.pin id=none):Le σ1 σ2:=by
  intro K ι S a w R
  have key: ∀ id,σ1.ob id= .free∨σ1.ob id= .gone∨ ∃ o,σ1.ob id= .obj o:=fun id=> by cases σ1.ob id <;> simp
  let ι1:ay→Option dX:=fun id=> match σ1.ob id with | .obj _=> ι (ρ id) | _=> none
  have h1: ∀ id o,σ1.ob id= .obj o→ι1 id=ι (ρ id):=fun id o h=> by simp only [ι1,h]
  have h2: ∀ id B,ι1 id=some B→(∃ o,σ1.ob id= .obj o)∧ι (ρ id)=some B:=by
    intro id B hB
    cases h:σ1.ob id with
    | obj o=> exact ⟨⟨o,rfl⟩,by rw [← h1 id o h];exact hB⟩
    | free=> simp only [ι1,h] at hB;cases hB
    | gone=> simp only [ι1,h] at hB;cases hB
  let S1:Nat→Prop:=fun g=> S g∨ ∃ id B,F id=true∧ι id=some B∧B.g=some g
  have hS: ∀ g,S g→S1 g:=fun _ h=> .inl h
  have hF: ∀ id B g,F id=true→ι id=some B→B.g=some g→S1 g:=fun id B g a b c=> .inr ⟨id,B,a,b,c⟩
  have hblk: ∀ id B g,ι id=some B→B.g=some g→g < w.heap.size:=fun id B g hB hg=> R.lt hB hg
  refine ⟨ι1,S1,R.keeps,fun g hg=> ?_,fun g hg=> ?_,by rw [hn];exact R.nt,⟨R.df.1,fun d hd=> ?_⟩,fun t ht=> (hfr t ht).rep R (fun id B hB=> (h2 id B hB).2) hS hF (R.fr t ab),hcl,hclo,fun id o ho=> ?_,fun id B hB=> (h2 id B hB).1,fun id id' B B' g hB hB' hg hg'=> ?_,fun id B g hB hg=> ?_,fun id h o hp ho=> ?_,hpf⟩
  · rcases hg with hg | ⟨id,B,a1,a2,a3⟩
    · exact R.S0 g hg
    exact .inr ((R.sep id B g a2 a3).2.2 (hFi id a1))
  · rcases hg with hg | ⟨id,B,a1,a2,a3⟩
    · exact R.Slt g hg
    exact hblk id B g a2 a3
  · obtain ⟨r,h1,h2,h3,h8⟩:=R.df.2 d hd
    refine ⟨r,h1,h2,h3,fun hs=> ?_⟩
    rcases hs with hs | ⟨id,B,a1,a2,a3⟩
    · exact h8 hs
    obtain ⟨o,ho⟩:=R.dom id B a2
    obtain ⟨x,h6,h7⟩:=(R.ob id o ho).at a2 a3
    rw [h2] at h6
    exact h7 _ (Option.some.inj h6).symm
  · obtain ⟨hF0,o2,ho2,hlv⟩:=hob id o ho
    have hO:=R.ob (ρ id) o2 ho2
    cases hlv with
    | row h=>
      obtain ⟨B,b1,b2,b3⟩:=hO
      refine ⟨B,by rw [h1 id _ ho];exact b1,b2,?_⟩
      subst h
      rcases b3 with ⟨c1,c2,c3⟩ | ⟨g,cur,c1,c2,c3,c4,c5⟩
      · exact .inl ⟨c1,by simp at c2;simp [c2.1],c3⟩
      refine .inr ⟨g,cur,c1,c2,c3,by simp at c4;omega,fun j hj=> ?_⟩
      obtain ⟨u,d1,d2,d3⟩:=c5 j (by simp;omega)
      exact ⟨u,d1,d2,fun p hp=> (d3 p (by rw [List.getElem?_append,if_pos hj];exact hp)).next (fun _ _=> rfl) hS⟩
    | box hl h=>
      obtain ⟨B,g,b1,b2,b3,b4⟩:=hO
      refine ⟨B,g,by rw [h1 id _ ho];exact b1,b2,by omega,?_⟩
      rw [hl]
      rcases b4 with ⟨c1,_⟩ | ⟨g',cur,c1,c2,c3,c4,c5⟩
      · rw [b2] at c1;cases c1
      refine .inr ⟨g',cur,c1,c2,c3,c4,fun j hj=> ?_⟩
      obtain ⟨u,d1,d2,d3⟩:=c5 j hj
      refine ⟨u,d1,d2,fun p hp=> ?_⟩
      exact (h j p _ hp (List.getElem?_eq_getElem hj)).rep R (fun id B hB=> (h2 id B hB).2) hS hF (d3 _ (List.getElem?_eq_getElem hj))
    | rowA hl h=>
      obtain ⟨B,b1,b2,b4⟩:=hO
      refine ⟨B,by rw [h1 id _ ho];exact b1,b2,?_⟩
      rw [hl]
      rcases b4 with c | ⟨g',cur,c1,c2,c3,c4,c5⟩
      · exact .inl c
      refine .inr ⟨g',cur,c1,c2,c3,c4,fun j hj=> ?_⟩
      obtain ⟨u,d1,d2,d3⟩:=c5 j hj
      refine ⟨u,d1,d2,fun p hp=> ?_⟩
      exact (h j p _ hp (List.getElem?_eq_getElem hj)).rep R (fun id B hB=> (h2 id B hB).2) hS hF (d3 _ (List.getElem?_eq_getElem hj))
    | boxA h0 hl h=>
      obtain ⟨B,b1,b2,b4⟩:=hO
      rcases b4 with ⟨_,c,_⟩ | ⟨g',cur,c1,c2,c3,c4,c5⟩
      · omega
      refine ⟨B,g',by rw [h1 id _ ho];exact b1,c1,by omega,?_⟩
      rw [hl]
      refine .inr ⟨g',cur,c1,c2,c3,c4,fun j hj=> ?_⟩
      obtain ⟨u,d1,d2,d3⟩:=c5 j hj
      refine ⟨u,d1,d2,fun p hp=> ?_⟩
      exact (h j p _ hp (List.getElem?_eq_getElem hj)).rep R (fun id B hB=> (h2 id B hB).2) hS hF (d3 _ (List.getElem?_eq_getElem hj))
    | mp=>
      obtain ⟨B,g,b1,b2,b3⟩:=hO
      exact ⟨B,g,by rw [h1 id _ ho];exact b1,b2,b3⟩
    | it=>
      obtain ⟨B,g,b1,b2,mg,b3,b4⟩:=hO
      exact ⟨B,g,by rw [h1 id _ ho];exact b1,b2,mg,b3,fun B' hB'=> b4 B' (h2 _ B' hB').2⟩
  · obtain ⟨⟨o,ho⟩,hB⟩:=h2 id B hB
    obtain ⟨⟨o',ho'⟩,hB'⟩:=h2 id' B' hB'
    exact hinj id id' o o' ho ho' (R.inj _ _ B B' g hB hB' hg hg')
  · obtain ⟨⟨o,ho⟩,hB⟩:=h2 id B hB
    obtain ⟨s1,s2,s3⟩:=R.sep _ B g hB hg
    refine ⟨fun hs=> ?_,s2,fun hi=> s3 (hinc id o ho hi)⟩
    rcases hs with hs | ⟨id',B',a1,a2,a3⟩
    · exact s1 hs
    have:=R.inj _ _ B' B g a2 hB a3 hg
    rw [this,(hob id o ho).1] at a1
    cases a1
  obtain ⟨_,o2,ho2,_⟩:=hob id o ho
  rw [h1 id o ho]
  exact R.pin _ h o2 (hpin id h o hp ho) ho2


def Qr (K:jb) (Q:Exit→St→Prop):Exit→Act→World→Prop:=fun e a w=> ∃ σ,wb K σ a w∧Q e σ
def WF (r:Option Nat):Fence:={ Fence.wide with round:=r }
def D (rb:Bool) (P:Program) (c:Code) (Q:Exit→St→Prop) (σ:St):Prop:= ∀ K a w,(rb=true→K.rd=none)→wb K σ a w→c.wpIn (WF K.rd) 0 P (Qr K Q) a w
def DL (rb:Bool) (P:Program) (ops:Array Oper) (Q:Exit→St→Prop) (rest:List Oper) (σ:St):Prop:= ∀ K a w,(rb=true→K.rd=none)→wb K σ a w→wpListIn (WF K.rd) 0 P ops (Qr K Q) rest a w
theorem ng {r:Option Nat} {n:Nat} {P:Program} {f:FuncId} {args:Array Value} {w:World} {R:Ending→World→Prop} (h:Calls P f args w R):CallsIn (WF r) n P f args w R:=callsIn_wide.2 h
theorem jk {n:Nat} {P:Program} {f:FuncId} {args:Array Value} {w:World} {R:Ending→World→Prop} (h:CallsIn (WF none) n P f args w R):Calls P f args w R:=callsIn_wide.1 h
theorem dt {r:Option Nat} {P:Program} {o:Oper} {a:Act} {w:World} {K:Act→World→Prop} {Q:Exit→Act→World→Prop} {Post:Value→World→Prop}
    (h:fl P o a.eval w Post) (hK: ∀ v w',Post v w'→K (a.put o.dst v) w'):o.wpIn (WF r) 0 P a w K Q:=by
  have hd: ∀ c,o.op≠ .defer c:=by
    intro c hc
    unfold fl at h
    simp only [execOp,hc,Sem.run_bind] at h
    generalize (resolve a.eval c o.type).run P w=rr at h
    cases rr with
    | ok d w'=> exact h
    | halt x w'=> exact h
  have hs:o.semAt (WF r).round a.eval=execOp a.eval o:=by
    cases r with
    | none=> rfl
    | some l=> exact Oper.semAt_some l _ o hd
  refine ⟨fun _ _=> trivial,?_⟩
  rw [hs]
  unfold fl at h
  generalize (execOp a.eval o).run P w=r at*
  cases r with
  | ok n w'=>
    cases n <;> simp only [Oper.uponIn] <;> try exact h.elim
    case value v=> exact hK _ _ h
    case skip=> exact hK _ _ h
    case enter f args=>
      refine ⟨fun hh=> (by cases hh),ng (h.mono fun e w'' hh=> ?_)⟩
      obtain ⟨v,he,hp⟩:=hh
      subst he
      exact hK _ _ hp
  | halt x w'=> exact h.elim
theorem qg {r:Option Nat} {P:Program} {ops:Array Oper} {Q:Exit→Act→World→Prop} {a:Act} {w:World} {rest:List Oper} {o:Oper} (hw:Region.wanted o (yielded ops a.tmps)=true)
    (h: ∀ K:Act→World→Prop,(∀ a w,wpListIn (WF r) 0 P ops Q rest a w→K a w)→o.wpIn (WF r) 0 P a w K Q):wpListIn (WF r) 0 P ops Q (o::rest) a w:=
  wpListIn_step fun K hK=> by simp only [hw,if_true];exact h K hK
theorem ux {r:Option Nat} {P:Program} {ops:Array Oper} {Q:Exit→Act→World→Prop} {a:Act} {w:World} {rest:List Oper} {o:Oper} (hw:Region.wanted o (yielded ops a.tmps)=false)
    (h:wpListIn (WF r) 0 P ops Q rest (a.put o.dst undef) w):wpListIn (WF r) 0 P ops Q (o::rest) a w:=
  wpListIn_step fun K hK=> by simp only [hw];exact ⟨fun _ _=> trivial,hK _ _ h⟩
def gB (K:St→Prop) (Q:Exit→St→Prop):Exit→St→Prop
  | .normal,σ=> K σ
  | e,σ=> Q e σ
def ks (id:Nat) (Q:Exit→St→Prop):Exit→St→Prop
  | .exit id',σ=> if id'=id then Q .normal σ else Q (.exit id') σ
  | e,σ=> Q e σ

section
variable {rb:Bool} {P:Program} {Q:Exit→St→Prop} {σ:St}

theorem az {c:Code} {σ':St} (h:Le σ' σ) (hd:D rb P c Q σ'):D rb P c Q σ:=fun K a w hr ⟨ι,S,R⟩=> hd K a w hr (h K ι S a w R)
theorem bc {ops:Array Oper} {rest:List Oper} {σ':St} (h:Le σ' σ) (hd:DL rb P ops Q rest σ'):DL rb P ops Q rest σ:=fun K a w hr ⟨ι,S,R⟩=> hd K a w hr (h K ι S a w R)
theorem zl {c:Code} {Q':Exit→St→Prop} (h:D rb P c Q σ) (hq: ∀ e σ,Q e σ→Q' e σ):D rb P c Q' σ:=fun K a w hr R=> wpIn_mono (h K a w hr R) fun e _ _ ⟨σ',R',q⟩=> ⟨σ',R',hq e σ' q⟩

theorem ax {x y:Code} (h: ∀ K:St→Prop,(∀ σ,D rb P y Q σ→K σ)→D rb P x (gB K Q) σ):D rb P (.seq x y) Q σ:=by
  intro K a w hr R
  refine wpIn_seq (wpIn_mono (h (fun σ=> D rb P y Q σ) (fun _ h=> h) K a w hr R) ?_)
  rintro e a' w' ⟨σ',R',q⟩
  cases e with
  | normal=> exact q K a' w' hr R'
  | _=> exact ⟨σ',R',q⟩
theorem AL {c:Operand} {x y:Code} {t:Bool} (hc:σ.eval c= .v (.bool t)) (h:D rb P (if t then x else y) Q σ):D rb P (.cond c x y) Q σ:=
  fun K a w hr R=> let ⟨_,_,R'⟩:=R;wpIn_cond (Rep.evV R' hc) (h K a w hr R)
theorem rq {c:Operand} {x y:Code} (hc:σ.eval c= .v (.bool true)) (h:D rb P x Q σ):D rb P (.cond c x y) Q σ:=AL hc h
theorem oD {c:Operand} {x y:Code} (hc:σ.eval c= .v (.bool false)) (h:D rb P y Q σ):D rb P (.cond c x y) Q σ:=AL hc h
theorem aU (h:Q .normal σ):D rb P .skip Q σ:=fun _ _ _ _ R=> wpIn_skip ⟨σ,R,h⟩
theorem bm {id:Nat} (h:Q (.exit id) σ):D rb P (.exit id) Q σ:=fun _ _ _ _ R=> wpIn_exit ⟨σ,R,h⟩
theorem aq (h:Q .ret σ):D rb P .ret Q σ:=fun _ _ _ _ R=> wpIn_ret ⟨σ,R,h⟩
theorem aN {id:Nat} {c:Code} (h:D rb P c (ks id Q) σ):D rb P (.block id c) Q σ:=by
  intro K a w hr R
  refine wpIn_block (wpIn_mono (h K a w hr R) ?_)
  rintro e a' w' ⟨σ',R',q⟩
  cases e with
  | exit id'=>
    simp only [ks] at q
    simp only [Exit.inBlock]
    split <;> rename_i hid
    · rw [if_pos hid] at q;exact ⟨σ',R',q⟩
    rw [if_neg hid] at q;exact ⟨σ',R',q⟩
  | _=> exact ⟨σ',R',q⟩

theorem Gt {α:Type} {c:Code} (F:α→St) (μ:α→Nat) (x0:α) (h0:Le (F x0) σ) (round: ∀ x,D rb P c (gB (fun σ'=> ∃ y,Le (F y) σ'∧μ y < μ x) Q) (F x)):D rb P (.loop c) Q σ:=by
  intro K a w hrd ⟨ι,S,R⟩
  have R0:wb K (F x0) a w:=h0 K ι S a w R
  intro b k cs hro hb hr
  have key: ∀ n x a w,μ x=n→wb K (F x) a w→
      ∃ e a' w',Qr K Q e a' w'∧ArrivesIn (Machine.fenced P (WF K.rd)) P (lone (b.atR a (.code c:: .inLoop c::k)) cs w) b k cs e a' w':=by
    intro n
    induction n using Nat.strongRecOn with
    | _ n ih=>
      intro x a w hn hI
      obtain ⟨e,a₁,w₁,⟨σ',R',hq⟩,harr⟩:=round x K a w hrd hI b (.inLoop c::k) cs hro hb hr
      cases e with
      | normal=>
        obtain ⟨y,hle,hlt⟩:=hq
        obtain ⟨ι1,S1,R1⟩:=R'
        obtain ⟨e₂,a₂,w₂,hq₂,harr₂⟩:=ih (μ y) (hn ▸ hlt) y a₁ w₁ rfl (hle K ι1 S1 a₁ w₁ R1)
        exact ⟨e₂,a₂,w₂,hq₂, .of_steps (StepsIn.trans harr (.one (fenced_calm hb hr rfl) stepR_inLoop)) harr₂⟩
      | exit id=> exact ⟨_,a₁,w₁,⟨σ',R',hq⟩, .pass (x:= .inLoop c) rfl (fun _ _=> .inl (by simp)) harr⟩
      | goto l=> exact ⟨_,a₁,w₁,⟨σ',R',hq⟩, .pass (x:= .inLoop c) rfl (fun _ _=> .inl (by simp)) harr⟩
      | ret=> exact ⟨_,a₁,w₁,⟨σ',R',hq⟩, .pass (x:= .inLoop c) rfl (fun _ _=> .inl (by simp)) harr⟩
      | panic ch=> exact ⟨_,a₁,w₁,⟨σ',R',hq⟩, .pass (x:= .inLoop c) rfl (fun _ _=> .inl (by simp)) harr⟩
      | outgrown=> exact ⟨_,a₁,w₁,⟨σ',R',hq⟩, .pass (x:= .inLoop c) rfl (fun _ _=> .inl (by simp)) harr⟩
  obtain ⟨e,a',w',hq,harr⟩:=key _ x0 a w rfl R0
  exact ⟨e,a',w',hq, .of_steps (.one (fenced_calm hb hr rfl) stepR_loop) harr⟩

theorem an {id:Nat} {l:List Oper} (h:DL rb P l.toArray Q l σ):D rb P (.region id l.toArray false) Q σ:=fun K a w hr R=> wpIn_region_lit (h K a w hr R)
theorem am {ops:Array Oper} (h:Q .normal σ):DL rb P ops Q [] σ:=fun _ _ _ _ R=> wpListIn_nil ⟨σ,R,h⟩

variable {ops:Array Oper} {rest:List Oper} {o:Oper} {σ':St}
theorem Dj (hg:o.guard=none) (hs:gH P o σ σ') (h:DL rb P ops Q rest σ'):DL rb P ops Q (o::rest) σ:=by
  intro K a w hr ⟨ι,S,R⟩
  refine wpListIn_plain hg fun Kx hK=> dt (hs K ι S a w R) ?_
  rintro v w' ⟨ι',S',R'⟩
  exact hK _ _ (h K _ _ hr ⟨ι',S',R'⟩)

theorem lJ {K:jb} {ι:ay→Option dX} {S:Nat→Prop} {a:Act} {w:World} (R:RelI K ι S σ a w) {j d:Nat} {b:Bool} (hd:(ops[j]?).bind (·.dst)=some d) (hv:σ.eval (.tmp d)= .v (.bool b)):yielded ops a.tmps j=some b:=by
  have h1:=Rep.evV R hv
  simp only [Act.eval] at h1
  have:a.tmps[d]? =some (.bool b):=by
    by_cases h:d < a.tmps.size
    · simp [h] at h1 ⊢;exact h1
    simp [h,undef] at h1
  simp [yielded,hd,this]
theorem kt {K:jb} {ι:ay→Option dX} {S:Nat→Prop} {a:Act} {w:World} (R:RelI K ι S σ a w) {j d:Nat} {want:Bool} {y:Value} (hd:(ops[j]?).bind (·.dst)=some d) (hv:σ.eval (.tmp d)= .v y) (hy:y≠ .bool want): ¬ yielded ops a.tmps j=some want:=by
  intro h
  have h1:=Rep.evV R hv
  simp only [Act.eval] at h1
  simp only [yielded,hd,Option.bind_some] at h
  cases ht:a.tmps[d]? with
  | none=> rw [ht] at h;cases h
  | some u=>
    rw [ht] at h
    rw [Array.getD_eq_getD_getElem?,ht,Option.getD_some] at h1
    subst h1
    cases u <;> simp at h
    subst h
    exact hy rfl
theorem Aj {j d:Nat} {want:Bool} {y:Value} (hg:o.guard=some (j,want)) (hd:(ops[j]?).bind (·.dst)=some d) (hv:σ.eval (.tmp d)= .v y) (hne:y≠ .bool want) (h:DL rb P ops Q rest (σ.put o.dst (.v undef))):DL rb P ops Q (o::rest) σ:=by
  intro K a w hr ⟨ι,S,R⟩
  exact ux (by simp [Region.wanted,hg,kt R hd hv hne]) (h K _ _ hr ⟨ι,S,R.put o.dst .v fun i hi=> by cases hi⟩)
theorem FK {j d:Nat} {want:Bool} (hg:o.guard=some (j,want)) (hd:(ops[j]?).bind (·.dst)=some d) (hv:σ.eval (.tmp d)= .v (.bool want)) (hs:gH P o σ σ') (h:DL rb P ops Q rest σ'):DL rb P ops Q (o::rest) σ:=by
  intro K a w hr ⟨ι,S,R⟩
  refine qg (by simp [Region.wanted,hg,lJ R hd hv]) fun Kx hK=> dt (hs K ι S a w R) ?_
  rintro v w' ⟨ι',S',R'⟩
  exact hK _ _ (h K _ _ hr ⟨ι',S',R'⟩)
end

def jn:List (ay×Cells)→ay→Slot
  | [],_=> .free
  | (k,o)::l,i=> bif gh i k then .obj o else jn l i
def tN:List (Nat×AV)→Nat→AV
  | [],_=> .dead
  | (k,a)::l,t=> bif Nat.beq t k then a else tN l t
def Lg (n:Nat) (l:List (Nat×AV)) (obs:List (ay×Cells)):St:=⟨n,tN l,jn obs,fun _=> false,fun _=> none⟩
def aQ (args:List AV) (obs:List (ay×Cells)):St:=⟨args.length,fun t=> args.getD t .dead,jn obs,fun _=> false,fun _=> none⟩
def eg (r:AV) (σ:St):St:=⟨1,fun t=> bif Nat.beq t 0 then r else .dead,σ.ob,σ.inc,σ.pin⟩
def aG (r:AV) (obs:List (ay×Cells)):St:=⟨1,fun t=> bif Nat.beq t 0 then r else .dead,jn obs,fun _=> false,fun _=> none⟩

def Spec (P:Program) (f:FuncId) (σ σ':St):Prop:=
  ∀ K ι S vs w,K.w0=w→K.rd=none→RelI K ι S σ ⟨vs,[]⟩ w→Calls P f vs w fun e w'=> ∃ v ι' S',e= .returned v∧RelI K ι' S' σ' ⟨#[v],[]⟩ w'

def jh (P:Program) (fn:Func) (σ':St):Exit→St→Prop:=fun e σ=>
  (e= .normal∨e= .ret)∧ ∀ K ι S a w,RelI K ι S σ a w→ ∃ v ι' S',(results fn a.tmps).run P w= .ok v w∧RelI K ι' S' σ' ⟨#[v],[]⟩ w

theorem RelI.mark {K:jb} {ι:ay→Option dX} {S:Nat→Prop} {σ:St} {tm:Array Value} {d:Deferred} {ds:List Deferred} {w:World} (R:RelI K ι S σ ⟨tm,d::ds⟩ w):
    ∃ r,d={ target:= .collected r,args:= #[] }∧w.heap[r]? =some (.deferred (some []))∧RelI K ι S σ ⟨tm,ds⟩ (w.putObj r (.deferred none)):=by
  obtain ⟨r,h1,h2,h3,h4⟩:=R.df.2 d List.mem_cons_self
  have hr:=(Array.getElem?_eq_some_iff.1 h2).1
  have hot: ∀ g,g≠r→(w.putObj r (.deferred none)).heap[g]? =w.heap[g]? :=fun g hg=> World.putObj_heap_other hg
  have hk:Keeps (fun g=> g=r) w (w.putObj r (.deferred none)):=⟨rfl,rfl,rfl,by simp,fun g _ hg=> hot g hg⟩
  have hwS: ∀ g,S g→(w.putObj r (.deferred none)).heap[g]? =w.heap[g]? :=fun g hg=> hot g fun e=> h4 (e ▸ hg)
  have hno: ∀ id B,ι id=some B→B.g≠some r:=by
    intro id B h5 h6
    obtain ⟨o,ho⟩:=R.dom id B h5
    obtain ⟨x,h7,h8⟩:=(R.ob id o ho).at h5 h6
    rw [h2] at h7
    exact h8 _ (Option.some.inj h7).symm
  refine ⟨r,h1,h2,R.keeps.trans hk fun g hg e=> by omega,R.S0,fun g hg=> Nat.lt_of_lt_of_le (R.Slt g hg) hk.size,R.nt,⟨(List.nodup_cons.1 R.df.1).2,fun d' hd'=> ?_⟩,fun t ht=> (R.fr t ht).next hwS (fun _ h=> h) fun _ _ _ h=> h,R.cl,R.clo,
    fun id o ho=> (R.ob id o ho).next rfl (fun B g hB hg=> hot g fun e=> hno id B hB (e ▸ hg)) hwS (fun _ h=> h) fun _ _ _ h=> h,R.dom,R.inj,R.sep,R.pin,R.pf⟩
  obtain ⟨r',a1,a2,a3,a4⟩:=R.df.2 d' (List.mem_cons_of_mem _ hd')
  refine ⟨r',a1,?_,a3,a4⟩
  rw [hot r' fun e=> ?_]
  · exact a2
  subst e
  rw [← h1] at a1
  subst a1
  exact (List.nodup_cons.1 R.df.1).1 hd'
theorem Spec.of {P:Program} {f:FuncId} {fn:Func} {c:Code} {σ σ':St} (hf:P.funcs[f]? =some fn) (hb:fn.body=some c) (hn:σ.n≤fn.ntmps) (hd: ∀ t,σ.n≤t→σ.fr t= .dead)
    (h:D true P c (jh P fn σ') { σ with n:=fn.ntmps }):Spec P f σ σ':=by
  intro K ι S vs w hK hrd R
  refine jk (n:=0) (callsIn_of_wp_marks hf hb trivial ?_)
  have R1:RelI K ι S { σ with n:=fn.ntmps } { tmps:=vs++Array.replicate (fn.ntmps - vs.size) undef,defers:=[] } w:=by
    refine ⟨R.keeps,R.S0,R.Slt,?_, .nil,fun t ht=> ?_,R.cl,R.clo,R.ob,R.dom,R.inj,R.sep,R.pin,R.pf⟩
    · have:=R.nt
      simp at this ⊢;omega
    by_cases h:t < σ.n
    · have:=R.fr t h
      have hs:t < vs.size:=by have:=R.nt;simp at this;omega
      simpa [Array.getElem?_append,hs] using this
    show Rep ι S w (σ.fr t) _
    rw [hd t ab];exact .dead
  have hwp:=h K _ w (fun _=> hrd) ⟨ι,S,R1⟩
  rw [hrd] at hwp
  refine wpIn_mono hwp ?_
  rintro e a' w' ⟨σ2,⟨ι2,S2,R2⟩,hq,hr⟩
  have key: ∀ (n:Nat) (ds:List Deferred) (w':World),ds.length=n→(∀ (ι2:ay→Option dX) (S2:Nat→Prop),RelI K ι2 S2 σ2 ⟨a'.tmps,ds⟩ w'→LeavesInM (WF none) 0 P fn a'.tmps (fun e w'=> ∃ v ι' S',e= .returned v∧RelI K ι' S' σ' ⟨#[v],[]⟩ w') ds .returning w'):=by
    intro n
    induction n with
    | zero=>
      intro ds w' hn ι2 S2 R2
      obtain rfl:=List.eq_nil_of_length_eq_zero hn
      obtain ⟨v,ι',S',h1,h2⟩:=hr K ι2 S2 _ w' R2
      exact ⟨v,h1,v,ι',S',rfl,h2⟩
    | succ n ih=>
      intro ds w' hn ι2 S2 R2
      cases ds with
      | nil=> simp at hn
      | cons d ds=>
        obtain ⟨r,h1,h2,R3⟩:=R2.mark
        exact ⟨by simp, .inl ⟨r,w'.putObj r (.deferred none),by rw [h1],run_takeDeferred h2,ih ds _ (by simpa using hn) ι2 S2 R3⟩⟩
  rcases hq with rfl | rfl
  · exact key _ a'.defers w' rfl ι2 S2 R2
  exact key _ a'.defers w' rfl ι2 S2 R2

section
variable {P:Program} {σ σ':St}

theorem RelI.ret {K:jb} {ι:ay→Option dX} {S:Nat→Prop} {a:Act} {w:World} (R:RelI K ι S σ a w) {r:AV} {v:Value} (h:Rep ι S w r v) (hh: ∀ id,Has id r→σ.ob id≠ .free):RelI K ι S (eg r σ) ⟨#[v],[]⟩ w:=by
  refine ⟨R.keeps,R.S0,R.Slt,rfl, .nil,fun t ht=> ?_,fun t id hb=> ?_,R.clo,R.ob,R.dom,R.inj,R.sep,R.pin,R.pf⟩
  · have:t=0:=by simp only [eg] at ht;omega
    subst this;exact h
  simp only [eg] at hb ⊢
  cases hc:Nat.beq t 0 with
  | true=> rw [hc] at hb;exact hh id hb
  | false=> rw [hc] at hb;cases hb

inductive ResV (P:Program) (σ:St):ResultVar→AV→Prop where
  | tmp {t:Nat} {a:AV} (h:σ.eval (.tmp t)=a):ResV P σ (.tmp t) a
  | cellA {t ty:Nat} {z:List Value} {id:ay} {e:TypeId} {xs:List AV} (T:Ty P ty true z) (h:σ.eval (.tmp t)= .ptr id 0) (hid:σ.ob id= .obj (.box e xs)) (hl:xs.length=z.length):ResV P σ (.cell t ty) (.agg xs)
  | cell1 {t ty:Nat} {z:List Value} {id:ay} {e:TypeId} {xs:List AV} {a:AV} (T:Ty P ty false z) (h:σ.eval (.tmp t)= .ptr id 0) (hid:σ.ob id= .obj (.box e xs)) (hx:xs[0]? =some a):ResV P σ (.cell t ty) a

theorem ResV.run {K:jb} {ι:ay→Option dX} {S:Nat→Prop} {a:Act} {w:World} (R:RelI K ι S σ a w) {x:ResultVar} {r:AV} (h:ResV P σ x r):
    ∃ v,(match x with | .tmp t=> pure (a.tmps.getD t undef) | .cell b t=> do loadVar t (← asAddr (a.tmps.getD b undef)):Sem Value).run P w= .ok v w∧Rep ι S w r v∧ ∀ id,Has id r→σ.ob id≠ .free:=by
  cases h with
  | tmp h=> subst h;exact ⟨_,rfl,R.eval _,fun id hi=> R.evalHas _ hi⟩
  | cell1 T h hid hx=>
    rename_i t ty z id e xs
    obtain ⟨B,g,cur,h1,h2,h3,h4,h5,h6⟩:=R.boxB hid h
    obtain ⟨u,hu,hu1,hu2⟩:=h6 0 _ hx
    have h3':a.tmps[t]?.getD undef= .pointer (some ⟨g,0,none⟩):=by simpa [Act.eval] using h3
    exact ⟨u,by simp [h3',asAddr,mK (P:=P) (ee h4 hu)],hu2,fun i h=> R.clo id _ i hid ⟨_,List.mem_of_getElem? hx,h⟩⟩
  | cellA T h hid hl=>
    rename_i t ty z id e xs
    obtain ⟨B,g,cur,h1,h2,h3,h4,h5,h6⟩:=R.boxB hid h
    have h3':a.tmps[t]?.getD undef= .pointer (some ⟨g,0,none⟩):=by simpa [Act.eval] using h3
    have hc:sj w ⟨g,0,none⟩ (cur.toList.take xs.length):=fun j u hu=> by
      rw [Addr.add_lit]
      rw [List.getElem?_take] at hu
      split at hu
      · exact ee h4 (by simpa using hu)
      cases hu
    have hrun:=lY (P:=P) (T:=T) hc (by have:=h5.2;simp;omega)
    refine ⟨.agg (cur.toList.take xs.length).toArray,by simpa [h3',asAddr] using hrun, .agg (by have:=h5.2;simp;omega) (fun u hu=> ?_) (fun j b hb=> ?_),fun i h=> ?_⟩
    · obtain ⟨j,hj,rfl⟩:=List.getElem_of_mem hu
      have hj':j < xs.length:=by simp at hj;omega
      obtain ⟨u,a1,a2,_⟩:=h6 j _ (List.getElem?_eq_getElem hj')
      obtain ⟨hjc,a1⟩:=Array.getElem?_eq_some_iff.1 a1
      have e1:(cur.toList.take xs.length).toArray.toList[j]=u:=by simpa using a1
      rw [e1]
      exact a2
    · obtain ⟨u,a1,a2,a3⟩:=h6 j b hb
      have hj':j < xs.length:=(List.getElem?_eq_some_iff.1 hb).1
      have e1:(cur.toList.take xs.length).toArray.getD j undef=u:=by
        rw [Array.getD_eq_getD_getElem?,List.getElem?_toArray,List.getElem?_take,if_pos hj']
        simp [a1]
      rw [e1]
      exact a3
    cases h with
    | agg hm h=> exact R.clo id _ i hid ⟨_,hm,h⟩

theorem cb {α β:Type} {A:Result α} {f:α→World→Result β} {u:β} {w:World} (h:A.andThen f= .ok u w): ∃ x w1,A= .ok x w1∧f x w1= .ok u w:=by
  cases A with
  | ok x w1=> exact ⟨x,w1,rfl,h⟩
  | halt e w1=> cases h

variable {fn:Func} {e:Exit}
theorem rt (he:e= .normal∨e= .ret) (hr:fn.results= #[]) (h:Le σ' (eg (.tup []) σ)):jh P fn σ' e σ:=by
  refine ⟨he,fun K ι S a w R=> ?_⟩
  obtain ⟨ι',S',R'⟩:=h K ι S _ w (R.ret (r:= .tup []) (v:= .tuple #[]) (.tup rfl (by simp)) fun id h=> by cases h;simp at*)
  exact ⟨_,ι',S',by simp [results,hr],R'⟩
theorem dm {x:ResultVar} {r:AV} (he:e= .normal∨e= .ret) (hr:fn.results= #[x]) (h1:ResV P σ x r) (h:Le σ' (eg r σ)):jh P fn σ' e σ:=by
  refine ⟨he,fun K ι S a w R=> ?_⟩
  obtain ⟨v,a1,a2,a3⟩:=h1.run R
  obtain ⟨ι',S',R'⟩:=h K ι S _ w (R.ret a2 a3)
  exact ⟨v,ι',S',by cases x <;> (simp at a1;simp [results,hr,a1]),R'⟩
theorem Dr {ι:ay→Option dX} {S:Nat→Prop} {w:World} {r s:AV} {v u:Value} (h:Rep ι S w r v) (h':Rep ι S w s u):Rep ι S w (.tup [r,s]) (.tuple #[v,u]):=
  .tup rfl fun j a ha=> by
    match j,ha with
    | 0,ha=> simp at ha;subst ha;exact h
    | 1,ha=> simp at ha;subst ha;exact h'
theorem EO {ι:ay→Option dX} {S:Nat→Prop} {w:World} {r s t:AV} {v u x:Value} (h:Rep ι S w r v) (h':Rep ι S w s u) (h3:Rep ι S w t x):Rep ι S w (.tup [r,s,t]) (.tuple #[v,u,x]):=
  .tup rfl fun j a ha=> by
    match j,ha with
    | 0,ha=> simp at ha;subst ha;exact h
    | 1,ha=> simp at ha;subst ha;exact h'
    | 2,ha=> simp at ha;subst ha;exact h3
theorem kI {x y:ResultVar} {r s:AV} (he:e= .normal∨e= .ret) (hr:fn.results= #[x,y]) (h1:ResV P σ x r) (h2:ResV P σ y s) (h:Le σ' (eg (.tup [r,s]) σ)):jh P fn σ' e σ:=by
  refine ⟨he,fun K ι S a w R=> ?_⟩
  obtain ⟨v,a1,a2,a3⟩:=h1.run R
  obtain ⟨u,b1,b2,b3⟩:=h2.run R
  obtain ⟨ι',S',R'⟩:=h K ι S _ w (R.ret (Dr a2 b2) fun id hi=> by
    cases hi with
    | tup hm hi=>
      simp only [List.mem_cons,List.not_mem_nil,or_false] at hm
      rcases hm with rfl | rfl
      · exact a3 id hi
      exact b3 id hi)
  exact ⟨_,ι',S',by
    cases x <;> cases y <;> (simp at a1 b1;simp [results,hr,a1])
    · exact b1
    · obtain ⟨_,_,e1,e2⟩:=cb b1
      simp [e1,e2]
    · obtain ⟨_,_,e1,e2⟩:=cb a1
      simp [e1,e2,b1]
    obtain ⟨_,_,e1,e2⟩:=cb a1
    obtain ⟨_,_,e3,e4⟩:=cb b1
    simp [e1,e2,e3,e4],R'⟩
theorem Dm {x y z:ResultVar} {r s t:AV} (he:e= .normal∨e= .ret) (hr:fn.results= #[x,y,z]) (h1:ResV P σ x r) (h2:ResV P σ y s) (h3:ResV P σ z t) (h:Le σ' (eg (.tup [r,s,t]) σ)):jh P fn σ' e σ:=by
  refine ⟨he,fun K ι S a w R=> ?_⟩
  obtain ⟨v,a1,a2,a3⟩:=h1.run R
  obtain ⟨u,b1,b2,b3⟩:=h2.run R
  obtain ⟨q,c1,c2,c3⟩:=h3.run R
  obtain ⟨ι',S',R'⟩:=h K ι S _ w (R.ret (EO a2 b2 c2) fun id hi=> by
    cases hi with
    | tup hm hi=>
      simp only [List.mem_cons,List.not_mem_nil,or_false] at hm
      rcases hm with rfl | rfl | rfl
      · exact a3 id hi
      · exact b3 id hi
      exact c3 id hi)
  exact ⟨_,ι',S',by
    cases x <;> cases y <;> cases z <;> (simp at a1 b1 c1;simp [results,hr])
    · simp [a1,b1,c1]
    · obtain ⟨_,_,r1,r2⟩:=cb c1
      simp [a1,b1,r1,r2]
    · obtain ⟨_,_,q1,q2⟩:=cb b1
      simp [a1,q1,q2,c1]
    · obtain ⟨_,_,q1,q2⟩:=cb b1
      obtain ⟨_,_,r1,r2⟩:=cb c1
      simp [a1,q1,q2,r1,r2]
    · obtain ⟨_,_,p1,p2⟩:=cb a1
      simp [p1,p2,b1,c1]
    · obtain ⟨_,_,p1,p2⟩:=cb a1
      obtain ⟨_,_,r1,r2⟩:=cb c1
      simp [p1,p2,b1,r1,r2]
    · obtain ⟨_,_,p1,p2⟩:=cb a1
      obtain ⟨_,_,q1,q2⟩:=cb b1
      simp [p1,p2,q1,q2,c1]
    obtain ⟨_,_,p1,p2⟩:=cb a1
    obtain ⟨_,_,q1,q2⟩:=cb b1
    obtain ⟨_,_,r1,r2⟩:=cb c1
    simp [p1,p2,q1,q2,r1,r2],R'⟩


mutual
def AV.pure:AV→Bool
  | .ref _ _ _=> false
  | .ptr _ _=> false
  | .mp _=> false
  | .agg xs=> AV.pures xs
  | .fn _ xs ys=> AV.pures xs && AV.pures ys
  | .ifc _ a=> a.pure
  | .tup xs=> AV.pures xs
  | _=> true
def AV.pures:List AV→Bool
  | []=> true
  | a::l=> a.pure && AV.pures l
end
mutual
theorem mz {id:ay}: ∀ (a:AV),a.pure=true→ ¬ Has id a
  | .dead,_,h=> by cases h
  | .v _,_,h=> by cases h
  | .sl _ _,_,h=> by cases h
  | .fp _ _,_,h=> by cases h
  | .z,_,h=> by cases h
  | .ref _ _ _,hp,_=> by simp [AV.pure] at hp
  | .ptr _ _,hp,_=> by simp [AV.pure] at hp
  | .mp _,hp,_=> by simp [AV.pure] at hp
  | .agg xs,hp,h=> by
    simp only [AV.pure] at hp
    cases h with
    | agg hm h=> exact fZ xs hp _ hm h
  | .fn f xs ys,hp,h=> by
    simp only [AV.pure,Bool.and_eq_true] at hp
    cases h with
    | fn1 hm h=> exact fZ xs hp.1 _ hm h
    | fn2 hm h=> exact fZ ys hp.2 _ hm h
  | .ifc t a,hp,h=> by
    simp only [AV.pure] at hp
    cases h with
    | ifc h=> exact mz a hp h
  | .tup xs,hp,h=> by
    simp only [AV.pure] at hp
    cases h with
    | tup hm h=> exact fZ xs hp _ hm h
theorem fZ {id:ay}: ∀ (l:List AV),AV.pures l=true→ ∀ a∈l,¬ Has id a
  | [],_,a,h=> by simp at h
  | b::l,hp,a,h=> by
    simp only [AV.pures,Bool.and_eq_true] at hp
    rcases List.mem_cons.1 h with h0 | h
    · rw [h0];exact mz b hp.1
    exact fZ l hp.2 a h
end

def fY (σ:St) (F:ay→Bool) (avs:List AV) (args:List AV):Prop:=args.length=avs.length∧ ∀ (j:Nat) (x:AV) (a:AV),avs[j]? =some x→args[j]? =some a→Lv id σ F a x
theorem cL {F:ay→Bool}:fY σ F [] []:=⟨rfl,by simp⟩
theorem nM {F:ay→Bool} {x:AV} {xs:List AV} {a:AV} {args:List AV} (h:Lv id σ F a x) (hs:fY σ F xs args):fY σ F (x::xs) (a::args):=by
  refine ⟨by simp [hs.1],fun j y b hy hb=> ?_⟩
  cases j with
  | zero=> simp at hy hb;subst hy;subst hb;exact h
  | succ j=> exact hs.2 j y b (by simpa using hy) (by simpa using hb)

def EntersAt (P:Program) (o:Oper) (σ:St) (f:FuncId) (avs:List AV):Prop:=
  ∀ K ι S a w,RelI K ι S σ a w→ ∃ vs:Array Value,(execOp a.eval o).run P w= .ok (.enter f vs) w∧vs.size=avs.length∧ ∀ (j:Nat) (x:AV),avs[j]? =some x→Rep ι S w x (vs.getD j undef)

theorem RelI.args {K:jb} {ι:ay→Option dX} {S:Nat→Prop} {a:Act} {w:World} (R:RelI K ι S σ a w) {F:ay→Bool} {avs args:List AV} (h:fY σ F avs args) (hp:AV.pures args=true)
    {vs:Array Value} (hv:vs.size=avs.length) (hr: ∀ (j:Nat) (x:AV),avs[j]? =some x→Rep ι S w x (vs.getD j undef)):
    RelI ⟨w,fun _=> False,fun g=> S g∨ ∃ id B,F id=true∧ι id=some B∧B.g=some g,fun _=> none,none⟩ (fun _=> none) (fun g=> S g∨ ∃ id B,F id=true∧ι id=some B∧B.g=some g) (aQ args []) ⟨vs,[]⟩ w:=by
  refine ⟨Keeps.refl _ _,fun g h=> .inl h,fun g hg=> ?_,by simp [aQ,h.1,hv], .nil,fun t ht=> ?_,fun t id hb=> ?_,fun id' o id ho=> (by cases ho),fun id o ho=> (by cases ho),fun id B hB=> (by cases hB),fun id id' B B' g hB=> (by cases hB),fun id B g hB=> (by cases hB),fun id h o hp=> (by cases hp),fun id _=> rfl⟩
  · rcases hg with hg | ⟨id,B,_,h2,h3⟩
    · exact R.Slt g hg
    exact R.lt h2 h3
  · simp only [aQ] at ht ⊢
    have hx:t < avs.length:=by rw [← h.1];exact ht
    have:=(h.2 t _ _ (List.getElem?_eq_getElem hx) (List.getElem?_eq_getElem ht)).rep (ι1:=fun _=> none) R (fun id B hB=> by cases hB) (S1:=fun g=> S g∨ ∃ id B,F id=true∧ι id=some B∧B.g=some g) (fun g h=> .inl h) (fun id B g a b c=> .inr ⟨id,B,a,b,c⟩) (hr t _ (List.getElem?_eq_getElem hx))
    simpa [List.getD_eq_getElem?_getD,ht] using this
  simp only [aQ] at hb
  by_cases ht:t < args.length
  · rw [List.getD_eq_getElem?_getD,List.getElem?_eq_getElem ht] at hb
    exact absurd hb (fZ args hp _ (List.getElem_mem ht))
  rw [List.getD_eq_getElem?_getD,List.getElem?_eq_none ab] at hb
  cases hb

variable {o:Oper}
theorem wL {f:FuncId} {avs:List AV} (hE:EntersAt P o σ f avs) {args:List AV} {r:AV} (sp:Spec P f (aQ args []) (aG r []))
    (ha:fY σ (fun _=> false) avs args) (hp:AV.pures args=true) (hr:r.pure=true):gH P o σ (σ.put o.dst r):=by
  intro K ι S a w R
  obtain ⟨vs,hrun,hvs,hrep⟩:=hE K ι S a w R
  have R1:=R.args ha hp hvs hrep
  refine kb hrun (sp _ _ _ _ w rfl rfl R1) ?_
  rintro e w' ⟨v,ι',S',rfl,R2⟩
  refine ⟨v,rfl,?_⟩
  have hb:Below w.heap.size w w':=⟨R2.keeps.os,R2.keeps.tape,R2.keeps.output,R2.keeps.size,fun g hg=> R2.keeps.block g hg (by simp)⟩
  have hS': ∀ g,S' g→S g∨w.heap.size≤g:=fun g hg=> by
    rcases R2.S0 g hg with (h | ⟨_,_,h,_⟩) | h
    · exact .inl h
    · cases h
    exact .inr h
  have R3:=R.gen (ι':=ι) (S':=fun g=> S g∨S' g) (w':=w') (ob':=σ.ob) (inc':=σ.inc) (fun _=> False) (.of_below hb) (fun _ _=> rfl) (fun _ _=> rfl) (fun _ _=> rfl) (fun _ h=> h) (fun g h=> .inl h)
    (fun g h=> by rcases h with h | h; · exact .inl h
                  rcases hS' g h with h | h
                  · exact .inl h
                  exact .inr (.inl h))
    (fun g h=> by rcases h with h | h; · exact Nat.lt_of_lt_of_le (R.Slt g h) hb.size
                  exact R2.Slt g h)
    (fun _ _ h=> h.elim) (fun _ _ h=> h.elim) (fun _ _ h=> h.elim) (fun _ _ _ _ _ h=> h.elim) (fun _ _ _ h=> h.elim) (fun _ _ _ h=> h.elim)
  refine ⟨ι,_,R3.put o.dst (av:=r) ?_ fun id hi=> absurd hi (mz r hr)⟩
  have:=R2.fr 0 (by simp [aG])
  simp only [aG,Nat.beq_refl,cond_true] at this
  exact (by simpa using this:Rep ι' S' w' r v).next (fun _ _=> rfl) (fun g h=> .inr h) (fun id B hi=> absurd hi (mz r hr))

theorem AY {f:FuncId} {avs:List AV} (hE:EntersAt P o σ f avs) {args:List AV} {x:Value} (sp:Spec P f (aQ args []) (aG (.v x) []))
    (ha:fY σ (fun _=> true) avs args) (hp:AV.pures args=true):gH P o σ (σ.put o.dst (.v x)):=by
  intro K ι S a w R
  obtain ⟨vs,hrun,hvs,hrep⟩:=hE K ι S a w R
  have R1:=R.args ha hp hvs hrep
  refine kb hrun (sp _ _ _ _ w rfl rfl R1) ?_
  rintro e w' ⟨v,ι',S',rfl,R2⟩
  refine ⟨v,rfl,?_⟩
  have hb:Below w.heap.size w w':=⟨R2.keeps.os,R2.keeps.tape,R2.keeps.output,R2.keeps.size,fun g hg=> R2.keeps.block g hg (by simp)⟩
  have R3:=R.gen (ι':=ι) (S':=S) (w':=w') (ob':=σ.ob) (inc':=σ.inc) (fun _=> False) (.of_below hb) (fun _ _=> rfl) (fun _ _=> rfl) (fun _ _=> rfl) (fun _ h=> h) (fun g h=> h)
    (fun g h=> .inl h) (fun g h=> Nat.lt_of_lt_of_le (R.Slt g h) hb.size)
    (fun _ _ h=> h.elim) (fun _ _ h=> h.elim) (fun _ _ h=> h.elim) (fun _ _ _ _ _ h=> h.elim) (fun _ _ _ h=> h.elim) (fun _ _ _ h=> h.elim)
  refine ⟨ι,_,R3.put o.dst (av:= .v x) ?_ fun id hi=> eU hi⟩
  have:=R2.fr 0 (by simp [aG])
  simp only [aG,Nat.beq_refl,cond_true] at this
  have:=(by simpa using this:Rep ι' S' w' (.v x) v).toV
  rw [this];exact .v
theorem EntersAt.fnc {f:FuncId} {xs:Array Operand} {ats:Array TypeId} (ho:o.op= .call { callee:= .value (.func f),args:=xs,argTypes:=ats }) (C:ce P f):EntersAt P o σ f (xs.toList.map σ.eval):=by
  intro K ι S a w R
  refine ⟨xs.map a.eval,zD (ρ:=a.eval) ho rfl,by simp,fun j x hx=> ?_⟩
  rw [List.getElem?_map] at hx
  obtain ⟨y,hy,rfl⟩:=Option.map_eq_some_iff.1 hx
  have hy':xs[j]? =some y:=by simpa using hy
  have hj:=(Array.getElem?_eq_some_iff.1 hy').1
  have:(xs.map a.eval).getD j undef=a.eval y:=by
    have h2:=(Array.getElem?_eq_some_iff.1 hy').2
    simp [hj,h2]
  rw [this];exact R.eval y
theorem EntersAt.fnv {f:FuncId} {x:Operand} {xs:Array Operand} {ats:Array TypeId} {first caps:List AV} (ho:o.op= .call { callee:= .value x,args:=xs,argTypes:=ats }) (C:ce P f) (hx:σ.eval x= .fn (.func f) first caps):
    EntersAt P o σ f (first++xs.toList.map σ.eval++caps):=by
  intro K ι S a w R
  have h:=R.eval x
  rw [hx] at h
  generalize hv:a.eval x=v at h
  cases h with
  | fn h1 h2 h3 h4=>
    rename_i us vs
    have hC:=C.out (us++xs.map a.eval++vs) w
    refine ⟨us++xs.map a.eval++vs,?_,by simp [h1,h2],fun j y hy=> ?_⟩
    · simp only [execOp,ho,resolve,hv,Deferred.ofValue,Sem.run_bind,Sem.run_pure,Result.andThen_ok,invoke]
      exact hC
    simp only [Array.getD_eq_getD_getElem?,Array.getElem?_append,Array.size_append,Array.size_map]
    rw [List.getElem?_append] at hy
    have e1:(first++xs.toList.map σ.eval).length=us.size+xs.size:=by simp [h1]
    rw [e1] at hy
    split at hy
    · rename_i hj
      rw [if_pos hj]
      rw [List.getElem?_append] at hy
      split at hy
      · rename_i hj2
        rw [if_pos ab]
        simpa using h3 j y hy
      rename_i hj2
      rw [if_neg ab]
      rw [← h1] at hy
      rw [List.getElem?_map] at hy
      obtain ⟨z,hz,rfl⟩:=Option.map_eq_some_iff.1 hy
      have hz':xs[j - us.size]? =some z:=by simpa using hz
      simp only [Array.getElem?_map,hz',Option.map_some,Option.getD_some]
      exact R.eval z
    rename_i hj
    rw [if_neg hj]
    simpa using h4 _ y hy
end

theorem St.eq {σ τ:St} (h1:σ.n=τ.n) (h2: ∀ t,σ.fr t=τ.fr t) (h3: ∀ i,σ.ob i=τ.ob i) (h4:σ.inc=τ.inc) (h5:σ.pin=τ.pin):σ=τ:=by
  obtain ⟨n,fr,ob,inc,pin⟩:=σ
  obtain ⟨n',fr',ob',inc',pin'⟩:=τ
  obtain rfl:n=n':=h1
  obtain rfl:fr=fr':=funext h2
  obtain rfl:ob=ob':=funext h3
  obtain rfl:inc=inc':=h4
  obtain rfl:pin=pin':=h5
  rfl

abbrev Res:=AV×List (ay×Slot)
def St.setObs:List (ay×Slot)→St→St
  | [],σ=> σ
  | (i,x)::l,σ=> St.setObs l (σ.setOb i x)
def Res.app (r:Res) (d:Option Tmp) (σ:St):St:=(St.setObs r.2 σ).put d r.1
theorem ko: ∀ (l:List (ay×Slot)) (σ:St),(St.setObs l σ).n=σ.n
  | [],_=> rfl
  | (_,_)::l,σ=> (ko l _).trans rfl
theorem jl: ∀ (l:List (ay×Slot)) (σ:St),(St.setObs l σ).fr=σ.fr
  | [],_=> rfl
  | (_,_)::l,σ=> (jl l _).trans rfl
theorem ie: ∀ (l:List (ay×Slot)) (σ:St),(St.setObs l σ).inc=σ.inc
  | [],_=> rfl
  | (_,_)::l,σ=> (ie l _).trans rfl
theorem il: ∀ (l:List (ay×Slot)) (σ:St),(St.setObs l σ).pin=σ.pin
  | [],_=> rfl
  | (_,_)::l,σ=> (il l _).trans rfl
theorem gO: ∀ (l:List (ay×Slot)) (σ:St) {i:ay},i∉l.map (·.1)→(St.setObs l σ).ob i=σ.ob i
  | [],_,_,_=> rfl
  | (k,x)::l,σ,i,h=> by
    simp only [List.map_cons,List.mem_cons,not_or] at h
    exact (gO l _ h.2).trans (St.setOb_ne _ _ h.1)
theorem fW: ∀ (l:List (ay×Slot)) (σ:St) {i:ay} {c:Slot},(l.map (·.1)).Nodup→(i,c)∈l→(St.setObs l σ).ob i=c
  | [],_,_,_,_,h=> by simp at h
  | (k,x)::l,σ,i,c,hn,h=> by
    simp only [List.map_cons,List.nodup_cons] at hn
    rcases List.mem_cons.1 h with h0 | h
    · obtain ⟨rfl,rfl⟩:=Prod.mk.inj h0
      exact (gO l _ hn.1).trans (St.setOb_same _ _ _)
    exact fW l _ hn.2 h

def cT:List Oper→List Res→(Nat→Bool)→Nat→St→St
  | o::ops,r::rs,L,k,σ=> cT ops rs L (k+1) (bif L k then r.app o.dst σ else σ)
  | _,_,_,_,σ=> σ

theorem yQ (r:Res) (d:Option Tmp) (σ:St):(r.app d σ).n=σ.n:=by
  unfold Res.app;rw [St.put_n,ko]
theorem sg (r:Res) (d:Option Tmp) (σ:St):(r.app d σ).inc=σ.inc:=by
  have key: ∀ σ:St,(σ.put d r.1).inc=σ.inc:=fun σ=> by cases d <;> rfl
  unfold Res.app;rw [key,ie]
theorem rS (r:Res) (d:Option Tmp) (σ:St):(r.app d σ).pin=σ.pin:=by
  have key: ∀ σ:St,(σ.put d r.1).pin=σ.pin:=fun σ=> by cases d <;> rfl
  unfold Res.app;rw [key,il]
theorem nl (r:Res) (d:Option Tmp) (σ:St) {t:Nat} (h:d≠some t):(r.app d σ).fr t=σ.fr t:=by
  have key: ∀ σ:St,(σ.put d r.1).fr t=σ.fr t:=fun σ=> by
    cases d with
    | none=> rfl
    | some d=>
      have:Nat.beq t d=false:=by
        cases hb:Nat.beq t d with
        | false=> rfl
        | true=> exact absurd (by rw [Nat.eq_of_beq_eq_true hb]) h
      simp only [St.put,this,cond_false]
  unfold Res.app
  rw [key,jl]
theorem mW (r:Res) (σ:St) (t:Nat):(r.app (some t) σ).fr t=r.1:=by
  have key: ∀ σ:St,(σ.put (some t) r.1).fr t=r.1:=fun σ=> by simp [St.put]
  exact key _
theorem ni (r:Res) (d:Option Tmp) (σ:St) {i:ay} (h: ∀ c,(i,c)∉r.2):(r.app d σ).ob i=σ.ob i:=by
  unfold Res.app
  rw [St.put_ob]
  refine gO _ _ fun hm=> ?_
  obtain ⟨⟨k,c⟩,h1,rfl⟩:=List.mem_map.1 hm
  exact h c h1
theorem nw (r:Res) (d:Option Tmp) (σ:St) {i:ay} {c:Slot} (hn:(r.2.map (·.1)).Nodup) (h:(i,c)∈r.2):(r.app d σ).ob i=c:=by
  unfold Res.app
  rw [St.put_ob]
  exact fW _ _ hn h

section
variable {L:Nat→Bool}
theorem ju: ∀ (ops:List Oper) (rs:List Res) (k:Nat) (σ:St),(cT ops rs L k σ).n=σ.n
  | [],_,_,_=> by simp [cT]
  | _::_,[],_,_=> by simp [cT]
  | o::ops,r::rs,k,σ=> by
    simp only [cT]
    rw [ju ops rs]
    cases L k
    · rfl
    simp only [cond_true];exact yQ _ _ _
theorem fD: ∀ (ops:List Oper) (rs:List Res) (k:Nat) (σ:St),(cT ops rs L k σ).inc=σ.inc
  | [],_,_,_=> by simp [cT]
  | _::_,[],_,_=> by simp [cT]
  | o::ops,r::rs,k,σ=> by
    simp only [cT]
    rw [fD ops rs]
    cases L k
    · rfl
    simp only [cond_true];exact sg _ _ _
theorem fF: ∀ (ops:List Oper) (rs:List Res) (k:Nat) (σ:St),(cT ops rs L k σ).pin=σ.pin
  | [],_,_,_=> by simp [cT]
  | _::_,[],_,_=> by simp [cT]
  | o::ops,r::rs,k,σ=> by
    simp only [cT]
    rw [fF ops rs]
    cases L k
    · rfl
    simp only [cond_true];exact rS _ _ _
theorem eV {t:Nat}: ∀ (ops:List Oper) (rs:List Res) (k:Nat) (σ:St),(∀ (j:Nat) (o:Oper) (r:Res),ops[j]? =some o→rs[j]? =some r→L (k+j)=true→o.dst≠some t)→(cT ops rs L k σ).fr t=σ.fr t
  | [],_,_,_,_=> by simp [cT]
  | _::_,[],_,_,_=> by simp [cT]
  | o::ops,r::rs,k,σ,h=> by
    simp only [cT]
    rw [eV ops rs (k+1) _ fun j o' r' ho hr hl=> h (j+1) o' r' (by simpa using ho) (by simpa using hr) (by rw [← hl];congr 1;omega)]
    cases hL:L k
    · rfl
    simp only [cond_true];exact nl _ _ _ (h 0 o r rfl rfl (by simpa using hL))
theorem fJ {t:Nat}: ∀ (ops:List Oper) (rs:List Res) (k:Nat) (σ:St) (j:Nat) (o:Oper) (r:Res),ops[j]? =some o→rs[j]? =some r→L (k+j)=true→o.dst=some t→
    (∀ (i:Nat) (o':Oper),ops[i]? =some o'→i≠j→o'.dst≠some t)→(cT ops rs L k σ).fr t=r.1
  | [],_,_,_,_,_,_,h,_,_,_,_=> by simp at h
  | _::_,[],_,_,_,_,_,_,h,_,_,_=> by simp at h
  | o::ops,r::rs,k,σ,0,o1,r1,ho,hr,hl,hd,hne=> by
    simp at ho hr
    subst ho;subst hr
    simp only [cT]
    rw [eV ops rs (k+1) _ fun j o' r' ho hr _=> hne (j+1) o' (by simpa using ho) ab]
    have:L k=true:=by simpa using hl
    rw [this]
    simp only [cond_true]
    rw [hd];exact mW _ _ _
  | o::ops,r::rs,k,σ,j+1,o1,r1,ho,hr,hl,hd,hne=> by
    simp only [cT]
    exact fJ ops rs (k+1) _ j o1 r1 (by simpa using ho) (by simpa using hr) (by rw [← hl];congr 1;omega) hd fun i o' ho' hij=> hne (i+1) o' (by simpa using ho') ab
theorem gu {i:ay}: ∀ (ops:List Oper) (rs:List Res) (k:Nat) (σ:St),(∀ (j:Nat) (o:Oper) (r:Res),ops[j]? =some o→rs[j]? =some r→L (k+j)=true→ ∀ c,(i,c)∉r.2)→(cT ops rs L k σ).ob i=σ.ob i
  | [],_,_,_,_=> by simp [cT]
  | _::_,[],_,_,_=> by simp [cT]
  | o::ops,r::rs,k,σ,h=> by
    simp only [cT]
    rw [gu ops rs (k+1) _ fun j o' r' ho hr hl=> h (j+1) o' r' (by simpa using ho) (by simpa using hr) (by rw [← hl];congr 1;omega)]
    cases hL:L k
    · rfl
    simp only [cond_true];exact ni _ _ _ (h 0 o r rfl rfl (by simpa using hL))
theorem jc {i:ay} {c:Slot}: ∀ (ops:List Oper) (rs:List Res) (k:Nat) (σ:St) (j:Nat) (o:Oper) (r:Res),ops[j]? =some o→rs[j]? =some r→L (k+j)=true→(r.2.map (·.1)).Nodup→(i,c)∈r.2→
    (∀ (m:Nat) (r':Res),rs[m]? =some r'→m≠j→ ∀ c',(i,c')∉r'.2)→(cT ops rs L k σ).ob i=c
  | [],_,_,_,_,_,_,h,_,_,_,_,_=> by simp at h
  | _::_,[],_,_,_,_,_,_,h,_,_,_,_=> by simp at h
  | o::ops,r::rs,k,σ,0,o1,r1,ho,hr,hl,hn,hd,hne=> by
    simp at ho hr
    subst ho;subst hr
    simp only [cT]
    rw [gu ops rs (k+1) _ fun j o' r' ho hr _=> hne (j+1) r' (by simpa using hr) ab]
    have:L k=true:=by simpa using hl
    rw [this]
    simp only [cond_true]
    exact nw _ _ _ hn hd
  | o::ops,r::rs,k,σ,j+1,o1,r1,ho,hr,hl,hn,hd,hne=> by
    simp only [cT]
    exact jc ops rs (k+1) _ j o1 r1 (by simpa using ho) (by simpa using hr) (by rw [← hl];congr 1;omega) hn hd fun i r' hr' hij=> hne (i+1) r' (by simpa using hr') ab
end

def qX (t:Nat):List Nat→Bool
  | []=> false
  | x::l=> Nat.beq t x || qX t l
def cj (i:ay):List ay→Bool
  | []=> false
  | x::l=> gh i x || cj i l
theorem inL_iff {t:Nat}: ∀ {l:List Nat},qX t l=true↔t∈l
  | []=> by simp [qX]
  | x::l=> by simp [qX,inL_iff]
theorem inO_iff {t:ay}: ∀ {l:List ay},cj t l=true↔t∈l
  | []=> by simp [cj]
  | x::l=> by simp only [cj,Bool.or_eq_true,oeq_iff,inO_iff,List.mem_cons]

def lX:List Oper→List Res→List Nat→Nat→Nat→Option AV
  | o::ops,r::rs,dp,k,t=> bif qX k dp && (match o.dst with | some d=> Nat.beq t d | none=> false) then some r.1 else lX ops rs dp (k+1) t
  | _,_,_,_,_=> none
def dT:List (ay×Slot)→ay→Option Slot
  | [],_=> none
  | (k,x)::l,i=> bif gh i k then some x else dT l i
theorem gb: ∀ {l:List (ay×Slot)} {i:ay} {x:Slot},dT l i=some x→(i,x)∈l
  | [],_,_,h=> by simp [dT] at h
  | (k,y)::l,i,x,h=> by
    simp only [dT] at h
    cases hb:gh i k with
    | true=> rw [hb] at h;simp at h;subst h;rw [oeq_iff.1 hb];exact List.mem_cons_self
    | false=> rw [hb] at h;exact List.mem_cons_of_mem _ (gb (by simpa using h))
def Nn:Option Slot→Option Slot→Option Slot
  | some x,_=> some x
  | none,y=> y
def nN:List Res→List Nat→Nat→ay→Option Slot
  | r::rs,dp,k,i=> Nn (bif qX k dp then dT r.2 i else none) (nN rs dp (k+1) i)
  | _,_,_,_=> none

theorem ln: ∀ {ops:List Oper} {rs:List Res} {dp:List Nat} {k t:Nat} {a:AV},lX ops rs dp k t=some a→ ∃ j o r,ops[j]? =some o∧rs[j]? =some r∧k+j∈dp∧o.dst=some t∧a=r.1
  | [],_,_,_,_,_,h=> by simp [lX] at h
  | _::_,[],_,_,_,_,h=> by simp [lX] at h
  | o::ops,r::rs,dp,k,t,a,h=> by
    simp only [lX] at h
    cases hc:(qX k dp && (match o.dst with | some d=> Nat.beq t d | none=> false)) with
    | true=>
      rw [hc] at h
      simp only [Bool.and_eq_true] at hc
      refine ⟨0,o,r,rfl,rfl,by simpa using inL_iff.1 hc.1,?_,by simpa using h.symm⟩
      cases hd:o.dst with
      | none=> rw [hd] at hc;simp at hc
      | some d=>
        rw [hd] at hc
        rw [Nat.eq_of_beq_eq_true hc.2]
    | false=>
      rw [hc] at h
      obtain ⟨j,o',r',h1,h2,h3,h4,h5⟩:=ln (by simpa using h)
      exact ⟨j+1,o',r',by simpa using h1,by simpa using h2,by rw [← Nat.add_assoc,Nat.add_right_comm];exact h3,h4,h5⟩
theorem pD: ∀ {rs:List Res} {dp:List Nat} {k:Nat} {i:ay} {c:Slot},nN rs dp k i=some c→ ∃ j r,rs[j]? =some r∧k+j∈dp∧(i,c)∈r.2
  | [],_,_,_,_,h=> by simp [nN] at h
  | r::rs,dp,k,i,c,h=> by
    have rec_:nN rs dp (k+1) i=some c→ ∃ j r',(r::rs)[j]? =some r'∧k+j∈dp∧(i,c)∈r'.2:=fun h=> by
      obtain ⟨j,r',h1,h2,h3⟩:=pD h
      exact ⟨j+1,r',by simpa using h1,by rw [← Nat.add_assoc,Nat.add_right_comm];exact h2,h3⟩
    simp only [nN] at h
    cases hc:qX k dp with
    | false=> rw [hc] at h;exact rec_ h
    | true=>
      rw [hc] at h
      simp only [cond_true] at h
      cases hl:dT r.2 i with
      | none=> rw [hl] at h;exact rec_ h
      | some x=>
        rw [hl] at h
        obtain rfl:=Option.some.inj h
        exact ⟨0,r,rfl,by simpa using inL_iff.1 hc,gb hl⟩

def dO (σ:St) (W:List Nat) (I:List ay) (own:List ay) (ops:List Oper) (rs:List Res) (dp:List Nat) (τ:St):St where
  n:=σ.n
  fr t:=match lX ops rs dp 0 t with
    | some a=> a
    | none=> bif qX t W then τ.fr t else σ.fr t
  ob i:=match nN rs dp 0 i with
    | some c=> c
    | none=> bif cj i I && !(cj i own) then τ.ob i else σ.ob i
  inc:=σ.inc
  pin:=σ.pin

def Edge.ons:List Edge→List Nat
  | []=> []
  | e::l=> bif Region.binds .any e then e.on::Edge.ons l else Edge.ons l

inductive wT (P:Program) (all:List Oper) (W:List Nat) (I:List ay) (σ:St) (rs:List Res) (o:Oper):Res→Prop where
  | plain {r:Res} (hg:o.guard=none) (h: ∀ τ,gH P o (dO σ W I (r.2.map (·.1)) all rs (Edge.ons o.after.toList) τ) (r.app o.dst (dO σ W I (r.2.map (·.1)) all rs (Edge.ons o.after.toList) τ))):wT P all W I σ rs o r
  | yes {r:Res} {j d:Nat} {want:Bool} (hg:o.guard=some (j,want)) (hd:(all[j]?).bind (·.dst)=some d) (hv: ∀ τ,(dO σ W I (r.2.map (·.1)) all rs (Edge.ons o.after.toList) τ).eval (.tmp d)= .v (.bool want))
      (h: ∀ τ,gH P o (dO σ W I (r.2.map (·.1)) all rs (Edge.ons o.after.toList) τ) (r.app o.dst (dO σ W I (r.2.map (·.1)) all rs (Edge.ons o.after.toList) τ))):wT P all W I σ rs o r
  | no {j d:Nat} {want:Bool} {y:Value} (hg:o.guard=some (j,want)) (hd:(all[j]?).bind (·.dst)=some d) (hv: ∀ τ,(dO σ W I [] all rs (Edge.ons o.after.toList) τ).eval (.tmp d)= .v y) (hb:y≠ .bool want):wT P all W I σ rs o (.v undef,[])

def iK (AA:List (List ay)) (I:List ay) (k:Nat):List ay:=match AA with
  | []=> I
  | _=> I.filter fun i=> !(cj i (AA.getD k []))
theorem GY {AA:List (List ay)} {I:List ay} {k:Nat} {i:ay} (h:i∈I) (hn:i∉iK AA I k):i∈AA.getD k []:=by
  unfold iK at hn
  cases AA with
  | nil=> exact absurd h hn
  | cons a l=>
    simp only [List.mem_filter,not_and,Bool.not_eq_true',Bool.not_eq_false] at hn
    exact inO_iff.1 (by simpa using hn h)
def AnyOps (P:Program) (all:List Oper) (W:List Nat) (I:List ay) (AA:List (List ay)) (σ:St) (Kont:List Res→Prop):List Oper→List Res→Prop
  | [],rs=> Kont rs
  | o::os,rs=> ∃ r,wT P all W (iK AA I rs.length) σ rs o r∧AnyOps P all W I AA σ Kont os (rs++[r])
def ve (ops:List Oper) (o:Oper) (k:Nat):Bool:=qX k (Edge.ons o.after.toList) || (Edge.ons o.after.toList).any fun m=> match ops[m]? with | some o'=> qX k (Edge.ons o'.after.toList) | none=> false
def nf (ops:List Oper) (rs:List Res):Nat→List (List ay)→Bool
  | _,[]=> true
  | k,A::AA=> (A.all fun i=> (ops.zip rs).any fun p=> cj i (p.2.2.map (·.1)) && ve ops p.1 k) && nf ops rs (k+1) AA
theorem pQ {ops:List Oper} {rs:List Res}: ∀ {AA:List (List ay)} {k j:Nat} {i:ay},nf ops rs k AA=true→i∈AA.getD j []→ ∃ (s:Nat) (o:Oper) (r:Res) (c:Slot),ops[s]? =some o∧rs[s]? =some r∧(i,c)∈r.2∧ve ops o (k+j)=true
  | [],k,j,i,_,h=> by simp at h
  | A::AA,k,j,i,hb,h=> by
    simp only [nf,Bool.and_eq_true] at hb
    cases j with
    | zero=>
      have h1:=List.all_eq_true.1 hb.1 i (by simpa using h)
      obtain ⟨⟨o,r⟩,hp,h2⟩:=List.any_eq_true.1 h1
      rw [Bool.and_eq_true] at h2
      obtain ⟨s,hs⟩:=List.getElem?_of_mem hp
      rw [List.getElem?_zip_eq_some] at hs
      obtain ⟨⟨i',c⟩,h3,rfl⟩:=List.mem_map.1 (inO_iff.1 h2.1)
      exact ⟨s,o,r,c,hs.1,hs.2,h3,h2.2⟩
    | succ j=>
      obtain ⟨s,o,r,c,h1,h2,h3,h4⟩:=pQ (k:=k+1) (j:=j) hb.2 (by simpa using h)
      exact ⟨s,o,r,c,h1,h2,h3,by rwa [show k+(j+1)=k+1+j by omega]⟩

theorem RelI.drew {K:jb} {ι:ay→Option dX} {S:Nat→Prop} {σ:St} {a:Act} {w:World} (R:RelI K ι S σ a w):RelI K ι S σ a w.drew:=
  R.gen (ob':=σ.ob) (inc':=σ.inc) (fun _=> False) ⟨rfl,rfl,rfl,Nat.le_refl _,fun _ _ _=> rfl⟩ (fun _ _=> rfl) (fun _ _=> rfl) (fun _ _=> rfl) (fun _ h=> h) (fun _ h=> h) (fun _ h=> .inl h) (fun g h=> R.Slt g h)
    (fun _ _ h=> h.elim) (fun _ _ h=> h.elim) (fun _ _ h=> h.elim) (fun _ _ _ _ _ h=> h.elim) (fun _ _ _ h=> h.elim) (fun _ _ _ h=> h.elim)

def fO:List Res→List ay
  | []=> []
  | r::l=> r.2.map (·.1)++fO l

theorem ka: ∀ {rs:List Res} {j:Nat} {r:Res} {i:ay} {c:Slot},rs[j]? =some r→(i,c)∈r.2→i∈fO rs
  | [],j,r,i,c,h,_=> by simp at h
  | x::l,0,r,i,c,h,h2=> by
    simp at h;subst h
    simp only [fO]
    exact List.mem_append_left _ (List.mem_map_of_mem (f:=(·.1)) h2)
  | x::l,j+1,r,i,c,h,h2=> by
    simp only [fO]
    exact List.mem_append_right _ (ka (rs:=l) (j:=j) (by simpa using h) h2)
theorem jw: ∀ {rs:List Res},(fO rs).Nodup→ ∀ {j:Nat} {r:Res},rs[j]? =some r→(r.2.map (·.1)).Nodup
  | [],_,j,r,h=> by simp at h
  | x::l,hn,j,r,h=> by
    simp only [fO,List.nodup_append] at hn
    cases j with
    | zero=> simp at h;subst h;exact hn.1
    | succ j=> exact jw hn.2.1 (by simpa using h)
theorem gq: ∀ {rs:List Res},(fO rs).Nodup→ ∀ {j k:Nat} {r s:Res} {i:ay} {c d:Slot},rs[j]? =some r→rs[k]? =some s→(i,c)∈r.2→(i,d)∈s.2→j=k
  | [],_,j,k,r,s,i,c,d,h,_,_,_=> by simp at h
  | x::l,hn,j,k,r,s,i,c,d,hj,hk,h1,h2=> by
    simp only [fO,List.nodup_append] at hn
    match j,k with
    | 0,0=> rfl
    | 0,k+1=>
      exfalso
      simp at hj;subst hj
      exact hn.2.2 i (List.mem_map_of_mem (f:=(·.1)) h1) i (ka (by simpa using hk) h2) rfl
    | j+1,0=>
      exfalso
      simp at hk;subst hk
      exact hn.2.2 i (List.mem_map_of_mem (f:=(·.1)) h2) i (ka (by simpa using hj) h1) rfl
    | j+1,k+1=> exact congrArg (· +1) (gq (rs:=l) (j:=j) (k:=k) (r:=r) (s:=s) hn.2.1 (by simpa using hj) (by simpa using hk) h1 h2)

def kE (ops:Array Oper) (n:Nat):Bool:=
  decide (n≤ops.size) && (decide (n=ops.size) || (Region.sinkB .any ops n && Region.chainB .any ops n)) &&
  Region.seqB .any ops (ops.size - n) n (Array.ofFn (n:=ops.size) fun i=> decide (i.1 < n)) &&
  ((List.range n).all fun j=> match ops[j]? with | some o=> o.after.toList.all (fun e=> !(Region.binds .any e) || decide (e.on < j)) | none=> false) &&
  ((List.range n).all fun i=> (List.range n).all fun j=> decide (i=j) || match ops[i]?,ops[j]? with
    | some oi,some oj=> (match oi.dst,oj.dst with | some d,some d'=> d !=d' | _,_=> true)
    | _,_=> false)
theorem iE: ∀ {l:List Edge} {k:Nat},k∈Edge.ons l→ ∃ e∈l,Region.binds .any e=true∧e.on=k
  | [],k,h=> by simp [Edge.ons] at h
  | e::l,k,h=> by
    simp only [Edge.ons] at h
    cases hb:Region.binds .any e with
    | true=>
      rw [hb] at h
      simp only [cond_true,List.mem_cons] at h
      rcases h with rfl | h
      · exact ⟨e,List.mem_cons_self,hb,rfl⟩
      obtain ⟨e',h1,h2,h3⟩:=iE h
      exact ⟨e',List.mem_cons_of_mem _ h1,h2,h3⟩
    | false=>
      rw [hb] at h
      obtain ⟨e',h1,h2,h3⟩:=iE (show k∈Edge.ons l from h)
      exact ⟨e',List.mem_cons_of_mem _ h1,h2,h3⟩
theorem gW {r:Option Nat} {md:Region.Mode} {P:Program} {ops:Array Oper} {Q':Exit→Act→World→Prop}: ∀ (l:List Oper) (k:Nat) (listed:Array Bool) (a:Act) (w:World),(∀ j,l[j]? =ops[k+j]?)→
    Region.seqB md ops l.length k listed=true→wpListIn (WF r) 0 P ops Q' l a w→wpAnyIn (WF r) 0 P md ops Q' l.length listed a w
  | [],_,_,_,_,_,hB,h=> ⟨by simpa [Region.seqB] using hB,h⟩
  | o::l,k,listed,a,w,hl,hB,h=> by
    have h0:ops[k]? =some o:=by simpa using (hl 0).symm
    simp only [List.length_cons,Region.seqB,Bool.and_eq_true,decide_eq_true_eq] at hB
    refine ⟨fun h1=> (by rw [hB.1] at h1;cases h1),fun i hi=> ?_⟩
    rw [hB.1] at hi
    have hik:i=k:=by simpa using hi
    subst hik
    have hw:wpOpIn (WF r) 0 P ops Q' i (wpListIn (WF r) 0 P ops Q' l) a w:=by unfold wpOpIn;simp only [h0];exact h
    exact wpOpIn_mono (fun a' w' h'=> gW l (i+1) _ a' w' (fun j=> by have:=hl (j+1);simpa [Nat.add_assoc,Nat.add_comm 1 j] using this) hB.2 h') hw

inductive pC (io:ay) (Φ:Slot→Prop) (P:Program) (all:List Oper) (W:List Nat) (I:List ay) (σ:St) (rs:List Res) (o:Oper):Res→Prop where
  | plain {r:Res} (hg:o.guard=none) (h: ∀ τ:St,Φ (τ.ob io)→gH P o (dO σ W I (r.2.map (·.1)) all rs (Edge.ons o.after.toList) τ) (r.app o.dst (dO σ W I (r.2.map (·.1)) all rs (Edge.ons o.after.toList) τ))):pC io Φ P all W I σ rs o r
  | yes {r:Res} {j d:Nat} {want:Bool} (hg:o.guard=some (j,want)) (hd:(all[j]?).bind (·.dst)=some d) (hv: ∀ τ:St,Φ (τ.ob io)→(dO σ W I (r.2.map (·.1)) all rs (Edge.ons o.after.toList) τ).eval (.tmp d)= .v (.bool want))
      (h: ∀ τ:St,Φ (τ.ob io)→gH P o (dO σ W I (r.2.map (·.1)) all rs (Edge.ons o.after.toList) τ) (r.app o.dst (dO σ W I (r.2.map (·.1)) all rs (Edge.ons o.after.toList) τ))):pC io Φ P all W I σ rs o r
  | no {j d:Nat} {want:Bool} {y:Value} (hg:o.guard=some (j,want)) (hd:(all[j]?).bind (·.dst)=some d) (hv: ∀ τ:St,Φ (τ.ob io)→(dO σ W I [] all rs (Edge.ons o.after.toList) τ).eval (.tmp d)= .v y) (hb:y≠ .bool want):pC io Φ P all W I σ rs o (.v undef,[])

def AnyOpsW (io:ay) (Φ:Slot→Prop) (P:Program) (all:List Oper) (W:List Nat) (I:List ay) (AA:List (List ay)) (σ:St) (Kont:List Res→Prop):List Oper→List Res→Prop
  | [],rs=> Kont rs
  | o::os,rs=> ∃ r,pC io Φ P all W (iK AA I rs.length) σ rs o r∧AnyOpsW io Φ P all W I AA σ Kont os (rs++[r])
theorem AnyOpsW.get {io:ay} {Φ:Slot→Prop} {P:Program} {all:List Oper} {W:List Nat} {I:List ay} {AA:List (List ay)} {σ:St} {Kont:List Res→Prop}: ∀ (os:List Oper) (rs0:List Res),AnyOpsW io Φ P all W I AA σ Kont os rs0→
    ∃ rs,rs.length=rs0.length+os.length∧rs.take rs0.length=rs0∧Kont rs∧ ∀ (j:Nat) (o:Oper) (r:Res),os[j]? =some o→rs[rs0.length+j]? =some r→pC io Φ P all W (iK AA I (rs0.length+j)) σ (rs.take (rs0.length+j)) o r
  | [],rs0,h=> ⟨rs0,by simp,by simp,h,by simp⟩
  | o::os,rs0,⟨r,h1,h2⟩=> by
    obtain ⟨rs,a,b,c,d⟩:=AnyOpsW.get os (rs0++[r]) h2
    simp only [List.length_append,List.length_cons,List.length_nil] at a b d
    have ht:rs.take rs0.length=rs0:=by
      have:=congrArg (fun l=> l.take rs0.length) b
      simpa [List.take_take] using this
    have hr:rs[rs0.length]? =some r:=by
      have:=congrArg (fun l=> l[rs0.length]?) b
      simp only [List.getElem?_take] at this
      rw [if_pos ab] at this
      rw [this];simp
    refine ⟨rs,by simp;omega,ht,c,fun j o' r' ho hr'=> ?_⟩
    cases j with
    | zero=>
      simp at ho;subst ho
      simp only [Nat.add_zero] at hr' ⊢
      rw [hr] at hr'
      obtain rfl:=Option.some.inj hr'
      rw [ht];exact h1
    | succ j=>
      have:=d j o' r' (by simpa using ho) (by rw [← hr'];congr 1;omega)
      rwa [show rs0.length+(0+1)+j=rs0.length+(j+1) by omega] at this

theorem zP (io:ay) (Φ:Slot→Prop) {rb:Bool} {P:Program} {Q:Exit→St→Prop} {σ:St} {id:Nat} {l:List Oper} (n:Nat) (W:List Nat) (I:List ay) (AA:List (List ay)) (hm:P.follows .mixedOrders=true) (hB:kE l.toArray n=true) (hW:(l.take n).filterMap (·.dst)=W) (hI:I.Nodup)
    (h0:Φ (σ.ob io)) (h:AnyOpsW io Φ P (l.take n) W I AA σ (fun rs=> ((fO rs=I∧nf (l.take n) rs 0 AA=true)∧ ∀ r∈rs,∀ c,(io,c)∈r.2→Φ c)∧DL rb P l.toArray Q (l.drop n) (cT (l.take n) rs (fun _=> true) 0 σ)) (l.take n) []):D rb P (.region id l.toArray true) Q σ:=by
  obtain ⟨rs,hrl,_,⟨⟨⟨hmd,hah⟩,hΦ⟩,hend⟩,hops⟩:=AnyOpsW.get _ _ h
  simp only [List.length_nil,Nat.zero_add] at hrl hops
  subst hmd;subst hW
  intro K a0 w0 hrd ⟨ι0,S0,R0⟩
  simp only [kE,Bool.and_eq_true,decide_eq_true_eq,Bool.or_eq_true,List.all_eq_true,List.mem_range] at hB
  obtain ⟨⟨⟨⟨hn,hsc⟩,hseq⟩,hedge⟩,hdst⟩:=hB
  have hsz:l.toArray.size=l.length:=by simp
  have htk:(l.take n).length=n:=by rw [List.length_take];omega
  rw [htk] at hrl
  have hgetT: ∀ (j:Nat) (o:Oper),j < n→l.toArray[j]? =some o→(l.take n)[j]? =some o:=by
    intro j o hj ho
    rw [List.getElem?_take,if_pos hj]
    simpa using ho
  have hd: ∀ (j:Nat) (oj:Oper),(l.take n)[j]? =some oj→ ∀ (i:Nat) (oi:Oper),(l.take n)[i]? =some oi→i≠j→ ∀ x,oj.dst=some x→oi.dst≠some x:=by
    intro j oj hj i oi hi hne x hx hx'
    have hjn:=(List.getElem?_eq_some_iff.1 hj).1
    have hin:=(List.getElem?_eq_some_iff.1 hi).1
    rw [htk] at hjn hin
    have h:=hdst i hin j hjn
    rw [List.getElem?_take,if_pos hjn] at hj
    rw [List.getElem?_take,if_pos hin] at hi
    have hi':l.toArray[i]? =some oi:=by simpa using hi
    have hj':l.toArray[j]? =some oj:=by simpa using hj
    rw [hi',hj'] at h
    simp [hne,hx,hx'] at h
  let stL:Array Bool→St:=fun listed=> cT (l.take n) rs (fun k=> listed.getD k false) 0 σ
  have halt: ∀ listed:Array Bool,Φ ((stL listed).ob io):=by
    intro listed
    by_cases hex: ∃ k r c,rs[k]? =some r∧listed.getD k false=true∧(io,c)∈r.2
    · obtain ⟨k,r,c,h2,h3,h4⟩:=hex
      have hkn:k < (l.take n).length:=by have:=(List.getElem?_eq_some_iff.1 h2).1;omega
      rw [show (stL listed).ob io=c from jc _ _ 0 σ k _ r (List.getElem?_eq_getElem hkn) h2 (by simpa using h3) (jw hI h2) h4 fun m r' hr' hne c' hc'=> hne (gq hI hr' h2 hc' h4)]
      exact hΦ r (List.mem_of_getElem? h2) c h4
    rw [show (stL listed).ob io=σ.ob io from gu _ _ 0 σ fun k o r h1 h2 h3 c hc=> hex ⟨k,r,c,h2,by simpa using h3,hc⟩]
    exact h0
  -- the state as the operation j may count on it
  have hmix: ∀ (listed:Array Bool) (j:Nat) (oj:Oper) (rj:Res),HeadInv .any l.toArray n listed→(l.take n)[j]? =some oj→rs[j]? =some rj→listed.getD j false=false→(∀ k∈Edge.ons oj.after.toList,listed.getD k false=true)→
      ∀ own:List ay,(∀ i,i∈own→ ∃ c,(i,c)∈rj.2)→
      dO σ ((l.take n).filterMap (·.dst)) (iK AA (fO rs) j) own (l.take n) (rs.take j) (Edge.ons oj.after.toList) (stL listed)=stL listed:=by
    intro listed j oj rj inv hoj hrj hun hdl own hown2
    refine St.eq (Eq.trans (b:=σ.n) rfl (ju _ _ _ _).symm) (fun t=> ?_) (fun i=> ?_) (Eq.trans (b:=σ.inc) rfl (fD _ _ _ _).symm) (Eq.trans (b:=σ.pin) rfl (fF _ _ _ _).symm)
    · simp only [dO]
      cases hdf:lX (l.take n) (rs.take j) (Edge.ons oj.after.toList) 0 t with
      | some a=>
        obtain ⟨k,o,r,h1,h2,h3,h4,h5⟩:=ln hdf
        rw [List.getElem?_take] at h2
        split at h2
        · simp only [Nat.zero_add] at h3
          rw [h5]
          exact (fJ _ _ 0 σ k o r h1 h2 (by simpa using hdl k h3) h4 fun i o' ho' hne=> hd k o h1 i o' ho' hne t h4).symm
        cases h2
      | none=>
        simp only
        cases hin:qX t ((l.take n).filterMap (·.dst)) with
        | true=> rfl
        | false=>
          simp only [cond_false]
          refine (eV _ _ 0 σ fun k o r ho hr hl hdo=> ?_).symm
          have:t∈(l.take n).filterMap (·.dst):=List.mem_filterMap.2 ⟨o,List.mem_of_getElem? ho,hdo⟩
          rw [inL_iff.2 this] at hin
          cases hin
    simp only [dO]
    cases hdo:nN (rs.take j) (Edge.ons oj.after.toList) 0 i with
    | some c=>
      obtain ⟨k,r,h2,h3,h4⟩:=pD hdo
      rw [List.getElem?_take] at h2
      split at h2
      · rename_i hkj
        simp only [Nat.zero_add] at h3
        have hkn:k < (l.take n).length:=by have:=(List.getElem?_eq_some_iff.1 hoj).1;omega
        exact (jc _ _ 0 σ k _ r (List.getElem?_eq_getElem hkn) h2 (by simpa using hdl k h3) (jw hI h2) h4 fun m r' hr' hne c' hc'=> hne (gq hI hr' h2 hc' h4)).symm
      cases h2
    | none=>
      simp only
      cases hc:(cj i (iK AA (fO rs) j) && !(cj i own)) with
      | true=> rfl
      | false=>
        simp only [cond_false]
        refine (gu _ _ 0 σ fun k o r ho hr hl c hc'=> ?_).symm
        have hmem:i∈fO rs:=ka hr hc'
        by_cases hik:i∈iK AA (fO rs) j
        case neg=>
          obtain ⟨s,os',r',c',a1,a2,a3,a4⟩:=pQ hah (GY hmem hik)
          have hks:=gq hI hr a2 hc' a3
          subst hks
          rw [ho] at a1
          obtain rfl:=Option.some.inj a1
          have hlook: ∀ (k:Nat) (o:Oper),(l.take n)[k]? =some o→l.toArray[k]? =some o:=fun k o ho=> by
            rw [List.getElem?_take] at ho
            split at ho
            · simpa using ho
            cases ho
          have step: ∀ (k m:Nat) (o:Oper),(l.take n)[k]? =some o→listed.getD k false=true→m∈Edge.ons o.after.toList→listed.getD m false=true:=fun k m o ho hl hm=> by
            obtain ⟨e,he,heb,hee⟩:=iE hm
            have h9:=inv.closed k o (hlook k o ho) hl e (by simpa using he) heb
            rwa [hee] at h9
          have hkl:listed.getD k false=true:=by simpa using hl
          simp only [ve,Nat.zero_add,Bool.or_eq_true,List.any_eq_true] at a4
          rcases a4 with a4 | ⟨m,a4,a5⟩
          · have h9:=step k j o ho hkl (inL_iff.1 a4)
            rw [h9] at hun
            cases hun
          have h8:=step k m o ho hkl a4
          cases ho2:(l.take n)[m]? with
          | none=> rw [ho2] at a5;cases a5
          | some o2=>
            rw [ho2] at a5
            have h9:=step m j o2 ho2 h8 (inL_iff.1 a5)
            rw [h9] at hun
            cases hun
        rw [inO_iff.2 hik] at hc
        simp only [Bool.true_and,Bool.not_eq_false'] at hc
        obtain ⟨c2,hc2⟩:=hown2 i (inO_iff.1 hc)
        have:=gq hI hr hrj hc' hc2
        subst this
        simp only [Nat.zero_add] at hl
        rw [hl] at hun
        cases hun
  have hset: ∀ (listed:Array Bool) (j:Nat) (oj:Oper) (rj:Res),j < listed.size→(l.take n)[j]? =some oj→rs[j]? =some rj→listed.getD j false=false→stL (listed.setIfInBounds j true)=rj.app oj.dst (stL listed):=by
    intro listed j oj rj hjs hoj hrj hun
    have hL: ∀ k,(listed.setIfInBounds j true).getD k false=if k=j then true else listed.getD k false:=by
      intro k
      by_cases h:k=j
      · subst h;simp [hjs]
      rw [if_neg h,getD_set_ne false (Ne.symm h)]
    refine St.eq ((ju _ _ _ _).trans ((yQ _ _ _).trans (ju _ _ _ _)).symm) (fun t=> ?_) (fun i=> ?_) ((fD _ _ _ _).trans ((sg _ _ _).trans (fD _ _ _ _)).symm) ((fF _ _ _ _).trans ((rS _ _ _).trans (fF _ _ _ _)).symm)
    · by_cases ht:oj.dst=some t
      · rw [ht,mW]
        exact fJ _ _ 0 σ j oj rj hoj hrj (by simp only [Nat.zero_add,hL,if_true]) ht fun i o' ho' hne=> hd j oj hoj i o' ho' hne t ht
      rw [nl _ _ _ ht]
      by_cases hex: ∃ k o r,(l.take n)[k]? =some o∧rs[k]? =some r∧listed.getD k false=true∧o.dst=some t
      · obtain ⟨k,o,r,h1,h2,h3,h4⟩:=hex
        have hkj:k≠j:=fun e=> by subst e;rw [h3] at hun;cases hun
        rw [show (stL (listed.setIfInBounds j true)).fr t=r.1 from fJ _ _ 0 σ k o r h1 h2 (by simp only [Nat.zero_add,hL,if_neg hkj];exact h3) h4 fun i o' ho' hne=> hd k o h1 i o' ho' hne t h4]
        exact (fJ _ _ 0 σ k o r h1 h2 (by simpa using h3) h4 fun i o' ho' hne=> hd k o h1 i o' ho' hne t h4).symm
      have hno: ∀ (k:Nat) (o:Oper) (r:Res),(l.take n)[k]? =some o→rs[k]? =some r→listed.getD k false=true→o.dst≠some t:=fun k o r h1 h2 h3 h4=> hex ⟨k,o,r,h1,h2,h3,h4⟩
      rw [show (stL (listed.setIfInBounds j true)).fr t=σ.fr t from eV _ _ 0 σ fun k o r h1 h2 h3 h4=> by
        simp only [Nat.zero_add,hL] at h3
        by_cases hkj:k=j
        · subst hkj;rw [hoj] at h1;obtain rfl:=Option.some.inj h1;exact ht h4
        rw [if_neg hkj] at h3;exact hno k o r h1 h2 h3 h4]
      exact (eV _ _ 0 σ fun k o r h1 h2 h3=> hno k o r h1 h2 (by simpa using h3)).symm
    by_cases ht: ∃ c,(i,c)∈rj.2
    · obtain ⟨c,hc⟩:=ht
      rw [nw _ _ _ (jw hI hrj) hc]
      exact jc _ _ 0 σ j oj rj hoj hrj (by simp only [Nat.zero_add,hL,if_true]) (jw hI hrj) hc fun m r' hr' hne c' hc'=> hne (gq hI hr' hrj hc' hc)
    rw [ni _ _ _ fun c hc=> ht ⟨c,hc⟩]
    by_cases hex: ∃ k r c,rs[k]? =some r∧listed.getD k false=true∧(i,c)∈r.2
    · obtain ⟨k,r,c,h2,h3,h4⟩:=hex
      have hkj:k≠j:=fun e=> by subst e;rw [h3] at hun;cases hun
      have hkn:k < (l.take n).length:=by have:=(List.getElem?_eq_some_iff.1 h2).1;omega
      rw [show (stL (listed.setIfInBounds j true)).ob i=c from jc _ _ 0 σ k _ r (List.getElem?_eq_getElem hkn) h2 (by simp only [Nat.zero_add,hL,if_neg hkj];exact h3) (jw hI h2) h4 fun m r' hr' hne c' hc'=> hne (gq hI hr' h2 hc' h4)]
      exact (jc _ _ 0 σ k _ r (List.getElem?_eq_getElem hkn) h2 (by simpa using h3) (jw hI h2) h4 fun m r' hr' hne c' hc'=> hne (gq hI hr' h2 hc' h4)).symm
    rw [show (stL (listed.setIfInBounds j true)).ob i=σ.ob i from gu _ _ 0 σ fun k o r h1 h2 h3 c hc=> by
      simp only [Nat.zero_add,hL] at h3
      by_cases hkj:k=j
      · subst hkj;rw [hrj] at h2;obtain rfl:=Option.some.inj h2;exact ht ⟨c,hc⟩
      rw [if_neg hkj] at h3;exact hex ⟨k,r,c,h2,h3,hc⟩]
    exact (gu _ _ 0 σ fun k o r h1 h2 h3 c hc=> hex ⟨k,r,c,h2,by simpa using h3,hc⟩).symm
  refine wpIn_region_any hm ?_
  have key: ∀ (f:Nat) (listed:Array Bool) (a':Act) (w':World),HeadInv .any l.toArray n listed→(((List.range n).filter fun i=> !listed.getD i true).length=f)→
      wb K (stL listed) a' w'→wpAnyIn (WF K.rd) 0 P .any l.toArray (Qr K Q) (f+(l.toArray.size - n)) listed a' w':=by
    intro f
    induction f with
    | zero=>
      intro listed a' w' inv hc hR
      have hall: ∀ i,i < n→listed.getD i true=true:=by
        intro i hi
        have h0:=List.eq_nil_of_length_eq_zero hc
        have:=List.filter_eq_nil_iff.1 h0 i (List.mem_range.2 hi)
        simpa using this
      have hcanon:listed=Array.ofFn (n:=l.toArray.size) fun i=> decide (i.1 < n):=by
        apply Array.ext
        · simp [inv.size]
        intro i h1 h2
        simp only [Array.getElem_ofFn]
        by_cases hi:i < n
        · have:=hall i hi
          simp [h1] at this
          simp [this,hi]
        have:=inv.tail i ab (by rw [inv.size] at h1;exact h1)
        simp [h1] at this
        simp [this,hi]
      rw [Nat.zero_add]
      have hfull:stL listed=cT (l.take n) rs (fun _=> true) 0 σ:=by
        have: ∀ (ops:List Oper) (rs:List Res) (k:Nat) (σ:St),k+ops.length≤n→cT ops rs (fun k=> listed.getD k false) k σ=cT ops rs (fun _=> true) k σ:=by
          intro ops
          induction ops with
          | nil=> intros;simp [cT]
          | cons o ops ih=>
            intro rs k σ hk
            cases rs with
            | nil=> simp [cT]
            | cons r rs=>
              simp only [cT]
              have h1:=hall k (by simp at hk;omega)
              have h2:listed.getD k false=true:=by
                have hks:k < listed.size:=by rw [inv.size];simp at hk;omega
                simp [hks] at h1 ⊢;exact h1
              rw [h2]
              exact ih rs (k+1) _ (by simp at hk;omega)
        exact this _ _ 0 _ ab
      rw [hfull] at hR
      have hw:=hend K a' w' hrd hR
      have hdl:(l.drop n).length=l.toArray.size - n:=by simp
      have:=gW (md:= .any) (Q':=Qr K Q) (l.drop n) n listed a' w' (fun j=> by simp [List.getElem?_drop]) (by rw [hdl,hcanon];exact hseq) hw
      rwa [hdl] at this
    | succ f ih=>
      intro listed a' w' inv hc hR
      have hex: ∃ i,i < n∧listed.getD i true=false:=by
        cases hL:(List.range n).filter fun i=> !listed.getD i true with
        | nil=> rw [hL] at hc;simp at hc
        | cons i r=>
          have:i∈(List.range n).filter fun i=> !listed.getD i true:=by rw [hL];exact List.mem_cons_self
          rw [List.mem_filter] at this
          exact ⟨i,List.mem_range.1 this.1,by simpa using this.2⟩
      have hnotail: ∀ t,n≤t→t∉Region.ready .any l.toArray listed:=by
        intro t ht
        rcases hsc with he | ⟨hsk,hch⟩
        · intro hr
          obtain ⟨_,ot,hot,_⟩:=mem_ready.1 hr
          have:=(Array.getElem?_eq_some_iff.1 hot).1
          omega
        by_cases hlt:n < l.toArray.size
        · obtain ⟨i,hi,hun⟩:=hex
          exact tail_waits hsk hch hlt inv _ i rfl hi hun t ht
        intro hr
        obtain ⟨_,ot,hot,_⟩:=mem_ready.1 hr
        have:=(Array.getElem?_eq_some_iff.1 hot).1
        omega
      have hfirst: ∀ i,i < n→listed.getD i true=false→ ∃ k,k∈Region.ready .any l.toArray listed:=by
        intro i
        induction i using Nat.strongRecOn with
        | _ i ihi=>
          intro hi hun
          by_cases hp: ∃ k,k < i∧listed.getD k true=false
          · obtain ⟨k,hk,hku⟩:=hp
            exact ihi k hk ab hku
          have hlt:i < l.toArray.size:=by omega
          refine ⟨i,mem_ready.2 ⟨hun,l.toArray[i],Array.getElem?_eq_getElem hlt,fun e he heb=> ?_⟩⟩
          have h1:=hedge i hi
          rw [Array.getElem?_eq_getElem hlt] at h1
          have h2:=(List.all_eq_true.1 h1) e (by simpa using he)
          rw [heb] at h2
          simp only [Bool.not_true,Bool.false_or,decide_eq_true_eq] at h2
          have h3:listed.getD e.on true=true:=by
            cases hx:listed.getD e.on true with
            | true=> rfl
            | false=> exact absurd ⟨e.on,h2,hx⟩ hp
          have h4:e.on < listed.size:=by rw [inv.size];omega
          simp [h4] at h3 ⊢
          exact h3
      rw [show f+1+(l.toArray.size - n)=(f+(l.toArray.size - n))+1 by omega]
      refine ⟨fun h0=> ?_,fun j hj=> ?_⟩
      · obtain ⟨i,hi,hun⟩:=hex
        obtain ⟨k,hk⟩:=hfirst i hi hun
        rw [h0] at hk
        cases hk
      have hjn:j < n:=by
        rcases Nat.lt_or_ge j n with h | h
        · exact h
        exact absurd hj (hnotail j h)
      obtain ⟨hjun,oj,hoj,hall⟩:=mem_ready.1 hj
      have hojT:=hgetT j oj hjn hoj
      have hjs:j < listed.size:=by rw [inv.size];omega
      have hjr:j < rs.length:=by omega
      have hrj:rs[j]? =some rs[j]:=List.getElem?_eq_getElem hjr
      have hunf:listed.getD j false=false:=getD_both hjun
      have hO:=hops j oj rs[j] hojT hrj
      have hons: ∀ k∈Edge.ons oj.after.toList,listed.getD k false=true:=by
        intro k hk
        obtain ⟨e,he,heb,rfl⟩:=iE hk
        exact hall e (by simpa using he) heb
      have hcnt:((List.range n).filter fun i=> !(listed.setIfInBounds j true).getD i true).length=f:=by
        have e1:((List.range n).filter fun i=> !(listed.setIfInBounds j true).getD i true)=((List.range n).filter fun i=> !listed.getD i true).filter fun i=> i !=j:=by
          rw [List.filter_filter]
          apply List.filter_congr
          intro i _
          by_cases hij:j=i
          · subst hij;simp [hjs]
          rw [getD_set_ne true hij];simp [Ne.symm hij]
        rw [e1]
        have hnd:((List.range n).filter fun i=> !listed.getD i true).Nodup:=List.Pairwise.filter _ List.nodup_range
        have hmem:j∈(List.range n).filter fun i=> !listed.getD i true:=by rw [List.mem_filter];exact ⟨List.mem_range.2 hjn,by simpa using hjun⟩
        have:=List.length_erase_of_mem hmem
        rw [hnd.erase_eq_filter] at this
        rw [this,hc]
        rfl
      have hnext: ∀ (v:Value) (w'':World),wb K (rs[j].app oj.dst (stL listed)) (a'.put oj.dst v) w''→
          wpAnyIn (WF K.rd) 0 P .any l.toArray (Qr K Q) (f+(l.toArray.size - n)) (listed.setIfInBounds j true) (a'.put oj.dst v) w'':=by
        intro v w'' hr
        refine ih _ _ w'' (inv.set hj hjn) hcnt ?_
        rw [hset listed j oj rs[j] hjs hojT hrj hunf];exact hr
      have hyl: ∀ (g d:Nat),((l.take n)[g]?).bind (·.dst)=some d→(l.toArray[g]?).bind (·.dst)=some d:=by
        intro g d hgd
        rw [List.getElem?_take] at hgd
        split at hgd
        · simpa using hgd
        cases hgd
      obtain ⟨ι',S',R'⟩:=hR
      have own2: ∀ i,i∈(rs[j]).2.map (·.1)→ ∃ c,(i,c)∈(rs[j]).2:=fun i h=> by
        obtain ⟨⟨i',c⟩,h1,rfl⟩:=List.mem_map.1 h
        exact ⟨c,h1⟩
      have stepR:(∀ τ:St,Φ (τ.ob io)→gH P oj (dO σ ((l.take n).filterMap (·.dst)) (iK AA (fO rs) j) ((rs[j]).2.map (·.1)) (l.take n) (rs.take j) (Edge.ons oj.after.toList) τ) ((rs[j]).app oj.dst (dO σ ((l.take n).filterMap (·.dst)) (iK AA (fO rs) j) ((rs[j]).2.map (·.1)) (l.take n) (rs.take j) (Edge.ons oj.after.toList) τ)))→
          fl P oj a'.eval w' fun v w''=> wb K (rs[j].app oj.dst (stL listed)) (a'.put oj.dst v) w'':=by
        intro hst
        have:=hst (stL listed) (halt listed)
        rw [hmix listed j oj rs[j] inv hojT hrj hunf hons _ own2] at this
        exact this K ι' S' a' w' R'
      unfold wpOpIn
      simp only [hoj]
      generalize hrs:rs[j]=rj at hO
      cases hO with
      | plain hg hst=>
        rw [if_pos (by simp [Region.wanted,hg])]
        subst hrs
        exact dt (stepR hst) fun v w'' hp=> hnext v w'' hp
      | yes hg hgd hv hst=>
        subst hrs
        have hv':=hv (stL listed) (halt listed)
        rw [hmix listed j oj rs[j] inv hojT hrj hunf hons _ own2] at hv'
        rw [if_pos (by simp [Region.wanted,hg,lJ R' (hyl _ _ hgd) hv'])]
        exact dt (stepR hst) fun v w'' hp=> hnext v w'' hp
      | no hg hgd hv hb=>
        have hv':=hv (stL listed) (halt listed)
        rw [hmix listed j oj rs[j] inv hojT hrj hunf hons [] (fun i h=> by cases h)] at hv'
        rw [if_neg (by simp [Region.wanted,hg,kt R' (hyl _ _ hgd) hv' hb])]
        refine ⟨fun _ _=> trivial,hnext _ _ ?_⟩
        rw [hrs]
        exact ⟨ι',S',R'.put oj.dst (av:= .v undef) .v fun i hi=> by cases hi⟩
  have inv0:HeadInv .any l.toArray n (Array.replicate l.toArray.size false):=
    ⟨by simp,fun j oj _ hl=> (by rw [getD_replicate_false] at hl;cases hl),fun t _ ht=> getD_in (by simpa using ht) (getD_replicate_false _ _)⟩
  have hcnt0:((List.range n).filter fun i=> !(Array.replicate l.toArray.size false).getD i true).length=n:=by
    have:((List.range n).filter fun i=> !(Array.replicate l.toArray.size false).getD i true)=List.range n:=by
      apply List.filter_eq_self.2
      intro i hi
      have:i < l.toArray.size:=by have:=List.mem_range.1 hi;omega
      simp only [getD_in (listed:=Array.replicate l.toArray.size false) (i:=i) (by simpa using this) (getD_replicate_false _ _)];rfl
    rw [this];simp
  have hst0:stL (Array.replicate l.toArray.size false)=σ:=by
    refine St.eq (ju _ _ _ _) (fun t=> eV _ _ _ _ fun j o r _ _ hl=> ?_) (fun i=> gu _ _ _ _ fun j o r _ _ hl=> ?_) (fD _ _ _ _) (fF _ _ _ _)
    · simp only [getD_replicate_false] at hl;cases hl
    simp only [getD_replicate_false] at hl;cases hl
  have:=key n _ a0 w0.drew inv0 hcnt0 (by rw [hst0];exact ⟨ι0,S0,R0.drew⟩)
  rw [show n+(l.toArray.size - n)=l.toArray.size by omega] at this
  exact this

theorem AnyOps.toW {P:Program} {all:List Oper} {W:List Nat} {I:List ay} {AA:List (List ay)} {σ:St} {K K':List Res→Prop} (hk: ∀ rs,K rs→K' rs): ∀ {os:List Oper} {rs:List Res},AnyOps P all W I AA σ K os rs→AnyOpsW (0,0) (fun _=> True) P all W I AA σ K' os rs
  | [],_,h=> hk _ h
  | o::os,rs,⟨r,h1,h2⟩=> ⟨r,(match h1 with
    | .plain hg h=> .plain hg fun τ _=> h τ
    | .yes hg hd hv h=> .yes hg hd (fun τ _=> hv τ) fun τ _=> h τ
    | .no hg hd hv hb=> .no hg hd (fun τ _=> hv τ) hb),AnyOps.toW hk h2⟩
theorem FA {rb:Bool} {P:Program} {Q:Exit→St→Prop} {σ:St} {id:Nat} {l:List Oper} (n:Nat) (W:List Nat) (I:List ay) (AA:List (List ay)) (hm:P.follows .mixedOrders=true) (hB:kE l.toArray n=true) (hW:(l.take n).filterMap (·.dst)=W) (hI:I.Nodup)
    (h:AnyOps P (l.take n) W I AA σ (fun rs=> (fO rs=I∧nf (l.take n) rs 0 AA=true)∧DL rb P l.toArray Q (l.drop n) (cT (l.take n) rs (fun _=> true) 0 σ)) (l.take n) []):D rb P (.region id l.toArray true) Q σ:=zP (0,0) (fun _=> True) n W I AA hm hB hW hI trivial (AnyOps.toW (fun _ h=> ⟨⟨h.1,fun _ _ _ _=> trivial⟩,h.2⟩) h)
def LD (n:Nat) (args:List AV) (obs:List (ay×Cells)):St:=⟨n,fun t=> args.getD t .dead,jn obs,fun _=> false,fun _=> none⟩
theorem Spec.ofN {P:Program} {f:FuncId} {fn:Func} {c:Code} {args:List AV} {obs:List (ay×Cells)} {σ':St} {n:Nat} (hf:P.funcs[f]? =some fn) (hb:fn.body=some c) (hn:fn.ntmps=n) (hl:Nat.ble args.length n=true)
    (h:D true P c (jh P fn σ') (LD n args obs)):Spec P f (aQ args obs) σ':=by
  subst hn
  refine Spec.of hf hb (Nat.le_of_ble_eq_true hl) (fun t ht=> ?_) h
  simp only [aQ] at ht ⊢
  rw [List.getD_eq_getElem?_getD,List.getElem?_eq_none ht];rfl
end Go.Proofs.YtmjnackchaahbaaGreat

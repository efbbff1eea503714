/- part 4 -/
import Derived.Test.YtmjnackchaahbaaDfZ3
set_option linter.unusedSimpArgs false
set_option linter.unusedVariables false
namespace Go.Proofs.Ytmjnackchaahbaa
open Go.RowKit

def Stp (P:Program) (d:Option Tmp) (op:Op) (ty:TypeId) (σ σ':St):Prop:= ∀ o:Oper,o.dst=d→o.op=op→o.type=ty→bp P o σ σ'
section
variable {P:Program} {σ:St} {av:AV} {t e T:TypeId} {agg:Bool} {z:List Value} {size bytes:Nat} {t':TypeId} {a b:Int} {k:IntKind}
theorem au {dd:Option Tmp} {ty:TypeId} (x:Operand) (hx:σ.eval x=av):Stp P dd (.move x) ty σ ((σ.put dd av)):=
  fun o hd ho ht=> by subst hd;subst ht;exact pP (ho:=ho) (x:=x) (hx:=hx)
theorem aM {dd:Option Tmp} {ty:TypeId} (x:Operand) (hx:σ.eval x=av):Stp P dd (.assign x) ty σ ((σ.put dd av)):=
  fun o hd ho ht=> by subst hd;subst ht;exact pF (ho:=ho) (x:=x) (hx:=hx)
theorem bB {dd:Option Tmp} {ty:TypeId} {b:Bool} (c x y:Operand) (hc:σ.eval c= .v (.bool b)) (hx:σ.eval (if b then x else y)=av):Stp P dd (.pick c x y) ty σ ((σ.put dd av)):=
  fun o hd ho ht=> by subst hd;subst ht;exact mT (ho:=ho) (b:=b) (c:=c) (x:=x) (y:=y) (hc:=hc) (hx:=hx)
theorem aR {dd:Option Tmp} {ty:TypeId} (x:Operand) {id:aw} {off:Nat} {oc:Cells} (hx:σ.eval x= .ptr id off) (hid:σ.ob id= .obj oc):Stp P dd (.nilCheck x) ty σ ((σ.put dd (.ptr id off))):=
  fun o hd ho ht=> by subst hd;subst ht;exact mK (ho:=ho) (x:=x) (id:=id) (off:=off) (oc:=oc) (hx:=hx) (hid:=hid)
theorem aA {dd:Option Tmp} {ty:TypeId} {T:TypeId} {f off:Nat} (x:Operand) (F:ej P T f off) {id:aw} {of0 of1:Nat} {oc:Cells} (hx:σ.eval x= .ptr id of0) (hid:σ.ob id= .obj oc) (he:of0+off=of1):Stp P dd (.fieldAddr T x f) ty σ ((σ.put dd (.ptr id of1))):=
  fun o hd ho ht=> by subst hd;subst ht;exact mS (ho:=ho) (T:=T) (f:=f) (off:=off) (x:=x) (F:=F) (id:=id) (of0:=of0) (of1:=of1) (oc:=oc) (hx:=hx) (hid:=hid) (he:=he)
theorem aC {dd:Option Tmp} {ty:TypeId} {T:TypeId} {f off:Nat} (x:Operand) (F:ej P T f off) {of0 of1:Nat} {xs:List PV} (hx:σ.eval x= .fp of0 xs) (he:of0+off=of1):Stp P dd (.fieldAddr T x f) ty σ ((σ.put dd (.fp of1 xs))):=
  fun o hd ho ht=> by subst hd;subst ht;exact nd (ho:=ho) (T:=T) (f:=f) (off:=off) (x:=x) (F:=F) (of0:=of0) (of1:=of1) (xs:=xs) (hx:=hx) (he:=he)
theorem cV {dd:Option Tmp} {ty:TypeId} {T e:TypeId} {size bytes:Nat} {z:List Value} (x y:Operand) (E:Elem P T e size bytes z) {n:Nat} {xs:List PV} (hx:σ.eval x= .sl n xs) {k:IntKind} {I:Int} (hy:σ.eval y= .v (.int k I)) (j:Nat) (hI:I=(j:Int)) (hj:j < n) (hne:0 < xs.length) {off:Nat} (he:j*size=off):Stp P dd (.indexAddr T x y) ty σ ((σ.put dd (.fp off xs))):=
  fun o hd ho ht=> by subst hd;subst ht;exact nM (ho:=ho) (T:=T) (e:=e) (size:=size) (bytes:=bytes) (z:=z) (x:=x) (y:=y) (E:=E) (n:=n) (xs:=xs) (hx:=hx) (k:=k) (I:=I) (hy:=hy) (j:=j) (hI:=hI) (hj:=hj) (hne:=hne) (off:=off) (he:=he)
theorem bL {dd:Option Tmp} {ty:TypeId} {T e e':TypeId} {size bytes sz:Nat} {z:List Value} (x y:Operand) (E:Elem P T e size bytes z) {id:aw} {of0 n:Nat} {xs:List PV} (hx:σ.eval x= .ref id of0 n) (hid:σ.ob id= .obj (.row e' sz xs)) {k:IntKind} {I:Int} (hy:σ.eval y= .v (.int k I)) (j:Nat) (hI:I=(j:Int)) (hj:j < n) {off:Nat} (he:of0+j*size=off):Stp P dd (.indexAddr T x y) ty σ ((σ.put dd (.ptr id off))):=
  fun o hd ho ht=> by subst hd;subst ht;exact oR (ho:=ho) (T:=T) (e:=e) (e':=e') (size:=size) (bytes:=bytes) (sz:=sz) (z:=z) (x:=x) (y:=y) (E:=E) (id:=id) (of0:=of0) (n:=n) (xs:=xs) (hx:=hx) (hid:=hid) (k:=k) (I:=I) (hy:=hy) (j:=j) (hI:=hI) (hj:=hj) (off:=off) (he:=he)
theorem aK {dd:Option Tmp} {ty:TypeId} (x:Operand) (T:Ty P t false z) {id:aw} {off:Nat} (hx:σ.eval x= .ptr id off) {e:TypeId} {xs:List AV} (hid:σ.ob id= .obj (.box e xs)) (hv:xs[off]? =some av):Stp P dd (.load t x) ty σ ((σ.put dd av)):=
  fun o hd ho ht=> by subst hd;subst ht;exact nR (ho:=ho) (x:=x) (T:=T) (id:=id) (off:=off) (hx:=hx) (e:=e) (xs:=xs) (hid:=hid) (hv:=hv)
theorem aN {dd:Option Tmp} {ty:TypeId} (x:Operand) (T:Ty P t false z) {id:aw} {off:Nat} (hx:σ.eval x= .ptr id off) {e:TypeId} {sz:Nat} {xs:List PV} (hid:σ.ob id= .obj (.row e sz xs)) {p:PV} (hv:xs[off]? =some p) (ha:p.up=av):Stp P dd (.load t x) ty σ ((σ.put dd av)):=
  fun o hd ho ht=> by subst hd;subst ht;exact oB (ho:=ho) (x:=x) (T:=T) (id:=id) (off:=off) (hx:=hx) (e:=e) (sz:=sz) (xs:=xs) (hid:=hid) (p:=p) (hv:=hv) (ha:=ha)
theorem eX {dd:Option Tmp} {ty:TypeId} (x:Operand) (T:Ty P t false z) {off:Nat} {xs:List PV} (hx:σ.eval x= .fp off xs) {p:PV} (hv:xs[off]? =some p) (ha:p.up=av):Stp P dd (.load t x) ty σ ((σ.put dd av)):=
  fun o hd ho ht=> by subst hd;subst ht;exact oy (ho:=ho) (x:=x) (T:=T) (off:=off) (xs:=xs) (hx:=hx) (p:=p) (hv:=hv) (ha:=ha)
theorem bl {dd:Option Tmp} {ty:TypeId} (x:Operand) (T:Ty P t true z) {id:aw} {off:Nat} (hx:σ.eval x= .ptr id off) {e:TypeId} {xs:List AV} (hid:σ.ob id= .obj (.box e xs)) {ys:List AV} (hy:(xs.drop off).take z.length=ys) (hl:ys.length=z.length):Stp P dd (.load t x) ty σ ((σ.put dd (.agg ys))):=
  fun o hd ho ht=> by subst hd;subst ht;exact nq (ho:=ho) (x:=x) (T:=T) (id:=id) (off:=off) (hx:=hx) (e:=e) (xs:=xs) (hid:=hid) (ys:=ys) (hy:=hy) (hl:=hl)
theorem bm {dd:Option Tmp} {ty:TypeId} (x:Operand) (T:Ty P t true z) {id:aw} {off:Nat} (hx:σ.eval x= .ptr id off) {e:TypeId} {sz:Nat} {xs:List PV} (hid:σ.ob id= .obj (.row e sz xs)) {ys:List AV} (hy:PV.ups ((xs.drop off).take z.length)=ys) (hl:ys.length=z.length):Stp P dd (.load t x) ty σ ((σ.put dd (.agg ys))):=
  fun o hd ho ht=> by subst hd;subst ht;exact mC (ho:=ho) (x:=x) (T:=T) (id:=id) (off:=off) (hx:=hx) (e:=e) (sz:=sz) (xs:=xs) (hid:=hid) (ys:=ys) (hy:=hy) (hl:=hl)
theorem bg {dd:Option Tmp} {ty:TypeId} (x:Operand) (T:Ty P t true z) {off:Nat} {xs:List PV} (hx:σ.eval x= .fp off xs) {ys:List AV} (hy:PV.ups ((xs.drop off).take z.length)=ys) (hl:ys.length=z.length):Stp P dd (.load t x) ty σ ((σ.put dd (.agg ys))):=
  fun o hd ho ht=> by subst hd;subst ht;exact ny (ho:=ho) (x:=x) (T:=T) (off:=off) (xs:=xs) (hx:=hx) (ys:=ys) (hy:=hy) (hl:=hl)
theorem el {dd:Option Tmp} {ty:TypeId} {T:TypeId} {f off sz:Nat} (x:Operand) (F:Fvl P T f off false sz) {xs:List AV} (hx:σ.eval x= .agg xs) (hv:xs[off]? =some av):Stp P dd (.field T x f) ty σ ((σ.put dd av)):=
  fun o hd ho ht=> by subst hd;subst ht;exact oX (ho:=ho) (T:=T) (f:=f) (off:=off) (sz:=sz) (x:=x) (F:=F) (xs:=xs) (hx:=hx) (hv:=hv)
theorem kV {dd:Option Tmp} {ty:TypeId} {T:TypeId} {f off sz:Nat} (x:Operand) (F:Fvl P T f off true sz) {xs:List AV} (hx:σ.eval x= .agg xs) {ys:List AV} (hy:(xs.drop off).take sz=ys) (hl:ys.length=sz):Stp P dd (.field T x f) ty σ ((σ.put dd (.agg ys))):=
  fun o hd ho ht=> by subst hd;subst ht;exact nV (ho:=ho) (T:=T) (f:=f) (off:=off) (sz:=sz) (x:=x) (F:=F) (xs:=xs) (hx:=hx) (ys:=ys) (hy:=hy) (hl:=hl)
theorem cL {dd:Option Tmp} {ty:TypeId} {T e:TypeId} {size bytes:Nat} (x:Operand) (E:Elem P T e size bytes z) {n:Nat} {xs:List PV} (hx:σ.eval x= .sl n xs):Stp P dd (.call { callee:= .builtin .len,args:= #[x],argTypes:= #[T] }) ty σ ((σ.put dd (.v (.int .i64 (n:Int))))):=
  fun o hd ho ht=> by subst hd;subst ht;exact mF (ho:=ho) (T:=T) (e:=e) (size:=size) (bytes:=bytes) (x:=x) (E:=E) (n:=n) (xs:=xs) (hx:=hx)
theorem ip {dd:Option Tmp} {ty:TypeId} {T e:TypeId} {size bytes:Nat} (x:Operand) (E:Elem P T e size bytes z) (hx:σ.eval x= .v (.slice none 0 0)):Stp P dd (.call { callee:= .builtin .len,args:= #[x],argTypes:= #[T] }) ty σ ((σ.put dd (.v (.int .i64 0)))):=
  fun o hd ho ht=> by subst hd;subst ht;exact mY (ho:=ho) (T:=T) (e:=e) (size:=size) (bytes:=bytes) (x:=x) (E:=E) (hx:=hx)
theorem dO {dd:Option Tmp} {ty:TypeId} {T e e':TypeId} {size bytes sz:Nat} (x:Operand) (E:Elem P T e size bytes z) {id:aw} {off n:Nat} {xs:List PV} (hx:σ.eval x= .ref id off n) (hid:σ.ob id= .obj (.row e' sz xs)):Stp P dd (.call { callee:= .builtin .len,args:= #[x],argTypes:= #[T] }) ty σ ((σ.put dd (.v (.int .i64 (n:Int))))):=
  fun o hd ho ht=> by subst hd;subst ht;exact mM (ho:=ho) (T:=T) (e:=e) (e':=e') (size:=size) (bytes:=bytes) (sz:=sz) (x:=x) (E:=E) (id:=id) (off:=off) (n:=n) (xs:=xs) (hx:=hx) (hid:=hid)
theorem bb {dd:Option Tmp} {ty:TypeId} (id:aw) (T:Ty P e agg z) (hid:σ.ob id= .free) {xs:List AV} (hx:z.map AV.v=xs):Stp P dd (.alloc e) ty σ (((σ.setOb id (.obj (.box e xs))).put dd (.ptr id 0))):=
  fun o hd ho ht=> by subst hd;subst ht;exact mc (ho:=ho) (id:=id) (T:=T) (hid:=hid) (xs:=xs) (hx:=hx)
theorem cC {dd:Option Tmp} {ty:TypeId} (id:aw) (x:Operand) (hid:σ.ob id= .free) {xs:List AV} (hx:(σ.eval x).cells=some xs):Stp P dd (.box e x) ty σ (((σ.setOb id (.obj (.box e xs))).put dd (.ptr id 0))):=
  fun o hd ho ht=> by subst hd;subst ht;exact ou (ho:=ho) (id:=id) (x:=x) (hid:=hid) (xs:=xs) (hx:=hx)
theorem aT {dd:Option Tmp} {ty:TypeId} (x y:Operand) (T:Ty P t agg z) {id:aw} {off:Nat} (hx:σ.eval x= .ptr id off) {e:TypeId} {xs:List AV} (hid:σ.ob id= .obj (.box e xs)) {vs:List AV} (hv:(σ.eval y).cells=some vs) (hl:vs.length=z.length) (hfit:off+vs.length≤xs.length) {ys:List AV} (hy:cQ xs off vs=ys):Stp P dd (.store t x y) ty σ (((σ.setOb id (.obj (.box e ys))).put dd .dead)):=
  fun o hd ho ht=> by subst hd;subst ht;exact oG (ho:=ho) (x:=x) (y:=y) (T:=T) (id:=id) (off:=off) (hx:=hx) (e:=e) (xs:=xs) (hid:=hid) (vs:=vs) (hv:=hv) (hl:=hl) (hfit:=hfit) (ys:=ys) (hy:=hy)
theorem jL {dd:Option Tmp} {ty:TypeId} (x y:Operand) (T:Ty P t agg z) {id:aw} {off:Nat} (hx:σ.eval x= .ptr id off) {e:TypeId} {sz:Nat} {xs:List PV} (hid:σ.ob id= .obj (.row e sz xs)) {ys0:List AV} (hv:(σ.eval y).cells=some ys0) {vs:List PV} (hd:eo ys0=some vs) (hl:vs.length=z.length) (hfit:off+vs.length≤xs.length) {ys:List PV} (hy:cQ xs off vs=ys):Stp P dd (.store t x y) ty σ (((σ.setOb id (.obj (.row e sz ys))).put dd .dead)):=
  fun o hd ho ht=> by subst hd;subst ht;exact oQ (ho:=ho) (x:=x) (y:=y) (T:=T) (id:=id) (off:=off) (hx:=hx) (e:=e) (sz:=sz) (xs:=xs) (hid:=hid) (ys0:=ys0) (hv:=hv) (vs:=vs) (hd:=hd) (hl:=hl) (hfit:=hfit) (ys:=ys) (hy:=hy)
theorem jV {dd:Option Tmp} {ty:TypeId} (id:aw) (x y:Operand) (E:Elem P T e size bytes z) {kl kc:IntKind} {N M:Int} (hx:σ.eval x= .v (.int kl N)) (hy:σ.eval y= .v (.int kc M)) (n:Nat) (hN:N=(n:Int)) (hM:M=(n:Int)) (hb:n*bytes≤140737488355328) (hid:σ.ob id= .free) {xs:List PV} (hxs:(rep n z).map PV.v=xs):Stp P dd (Op.makeSlice T x y) ty σ (((σ.setOb id (.obj (.row e size xs))).put dd (.ref id 0 n))):=
  fun o hd ho ht=> by subst hd;subst ht;exact pw (ho:=ho) (id:=id) (x:=x) (y:=y) (E:=E) (kl:=kl) (kc:=kc) (N:=N) (M:=M) (hx:=hx) (hy:=hy) (n:=n) (hN:=hN) (hM:=hM) (hb:=hb) (hid:=hid) (xs:=xs) (hxs:=hxs)
theorem ml {dd:Option Tmp} {ty:TypeId} (id':aw) (s x:Operand) (E:Elem P T e size bytes z) {id:aw} {n:Nat} {xs:List PV} (hs:σ.eval s= .ref id 0 n) (hid:σ.ob id= .obj (.row e size xs)) (hl:n*size=xs.length) {m:Nat} {news:List PV} (hx:SrcAV σ (σ.eval x) size m news) (hb:(n+m)*bytes≤140737488355328) (hid':σ.ob id'= .free) {ys:List PV} (hy:xs++news=ys) {k:Nat} (hk:n+m=k):Stp P dd (.call { callee:= .builtin .append,args:= #[s,x],argTypes:= #[T,T] }) ty σ (((((σ.setOb id .gone).setOb id' (.obj (.row e size ys))).setInc id' (σ.inc id)).put dd (.ref id' 0 k))):=
  fun o hd ho ht=> by subst hd;subst ht;exact pH (ho:=ho) (id':=id') (s:=s) (x:=x) (E:=E) (id:=id) (n:=n) (xs:=xs) (hs:=hs) (hid:=hid) (hl:=hl) (m:=m) (news:=news) (hx:=hx) (hb:=hb) (hid':=hid') (ys:=ys) (hy:=hy) (k:=k) (hk:=hk)
theorem nO {dd:Option Tmp} {ty:TypeId} (id':aw) (s x:Operand) (E:Elem P T e size bytes z) (hs:σ.eval s= .v (.slice none 0 0)) {m:Nat} {news:List PV} (hx:SrcAV σ (σ.eval x) size m news) (hb:m*bytes≤140737488355328) (hid':σ.ob id'= .free):Stp P dd (.call { callee:= .builtin .append,args:= #[s,x],argTypes:= #[T,T] }) ty σ (((σ.setOb id' (.obj (.row e size news))).put dd (.ref id' 0 m))):=
  fun o hd ho ht=> by subst hd;subst ht;exact ox (ho:=ho) (id':=id') (s:=s) (x:=x) (E:=E) (hs:=hs) (m:=m) (news:=news) (hx:=hx) (hb:=hb) (hid':=hid')
theorem pB {dd:Option Tmp} {ty:TypeId} {sT:TypeId} (d s:Operand) (E:Elem P T e 1 bytes z) {id:aw} {n:Nat} {xs:List PV} (hd:σ.eval d= .ref id 0 n) (hid:σ.ob id= .obj (.row e 1 xs)) (hl:n=xs.length) {m:Nat} {news:List PV} (hx:SrcAV σ (σ.eval s) 1 m news) {ys:List PV} (hy:news.take n++xs.drop m=ys) {k:Nat} (hk:min m n=k):Stp P dd (.call { callee:= .builtin .copy,args:= #[d,s],argTypes:= #[T,sT] }) ty σ (((σ.setOb id (.obj (.row e 1 ys))).put dd (.v (.int .i64 (k:Int))))):=
  fun o hd ho ht=> by subst hd;subst ht;exact pE (ho:=ho) (sT:=sT) (d:=d) (s:=s) (E:=E) (id:=id) (n:=n) (xs:=xs) (hd:=hd) (hid:=hid) (hl:=hl) (m:=m) (news:=news) (hx:=hx) (ys:=ys) (hy:=hy) (k:=k) (hk:=hk)
theorem nQ {dd:Option Tmp} {ty:TypeId} (x:Operand) (lo hi:Option Operand) (E:Elem P T e size bytes z) {n:Nat} {xs:List PV} (hx:σ.eval x= .sl n xs) (lv hv:Nat) (hl:Bnd σ 0 lo lv) (hh:Bnd σ n hi hv) (h1:lv≤hv) (h2:hv≤n) {ys:List PV} (hy:(xs.drop (lv*size)).take ((hv - lv)*size)=ys) {k:Nat} (hk:hv - lv=k):Stp P dd (.slice T x lo hi none) ty σ ((σ.put dd (.sl k ys))):=
  fun o hd ho ht=> by subst hd;subst ht;exact nW (ho:=ho) (x:=x) (lo:=lo) (hi:=hi) (E:=E) (n:=n) (xs:=xs) (hx:=hx) (lv:=lv) (hv:=hv) (hl:=hl) (hh:=hh) (h1:=h1) (h2:=h2) (ys:=ys) (hy:=hy) (k:=k) (hk:=hk)
theorem oO {dd:Option Tmp} {ty:TypeId} (x:Operand) (lo hi:Option Operand) (E:Elem P T e size bytes z) {id:aw} {of0 n:Nat} {xs:List PV} (hx:σ.eval x= .ref id of0 n) (hid:σ.ob id= .obj (.row e size xs)) (lv hv:Nat) (hl:Bnd σ 0 lo lv) (hh:Bnd σ n hi hv) (h1:lv≤hv) (h2:hv≤n) {off:Nat} (hoff:of0+lv*size=off) {k:Nat} (hk:hv - lv=k):Stp P dd (.slice T x lo hi none) ty σ ((σ.put dd (.ref id off k))):=
  fun o hd ho ht=> by subst hd;subst ht;exact pe (ho:=ho) (x:=x) (lo:=lo) (hi:=hi) (E:=E) (id:=id) (of0:=of0) (n:=n) (xs:=xs) (hx:=hx) (hid:=hid) (lv:=lv) (hv:=hv) (hl:=hl) (hh:=hh) (h1:=h1) (h2:=h2) (off:=off) (hoff:=hoff) (k:=k) (hk:=hk)
theorem ca {dd:Option Tmp} {ty:TypeId} {r:Bool} (x y:Operand) (hx:σ.eval x= .v (.int k a)) (hy:σ.eval y= .v (.int k b)) (hr:(a==b)=r):Stp P dd (.binOp .eql t x y t') ty σ ((σ.put dd (.v (.bool r)))):=
  fun o hd ho ht=> by subst hd;subst ht;exact oF (ho:=ho) (r:=r) (x:=x) (y:=y) (hx:=hx) (hy:=hy) (hr:=hr)
theorem iN {dd:Option Tmp} {ty:TypeId} {r:Bool} (x y:Operand) (hx:σ.eval x= .v (.int k a)) (hy:σ.eval y= .v (.int k b)) (hr:(a !=b)=r):Stp P dd (.binOp .neq t x y t') ty σ ((σ.put dd (.v (.bool r)))):=
  fun o hd ho ht=> by subst hd;subst ht;exact oT (ho:=ho) (r:=r) (x:=x) (y:=y) (hx:=hx) (hy:=hy) (hr:=hr)
theorem bo {dd:Option Tmp} {ty:TypeId} {r:Bool} (x y:Operand) (hx:σ.eval x= .v (.int k a)) (hy:σ.eval y= .v (.int k b)) (hr:decide (a < b)=r):Stp P dd (.binOp .lss t x y t') ty σ ((σ.put dd (.v (.bool r)))):=
  fun o hd ho ht=> by subst hd;subst ht;exact nY (ho:=ho) (r:=r) (x:=x) (y:=y) (hx:=hx) (hy:=hy) (hr:=hr)
theorem pb {dd:Option Tmp} {ty:TypeId} {r:Bool} (x y:Operand) (hx:σ.eval x= .v (.int k a)) (hy:σ.eval y= .v (.int k b)) (hr:decide (a≤b)=r):Stp P dd (.binOp .leq t x y t') ty σ ((σ.put dd (.v (.bool r)))):=
  fun o hd ho ht=> by subst hd;subst ht;exact oD (ho:=ho) (r:=r) (x:=x) (y:=y) (hx:=hx) (hy:=hy) (hr:=hr)
theorem iA {dd:Option Tmp} {ty:TypeId} {r:Bool} (x y:Operand) (hx:σ.eval x= .v (.int k a)) (hy:σ.eval y= .v (.int k b)) (hr:decide (b < a)=r):Stp P dd (.binOp .gtr t x y t') ty σ ((σ.put dd (.v (.bool r)))):=
  fun o hd ho ht=> by subst hd;subst ht;exact oI (ho:=ho) (r:=r) (x:=x) (y:=y) (hx:=hx) (hy:=hy) (hr:=hr)
theorem eQ {dd:Option Tmp} {ty:TypeId} {r:Bool} (x y:Operand) (hx:σ.eval x= .v (.int k a)) (hy:σ.eval y= .v (.int k b)) (hr:decide (b≤a)=r):Stp P dd (.binOp .geq t x y t') ty σ ((σ.put dd (.v (.bool r)))):=
  fun o hd ho ht=> by subst hd;subst ht;exact nZ (ho:=ho) (r:=r) (x:=x) (y:=y) (hx:=hx) (hy:=hy) (hr:=hr)
theorem bA {dd:Option Tmp} {ty:TypeId} {r:Int} (x y:Operand) (hx:σ.eval x= .v (.int k a)) (hy:σ.eval y= .v (.int k b)) (hr:k.wrap (a+b)=r):Stp P dd (.binOp .add t x y t') ty σ ((σ.put dd (.v (.int k r)))):=
  fun o hd ho ht=> by subst hd;subst ht;exact pj (ho:=ho) (r:=r) (x:=x) (y:=y) (hx:=hx) (hy:=hy) (hr:=hr)
theorem jQ {dd:Option Tmp} {ty:TypeId} {r:Int} (x y:Operand) (hx:σ.eval x= .v (.int k a)) (hy:σ.eval y= .v (.int k b)) (hr:k.wrap (a - b)=r):Stp P dd (.binOp .sub t x y t') ty σ ((σ.put dd (.v (.int k r)))):=
  fun o hd ho ht=> by subst hd;subst ht;exact nU (ho:=ho) (r:=r) (x:=x) (y:=y) (hx:=hx) (hy:=hy) (hr:=hr)
theorem oM {dd:Option Tmp} {ty:TypeId} {r:Int} (x y:Operand) (hx:σ.eval x= .v (.int k a)) (hy:σ.eval y= .v (.int k b)) (hr:k.wrap (a*b)=r):Stp P dd (.binOp .mul t x y t') ty σ ((σ.put dd (.v (.int k r)))):=
  fun o hd ho ht=> by subst hd;subst ht;exact nS (ho:=ho) (r:=r) (x:=x) (y:=y) (hx:=hx) (hy:=hy) (hr:=hr)
theorem oA {dd:Option Tmp} {ty:TypeId} {r:Int} (x y:Operand) (hx:σ.eval x= .v (.int k a)) (hy:σ.eval y= .v (.int k b)) (hb:b≠0) (hr:k.wrap (a.tdiv b)=r):Stp P dd (.binOp .quo t x y t') ty σ ((σ.put dd (.v (.int k r)))):=
  fun o hd ho ht=> by subst hd;subst ht;exact oN (ho:=ho) (r:=r) (x:=x) (y:=y) (hx:=hx) (hy:=hy) (hb:=hb) (hr:=hr)
theorem fE {dd:Option Tmp} {ty:TypeId} {r:Int} (x y:Operand) (hx:σ.eval x= .v (.int k a)) (hy:σ.eval y= .v (.int k b)) (hb:b≠0) (hr:a.tmod b=r):Stp P dd (.binOp .rem t x y t') ty σ ((σ.put dd (.v (.int k r)))):=
  fun o hd ho ht=> by subst hd;subst ht;exact pk (ho:=ho) (r:=r) (x:=x) (y:=y) (hx:=hx) (hy:=hy) (hb:=hb) (hr:=hr)
theorem jK {dd:Option Tmp} {ty:TypeId} {p r:Bool} (x:Operand) (hx:σ.eval x= .v (.bool p)) (hr:(!p)=r):Stp P dd (.unOp .not t x) ty σ ((σ.put dd (.v (.bool r)))):=
  fun o hd ho ht=> by subst hd;subst ht;exact pg (ho:=ho) (p:=p) (r:=r) (x:=x) (hx:=hx) (hr:=hr)
theorem jP {dd:Option Tmp} {ty:TypeId} {r:Int} (x:Operand) (hx:σ.eval x= .v (.int k a)) (hr:k.wrap (-a)=r):Stp P dd (.unOp .neg t x) ty σ ((σ.put dd (.v (.int k r)))):=
  fun o hd ho ht=> by subst hd;subst ht;exact oe (ho:=ho) (r:=r) (x:=x) (hx:=hx) (hr:=hr)

theorem aj {rb:Bool} {Q:Exit→St→Prop} {ops:Array Oper} {rest:List Oper} {σ':St} {d:Option Tmp} {op:Op} {ty:TypeId} {p:String} {af:Array Edge} (hs:Stp P d op ty σ σ') (h:DL rb P ops Q rest σ'):DL rb P ops Q (⟨d,op,ty,p,af,none⟩::rest) σ:=
  nf rfl (hs _ rfl rfl rfl) h
theorem aL {rb:Bool} {Q:Exit→St→Prop} {ops:Array Oper} {rest:List Oper} {σ':St} {d:Option Tmp} {op:Op} {ty:TypeId} {p:String} {af:Array Edge} {j d':Nat} {want:Bool} (hd:(ops[j]?).bind (·.dst)=some d') (hv:σ.eval (.tmp d')= .v (.bool want)) (hs:Stp P d op ty σ σ') (h:DL rb P ops Q rest σ'):DL rb P ops Q (⟨d,op,ty,p,af,some (j,want)⟩::rest) σ:=
  oE rfl hd hv (hs _ rfl rfl rfl) h
theorem bz {rb:Bool} {Q:Exit→St→Prop} {ops:Array Oper} {rest:List Oper} {d:Option Tmp} {op:Op} {ty:TypeId} {p:String} {af:Array Edge} {j d':Nat} {want b:Bool} (hd:(ops[j]?).bind (·.dst)=some d') (hv:σ.eval (.tmp d')= .v (.bool b)) (hne:b≠want) (h:DL rb P ops Q rest (σ.put d (.v undef))):DL rb P ops Q (⟨d,op,ty,p,af,some (j,want)⟩::rest) σ:=
  oz rfl hd hv (fun e=> hne (by cases e;rfl)) h
theorem gH {rb:Bool} {Q:Exit→St→Prop} {c:Operand} {x y:Code} {t:Bool} (hc:σ.eval c= .v (.bool t)) (ht:t=true) (h:D rb P x Q σ):D rb P (.cond c x y) Q σ:=by subst ht;exact jW hc h
theorem eE {rb:Bool} {Q:Exit→St→Prop} {c:Operand} {x y:Code} {t:Bool} (hc:σ.eval c= .v (.bool t)) (ht:t=false) (h:D rb P y Q σ):D rb P (.cond c x y) Q σ:=by subst ht;exact ki hc h
theorem nx {rb:Bool} {Q:Exit→St→Prop} {c:Operand} {x y:Code} {t:Bool} (hc:σ.eval c= .v (.bool t)) (h:t=true→D rb P x Q σ) (h':t=false→D rb P y Q σ):D rb P (.cond c x y) Q σ:=by
  cases t
  · exact ki hc (h' rfl)
  exact jW hc (h rfl)

theorem az {all:List Oper} {W:List Nat} {I:List aw} {AA:List (List aw)} {Kont:List Res→Prop} {os:List Oper} {rs:List Res} {d:Option Tmp} {op:Op} {ty:TypeId} {p:String} {af:List Edge} (r:Res)
    (hs: ∀ τ,Stp P d op ty (bF σ W (iK AA I rs.length) (r.2.map (·.1)) all rs (Edge.ons af) τ) (r.app d (bF σ W (iK AA I rs.length) (r.2.map (·.1)) all rs (Edge.ons af) τ))) (h:AnyOps P all W I AA σ Kont os (rs++[r])):AnyOps P all W I AA σ Kont (⟨d,op,ty,p,af.toArray,none⟩::os) rs:=
  ⟨r, .plain rfl fun τ=> hs τ _ rfl rfl rfl,h⟩
theorem dP {all:List Oper} {W:List Nat} {I:List aw} {AA:List (List aw)} {Kont:List Res→Prop} {os:List Oper} {rs:List Res} {d:Option Tmp} {op:Op} {ty:TypeId} {p:String} {af:List Edge} {j d':Nat} {want:Bool} (r:Res) (hd:(all[j]?).bind (·.dst)=some d')
    (hv: ∀ τ,(bF σ W (iK AA I rs.length) (r.2.map (·.1)) all rs (Edge.ons af) τ).eval (.tmp d')= .v (.bool want))
    (hs: ∀ τ,Stp P d op ty (bF σ W (iK AA I rs.length) (r.2.map (·.1)) all rs (Edge.ons af) τ) (r.app d (bF σ W (iK AA I rs.length) (r.2.map (·.1)) all rs (Edge.ons af) τ))) (h:AnyOps P all W I AA σ Kont os (rs++[r])):AnyOps P all W I AA σ Kont (⟨d,op,ty,p,af.toArray,some (j,want)⟩::os) rs:=
  ⟨r, .yes rfl hd hv fun τ=> hs τ _ rfl rfl rfl,h⟩
theorem cf {all:List Oper} {W:List Nat} {I:List aw} {AA:List (List aw)} {Kont:List Res→Prop} {rs:List Res} (h:Kont rs):AnyOps P all W I AA σ Kont [] rs:=h
end


mutual
def AV.within (ids:List aw):AV→Bool
  | .ref i _ _=> bs i ids
  | .ptr i _=> bs i ids
  | .mp i=> bs i ids
  | .agg xs=> AV.withins ids xs
  | .fn _ xs ys=> AV.withins ids xs && AV.withins ids ys
  | .ifc _ a=> a.within ids
  | .tup xs=> AV.withins ids xs
  | _=> true
def AV.withins (ids:List aw):List AV→Bool
  | []=> true
  | a::l=> a.within ids && AV.withins ids l
end
mutual
theorem bX {id:aw} {ids:List aw}: ∀ (a:AV),a.within ids=true→Has id a→id∈ids
  | .dead,_,h=> by cases h
  | .v _,_,h=> by cases h
  | .sl _ _,_,h=> by cases h
  | .fp _ _,_,h=> by cases h
  | .z,_,h=> by cases h
  | .mp _,hp,h=> by cases h;exact inO_iff.1 hp
  | .ref _ _ _,hp,h=> by cases h;exact inO_iff.1 hp
  | .ptr _ _,hp,h=> by cases h;exact inO_iff.1 hp
  | .agg xs,hp,h=> by
    simp only [AV.within] at hp
    cases h with
    | agg hm h=> exact bQ xs hp _ hm h
  | .fn f xs ys,hp,h=> by
    simp only [AV.within,Bool.and_eq_true] at hp
    cases h with
    | fn1 hm h=> exact bQ xs hp.1 _ hm h
    | fn2 hm h=> exact bQ ys hp.2 _ hm h
  | .ifc t a,hp,h=> by
    simp only [AV.within] at hp
    cases h with
    | ifc h=> exact bX a hp h
  | .tup xs,hp,h=> by
    simp only [AV.within] at hp
    cases h with
    | tup hm h=> exact bQ xs hp _ hm h
theorem bQ {id:aw} {ids:List aw}: ∀ (l:List AV),AV.withins ids l=true→ ∀ a∈l,Has id a→id∈ids
  | [],_,a,h,_=> by simp at h
  | b::l,hp,a,h,hh=> by
    simp only [AV.withins,Bool.and_eq_true] at hp
    rcases List.mem_cons.1 h with h0 | h
    · rw [h0] at hh;exact bX b hp.1 hh
    exact bQ l hp.2 a h hh
end
def Cells.within (ids:List aw):Cells→Bool
  | .row _ _ _=> true
  | .box _ xs=> AV.withins ids xs
  | .rowA _ _ xs=> AV.withins ids xs
  | .mp _ _=> true
  | .it m _ _ _=> bs m ids
def aU (ids:List aw):List (aw×Cells)→Bool
  | []=> true
  | (_,o)::l=> o.within ids && aU ids l
def cG (ids:List aw):List (Nat×AV)→Bool
  | []=> true
  | (_,a)::l=> a.within ids && cG ids l
def aV:List aw→Bool
  | []=> true
  | x::l=> !bs x l && aV l
theorem aQ: ∀ {l:List aw},aV l=true→l.Nodup
  | [],_=> .nil
  | x::l,h=> by
    simp only [aV,Bool.and_eq_true,Bool.not_eq_true'] at h
    refine List.nodup_cons.2 ⟨fun hm=> ?_,aQ h.2⟩
    rw [inO_iff.2 hm] at h;cases h.1

def aO:List (aw×aw)→aw→aw
  | [],i=> i
  | (k,j)::l,i=> bif dL i k then j else aO l i

def ja (ρ:aw→aw) (σ:St) (F:aw→Bool):List (Nat×AV)→Prop
  | []=> True
  | (t,a)::l=> Lv ρ σ F a (σ.fr t)∧ja ρ σ F l
def fQ (ρ:aw→aw) (σ:St) (F:aw→Bool):List (aw×Cells)→Prop
  | []=> True
  | (i,o)::l=> (F (ρ i)=false∧(∃ o2,σ.ob (ρ i)= .obj o2∧LvO ρ σ F o o2)∧σ.inc (ρ i)=false)∧fQ ρ σ F l
def cK (σ:St):List aw→Prop
  | []=> True
  | i::l=> σ.inc i=false∧cK σ l

theorem hZ {ρ:aw→aw} {σ:St} {F:aw→Bool}: ∀ {l:List (Nat×AV)},ja ρ σ F l→ ∀ t,Lv ρ σ F (jl l t) (σ.fr t)
  | [],_,t=> .dead
  | (k,a)::l,h,t=> by
    simp only [jl]
    cases hb:Nat.beq t k with
    | true=> simp only [cond_true];rw [Nat.eq_of_beq_eq_true hb];exact h.1
    | false=> simp only [cond_false];exact hZ h.2 t
theorem bE: ∀ {l:List (aw×Cells)} {i:aw} {o:Cells},dR l i= .obj o→(i,o)∈l
  | [],i,o,h=> by simp [dR] at h
  | (k,c)::l,i,o,h=> by
    simp only [dR] at h
    cases hb:dL i k with
    | true=> rw [hb] at h;simp at h;subst h;rw [oeq_iff.1 hb];exact List.mem_cons_self
    | false=> rw [hb] at h;exact List.mem_cons_of_mem _ (bE (by simpa using h))
theorem dm: ∀ {l:List (aw×Cells)} {i:aw},i∈l.map (·.1)→dR l i≠ .free
  | [],i,h=> by simp at h
  | (k,c)::l,i,h=> by
    simp only [dR]
    cases hb:dL i k with
    | true=> simp
    | false=>
      simp only [cond_false]
      refine dm ?_
      simp only [List.map_cons,List.mem_cons] at h
      rcases h with h | h
      · rw [h,bN] at hb;cases hb
      exact h
theorem eg {ρ:aw→aw} {σ:St} {F:aw→Bool}: ∀ {l:List (aw×Cells)},fQ ρ σ F l→ ∀ {i o},(i,o)∈l→F (ρ i)=false∧(∃ o2,σ.ob (ρ i)= .obj o2∧LvO ρ σ F o o2)∧σ.inc (ρ i)=false
  | [],_,i,o,h=> by simp at h
  | (k,c)::l,h,i,o,hm=> by
    rcases List.mem_cons.1 hm with h0 | hm
    · obtain ⟨rfl,rfl⟩:=Prod.mk.inj h0;exact h.1
    exact eg h.2 hm
theorem fx {ids:List aw}: ∀ {l:List (Nat×AV)},cG ids l=true→ ∀ {t id},Has id (jl l t)→id∈ids
  | [],_,t,id,h=> by simp only [jl] at h;cases h
  | (k,a)::l,hw,t,id,h=> by
    simp only [cG,Bool.and_eq_true] at hw
    simp only [jl] at h
    cases hb:Nat.beq t k with
    | true=> rw [hb] at h;exact bX a hw.1 h
    | false=> rw [hb] at h;exact fx hw.2 (by simpa using h)
theorem cW {ids:List aw}: ∀ {l:List (aw×Cells)},aU ids l=true→ ∀ {i o id},(i,o)∈l→o.Has id→id∈ids
  | [],_,i,o,id,h,_=> by simp at h
  | (k,c)::l,hw,i,o,id,h,hh=> by
    simp only [aU,Bool.and_eq_true] at hw
    rcases List.mem_cons.1 h with h0 | h
    · obtain ⟨rfl,rfl⟩:=Prod.mk.inj h0
      cases o with
      | row _ _ _=> exact hh.elim
      | rowA e sz xs=>
        obtain ⟨a,ha,hi⟩:=hh
        exact bQ xs hw.1 a ha hi
      | box e xs=>
        obtain ⟨a,ha,hi⟩:=hh
        exact bQ xs hw.1 a ha hi
      | mp _ _=> exact hh.elim
      | it m _ _ _=>
        have:id=m:=hh
        subst this
        exact inO_iff.1 hw.1
    exact cW hw.2 h hh

theorem dj {α β:Type} (f:α→β): ∀ {l:List α},(l.map f).Nodup→ ∀ {a b},a∈l→b∈l→f a=f b→a=b
  | [],_,a,b,h,_,_=> by simp at h
  | x::l,hn,a,b,ha,hb,he=> by
    simp only [List.map_cons,List.nodup_cons] at hn
    rcases List.mem_cons.1 ha with h1 | h1 <;> rcases List.mem_cons.1 hb with h2 | h2
    · rw [h1,h2]
    · exact absurd (by rw [← h1,he];exact List.mem_map_of_mem h2) hn.1
    · exact absurd (by rw [← h2,← he];exact List.mem_map_of_mem h1) hn.1
    exact dj f hn.2 h1 h2 he

theorem Le.gen {σ:St} {n:Nat} {fr:Nat→AV} {obs:List (aw×Cells)} (rn:List (aw×aw)) (Fz:List aw) (hn:σ.n=n) (hfr: ∀ t,Lv (aO rn) σ (fun i=> bs i Fz) (fr t) (σ.fr t)) (hw1: ∀ t id,Has id (fr t)→id∈obs.map (·.1)) (hw2:aU (obs.map (·.1)) obs=true)
    (hd:aV ((obs.map (·.1)).map (aO rn))=true) (hi:cK σ Fz) (ho:fQ (aO rn) σ (fun i=> bs i Fz) obs):Le ⟨n,fr,dR obs,fun _=> false,fun _=> none⟩ σ:=by
  refine Le.of (aO rn) (fun i=> bs i Fz) hn.symm (fun t _=> hfr t) (fun id o h=> ?_) (fun id id' o o' h h' he=> ?_) (fun id h=> ?_) (fun id o h _=> (eg ho (bE h)).2.2) (fun t id h=> dm (hw1 t id h)) (fun id' o id h hh=> dm (cW hw2 (bE h) hh)) (fun id h o hp=> by cases hp) (fun _ _=> rfl)
  · exact ⟨(eg ho (bE h)).1,(eg ho (bE h)).2.1⟩
  · exact dj (aO rn) (aQ hd) (List.mem_map_of_mem (f:=(·.1)) (bE h)) (List.mem_map_of_mem (f:=(·.1)) (bE h')) he
  have: ∀ {l:List aw},cK σ l→id∈l→σ.inc id=false:=by
    intro l
    induction l with
    | nil=> intro _ h;simp at h
    | cons x l ih=>
      intro hl hm
      rcases List.mem_cons.1 hm with rfl | hm
      · exact hl.1
      exact ih hl.2 hm
  exact this hi (inO_iff.1 h)

theorem Le.mk {σ:St} {n:Nat} {slots:List (Nat×AV)} {obs:List (aw×Cells)} (rn:List (aw×aw)) (Fz:List aw) (hn:σ.n=n) (hs:ja (aO rn) σ (fun i=> bs i Fz) slots) (hw1:cG (obs.map (·.1)) slots=true) (hw2:aU (obs.map (·.1)) obs=true)
    (hd:aV ((obs.map (·.1)).map (aO rn))=true) (hi:cK σ Fz) (ho:fQ (aO rn) σ (fun i=> bs i Fz) obs):Le (qn n slots obs) σ:=
  Le.gen rn Fz hn (hZ hs) (fun _ _ h=> fx hw1 h) hw2 hd hi ho
theorem Le.out {σ:St} {r r':AV} {obs:List (aw×Cells)} (rn:List (aw×aw)) (Fz:List aw) (hr:Lv (aO rn) (dy r σ) (fun i=> bs i Fz) r' r) (hw1:r'.within (obs.map (·.1))=true) (hw2:aU (obs.map (·.1)) obs=true)
    (hd:aV ((obs.map (·.1)).map (aO rn))=true) (hi:cK σ Fz) (ho:fQ (aO rn) (dy r σ) (fun i=> bs i Fz) obs):Le (aX r' obs) (dy r σ):=by
  have hi':cK (dy r σ) Fz:=by
    have: ∀ l:List aw,cK σ l→cK (dy r σ) l:=by
      intro l
      induction l with
      | nil=> intro h;exact h
      | cons x l ih=> intro h;exact ⟨h.1,ih h.2⟩
    exact this Fz hi
  refine Le.gen (n:=1) rn Fz rfl (fun t=> ?_) (fun t id h=> ?_) hw2 hd hi' ho
  · show Lv _ _ _ _ (bif Nat.beq t 0 then r else .dead)
    cases hb:Nat.beq t 0 with
    | true=> exact hr
    | false=> exact .dead
  cases hb:Nat.beq t 0 with
  | true=> rw [hb] at h;exact bX r' hw1 h
  | false=> rw [hb] at h;cases h

theorem LvO.rowE {ρ:aw→aw} {σ:St} {F:aw→Bool} {e:TypeId} {sz:Nat} {xs ys:List PV} (h:ys=xs):LvO ρ σ F (.row e sz xs) (.row e sz ys):= .row (zs:=[]) (by simp [h])
theorem ns {rb:Bool} {P:Program} {Q:Exit→St→Prop} {σ:St} {c:Code} {α:Type} (I:α→Prop) (F:α→St) (μ:α→Nat) (x0:α) (hI:I x0) (h0:Le (F x0) σ) (round: ∀ x,I x→D rb P c (kd (fun σ'=> ∃ y,I y∧Le (F y) σ'∧μ y < μ x) Q) (F x)):D rb P (.loop c) Q σ:=
  oJ (α:={ x:α // I x }) (fun x=> F x.1) (fun x=> μ x.1) ⟨x0,hI⟩ h0 fun x=> oK (round x.1 x.2) fun e σ' q=> by
    cases e with
    | normal=> obtain ⟨y,h1,h2,h3⟩:=q;exact ⟨⟨y,h1⟩,h2,h3⟩
    | _=> exact q
theorem ba {P:Program} {σ:St} {dd:Option Tmp} {ty:TypeId} {f:FuncId} {xs:Array Operand} {ats:Array TypeId} (C:bR P f) {args:List AV} {r:AV} (ha:ec σ (fun _=> false) (xs.toList.map σ.eval) args) (sp:Spec P f (bq args []) (aX r []))
    (hp:AV.pures args=true) (hr:r.pure=true):Stp P dd (.call { callee:= .value (.func f),args:=xs,argTypes:=ats }) ty σ (σ.put dd r):=fun o hd ho ht=> by subst hd;exact kj (.fnc ho C) sp ha hp hr
theorem dZ {P:Program} {σ:St} {dd:Option Tmp} {ty:TypeId} {f:FuncId} {x0:Operand} {xs:Array Operand} {ats:Array TypeId} {first caps:List AV} (hx:σ.eval x0= .fn (.func f) first caps) (C:bR P f) {args:List AV} {r:AV} (ha:ec σ (fun _=> false) (first++xs.toList.map σ.eval++caps) args) (sp:Spec P f (bq args []) (aX r []))
    (hp:AV.pures args=true) (hr:r.pure=true):Stp P dd (.call { callee:= .value x0,args:=xs,argTypes:=ats }) ty σ (σ.put dd r):=fun o hd ho ht=> by subst hd;exact kj (.fnv ho C hx) sp ha hp hr
theorem po {ρ:aw→aw} {σ:St} {F:aw→Bool} {a b:Bool} (h:a=b):Lv ρ σ F (.v (.bool a)) (.v (.bool b)):=h ▸ .v
theorem aF {ρ:aw→aw} {σ:St} {F:aw→Bool} {k:IntKind} {a b:Int} (h:a=b):Lv ρ σ F (.v (.int k a)) (.v (.int k b)):=h ▸ .v
theorem dH {n:Int} (h: -9223372036854775808≤n∧n≤9223372036854775807):IntKind.i64.wrap n=n:=Go.IntWalk.i64_in n h

mutual
def AV.ren (ρ:aw→aw):AV→AV
  | .ref i o n=> .ref (ρ i) o n
  | .ptr i o=> .ptr (ρ i) o
  | .agg xs=> .agg (AV.rens ρ xs)
  | .fn f xs ys=> .fn f (AV.rens ρ xs) (AV.rens ρ ys)
  | .ifc t a=> .ifc t (a.ren ρ)
  | .tup xs=> .tup (AV.rens ρ xs)
  | .dead=> .dead
  | .v x=> .v x
  | .sl n xs=> .sl n xs
  | .fp o xs=> .fp o xs
  | .z=> .z
  | .mp i=> .mp (ρ i)
def AV.rens (ρ:aw→aw):List AV→List AV
  | []=> []
  | a::l=> a.ren ρ::AV.rens ρ l
end
def Cells.ren (ρ:aw→aw):Cells→Cells
  | .row e sz xs=> .row e sz xs
  | .box e xs=> .box e (AV.rens ρ xs)
  | .rowA e sz xs=> .rowA e sz (AV.rens ρ xs)
  | .mp es c=> .mp es c
  | .it m a b c=> .it (ρ m) a b c
theorem dB {ρ:aw→aw}: ∀ (l:List AV) (j:Nat),(AV.rens ρ l)[j]? =(l[j]?).map (AV.ren ρ)
  | [],j=> by simp [AV.rens]
  | p::l,0=> by simp [AV.rens]
  | p::l,j+1=> by simp [AV.rens,dB l j]
theorem cX {ρ:aw→aw}: ∀ (l:List AV),(AV.rens ρ l).length=l.length
  | []=> rfl
  | p::l=> by simp [AV.rens,cX l]
theorem Rep.ren {ι ι':aw→Option cc} {S S':Nat→Prop} {w:World} {ρ:aw→aw} {a:AV} {x:Value} (h:Rep ι S w a x) (hS: ∀ g,S g→S' g):(∀ id B,Has id a→ι' (ρ id)=some B→ι id=some B)→Rep ι' S' w (a.ren ρ) x:=by
  induction h with
  | dead=> intro _;simp only [AV.ren];exact .dead
  | v=> intro _;simp only [AV.ren];exact .v
  | sl h=> intro _;simp only [AV.ren];exact .sl (h.next (fun _ _=> rfl) hS)
  | fp h=> intro _;simp only [AV.ren];exact .fp (h.next (fun _ _=> rfl) hS)
  | ref h h1=> intro hι;simp only [AV.ren];exact .ref (fun B hB=> h B (hι _ B .ref hB)) h1
  | ptr h h1=> intro hι;simp only [AV.ren];exact .ptr (fun B hB=> h B (hι _ B .ptr hB)) h1
  | agg h1 h2 h ih=>
    intro hι
    simp only [AV.ren]
    refine .agg (by rw [cX];exact h1) h2 fun j a ha=> ?_
    rw [dB] at ha
    obtain ⟨b,hb,rfl⟩:=Option.map_eq_some_iff.1 ha
    exact ih j b hb fun id B hi=> hι id B (.agg (List.mem_of_getElem? hb) hi)
  | fn h1 h2 h3 h4 i3 i4=>
    intro hι
    simp only [AV.ren]
    refine .fn (by rw [cX];exact h1) (by rw [cX];exact h2) (fun j a ha=> ?_) fun j a ha=> ?_
    · rw [dB] at ha
      obtain ⟨b,hb,rfl⟩:=Option.map_eq_some_iff.1 ha
      exact i3 j b hb fun id B hi=> hι id B (.fn1 (List.mem_of_getElem? hb) hi)
    rw [dB] at ha
    obtain ⟨b,hb,rfl⟩:=Option.map_eq_some_iff.1 ha
    exact i4 j b hb fun id B hi=> hι id B (.fn2 (List.mem_of_getElem? hb) hi)
  | z=> intro _;simp only [AV.ren];exact .z
  | mp h h1=> intro hι;simp only [AV.ren];exact .mp (fun B hB=> h B (hι _ B .mp hB)) h1
  | ifc h ih=> intro hι;simp only [AV.ren];exact .ifc (ih fun id B hi=> hι id B (.ifc hi))
  | tup h1 h ih=>
    intro hι
    simp only [AV.ren]
    refine .tup (by rw [cX];exact h1) fun j a ha=> ?_
    rw [dB] at ha
    obtain ⟨b,hb,rfl⟩:=Option.map_eq_some_iff.1 ha
    exact ih j b hb fun id B hi=> hι id B (.tup (List.mem_of_getElem? hb) hi)
mutual
theorem iJ {ρ:aw→aw} {i:aw}: ∀ (a:AV),Has i (a.ren ρ)→ ∃ j,Has j a∧i=ρ j
  | .dead,h=> by simp only [AV.ren] at h;cases h
  | .v _,h=> by simp only [AV.ren] at h;cases h
  | .sl _ _,h=> by simp only [AV.ren] at h;cases h
  | .fp _ _,h=> by simp only [AV.ren] at h;cases h
  | .z,h=> by simp only [AV.ren] at h;cases h
  | .mp k,h=> by simp only [AV.ren] at h;cases h;exact ⟨k, .mp,rfl⟩
  | .ref k _ _,h=> by simp only [AV.ren] at h;cases h;exact ⟨k, .ref,rfl⟩
  | .ptr k _,h=> by simp only [AV.ren] at h;cases h;exact ⟨k, .ptr,rfl⟩
  | .agg xs,h=> by
    simp only [AV.ren] at h
    cases h with
    | agg hm h=> obtain ⟨j,b,hb,h1,h2⟩:=dE xs _ hm h;exact ⟨j, .agg hb h1,h2⟩
  | .fn f xs ys,h=> by
    simp only [AV.ren] at h
    cases h with
    | fn1 hm h=> obtain ⟨j,b,hb,h1,h2⟩:=dE xs _ hm h;exact ⟨j, .fn1 hb h1,h2⟩
    | fn2 hm h=> obtain ⟨j,b,hb,h1,h2⟩:=dE ys _ hm h;exact ⟨j, .fn2 hb h1,h2⟩
  | .ifc t a,h=> by
    simp only [AV.ren] at h
    cases h with
    | ifc h=> obtain ⟨j,h1,h2⟩:=iJ a h;exact ⟨j, .ifc h1,h2⟩
  | .tup xs,h=> by
    simp only [AV.ren] at h
    cases h with
    | tup hm h=> obtain ⟨j,b,hb,h1,h2⟩:=dE xs _ hm h;exact ⟨j, .tup hb h1,h2⟩
theorem dE {ρ:aw→aw} {i:aw}: ∀ (l:List AV) (a:AV),a∈AV.rens ρ l→Has i a→ ∃ j b,b∈l∧Has j b∧i=ρ j
  | [],a,h,_=> by simp [AV.rens] at h
  | b::l,a,h,hh=> by
    simp only [AV.rens,List.mem_cons] at h
    rcases h with h0 | h
    · rw [h0] at hh
      obtain ⟨j,h1,h2⟩:=iJ b hh
      exact ⟨j,b,List.mem_cons_self,h1,h2⟩
    obtain ⟨j,c,h1,h2,h3⟩:=dE l a h hh
    exact ⟨j,c,List.mem_cons_of_mem _ h1,h2,h3⟩
end

def eG (Pn:List aw) (i:aw):Option aw:=bif bs i Pn then some i else none
def bC (n:Nat) (l:List (Nat×AV)) (obs:List (aw×Cells)) (I Pn:List aw):St:=⟨n,jl l,dR obs,fun i=> bs i I,eG Pn⟩
def aZ (args:List AV) (obs:List (aw×Cells)):St:=⟨args.length,fun t=> args.getD t .dead,dR obs,fun i=> bs i (obs.map (·.1)),eG (obs.map (·.1))⟩
def px (n:Nat) (args:List AV) (obs:List (aw×Cells)):St:=⟨n,fun t=> args.getD t .dead,dR obs,fun i=> bs i (obs.map (·.1)),eG (obs.map (·.1))⟩
def aS (r:AV) (obs:List (aw×Cells)) (I Pn:List aw):St:=⟨1,fun t=> bif Nat.beq t 0 then r else .dead,dR obs,fun i=> bs i I,eG Pn⟩
theorem Spec.ofNI {P:Program} {f:FuncId} {fn:Func} {c:Code} {args:List AV} {obs:List (aw×Cells)} {σ':St} {n:Nat} (hf:P.funcs[f]? =some fn) (hb:fn.body=some c) (hn:fn.ntmps=n) (hl:Nat.ble args.length n=true)
    (h:D true P c (ii P fn σ') (px n args obs)):Spec P f (aZ args obs) σ':=by
  subst hn
  refine Spec.of hf hb (Nat.le_of_ble_eq_true hl) (fun t ht=> ?_) h
  simp only [aZ] at ht ⊢
  rw [List.getD_eq_getElem?_getD,List.getElem?_eq_none ht];rfl

def cB (ρ:aw→aw) (σ:St) (F:aw→Bool) (I:List aw):List (aw×Cells)→Prop
  | []=> True
  | (i,o)::l=> (F (ρ i)=false∧(∃ o2,σ.ob (ρ i)= .obj o2∧LvO ρ σ F o o2)∧(bif bs i I then false else σ.inc (ρ i))=false)∧cB ρ σ F I l
theorem dD {ρ:aw→aw} {σ:St} {F:aw→Bool} {I:List aw}: ∀ {l:List (aw×Cells)},cB ρ σ F I l→ ∀ {i o},(i,o)∈l→F (ρ i)=false∧(∃ o2,σ.ob (ρ i)= .obj o2∧LvO ρ σ F o o2)∧(bif bs i I then false else σ.inc (ρ i))=false
  | [],_,i,o,h=> by simp at h
  | (k,c)::l,h,i,o,hm=> by
    rcases List.mem_cons.1 hm with h0 | hm
    · obtain ⟨rfl,rfl⟩:=Prod.mk.inj h0;exact h.1
    exact dD h.2 hm
theorem gB {σ:St} {id:aw}: ∀ {l:List aw},cK σ l→id∈l→σ.inc id=false
  | [],_,h=> by simp at h
  | x::l,hl,hm=> by
    rcases List.mem_cons.1 hm with h | hm
    · rw [h];exact hl.1
    exact gB hl.2 hm
def fP (ρ:aw→aw) (σ:St):List aw→Prop
  | []=> True
  | i::l=> σ.pin (ρ i)=some i∧fP ρ σ l
theorem gp {ρ:aw→aw} {σ:St} {i:aw}: ∀ {l:List aw},fP ρ σ l→i∈l→σ.pin (ρ i)=some i
  | [],_,h=> by simp at h
  | x::l,hl,hm=> by
    rcases List.mem_cons.1 hm with h | hm
    · rw [h];exact hl.1
    exact gp hl.2 hm
def jH:List aw→List aw→Bool
  | [],_=> true
  | i::l,L=> bs i L && jH l L
theorem jw {L:List aw} {i:aw}: ∀ {l:List aw},jH l L=true→i∈l→i∈L
  | [],_,h=> by simp at h
  | x::l,hl,hm=> by
    simp only [jH,Bool.and_eq_true] at hl
    rcases List.mem_cons.1 hm with h | hm
    · rw [h];exact inO_iff.1 hl.1
    exact jw hl.2 hm
theorem Le.genI {σ:St} {n:Nat} {fr:Nat→AV} {obs:List (aw×Cells)} {I Pn:List aw} (rn:List (aw×aw)) (Fz:List aw) (hn:σ.n=n) (hfr: ∀ t,Lv (aO rn) σ (fun i=> bs i Fz) (fr t) (σ.fr t)) (hw1: ∀ t id,Has id (fr t)→id∈obs.map (·.1)) (hw2:aU (obs.map (·.1)) obs=true)
    (hd:aV ((obs.map (·.1)).map (aO rn))=true) (hi:cK σ Fz) (ho:cB (aO rn) σ (fun i=> bs i Fz) I obs) (hp:fP (aO rn) σ Pn) (hs:jH Pn (obs.map (·.1))=true):Le ⟨n,fr,dR obs,fun i=> bs i I,eG Pn⟩ σ:=by
  refine Le.of (aO rn) (fun i=> bs i Fz) hn.symm (fun t _=> hfr t) (fun id o h=> ?_) (fun id id' o o' h h' he=> ?_) (fun id h=> ?_) (fun id o h hf=> ?_) (fun t id h=> dm (hw1 t id h)) (fun id' o id h hh=> dm (cW hw2 (bE h) hh)) (fun id h o hpn _=> ?_) (fun id hf=> ?_)
  · exact ⟨(dD ho (bE h)).1,(dD ho (bE h)).2.1⟩
  · exact dj (aO rn) (aQ hd) (List.mem_map_of_mem (f:=(·.1)) (bE h)) (List.mem_map_of_mem (f:=(·.1)) (bE h')) he
  · exact gB hi (inO_iff.1 h)
  · have:=(dD ho (bE h)).2.2
    simp only at hf
    rw [hf] at this
    exact this
  · simp only [eG] at hpn
    cases hb:bs id Pn with
    | true=> rw [hb] at hpn;obtain rfl:=Option.some.inj hpn;exact gp hp (inO_iff.1 hb)
    | false=> rw [hb] at hpn;cases hpn
  simp only [eG]
  cases hb:bs id Pn with
  | true=> exact absurd hf (dm (jw hs (inO_iff.1 hb)))
  | false=> rfl
theorem Le.mkI {σ:St} {n:Nat} {slots:List (Nat×AV)} {obs:List (aw×Cells)} {I Pn:List aw} (rn:List (aw×aw)) (Fz:List aw) (hn:σ.n=n) (hs:ja (aO rn) σ (fun i=> bs i Fz) slots) (hw1:cG (obs.map (·.1)) slots=true) (hw2:aU (obs.map (·.1)) obs=true)
    (hd:aV ((obs.map (·.1)).map (aO rn))=true) (hi:cK σ Fz) (ho:cB (aO rn) σ (fun i=> bs i Fz) I obs) (hp:fP (aO rn) σ Pn) (hsb:jH Pn (obs.map (·.1))=true):Le (bC n slots obs I Pn) σ:=
  Le.genI rn Fz hn (hZ hs) (fun _ _ h=> fx hw1 h) hw2 hd hi ho hp hsb
theorem Le.outI {σ:St} {r r':AV} {obs:List (aw×Cells)} {I Pn:List aw} (rn:List (aw×aw)) (Fz:List aw) (hr:Lv (aO rn) (dy r σ) (fun i=> bs i Fz) r' r) (hw1:r'.within (obs.map (·.1))=true) (hw2:aU (obs.map (·.1)) obs=true)
    (hd:aV ((obs.map (·.1)).map (aO rn))=true) (hi:cK (dy r σ) Fz) (ho:cB (aO rn) (dy r σ) (fun i=> bs i Fz) I obs) (hp:fP (aO rn) (dy r σ) Pn) (hsb:jH Pn (obs.map (·.1))=true):Le (aS r' obs I Pn) (dy r σ):=by
  refine Le.genI (n:=1) rn Fz rfl (fun t=> ?_) (fun t id h=> ?_) hw2 hd hi ho hp hsb
  · show Lv _ _ _ _ (bif Nat.beq t 0 then r else .dead)
    cases hb:Nat.beq t 0 with
    | true=> exact hr
    | false=> exact .dead
  cases hb:Nat.beq t 0 with
  | true=> rw [hb] at h;exact bX r' hw1 h
  | false=> rw [hb] at h;cases h

def bG (ρ:aw→aw) (outs:List (aw×Cells)) (ins:List aw) (ob:aw→Slot):aw→Slot:=fun c=>
  match outs with
  | (i,o)::l=> bif dL c (ρ i) then .obj (o.ren ρ) else bG ρ l ins ob c
  | []=> bif bs c (ins.map ρ) then .gone else ob c
def dF (ρ:aw→aw) (outs:List (aw×Cells)) (I:List aw) (any:Bool) (inc:aw→Bool):aw→Bool:=fun c=>
  match outs with
  | (i,_)::l=> bif dL c (ρ i) then (bif bs i I then any else false) else dF ρ l I any inc c
  | []=> inc c
def cP (σ:St):List aw→Bool
  | []=> false
  | i::l=> σ.inc i || cP σ l
def St.after (σ:St) (ρ:aw→aw) (outs:List (aw×Cells)) (ins I:List aw):St:=
  { σ with ob:=bG ρ outs ins σ.ob,inc:=dF ρ outs I (cP σ (ins.map ρ)) σ.inc }
def cH (σ:St) (ρ:aw→aw) (ins:List aw):List (aw×Cells)→Prop
  | []=> True
  | (i,_)::l=> ((bif bs i ins then Slot.free else σ.ob (ρ i))= .free)∧cH σ ρ ins l
theorem fV {σ:St} {ρ:aw→aw} {ins:List aw}: ∀ {l:List (aw×Cells)},cH σ ρ ins l→ ∀ {i o},(i,o)∈l→i∈ins∨σ.ob (ρ i)= .free
  | [],_,i,o,h=> by simp at h
  | (k,c)::l,h,i,o,hm=> by
    rcases List.mem_cons.1 hm with h0 | hm
    · obtain ⟨rfl,rfl⟩:=Prod.mk.inj h0
      have:=h.1
      cases hb:bs i ins with
      | true=> exact .inl (inO_iff.1 hb)
      | false=> rw [hb] at this;exact .inr this
    exact fV h.2 hm

theorem bD {ρ:aw→aw} {ins:List aw} {ob:aw→Slot}: ∀ {outs:List (aw×Cells)} {i:aw} {o:Cells},((outs.map (·.1)).map ρ).Nodup→(i,o)∈outs→bG ρ outs ins ob (ρ i)= .obj (o.ren ρ)
  | [],i,o,_,h=> by simp at h
  | (k,c)::l,i,o,hn,h=> by
    simp only [bG]
    simp only [List.map_cons,List.nodup_cons] at hn
    rcases List.mem_cons.1 h with h0 | h
    · obtain ⟨rfl,rfl⟩:=Prod.mk.inj h0
      rw [bN];rfl
    have:ρ i≠ρ k:=fun e=> hn.1 (e ▸ List.mem_map_of_mem (List.mem_map_of_mem (f:=(·.1)) h))
    rw [da this]
    exact bD hn.2 h
theorem bV {ρ:aw→aw} {ins:List aw} {ob:aw→Slot} {c:aw}: ∀ {outs:List (aw×Cells)},c∉(outs.map (·.1)).map ρ→bG ρ outs ins ob c=(bif bs c (ins.map ρ) then .gone else ob c)
  | [],_=> rfl
  | (k,o)::l,h=> by
    simp only [List.map_cons,List.mem_cons,not_or] at h
    simp only [bG,da h.1,cond_false]
    exact bV h.2
theorem fu {ρ:aw→aw} {I:List aw} {any:Bool} {inc:aw→Bool}: ∀ {outs:List (aw×Cells)} {i:aw} {o:Cells},((outs.map (·.1)).map ρ).Nodup→(i,o)∈outs→dF ρ outs I any inc (ρ i)=(bif bs i I then any else false)
  | [],i,o,_,h=> by simp at h
  | (k,c)::l,i,o,hn,h=> by
    simp only [dF]
    simp only [List.map_cons,List.nodup_cons] at hn
    rcases List.mem_cons.1 h with h0 | h
    · obtain ⟨rfl,rfl⟩:=Prod.mk.inj h0
      rw [bN];rfl
    have:ρ i≠ρ k:=fun e=> hn.1 (e ▸ List.mem_map_of_mem (List.mem_map_of_mem (f:=(·.1)) h))
    rw [da this]
    exact fu hn.2 h
theorem eu {ρ:aw→aw} {I:List aw} {any:Bool} {inc:aw→Bool} {c:aw}: ∀ {outs:List (aw×Cells)},c∉(outs.map (·.1)).map ρ→dF ρ outs I any inc c=inc c
  | [],_=> rfl
  | (k,o)::l,h=> by
    simp only [List.map_cons,List.mem_cons,not_or] at h
    simp only [dF,da h.1,cond_false]
    exact eu h.2
theorem ee {σ:St}: ∀ {l:List aw},cP σ l=false→ ∀ i∈l,σ.inc i=false
  | [],_,i,h=> by simp at h
  | x::l,h,i,hm=> by
    simp only [cP,Bool.or_eq_false_iff] at h
    rcases List.mem_cons.1 hm with h0 | hm
    · rw [h0];exact h.1
    exact ee h.2 i hm
theorem dN: ∀ {l:List (aw×Cells)} {i:aw} {o:Cells},(l.map (·.1)).Nodup→(i,o)∈l→dR l i= .obj o
  | [],i,o,_,h=> by simp at h
  | (k,c)::l,i,o,hn,h=> by
    simp only [List.map_cons,List.nodup_cons] at hn
    simp only [dR]
    rcases List.mem_cons.1 h with h0 | h
    · obtain ⟨rfl,rfl⟩:=Prod.mk.inj h0
      rw [bN];rfl
    have:i≠k:=fun e=> hn.1 (e ▸ List.mem_map_of_mem (f:=(·.1)) h)
    rw [da this]
    exact dN hn.2 h

def cd (ρ:aw→aw) (outs:List (aw×Cells)) (ins:List aw) (ι' ι:aw→Option cc):aw→Option cc:=fun c=>
  match outs with
  | (i,_)::l=> bif dL c (ρ i) then ι' i else cd ρ l ins ι' ι c
  | []=> bif bs c (ins.map ρ) then none else ι c
theorem bu {ρ:aw→aw} {ins:List aw} {ι' ι:aw→Option cc}: ∀ {outs:List (aw×Cells)} {i:aw},((outs.map (·.1)).map ρ).Nodup→i∈outs.map (·.1)→cd ρ outs ins ι' ι (ρ i)=ι' i
  | [],i,_,h=> by simp at h
  | (k,c)::l,i,hn,h=> by
    simp only [cd]
    simp only [List.map_cons,List.nodup_cons] at hn
    simp only [List.map_cons,List.mem_cons] at h
    rcases h with h0 | h
    · subst h0;rw [bN];rfl
    have:ρ i≠ρ k:=fun e=> hn.1 (e ▸ List.mem_map_of_mem h)
    rw [da this]
    exact bu hn.2 h
theorem cy {ρ:aw→aw} {ins:List aw} {ι' ι:aw→Option cc} {c:aw}: ∀ {outs:List (aw×Cells)},c∉(outs.map (·.1)).map ρ→cd ρ outs ins ι' ι c=(bif bs c (ins.map ρ) then none else ι c)
  | [],_=> rfl
  | (k,o)::l,h=> by
    simp only [List.map_cons,List.mem_cons,not_or] at h
    simp only [cd,da h.1,cond_false]
    exact cy h.2
def ei (ins Pn:List aw):List (aw×Cells)→Bool
  | []=> true
  | (i,_)::l=> (bif bs i ins then bs i Pn else true) && ei ins Pn l
theorem gZ {ins Pn:List aw} {i:aw}: ∀ {l:List (aw×Cells)},ei ins Pn l=true→i∈l.map (·.1)→i∈ins→i∈Pn
  | [],_,h,_=> by simp at h
  | (k,o)::l,hk,h,hi=> by
    simp only [ei,Bool.and_eq_true] at hk
    simp only [List.map_cons,List.mem_cons] at h
    rcases h with h | h
    · subst h
      rw [inO_iff.2 hi] at hk
      exact inO_iff.1 hk.1
    exact gZ hk.2 h hi

section
variable {P:Program} {σ:St} {o:Oper}

def dw (σ:St) (rn:List (aw×aw)) (avs:List AV) (args:List AV):Prop:=args.length=avs.length∧ ∀ (j:Nat) (x:AV) (a:AV),avs[j]? =some x→args[j]? =some a→Lv (aO rn) σ (fun _=> false) a x
theorem aD {rn:List (aw×aw)}:dw σ rn [] []:=⟨rfl,by simp⟩
theorem aB {rn:List (aw×aw)} {x:AV} {xs:List AV} {a:AV} {args:List AV} (h:Lv (aO rn) σ (fun _=> false) a x) (hs:dw σ rn xs args):dw σ rn (x::xs) (a::args):=by
  refine ⟨by simp [hs.1],fun j y b hy hb=> ?_⟩
  cases j with
  | zero=> simp at hy hb;subst hy;subst hb;exact h
  | succ j=> exact hs.2 j y b (by simpa using hy) (by simpa using hb)

theorem jf {f:FuncId} {avs:List AV} (hE:EntersAt P o σ f avs) (rn:List (aw×aw)) {args:List AV} {ins outs:List (aw×Cells)} {r:AV} {I Pn:List aw} (inc':aw→Bool)
    (hinc1: ∀ c,c∉(outs.map (·.1)).map (aO rn)→inc' c=σ.inc c) (hinc2: ∀ i,i∈outs.map (·.1)→inc' (aO rn i)=false→(i∈ins.map (·.1)∧σ.inc (aO rn i)=false)∨(bs i I=false)∨(i∉ins.map (·.1)∧ ∀ j,j∈ins.map (·.1)→j∉outs.map (·.1)→σ.inc (aO rn j)=false))
    (ha:dw σ rn avs args) (hw:AV.withins (ins.map (·.1)) args=true) (hwi:aU (ins.map (·.1)) ins=true) (hins:cB (aO rn) σ (fun _=> false) (ins.map (·.1)) ins)
    (hni:aV ((ins.map (·.1)).map (aO rn))=true) (hni':aV (ins.map (·.1))=true) (hno:aV ((outs.map (·.1)).map (aO rn))=true) (hno':aV (outs.map (·.1))=true) (hfr:cH σ (aO rn) (ins.map (·.1)) outs) (hPn:ei (ins.map (·.1)) Pn outs=true)
    (hwo:r.within (outs.map (·.1))=true) (hwoo:aU (outs.map (·.1)) outs=true) (sp:Spec P f (aZ args ins) (aS r outs I Pn)):
    bp P o σ (({ σ.after (aO rn) outs (ins.map (·.1)) I with inc:=inc' }:St).put o.dst (r.ren (aO rn))):=by
  intro K ι S a w R
  obtain ⟨vs,hrun,hvs,hrep⟩:=hE K ι S a w R
  generalize hρ:aO rn=ρ at*
  have hni:=aQ hni
  have hni':=aQ hni'
  have hno:=aQ hno
  have hno':=aQ hno'
  -- the callee's state
  have hino: ∀ i,i∈ins.map (·.1)→ ∃ o o2 B,(i,o)∈ins∧dR ins i= .obj o∧σ.ob (ρ i)= .obj o2∧LvO ρ σ (fun _=> false) o o2∧ι (ρ i)=some B:=by
    intro i hi
    obtain ⟨⟨i',oc⟩,hm,rfl⟩:=List.mem_map.1 hi
    obtain ⟨_,⟨o2,h2,h3⟩,_⟩:=dD hins hm
    have hO:=R.ob _ o2 h2
    have: ∃ B,ι (ρ i')=some B:=hO.ex
    obtain ⟨B,hB⟩:=this
    exact ⟨oc,o2,B,hm,dN hni' hm,h2,h3,hB⟩
  let own1:Nat→Prop:=fun g=> ∃ i B,i∈ins.map (·.1)∧ι (ρ i)=some B∧B.g=some g
  let ι1:aw→Option cc:=fun i=> bif bs i (ins.map (·.1)) then ι (ρ i) else none
  have hι1: ∀ i,i∈ins.map (·.1)→ι1 i=ι (ρ i):=fun i hi=> by simp only [ι1,inO_iff.2 hi,cond_true]
  have hι1': ∀ i B,ι1 i=some B→i∈ins.map (·.1)∧ι (ρ i)=some B:=fun i B h=> by
    simp only [ι1] at h
    cases hb:bs i (ins.map (·.1)) with
    | true=> rw [hb] at h;exact ⟨inO_iff.1 hb,h⟩
    | false=> rw [hb] at h;cases h
  have hobm: ∀ {i oc},dR ins i= .obj oc→i∈ins.map (·.1):=fun h=> List.mem_map_of_mem (f:=(·.1)) (bE h)
  have R1:RelI ⟨w,own1,S,fun i=> ι (ρ i),none⟩ ι1 S (aZ args ins) ⟨vs,[]⟩ w:=by
    refine ⟨Keeps.refl _ _,fun g h=> .inl h,R.Slt,by simp [aZ,ha.1,hvs], .nil,fun t ht=> ?_,fun t id hb=> ?_,fun id' oc id hoc hb=> dm (cW hwi (bE hoc) hb),fun id oc hoc=> ?_,fun id B hB=> ?_,fun id id' B B' g hB hB' hg hg'=> ?_,fun id B g hB hg=> ?_,fun id h oc hp hoc=> ?_,fun id hf=> ?_⟩
    · simp only [aZ] at ht ⊢
      have hx:t < avs.length:=by rw [← ha.1];exact ht
      have hl:=ha.2 t _ _ (List.getElem?_eq_getElem hx) (List.getElem?_eq_getElem ht)
      rw [hρ] at hl
      have:=hl.rep (ι1:=ι1) R (fun id B hB=> (hι1' id B hB).2) (S1:=S) (fun g h=> h) (fun id B g h=> by cases h) (hrep t _ (List.getElem?_eq_getElem hx))
      simpa [List.getD_eq_getElem?_getD,ht] using this
    · simp only [aZ] at hb
      by_cases ht:t < args.length
      · rw [List.getD_eq_getElem?_getD,List.getElem?_eq_getElem ht] at hb
        exact dm (bQ args hw _ (List.getElem_mem ht) hb)
      rw [List.getD_eq_getElem?_getD,List.getElem?_eq_none ab] at hb
      cases hb
    · obtain ⟨o1,o2,B,hm,ho1,h2,h3,hB⟩:=hino id (hobm hoc)
      have:Slot.obj o1=Slot.obj oc:=ho1.symm.trans hoc
      obtain rfl:=Slot.obj.inj this
      have hO:=R.ob _ o2 h2
      cases h3 with
      | row h=>
        obtain ⟨B,b1,b2,b3⟩:=hO
        refine ⟨B,by rw [hι1 id (hobm hoc)];exact b1,b2,?_⟩
        subst h
        rcases b3 with ⟨c1,c2,c3⟩ | ⟨g,cur,c1,c2,c3,c4,c5⟩
        · exact .inl ⟨c1,by simp at c2;simp [c2.1],c3⟩
        refine .inr ⟨g,cur,c1,c2,c3,by simp at c4;omega,fun j hj=> ?_⟩
        obtain ⟨u,d1,d2,d3⟩:=c5 j (by simp;omega)
        exact ⟨u,d1,d2,fun p hp=> (d3 p (by rw [List.getElem?_append,if_pos hj];exact hp))⟩
      | box hl h=>
        obtain ⟨B,g,b1,b2,b3,b4⟩:=hO
        refine ⟨B,g,by rw [hι1 id (hobm hoc)];exact b1,b2,by omega,?_⟩
        rw [hl]
        rcases b4 with ⟨c1,_⟩ | ⟨g',cur,c1,c2,c3,c4,c5⟩
        · rw [b2] at c1;cases c1
        refine .inr ⟨g',cur,c1,c2,c3,c4,fun j hj=> ?_⟩
        obtain ⟨u,d1,d2,d3⟩:=c5 j hj
        refine ⟨u,d1,d2,fun p hp=> ?_⟩
        exact (h j p _ hp (List.getElem?_eq_getElem hj)).rep R (fun id B hB=> (hι1' id B hB).2) (fun _ h=> h) (fun id B g h=> by cases h) (d3 _ (List.getElem?_eq_getElem hj))
      | rowA hl h=>
        obtain ⟨B,b1,b2,b4⟩:=hO
        refine ⟨B,by rw [hι1 id (hobm hoc)];exact b1,b2,?_⟩
        rw [hl]
        rcases b4 with c | ⟨g',cur,c1,c2,c3,c4,c5⟩
        · exact .inl c
        refine .inr ⟨g',cur,c1,c2,c3,c4,fun j hj=> ?_⟩
        obtain ⟨u,d1,d2,d3⟩:=c5 j hj
        refine ⟨u,d1,d2,fun p hp=> ?_⟩
        exact (h j p _ hp (List.getElem?_eq_getElem hj)).rep R (fun id B hB=> (hι1' id B hB).2) (fun _ h=> h) (fun id B g h=> by cases h) (d3 _ (List.getElem?_eq_getElem hj))
      | boxA h0 hl h=>
        obtain ⟨B,b1,b2,b4⟩:=hO
        rcases b4 with ⟨_,c,_⟩ | ⟨g',cur,c1,c2,c3,c4,c5⟩
        · omega
        refine ⟨B,g',by rw [hι1 id (hobm hoc)];exact b1,c1,by omega,?_⟩
        rw [hl]
        refine .inr ⟨g',cur,c1,c2,c3,c4,fun j hj=> ?_⟩
        obtain ⟨u,d1,d2,d3⟩:=c5 j hj
        refine ⟨u,d1,d2,fun p hp=> ?_⟩
        exact (h j p _ hp (List.getElem?_eq_getElem hj)).rep R (fun id B hB=> (hι1' id B hB).2) (fun _ h=> h) (fun id B g h=> by cases h) (d3 _ (List.getElem?_eq_getElem hj))
      | mp=>
        obtain ⟨B,g,b1,b2,b3⟩:=hO
        exact ⟨B,g,by rw [hι1 id (hobm hoc)];exact b1,b2,b3⟩
      | it=>
        obtain ⟨B,g,b1,b2,mg,b3,b4⟩:=hO
        exact ⟨B,g,by rw [hι1 id (hobm hoc)];exact b1,b2,mg,b3,fun B' hB'=> b4 B' (hι1' _ B' hB').2⟩
    · obtain ⟨h1,h2⟩:=hι1' id B hB
      obtain ⟨o1,_,_,_,h3,_⟩:=hino id h1
      exact ⟨o1,h3⟩
    · obtain ⟨h1,h2⟩:=hι1' id B hB
      obtain ⟨h3,h4⟩:=hι1' id' B' hB'
      exact dj ρ hni h1 h3 (R.inj _ _ B B' g h2 h4 hg hg')
    · obtain ⟨h1,h2⟩:=hι1' id B hB
      refine ⟨(R.sep _ B g h2 hg).1, .inl ⟨id,B,h1,h2,hg⟩,fun hf=> ?_⟩
      simp only [aZ] at hf
      rw [inO_iff.2 h1] at hf;cases hf
    · simp only [aZ,eG] at hp
      cases hb:bs id (ins.map (·.1)) with
      | true=> rw [hb] at hp;obtain rfl:=Option.some.inj hp;exact hι1 _ (inO_iff.1 hb)
      | false=> rw [hb] at hp;cases hp
    simp only [aZ,eG]
    cases hb:bs id (ins.map (·.1)) with
    | true=> exact absurd hf (dm (inO_iff.1 hb))
    | false=> rfl
  refine fZ hrun (sp _ _ _ _ w rfl rfl R1) ?_
  rintro e w' ⟨v,ι',S',rfl,R2⟩
  refine ⟨v,rfl,cd ρ outs (ins.map (·.1)) ι' ι,fun g=> S g∨S' g,?_⟩
  have hk2:Keeps own1 w w':=R2.keeps
  have hS2: ∀ g,S' g→S g∨w.heap.size≤g:=R2.S0
  have houtm: ∀ {i oc},(i,oc)∈outs→i∈outs.map (·.1):=fun h=> List.mem_map_of_mem (f:=(·.1)) h
  have hob2: ∀ i oc,(i,oc)∈outs→ObjOk ι' S' w' i oc:=fun i oc h=> R2.ob i oc (dN hno' h)
  have hfresh: ∀ i oc,(i,oc)∈outs→i∉ins.map (·.1)→σ.ob (ρ i)= .free:=fun i oc h hn=> (fV hfr h).resolve_left hn
  have hkeep: ∀ i oc,(i,oc)∈outs→i∈ins.map (·.1)→ι' i=ι (ρ i):=by
    intro i oc h hi
    have hp:i∈Pn:=gZ hPn (houtm h) hi
    exact R2.pin i i oc (by simp only [aS,eG,inO_iff.2 hp,cond_true]) (dN hno' h)
  have hblk: ∀ i oc B g,(i,oc)∈outs→ι' i=some B→B.g=some g→own1 g∨w.heap.size≤g:=fun i oc B g _ hB hg=> (R2.sep i B g hB hg).2.1
  have houtcase: ∀ c,c∈(outs.map (·.1)).map ρ→ ∃ i oc,(i,oc)∈outs∧c=ρ i:=by
    intro c hc
    obtain ⟨i,hi,rfl⟩:=List.mem_map.1 hc
    obtain ⟨⟨i',oc⟩,h,rfl⟩:=List.mem_map.1 hi
    exact ⟨i',oc,h,rfl⟩
  have hincase: ∀ c,c∈(ins.map (·.1)).map ρ→ ∃ i,i∈ins.map (·.1)∧c=ρ i:=by
    intro c hc
    obtain ⟨i,hi,rfl⟩:=List.mem_map.1 hc
    exact ⟨i,hi,rfl⟩
  have hobA: ∀ c,c∉(outs.map (·.1)).map ρ→c∈(ins.map (·.1)).map ρ→bG ρ outs (ins.map (·.1)) σ.ob c= .gone:=fun c h h'=> by rw [bV h,inO_iff.2 h'];rfl
  have hιA: ∀ c,c∉(outs.map (·.1)).map ρ→c∈(ins.map (·.1)).map ρ→cd ρ outs (ins.map (·.1)) ι' ι c=none:=fun c h h'=> by rw [cy h,inO_iff.2 h'];rfl
  have notin: ∀ {c} {l:List aw},c∉l→bs c l=false:=fun {c l} h=> by
    cases hb:bs c l with
    | true=> exact absurd (inO_iff.1 hb) h
    | false=> rfl
  have hrepr: ∀ {b:AV} {u:Value},(∀ i,Has i b→i∈outs.map (·.1))→Rep ι' S' w' b u→Rep (cd ρ outs (ins.map (·.1)) ι' ι) (fun g=> S g∨S' g) w' (b.ren ρ) u:=by
    intro b u hb h
    exact h.ren (fun g h=> .inr h) fun i B hi hB=> by rw [bu hno (hb i hi)] at hB;exact hB
  have R3:=R.gen (ι':=cd ρ outs (ins.map (·.1)) ι' ι) (S':=fun g=> S g∨S' g) (w':=w') (ob':=(σ.after ρ outs (ins.map (·.1)) I).ob) (inc':=inc') (fun c=> c∈(outs.map (·.1)).map ρ∨c∈(ins.map (·.1)).map ρ)
    (hk2.mono fun g ⟨i,B,h1,h2,h3⟩=> ⟨ρ i,B, .inr (List.mem_map_of_mem h1),h2,h3⟩)
    (fun c hc=> by rw [cy fun h=> hc (.inl h),notin fun h=> hc (.inr h)];rfl)
    (fun c hc=> by show bG _ _ _ _ _=_;rw [bV fun h=> hc (.inl h),notin fun h=> hc (.inr h)];rfl)
    (fun c hc=> hinc1 c fun h=> hc (.inl h))
    (fun c hc=> ?_) (fun g h=> .inl h) (fun g h=> ?_) (fun g h=> ?_) (fun c B hc hB=> ?_) (fun c oc hc hoc=> ?_) (fun c B hc hB=> ?_) (fun c c' B B' g hc hB hB' hg hg'=> ?_) (fun c B g hc hB hg=> ?_) (fun c h oc hc hp hoc=> ?_)
  · have:=R3.put o.dst (av:=r.ren ρ) (v:=v) ?_ fun id hi=> ?_
    · exact this
    · have:=R2.fr 0 (by simp [aS])
      simp only [aS,Nat.beq_refl,cond_true] at this
      exact hrepr (fun i hi=> bX r hwo hi) (by simpa using this)
    obtain ⟨j,hj,rfl⟩:=iJ r hi
    obtain ⟨⟨i',oc⟩,h,rfl⟩:=List.mem_map.1 (bX r hwo hj)
    show bG _ _ _ _ _≠_
    rw [bD hno h]
    intro h;cases h
  · by_cases h1:c∈(outs.map (·.1)).map ρ
    · obtain ⟨i,oc,h,rfl⟩:=houtcase c h1
      have:bG ρ outs (ins.map (·.1)) σ.ob (ρ i)= .free:=hc
      rw [bD hno h] at this;cases this
    by_cases h2:c∈(ins.map (·.1)).map ρ
    · have:=(hobA c h1 h2).symm.trans hc;cases this
    have:bG ρ outs (ins.map (·.1)) σ.ob c= .free:=hc
    rwa [bV h1,notin h2] at this
  · rcases h with h | h
    · exact .inl h
    rcases hS2 g h with h | h
    · exact .inl h
    exact .inr (.inl h)
  · rcases h with h | h
    · exact Nat.lt_of_lt_of_le (R.Slt g h) hk2.size
    exact R2.Slt g h
  · by_cases h1:c∈(outs.map (·.1)).map ρ
    · obtain ⟨i,oc,h,rfl⟩:=houtcase c h1
      by_cases hi:i∈ins.map (·.1)
      · rw [bu hno (houtm h),hkeep i oc h hi] at hB
        exact .inl hB
      exact .inr (hfresh i oc h hi)
    rcases hc with hc | hc
    · exact absurd hc h1
    rw [hιA c h1 hc] at hB;cases hB
  · by_cases h1:c∈(outs.map (·.1)).map ρ
    · obtain ⟨i,oi,h,rfl⟩:=houtcase c h1
      have e:bG ρ outs (ins.map (·.1)) σ.ob (ρ i)= .obj oc:=hoc
      rw [bD hno h] at e
      obtain rfl:=Slot.obj.inj e
      have hO:=hob2 i oi h
      have hι:=bu (ins:=ins.map (·.1)) (ι':=ι') (ι:=ι) hno (houtm h)
      refine ⟨?_,fun id' hi=> ?_⟩
      · cases oi with
        | row e sz ys=>
          obtain ⟨B,b1,b2,b3⟩:=hO
          exact ⟨B,by rw [hι];exact b1,b2,b3.next (fun _ _=> rfl) fun j u hu p hp=> (hu p hp).next (fun _ _=> rfl) fun g h=> .inr h⟩
        | rowA e sz ys=>
          obtain ⟨B,b1,b2,b4⟩:=hO
          refine ⟨B,by rw [hι];exact b1,b2,?_⟩
          rw [cX]
          refine b4.next (fun _ _=> rfl) fun j u hu q hq=> ?_
          rw [dB] at hq
          obtain ⟨b,hb,rfl⟩:=Option.map_eq_some_iff.1 hq
          exact hrepr (fun k hk=> cW hwoo h ⟨b,List.mem_of_getElem? hb,hk⟩) (hu b hb)
        | box e ys=>
          obtain ⟨B,g,b1,b2,b3,b4⟩:=hO
          refine ⟨B,g,by rw [hι];exact b1,b2,by rw [cX];exact b3,?_⟩
          rw [cX]
          refine b4.next (fun _ _=> rfl) fun j u hu q hq=> ?_
          rw [dB] at hq
          obtain ⟨b,hb,rfl⟩:=Option.map_eq_some_iff.1 hq
          exact hrepr (fun k hk=> cW hwoo h ⟨b,List.mem_of_getElem? hb,hk⟩) (hu b hb)
        | mp es clock=>
          obtain ⟨B,g,b1,b2,b3⟩:=hO
          exact ⟨B,g,by rw [hι];exact b1,b2,b3⟩
        | it m since seen stepped=>
          obtain ⟨B,g,b1,b2,mg,b3,b4⟩:=hO
          refine ⟨B,g,by rw [hι];exact b1,b2,mg,b3,fun B' hB'=> b4 B' ?_⟩
          rw [bu hno (cW hwoo h rfl)] at hB'
          exact hB'
      cases oi with
      | row e sz ys=> exact hi.elim
      | mp es clock=> exact hi.elim
      | it m since seen stepped=>
        have hi:id'=ρ m:=hi
        subst hi
        obtain ⟨⟨i',oc'⟩,h',rfl⟩:=List.mem_map.1 (cW hwoo h (rfl:Cells.Has m (.it m since seen stepped)))
        show bG _ _ _ _ _≠_
        rw [bD hno h']
        intro h;cases h
      | rowA e sz ys=>
        obtain ⟨q,hq,hqi⟩:=hi
        obtain ⟨j,b,hb,hj,rfl⟩:=dE ys q hq hqi
        obtain ⟨⟨i',oc'⟩,h',rfl⟩:=List.mem_map.1 (cW hwoo h ⟨b,hb,hj⟩)
        show bG _ _ _ _ _≠_
        rw [bD hno h']
        intro h;cases h
      | box e ys=>
        obtain ⟨q,hq,hqi⟩:=hi
        obtain ⟨j,b,hb,hj,rfl⟩:=dE ys q hq hqi
        obtain ⟨⟨i',oc'⟩,h',rfl⟩:=List.mem_map.1 (cW hwoo h ⟨b,hb,hj⟩)
        show bG _ _ _ _ _≠_
        rw [bD hno h']
        intro h;cases h
    rcases hc with hc | hc
    · exact absurd hc h1
    have:=(hobA c h1 hc).symm.trans hoc;cases this
  · by_cases h1:c∈(outs.map (·.1)).map ρ
    · obtain ⟨i,oi,h,rfl⟩:=houtcase c h1
      exact ⟨_,bD hno h⟩
    rcases hc with hc | hc
    · exact absurd hc h1
    rw [hιA c h1 hc] at hB;cases hB
  · by_cases h1:c∈(outs.map (·.1)).map ρ
    · obtain ⟨i,oi,h,rfl⟩:=houtcase c h1
      rw [bu hno (houtm h)] at hB
      by_cases h2:c'∈(outs.map (·.1)).map ρ
      · obtain ⟨i',oi',h',rfl⟩:=houtcase c' h2
        rw [bu hno (houtm h')] at hB'
        rw [R2.inj i i' B B' g hB hB' hg hg']
      by_cases h3:c'∈(ins.map (·.1)).map ρ
      · rw [hιA c' h2 h3] at hB';cases hB'
      rw [cy h2,notin h3] at hB'
      have hB':ι c'=some B':=hB'
      rcases hblk i oi B g h hB hg with ⟨i0,B0,a1,a2,a3⟩ | hge
      · have:=R.inj _ _ B' B0 g hB' a2 hg' a3
        exact absurd (this ▸ List.mem_map_of_mem a1) h3
      have:=R.lt hB' hg'
      omega
    rcases hc with hc | hc
    · exact absurd hc h1
    rw [hιA c h1 hc] at hB;cases hB
  · by_cases h1:c∈(outs.map (·.1)).map ρ
    · obtain ⟨i,oi,h,rfl⟩:=houtcase c h1
      rw [bu hno (houtm h)] at hB
      obtain ⟨s1,s2,s3⟩:=R2.sep i B g hB hg
      refine ⟨fun hs=> ?_,?_,fun hf=> ?_⟩
      · rcases hs with hs | hs
        · rcases s2 with ⟨i0,B0,a1,a2,a3⟩ | hge
          · exact (R.sep _ B0 g a2 a3).1 hs
          have:=R.Slt g hs
          have hge:w.heap.size≤g:=hge
          omega
        exact s1 hs
      · rcases s2 with ⟨i0,B0,a1,a2,a3⟩ | hge
        · exact (R.sep _ B0 g a2 a3).2.1
        exact .inr (Nat.le_trans R.keeps.size hge)
      rcases hinc2 i (houtm h) hf with ⟨h1,h2⟩ | hI | ⟨h1,h2⟩
      · rw [hkeep i oi h h1] at hB
        exact (R.sep _ B g hB hg).2.2 h2
      · exact Nat.le_trans R.keeps.size (s3 hI)
      rcases s2 with ⟨i0,B0,a1,a2,a3⟩ | hge
      · by_cases h3:i0∈outs.map (·.1)
        · obtain ⟨⟨i1,o1⟩,hm1,rfl⟩:=List.mem_map.1 h3
          have hk0:=hkeep i1 o1 hm1 a1
          have:=R2.inj i i1 B B0 g hB (hk0.trans a2) hg a3
          exact absurd (this ▸ a1) h1
        exact (R.sep _ B0 g a2 a3).2.2 (h2 i0 a1 h3)
      exact Nat.le_trans R.keeps.size hge
    rcases hc with hc | hc
    · exact absurd hc h1
    rw [hιA c h1 hc] at hB;cases hB
  by_cases h1:c∈(outs.map (·.1)).map ρ
  · obtain ⟨i,oi,hm,rfl⟩:=houtcase c h1
    by_cases hi:i∈ins.map (·.1)
    · obtain ⟨_,o2,_,_,_,h2,_⟩:=hino i hi
      exact ⟨by rw [bu hno (houtm hm),hkeep i oi hm hi],o2,h2⟩
    rw [R.pf _ (hfresh i oi hm hi)] at hp;cases hp
  rcases hc with hc | hc
  · exact absurd hc h1
  have:=(hobA c h1 hc).symm.trans hoc;cases this

theorem lF {f:FuncId} {avs:List AV} (hE:EntersAt P o σ f avs) (rn:List (aw×aw)) {args:List AV} {ins outs:List (aw×Cells)} {r:AV} {I Pn:List aw}
    (ha:dw σ rn avs args) (hw:AV.withins (ins.map (·.1)) args=true) (hwi:aU (ins.map (·.1)) ins=true) (hins:cB (aO rn) σ (fun _=> false) (ins.map (·.1)) ins)
    (hni:aV ((ins.map (·.1)).map (aO rn))=true) (hni':aV (ins.map (·.1))=true) (hno:aV ((outs.map (·.1)).map (aO rn))=true) (hno':aV (outs.map (·.1))=true) (hfr:cH σ (aO rn) (ins.map (·.1)) outs) (hPn:ei (ins.map (·.1)) Pn outs=true)
    (hwo:r.within (outs.map (·.1))=true) (hwoo:aU (outs.map (·.1)) outs=true) (sp:Spec P f (aZ args ins) (aS r outs I Pn)):
    bp P o σ ((σ.after (aO rn) outs (ins.map (·.1)) I).put o.dst (r.ren (aO rn))):=by
  refine jf hE rn (σ.after (aO rn) outs (ins.map (·.1)) I).inc (fun c hc=> eu hc) (fun i hi hf=> ?_) ha hw hwi hins hni hni' hno hno' hfr hPn hwo hwoo sp
  obtain ⟨⟨i',oi⟩,h,rfl⟩:=List.mem_map.1 hi
  have hf:dF (aO rn) outs I (cP σ ((ins.map (·.1)).map (aO rn))) σ.inc (aO rn i')=false:=hf
  rw [fu (aQ hno) h] at hf
  cases hI:bs i' I with
  | false=> exact .inr (.inl rfl)
  | true=>
    rw [hI] at hf
    simp only [cond_true] at hf
    have hall: ∀ j,j∈ins.map (·.1)→σ.inc (aO rn j)=false:=fun j hj=> ee hf _ (List.mem_map_of_mem hj)
    by_cases hin:i'∈ins.map (·.1)
    · exact .inl ⟨hin,hall _ hin⟩
    exact .inr (.inr ⟨hin,fun j hj _=> hall j hj⟩)
def fj (ρ:aw→aw) (ins I:List aw) (any:Bool) (inc:aw→Bool):List (aw×Cells)→aw→Bool
  | [],c=> inc c
  | (i,_)::l,c=> bif dL c (ρ i) then (bif bs i ins then inc c else bif bs i I then any else false) else fj ρ ins I any inc l c
theorem gi {ρ:aw→aw} {ins I:List aw} {any:Bool} {inc:aw→Bool} {c:aw}: ∀ {outs:List (aw×Cells)},c∉(outs.map (·.1)).map ρ→fj ρ ins I any inc outs c=inc c
  | [],_=> rfl
  | (k,o)::l,h=> by
    simp only [List.map_cons,List.mem_cons,not_or] at h
    simp only [fj,da h.1,cond_false]
    exact gi h.2
theorem jk {ρ:aw→aw} {ins I:List aw} {any:Bool} {inc:aw→Bool} {i:aw}: ∀ {outs:List (aw×Cells)},((outs.map (·.1)).map ρ).Nodup→i∈outs.map (·.1)→fj ρ ins I any inc outs (ρ i)=(bif bs i ins then inc (ρ i) else bif bs i I then any else false)
  | [],_,h=> by simp at h
  | (k,o)::l,hn,h=> by
    simp only [List.map_cons,List.nodup_cons] at hn
    simp only [List.map_cons,List.mem_cons] at h
    rcases h with rfl | h
    · simp only [fj,bN,cond_true]
    have hne:ρ i≠ρ k:=fun e=> hn.1 (e ▸ List.mem_map_of_mem h)
    simp only [fj,da hne,cond_false]
    exact jk hn.2 h
def dg (outs:List (aw×Cells)):List aw→List aw
  | []=> []
  | i::l=> bif bs i (outs.map (·.1)) then dg outs l else i::dg outs l
theorem dU {outs:List (aw×Cells)} {i:aw}: ∀ {l:List aw},i∈l→i∉outs.map (·.1)→i∈dg outs l
  | [],h,_=> by cases h
  | k::l,h,hn=> by
    simp only [dg]
    cases hb:bs k (outs.map (·.1)) with
    | true=>
      simp only [cond_true]
      rcases List.mem_cons.1 h with rfl | h
      · exact absurd (inO_iff.1 hb) hn
      exact dU h hn
    | false=>
      simp only [cond_false]
      rcases List.mem_cons.1 h with rfl | h
      · exact List.mem_cons_self
      exact List.mem_cons_of_mem _ (dU h hn)
def St.afterP (σ:St) (ρ:aw→aw) (outs:List (aw×Cells)) (ins I:List aw):St:=
  { σ with ob:=bG ρ outs ins σ.ob,inc:=fj ρ ins I (cP σ ((dg outs ins).map ρ)) σ.inc outs }
theorem jy {f:FuncId} {avs:List AV} (hE:EntersAt P o σ f avs) (rn:List (aw×aw)) {args:List AV} {ins outs:List (aw×Cells)} {r:AV} {I Pn:List aw}
    (ha:dw σ rn avs args) (hw:AV.withins (ins.map (·.1)) args=true) (hwi:aU (ins.map (·.1)) ins=true) (hins:cB (aO rn) σ (fun _=> false) (ins.map (·.1)) ins)
    (hni:aV ((ins.map (·.1)).map (aO rn))=true) (hni':aV (ins.map (·.1))=true) (hno:aV ((outs.map (·.1)).map (aO rn))=true) (hno':aV (outs.map (·.1))=true) (hfr:cH σ (aO rn) (ins.map (·.1)) outs) (hPn:ei (ins.map (·.1)) Pn outs=true)
    (hwo:r.within (outs.map (·.1))=true) (hwoo:aU (outs.map (·.1)) outs=true) (sp:Spec P f (aZ args ins) (aS r outs I Pn)):
    bp P o σ ((σ.afterP (aO rn) outs (ins.map (·.1)) I).put o.dst (r.ren (aO rn))):=by
  refine jf hE rn (σ.afterP (aO rn) outs (ins.map (·.1)) I).inc (fun c hc=> gi hc) (fun i hi hf=> ?_) ha hw hwi hins hni hni' hno hno' hfr hPn hwo hwoo sp
  have hf:fj (aO rn) (ins.map (·.1)) I (cP σ ((dg outs (ins.map (·.1))).map (aO rn))) σ.inc outs (aO rn i)=false:=hf
  rw [jk (aQ hno) hi] at hf
  cases hb:bs i (ins.map (·.1)) with
  | true=>
    rw [hb] at hf
    exact .inl ⟨inO_iff.1 hb,hf⟩
  | false=>
    rw [hb] at hf
    simp only [cond_false] at hf
    cases hI:bs i I with
    | false=> exact .inr (.inl rfl)
    | true=>
      rw [hI] at hf
      simp only [cond_true] at hf
      refine .inr (.inr ⟨fun h=> ?_,fun j hj hn=> ee hf _ (List.mem_map_of_mem (dU hj hn))⟩)
      rw [inO_iff.2 h] at hb;cases hb

theorem cJ {dd:Option Tmp} {ty:TypeId} {f:FuncId} {xs:Array Operand} {ats:Array TypeId} (C:bR P f) (rn:List (aw×aw)) {args:List AV} {ins outs:List (aw×Cells)} {r:AV} {I Pn:List aw}
    (ha:dw σ rn (xs.toList.map σ.eval) args) (sp:Spec P f (aZ args ins) (aS r outs I Pn)) (hins:cB (aO rn) σ (fun _=> false) (ins.map (·.1)) ins) (hfr:cH σ (aO rn) (ins.map (·.1)) outs)
    (hb:(AV.withins (ins.map (·.1)) args && aU (ins.map (·.1)) ins && aV ((ins.map (·.1)).map (aO rn)) && aV (ins.map (·.1)) && aV ((outs.map (·.1)).map (aO rn)) && aV (outs.map (·.1)) && ei (ins.map (·.1)) Pn outs && r.within (outs.map (·.1)) && aU (outs.map (·.1)) outs)=true):
    Stp P dd (.call { callee:= .value (.func f),args:=xs,argTypes:=ats }) ty σ ((σ.after (aO rn) outs (ins.map (·.1)) I).put dd (r.ren (aO rn))):=by
  intro o hd ho ht
  subst hd
  simp only [Bool.and_eq_true] at hb
  obtain ⟨⟨⟨⟨⟨⟨⟨⟨h1,h2⟩,h3⟩,h4⟩,h5⟩,h6⟩,h7⟩,h8⟩,h9⟩:=hb
  exact lF (.fnc ho C) rn ha h1 h2 hins h3 h4 h5 h6 hfr h7 h8 h9 sp
end
theorem bc {x0 x1}:AV.v (.int x0 x1)=AV.v (.int x0 x1):=rfl
theorem dh {x0}:AV.v (.bool x0)=AV.v (.bool x0):=rfl
theorem kw {x0 x1}:AV.sl x0 x1=AV.sl x0 x1:=rfl
theorem mo {x0 x1 x2}:AV.ref x0 x1 x2=AV.ref x0 x1 x2:=rfl
theorem nP {x0 x1 x2}:AV.v (.slice x0 x1 x2)=AV.v (.slice x0 x1 x2):=rfl
theorem gg {x0 x1}:some (AV.v (.int x0 x1))=some (AV.v (.int x0 x1)):=rfl
theorem iU {x0 x1}:(some [x0,x1]:Option (List AV))=some [x0,x1]:=rfl
theorem bI {x0 x1}:AV.ptr x0 x1=AV.ptr x0 x1:=rfl
theorem gx {x0 x1 x2}:some (AV.ref x0 x1 x2)=some (AV.ref x0 x1 x2):=rfl
theorem pd {x0}:AV.v x0=AV.v x0:=rfl
theorem fJ {x0 x1 x2}:AV.fn x0 x1 x2=AV.fn x0 x1 x2:=rfl
theorem et {x0 x1}:some (AV.sl x0 x1)=some (AV.sl x0 x1):=rfl
theorem km {P:Program} {fn:Func} {σ:St} {t:Tmp} {x:Value} (hr:fn.results= #[.tmp t]) (h:σ.eval (.tmp t)= .v x):ii P fn (aX (.v x) []) .ret σ:=dk (.inr rfl) hr (.tmp h) (Le.out [] [] .v rfl rfl rfl trivial trivial)
theorem tI {P:Program} {fn:Func} {σ:St} {t:Tmp} {n:Nat} {xs:List PV} (hr:fn.results= #[.tmp t]) (h:σ.eval (.tmp t)= .sl n xs):ii P fn (aX (.sl n xs) []) .ret σ:=dk (.inr rfl) hr (.tmp h) (Le.out [] [] .sl rfl rfl rfl trivial trivial)
theorem sa {P:Program} {fn:Func} {σ:St} {t:Tmp} {k:IntKind} {n m:Int} (hr:fn.results= #[.tmp t]) (h:σ.eval (.tmp t)= .v (.int k n)) (e:m=n):ii P fn (aX (.v (.int k m)) []) .ret σ:=dk (.inr rfl) hr (.tmp h) (Le.out [] [] (aF e) rfl rfl rfl trivial trivial)
theorem qt {P:Program} {fn:Func} {σ:St} {t:Tmp} {a b:Bool} (hr:fn.results= #[.tmp t]) (h:σ.eval (.tmp t)= .v (.bool b)) (e:a=b):ii P fn (aX (.v (.bool a)) []) .ret σ:=dk (.inr rfl) hr (.tmp h) (Le.out [] [] (po e) rfl rfl rfl trivial trivial)
theorem oC {p:Prop} (h:p:=by simp [Value.oneCell']):p:=h
end Go.Proofs.Ytmjnackchaahbaa

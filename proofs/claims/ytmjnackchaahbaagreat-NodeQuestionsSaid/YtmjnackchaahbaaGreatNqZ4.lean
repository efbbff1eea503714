/- part 4 -/
import Derived.Test.YtmjnackchaahbaaGreatNqZ3
set_option linter.unusedSimpArgs false
set_option linter.unusedVariables false
namespace Go.Proofs.YtmjnackchaahbaaGreat
open Go.RowKit

def Stp (P:Program) (d:Option Tmp) (op:Op) (ty:TypeId) (σ σ':St):Prop:= ∀ o:Oper,o.dst=d→o.op=op→o.type=ty→dh P o σ σ'
section
variable {P:Program} {σ:St} {av:AV} {t e T:TypeId} {agg:Bool} {z:List Value} {size bytes:Nat} {t':TypeId} {a b:Int} {k:IntKind}
theorem aH {dd:Option Tmp} {ty:TypeId} (x:Operand) (hx:σ.eval x=av):Stp P dd (.move x) ty σ ((σ.put dd av)):=
 fun o hd ho ht=> by subst hd;subst ht;exact JU (ho:=ho) (x:=x) (hx:=hx)
theorem bp {dd:Option Tmp} {ty:TypeId} (x:Operand) (hx:σ.eval x=av):Stp P dd (.assign x) ty σ ((σ.put dd av)):=
 fun o hd ho ht=> by subst hd;subst ht;exact Jh (ho:=ho) (x:=x) (hx:=hx)
theorem aB {dd:Option Tmp} {ty:TypeId} {b:Bool} (c x y:Operand) (hc:σ.eval c= .v (.bool b)) (hx:σ.eval (if b then x else y)=av):Stp P dd (.pick c x y) ty σ ((σ.put dd av)):=
 fun o hd ho ht=> by subst hd;subst ht;exact FW (ho:=ho) (b:=b) (c:=c) (x:=x) (y:=y) (hc:=hc) (hx:=hx)
theorem aS {dd:Option Tmp} {ty:TypeId} (x:Operand) {id:aC} {off:Nat} {oc:Cells} (hx:σ.eval x= .ptr id off) (hid:σ.ob id= .obj oc):Stp P dd (.nilCheck x) ty σ ((σ.put dd (.ptr id off))):=
 fun o hd ho ht=> by subst hd;subst ht;exact FE (ho:=ho) (x:=x) (id:=id) (off:=off) (oc:=oc) (hx:=hx) (hid:=hid)
theorem aA {dd:Option Tmp} {ty:TypeId} {T:TypeId} {f off:Nat} (x:Operand) (F:eS P T f off) {id:aC} {of0 of1:Nat} {oc:Cells} (hx:σ.eval x= .ptr id of0) (hid:σ.ob id= .obj oc) (he:of0+off=of1):Stp P dd (.fieldAddr T x f) ty σ ((σ.put dd (.ptr id of1))):=
 fun o hd ho ht=> by subst hd;subst ht;exact EM (ho:=ho) (T:=T) (f:=f) (off:=off) (x:=x) (F:=F) (id:=id) (of0:=of0) (of1:=of1) (oc:=oc) (hx:=hx) (hid:=hid) (he:=he)
theorem di {dd:Option Tmp} {ty:TypeId} {T:TypeId} {f off:Nat} (x:Operand) (F:eS P T f off) {of0 of1:Nat} {xs:List PV} (hx:σ.eval x= .fp of0 xs) (he:of0+off=of1):Stp P dd (.fieldAddr T x f) ty σ ((σ.put dd (.fp of1 xs))):=
 fun o hd ho ht=> by subst hd;subst ht;exact DQ (ho:=ho) (T:=T) (f:=f) (off:=off) (x:=x) (F:=F) (of0:=of0) (of1:=of1) (xs:=xs) (hx:=hx) (he:=he)
theorem bn {dd:Option Tmp} {ty:TypeId} {T e:TypeId} {size bytes:Nat} {z:List Value} (x y:Operand) (E:Elem P T e size bytes z) {n:Nat} {xs:List PV} (hx:σ.eval x= .sl n xs) {k:IntKind} {I:Int} (hy:σ.eval y= .v (.int k I)) (j:Nat) (hI:I=(j:Int)) (hj:j < n) (hne:0 < xs.length) {off:Nat} (he:j*size=off):Stp P dd (.indexAddr T x y) ty σ ((σ.put dd (.fp off xs))):=
 fun o hd ho ht=> by subst hd;subst ht;exact GH (ho:=ho) (T:=T) (e:=e) (size:=size) (bytes:=bytes) (z:=z) (x:=x) (y:=y) (E:=E) (n:=n) (xs:=xs) (hx:=hx) (k:=k) (I:=I) (hy:=hy) (j:=j) (hI:=hI) (hj:=hj) (hne:=hne) (off:=off) (he:=he)
theorem fh {dd:Option Tmp} {ty:TypeId} {T e e':TypeId} {size bytes sz:Nat} {z:List Value} (x y:Operand) (E:Elem P T e size bytes z) {id:aC} {of0 n:Nat} {xs:List PV} (hx:σ.eval x= .ref id of0 n) (hid:σ.ob id= .obj (.row e' sz xs)) {k:IntKind} {I:Int} (hy:σ.eval y= .v (.int k I)) (j:Nat) (hI:I=(j:Int)) (hj:j < n) {off:Nat} (he:of0+j*size=off):Stp P dd (.indexAddr T x y) ty σ ((σ.put dd (.ptr id off))):=
 fun o hd ho ht=> by subst hd;subst ht;exact GI (ho:=ho) (T:=T) (e:=e) (e':=e') (size:=size) (bytes:=bytes) (sz:=sz) (z:=z) (x:=x) (y:=y) (E:=E) (id:=id) (of0:=of0) (n:=n) (xs:=xs) (hx:=hx) (hid:=hid) (k:=k) (I:=I) (hy:=hy) (j:=j) (hI:=hI) (hj:=hj) (off:=off) (he:=he)
theorem aF {dd:Option Tmp} {ty:TypeId} (x:Operand) (T:Ty P t false z) {id:aC} {off:Nat} (hx:σ.eval x= .ptr id off) {e:TypeId} {xs:List AV} (hid:σ.ob id= .obj (.box e xs)) (hv:xs[off]? =some av):Stp P dd (.load t x) ty σ ((σ.put dd av)):=
 fun o hd ho ht=> by subst hd;subst ht;exact GW (ho:=ho) (x:=x) (T:=T) (id:=id) (off:=off) (hx:=hx) (e:=e) (xs:=xs) (hid:=hid) (hv:=hv)
theorem jX {dd:Option Tmp} {ty:TypeId} (x:Operand) (T:Ty P t false z) {id:aC} {off:Nat} (hx:σ.eval x= .ptr id off) {e:TypeId} {sz:Nat} {xs:List PV} (hid:σ.ob id= .obj (.row e sz xs)) {p:PV} (hv:xs[off]? =some p) (ha:p.up=av):Stp P dd (.load t x) ty σ ((σ.put dd av)):=
 fun o hd ho ht=> by subst hd;subst ht;exact GO (ho:=ho) (x:=x) (T:=T) (id:=id) (off:=off) (hx:=hx) (e:=e) (sz:=sz) (xs:=xs) (hid:=hid) (p:=p) (hv:=hv) (ha:=ha)
theorem bT {dd:Option Tmp} {ty:TypeId} (x:Operand) (T:Ty P t false z) {off:Nat} {xs:List PV} (hx:σ.eval x= .fp off xs) {p:PV} (hv:xs[off]? =some p) (ha:p.up=av):Stp P dd (.load t x) ty σ ((σ.put dd av)):=
 fun o hd ho ht=> by subst hd;subst ht;exact HA (ho:=ho) (x:=x) (T:=T) (off:=off) (xs:=xs) (hx:=hx) (p:=p) (hv:=hv) (ha:=ha)
theorem az {dd:Option Tmp} {ty:TypeId} (x:Operand) (T:Ty P t true z) {id:aC} {off:Nat} (hx:σ.eval x= .ptr id off) {e:TypeId} {xs:List AV} (hid:σ.ob id= .obj (.box e xs)) {ys:List AV} (hy:(xs.drop off).take z.length=ys) (hl:ys.length=z.length):Stp P dd (.load t x) ty σ ((σ.put dd (.agg ys))):=
 fun o hd ho ht=> by subst hd;subst ht;exact DV (ho:=ho) (x:=x) (T:=T) (id:=id) (off:=off) (hx:=hx) (e:=e) (xs:=xs) (hid:=hid) (ys:=ys) (hy:=hy) (hl:=hl)
theorem tM {dd:Option Tmp} {ty:TypeId} (x:Operand) (T:Ty P t true z) {id:aC} {off:Nat} (hx:σ.eval x= .ptr id off) {e:TypeId} {sz:Nat} {xs:List PV} (hid:σ.ob id= .obj (.row e sz xs)) {ys:List AV} (hy:PV.ups ((xs.drop off).take z.length)=ys) (hl:ys.length=z.length):Stp P dd (.load t x) ty σ ((σ.put dd (.agg ys))):=
 fun o hd ho ht=> by subst hd;subst ht;exact Dy (ho:=ho) (x:=x) (T:=T) (id:=id) (off:=off) (hx:=hx) (e:=e) (sz:=sz) (xs:=xs) (hid:=hid) (ys:=ys) (hy:=hy) (hl:=hl)
theorem cg {dd:Option Tmp} {ty:TypeId} (x:Operand) (T:Ty P t true z) {off:Nat} {xs:List PV} (hx:σ.eval x= .fp off xs) {ys:List AV} (hy:PV.ups ((xs.drop off).take z.length)=ys) (hl:ys.length=z.length):Stp P dd (.load t x) ty σ ((σ.put dd (.agg ys))):=
 fun o hd ho ht=> by subst hd;subst ht;exact Eh (ho:=ho) (x:=x) (T:=T) (off:=off) (xs:=xs) (hx:=hx) (ys:=ys) (hy:=hy) (hl:=hl)
theorem AD {dd:Option Tmp} {ty:TypeId} {T:TypeId} {f off sz:Nat} (x:Operand) (F:Fvl P T f off false sz) {xs:List AV} (hx:σ.eval x= .agg xs) (hv:xs[off]? =some av):Stp P dd (.field T x f) ty σ ((σ.put dd av)):=
 fun o hd ho ht=> by subst hd;subst ht;exact II (ho:=ho) (T:=T) (f:=f) (off:=off) (sz:=sz) (x:=x) (F:=F) (xs:=xs) (hx:=hx) (hv:=hv)
theorem bo {dd:Option Tmp} {ty:TypeId} {T e:TypeId} {size bytes:Nat} (x:Operand) (E:Elem P T e size bytes z) {n:Nat} {xs:List PV} (hx:σ.eval x= .sl n xs):Stp P dd (.call { callee:= .builtin .len,args:= #[x],argTypes:= #[T] }) ty σ ((σ.put dd (.v (.int .i64 (n:Int))))):=
 fun o hd ho ht=> by subst hd;subst ht;exact Fw (ho:=ho) (T:=T) (e:=e) (size:=size) (bytes:=bytes) (x:=x) (E:=E) (n:=n) (xs:=xs) (hx:=hx)
theorem cV {dd:Option Tmp} {ty:TypeId} {T e e':TypeId} {size bytes sz:Nat} (x:Operand) (E:Elem P T e size bytes z) {id:aC} {off n:Nat} {xs:List PV} (hx:σ.eval x= .ref id off n) (hid:σ.ob id= .obj (.row e' sz xs)):Stp P dd (.call { callee:= .builtin .len,args:= #[x],argTypes:= #[T] }) ty σ ((σ.put dd (.v (.int .i64 (n:Int))))):=
 fun o hd ho ht=> by subst hd;subst ht;exact EA (ho:=ho) (T:=T) (e:=e) (e':=e') (size:=size) (bytes:=bytes) (sz:=sz) (x:=x) (E:=E) (id:=id) (off:=off) (n:=n) (xs:=xs) (hx:=hx) (hid:=hid)
theorem aD {dd:Option Tmp} {ty:TypeId} (id:aC) (T:Ty P e agg z) (hid:σ.ob id= .free) {xs:List AV} (hx:z.map AV.v=xs):Stp P dd (.alloc e) ty σ (((σ.setOb id (.obj (.box e xs))).put dd (.ptr id 0))):=
 fun o hd ho ht=> by subst hd;subst ht;exact Bn (ho:=ho) (id:=id) (T:=T) (hid:=hid) (xs:=xs) (hx:=hx)
theorem aQ {dd:Option Tmp} {ty:TypeId} (id:aC) (x:Operand) (hid:σ.ob id= .free) {xs:List AV} (hx:(σ.eval x).cells=some xs):Stp P dd (.box e x) ty σ (((σ.setOb id (.obj (.box e xs))).put dd (.ptr id 0))):=
 fun o hd ho ht=> by subst hd;subst ht;exact IF (ho:=ho) (id:=id) (x:=x) (hid:=hid) (xs:=xs) (hx:=hx)
theorem dH {dd:Option Tmp} {ty:TypeId} (x y:Operand) (T:Ty P t agg z) {id:aC} {off:Nat} (hx:σ.eval x= .ptr id off) {e:TypeId} {xs:List AV} (hid:σ.ob id= .obj (.box e xs)) {vs:List AV} (hv:(σ.eval y).cells=some vs) (hl:vs.length=z.length) (hfit:off+vs.length≤xs.length) {ys:List AV} (hy:fX xs off vs=ys):Stp P dd (.store t x y) ty σ (((σ.setOb id (.obj (.box e ys))).put dd .dead)):=
 fun o hd ho ht=> by subst hd;subst ht;exact HJ (ho:=ho) (x:=x) (y:=y) (T:=T) (id:=id) (off:=off) (hx:=hx) (e:=e) (xs:=xs) (hid:=hid) (vs:=vs) (hv:=hv) (hl:=hl) (hfit:=hfit) (ys:=ys) (hy:=hy)
theorem oA {dd:Option Tmp} {ty:TypeId} (x y:Operand) (T:Ty P t agg z) {id:aC} {off:Nat} (hx:σ.eval x= .ptr id off) {e:TypeId} {sz:Nat} {xs:List PV} (hid:σ.ob id= .obj (.row e sz xs)) {ys0:List AV} (hv:(σ.eval y).cells=some ys0) {vs:List PV} (hd:ky ys0=some vs) (hl:vs.length=z.length) (hfit:off+vs.length≤xs.length) {ys:List PV} (hy:fX xs off vs=ys):Stp P dd (.store t x y) ty σ (((σ.setOb id (.obj (.row e sz ys))).put dd .dead)):=
 fun o hd ho ht=> by subst hd;subst ht;exact He (ho:=ho) (x:=x) (y:=y) (T:=T) (id:=id) (off:=off) (hx:=hx) (e:=e) (sz:=sz) (xs:=xs) (hid:=hid) (ys0:=ys0) (hv:=hv) (vs:=vs) (hd:=hd) (hl:=hl) (hfit:=hfit) (ys:=ys) (hy:=hy)
theorem pS {dd:Option Tmp} {ty:TypeId} (id:aC) (x y:Operand) (E:Elem P T e size bytes z) {kl kc:IntKind} {N M:Int} (hx:σ.eval x= .v (.int kl N)) (hy:σ.eval y= .v (.int kc M)) (n:Nat) (hN:N=(n:Int)) (hM:M=(n:Int)) (hb:n*bytes≤140737488355328) (hid:σ.ob id= .free) {xs:List PV} (hxs:(rep n z).map PV.v=xs):Stp P dd (Op.makeSlice T x y) ty σ (((σ.setOb id (.obj (.row e size xs))).put dd (.ref id 0 n))):=
 fun o hd ho ht=> by subst hd;subst ht;exact Jz (ho:=ho) (id:=id) (x:=x) (y:=y) (E:=E) (kl:=kl) (kc:=kc) (N:=N) (M:=M) (hx:=hx) (hy:=hy) (n:=n) (hN:=hN) (hM:=hM) (hb:=hb) (hid:=hid) (xs:=xs) (hxs:=hxs)
theorem kv {dd:Option Tmp} {ty:TypeId} (id:aC) (len:Nat) (parts:Array (Nat×Operand)) (E:Elem P T e size bytes z) {r:List (List AV)} (hp:mG σ 0 parts.toList=some r) (hlen:r.length=len) (hsz: ∀ c∈r,c.length=size) (hb:len*size≤100000) (hid:σ.ob id= .free) {xs:List PV} (hxs:ky r.flatten=some xs):Stp P dd (.buildSlice T len parts) ty σ (((σ.setOb id (.obj (.row e size xs))).put dd (.ref id 0 len))):=
 fun o hd ho ht=> by subst hd;subst ht;exact Jm (ho:=ho) (id:=id) (len:=len) (parts:=parts) (E:=E) (r:=r) (hp:=hp) (hlen:=hlen) (hsz:=hsz) (hb:=hb) (hid:=hid) (xs:=xs) (hxs:=hxs)
theorem du {dd:Option Tmp} {ty:TypeId} (id':aC) (s x:Operand) (E:Elem P T e size bytes z) {id:aC} {n:Nat} {xs:List PV} (hs:σ.eval s= .ref id 0 n) (hid:σ.ob id= .obj (.row e size xs)) (hl:n*size=xs.length) {m:Nat} {news:List PV} (hx:SrcAV σ (σ.eval x) size m news) (hb:(n+m)*bytes≤140737488355328) (hid':σ.ob id'= .free) {ys:List PV} (hy:xs++news=ys) {k:Nat} (hk:n+m=k):Stp P dd (.call { callee:= .builtin .append,args:= #[s,x],argTypes:= #[T,T] }) ty σ (((((σ.setOb id .gone).setOb id' (.obj (.row e size ys))).setInc id' (σ.inc id)).put dd (.ref id' 0 k))):=
 fun o hd ho ht=> by subst hd;subst ht;exact Jn (ho:=ho) (id':=id') (s:=s) (x:=x) (E:=E) (id:=id) (n:=n) (xs:=xs) (hs:=hs) (hid:=hid) (hl:=hl) (m:=m) (news:=news) (hx:=hx) (hb:=hb) (hid':=hid') (ys:=ys) (hy:=hy) (k:=k) (hk:=hk)
theorem wi {dd:Option Tmp} {ty:TypeId} (id':aC) (s x:Operand) (E:Elem P T e size bytes z) (hs:σ.eval s= .v (.slice none 0 0)) {m:Nat} {news:List PV} (hx:SrcAV σ (σ.eval x) size m news) (hb:m*bytes≤140737488355328) (hid':σ.ob id'= .free):Stp P dd (.call { callee:= .builtin .append,args:= #[s,x],argTypes:= #[T,T] }) ty σ (((σ.setOb id' (.obj (.row e size news))).put dd (.ref id' 0 m))):=
 fun o hd ho ht=> by subst hd;subst ht;exact In (ho:=ho) (id':=id') (s:=s) (x:=x) (E:=E) (hs:=hs) (m:=m) (news:=news) (hx:=hx) (hb:=hb) (hid':=hid')
theorem CP {dd:Option Tmp} {ty:TypeId} {sT:TypeId} (d s:Operand) (E:Elem P T e 1 bytes z) {id:aC} {n:Nat} {xs:List PV} (hd:σ.eval d= .ref id 0 n) (hid:σ.ob id= .obj (.row e 1 xs)) (hl:n=xs.length) {m:Nat} {news:List PV} (hx:SrcAV σ (σ.eval s) 1 m news) {ys:List PV} (hy:news.take n++xs.drop m=ys) {k:Nat} (hk:min m n=k):Stp P dd (.call { callee:= .builtin .copy,args:= #[d,s],argTypes:= #[T,sT] }) ty σ (((σ.setOb id (.obj (.row e 1 ys))).put dd (.v (.int .i64 (k:Int))))):=
 fun o hd ho ht=> by subst hd;subst ht;exact Jc (ho:=ho) (sT:=sT) (d:=d) (s:=s) (E:=E) (id:=id) (n:=n) (xs:=xs) (hd:=hd) (hid:=hid) (hl:=hl) (m:=m) (news:=news) (hx:=hx) (ys:=ys) (hy:=hy) (k:=k) (hk:=hk)
theorem lc {dd:Option Tmp} {ty:TypeId} (x:Operand) (lo hi:Option Operand) (E:Elem P T e size bytes z) {n:Nat} {xs:List PV} (hx:σ.eval x= .sl n xs) (lv hv:Nat) (hl:Bnd σ 0 lo lv) (hh:Bnd σ n hi hv) (h1:lv≤hv) (h2:hv≤n) {ys:List PV} (hy:(xs.drop (lv*size)).take ((hv - lv)*size)=ys) {k:Nat} (hk:hv - lv=k):Stp P dd (.slice T x lo hi none) ty σ ((σ.put dd (.sl k ys))):=
 fun o hd ho ht=> by subst hd;subst ht;exact Hu (ho:=ho) (x:=x) (lo:=lo) (hi:=hi) (E:=E) (n:=n) (xs:=xs) (hx:=hx) (lv:=lv) (hv:=hv) (hl:=hl) (hh:=hh) (h1:=h1) (h2:=h2) (ys:=ys) (hy:=hy) (k:=k) (hk:=hk)
theorem zE {dd:Option Tmp} {ty:TypeId} (x:Operand) (lo hi:Option Operand) (E:Elem P T e size bytes z) {id:aC} {of0 n:Nat} {xs:List PV} (hx:σ.eval x= .ref id of0 n) (hid:σ.ob id= .obj (.row e size xs)) (lv hv:Nat) (hl:Bnd σ 0 lo lv) (hh:Bnd σ n hi hv) (h1:lv≤hv) (h2:hv≤n) {off:Nat} (hoff:of0+lv*size=off) {k:Nat} (hk:hv - lv=k):Stp P dd (.slice T x lo hi none) ty σ ((σ.put dd (.ref id off k))):=
 fun o hd ho ht=> by subst hd;subst ht;exact Im (ho:=ho) (x:=x) (lo:=lo) (hi:=hi) (E:=E) (id:=id) (of0:=of0) (n:=n) (xs:=xs) (hx:=hx) (hid:=hid) (lv:=lv) (hv:=hv) (hl:=hl) (hh:=hh) (h1:=h1) (h2:=h2) (off:=off) (hoff:=hoff) (k:=k) (hk:=hk)
theorem bC {dd:Option Tmp} {ty:TypeId} {r:Bool} (x y:Operand) (hx:σ.eval x= .v (.int k a)) (hy:σ.eval y= .v (.int k b)) (hr:(a==b)=r):Stp P dd (.binOp .eql t x y t') ty σ ((σ.put dd (.v (.bool r)))):=
 fun o hd ho ht=> by subst hd;subst ht;exact HV (ho:=ho) (r:=r) (x:=x) (y:=y) (hx:=hx) (hy:=hy) (hr:=hr)
theorem bL {dd:Option Tmp} {ty:TypeId} {r:Bool} (x y:Operand) (hx:σ.eval x= .v (.int k a)) (hy:σ.eval y= .v (.int k b)) (hr:(a !=b)=r):Stp P dd (.binOp .neq t x y t') ty σ ((σ.put dd (.v (.bool r)))):=
 fun o hd ho ht=> by subst hd;subst ht;exact HZ (ho:=ho) (r:=r) (x:=x) (y:=y) (hx:=hx) (hy:=hy) (hr:=hr)
theorem bl {dd:Option Tmp} {ty:TypeId} {r:Bool} (x y:Operand) (hx:σ.eval x= .v (.int k a)) (hy:σ.eval y= .v (.int k b)) (hr:decide (a < b)=r):Stp P dd (.binOp .lss t x y t') ty σ ((σ.put dd (.v (.bool r)))):=
 fun o hd ho ht=> by subst hd;subst ht;exact Hv (ho:=ho) (r:=r) (x:=x) (y:=y) (hx:=hx) (hy:=hy) (hr:=hr)
theorem wv {dd:Option Tmp} {ty:TypeId} {r:Bool} (x y:Operand) (hx:σ.eval x= .v (.int k a)) (hy:σ.eval y= .v (.int k b)) (hr:decide (a≤b)=r):Stp P dd (.binOp .leq t x y t') ty σ ((σ.put dd (.v (.bool r)))):=
 fun o hd ho ht=> by subst hd;subst ht;exact Hq (ho:=ho) (r:=r) (x:=x) (y:=y) (hx:=hx) (hy:=hy) (hr:=hr)
theorem fM {dd:Option Tmp} {ty:TypeId} {r:Bool} (x y:Operand) (hx:σ.eval x= .v (.int k a)) (hy:σ.eval y= .v (.int k b)) (hr:decide (b < a)=r):Stp P dd (.binOp .gtr t x y t') ty σ ((σ.put dd (.v (.bool r)))):=
 fun o hd ho ht=> by subst hd;subst ht;exact GS (ho:=ho) (r:=r) (x:=x) (y:=y) (hx:=hx) (hy:=hy) (hr:=hr)
theorem fw {dd:Option Tmp} {ty:TypeId} {r:Bool} (x y:Operand) (hx:σ.eval x= .v (.int k a)) (hy:σ.eval y= .v (.int k b)) (hr:decide (b≤a)=r):Stp P dd (.binOp .geq t x y t') ty σ ((σ.put dd (.v (.bool r)))):=
 fun o hd ho ht=> by subst hd;subst ht;exact Hz (ho:=ho) (r:=r) (x:=x) (y:=y) (hx:=hx) (hy:=hy) (hr:=hr)
theorem aZ {dd:Option Tmp} {ty:TypeId} {r:Int} (x y:Operand) (hx:σ.eval x= .v (.int k a)) (hy:σ.eval y= .v (.int k b)) (hr:k.wrap (a+b)=r):Stp P dd (.binOp .add t x y t') ty σ ((σ.put dd (.v (.int k r)))):=
 fun o hd ho ht=> by subst hd;subst ht;exact Hs (ho:=ho) (r:=r) (x:=x) (y:=y) (hx:=hx) (hy:=hy) (hr:=hr)
theorem jt {dd:Option Tmp} {ty:TypeId} {r:Int} (x y:Operand) (hx:σ.eval x= .v (.int k a)) (hy:σ.eval y= .v (.int k b)) (hr:k.wrap (a - b)=r):Stp P dd (.binOp .sub t x y t') ty σ ((σ.put dd (.v (.int k r)))):=
 fun o hd ho ht=> by subst hd;subst ht;exact HM (ho:=ho) (r:=r) (x:=x) (y:=y) (hx:=hx) (hy:=hy) (hr:=hr)
theorem BH {dd:Option Tmp} {ty:TypeId} {r:Int} (x y:Operand) (hx:σ.eval x= .v (.int k a)) (hy:σ.eval y= .v (.int k b)) (hr:k.wrap (a*b)=r):Stp P dd (.binOp .mul t x y t') ty σ ((σ.put dd (.v (.int k r)))):=
 fun o hd ho ht=> by subst hd;subst ht;exact IJ (ho:=ho) (r:=r) (x:=x) (y:=y) (hx:=hx) (hy:=hy) (hr:=hr)
theorem ez {dd:Option Tmp} {ty:TypeId} {r:Int} (x y:Operand) (hx:σ.eval x= .v (.int k a)) (hy:σ.eval y= .v (.int k b)) (hb:b≠0) (hr:k.wrap (a.tdiv b)=r):Stp P dd (.binOp .quo t x y t') ty σ ((σ.put dd (.v (.int k r)))):=
 fun o hd ho ht=> by subst hd;subst ht;exact Hi (ho:=ho) (r:=r) (x:=x) (y:=y) (hx:=hx) (hy:=hy) (hb:=hb) (hr:=hr)
theorem dX {dd:Option Tmp} {ty:TypeId} {r:Int} (x y:Operand) (hx:σ.eval x= .v (.int k a)) (hy:σ.eval y= .v (.int k b)) (hb:b≠0) (hr:a.tmod b=r):Stp P dd (.binOp .rem t x y t') ty σ ((σ.put dd (.v (.int k r)))):=
 fun o hd ho ht=> by subst hd;subst ht;exact Ih (ho:=ho) (r:=r) (x:=x) (y:=y) (hx:=hx) (hy:=hy) (hb:=hb) (hr:=hr)
theorem cj {dd:Option Tmp} {ty:TypeId} {p r:Bool} (x:Operand) (hx:σ.eval x= .v (.bool p)) (hr:(!p)=r):Stp P dd (.unOp .not t x) ty σ ((σ.put dd (.v (.bool r)))):=
 fun o hd ho ht=> by subst hd;subst ht;exact Io (ho:=ho) (p:=p) (r:=r) (x:=x) (hx:=hx) (hr:=hr)
theorem Ar {dd:Option Tmp} {ty:TypeId} {r:Int} (x:Operand) (hx:σ.eval x= .v (.int k a)) (hr:k.wrap (-a)=r):Stp P dd (.unOp .neg t x) ty σ ((σ.put dd (.v (.int k r)))):=
 fun o hd ho ht=> by subst hd;subst ht;exact GV (ho:=ho) (r:=r) (x:=x) (hx:=hx) (hr:=hr)

theorem ai {rb:Bool} {Q:Exit→St→Prop} {ops:Array Oper} {rest:List Oper} {σ':St} {d:Option Tmp} {op:Op} {ty:TypeId} {p:String} {af:Array Edge} (hs:Stp P d op ty σ σ') (h:DL rb P ops Q rest σ'):DL rb P ops Q (⟨d,op,ty,p,af,none⟩::rest) σ:=
 Eo rfl (hs _ rfl rfl rfl) h
theorem au {rb:Bool} {Q:Exit→St→Prop} {ops:Array Oper} {rest:List Oper} {σ':St} {d:Option Tmp} {op:Op} {ty:TypeId} {p:String} {af:Array Edge} {j d':Nat} {want:Bool} (hd:(ops[j]?).bind (·.dst)=some d') (hv:σ.eval (.tmp d')= .v (.bool want)) (hs:Stp P d op ty σ σ') (h:DL rb P ops Q rest σ'):DL rb P ops Q (⟨d,op,ty,p,af,some (j,want)⟩::rest) σ:=
 Iy rfl hd hv (hs _ rfl rfl rfl) h
theorem aK {rb:Bool} {Q:Exit→St→Prop} {ops:Array Oper} {rest:List Oper} {d:Option Tmp} {op:Op} {ty:TypeId} {p:String} {af:Array Edge} {j d':Nat} {want b:Bool} (hd:(ops[j]?).bind (·.dst)=some d') (hv:σ.eval (.tmp d')= .v (.bool b)) (hne:b≠want) (h:DL rb P ops Q rest (σ.put d (.v undef))):DL rb P ops Q (⟨d,op,ty,p,af,some (j,want)⟩::rest) σ:=
 CZ rfl hd hv (fun e=> hne (by cases e;rfl)) h
theorem eN {rb:Bool} {Q:Exit→St→Prop} {ops:Array Oper} {rest:List Oper} {d:Option Tmp} {op:Op} {ty:TypeId} {p:String} {af:Array Edge} {j d':Nat} {want:Bool} (hd:(ops[j]?).bind (·.dst)=some d') (hv:σ.eval (.tmp d')= .v undef) (h:DL rb P ops Q rest (σ.put d (.v undef))):DL rb P ops Q (⟨d,op,ty,p,af,some (j,want)⟩::rest) σ:=
 CZ rfl hd hv (fun e=> by cases e) h
theorem bM {rb:Bool} {Q:Exit→St→Prop} {c:Operand} {x y:Code} {t:Bool} (hc:σ.eval c= .v (.bool t)) (ht:t=true) (h:D rb P x Q σ):D rb P (.cond c x y) Q σ:=by subst ht;exact pK hc h
theorem aW {rb:Bool} {Q:Exit→St→Prop} {c:Operand} {x y:Code} {t:Bool} (hc:σ.eval c= .v (.bool t)) (ht:t=false) (h:D rb P y Q σ):D rb P (.cond c x y) Q σ:=by subst ht;exact pM hc h
theorem DO {rb:Bool} {Q:Exit→St→Prop} {c:Operand} {x y:Code} {t:Bool} (hc:σ.eval c= .v (.bool t)) (h:t=true→D rb P x Q σ) (h':t=false→D rb P y Q σ):D rb P (.cond c x y) Q σ:=by
 cases t
 ·exact pM hc (h' rfl)
 exact pK hc (h rfl)

theorem ap {all:List Oper} {W:List Nat} {I:List aC} {AA:List (List aC)} {Kont:List Res→Prop} {os:List Oper} {rs:List Res} {d:Option Tmp} {op:Op} {ty:TypeId} {p:String} {af:List Edge} (r:Res)
  (hs: ∀ τ,Stp P d op ty (ef σ W (iK AA I rs.length) (r.2.map (·.1)) all rs (Edge.ons af) τ) (r.app d (ef σ W (iK AA I rs.length) (r.2.map (·.1)) all rs (Edge.ons af) τ))) (h:AnyOps P all W I AA σ Kont os (rs++[r])):AnyOps P all W I AA σ Kont (⟨d,op,ty,p,af.toArray,none⟩::os) rs:=
 ⟨r, .plain rfl fun τ=> hs τ _ rfl rfl rfl,h⟩
theorem bN {all:List Oper} {W:List Nat} {I:List aC} {AA:List (List aC)} {Kont:List Res→Prop} {os:List Oper} {rs:List Res} {d:Option Tmp} {op:Op} {ty:TypeId} {p:String} {af:List Edge} {j d':Nat} {want:Bool} (r:Res) (hd:(all[j]?).bind (·.dst)=some d')
  (hv: ∀ τ,(ef σ W (iK AA I rs.length) (r.2.map (·.1)) all rs (Edge.ons af) τ).eval (.tmp d')= .v (.bool want))
  (hs: ∀ τ,Stp P d op ty (ef σ W (iK AA I rs.length) (r.2.map (·.1)) all rs (Edge.ons af) τ) (r.app d (ef σ W (iK AA I rs.length) (r.2.map (·.1)) all rs (Edge.ons af) τ))) (h:AnyOps P all W I AA σ Kont os (rs++[r])):AnyOps P all W I AA σ Kont (⟨d,op,ty,p,af.toArray,some (j,want)⟩::os) rs:=
 ⟨r, .yes rfl hd hv fun τ=> hs τ _ rfl rfl rfl,h⟩
theorem cY {all:List Oper} {W:List Nat} {I:List aC} {AA:List (List aC)} {Kont:List Res→Prop} {os:List Oper} {rs:List Res} {d:Option Tmp} {op:Op} {ty:TypeId} {p:String} {af:List Edge} {j d':Nat} {want b:Bool} (hd:(all[j]?).bind (·.dst)=some d')
  (hv: ∀ τ,(ef σ W (iK AA I rs.length) [] all rs (Edge.ons af) τ).eval (.tmp d')= .v (.bool b)) (hb:b≠want) (h:AnyOps P all W I AA σ Kont os (rs++[(.v undef,[])])):AnyOps P all W I AA σ Kont (⟨d,op,ty,p,af.toArray,some (j,want)⟩::os) rs:=
 ⟨_, .no rfl hd hv (fun e=> hb (by cases e;rfl)),h⟩
theorem bm {all:List Oper} {W:List Nat} {I:List aC} {AA:List (List aC)} {Kont:List Res→Prop} {rs:List Res} (h:Kont rs):AnyOps P all W I AA σ Kont [] rs:=h
end


mutual
def AV.within (ids:List aC):AV→Bool
 | .ref i _ _=> cJ i ids
 | .ptr i _=> cJ i ids
 | .mp i=> cJ i ids
 | .agg xs=> AV.withins ids xs
 | .fn _ xs ys=> AV.withins ids xs && AV.withins ids ys
 | .ifc _ a=> a.within ids
 | .tup xs=> AV.withins ids xs
 | _=> true
def AV.withins (ids:List aC):List AV→Bool
 | []=> true
 | a::l=> a.within ids && AV.withins ids l
end
mutual
theorem fL {id:aC} {ids:List aC}: ∀ (a:AV),a.within ids=true→Has id a→id∈ids
 | .dead,_,h=> by cases h
 | .v _,_,h=> by cases h
 | .sl _ _,_,h=> by cases h
 | .fp _ _,_,h=> by cases h
 | .z,_,h=> by cases h
 | .mp _,hp,h=> by cases h;exact inO_iff.1 hp
 | .ref _ _ _,hp,h=> by cases h;exact inO_iff.1 hp
 | .ptr _ _,hp,h=> by cases h;exact inO_iff.1 hp
 | .agg xs,hp,h=> by
  simp only [AV.within] at hp
  cases h with
  | agg hm h=> exact fb xs hp _ hm h
 | .fn f xs ys,hp,h=> by
  simp only [AV.within,Bool.and_eq_true] at hp
  cases h with
  | fn1 hm h=> exact fb xs hp.1 _ hm h
  | fn2 hm h=> exact fb ys hp.2 _ hm h
 | .ifc t a,hp,h=> by
  simp only [AV.within] at hp
  cases h with
  | ifc h=> exact fL a hp h
 | .tup xs,hp,h=> by
  simp only [AV.within] at hp
  cases h with
  | tup hm h=> exact fb xs hp _ hm h
theorem fb {id:aC} {ids:List aC}: ∀ (l:List AV),AV.withins ids l=true→ ∀ a∈l,Has id a→id∈ids
 | [],_,a,h,_=> by simp at h
 | b::l,hp,a,h,hh=> by
  simp only [AV.withins,Bool.and_eq_true] at hp
  rcases List.mem_cons.1 h with h0 | h
  ·rw [h0] at hh;exact fL b hp.1 hh
  exact fb l hp.2 a h hh
end
def Cells.within (ids:List aC):Cells→Bool
 | .row _ _ _=> true
 | .box _ xs=> AV.withins ids xs
 | .rowA _ _ xs=> AV.withins ids xs
 | .mp _ _=> true
 | .it m _ _ _=> cJ m ids
def bz (ids:List aC):List (aC×Cells)→Bool
 | []=> true
 | (_,o)::l=> o.within ids && bz ids l
def fe (ids:List aC):List (Nat×AV)→Bool
 | []=> true
 | (_,a)::l=> a.within ids && fe ids l
def bA:List aC→Bool
 | []=> true
 | x::l=> !cJ x l && bA l
theorem aL: ∀ {l:List aC},bA l=true→l.Nodup
 | [],_=> .nil
 | x::l,h=> by
  simp only [bA,Bool.and_eq_true,Bool.not_eq_true'] at h
  refine List.nodup_cons.2 ⟨fun hm=> ?_,aL h.2⟩
  rw [inO_iff.2 hm] at h;cases h.1

def bk:List (aC×aC)→aC→aC
 | [],i=> i
 | (k,j)::l,i=> bif gN i k then j else bk l i

def pd (ρ:aC→aC) (σ:St) (F:aC→Bool):List (Nat×AV)→Prop
 | []=> True
 | (t,a)::l=> Lv ρ σ F a (σ.fr t)∧pd ρ σ F l
def ou (ρ:aC→aC) (σ:St) (F:aC→Bool):List (aC×Cells)→Prop
 | []=> True
 | (i,o)::l=> (F (ρ i)=false∧(∃ o2,σ.ob (ρ i)= .obj o2∧LvO ρ σ F o o2)∧σ.inc (ρ i)=false)∧ou ρ σ F l
def gc (σ:St):List aC→Prop
 | []=> True
 | i::l=> σ.inc i=false∧gc σ l

theorem pG {ρ:aC→aC} {σ:St} {F:aC→Bool}: ∀ {l:List (Nat×AV)},pd ρ σ F l→ ∀ t,Lv ρ σ F (te l t) (σ.fr t)
 | [],_,t=> .dead
 | (k,a)::l,h,t=> by
  simp only [te]
  cases hb:Nat.beq t k with
  | true=> simp only [cond_true];rw [Nat.eq_of_beq_eq_true hb];exact h.1
  | false=> simp only [cond_false];exact pG h.2 t
theorem dq: ∀ {l:List (aC×Cells)} {i:aC} {o:Cells},iC l i= .obj o→(i,o)∈l
 | [],i,o,h=> by simp [iC] at h
 | (k,c)::l,i,o,h=> by
  simp only [iC] at h
  cases hb:gN i k with
  | true=> rw [hb] at h;simp at h;subst h;rw [oeq_iff.1 hb];exact List.mem_cons_self
  | false=> rw [hb] at h;exact List.mem_cons_of_mem _ (dq (by simpa using h))
theorem ik: ∀ {l:List (aC×Cells)} {i:aC},i∈l.map (·.1)→iC l i≠ .free
 | [],i,h=> by simp at h
 | (k,c)::l,i,h=> by
  simp only [iC]
  cases hb:gN i k with
  | true=> simp
  | false=>
   simp only [cond_false]
   refine ik ?_
   simp only [List.map_cons,List.mem_cons] at h
   rcases h with h | h
   ·rw [h,dD] at hb;cases hb
   exact h
theorem kX {ρ:aC→aC} {σ:St} {F:aC→Bool}: ∀ {l:List (aC×Cells)},ou ρ σ F l→ ∀ {i o},(i,o)∈l→F (ρ i)=false∧(∃ o2,σ.ob (ρ i)= .obj o2∧LvO ρ σ F o o2)∧σ.inc (ρ i)=false
 | [],_,i,o,h=> by simp at h
 | (k,c)::l,h,i,o,hm=> by
  rcases List.mem_cons.1 hm with h0 | hm
  ·obtain ⟨rfl,rfl⟩:=Prod.mk.inj h0;exact h.1
  exact kX h.2 hm
theorem mn {ids:List aC}: ∀ {l:List (Nat×AV)},fe ids l=true→ ∀ {t id},Has id (te l t)→id∈ids
 | [],_,t,id,h=> by simp only [te] at h;cases h
 | (k,a)::l,hw,t,id,h=> by
  simp only [fe,Bool.and_eq_true] at hw
  simp only [te] at h
  cases hb:Nat.beq t k with
  | true=> rw [hb] at h;exact fL a hw.1 h
  | false=> rw [hb] at h;exact mn hw.2 (by simpa using h)
theorem gQ {ids:List aC}: ∀ {l:List (aC×Cells)},bz ids l=true→ ∀ {i o id},(i,o)∈l→o.Has id→id∈ids
 | [],_,i,o,id,h,_=> by simp at h
 | (k,c)::l,hw,i,o,id,h,hh=> by
  simp only [bz,Bool.and_eq_true] at hw
  rcases List.mem_cons.1 h with h0 | h
  ·obtain ⟨rfl,rfl⟩:=Prod.mk.inj h0
   cases o with
   | row _ _ _=> exact hh.elim
   | rowA e sz xs=>
    obtain ⟨a,ha,hi⟩:=hh
    exact fb xs hw.1 a ha hi
   | box e xs=>
    obtain ⟨a,ha,hi⟩:=hh
    exact fb xs hw.1 a ha hi
   | mp _ _=> exact hh.elim
   | it m _ _ _=>
    have:id=m:=hh
    subst this
    exact inO_iff.1 hw.1
  exact gQ hw.2 h hh

theorem gS {α β:Type} (f:α→β): ∀ {l:List α},(l.map f).Nodup→ ∀ {a b},a∈l→b∈l→f a=f b→a=b
 | [],_,a,b,h,_,_=> by simp at h
 | x::l,hn,a,b,ha,hb,he=> by
  simp only [List.map_cons,List.nodup_cons] at hn
  rcases List.mem_cons.1 ha with h1 | h1 <;> rcases List.mem_cons.1 hb with h2 | h2
  ·rw [h1,h2]
  ·exact absurd (by rw [← h1,he];exact List.mem_map_of_mem h2) hn.1
  ·exact absurd (by rw [← h2,← he];exact List.mem_map_of_mem h1) hn.1
  exact gS f hn.2 h1 h2 he

theorem Le.gen {σ:St} {n:Nat} {fr:Nat→AV} {obs:List (aC×Cells)} (rn:List (aC×aC)) (Fz:List aC) (hn:σ.n=n) (hfr: ∀ t,Lv (bk rn) σ (fun i=> cJ i Fz) (fr t) (σ.fr t)) (hw1: ∀ t id,Has id (fr t)→id∈obs.map (·.1)) (hw2:bz (obs.map (·.1)) obs=true)
  (hd:bA ((obs.map (·.1)).map (bk rn))=true) (hi:gc σ Fz) (ho:ou (bk rn) σ (fun i=> cJ i Fz) obs):Le ⟨n,fr,iC obs,fun _=> false,fun _=> none⟩ σ:=by
 refine Le.of (bk rn) (fun i=> cJ i Fz) hn.symm (fun t _=> hfr t) (fun id o h=> ?_) (fun id id' o o' h h' he=> ?_) (fun id h=> ?_) (fun id o h _=> (kX ho (dq h)).2.2) (fun t id h=> ik (hw1 t id h)) (fun id' o id h hh=> ik (gQ hw2 (dq h) hh)) (fun id h o hp=> by cases hp) (fun _ _=> rfl)
 ·exact ⟨(kX ho (dq h)).1,(kX ho (dq h)).2.1⟩
 ·exact gS (bk rn) (aL hd) (List.mem_map_of_mem (f:=(·.1)) (dq h)) (List.mem_map_of_mem (f:=(·.1)) (dq h')) he
 have: ∀ {l:List aC},gc σ l→id∈l→σ.inc id=false:=by
  intro l
  induction l with
  | nil=> intro _ h;simp at h
  | cons x l ih=>
   intro hl hm
   rcases List.mem_cons.1 hm with rfl | hm
   ·exact hl.1
   exact ih hl.2 hm
 exact this hi (inO_iff.1 h)

theorem Le.mk {σ:St} {n:Nat} {slots:List (Nat×AV)} {obs:List (aC×Cells)} (rn:List (aC×aC)) (Fz:List aC) (hn:σ.n=n) (hs:pd (bk rn) σ (fun i=> cJ i Fz) slots) (hw1:fe (obs.map (·.1)) slots=true) (hw2:bz (obs.map (·.1)) obs=true)
  (hd:bA ((obs.map (·.1)).map (bk rn))=true) (hi:gc σ Fz) (ho:ou (bk rn) σ (fun i=> cJ i Fz) obs):Le (Mq n slots obs) σ:=
 Le.gen rn Fz hn (pG hs) (fun _ _ h=> mn hw1 h) hw2 hd hi ho
theorem Le.out {σ:St} {r r':AV} {obs:List (aC×Cells)} (rn:List (aC×aC)) (Fz:List aC) (hr:Lv (bk rn) (iH r σ) (fun i=> cJ i Fz) r' r) (hw1:r'.within (obs.map (·.1))=true) (hw2:bz (obs.map (·.1)) obs=true)
  (hd:bA ((obs.map (·.1)).map (bk rn))=true) (hi:gc σ Fz) (ho:ou (bk rn) (iH r σ) (fun i=> cJ i Fz) obs):Le (aP r' obs) (iH r σ):=by
 have hi':gc (iH r σ) Fz:=by
  have: ∀ l:List aC,gc σ l→gc (iH r σ) l:=by
   intro l
   induction l with
   | nil=> intro h;exact h
   | cons x l ih=> intro h;exact ⟨h.1,ih h.2⟩
  exact this Fz hi
 refine Le.gen (n:=1) rn Fz rfl (fun t=> ?_) (fun t id h=> ?_) hw2 hd hi' ho
 ·show Lv _ _ _ _ (bif Nat.beq t 0 then r else .dead)
  cases hb:Nat.beq t 0 with
  | true=> exact hr
  | false=> exact .dead
 cases hb:Nat.beq t 0 with
 | true=> rw [hb] at h;exact fL r' hw1 h
 | false=> rw [hb] at h;cases h

theorem LvO.rowE {ρ:aC→aC} {σ:St} {F:aC→Bool} {e:TypeId} {sz:Nat} {xs ys:List PV} (h:ys=xs):LvO ρ σ F (.row e sz xs) (.row e sz ys):= .row (zs:=[]) (by simp [h])
theorem Gb {rb:Bool} {P:Program} {Q:Exit→St→Prop} {σ:St} {c:Code} {α:Type} (I:α→Prop) (F:α→St) (μ:α→Nat) (x0:α) (hI:I x0) (h0:Le (F x0) σ) (round: ∀ x,I x→D rb P c (kz (fun σ'=> ∃ y,I y∧Le (F y) σ'∧μ y < μ x) Q) (F x)):D rb P (.loop c) Q σ:=
 HI (α:={ x:α // I x }) (fun x=> F x.1) (fun x=> μ x.1) ⟨x0,hI⟩ h0 fun x=> CS (round x.1 x.2) fun e σ' q=> by
  cases e with
  | normal=> obtain ⟨y,h1,h2,h3⟩:=q;exact ⟨⟨y,h1⟩,h2,h3⟩
  | _=> exact q
theorem aI {P:Program} {σ:St} {dd:Option Tmp} {ty:TypeId} {f:FuncId} {xs:Array Operand} {ats:Array TypeId} (C:cR P f) {args:List AV} {r:AV} (ha:gw σ (fun _=> false) (xs.toList.map σ.eval) args) (sp:Spec P f (ba args []) (aP r []))
  (hp:AV.pures args=true) (hr:r.pure=true):Stp P dd (.call { callee:= .value (.func f),args:=xs,argTypes:=ats }) ty σ (σ.put dd r):=fun o hd ho ht=> by subst hd;exact xq (.fnc ho C) sp ha hp hr
theorem yI {P:Program} {σ:St} {dd:Option Tmp} {ty:TypeId} {f:FuncId} {xs:Array Operand} {ats:Array TypeId} (C:cR P f) {args:List AV} {x:Value} (ha:gw σ (fun _=> true) (xs.toList.map σ.eval) args) (sp:Spec P f (ba args []) (aP (.v x) []))
  (hp:AV.pures args=true):Stp P dd (.call { callee:= .value (.func f),args:=xs,argTypes:=ats }) ty σ (σ.put dd (.v x)):=fun o hd ho ht=> by subst hd;exact BR (.fnc ho C) sp ha hp
theorem me {P:Program} {σ:St} {dd:Option Tmp} {ty:TypeId} {f:FuncId} {x0:Operand} {xs:Array Operand} {ats:Array TypeId} {first caps:List AV} (hx:σ.eval x0= .fn (.func f) first caps) (C:cR P f) {args:List AV} {r:AV} (ha:gw σ (fun _=> false) (first++xs.toList.map σ.eval++caps) args) (sp:Spec P f (ba args []) (aP r []))
  (hp:AV.pures args=true) (hr:r.pure=true):Stp P dd (.call { callee:= .value x0,args:=xs,argTypes:=ats }) ty σ (σ.put dd r):=fun o hd ho ht=> by subst hd;exact xq (.fnv ho C hx) sp ha hp hr
theorem mw {ρ:aC→aC} {σ:St} {F:aC→Bool} {a b:Bool} (h:a=b):Lv ρ σ F (.v (.bool a)) (.v (.bool b)):=h ▸ .v
theorem co {ρ:aC→aC} {σ:St} {F:aC→Bool} {k:IntKind} {a b:Int} (h:a=b):Lv ρ σ F (.v (.int k a)) (.v (.int k b)):=h ▸ .v
theorem bD {n:Int} (h: -9223372036854775808≤n∧n≤9223372036854775807):IntKind.i64.wrap n=n:=Go.IntWalk.i64_in n h

mutual
def AV.ren (ρ:aC→aC):AV→AV
 | .ref i o n=> .ref (ρ i) o n
 | .ptr i o=> .ptr (ρ i) o
 | .agg xs=> .agg (AV.rens ρ xs)
 | .fn f xs ys=> .fn f (AV.rens ρ xs) (AV.rens ρ ys)
 | .ifc t a=> .ifc t (a.ren ρ)
 | .tup xs=> .tup (AV.rens ρ xs)
 | .dead=> .dead
 | .v x=> .v x
 | .sl n xs=> .sl n xs
 | .fp o xs=> .fp o xs
 | .z=> .z
 | .mp i=> .mp (ρ i)
def AV.rens (ρ:aC→aC):List AV→List AV
 | []=> []
 | a::l=> a.ren ρ::AV.rens ρ l
end
def Cells.ren (ρ:aC→aC):Cells→Cells
 | .row e sz xs=> .row e sz xs
 | .box e xs=> .box e (AV.rens ρ xs)
 | .rowA e sz xs=> .rowA e sz (AV.rens ρ xs)
 | .mp es c=> .mp es c
 | .it m a b c=> .it (ρ m) a b c
theorem jC {ρ:aC→aC}: ∀ (l:List AV) (j:Nat),(AV.rens ρ l)[j]? =(l[j]?).map (AV.ren ρ)
 | [],j=> by simp [AV.rens]
 | p::l,0=> by simp [AV.rens]
 | p::l,j+1=> by simp [AV.rens,jC l j]
theorem iy {ρ:aC→aC}: ∀ (l:List AV),(AV.rens ρ l).length=l.length
 | []=> rfl
 | p::l=> by simp [AV.rens,iy l]
theorem Rep.ren {ι ι':aC→Option ft} {S S':Nat→Prop} {w:World} {ρ:aC→aC} {a:AV} {x:Value} (h:Rep ι S w a x) (hS: ∀ g,S g→S' g):(∀ id B,Has id a→ι' (ρ id)=some B→ι id=some B)→Rep ι' S' w (a.ren ρ) x:=by
 induction h with
 | dead=> intro _;simp only [AV.ren];exact .dead
 | v=> intro _;simp only [AV.ren];exact .v
 | sl h=> intro _;simp only [AV.ren];exact .sl (h.next (fun _ _=> rfl) hS)
 | fp h=> intro _;simp only [AV.ren];exact .fp (h.next (fun _ _=> rfl) hS)
 | ref h h1=> intro hι;simp only [AV.ren];exact .ref (fun B hB=> h B (hι _ B .ref hB)) h1
 | ptr h h1=> intro hι;simp only [AV.ren];exact .ptr (fun B hB=> h B (hι _ B .ptr hB)) h1
 | agg h1 h2 h ih=>
  intro hι
  simp only [AV.ren]
  refine .agg (by rw [iy];exact h1) h2 fun j a ha=> ?_
  rw [jC] at ha
  obtain ⟨b,hb,rfl⟩:=Option.map_eq_some_iff.1 ha
  exact ih j b hb fun id B hi=> hι id B (.agg (List.mem_of_getElem? hb) hi)
 | fn h1 h2 h3 h4 i3 i4=>
  intro hι
  simp only [AV.ren]
  refine .fn (by rw [iy];exact h1) (by rw [iy];exact h2) (fun j a ha=> ?_) fun j a ha=> ?_
  ·rw [jC] at ha
   obtain ⟨b,hb,rfl⟩:=Option.map_eq_some_iff.1 ha
   exact i3 j b hb fun id B hi=> hι id B (.fn1 (List.mem_of_getElem? hb) hi)
  rw [jC] at ha
  obtain ⟨b,hb,rfl⟩:=Option.map_eq_some_iff.1 ha
  exact i4 j b hb fun id B hi=> hι id B (.fn2 (List.mem_of_getElem? hb) hi)
 | z=> intro _;simp only [AV.ren];exact .z
 | mp h h1=> intro hι;simp only [AV.ren];exact .mp (fun B hB=> h B (hι _ B .mp hB)) h1
 | ifc h ih=> intro hι;simp only [AV.ren];exact .ifc (ih fun id B hi=> hι id B (.ifc hi))
 | tup h1 h ih=>
  intro hι
  simp only [AV.ren]
  refine .tup (by rw [iy];exact h1) fun j a ha=> ?_
  rw [jC] at ha
  obtain ⟨b,hb,rfl⟩:=Option.map_eq_some_iff.1 ha
  exact ih j b hb fun id B hi=> hι id B (.tup (List.mem_of_getElem? hb) hi)
mutual
theorem tO {ρ:aC→aC} {i:aC}: ∀ (a:AV),Has i (a.ren ρ)→ ∃ j,Has j a∧i=ρ j
 | .dead,h=> by simp only [AV.ren] at h;cases h
 | .v _,h=> by simp only [AV.ren] at h;cases h
 | .sl _ _,h=> by simp only [AV.ren] at h;cases h
 | .fp _ _,h=> by simp only [AV.ren] at h;cases h
 | .z,h=> by simp only [AV.ren] at h;cases h
 | .mp k,h=> by simp only [AV.ren] at h;cases h;exact ⟨k, .mp,rfl⟩
 | .ref k _ _,h=> by simp only [AV.ren] at h;cases h;exact ⟨k, .ref,rfl⟩
 | .ptr k _,h=> by simp only [AV.ren] at h;cases h;exact ⟨k, .ptr,rfl⟩
 | .agg xs,h=> by
  simp only [AV.ren] at h
  cases h with
  | agg hm h=> obtain ⟨j,b,hb,h1,h2⟩:=jD xs _ hm h;exact ⟨j, .agg hb h1,h2⟩
 | .fn f xs ys,h=> by
  simp only [AV.ren] at h
  cases h with
  | fn1 hm h=> obtain ⟨j,b,hb,h1,h2⟩:=jD xs _ hm h;exact ⟨j, .fn1 hb h1,h2⟩
  | fn2 hm h=> obtain ⟨j,b,hb,h1,h2⟩:=jD ys _ hm h;exact ⟨j, .fn2 hb h1,h2⟩
 | .ifc t a,h=> by
  simp only [AV.ren] at h
  cases h with
  | ifc h=> obtain ⟨j,h1,h2⟩:=tO a h;exact ⟨j, .ifc h1,h2⟩
 | .tup xs,h=> by
  simp only [AV.ren] at h
  cases h with
  | tup hm h=> obtain ⟨j,b,hb,h1,h2⟩:=jD xs _ hm h;exact ⟨j, .tup hb h1,h2⟩
theorem jD {ρ:aC→aC} {i:aC}: ∀ (l:List AV) (a:AV),a∈AV.rens ρ l→Has i a→ ∃ j b,b∈l∧Has j b∧i=ρ j
 | [],a,h,_=> by simp [AV.rens] at h
 | b::l,a,h,hh=> by
  simp only [AV.rens,List.mem_cons] at h
  rcases h with h0 | h
  ·rw [h0] at hh
   obtain ⟨j,h1,h2⟩:=tO b hh
   exact ⟨j,b,List.mem_cons_self,h1,h2⟩
  obtain ⟨j,c,h1,h2,h3⟩:=jD l a h hh
  exact ⟨j,c,List.mem_cons_of_mem _ h1,h2,h3⟩
end

def kg (Pn:List aC) (i:aC):Option aC:=bif cJ i Pn then some i else none
def aE (n:Nat) (l:List (Nat×AV)) (obs:List (aC×Cells)) (I Pn:List aC):St:=⟨n,te l,iC obs,fun i=> cJ i I,kg Pn⟩
def aY (args:List AV) (obs:List (aC×Cells)):St:=⟨args.length,fun t=> args.getD t .dead,iC obs,fun i=> cJ i (obs.map (·.1)),kg (obs.map (·.1))⟩
def JO (n:Nat) (args:List AV) (obs:List (aC×Cells)):St:=⟨n,fun t=> args.getD t .dead,iC obs,fun i=> cJ i (obs.map (·.1)),kg (obs.map (·.1))⟩
def bc (r:AV) (obs:List (aC×Cells)) (I Pn:List aC):St:=⟨1,fun t=> bif Nat.beq t 0 then r else .dead,iC obs,fun i=> cJ i I,kg Pn⟩
theorem Spec.ofNI {P:Program} {f:FuncId} {fn:Func} {c:Code} {args:List AV} {obs:List (aC×Cells)} {σ':St} {n:Nat} (hf:P.funcs[f]? =some fn) (hb:fn.body=some c) (hn:fn.ntmps=n) (hl:Nat.ble args.length n=true)
  (h:D true P c (oV P fn σ') (JO n args obs)):Spec P f (aY args obs) σ':=by
 subst hn
 refine Spec.of hf hb (Nat.le_of_ble_eq_true hl) (fun t ht=> ?_) h
 simp only [aY] at ht ⊢
 rw [List.getD_eq_getElem?_getD,List.getElem?_eq_none ht];rfl

def ey (ρ:aC→aC) (σ:St) (F:aC→Bool) (I:List aC):List (aC×Cells)→Prop
 | []=> True
 | (i,o)::l=> (F (ρ i)=false∧(∃ o2,σ.ob (ρ i)= .obj o2∧LvO ρ σ F o o2)∧(bif cJ i I then false else σ.inc (ρ i))=false)∧ey ρ σ F I l
theorem fH {ρ:aC→aC} {σ:St} {F:aC→Bool} {I:List aC}: ∀ {l:List (aC×Cells)},ey ρ σ F I l→ ∀ {i o},(i,o)∈l→F (ρ i)=false∧(∃ o2,σ.ob (ρ i)= .obj o2∧LvO ρ σ F o o2)∧(bif cJ i I then false else σ.inc (ρ i))=false
 | [],_,i,o,h=> by simp at h
 | (k,c)::l,h,i,o,hm=> by
  rcases List.mem_cons.1 hm with h0 | hm
  ·obtain ⟨rfl,rfl⟩:=Prod.mk.inj h0;exact h.1
  exact fH h.2 hm
theorem mO {σ:St} {id:aC}: ∀ {l:List aC},gc σ l→id∈l→σ.inc id=false
 | [],_,h=> by simp at h
 | x::l,hl,hm=> by
  rcases List.mem_cons.1 hm with h | hm
  ·rw [h];exact hl.1
  exact mO hl.2 hm
def lQ (ρ:aC→aC) (σ:St):List aC→Prop
 | []=> True
 | i::l=> σ.pin (ρ i)=some i∧lQ ρ σ l
theorem mX {ρ:aC→aC} {σ:St} {i:aC}: ∀ {l:List aC},lQ ρ σ l→i∈l→σ.pin (ρ i)=some i
 | [],_,h=> by simp at h
 | x::l,hl,hm=> by
  rcases List.mem_cons.1 hm with h | hm
  ·rw [h];exact hl.1
  exact mX hl.2 hm
def tw:List aC→List aC→Bool
 | [],_=> true
 | i::l,L=> cJ i L && tw l L
theorem qq {L:List aC} {i:aC}: ∀ {l:List aC},tw l L=true→i∈l→i∈L
 | [],_,h=> by simp at h
 | x::l,hl,hm=> by
  simp only [tw,Bool.and_eq_true] at hl
  rcases List.mem_cons.1 hm with h | hm
  ·rw [h];exact inO_iff.1 hl.1
  exact qq hl.2 hm
theorem Le.genI {σ:St} {n:Nat} {fr:Nat→AV} {obs:List (aC×Cells)} {I Pn:List aC} (rn:List (aC×aC)) (Fz:List aC) (hn:σ.n=n) (hfr: ∀ t,Lv (bk rn) σ (fun i=> cJ i Fz) (fr t) (σ.fr t)) (hw1: ∀ t id,Has id (fr t)→id∈obs.map (·.1)) (hw2:bz (obs.map (·.1)) obs=true)
  (hd:bA ((obs.map (·.1)).map (bk rn))=true) (hi:gc σ Fz) (ho:ey (bk rn) σ (fun i=> cJ i Fz) I obs) (hp:lQ (bk rn) σ Pn) (hs:tw Pn (obs.map (·.1))=true):Le ⟨n,fr,iC obs,fun i=> cJ i I,kg Pn⟩ σ:=by
 refine Le.of (bk rn) (fun i=> cJ i Fz) hn.symm (fun t _=> hfr t) (fun id o h=> ?_) (fun id id' o o' h h' he=> ?_) (fun id h=> ?_) (fun id o h hf=> ?_) (fun t id h=> ik (hw1 t id h)) (fun id' o id h hh=> ik (gQ hw2 (dq h) hh)) (fun id h o hpn _=> ?_) (fun id hf=> ?_)
 ·exact ⟨(fH ho (dq h)).1,(fH ho (dq h)).2.1⟩
 ·exact gS (bk rn) (aL hd) (List.mem_map_of_mem (f:=(·.1)) (dq h)) (List.mem_map_of_mem (f:=(·.1)) (dq h')) he
 ·exact mO hi (inO_iff.1 h)
 ·have:=(fH ho (dq h)).2.2
  simp only at hf
  rw [hf] at this
  exact this
 ·simp only [kg] at hpn
  cases hb:cJ id Pn with
  | true=> rw [hb] at hpn;obtain rfl:=Option.some.inj hpn;exact mX hp (inO_iff.1 hb)
  | false=> rw [hb] at hpn;cases hpn
 simp only [kg]
 cases hb:cJ id Pn with
 | true=> exact absurd hf (ik (qq hs (inO_iff.1 hb)))
 | false=> rfl
theorem Le.mkI {σ:St} {n:Nat} {slots:List (Nat×AV)} {obs:List (aC×Cells)} {I Pn:List aC} (rn:List (aC×aC)) (Fz:List aC) (hn:σ.n=n) (hs:pd (bk rn) σ (fun i=> cJ i Fz) slots) (hw1:fe (obs.map (·.1)) slots=true) (hw2:bz (obs.map (·.1)) obs=true)
  (hd:bA ((obs.map (·.1)).map (bk rn))=true) (hi:gc σ Fz) (ho:ey (bk rn) σ (fun i=> cJ i Fz) I obs) (hp:lQ (bk rn) σ Pn) (hsb:tw Pn (obs.map (·.1))=true):Le (aE n slots obs I Pn) σ:=
 Le.genI rn Fz hn (pG hs) (fun _ _ h=> mn hw1 h) hw2 hd hi ho hp hsb
theorem Le.outI {σ:St} {r r':AV} {obs:List (aC×Cells)} {I Pn:List aC} (rn:List (aC×aC)) (Fz:List aC) (hr:Lv (bk rn) (iH r σ) (fun i=> cJ i Fz) r' r) (hw1:r'.within (obs.map (·.1))=true) (hw2:bz (obs.map (·.1)) obs=true)
  (hd:bA ((obs.map (·.1)).map (bk rn))=true) (hi:gc (iH r σ) Fz) (ho:ey (bk rn) (iH r σ) (fun i=> cJ i Fz) I obs) (hp:lQ (bk rn) (iH r σ) Pn) (hsb:tw Pn (obs.map (·.1))=true):Le (bc r' obs I Pn) (iH r σ):=by
 refine Le.genI (n:=1) rn Fz rfl (fun t=> ?_) (fun t id h=> ?_) hw2 hd hi ho hp hsb
 ·show Lv _ _ _ _ (bif Nat.beq t 0 then r else .dead)
  cases hb:Nat.beq t 0 with
  | true=> exact hr
  | false=> exact .dead
 cases hb:Nat.beq t 0 with
 | true=> rw [hb] at h;exact fL r' hw1 h
 | false=> rw [hb] at h;cases h

def dS (ρ:aC→aC) (outs:List (aC×Cells)) (ins:List aC) (ob:aC→Slot):aC→Slot:=fun c=>
 match outs with
 | (i,o)::l=> bif gN c (ρ i) then .obj (o.ren ρ) else dS ρ l ins ob c
 | []=> bif cJ c (ins.map ρ) then .gone else ob c
def ju (ρ:aC→aC) (outs:List (aC×Cells)) (I:List aC) (any:Bool) (inc:aC→Bool):aC→Bool:=fun c=>
 match outs with
 | (i,_)::l=> bif gN c (ρ i) then (bif cJ i I then any else false) else ju ρ l I any inc c
 | []=> inc c
def gd (σ:St):List aC→Bool
 | []=> false
 | i::l=> σ.inc i || gd σ l
def St.after (σ:St) (ρ:aC→aC) (outs:List (aC×Cells)) (ins I:List aC):St:=
 { σ with ob:=dS ρ outs ins σ.ob,inc:=ju ρ outs I (gd σ (ins.map ρ)) σ.inc }
def eT (σ:St) (ρ:aC→aC) (ins:List aC):List (aC×Cells)→Prop
 | []=> True
 | (i,_)::l=> ((bif cJ i ins then Slot.free else σ.ob (ρ i))= .free)∧eT σ ρ ins l
theorem oZ {σ:St} {ρ:aC→aC} {ins:List aC}: ∀ {l:List (aC×Cells)},eT σ ρ ins l→ ∀ {i o},(i,o)∈l→i∈ins∨σ.ob (ρ i)= .free
 | [],_,i,o,h=> by simp at h
 | (k,c)::l,h,i,o,hm=> by
  rcases List.mem_cons.1 hm with h0 | hm
  ·obtain ⟨rfl,rfl⟩:=Prod.mk.inj h0
   have:=h.1
   cases hb:cJ i ins with
   | true=> exact .inl (inO_iff.1 hb)
   | false=> rw [hb] at this;exact .inr this
  exact oZ h.2 hm

theorem dz {ρ:aC→aC} {ins:List aC} {ob:aC→Slot}: ∀ {outs:List (aC×Cells)} {i:aC} {o:Cells},((outs.map (·.1)).map ρ).Nodup→(i,o)∈outs→dS ρ outs ins ob (ρ i)= .obj (o.ren ρ)
 | [],i,o,_,h=> by simp at h
 | (k,c)::l,i,o,hn,h=> by
  simp only [dS]
  simp only [List.map_cons,List.nodup_cons] at hn
  rcases List.mem_cons.1 h with h0 | h
  ·obtain ⟨rfl,rfl⟩:=Prod.mk.inj h0
   rw [dD];rfl
  have:ρ i≠ρ k:=fun e=> hn.1 (e ▸ List.mem_map_of_mem (List.mem_map_of_mem (f:=(·.1)) h))
  rw [fD this]
  exact dz hn.2 h
theorem ed {ρ:aC→aC} {ins:List aC} {ob:aC→Slot} {c:aC}: ∀ {outs:List (aC×Cells)},c∉(outs.map (·.1)).map ρ→dS ρ outs ins ob c=(bif cJ c (ins.map ρ) then .gone else ob c)
 | [],_=> rfl
 | (k,o)::l,h=> by
  simp only [List.map_cons,List.mem_cons,not_or] at h
  simp only [dS,fD h.1,cond_false]
  exact ed h.2
theorem nL {ρ:aC→aC} {I:List aC} {any:Bool} {inc:aC→Bool}: ∀ {outs:List (aC×Cells)} {i:aC} {o:Cells},((outs.map (·.1)).map ρ).Nodup→(i,o)∈outs→ju ρ outs I any inc (ρ i)=(bif cJ i I then any else false)
 | [],i,o,_,h=> by simp at h
 | (k,c)::l,i,o,hn,h=> by
  simp only [ju]
  simp only [List.map_cons,List.nodup_cons] at hn
  rcases List.mem_cons.1 h with h0 | h
  ·obtain ⟨rfl,rfl⟩:=Prod.mk.inj h0
   rw [dD];rfl
  have:ρ i≠ρ k:=fun e=> hn.1 (e ▸ List.mem_map_of_mem (List.mem_map_of_mem (f:=(·.1)) h))
  rw [fD this]
  exact nL hn.2 h
theorem lP {ρ:aC→aC} {I:List aC} {any:Bool} {inc:aC→Bool} {c:aC}: ∀ {outs:List (aC×Cells)},c∉(outs.map (·.1)).map ρ→ju ρ outs I any inc c=inc c
 | [],_=> rfl
 | (k,o)::l,h=> by
  simp only [List.map_cons,List.mem_cons,not_or] at h
  simp only [ju,fD h.1,cond_false]
  exact lP h.2
theorem kL {σ:St}: ∀ {l:List aC},gd σ l=false→ ∀ i∈l,σ.inc i=false
 | [],_,i,h=> by simp at h
 | x::l,h,i,hm=> by
  simp only [gd,Bool.or_eq_false_iff] at h
  rcases List.mem_cons.1 hm with h0 | hm
  ·rw [h0];exact h.1
  exact kL h.2 i hm
theorem jS: ∀ {l:List (aC×Cells)} {i:aC} {o:Cells},(l.map (·.1)).Nodup→(i,o)∈l→iC l i= .obj o
 | [],i,o,_,h=> by simp at h
 | (k,c)::l,i,o,hn,h=> by
  simp only [List.map_cons,List.nodup_cons] at hn
  simp only [iC]
  rcases List.mem_cons.1 h with h0 | h
  ·obtain ⟨rfl,rfl⟩:=Prod.mk.inj h0
   rw [dD];rfl
  have:i≠k:=fun e=> hn.1 (e ▸ List.mem_map_of_mem (f:=(·.1)) h)
  rw [fD this]
  exact jS hn.2 h

def fT (ρ:aC→aC) (outs:List (aC×Cells)) (ins:List aC) (ι' ι:aC→Option ft):aC→Option ft:=fun c=>
 match outs with
 | (i,_)::l=> bif gN c (ρ i) then ι' i else fT ρ l ins ι' ι c
 | []=> bif cJ c (ins.map ρ) then none else ι c
theorem dK {ρ:aC→aC} {ins:List aC} {ι' ι:aC→Option ft}: ∀ {outs:List (aC×Cells)} {i:aC},((outs.map (·.1)).map ρ).Nodup→i∈outs.map (·.1)→fT ρ outs ins ι' ι (ρ i)=ι' i
 | [],i,_,h=> by simp at h
 | (k,c)::l,i,hn,h=> by
  simp only [fT]
  simp only [List.map_cons,List.nodup_cons] at hn
  simp only [List.map_cons,List.mem_cons] at h
  rcases h with h0 | h
  ·subst h0;rw [dD];rfl
  have:ρ i≠ρ k:=fun e=> hn.1 (e ▸ List.mem_map_of_mem h)
  rw [fD this]
  exact dK hn.2 h
theorem gj {ρ:aC→aC} {ins:List aC} {ι' ι:aC→Option ft} {c:aC}: ∀ {outs:List (aC×Cells)},c∉(outs.map (·.1)).map ρ→fT ρ outs ins ι' ι c=(bif cJ c (ins.map ρ) then none else ι c)
 | [],_=> rfl
 | (k,o)::l,h=> by
  simp only [List.map_cons,List.mem_cons,not_or] at h
  simp only [fT,fD h.1,cond_false]
  exact gj h.2
def iu (ins Pn:List aC):List (aC×Cells)→Bool
 | []=> true
 | (i,_)::l=> (bif cJ i ins then cJ i Pn else true) && iu ins Pn l
theorem si {ins Pn:List aC} {i:aC}: ∀ {l:List (aC×Cells)},iu ins Pn l=true→i∈l.map (·.1)→i∈ins→i∈Pn
 | [],_,h,_=> by simp at h
 | (k,o)::l,hk,h,hi=> by
  simp only [iu,Bool.and_eq_true] at hk
  simp only [List.map_cons,List.mem_cons] at h
  rcases h with h | h
  ·subst h
   rw [inO_iff.2 hi] at hk
   exact inO_iff.1 hk.1
  exact si hk.2 h hi

section
variable {P:Program} {σ:St} {o:Oper}

def gH (σ:St) (rn:List (aC×aC)) (avs:List AV) (args:List AV):Prop:=args.length=avs.length∧ ∀ (j:Nat) (x:AV) (a:AV),avs[j]? =some x→args[j]? =some a→Lv (bk rn) σ (fun _=> false) a x
theorem dI {rn:List (aC×aC)}:gH σ rn [] []:=⟨rfl,by simp⟩
theorem dg {rn:List (aC×aC)} {x:AV} {xs:List AV} {a:AV} {args:List AV} (h:Lv (bk rn) σ (fun _=> false) a x) (hs:gH σ rn xs args):gH σ rn (x::xs) (a::args):=by
 refine ⟨by simp [hs.1],fun j y b hy hb=> ?_⟩
 cases j with
 | zero=> simp at hy hb;subst hy;subst hb;exact h
 | succ j=> exact hs.2 j y b (by simpa using hy) (by simpa using hb)

theorem ut {f:FuncId} {avs:List AV} (hE:EntersAt P o σ f avs) (rn:List (aC×aC)) {args:List AV} {ins outs:List (aC×Cells)} {r:AV} {I Pn:List aC} (inc':aC→Bool)
  (hinc1: ∀ c,c∉(outs.map (·.1)).map (bk rn)→inc' c=σ.inc c) (hinc2: ∀ i,i∈outs.map (·.1)→inc' (bk rn i)=false→(i∈ins.map (·.1)∧σ.inc (bk rn i)=false)∨(cJ i I=false)∨(i∉ins.map (·.1)∧ ∀ j,j∈ins.map (·.1)→j∉outs.map (·.1)→σ.inc (bk rn j)=false))
  (ha:gH σ rn avs args) (hw:AV.withins (ins.map (·.1)) args=true) (hwi:bz (ins.map (·.1)) ins=true) (hins:ey (bk rn) σ (fun _=> false) (ins.map (·.1)) ins)
  (hni:bA ((ins.map (·.1)).map (bk rn))=true) (hni':bA (ins.map (·.1))=true) (hno:bA ((outs.map (·.1)).map (bk rn))=true) (hno':bA (outs.map (·.1))=true) (hfr:eT σ (bk rn) (ins.map (·.1)) outs) (hPn:iu (ins.map (·.1)) Pn outs=true)
  (hwo:r.within (outs.map (·.1))=true) (hwoo:bz (outs.map (·.1)) outs=true) (sp:Spec P f (aY args ins) (bc r outs I Pn)):
  dh P o σ (({ σ.after (bk rn) outs (ins.map (·.1)) I with inc:=inc' }:St).put o.dst (r.ren (bk rn))):=by
 intro K ι S a w R
 obtain ⟨vs,hrun,hvs,hrep⟩:=hE K ι S a w R
 generalize hρ:bk rn=ρ at*
 have hni:=aL hni
 have hni':=aL hni'
 have hno:=aL hno
 have hno':=aL hno'
 -- the callee's state
 have hino: ∀ i,i∈ins.map (·.1)→ ∃ o o2 B,(i,o)∈ins∧iC ins i= .obj o∧σ.ob (ρ i)= .obj o2∧LvO ρ σ (fun _=> false) o o2∧ι (ρ i)=some B:=by
  intro i hi
  obtain ⟨⟨i',oc⟩,hm,rfl⟩:=List.mem_map.1 hi
  obtain ⟨_,⟨o2,h2,h3⟩,_⟩:=fH hins hm
  have hO:=R.ob _ o2 h2
  have: ∃ B,ι (ρ i')=some B:=hO.ex
  obtain ⟨B,hB⟩:=this
  exact ⟨oc,o2,B,hm,jS hni' hm,h2,h3,hB⟩
 let own1:Nat→Prop:=fun g=> ∃ i B,i∈ins.map (·.1)∧ι (ρ i)=some B∧B.g=some g
 let ι1:aC→Option ft:=fun i=> bif cJ i (ins.map (·.1)) then ι (ρ i) else none
 have hι1: ∀ i,i∈ins.map (·.1)→ι1 i=ι (ρ i):=fun i hi=> by simp only [ι1,inO_iff.2 hi,cond_true]
 have hι1': ∀ i B,ι1 i=some B→i∈ins.map (·.1)∧ι (ρ i)=some B:=fun i B h=> by
  simp only [ι1] at h
  cases hb:cJ i (ins.map (·.1)) with
  | true=> rw [hb] at h;exact ⟨inO_iff.1 hb,h⟩
  | false=> rw [hb] at h;cases h
 have hobm: ∀ {i oc},iC ins i= .obj oc→i∈ins.map (·.1):=fun h=> List.mem_map_of_mem (f:=(·.1)) (dq h)
 have R1:RelI ⟨w,own1,S,fun i=> ι (ρ i),none⟩ ι1 S (aY args ins) ⟨vs,[]⟩ w:=by
  refine ⟨Keeps.refl _ _,fun g h=> .inl h,R.Slt,by simp [aY,ha.1,hvs], .nil,fun t ht=> ?_,fun t id hb=> ?_,fun id' oc id hoc hb=> ik (gQ hwi (dq hoc) hb),fun id oc hoc=> ?_,fun id B hB=> ?_,fun id id' B B' g hB hB' hg hg'=> ?_,fun id B g hB hg=> ?_,fun id h oc hp hoc=> ?_,fun id hf=> ?_⟩
  ·simp only [aY] at ht ⊢
   have hx:t < avs.length:=by rw [← ha.1];exact ht
   have hl:=ha.2 t _ _ (List.getElem?_eq_getElem hx) (List.getElem?_eq_getElem ht)
   rw [hρ] at hl
   have:=hl.rep (ι1:=ι1) R (fun id B hB=> (hι1' id B hB).2) (S1:=S) (fun g h=> h) (fun id B g h=> by cases h) (hrep t _ (List.getElem?_eq_getElem hx))
   simpa [List.getD_eq_getElem?_getD,ht] using this
  ·simp only [aY] at hb
   by_cases ht:t < args.length
   ·rw [List.getD_eq_getElem?_getD,List.getElem?_eq_getElem ht] at hb
    exact ik (fb args hw _ (List.getElem_mem ht) hb)
   rw [List.getD_eq_getElem?_getD,List.getElem?_eq_none ab] at hb
   cases hb
  ·obtain ⟨o1,o2,B,hm,ho1,h2,h3,hB⟩:=hino id (hobm hoc)
   have:Slot.obj o1=Slot.obj oc:=ho1.symm.trans hoc
   obtain rfl:=Slot.obj.inj this
   have hO:=R.ob _ o2 h2
   cases h3 with
   | row h=>
    obtain ⟨B,b1,b2,b3⟩:=hO
    refine ⟨B,by rw [hι1 id (hobm hoc)];exact b1,b2,?_⟩
    subst h
    rcases b3 with ⟨c1,c2,c3⟩ | ⟨g,cur,c1,c2,c3,c4,c5⟩
    ·exact .inl ⟨c1,by simp at c2;simp [c2.1],c3⟩
    refine .inr ⟨g,cur,c1,c2,c3,by simp at c4;omega,fun j hj=> ?_⟩
    obtain ⟨u,d1,d2,d3⟩:=c5 j (by simp;omega)
    exact ⟨u,d1,d2,fun p hp=> (d3 p (by rw [List.getElem?_append,if_pos hj];exact hp))⟩
   | box hl h=>
    obtain ⟨B,g,b1,b2,b3,b4⟩:=hO
    refine ⟨B,g,by rw [hι1 id (hobm hoc)];exact b1,b2,by omega,?_⟩
    rw [hl]
    rcases b4 with ⟨c1,_⟩ | ⟨g',cur,c1,c2,c3,c4,c5⟩
    ·rw [b2] at c1;cases c1
    refine .inr ⟨g',cur,c1,c2,c3,c4,fun j hj=> ?_⟩
    obtain ⟨u,d1,d2,d3⟩:=c5 j hj
    refine ⟨u,d1,d2,fun p hp=> ?_⟩
    exact (h j p _ hp (List.getElem?_eq_getElem hj)).rep R (fun id B hB=> (hι1' id B hB).2) (fun _ h=> h) (fun id B g h=> by cases h) (d3 _ (List.getElem?_eq_getElem hj))
   | rowA hl h=>
    obtain ⟨B,b1,b2,b4⟩:=hO
    refine ⟨B,by rw [hι1 id (hobm hoc)];exact b1,b2,?_⟩
    rw [hl]
    rcases b4 with c | ⟨g',cur,c1,c2,c3,c4,c5⟩
    ·exact .inl c
    refine .inr ⟨g',cur,c1,c2,c3,c4,fun j hj=> ?_⟩
    obtain ⟨u,d1,d2,d3⟩:=c5 j hj
    refine ⟨u,d1,d2,fun p hp=> ?_⟩
    exact (h j p _ hp (List.getElem?_eq_getElem hj)).rep R (fun id B hB=> (hι1' id B hB).2) (fun _ h=> h) (fun id B g h=> by cases h) (d3 _ (List.getElem?_eq_getElem hj))
   | boxA h0 hl h=>
    obtain ⟨B,b1,b2,b4⟩:=hO
    rcases b4 with ⟨_,c,_⟩ | ⟨g',cur,c1,c2,c3,c4,c5⟩
    ·omega
    refine ⟨B,g',by rw [hι1 id (hobm hoc)];exact b1,c1,by omega,?_⟩
    rw [hl]
    refine .inr ⟨g',cur,c1,c2,c3,c4,fun j hj=> ?_⟩
    obtain ⟨u,d1,d2,d3⟩:=c5 j hj
    refine ⟨u,d1,d2,fun p hp=> ?_⟩
    exact (h j p _ hp (List.getElem?_eq_getElem hj)).rep R (fun id B hB=> (hι1' id B hB).2) (fun _ h=> h) (fun id B g h=> by cases h) (d3 _ (List.getElem?_eq_getElem hj))
   | mp=>
    obtain ⟨B,g,b1,b2,b3⟩:=hO
    exact ⟨B,g,by rw [hι1 id (hobm hoc)];exact b1,b2,b3⟩
   | it=>
    obtain ⟨B,g,b1,b2,mg,b3,b4⟩:=hO
    exact ⟨B,g,by rw [hι1 id (hobm hoc)];exact b1,b2,mg,b3,fun B' hB'=> b4 B' (hι1' _ B' hB').2⟩
  ·obtain ⟨h1,h2⟩:=hι1' id B hB
   obtain ⟨o1,_,_,_,h3,_⟩:=hino id h1
   exact ⟨o1,h3⟩
  ·obtain ⟨h1,h2⟩:=hι1' id B hB
   obtain ⟨h3,h4⟩:=hι1' id' B' hB'
   exact gS ρ hni h1 h3 (R.inj _ _ B B' g h2 h4 hg hg')
  ·obtain ⟨h1,h2⟩:=hι1' id B hB
   refine ⟨(R.sep _ B g h2 hg).1, .inl ⟨id,B,h1,h2,hg⟩,fun hf=> ?_⟩
   simp only [aY] at hf
   rw [inO_iff.2 h1] at hf;cases hf
  ·simp only [aY,kg] at hp
   cases hb:cJ id (ins.map (·.1)) with
   | true=> rw [hb] at hp;obtain rfl:=Option.some.inj hp;exact hι1 _ (inO_iff.1 hb)
   | false=> rw [hb] at hp;cases hp
  simp only [aY,kg]
  cases hb:cJ id (ins.map (·.1)) with
  | true=> exact absurd hf (ik (inO_iff.1 hb))
  | false=> rfl
 refine jV hrun (sp _ _ _ _ w rfl rfl R1) ?_
 rintro e w' ⟨v,ι',S',rfl,R2⟩
 refine ⟨v,rfl,fT ρ outs (ins.map (·.1)) ι' ι,fun g=> S g∨S' g,?_⟩
 have hk2:Keeps own1 w w':=R2.keeps
 have hS2: ∀ g,S' g→S g∨w.heap.size≤g:=R2.S0
 have houtm: ∀ {i oc},(i,oc)∈outs→i∈outs.map (·.1):=fun h=> List.mem_map_of_mem (f:=(·.1)) h
 have hob2: ∀ i oc,(i,oc)∈outs→ObjOk ι' S' w' i oc:=fun i oc h=> R2.ob i oc (jS hno' h)
 have hfresh: ∀ i oc,(i,oc)∈outs→i∉ins.map (·.1)→σ.ob (ρ i)= .free:=fun i oc h hn=> (oZ hfr h).resolve_left hn
 have hkeep: ∀ i oc,(i,oc)∈outs→i∈ins.map (·.1)→ι' i=ι (ρ i):=by
  intro i oc h hi
  have hp:i∈Pn:=si hPn (houtm h) hi
  exact R2.pin i i oc (by simp only [bc,kg,inO_iff.2 hp,cond_true]) (jS hno' h)
 have hblk: ∀ i oc B g,(i,oc)∈outs→ι' i=some B→B.g=some g→own1 g∨w.heap.size≤g:=fun i oc B g _ hB hg=> (R2.sep i B g hB hg).2.1
 have houtcase: ∀ c,c∈(outs.map (·.1)).map ρ→ ∃ i oc,(i,oc)∈outs∧c=ρ i:=by
  intro c hc
  obtain ⟨i,hi,rfl⟩:=List.mem_map.1 hc
  obtain ⟨⟨i',oc⟩,h,rfl⟩:=List.mem_map.1 hi
  exact ⟨i',oc,h,rfl⟩
 have hincase: ∀ c,c∈(ins.map (·.1)).map ρ→ ∃ i,i∈ins.map (·.1)∧c=ρ i:=by
  intro c hc
  obtain ⟨i,hi,rfl⟩:=List.mem_map.1 hc
  exact ⟨i,hi,rfl⟩
 have hobA: ∀ c,c∉(outs.map (·.1)).map ρ→c∈(ins.map (·.1)).map ρ→dS ρ outs (ins.map (·.1)) σ.ob c= .gone:=fun c h h'=> by rw [ed h,inO_iff.2 h'];rfl
 have hιA: ∀ c,c∉(outs.map (·.1)).map ρ→c∈(ins.map (·.1)).map ρ→fT ρ outs (ins.map (·.1)) ι' ι c=none:=fun c h h'=> by rw [gj h,inO_iff.2 h'];rfl
 have notin: ∀ {c} {l:List aC},c∉l→cJ c l=false:=fun {c l} h=> by
  cases hb:cJ c l with
  | true=> exact absurd (inO_iff.1 hb) h
  | false=> rfl
 have hrepr: ∀ {b:AV} {u:Value},(∀ i,Has i b→i∈outs.map (·.1))→Rep ι' S' w' b u→Rep (fT ρ outs (ins.map (·.1)) ι' ι) (fun g=> S g∨S' g) w' (b.ren ρ) u:=by
  intro b u hb h
  exact h.ren (fun g h=> .inr h) fun i B hi hB=> by rw [dK hno (hb i hi)] at hB;exact hB
 have R3:=R.gen (ι':=fT ρ outs (ins.map (·.1)) ι' ι) (S':=fun g=> S g∨S' g) (w':=w') (ob':=(σ.after ρ outs (ins.map (·.1)) I).ob) (inc':=inc') (fun c=> c∈(outs.map (·.1)).map ρ∨c∈(ins.map (·.1)).map ρ)
  (hk2.mono fun g ⟨i,B,h1,h2,h3⟩=> ⟨ρ i,B, .inr (List.mem_map_of_mem h1),h2,h3⟩)
  (fun c hc=> by rw [gj fun h=> hc (.inl h),notin fun h=> hc (.inr h)];rfl)
  (fun c hc=> by show dS _ _ _ _ _=_;rw [ed fun h=> hc (.inl h),notin fun h=> hc (.inr h)];rfl)
  (fun c hc=> hinc1 c fun h=> hc (.inl h))
  (fun c hc=> ?_) (fun g h=> .inl h) (fun g h=> ?_) (fun g h=> ?_) (fun c B hc hB=> ?_) (fun c oc hc hoc=> ?_) (fun c B hc hB=> ?_) (fun c c' B B' g hc hB hB' hg hg'=> ?_) (fun c B g hc hB hg=> ?_) (fun c h oc hc hp hoc=> ?_)
 ·have:=R3.put o.dst (av:=r.ren ρ) (v:=v) ?_ fun id hi=> ?_
  ·exact this
  ·have:=R2.fr 0 (by simp [bc])
   simp only [bc,Nat.beq_refl,cond_true] at this
   exact hrepr (fun i hi=> fL r hwo hi) (by simpa using this)
  obtain ⟨j,hj,rfl⟩:=tO r hi
  obtain ⟨⟨i',oc⟩,h,rfl⟩:=List.mem_map.1 (fL r hwo hj)
  show dS _ _ _ _ _≠_
  rw [dz hno h]
  intro h;cases h
 ·by_cases h1:c∈(outs.map (·.1)).map ρ
  ·obtain ⟨i,oc,h,rfl⟩:=houtcase c h1
   have:dS ρ outs (ins.map (·.1)) σ.ob (ρ i)= .free:=hc
   rw [dz hno h] at this;cases this
  by_cases h2:c∈(ins.map (·.1)).map ρ
  ·have:=(hobA c h1 h2).symm.trans hc;cases this
  have:dS ρ outs (ins.map (·.1)) σ.ob c= .free:=hc
  rwa [ed h1,notin h2] at this
 ·rcases h with h | h
  ·exact .inl h
  rcases hS2 g h with h | h
  ·exact .inl h
  exact .inr (.inl h)
 ·rcases h with h | h
  ·exact Nat.lt_of_lt_of_le (R.Slt g h) hk2.size
  exact R2.Slt g h
 ·by_cases h1:c∈(outs.map (·.1)).map ρ
  ·obtain ⟨i,oc,h,rfl⟩:=houtcase c h1
   by_cases hi:i∈ins.map (·.1)
   ·rw [dK hno (houtm h),hkeep i oc h hi] at hB
    exact .inl hB
   exact .inr (hfresh i oc h hi)
  rcases hc with hc | hc
  ·exact absurd hc h1
  rw [hιA c h1 hc] at hB;cases hB
 ·by_cases h1:c∈(outs.map (·.1)).map ρ
  ·obtain ⟨i,oi,h,rfl⟩:=houtcase c h1
   have e:dS ρ outs (ins.map (·.1)) σ.ob (ρ i)= .obj oc:=hoc
   rw [dz hno h] at e
   obtain rfl:=Slot.obj.inj e
   have hO:=hob2 i oi h
   have hι:=dK (ins:=ins.map (·.1)) (ι':=ι') (ι:=ι) hno (houtm h)
   refine ⟨?_,fun id' hi=> ?_⟩
   ·cases oi with
    | row e sz ys=>
     obtain ⟨B,b1,b2,b3⟩:=hO
     exact ⟨B,by rw [hι];exact b1,b2,b3.next (fun _ _=> rfl) fun j u hu p hp=> (hu p hp).next (fun _ _=> rfl) fun g h=> .inr h⟩
    | rowA e sz ys=>
     obtain ⟨B,b1,b2,b4⟩:=hO
     refine ⟨B,by rw [hι];exact b1,b2,?_⟩
     rw [iy]
     refine b4.next (fun _ _=> rfl) fun j u hu q hq=> ?_
     rw [jC] at hq
     obtain ⟨b,hb,rfl⟩:=Option.map_eq_some_iff.1 hq
     exact hrepr (fun k hk=> gQ hwoo h ⟨b,List.mem_of_getElem? hb,hk⟩) (hu b hb)
    | box e ys=>
     obtain ⟨B,g,b1,b2,b3,b4⟩:=hO
     refine ⟨B,g,by rw [hι];exact b1,b2,by rw [iy];exact b3,?_⟩
     rw [iy]
     refine b4.next (fun _ _=> rfl) fun j u hu q hq=> ?_
     rw [jC] at hq
     obtain ⟨b,hb,rfl⟩:=Option.map_eq_some_iff.1 hq
     exact hrepr (fun k hk=> gQ hwoo h ⟨b,List.mem_of_getElem? hb,hk⟩) (hu b hb)
    | mp es clock=>
     obtain ⟨B,g,b1,b2,b3⟩:=hO
     exact ⟨B,g,by rw [hι];exact b1,b2,b3⟩
    | it m since seen stepped=>
     obtain ⟨B,g,b1,b2,mg,b3,b4⟩:=hO
     refine ⟨B,g,by rw [hι];exact b1,b2,mg,b3,fun B' hB'=> b4 B' ?_⟩
     rw [dK hno (gQ hwoo h rfl)] at hB'
     exact hB'
   cases oi with
   | row e sz ys=> exact hi.elim
   | mp es clock=> exact hi.elim
   | it m since seen stepped=>
    have hi:id'=ρ m:=hi
    subst hi
    obtain ⟨⟨i',oc'⟩,h',rfl⟩:=List.mem_map.1 (gQ hwoo h (rfl:Cells.Has m (.it m since seen stepped)))
    show dS _ _ _ _ _≠_
    rw [dz hno h']
    intro h;cases h
   | rowA e sz ys=>
    obtain ⟨q,hq,hqi⟩:=hi
    obtain ⟨j,b,hb,hj,rfl⟩:=jD ys q hq hqi
    obtain ⟨⟨i',oc'⟩,h',rfl⟩:=List.mem_map.1 (gQ hwoo h ⟨b,hb,hj⟩)
    show dS _ _ _ _ _≠_
    rw [dz hno h']
    intro h;cases h
   | box e ys=>
    obtain ⟨q,hq,hqi⟩:=hi
    obtain ⟨j,b,hb,hj,rfl⟩:=jD ys q hq hqi
    obtain ⟨⟨i',oc'⟩,h',rfl⟩:=List.mem_map.1 (gQ hwoo h ⟨b,hb,hj⟩)
    show dS _ _ _ _ _≠_
    rw [dz hno h']
    intro h;cases h
  rcases hc with hc | hc
  ·exact absurd hc h1
  have:=(hobA c h1 hc).symm.trans hoc;cases this
 ·by_cases h1:c∈(outs.map (·.1)).map ρ
  ·obtain ⟨i,oi,h,rfl⟩:=houtcase c h1
   exact ⟨_,dz hno h⟩
  rcases hc with hc | hc
  ·exact absurd hc h1
  rw [hιA c h1 hc] at hB;cases hB
 ·by_cases h1:c∈(outs.map (·.1)).map ρ
  ·obtain ⟨i,oi,h,rfl⟩:=houtcase c h1
   rw [dK hno (houtm h)] at hB
   by_cases h2:c'∈(outs.map (·.1)).map ρ
   ·obtain ⟨i',oi',h',rfl⟩:=houtcase c' h2
    rw [dK hno (houtm h')] at hB'
    rw [R2.inj i i' B B' g hB hB' hg hg']
   by_cases h3:c'∈(ins.map (·.1)).map ρ
   ·rw [hιA c' h2 h3] at hB';cases hB'
   rw [gj h2,notin h3] at hB'
   have hB':ι c'=some B':=hB'
   rcases hblk i oi B g h hB hg with ⟨i0,B0,a1,a2,a3⟩ | hge
   ·have:=R.inj _ _ B' B0 g hB' a2 hg' a3
    exact absurd (this ▸ List.mem_map_of_mem a1) h3
   have:=R.lt hB' hg'
   omega
  rcases hc with hc | hc
  ·exact absurd hc h1
  rw [hιA c h1 hc] at hB;cases hB
 ·by_cases h1:c∈(outs.map (·.1)).map ρ
  ·obtain ⟨i,oi,h,rfl⟩:=houtcase c h1
   rw [dK hno (houtm h)] at hB
   obtain ⟨s1,s2,s3⟩:=R2.sep i B g hB hg
   refine ⟨fun hs=> ?_,?_,fun hf=> ?_⟩
   ·rcases hs with hs | hs
    ·rcases s2 with ⟨i0,B0,a1,a2,a3⟩ | hge
     ·exact (R.sep _ B0 g a2 a3).1 hs
     have:=R.Slt g hs
     have hge:w.heap.size≤g:=hge
     omega
    exact s1 hs
   ·rcases s2 with ⟨i0,B0,a1,a2,a3⟩ | hge
    ·exact (R.sep _ B0 g a2 a3).2.1
    exact .inr (Nat.le_trans R.keeps.size hge)
   rcases hinc2 i (houtm h) hf with ⟨h1,h2⟩ | hI | ⟨h1,h2⟩
   ·rw [hkeep i oi h h1] at hB
    exact (R.sep _ B g hB hg).2.2 h2
   ·exact Nat.le_trans R.keeps.size (s3 hI)
   rcases s2 with ⟨i0,B0,a1,a2,a3⟩ | hge
   ·by_cases h3:i0∈outs.map (·.1)
    ·obtain ⟨⟨i1,o1⟩,hm1,rfl⟩:=List.mem_map.1 h3
     have hk0:=hkeep i1 o1 hm1 a1
     have:=R2.inj i i1 B B0 g hB (hk0.trans a2) hg a3
     exact absurd (this ▸ a1) h1
    exact (R.sep _ B0 g a2 a3).2.2 (h2 i0 a1 h3)
   exact Nat.le_trans R.keeps.size hge
  rcases hc with hc | hc
  ·exact absurd hc h1
  rw [hιA c h1 hc] at hB;cases hB
 by_cases h1:c∈(outs.map (·.1)).map ρ
 ·obtain ⟨i,oi,hm,rfl⟩:=houtcase c h1
  by_cases hi:i∈ins.map (·.1)
  ·obtain ⟨_,o2,_,_,_,h2,_⟩:=hino i hi
   exact ⟨by rw [dK hno (houtm hm),hkeep i oi hm hi],o2,h2⟩
  rw [R.pf _ (hfresh i oi hm hi)] at hp;cases hp
 rcases hc with hc | hc
 ·exact absurd hc h1
 have:=(hobA c h1 hc).symm.trans hoc;cases this

theorem Cm {f:FuncId} {avs:List AV} (hE:EntersAt P o σ f avs) (rn:List (aC×aC)) {args:List AV} {ins outs:List (aC×Cells)} {r:AV} {I Pn:List aC}
  (ha:gH σ rn avs args) (hw:AV.withins (ins.map (·.1)) args=true) (hwi:bz (ins.map (·.1)) ins=true) (hins:ey (bk rn) σ (fun _=> false) (ins.map (·.1)) ins)
  (hni:bA ((ins.map (·.1)).map (bk rn))=true) (hni':bA (ins.map (·.1))=true) (hno:bA ((outs.map (·.1)).map (bk rn))=true) (hno':bA (outs.map (·.1))=true) (hfr:eT σ (bk rn) (ins.map (·.1)) outs) (hPn:iu (ins.map (·.1)) Pn outs=true)
  (hwo:r.within (outs.map (·.1))=true) (hwoo:bz (outs.map (·.1)) outs=true) (sp:Spec P f (aY args ins) (bc r outs I Pn)):
  dh P o σ ((σ.after (bk rn) outs (ins.map (·.1)) I).put o.dst (r.ren (bk rn))):=by
 refine ut hE rn (σ.after (bk rn) outs (ins.map (·.1)) I).inc (fun c hc=> lP hc) (fun i hi hf=> ?_) ha hw hwi hins hni hni' hno hno' hfr hPn hwo hwoo sp
 obtain ⟨⟨i',oi⟩,h,rfl⟩:=List.mem_map.1 hi
 have hf:ju (bk rn) outs I (gd σ ((ins.map (·.1)).map (bk rn))) σ.inc (bk rn i')=false:=hf
 rw [nL (aL hno) h] at hf
 cases hI:cJ i' I with
 | false=> exact .inr (.inl rfl)
 | true=>
  rw [hI] at hf
  simp only [cond_true] at hf
  have hall: ∀ j,j∈ins.map (·.1)→σ.inc (bk rn j)=false:=fun j hj=> kL hf _ (List.mem_map_of_mem hj)
  by_cases hin:i'∈ins.map (·.1)
  ·exact .inl ⟨hin,hall _ hin⟩
  exact .inr (.inr ⟨hin,fun j hj _=> hall j hj⟩)
def lI (ρ:aC→aC) (ins I:List aC) (any:Bool) (inc:aC→Bool):List (aC×Cells)→aC→Bool
 | [],c=> inc c
 | (i,_)::l,c=> bif gN c (ρ i) then (bif cJ i ins then inc c else bif cJ i I then any else false) else lI ρ ins I any inc l c
theorem nf {ρ:aC→aC} {ins I:List aC} {any:Bool} {inc:aC→Bool} {c:aC}: ∀ {outs:List (aC×Cells)},c∉(outs.map (·.1)).map ρ→lI ρ ins I any inc outs c=inc c
 | [],_=> rfl
 | (k,o)::l,h=> by
  simp only [List.map_cons,List.mem_cons,not_or] at h
  simp only [lI,fD h.1,cond_false]
  exact nf h.2
theorem qJ {ρ:aC→aC} {ins I:List aC} {any:Bool} {inc:aC→Bool} {i:aC}: ∀ {outs:List (aC×Cells)},((outs.map (·.1)).map ρ).Nodup→i∈outs.map (·.1)→lI ρ ins I any inc outs (ρ i)=(bif cJ i ins then inc (ρ i) else bif cJ i I then any else false)
 | [],_,h=> by simp at h
 | (k,o)::l,hn,h=> by
  simp only [List.map_cons,List.nodup_cons] at hn
  simp only [List.map_cons,List.mem_cons] at h
  rcases h with rfl | h
  ·simp only [lI,dD,cond_true]
  have hne:ρ i≠ρ k:=fun e=> hn.1 (e ▸ List.mem_map_of_mem h)
  simp only [lI,fD hne,cond_false]
  exact qJ hn.2 h
def gV (outs:List (aC×Cells)):List aC→List aC
 | []=> []
 | i::l=> bif cJ i (outs.map (·.1)) then gV outs l else i::gV outs l
theorem ke {outs:List (aC×Cells)} {i:aC}: ∀ {l:List aC},i∈l→i∉outs.map (·.1)→i∈gV outs l
 | [],h,_=> by cases h
 | k::l,h,hn=> by
  simp only [gV]
  cases hb:cJ k (outs.map (·.1)) with
  | true=>
   simp only [cond_true]
   rcases List.mem_cons.1 h with rfl | h
   ·exact absurd (inO_iff.1 hb) hn
   exact ke h hn
  | false=>
   simp only [cond_false]
   rcases List.mem_cons.1 h with rfl | h
   ·exact List.mem_cons_self
   exact List.mem_cons_of_mem _ (ke h hn)
def St.afterP (σ:St) (ρ:aC→aC) (outs:List (aC×Cells)) (ins I:List aC):St:=
 { σ with ob:=dS ρ outs ins σ.ob,inc:=lI ρ ins I (gd σ ((gV outs ins).map ρ)) σ.inc outs }
theorem qP {f:FuncId} {avs:List AV} (hE:EntersAt P o σ f avs) (rn:List (aC×aC)) {args:List AV} {ins outs:List (aC×Cells)} {r:AV} {I Pn:List aC}
  (ha:gH σ rn avs args) (hw:AV.withins (ins.map (·.1)) args=true) (hwi:bz (ins.map (·.1)) ins=true) (hins:ey (bk rn) σ (fun _=> false) (ins.map (·.1)) ins)
  (hni:bA ((ins.map (·.1)).map (bk rn))=true) (hni':bA (ins.map (·.1))=true) (hno:bA ((outs.map (·.1)).map (bk rn))=true) (hno':bA (outs.map (·.1))=true) (hfr:eT σ (bk rn) (ins.map (·.1)) outs) (hPn:iu (ins.map (·.1)) Pn outs=true)
  (hwo:r.within (outs.map (·.1))=true) (hwoo:bz (outs.map (·.1)) outs=true) (sp:Spec P f (aY args ins) (bc r outs I Pn)):
  dh P o σ ((σ.afterP (bk rn) outs (ins.map (·.1)) I).put o.dst (r.ren (bk rn))):=by
 refine ut hE rn (σ.afterP (bk rn) outs (ins.map (·.1)) I).inc (fun c hc=> nf hc) (fun i hi hf=> ?_) ha hw hwi hins hni hni' hno hno' hfr hPn hwo hwoo sp
 have hf:lI (bk rn) (ins.map (·.1)) I (gd σ ((gV outs (ins.map (·.1))).map (bk rn))) σ.inc outs (bk rn i)=false:=hf
 rw [qJ (aL hno) hi] at hf
 cases hb:cJ i (ins.map (·.1)) with
 | true=>
  rw [hb] at hf
  exact .inl ⟨inO_iff.1 hb,hf⟩
 | false=>
  rw [hb] at hf
  simp only [cond_false] at hf
  cases hI:cJ i I with
  | false=> exact .inr (.inl rfl)
  | true=>
   rw [hI] at hf
   simp only [cond_true] at hf
   refine .inr (.inr ⟨fun h=> ?_,fun j hj hn=> kL hf _ (List.mem_map_of_mem (ke hj hn))⟩)
   rw [inO_iff.2 h] at hb;cases hb

theorem cm {dd:Option Tmp} {ty:TypeId} {f:FuncId} {xs:Array Operand} {ats:Array TypeId} (C:cR P f) (rn:List (aC×aC)) {args:List AV} {ins outs:List (aC×Cells)} {r:AV} {I Pn:List aC}
  (ha:gH σ rn (xs.toList.map σ.eval) args) (sp:Spec P f (aY args ins) (bc r outs I Pn)) (hins:ey (bk rn) σ (fun _=> false) (ins.map (·.1)) ins) (hfr:eT σ (bk rn) (ins.map (·.1)) outs)
  (hb:(AV.withins (ins.map (·.1)) args && bz (ins.map (·.1)) ins && bA ((ins.map (·.1)).map (bk rn)) && bA (ins.map (·.1)) && bA ((outs.map (·.1)).map (bk rn)) && bA (outs.map (·.1)) && iu (ins.map (·.1)) Pn outs && r.within (outs.map (·.1)) && bz (outs.map (·.1)) outs)=true):
  Stp P dd (.call { callee:= .value (.func f),args:=xs,argTypes:=ats }) ty σ ((σ.after (bk rn) outs (ins.map (·.1)) I).put dd (r.ren (bk rn))):=by
 intro o hd ho ht
 subst hd
 simp only [Bool.and_eq_true] at hb
 obtain ⟨⟨⟨⟨⟨⟨⟨⟨h1,h2⟩,h3⟩,h4⟩,h5⟩,h6⟩,h7⟩,h8⟩,h9⟩:=hb
 exact Cm (.fnc ho C) rn ha h1 h2 hins h3 h4 h5 h6 hfr h7 h8 h9 sp
end
theorem mL {x0 x1}:AV.sl x0 x1=AV.sl x0 x1:=rfl
theorem eg {x0 x1}:AV.v (.int x0 x1)=AV.v (.int x0 x1):=rfl
theorem bJ {x0}:AV.v (.bool x0)=AV.v (.bool x0):=rfl
theorem xD {x0}:AV.v (.string x0)=AV.v (.string x0):=rfl
theorem kK {x0 x1 x2 x3}:(some [x0,x1,x2,x3]:Option (List AV))=some [x0,x1,x2,x3]:=rfl
theorem lb {x0}:AV.v x0=AV.v x0:=rfl
theorem fC {x0 x1 x2}:AV.v (.slice x0 x1 x2)=AV.v (.slice x0 x1 x2):=rfl
theorem tQ {x0}:AV.tup x0=AV.tup x0:=rfl
theorem pF {x0}:some (AV.agg x0)=some (AV.agg x0):=rfl
theorem ee {x0 x1}:some (AV.v (.int x0 x1))=some (AV.v (.int x0 x1)):=rfl
theorem fA {x0}:some (AV.v (.string x0))=some (AV.v (.string x0)):=rfl
theorem dW {x0 x1 x2}:AV.ref x0 x1 x2=AV.ref x0 x1 x2:=rfl
theorem bX {x0 x1}:AV.ptr x0 x1=AV.ptr x0 x1:=rfl
theorem eG {x0 x1}:some (AV.sl x0 x1)=some (AV.sl x0 x1):=rfl
theorem ei {x0 x1 x2}:some (AV.ref x0 x1 x2)=some (AV.ref x0 x1 x2):=rfl
theorem sU {x0 x1 x2 x3 x4}:(some [x0,x1,x2,x3,x4]:Option (List AV))=some [x0,x1,x2,x3,x4]:=rfl
theorem eV {x0 x1}:(some [x0,x1]:Option (List AV))=some [x0,x1]:=rfl
theorem BX {x0}:some (AV.v (.bool x0))=some (AV.v (.bool x0)):=rfl
theorem FA {x0 x1 x2 x3 x4 x5 x6 x7 x8 x9 x10 x11 x12 x13 x14 x15 x16 x17 x18 x19 x20 x21 x22 x23 x24 x25 x26 x27 x28 x29 x30 x31 x32 x33 x34 x35 x36 x37 x38 x39 x40 x41 x42}:(some [x0,x1,x2,x3,x4,x5,x6,x7,x8,x9,x10,x11,x12,x13,x14,x15,x16,x17,x18,x19,x20,x21,x22,x23,x24,x25,x26,x27,x28,x29,x30,x31,x32,x33,x34,x35,x36,x37,x38,x39,x40,x41,x42]:Option (List AV))=some [x0,x1,x2,x3,x4,x5,x6,x7,x8,x9,x10,x11,x12,x13,x14,x15,x16,x17,x18,x19,x20,x21,x22,x23,x24,x25,x26,x27,x28,x29,x30,x31,x32,x33,x34,x35,x36,x37,x38,x39,x40,x41,x42]:=rfl
theorem lp {x0 x1 x2}:AV.fn x0 x1 x2=AV.fn x0 x1 x2:=rfl
theorem CB {x0 x1 x2 x3 x4 x5 x6 x7 x8 x9}:(some [x0,x1,x2,x3,x4,x5,x6,x7,x8,x9]:Option (List AV))=some [x0,x1,x2,x3,x4,x5,x6,x7,x8,x9]:=rfl
theorem fv {P:Program} {fn:Func} {σ:St} {t:Tmp} {x:Value} (hr:fn.results= #[.tmp t]) (h:σ.eval (.tmp t)= .v x):oV P fn (aP (.v x) []) .ret σ:=bI (.inr rfl) hr (.tmp h) (Le.out [] [] .v rfl rfl rfl trivial trivial)
theorem qV {P:Program} {fn:Func} {σ:St} {t:Tmp} {n:Nat} {xs:List PV} (hr:fn.results= #[.tmp t]) (h:σ.eval (.tmp t)= .sl n xs):oV P fn (aP (.sl n xs) []) .ret σ:=bI (.inr rfl) hr (.tmp h) (Le.out [] [] .sl rfl rfl rfl trivial trivial)
theorem rK {P:Program} {fn:Func} {σ:St} {t:Tmp} {k:IntKind} {n m:Int} (hr:fn.results= #[.tmp t]) (h:σ.eval (.tmp t)= .v (.int k n)) (e:m=n):oV P fn (aP (.v (.int k m)) []) .ret σ:=bI (.inr rfl) hr (.tmp h) (Le.out [] [] (co e) rfl rfl rfl trivial trivial)
theorem rJ {P:Program} {fn:Func} {σ:St} {t:Tmp} {a b:Bool} (hr:fn.results= #[.tmp t]) (h:σ.eval (.tmp t)= .v (.bool b)) (e:a=b):oV P fn (aP (.v (.bool a)) []) .ret σ:=bI (.inr rfl) hr (.tmp h) (Le.out [] [] (mw e) rfl rfl rfl trivial trivial)
theorem oC {p:Prop} (h:p:=by simp [Value.oneCell']):p:=h
end Go.Proofs.YtmjnackchaahbaaGreat

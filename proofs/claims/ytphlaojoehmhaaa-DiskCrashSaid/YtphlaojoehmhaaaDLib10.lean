/- The machine's steps in a short form, by program (gen_ops.py). No program text. -/
import Derived.Test.YtphlaojoehmhaaaDLib9
set_option linter.unusedSimpArgs false
set_option linter.unusedVariables false
namespace Go.Proofs.Ytphlaojoehmhaaa
open Go.RowKit

def Stp (P : Program) (d : Option Tmp) (op : Op) (ty : TypeId) (σ σ' : St) : Prop := ∀ o : Oper, o.dst = d → o.op = op → o.type = ty → Step P o σ σ'
section
variable {P : Program} {σ : St} {av : AV} {t e T : TypeId} {agg : Bool} {z : List Value} {size bytes : Nat} {t' : TypeId} {a b : Int} {k : IntKind}
theorem op_mv {dd : Option Tmp} {ty : TypeId} (x : Operand) (hx : σ.eval x = av) : Stp P dd (.move x) ty σ ((σ.put dd av)) :=
  fun o hd ho ht => by subst hd; subst ht; exact st_mv (ho := ho) (x := x) (hx := hx)
theorem op_as {dd : Option Tmp} {ty : TypeId} (x : Operand) (hx : σ.eval x = av) : Stp P dd (.assign x) ty σ ((σ.put dd av)) :=
  fun o hd ho ht => by subst hd; subst ht; exact st_as (ho := ho) (x := x) (hx := hx)
theorem op_pick {dd : Option Tmp} {ty : TypeId} {b : Bool} (c x y : Operand) (hc : σ.eval c = .v (.bool b)) (hx : σ.eval (if b then x else y) = av) : Stp P dd (.pick c x y) ty σ ((σ.put dd av)) :=
  fun o hd ho ht => by subst hd; subst ht; exact st_pick (ho := ho) (b := b) (c := c) (x := x) (y := y) (hc := hc) (hx := hx)
theorem op_nilc {dd : Option Tmp} {ty : TypeId} (x : Operand) {off : Nat} {xs : List PV} (hx : σ.eval x = .fp off xs) : Stp P dd (.nilCheck x) ty σ ((σ.put dd (.fp off xs))) :=
  fun o hd ho ht => by subst hd; subst ht; exact st_nilc (ho := ho) (x := x) (off := off) (xs := xs) (hx := hx)
theorem op_nilp {dd : Option Tmp} {ty : TypeId} (x : Operand) {id : Oid} {off : Nat} {oc : Cells} (hx : σ.eval x = .ptr id off) (hid : σ.ob id = .obj oc) : Stp P dd (.nilCheck x) ty σ ((σ.put dd (.ptr id off))) :=
  fun o hd ho ht => by subst hd; subst ht; exact st_nilp (ho := ho) (x := x) (id := id) (off := off) (oc := oc) (hx := hx) (hid := hid)
theorem op_fldP {dd : Option Tmp} {ty : TypeId} {T : TypeId} {f off : Nat} (x : Operand) (F : Fld P T f off) {id : Oid} {of0 of1 : Nat} {oc : Cells} (hx : σ.eval x = .ptr id of0) (hid : σ.ob id = .obj oc) (he : of0 + off = of1) : Stp P dd (.fieldAddr T x f) ty σ ((σ.put dd (.ptr id of1))) :=
  fun o hd ho ht => by subst hd; subst ht; exact st_fldP (ho := ho) (T := T) (f := f) (off := off) (x := x) (F := F) (id := id) (of0 := of0) (of1 := of1) (oc := oc) (hx := hx) (hid := hid) (he := he)
theorem op_fldF {dd : Option Tmp} {ty : TypeId} {T : TypeId} {f off : Nat} (x : Operand) (F : Fld P T f off) {of0 of1 : Nat} {xs : List PV} (hx : σ.eval x = .fp of0 xs) (he : of0 + off = of1) : Stp P dd (.fieldAddr T x f) ty σ ((σ.put dd (.fp of1 xs))) :=
  fun o hd ho ht => by subst hd; subst ht; exact st_fldF (ho := ho) (T := T) (f := f) (off := off) (x := x) (F := F) (of0 := of0) (of1 := of1) (xs := xs) (hx := hx) (he := he)
theorem op_ixS {dd : Option Tmp} {ty : TypeId} {T e : TypeId} {size bytes : Nat} {z : List Value} (x y : Operand) (E : Elem P T e size bytes z) {n : Nat} {xs : List PV} (hx : σ.eval x = .sl n xs) {k : IntKind} {I : Int} (hy : σ.eval y = .v (.int k I)) (j : Nat) (hI : I = (j : Int)) (hj : j < n) (hne : 0 < xs.length) {off : Nat} (he : j * size = off) : Stp P dd (.indexAddr T x y) ty σ ((σ.put dd (.fp off xs))) :=
  fun o hd ho ht => by subst hd; subst ht; exact st_ixS (ho := ho) (T := T) (e := e) (size := size) (bytes := bytes) (z := z) (x := x) (y := y) (E := E) (n := n) (xs := xs) (hx := hx) (k := k) (I := I) (hy := hy) (j := j) (hI := hI) (hj := hj) (hne := hne) (off := off) (he := he)
theorem op_ixR {dd : Option Tmp} {ty : TypeId} {T e e' : TypeId} {size bytes sz : Nat} {z : List Value} (x y : Operand) (E : Elem P T e size bytes z) {id : Oid} {of0 n : Nat} {xs : List PV} (hx : σ.eval x = .ref id of0 n) (hid : σ.ob id = .obj (.row e' sz xs)) {k : IntKind} {I : Int} (hy : σ.eval y = .v (.int k I)) (j : Nat) (hI : I = (j : Int)) (hj : j < n) {off : Nat} (he : of0 + j * size = off) : Stp P dd (.indexAddr T x y) ty σ ((σ.put dd (.ptr id off))) :=
  fun o hd ho ht => by subst hd; subst ht; exact st_ixR (ho := ho) (T := T) (e := e) (e' := e') (size := size) (bytes := bytes) (sz := sz) (z := z) (x := x) (y := y) (E := E) (id := id) (of0 := of0) (n := n) (xs := xs) (hx := hx) (hid := hid) (k := k) (I := I) (hy := hy) (j := j) (hI := hI) (hj := hj) (off := off) (he := he)
theorem op_ldB {dd : Option Tmp} {ty : TypeId} (x : Operand) (T : Ty P t false z) {id : Oid} {off : Nat} (hx : σ.eval x = .ptr id off) {e : TypeId} {xs : List AV} (hid : σ.ob id = .obj (.box e xs)) (hv : xs[off]? = some av) : Stp P dd (.load t x) ty σ ((σ.put dd av)) :=
  fun o hd ho ht => by subst hd; subst ht; exact st_ldB (ho := ho) (x := x) (T := T) (id := id) (off := off) (hx := hx) (e := e) (xs := xs) (hid := hid) (hv := hv)
theorem op_ldR {dd : Option Tmp} {ty : TypeId} (x : Operand) (T : Ty P t false z) {id : Oid} {off : Nat} (hx : σ.eval x = .ptr id off) {e : TypeId} {sz : Nat} {xs : List PV} (hid : σ.ob id = .obj (.row e sz xs)) {p : PV} (hv : xs[off]? = some p) (ha : p.up = av) : Stp P dd (.load t x) ty σ ((σ.put dd av)) :=
  fun o hd ho ht => by subst hd; subst ht; exact st_ldR (ho := ho) (x := x) (T := T) (id := id) (off := off) (hx := hx) (e := e) (sz := sz) (xs := xs) (hid := hid) (p := p) (hv := hv) (ha := ha)
theorem op_ldF {dd : Option Tmp} {ty : TypeId} (x : Operand) (T : Ty P t false z) {off : Nat} {xs : List PV} (hx : σ.eval x = .fp off xs) {p : PV} (hv : xs[off]? = some p) (ha : p.up = av) : Stp P dd (.load t x) ty σ ((σ.put dd av)) :=
  fun o hd ho ht => by subst hd; subst ht; exact st_ldF (ho := ho) (x := x) (T := T) (off := off) (xs := xs) (hx := hx) (p := p) (hv := hv) (ha := ha)
theorem op_ldBA {dd : Option Tmp} {ty : TypeId} (x : Operand) (T : Ty P t true z) {id : Oid} {off : Nat} (hx : σ.eval x = .ptr id off) {e : TypeId} {xs : List AV} (hid : σ.ob id = .obj (.box e xs)) {ys : List AV} (hy : (xs.drop off).take z.length = ys) (hl : ys.length = z.length) : Stp P dd (.load t x) ty σ ((σ.put dd (.agg ys))) :=
  fun o hd ho ht => by subst hd; subst ht; exact st_ldBA (ho := ho) (x := x) (T := T) (id := id) (off := off) (hx := hx) (e := e) (xs := xs) (hid := hid) (ys := ys) (hy := hy) (hl := hl)
theorem op_ldRA {dd : Option Tmp} {ty : TypeId} (x : Operand) (T : Ty P t true z) {id : Oid} {off : Nat} (hx : σ.eval x = .ptr id off) {e : TypeId} {sz : Nat} {xs : List PV} (hid : σ.ob id = .obj (.row e sz xs)) {ys : List AV} (hy : PV.ups ((xs.drop off).take z.length) = ys) (hl : ys.length = z.length) : Stp P dd (.load t x) ty σ ((σ.put dd (.agg ys))) :=
  fun o hd ho ht => by subst hd; subst ht; exact st_ldRA (ho := ho) (x := x) (T := T) (id := id) (off := off) (hx := hx) (e := e) (sz := sz) (xs := xs) (hid := hid) (ys := ys) (hy := hy) (hl := hl)
theorem op_ldFA {dd : Option Tmp} {ty : TypeId} (x : Operand) (T : Ty P t true z) {off : Nat} {xs : List PV} (hx : σ.eval x = .fp off xs) {ys : List AV} (hy : PV.ups ((xs.drop off).take z.length) = ys) (hl : ys.length = z.length) : Stp P dd (.load t x) ty σ ((σ.put dd (.agg ys))) :=
  fun o hd ho ht => by subst hd; subst ht; exact st_ldFA (ho := ho) (x := x) (T := T) (off := off) (xs := xs) (hx := hx) (ys := ys) (hy := hy) (hl := hl)
theorem op_fv1 {dd : Option Tmp} {ty : TypeId} {T : TypeId} {f off sz : Nat} (x : Operand) (F : Fvl P T f off false sz) {xs : List AV} (hx : σ.eval x = .agg xs) (hv : xs[off]? = some av) : Stp P dd (.field T x f) ty σ ((σ.put dd av)) :=
  fun o hd ho ht => by subst hd; subst ht; exact st_fv1 (ho := ho) (T := T) (f := f) (off := off) (sz := sz) (x := x) (F := F) (xs := xs) (hx := hx) (hv := hv)
theorem op_fvA {dd : Option Tmp} {ty : TypeId} {T : TypeId} {f off sz : Nat} (x : Operand) (F : Fvl P T f off true sz) {xs : List AV} (hx : σ.eval x = .agg xs) {ys : List AV} (hy : (xs.drop off).take sz = ys) (hl : ys.length = sz) : Stp P dd (.field T x f) ty σ ((σ.put dd (.agg ys))) :=
  fun o hd ho ht => by subst hd; subst ht; exact st_fvA (ho := ho) (T := T) (f := f) (off := off) (sz := sz) (x := x) (F := F) (xs := xs) (hx := hx) (ys := ys) (hy := hy) (hl := hl)
theorem op_lenS {dd : Option Tmp} {ty : TypeId} {T e : TypeId} {size bytes : Nat} (x : Operand) (E : Elem P T e size bytes z) {n : Nat} {xs : List PV} (hx : σ.eval x = .sl n xs) : Stp P dd (.call { callee := .builtin .len, args := #[x], argTypes := #[T] }) ty σ ((σ.put dd (.v (.int .i64 (n : Int))))) :=
  fun o hd ho ht => by subst hd; subst ht; exact st_lenS (ho := ho) (T := T) (e := e) (size := size) (bytes := bytes) (x := x) (E := E) (n := n) (xs := xs) (hx := hx)
theorem op_lenN {dd : Option Tmp} {ty : TypeId} {T e : TypeId} {size bytes : Nat} (x : Operand) (E : Elem P T e size bytes z) (hx : σ.eval x = .v (.slice none 0 0)) : Stp P dd (.call { callee := .builtin .len, args := #[x], argTypes := #[T] }) ty σ ((σ.put dd (.v (.int .i64 0)))) :=
  fun o hd ho ht => by subst hd; subst ht; exact st_lenN (ho := ho) (T := T) (e := e) (size := size) (bytes := bytes) (x := x) (E := E) (hx := hx)
theorem op_lenR {dd : Option Tmp} {ty : TypeId} {T e e' : TypeId} {size bytes sz : Nat} (x : Operand) (E : Elem P T e size bytes z) {id : Oid} {off n : Nat} {xs : List PV} (hx : σ.eval x = .ref id off n) (hid : σ.ob id = .obj (.row e' sz xs)) : Stp P dd (.call { callee := .builtin .len, args := #[x], argTypes := #[T] }) ty σ ((σ.put dd (.v (.int .i64 (n : Int))))) :=
  fun o hd ho ht => by subst hd; subst ht; exact st_lenR (ho := ho) (T := T) (e := e) (e' := e') (size := size) (bytes := bytes) (sz := sz) (x := x) (E := E) (id := id) (off := off) (n := n) (xs := xs) (hx := hx) (hid := hid)
theorem op_alloc {dd : Option Tmp} {ty : TypeId} (id : Oid) (T : Ty P e agg z) (hid : σ.ob id = .free) {xs : List AV} (hx : z.map AV.v = xs) : Stp P dd (.alloc e) ty σ (((σ.setOb id (.obj (.box e xs))).put dd (.ptr id 0))) :=
  fun o hd ho ht => by subst hd; subst ht; exact st_alloc (ho := ho) (id := id) (T := T) (hid := hid) (xs := xs) (hx := hx)
theorem op_box {dd : Option Tmp} {ty : TypeId} (id : Oid) (x : Operand) (hid : σ.ob id = .free) {xs : List AV} (hx : (σ.eval x).cells = some xs) : Stp P dd (.box e x) ty σ (((σ.setOb id (.obj (.box e xs))).put dd (.ptr id 0))) :=
  fun o hd ho ht => by subst hd; subst ht; exact st_box (ho := ho) (id := id) (x := x) (hid := hid) (xs := xs) (hx := hx)
theorem op_stB {dd : Option Tmp} {ty : TypeId} (x y : Operand) (T : Ty P t agg z) {id : Oid} {off : Nat} (hx : σ.eval x = .ptr id off) {e : TypeId} {xs : List AV} (hid : σ.ob id = .obj (.box e xs)) {vs : List AV} (hv : (σ.eval y).cells = some vs) (hl : vs.length = z.length) (hfit : off + vs.length ≤ xs.length) {ys : List AV} (hy : putL xs off vs = ys) : Stp P dd (.store t x y) ty σ (((σ.setOb id (.obj (.box e ys))).put dd .dead)) :=
  fun o hd ho ht => by subst hd; subst ht; exact st_stB (ho := ho) (x := x) (y := y) (T := T) (id := id) (off := off) (hx := hx) (e := e) (xs := xs) (hid := hid) (vs := vs) (hv := hv) (hl := hl) (hfit := hfit) (ys := ys) (hy := hy)
theorem op_stR {dd : Option Tmp} {ty : TypeId} (x y : Operand) (T : Ty P t agg z) {id : Oid} {off : Nat} (hx : σ.eval x = .ptr id off) {e : TypeId} {sz : Nat} {xs : List PV} (hid : σ.ob id = .obj (.row e sz xs)) {ys0 : List AV} (hv : (σ.eval y).cells = some ys0) {vs : List PV} (hd : downs ys0 = some vs) (hl : vs.length = z.length) (hfit : off + vs.length ≤ xs.length) {ys : List PV} (hy : putL xs off vs = ys) : Stp P dd (.store t x y) ty σ (((σ.setOb id (.obj (.row e sz ys))).put dd .dead)) :=
  fun o hd ho ht => by subst hd; subst ht; exact st_stR (ho := ho) (x := x) (y := y) (T := T) (id := id) (off := off) (hx := hx) (e := e) (sz := sz) (xs := xs) (hid := hid) (ys0 := ys0) (hv := hv) (vs := vs) (hd := hd) (hl := hl) (hfit := hfit) (ys := ys) (hy := hy)
theorem op_mk {dd : Option Tmp} {ty : TypeId} (id : Oid) (x y : Operand) (E : Elem P T e size bytes z) {kl kc : IntKind} {N M : Int} (hx : σ.eval x = .v (.int kl N)) (hy : σ.eval y = .v (.int kc M)) (n : Nat) (hN : N = (n : Int)) (hM : M = (n : Int)) (hb : n * bytes ≤ 140737488355328) (hid : σ.ob id = .free) {xs : List PV} (hxs : (rep n z).map PV.v = xs) : Stp P dd (Op.makeSlice T x y) ty σ (((σ.setOb id (.obj (.row e size xs))).put dd (.ref id 0 n))) :=
  fun o hd ho ht => by subst hd; subst ht; exact st_mk (ho := ho) (id := id) (x := x) (y := y) (E := E) (kl := kl) (kc := kc) (N := N) (M := M) (hx := hx) (hy := hy) (n := n) (hN := hN) (hM := hM) (hb := hb) (hid := hid) (xs := xs) (hxs := hxs)
theorem op_bs {dd : Option Tmp} {ty : TypeId} (id : Oid) (len : Nat) (parts : Array (Nat × Operand)) (E : Elem P T e size bytes z) {r : List (List AV)} (hp : partsL σ 0 parts.toList = some r) (hlen : r.length = len) (hsz : ∀ c ∈ r, c.length = size) (hb : len * size ≤ 100000) (hid : σ.ob id = .free) {xs : List PV} (hxs : downs r.flatten = some xs) : Stp P dd (.buildSlice T len parts) ty σ (((σ.setOb id (.obj (.row e size xs))).put dd (.ref id 0 len))) :=
  fun o hd ho ht => by subst hd; subst ht; exact st_bs (ho := ho) (id := id) (len := len) (parts := parts) (E := E) (r := r) (hp := hp) (hlen := hlen) (hsz := hsz) (hb := hb) (hid := hid) (xs := xs) (hxs := hxs)
theorem op_ap {dd : Option Tmp} {ty : TypeId} (id' : Oid) (s x : Operand) (E : Elem P T e size bytes z) {id : Oid} {n : Nat} {xs : List PV} (hs : σ.eval s = .ref id 0 n) (hid : σ.ob id = .obj (.row e size xs)) (hl : n * size = xs.length) {m : Nat} {news : List PV} (hx : SrcAV σ (σ.eval x) size m news) (hb : (n + m) * bytes ≤ 140737488355328) (hid' : σ.ob id' = .free) {ys : List PV} (hy : xs ++ news = ys) {k : Nat} (hk : n + m = k) : Stp P dd (.call { callee := .builtin .append, args := #[s, x], argTypes := #[T, T] }) ty σ (((((σ.setOb id .gone).setOb id' (.obj (.row e size ys))).setInc id' (σ.inc id)).put dd (.ref id' 0 k))) :=
  fun o hd ho ht => by subst hd; subst ht; exact st_ap (ho := ho) (id' := id') (s := s) (x := x) (E := E) (id := id) (n := n) (xs := xs) (hs := hs) (hid := hid) (hl := hl) (m := m) (news := news) (hx := hx) (hb := hb) (hid' := hid') (ys := ys) (hy := hy) (k := k) (hk := hk)
theorem op_ap0 {dd : Option Tmp} {ty : TypeId} (id' : Oid) (s x : Operand) (E : Elem P T e size bytes z) (hs : σ.eval s = .v (.slice none 0 0)) {m : Nat} {news : List PV} (hx : SrcAV σ (σ.eval x) size m news) (hb : m * bytes ≤ 140737488355328) (hid' : σ.ob id' = .free) : Stp P dd (.call { callee := .builtin .append, args := #[s, x], argTypes := #[T, T] }) ty σ (((σ.setOb id' (.obj (.row e size news))).put dd (.ref id' 0 m))) :=
  fun o hd ho ht => by subst hd; subst ht; exact st_ap0 (ho := ho) (id' := id') (s := s) (x := x) (E := E) (hs := hs) (m := m) (news := news) (hx := hx) (hb := hb) (hid' := hid')
theorem op_cp {dd : Option Tmp} {ty : TypeId} {sT : TypeId} (d s : Operand) (E : Elem P T e 1 bytes z) {id : Oid} {n : Nat} {xs : List PV} (hd : σ.eval d = .ref id 0 n) (hid : σ.ob id = .obj (.row e 1 xs)) (hl : n = xs.length) {m : Nat} {news : List PV} (hx : SrcAV σ (σ.eval s) 1 m news) {ys : List PV} (hy : news.take n ++ xs.drop m = ys) {k : Nat} (hk : min m n = k) : Stp P dd (.call { callee := .builtin .copy, args := #[d, s], argTypes := #[T, sT] }) ty σ (((σ.setOb id (.obj (.row e 1 ys))).put dd (.v (.int .i64 (k : Int))))) :=
  fun o hd ho ht => by subst hd; subst ht; exact st_cp (ho := ho) (sT := sT) (d := d) (s := s) (E := E) (id := id) (n := n) (xs := xs) (hd := hd) (hid := hid) (hl := hl) (m := m) (news := news) (hx := hx) (ys := ys) (hy := hy) (k := k) (hk := hk)
theorem op_slS {dd : Option Tmp} {ty : TypeId} (x : Operand) (lo hi : Option Operand) (E : Elem P T e size bytes z) {n : Nat} {xs : List PV} (hx : σ.eval x = .sl n xs) (lv hv : Nat) (hl : Bnd σ 0 lo lv) (hh : Bnd σ n hi hv) (h1 : lv ≤ hv) (h2 : hv ≤ n) {ys : List PV} (hy : (xs.drop (lv * size)).take ((hv - lv) * size) = ys) {k : Nat} (hk : hv - lv = k) : Stp P dd (.slice T x lo hi none) ty σ ((σ.put dd (.sl k ys))) :=
  fun o hd ho ht => by subst hd; subst ht; exact st_slS (ho := ho) (x := x) (lo := lo) (hi := hi) (E := E) (n := n) (xs := xs) (hx := hx) (lv := lv) (hv := hv) (hl := hl) (hh := hh) (h1 := h1) (h2 := h2) (ys := ys) (hy := hy) (k := k) (hk := hk)
theorem op_slR {dd : Option Tmp} {ty : TypeId} (x : Operand) (lo hi : Option Operand) (E : Elem P T e size bytes z) {id : Oid} {of0 n : Nat} {xs : List PV} (hx : σ.eval x = .ref id of0 n) (hid : σ.ob id = .obj (.row e size xs)) (lv hv : Nat) (hl : Bnd σ 0 lo lv) (hh : Bnd σ n hi hv) (h1 : lv ≤ hv) (h2 : hv ≤ n) {off : Nat} (hoff : of0 + lv * size = off) {k : Nat} (hk : hv - lv = k) : Stp P dd (.slice T x lo hi none) ty σ ((σ.put dd (.ref id off k))) :=
  fun o hd ho ht => by subst hd; subst ht; exact st_slR (ho := ho) (x := x) (lo := lo) (hi := hi) (E := E) (id := id) (of0 := of0) (n := n) (xs := xs) (hx := hx) (hid := hid) (lv := lv) (hv := hv) (hl := hl) (hh := hh) (h1 := h1) (h2 := h2) (off := off) (hoff := hoff) (k := k) (hk := hk)
theorem op_eql {dd : Option Tmp} {ty : TypeId} {r : Bool} (x y : Operand) (hx : σ.eval x = .v (.int k a)) (hy : σ.eval y = .v (.int k b)) (hr : (a == b) = r) : Stp P dd (.binOp .eql t x y t') ty σ ((σ.put dd (.v (.bool r)))) :=
  fun o hd ho ht => by subst hd; subst ht; exact st_eql (ho := ho) (r := r) (x := x) (y := y) (hx := hx) (hy := hy) (hr := hr)
theorem op_neq {dd : Option Tmp} {ty : TypeId} {r : Bool} (x y : Operand) (hx : σ.eval x = .v (.int k a)) (hy : σ.eval y = .v (.int k b)) (hr : (a != b) = r) : Stp P dd (.binOp .neq t x y t') ty σ ((σ.put dd (.v (.bool r)))) :=
  fun o hd ho ht => by subst hd; subst ht; exact st_neq (ho := ho) (r := r) (x := x) (y := y) (hx := hx) (hy := hy) (hr := hr)
theorem op_lss {dd : Option Tmp} {ty : TypeId} {r : Bool} (x y : Operand) (hx : σ.eval x = .v (.int k a)) (hy : σ.eval y = .v (.int k b)) (hr : decide (a < b) = r) : Stp P dd (.binOp .lss t x y t') ty σ ((σ.put dd (.v (.bool r)))) :=
  fun o hd ho ht => by subst hd; subst ht; exact st_lss (ho := ho) (r := r) (x := x) (y := y) (hx := hx) (hy := hy) (hr := hr)
theorem op_leq {dd : Option Tmp} {ty : TypeId} {r : Bool} (x y : Operand) (hx : σ.eval x = .v (.int k a)) (hy : σ.eval y = .v (.int k b)) (hr : decide (a ≤ b) = r) : Stp P dd (.binOp .leq t x y t') ty σ ((σ.put dd (.v (.bool r)))) :=
  fun o hd ho ht => by subst hd; subst ht; exact st_leq (ho := ho) (r := r) (x := x) (y := y) (hx := hx) (hy := hy) (hr := hr)
theorem op_gtr {dd : Option Tmp} {ty : TypeId} {r : Bool} (x y : Operand) (hx : σ.eval x = .v (.int k a)) (hy : σ.eval y = .v (.int k b)) (hr : decide (b < a) = r) : Stp P dd (.binOp .gtr t x y t') ty σ ((σ.put dd (.v (.bool r)))) :=
  fun o hd ho ht => by subst hd; subst ht; exact st_gtr (ho := ho) (r := r) (x := x) (y := y) (hx := hx) (hy := hy) (hr := hr)
theorem op_geq {dd : Option Tmp} {ty : TypeId} {r : Bool} (x y : Operand) (hx : σ.eval x = .v (.int k a)) (hy : σ.eval y = .v (.int k b)) (hr : decide (b ≤ a) = r) : Stp P dd (.binOp .geq t x y t') ty σ ((σ.put dd (.v (.bool r)))) :=
  fun o hd ho ht => by subst hd; subst ht; exact st_geq (ho := ho) (r := r) (x := x) (y := y) (hx := hx) (hy := hy) (hr := hr)
theorem op_add {dd : Option Tmp} {ty : TypeId} {r : Int} (x y : Operand) (hx : σ.eval x = .v (.int k a)) (hy : σ.eval y = .v (.int k b)) (hr : k.wrap (a + b) = r) : Stp P dd (.binOp .add t x y t') ty σ ((σ.put dd (.v (.int k r)))) :=
  fun o hd ho ht => by subst hd; subst ht; exact st_add (ho := ho) (r := r) (x := x) (y := y) (hx := hx) (hy := hy) (hr := hr)
theorem op_sub {dd : Option Tmp} {ty : TypeId} {r : Int} (x y : Operand) (hx : σ.eval x = .v (.int k a)) (hy : σ.eval y = .v (.int k b)) (hr : k.wrap (a - b) = r) : Stp P dd (.binOp .sub t x y t') ty σ ((σ.put dd (.v (.int k r)))) :=
  fun o hd ho ht => by subst hd; subst ht; exact st_sub (ho := ho) (r := r) (x := x) (y := y) (hx := hx) (hy := hy) (hr := hr)
theorem op_mul {dd : Option Tmp} {ty : TypeId} {r : Int} (x y : Operand) (hx : σ.eval x = .v (.int k a)) (hy : σ.eval y = .v (.int k b)) (hr : k.wrap (a * b) = r) : Stp P dd (.binOp .mul t x y t') ty σ ((σ.put dd (.v (.int k r)))) :=
  fun o hd ho ht => by subst hd; subst ht; exact st_mul (ho := ho) (r := r) (x := x) (y := y) (hx := hx) (hy := hy) (hr := hr)
theorem op_quo {dd : Option Tmp} {ty : TypeId} {r : Int} (x y : Operand) (hx : σ.eval x = .v (.int k a)) (hy : σ.eval y = .v (.int k b)) (hb : b ≠ 0) (hr : k.wrap (a.tdiv b) = r) : Stp P dd (.binOp .quo t x y t') ty σ ((σ.put dd (.v (.int k r)))) :=
  fun o hd ho ht => by subst hd; subst ht; exact st_quo (ho := ho) (r := r) (x := x) (y := y) (hx := hx) (hy := hy) (hb := hb) (hr := hr)
theorem op_rem {dd : Option Tmp} {ty : TypeId} {r : Int} (x y : Operand) (hx : σ.eval x = .v (.int k a)) (hy : σ.eval y = .v (.int k b)) (hb : b ≠ 0) (hr : a.tmod b = r) : Stp P dd (.binOp .rem t x y t') ty σ ((σ.put dd (.v (.int k r)))) :=
  fun o hd ho ht => by subst hd; subst ht; exact st_rem (ho := ho) (r := r) (x := x) (y := y) (hx := hx) (hy := hy) (hb := hb) (hr := hr)
theorem op_not {dd : Option Tmp} {ty : TypeId} {p r : Bool} (x : Operand) (hx : σ.eval x = .v (.bool p)) (hr : (!p) = r) : Stp P dd (.unOp .not t x) ty σ ((σ.put dd (.v (.bool r)))) :=
  fun o hd ho ht => by subst hd; subst ht; exact st_not (ho := ho) (p := p) (r := r) (x := x) (hx := hx) (hr := hr)
theorem op_neg {dd : Option Tmp} {ty : TypeId} {r : Int} (x : Operand) (hx : σ.eval x = .v (.int k a)) (hr : k.wrap (-a) = r) : Stp P dd (.unOp .neg t x) ty σ ((σ.put dd (.v (.int k r)))) :=
  fun o hd ho ht => by subst hd; subst ht; exact st_neg (ho := ho) (r := r) (x := x) (hx := hx) (hr := hr)
theorem op_call {dd : Option Tmp} {ty : TypeId} {f : FuncId} {xs : Array Operand} {ats : Array TypeId} (C : Cbl P f) {args : List AV} {r : AV} (sp : Spec P f (inSt args []) (outSt r [])) (ha : ArgsLv σ (fun _ => false) xs.toList args) (hp : AV.pures args = true) (hr : r.pure = true) : Stp P dd (.call { callee := .value (.func f), args := xs, argTypes := ats }) ty σ ((σ.put dd r)) :=
  fun o hd ho ht => by subst hd; subst ht; exact st_call (ho := ho) (f := f) (xs := xs) (ats := ats) (C := C) (args := args) (r := r) (sp := sp) (ha := ha) (hp := hp) (hr := hr)
theorem op_callB {dd : Option Tmp} {ty : TypeId} {f : FuncId} {xs : Array Operand} {ats : Array TypeId} (C : Cbl P f) {args : List AV} {x : Value} (sp : Spec P f (inSt args []) (outSt (.v x) [])) (ha : ArgsLv σ (fun _ => true) xs.toList args) (hp : AV.pures args = true) : Stp P dd (.call { callee := .value (.func f), args := xs, argTypes := ats }) ty σ ((σ.put dd (.v x))) :=
  fun o hd ho ht => by subst hd; subst ht; exact st_callB (ho := ho) (f := f) (xs := xs) (ats := ats) (C := C) (args := args) (x := x) (sp := sp) (ha := ha) (hp := hp)

theorem DL_c {Q : Exit → St → Prop} {ops : Array Oper} {rest : List Oper} {σ' : St} {d : Option Tmp} {op : Op} {ty : TypeId} {p : String} {af : Array Edge} (hs : Stp P d op ty σ σ') (h : DL P ops Q rest σ') : DL P ops Q (⟨d, op, ty, p, af, none⟩ :: rest) σ :=
  DL_step rfl (hs _ rfl rfl rfl) h
theorem DL_cy {Q : Exit → St → Prop} {ops : Array Oper} {rest : List Oper} {σ' : St} {d : Option Tmp} {op : Op} {ty : TypeId} {p : String} {af : Array Edge} {j d' : Nat} {want : Bool} (hd : (ops[j]?).bind (·.dst) = some d') (hv : σ.eval (.tmp d') = .v (.bool want)) (hs : Stp P d op ty σ σ') (h : DL P ops Q rest σ') : DL P ops Q (⟨d, op, ty, p, af, some (j, want)⟩ :: rest) σ :=
  DL_yes rfl hd hv (hs _ rfl rfl rfl) h
theorem DL_cn {Q : Exit → St → Prop} {ops : Array Oper} {rest : List Oper} {d : Option Tmp} {op : Op} {ty : TypeId} {p : String} {af : Array Edge} {j d' : Nat} {want b : Bool} (hd : (ops[j]?).bind (·.dst) = some d') (hv : σ.eval (.tmp d') = .v (.bool b)) (hne : b ≠ want) (h : DL P ops Q rest (σ.put d (.v undef))) : DL P ops Q (⟨d, op, ty, p, af, some (j, want)⟩ :: rest) σ :=
  DL_not rfl hd hv (fun e => hne (by cases e; rfl)) h
theorem DL_cu {Q : Exit → St → Prop} {ops : Array Oper} {rest : List Oper} {d : Option Tmp} {op : Op} {ty : TypeId} {p : String} {af : Array Edge} {j d' : Nat} {want : Bool} (hd : (ops[j]?).bind (·.dst) = some d') (hv : σ.eval (.tmp d') = .v undef) (h : DL P ops Q rest (σ.put d (.v undef))) : DL P ops Q (⟨d, op, ty, p, af, some (j, want)⟩ :: rest) σ :=
  DL_not rfl hd hv (fun e => by cases e) h
theorem D_cT {Q : Exit → St → Prop} {c : Operand} {x y : Code} {t : Bool} (hc : σ.eval c = .v (.bool t)) (ht : t = true) (h : D P x Q σ) : D P (.cond c x y) Q σ := by subst ht; exact D_condT hc h
theorem D_cF {Q : Exit → St → Prop} {c : Operand} {x y : Code} {t : Bool} (hc : σ.eval c = .v (.bool t)) (ht : t = false) (h : D P y Q σ) : D P (.cond c x y) Q σ := by subst ht; exact D_condF hc h
theorem D_split {Q : Exit → St → Prop} {c : Operand} {x y : Code} {t : Bool} (hc : σ.eval c = .v (.bool t)) (h : t = true → D P x Q σ) (h' : t = false → D P y Q σ) : D P (.cond c x y) Q σ := by
  cases t
  · exact D_condF hc (h' rfl)
  · exact D_condT hc (h rfl)

/-! drawn regions in the short form -/
theorem any_c {all : List Oper} {W : List Nat} {I : List Oid} {Kont : List Res → Prop} {os : List Oper} {rs : List Res} {d : Option Tmp} {op : Op} {ty : TypeId} {p : String} {af : List Edge} (r : Res)
    (hs : ∀ τ, Stp P d op ty (mixSt σ W I (r.2.map (·.1)) all rs (Edge.ons af) τ) (r.app d (mixSt σ W I (r.2.map (·.1)) all rs (Edge.ons af) τ))) (h : AnyOps P all W I σ Kont os (rs ++ [r])) : AnyOps P all W I σ Kont (⟨d, op, ty, p, af.toArray, none⟩ :: os) rs :=
  ⟨r, .plain rfl fun τ => hs τ _ rfl rfl rfl, h⟩
theorem any_cy {all : List Oper} {W : List Nat} {I : List Oid} {Kont : List Res → Prop} {os : List Oper} {rs : List Res} {d : Option Tmp} {op : Op} {ty : TypeId} {p : String} {af : List Edge} {j d' : Nat} {want : Bool} (r : Res) (hd : (all[j]?).bind (·.dst) = some d')
    (hv : ∀ τ, (mixSt σ W I (r.2.map (·.1)) all rs (Edge.ons af) τ).eval (.tmp d') = .v (.bool want))
    (hs : ∀ τ, Stp P d op ty (mixSt σ W I (r.2.map (·.1)) all rs (Edge.ons af) τ) (r.app d (mixSt σ W I (r.2.map (·.1)) all rs (Edge.ons af) τ))) (h : AnyOps P all W I σ Kont os (rs ++ [r])) : AnyOps P all W I σ Kont (⟨d, op, ty, p, af.toArray, some (j, want)⟩ :: os) rs :=
  ⟨r, .yes rfl hd hv fun τ => hs τ _ rfl rfl rfl, h⟩
theorem any_cn {all : List Oper} {W : List Nat} {I : List Oid} {Kont : List Res → Prop} {os : List Oper} {rs : List Res} {d : Option Tmp} {op : Op} {ty : TypeId} {p : String} {af : List Edge} {j d' : Nat} {want b : Bool} (hd : (all[j]?).bind (·.dst) = some d')
    (hv : ∀ τ, (mixSt σ W I none all rs (Edge.ons af) τ).eval (.tmp d') = .v (.bool b)) (hb : b ≠ want) (h : AnyOps P all W I σ Kont os (rs ++ [(.v undef, none)])) : AnyOps P all W I σ Kont (⟨d, op, ty, p, af.toArray, some (j, want)⟩ :: os) rs :=
  ⟨_, .no rfl hd hv (fun e => hb (by cases e; rfl)), h⟩
theorem any_cu {all : List Oper} {W : List Nat} {I : List Oid} {Kont : List Res → Prop} {os : List Oper} {rs : List Res} {d : Option Tmp} {op : Op} {ty : TypeId} {p : String} {af : List Edge} {j d' : Nat} {want : Bool} (hd : (all[j]?).bind (·.dst) = some d')
    (hv : ∀ τ, (mixSt σ W I none all rs (Edge.ons af) τ).eval (.tmp d') = .v undef) (h : AnyOps P all W I σ Kont os (rs ++ [(.v undef, none)])) : AnyOps P all W I σ Kont (⟨d, op, ty, p, af.toArray, some (j, want)⟩ :: os) rs :=
  ⟨_, .no rfl hd hv (fun e => by cases e), h⟩
theorem any_end {all : List Oper} {W : List Nat} {I : List Oid} {Kont : List Res → Prop} {rs : List Res} (h : Kont rs) : AnyOps P all W I σ Kont [] rs := h
end

/-! ### What a few words say less than a state -/

mutual
def AV.within (ids : List Oid) : AV → Bool
  | .ref i _ _ => inO i ids
  | .ptr i _ => inO i ids
  | .agg xs => AV.withins ids xs
  | .fn _ xs ys => AV.withins ids xs && AV.withins ids ys
  | .ifc _ a => a.within ids
  | .tup xs => AV.withins ids xs
  | _ => true
def AV.withins (ids : List Oid) : List AV → Bool
  | [] => true
  | a :: l => a.within ids && AV.withins ids l
end
mutual
theorem within_has {id : Oid} {ids : List Oid} : ∀ (a : AV), a.within ids = true → Has id a → id ∈ ids
  | .dead, _, h => by cases h
  | .v _, _, h => by cases h
  | .sl _ _, _, h => by cases h
  | .fp _ _, _, h => by cases h
  | .z, _, h => by cases h
  | .ref _ _ _, hp, h => by cases h; exact inO_iff.1 hp
  | .ptr _ _, hp, h => by cases h; exact inO_iff.1 hp
  | .agg xs, hp, h => by
    simp only [AV.within] at hp
    cases h with
    | agg hm h => exact withins_has xs hp _ hm h
  | .fn f xs ys, hp, h => by
    simp only [AV.within, Bool.and_eq_true] at hp
    cases h with
    | fn1 hm h => exact withins_has xs hp.1 _ hm h
    | fn2 hm h => exact withins_has ys hp.2 _ hm h
  | .ifc t a, hp, h => by
    simp only [AV.within] at hp
    cases h with
    | ifc h => exact within_has a hp h
  | .tup xs, hp, h => by
    simp only [AV.within] at hp
    cases h with
    | tup hm h => exact withins_has xs hp _ hm h
theorem withins_has {id : Oid} {ids : List Oid} : ∀ (l : List AV), AV.withins ids l = true → ∀ a ∈ l, Has id a → id ∈ ids
  | [], _, a, h, _ => by simp at h
  | b :: l, hp, a, h, hh => by
    simp only [AV.withins, Bool.and_eq_true] at hp
    rcases List.mem_cons.1 h with h0 | h
    · rw [h0] at hh; exact within_has b hp.1 hh
    · exact withins_has l hp.2 a h hh
end
def Cells.within (ids : List Oid) : Cells → Bool
  | .row _ _ _ => true
  | .box _ xs => AV.withins ids xs
def obsWithin (ids : List Oid) : List (Oid × Cells) → Bool
  | [] => true
  | (_, o) :: l => o.within ids && obsWithin ids l
def slotsWithin (ids : List Oid) : List (Nat × AV) → Bool
  | [] => true
  | (_, a) :: l => a.within ids && slotsWithin ids l
def nodupO : List Oid → Bool
  | [] => true
  | x :: l => !inO x l && nodupO l
theorem nodupO_iff : ∀ {l : List Oid}, nodupO l = true → l.Nodup
  | [], _ => .nil
  | x :: l, h => by
    simp only [nodupO, Bool.and_eq_true, Bool.not_eq_true'] at h
    refine List.nodup_cons.2 ⟨fun hm => ?_, nodupO_iff h.2⟩
    rw [inO_iff.2 hm] at h; cases h.1

def rnOf : List (Oid × Oid) → Oid → Oid
  | [], i => i
  | (k, j) :: l, i => bif oeq i k then j else rnOf l i

def AllLv (ρ : Oid → Oid) (σ : St) (F : Oid → Bool) : List (Nat × AV) → Prop
  | [] => True
  | (t, a) :: l => Lv ρ σ F a (σ.fr t) ∧ AllLv ρ σ F l
def AllLvO (ρ : Oid → Oid) (σ : St) (F : Oid → Bool) : List (Oid × Cells) → Prop
  | [] => True
  | (i, o) :: l => (F (ρ i) = false ∧ (∃ o2, σ.ob (ρ i) = .obj o2 ∧ LvO ρ σ F o o2) ∧ σ.inc (ρ i) = false) ∧ AllLvO ρ σ F l
def AllInc (σ : St) : List Oid → Prop
  | [] => True
  | i :: l => σ.inc i = false ∧ AllInc σ l

theorem frOf_lv {ρ : Oid → Oid} {σ : St} {F : Oid → Bool} : ∀ {l : List (Nat × AV)}, AllLv ρ σ F l → ∀ t, Lv ρ σ F (frOf l t) (σ.fr t)
  | [], _, t => .dead
  | (k, a) :: l, h, t => by
    simp only [frOf]
    cases hb : Nat.beq t k with
    | true => simp only [cond_true]; rw [Nat.eq_of_beq_eq_true hb]; exact h.1
    | false => simp only [cond_false]; exact frOf_lv h.2 t
theorem obOf_mem : ∀ {l : List (Oid × Cells)} {i : Oid} {o : Cells}, obOf l i = .obj o → (i, o) ∈ l
  | [], i, o, h => by simp [obOf] at h
  | (k, c) :: l, i, o, h => by
    simp only [obOf] at h
    cases hb : oeq i k with
    | true => rw [hb] at h; simp at h; subst h; rw [oeq_iff.1 hb]; exact List.mem_cons_self
    | false => rw [hb] at h; exact List.mem_cons_of_mem _ (obOf_mem (by simpa using h))
theorem obOf_ne : ∀ {l : List (Oid × Cells)} {i : Oid}, i ∈ l.map (·.1) → obOf l i ≠ .free
  | [], i, h => by simp at h
  | (k, c) :: l, i, h => by
    simp only [obOf]
    cases hb : oeq i k with
    | true => simp
    | false =>
      simp only [cond_false]
      refine obOf_ne ?_
      simp only [List.map_cons, List.mem_cons] at h
      rcases h with h | h
      · rw [h, oeq_self] at hb; cases hb
      · exact h
theorem allLvO_mem {ρ : Oid → Oid} {σ : St} {F : Oid → Bool} : ∀ {l : List (Oid × Cells)}, AllLvO ρ σ F l → ∀ {i o}, (i, o) ∈ l → F (ρ i) = false ∧ (∃ o2, σ.ob (ρ i) = .obj o2 ∧ LvO ρ σ F o o2) ∧ σ.inc (ρ i) = false
  | [], _, i, o, h => by simp at h
  | (k, c) :: l, h, i, o, hm => by
    rcases List.mem_cons.1 hm with h0 | hm
    · obtain ⟨rfl, rfl⟩ := Prod.mk.inj h0; exact h.1
    · exact allLvO_mem h.2 hm
theorem slots_has {ids : List Oid} : ∀ {l : List (Nat × AV)}, slotsWithin ids l = true → ∀ {t id}, Has id (frOf l t) → id ∈ ids
  | [], _, t, id, h => by simp only [frOf] at h; cases h
  | (k, a) :: l, hw, t, id, h => by
    simp only [slotsWithin, Bool.and_eq_true] at hw
    simp only [frOf] at h
    cases hb : Nat.beq t k with
    | true => rw [hb] at h; exact within_has a hw.1 h
    | false => rw [hb] at h; exact slots_has hw.2 (by simpa using h)
theorem obs_has {ids : List Oid} : ∀ {l : List (Oid × Cells)}, obsWithin ids l = true → ∀ {i o id}, (i, o) ∈ l → o.Has id → id ∈ ids
  | [], _, i, o, id, h, _ => by simp at h
  | (k, c) :: l, hw, i, o, id, h, hh => by
    simp only [obsWithin, Bool.and_eq_true] at hw
    rcases List.mem_cons.1 h with h0 | h
    · obtain ⟨rfl, rfl⟩ := Prod.mk.inj h0
      cases o with
      | row _ _ _ => exact hh.elim
      | box e xs =>
        obtain ⟨a, ha, hi⟩ := hh
        exact withins_has xs hw.1 a ha hi
    · exact obs_has hw.2 h hh

theorem inj_of_nodup {α β : Type} (f : α → β) : ∀ {l : List α}, (l.map f).Nodup → ∀ {a b}, a ∈ l → b ∈ l → f a = f b → a = b
  | [], _, a, b, h, _, _ => by simp at h
  | x :: l, hn, a, b, ha, hb, he => by
    simp only [List.map_cons, List.nodup_cons] at hn
    rcases List.mem_cons.1 ha with h1 | h1 <;> rcases List.mem_cons.1 hb with h2 | h2
    · rw [h1, h2]
    · exact absurd (by rw [← h1, he]; exact List.mem_map_of_mem h2) hn.1
    · exact absurd (by rw [← h2, ← he]; exact List.mem_map_of_mem h1) hn.1
    · exact inj_of_nodup f hn.2 h1 h2 he

theorem Le.gen {σ : St} {n : Nat} {fr : Nat → AV} {obs : List (Oid × Cells)} (rn : List (Oid × Oid)) (Fz : List Oid) (hn : σ.n = n) (hfr : ∀ t, Lv (rnOf rn) σ (fun i => inO i Fz) (fr t) (σ.fr t)) (hw1 : ∀ t id, Has id (fr t) → id ∈ obs.map (·.1)) (hw2 : obsWithin (obs.map (·.1)) obs = true)
    (hd : nodupO ((obs.map (·.1)).map (rnOf rn)) = true) (hi : AllInc σ Fz) (ho : AllLvO (rnOf rn) σ (fun i => inO i Fz) obs) : Le ⟨n, fr, obOf obs, fun _ => false, fun _ => none⟩ σ := by
  refine Le.of (rnOf rn) (fun i => inO i Fz) hn.symm (fun t _ => hfr t) (fun id o h => ?_) (fun id id' o o' h h' he => ?_) (fun id h => ?_) (fun id o h _ => (allLvO_mem ho (obOf_mem h)).2.2) (fun t id h => obOf_ne (hw1 t id h)) (fun id' o id h hh => obOf_ne (obs_has hw2 (obOf_mem h) hh)) (fun id h o hp => by cases hp) (fun _ _ => rfl)
  · exact ⟨(allLvO_mem ho (obOf_mem h)).1, (allLvO_mem ho (obOf_mem h)).2.1⟩
  · exact inj_of_nodup (rnOf rn) (nodupO_iff hd) (List.mem_map_of_mem (f := (·.1)) (obOf_mem h)) (List.mem_map_of_mem (f := (·.1)) (obOf_mem h')) he
  · have : ∀ {l : List Oid}, AllInc σ l → id ∈ l → σ.inc id = false := by
      intro l
      induction l with
      | nil => intro _ h; simp at h
      | cons x l ih =>
        intro hl hm
        rcases List.mem_cons.1 hm with rfl | hm
        · exact hl.1
        · exact ih hl.2 hm
    exact this hi (inO_iff.1 h)

theorem Le.mk {σ : St} {n : Nat} {slots : List (Nat × AV)} {obs : List (Oid × Cells)} (rn : List (Oid × Oid)) (Fz : List Oid) (hn : σ.n = n) (hs : AllLv (rnOf rn) σ (fun i => inO i Fz) slots) (hw1 : slotsWithin (obs.map (·.1)) slots = true) (hw2 : obsWithin (obs.map (·.1)) obs = true)
    (hd : nodupO ((obs.map (·.1)).map (rnOf rn)) = true) (hi : AllInc σ Fz) (ho : AllLvO (rnOf rn) σ (fun i => inO i Fz) obs) : Le (mkSt n slots obs) σ :=
  Le.gen rn Fz hn (frOf_lv hs) (fun _ _ h => slots_has hw1 h) hw2 hd hi ho
/-- What a call leaves, in few words. -/
theorem Le.out {σ : St} {r r' : AV} {obs : List (Oid × Cells)} (rn : List (Oid × Oid)) (Fz : List Oid) (hr : Lv (rnOf rn) (retSt r σ) (fun i => inO i Fz) r' r) (hw1 : r'.within (obs.map (·.1)) = true) (hw2 : obsWithin (obs.map (·.1)) obs = true)
    (hd : nodupO ((obs.map (·.1)).map (rnOf rn)) = true) (hi : AllInc σ Fz) (ho : AllLvO (rnOf rn) (retSt r σ) (fun i => inO i Fz) obs) : Le (outSt r' obs) (retSt r σ) := by
  have hi' : AllInc (retSt r σ) Fz := by
    have : ∀ l : List Oid, AllInc σ l → AllInc (retSt r σ) l := by
      intro l
      induction l with
      | nil => intro h; exact h
      | cons x l ih => intro h; exact ⟨h.1, ih h.2⟩
    exact this Fz hi
  refine Le.gen (n := 1) rn Fz rfl (fun t => ?_) (fun t id h => ?_) hw2 hd hi' ho
  · show Lv _ _ _ _ (bif Nat.beq t 0 then r else .dead)
    cases hb : Nat.beq t 0 with
    | true => exact hr
    | false => exact .dead
  · cases hb : Nat.beq t 0 with
    | true => rw [hb] at h; exact within_has r' hw1 h
    | false => rw [hb] at h; cases h

theorem LvO.rowE {ρ : Oid → Oid} {σ : St} {F : Oid → Bool} {e : TypeId} {sz : Nat} {xs ys : List PV} (h : ys = xs) : LvO ρ σ F (.row e sz xs) (.row e sz ys) := .row (zs := []) (by simp [h])
theorem ob1 {ρ : Oid → Oid} {σ : St} {F : Oid → Bool} {i : Oid} {o o2 : Cells} (hF : F (ρ i) = false) (h : σ.ob (ρ i) = .obj o2) (hinc : σ.inc (ρ i) = false) (hl : LvO ρ σ F o o2) : F (ρ i) = false ∧ (∃ o2, σ.ob (ρ i) = .obj o2 ∧ LvO ρ σ F o o2) ∧ σ.inc (ρ i) = false := ⟨hF, ⟨o2, h, hl⟩, hinc⟩
theorem D_loopP {P : Program} {Q : Exit → St → Prop} {σ : St} {c : Code} {α : Type} (I : α → Prop) (F : α → St) (μ : α → Nat) (x0 : α) (hI : I x0) (h0 : Le (F x0) σ) (round : ∀ x, I x → D P c (thenQ (fun σ' => ∃ y, I y ∧ Le (F y) σ' ∧ μ y < μ x) Q) (F x)) : D P (.loop c) Q σ :=
  D_loop (α := { x : α // I x }) (fun x => F x.1) (fun x => μ x.1) ⟨x0, hI⟩ h0 fun x => D_mono (round x.1 x.2) fun e σ' q => by
    cases e with
    | normal => obtain ⟨y, h1, h2, h3⟩ := q; exact ⟨⟨y, h1⟩, h2, h3⟩
    | _ => exact q
theorem op_callH {P : Program} {σ : St} {dd : Option Tmp} {ty : TypeId} {f : FuncId} {xs : Array Operand} {ats : Array TypeId} (C : Cbl P f) {args : List AV} {r : AV} (ha : ArgsLv σ (fun _ => false) xs.toList args) (sp : Spec P f (inSt args []) (outSt r []))
    (hp : AV.pures args = true) (hr : r.pure = true) : Stp P dd (.call { callee := .value (.func f), args := xs, argTypes := ats }) ty σ (σ.put dd r) := op_call C sp ha hp hr
theorem op_callBH {P : Program} {σ : St} {dd : Option Tmp} {ty : TypeId} {f : FuncId} {xs : Array Operand} {ats : Array TypeId} (C : Cbl P f) {args : List AV} {x : Value} (ha : ArgsLv σ (fun _ => true) xs.toList args) (sp : Spec P f (inSt args []) (outSt (.v x) []))
    (hp : AV.pures args = true) : Stp P dd (.call { callee := .value (.func f), args := xs, argTypes := ats }) ty σ (σ.put dd (.v x)) := op_callB C sp ha hp
theorem lvB {ρ : Oid → Oid} {σ : St} {F : Oid → Bool} {a b : Bool} (h : a = b) : Lv ρ σ F (.v (.bool a)) (.v (.bool b)) := h ▸ .v
theorem lvI {ρ : Oid → Oid} {σ : St} {F : Oid → Bool} {k : IntKind} {a b : Int} (h : a = b) : Lv ρ σ F (.v (.int k a)) (.v (.int k b)) := h ▸ .v
theorem lvS {ρ : Oid → Oid} {σ : St} {F : Oid → Bool} {n m : Nat} {xs ys : List PV} (h : n = m) (h' : xs = ys) : Lv ρ σ F (.sl n xs) (.sl m ys) := by subst h; subst h'; exact .sl
theorem i64w {n : Int} (h : -9223372036854775808 ≤ n ∧ n ≤ 9223372036854775807) : IntKind.i64.wrap n = n := Go.IntWalk.i64_in n h
theorem D_join {P : Program} {Q : Exit → St → Prop} {σ : St} {x y : Code} {α : Type} (F : α → St) (h : D P x (thenQ (fun σ' => ∃ y, Le (F y) σ') Q) σ) (h' : ∀ a, D P y Q (F a)) : D P (.seq x y) Q σ :=
  D_seq fun K hK => D_mono h fun e σ' q => by
    cases e with
    | normal => obtain ⟨a, ha⟩ := q; exact hK _ (D_le ha (h' a))
    | _ => exact q
end Go.Proofs.Ytphlaojoehmhaaa

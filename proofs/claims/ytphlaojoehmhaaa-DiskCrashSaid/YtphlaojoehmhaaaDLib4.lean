/- The machine's steps: what makes or writes memory. No program text. -/
import Derived.Test.YtphlaojoehmhaaaDLib3
set_option linter.unusedSimpArgs false
set_option linter.unusedVariables false
namespace Go.Proofs.Ytphlaojoehmhaaa
open Go.RowKit

section
variable {P : Program} {o : Oper} {σ : St} {av : AV} {t e : TypeId} {agg : Bool} {z : List Value}

theorem keeps_setRow (w : World) (g : Nat) (cs : Array Value) {own : Nat → Prop} (h : own g) : Keeps own w (w.setRow g cs) :=
  ⟨rfl, rfl, rfl, by simp, fun k _ hk => setRow_other w g k _ fun e => hk (e ▸ h)⟩

/-- A new variable. -/
theorem RelI.newBox {K : Ctx} {ι : Oid → Option Blk} {S : Nat → Prop} {a : Act} {w : World} (R : RelI K ι S σ a w) {id : Oid} (hid : σ.ob id = .free) (e : TypeId) {us : Array Value} {xs : List AV}
    (h1 : us.size = xs.length) (h2 : ∀ x ∈ us.toList, x.oneCell' = true) (h3 : ∀ j b, xs[j]? = some b → Rep ι S w b (us.getD j undef)) (h4 : ∀ b ∈ xs, ∀ i, Has i b → σ.ob i ≠ .free) (d : Option Tmp) :
    ∃ ι' S', RelI K ι' S' ((σ.setOb id (.obj (.box e xs))).put d (.ptr id 0)) (a.put d (.pointer (some ⟨w.heap.size, 0, none⟩))) (w.alloc (.cells us e)) := by
  have hn : ∀ i, (∃ b ∈ xs, Has i b) → i ≠ id := fun i ⟨b, hb, hi⟩ e => by subst e; exact h4 b hb i hi hid
  have hw : ∀ g, S g → (w.alloc (.cells us e)).heap[g]? = w.heap[g]? := fun g hg => Below.heap_alloc _ _ _ (R.Slt g hg)
  have R1 := R.new (w' := w.alloc (.cells us e)) (o := .box e xs) (B := ⟨some w.heap.size, xs.length, 0⟩) hid ((Below.refl _ _).alloc (Nat.le_refl _) _) (fun g hg => by obtain rfl := Option.some.inj hg; exact Nat.le_refl _)
    ⟨_, w.heap.size, setI_same _ _ _, rfl, rfl, .inr ⟨w.heap.size, us, rfl, heap_alloc_new w _, h1, by omega, fun j hj => by
      have hju : j < us.size := by omega
      refine ⟨us[j], by simp [hju], h2 _ (by simp), fun b hb => ?_⟩
      have := h3 j b hb
      simp [hju] at this
      exact this.next hw (fun _ h => h) fun i B hi hB => by rwa [setI_ne _ _ (hn i ⟨b, List.mem_of_getElem? hb, hi⟩)] at hB⟩⟩
    (fun i ⟨b, hb, hi⟩ => .inr (h4 b hb i hi))
  refine ⟨_, S, R1.put d (.ptr (fun B hB => ?_) rfl) fun i hi => ?_⟩
  · rw [setI_same] at hB
    obtain rfl := Option.some.inj hB
    exact ⟨_, rfl, rfl⟩
  · cases hi; rw [St.setOb_same]; intro h; cases h

theorem st_alloc (id : Oid) (ho : o.op = .alloc e) (T : Ty P e agg z) (hid : σ.ob id = .free) {xs : List AV} (hx : z.map AV.v = xs) : Step P o σ ((σ.setOb id (.obj (.box e xs))).put o.dst (.ptr id 0)) := by
  subst hx
  intro K ι S a w R
  obtain ⟨i, zv, hi, hz, hs, hc⟩ := T.info
  have hrun : (execOp a.eval o).run P w = .ok (.value (.pointer (some ⟨w.heap.size, 0, none⟩))) (w.alloc (.cells z.toArray e)) := by
    simp [execOp, ho, Instr.alloc, zeroValue, typeInfo, hi, hz, newVar, newRow, hc]
  refine yields_value hrun (R.newBox hid e (by simp) (by simpa using T.one) (fun j b hb => ?_) (fun b hb i hi => ?_) _)
  · simp only [List.getElem?_map] at hb
    obtain ⟨x, hx, rfl⟩ := Option.map_eq_some_iff.1 hb
    have : z.toArray.getD j undef = x := by simp [hx]
    rw [this]; exact .v
  · simp only [List.mem_map] at hb
    obtain ⟨x, _, rfl⟩ := hb
    cases hi

theorem st_box (id : Oid) (x : Operand) (ho : o.op = .box e x) (hid : σ.ob id = .free) {xs : List AV} (hx : (σ.eval x).cells = some xs) : Step P o σ ((σ.setOb id (.obj (.box e xs))).put o.dst (.ptr id 0)) := by
  intro K ι S a w R
  obtain ⟨h1, h2, h3⟩ := (R.eval x).cells hx
  have hrun : (execOp a.eval o).run P w = .ok (.value (.pointer (some ⟨w.heap.size, 0, none⟩))) (w.alloc (.cells (a.eval x).cells e)) := by simp [execOp, ho, Instr.box, newVar, newRow]
  exact yields_value hrun (R.newBox hid e h1 h2 h3 (fun b hb i hi => R.evalHas x (cells_has hx hb hi)) _)

def putL {α : Type} (cs : List α) (off : Nat) (vs : List α) : List α := cs.take off ++ vs ++ cs.drop (off + vs.length)
theorem putL_len {α : Type} (cs vs : List α) (off : Nat) (h : off + vs.length ≤ cs.length) : (putL cs off vs).length = cs.length := by simp [putL]; omega
theorem putL_get {α : Type} (cs vs : List α) (off : Nat) (h : off + vs.length ≤ cs.length) (j : Nat) : (putL cs off vs)[j]? = if off ≤ j ∧ j < off + vs.length then vs[j - off]? else cs[j]? := by
  simp only [putL]
  by_cases h1 : j < off
  · rw [if_neg (by omega), List.append_assoc, List.getElem?_append, if_pos (by simp; omega), List.getElem?_take, if_pos h1]
  · by_cases h2 : j < off + vs.length
    · rw [if_pos ⟨by omega, h2⟩, List.append_assoc, List.getElem?_append, if_neg (by simp; omega), List.length_take, List.getElem?_append, if_pos (by omega)]
      congr 1; omega
    · rw [if_neg (by omega), List.getElem?_append, if_neg (by simp; omega), List.getElem?_drop]
      congr 1; simp; omega
theorem putL_mem {α : Type} {cs vs : List α} {off : Nat} {u : α} (h : u ∈ putL cs off vs) : u ∈ cs ∨ u ∈ vs := by
  simp only [putL, List.mem_append] at h
  rcases h with (h | h) | h
  · exact .inl (List.mem_of_mem_take h)
  · exact .inr h
  · exact .inl (List.mem_of_mem_drop h)
theorem putL_one {α : Type} (cs : List α) (off : Nat) (u : α) (h : off < cs.length) : putL cs off [u] = cs.set off u := by
  simp [putL, List.set_eq_take_append_cons_drop, h]
theorem put_putL (cs : List Value) (off : Nat) (vs : List Value) : put cs off vs = putL cs off vs := rfl

/-- A store into a variable. -/
theorem st_stB (x y : Operand) (ho : o.op = .store t x y) (T : Ty P t agg z) {id : Oid} {off : Nat} (hx : σ.eval x = .ptr id off) {e : TypeId} {xs : List AV} (hid : σ.ob id = .obj (.box e xs)) {vs : List AV} (hv : (σ.eval y).cells = some vs)
    (hl : vs.length = z.length) (hfit : off + vs.length ≤ xs.length) {ys : List AV} (hy : putL xs off vs = ys) : Step P o σ ((σ.setOb id (.obj (.box e ys))).put o.dst .dead) := by
  subst hy
  intro K ι S a w R
  obtain ⟨B, g, cur, h1, h2, h3, h4, h5, h6⟩ := R.boxB hid hx
  obtain ⟨v1, v2, v3⟩ := (R.eval y).cells hv
  have hvl : (a.eval y).cells.toList.length = vs.length := by simpa using v1
  have hrun := run_st (P := P) (ρ := a.eval) x y ho h3 h4 (vs := (a.eval y).cells.toList) (by simp) (by omega) (by omega) v2
  rw [put_putL] at hrun
  have hk : Keeps (fun k => B.g = some k) w (w.setRow g (putL cur.toList off (a.eval y).cells.toList).toArray) := keeps_setRow w g _ h2
  have hwS : ∀ k, S k → (w.setRow g (putL cur.toList off (a.eval y).cells.toList).toArray).heap[k]? = w.heap[k]? := fun k hk' => setRow_other w g k _ fun e => (R.sep id B g h1 h2).1 (e ▸ hk')
  have hB : B.tot = xs.length := by
    obtain ⟨B', _, h7, _, h8, _⟩ := R.ob id _ hid
    rw [h1] at h7; obtain rfl := Option.some.inj h7; exact h8
  have R1 := R.upd (o' := .box e (putL xs off vs)) hid h1 hk ⟨B, g, h1, h2, by rw [putL_len _ _ _ hfit]; exact hB, .inr ⟨g, _, h2, setRow_heap w g _ _ e _ h4, by simp [putL_len _ _ _ (show off + (a.eval y).cells.toList.length ≤ cur.toList.length by simpa [hvl, h5] using hfit), h5, hB], by
      rw [putL_len _ _ _ hfit]; simp [putL_len _ _ _ (show off + (a.eval y).cells.toList.length ≤ cur.toList.length by simpa [hvl, h5] using hfit), h5], fun j hj => ?_⟩⟩ (fun i ⟨b, hb, hi⟩ => ?_)
  · exact yields_skip hrun ⟨ι, S, R1.put o.dst .dead fun i hi => by cases hi⟩
  · rw [putL_len _ _ _ hfit] at hj
    have hcl : off + (a.eval y).cells.toList.length ≤ cur.toList.length := by simpa [hvl, h5] using hfit
    by_cases hin : off ≤ j ∧ j < off + vs.length
    · have hjl : j - off < (a.eval y).cells.toList.length := by omega
      refine ⟨(a.eval y).cells.toList[j - off], ?_, v2 _ (List.getElem_mem hjl), fun b hb => ?_⟩
      · rw [List.getElem?_toArray, putL_get _ _ _ hcl, if_pos (by omega), List.getElem?_eq_getElem hjl]
      · rw [putL_get _ _ _ hfit, if_pos hin] at hb
        have := v3 _ b hb
        have hj2 : j - off < (a.eval y).cells.size := by simpa using hjl
        simp [hj2] at this
        simpa using this.next hwS (fun _ h => h) fun i B hi hB => hB
    · obtain ⟨u, hu, hu1, hu2⟩ := h6 j _ (List.getElem?_eq_getElem hj)
      refine ⟨u, ?_, hu1, fun b hb => ?_⟩
      · rw [List.getElem?_toArray, putL_get _ _ _ hcl, if_neg (by omega)]; simpa using hu
      · rw [putL_get _ _ _ hfit, if_neg hin, List.getElem?_eq_getElem hj] at hb
        obtain rfl := Option.some.inj hb
        exact hu2.next hwS (fun _ h => h) fun i B hi hB => hB
  · rcases putL_mem hb with hb | hb
    · exact R.clo id _ i hid ⟨b, hb, hi⟩
    · exact R.evalHas y (cells_has hv hb hi)

def downs : List AV → Option (List PV)
  | [] => some []
  | a :: l => match a.down, downs l with
    | some p, some r => some (p :: r)
    | _, _ => none
theorem downs_get : ∀ {l : List AV} {r : List PV}, downs l = some r → l.length = r.length ∧ ∀ (j : Nat) (p : PV), r[j]? = some p → ∃ a, l[j]? = some a ∧ a.down = some p
  | [], r, h => by simp [downs] at h; subst h; simp
  | a :: l, r, h => by
    simp only [downs] at h
    split at h
    · rename_i p r' hp hr
      obtain rfl := Option.some.inj h
      obtain ⟨h1, h2⟩ := downs_get hr
      refine ⟨by simp [h1], fun j q hq => ?_⟩
      cases j with
      | zero => simp at hq; subst hq; exact ⟨a, by simp, hp⟩
      | succ j => simpa using h2 j q (by simpa using hq)
    · cases h

/-- A store into a row. -/
theorem st_stR (x y : Operand) (ho : o.op = .store t x y) (T : Ty P t agg z) {id : Oid} {off : Nat} (hx : σ.eval x = .ptr id off) {e : TypeId} {sz : Nat} {xs : List PV} (hid : σ.ob id = .obj (.row e sz xs)) {ys0 : List AV} (hv : (σ.eval y).cells = some ys0)
    {vs : List PV} (hd : downs ys0 = some vs) (hl : vs.length = z.length) (hfit : off + vs.length ≤ xs.length) {ys : List PV} (hy : putL xs off vs = ys) : Step P o σ ((σ.setOb id (.obj (.row e sz ys))).put o.dst .dead) := by
  subst hy
  intro K ι S a w R
  obtain ⟨B, g, cur, h1, h2, h3, h4, hsz, h5, h50, h6⟩ := R.rowB hid hx
  obtain ⟨v1, v2, v3⟩ := (R.eval y).cells hv
  obtain ⟨d1, d2⟩ := downs_get hd
  have hvl : (a.eval y).cells.toList.length = vs.length := by have : (a.eval y).cells.toList.length = ys0.length := by simpa using v1
                                                              omega
  have hrun := run_st (P := P) (ρ := a.eval) x y ho h3 h4 (vs := (a.eval y).cells.toList) (by simp) (by omega) (by omega) v2
  rw [put_putL] at hrun
  have hcl : off + (a.eval y).cells.toList.length ≤ cur.toList.length := by rw [hvl]; simp; omega
  have hk : Keeps (fun k => B.g = some k) w (w.setRow g (putL cur.toList off (a.eval y).cells.toList).toArray) := keeps_setRow w g _ h2
  have hwS : ∀ k, S k → (w.setRow g (putL cur.toList off (a.eval y).cells.toList).toArray).heap[k]? = w.heap[k]? := fun k hk' => setRow_other w g k _ fun e => (R.sep id B g h1 h2).1 (e ▸ hk')
  have R1 := R.upd (o' := .row e sz (putL xs off vs)) hid h1 hk ⟨B, h1, hsz, .inr ⟨g, _, h2, setRow_heap w g _ _ e _ h4, by simp [putL_len _ _ _ hcl, h5], by
      rw [putL_len _ _ _ hfit]; simp [putL_len _ _ _ hcl, h50], fun j hj => ?_⟩⟩ (fun i hi => hi.elim)
  · exact yields_skip hrun ⟨ι, S, R1.put o.dst .dead fun i hi => by cases hi⟩
  · rw [putL_len _ _ _ hfit] at hj
    by_cases hin : off ≤ j ∧ j < off + vs.length
    · have hjl : j - off < (a.eval y).cells.toList.length := by omega
      refine ⟨(a.eval y).cells.toList[j - off], ?_, v2 _ (List.getElem_mem hjl), fun b hb => ?_⟩
      · rw [List.getElem?_toArray, putL_get _ _ _ hcl, if_pos (by omega), List.getElem?_eq_getElem hjl]
      · rw [putL_get _ _ _ hfit, if_pos hin] at hb
        obtain ⟨c, hc, hcd⟩ := d2 _ b hb
        have := v3 _ c hc
        have hj2 : j - off < (a.eval y).cells.size := by simpa using hjl
        simp [hj2] at this
        have := this.down hcd (v2 _ (by simp))
        simpa using this.next hwS (fun _ h => h)
    · obtain ⟨u, hu, hu1, hu2⟩ := h6 j _ (List.getElem?_eq_getElem hj)
      refine ⟨u, ?_, hu1, fun b hb => ?_⟩
      · rw [List.getElem?_toArray, putL_get _ _ _ hcl, if_neg (by omega)]; simpa using hu
      · rw [putL_get _ _ _ hfit, if_neg hin, List.getElem?_eq_getElem hj] at hb
        obtain rfl := Option.some.inj hb
        exact hu2.next hwS (fun _ h => h)

/-- A new row. -/
theorem RelI.newRow {K : Ctx} {ι : Oid → Option Blk} {S : Nat → Prop} {a : Act} {w w' : World} (R : RelI K ι S σ a w) {id : Oid} (hid : σ.ob id = .free) (hb : Below w.heap.size w w') (e : TypeId) (sz n : Nat) {g c : Nat} {cur : Array Value} {xs : List PV}
    (hg : w'.heap[g]? = some (.cells cur e (0, 0))) (hge : w.heap.size ≤ g) (hn : n ≤ c) (hc : c ≤ maxLen) (hcs : cur.size = c * sz) (h1 : xs.length = n * sz) (h2 : ∀ (j : Nat) (b : PV), xs[j]? = some b → ∃ u, cur[j]? = some u ∧ u.oneCell' = true ∧ Rd S w b u) (d : Option Tmp) :
    ∃ ι' S', RelI K ι' S' ((σ.setOb id (.obj (.row e sz xs))).put d (.ref id 0 n)) (a.put d (.slice (some ⟨g, 0, none⟩) n c)) w' := by
  have hw : ∀ k, S k → w'.heap[k]? = w.heap[k]? := fun k hk => hb.block k (R.Slt k hk)
  have R1 := R.new (w' := w') (o := .row e sz xs) (B := ⟨some g, cur.size, sz⟩) hid hb (fun k hk => by obtain rfl := Option.some.inj hk; exact hge)
    ⟨_, setI_same _ _ _, rfl, .inr ⟨g, cur, rfl, hg, rfl, by rw [h1, hcs]; exact Nat.mul_le_mul_right _ hn, fun j hj => by
      obtain ⟨u, a1, a2, a3⟩ := h2 j _ (List.getElem?_eq_getElem hj)
      refine ⟨u, a1, a2, fun p hp => ?_⟩
      rw [List.getElem?_eq_getElem hj] at hp
      obtain rfl := Option.some.inj hp
      exact a3.next hw fun _ h => h⟩⟩ (fun i hi => hi.elim)
  refine ⟨_, S, R1.put d (.ref (fun B hB => ?_) rfl) fun i hi => ?_⟩
  · rw [setI_same] at hB
    obtain rfl := Option.some.inj hB
    exact ⟨c, hn, hc, 0, rfl, .inl rfl, by simp [hcs]⟩
  · cases hi; rw [St.setOb_same]; intro h; cases h

/-- A nil slice, as an object. -/
theorem RelI.newNil {K : Ctx} {ι : Oid → Option Blk} {S : Nat → Prop} {a : Act} {w w' : World} (R : RelI K ι S σ a w) {id : Oid} (hid : σ.ob id = .free) (hb : Below w.heap.size w w') (e : TypeId) (sz : Nat) (d : Option Tmp) :
    ∃ ι' S', RelI K ι' S' ((σ.setOb id (.obj (.row e sz []))).put d (.ref id 0 0)) (a.put d (.slice none 0 0)) w' := by
  have R1 := R.new (w' := w') (o := .row e sz []) (B := ⟨none, 0, sz⟩) hid hb (fun k hk => by cases hk) ⟨_, setI_same _ _ _, rfl, .inl ⟨rfl, rfl, rfl⟩⟩ (fun i hi => hi.elim)
  refine ⟨_, S, R1.put d (.ref (fun B hB => ?_) rfl) fun i hi => ?_⟩
  · rw [setI_same] at hB
    obtain rfl := Option.some.inj hB
    exact ⟨0, Nat.le_refl _, by unfold maxLen; omega, rfl, rfl, rfl⟩
  · cases hi; rw [St.setOb_same]; intro h; cases h

variable {T : TypeId} {size bytes : Nat}

theorem st_mk (id : Oid) (x y : Operand) (ho : o.op = Op.makeSlice T x y) (E : Elem P T e size bytes z) {kl kc : IntKind} {N M : Int} (hx : σ.eval x = .v (.int kl N)) (hy : σ.eval y = .v (.int kc M)) (n : Nat) (hN : N = (n : Int)) (hM : M = (n : Int)) (hb : n * bytes ≤ 140737488355328)
    (hid : σ.ob id = .free) {xs : List PV} (hxs : (rep n z).map PV.v = xs) : Step P o σ ((σ.setOb id (.obj (.row e size xs))).put o.dst (.ref id 0 n)) := by
  subst hxs; subst hN; subst hM
  intro K ι S a w R
  obtain ⟨i, zv, hi, hz, hs, hby, hzc⟩ := E.info
  have hm : n ≤ maxLen := by
    have : n * 1 ≤ n * bytes := Nat.mul_le_mul_left _ E.bpos
    unfold maxLen; omega
  have hl := R.eval x
  rw [hx] at hl
  have hc := R.eval y
  rw [hy] at hc
  obtain ⟨w', hr, h1, h2⟩ := run_make_full (P := P) w w.heap.size T e i zv size E.und hi hz hs kl kc n (by rw [hby, Nat.mul_comm]; omega) hm (Nat.le_refl _)
  rw [hzc, ← E.len, madeCells_rep _ _ (by rw [E.len]; exact E.pos), E.len] at h1
  rcases h1.2 with ⟨h, _⟩ | ⟨g, cap, cur, he, hbg, hg, hnc, hcm, hcs, htake⟩
  · cases h
  · simp only [Value.slice.injEq] at he
    obtain ⟨he, _, hcap⟩ := he
    obtain rfl := hcap
    have hgw : w.heap.size = g := by simpa using he
    subst hgw
    have hrun : (execOp a.eval o).run P w = .ok (.value (.slice (some ⟨w.heap.size, 0, none⟩) n n)) w' := by simp [execOp, ho, hl.toV, hc.toV, hr, Result.andThen]
    refine yields_value hrun (R.newRow hid (below_grown h2) e size n hg (Nat.le_refl _) (Nat.le_refl _) hm hcs (by simp [length_rep, E.len]) (fun j b hb => ?_) _)
    simp only [List.getElem?_map] at hb
    obtain ⟨u, hu, rfl⟩ := Option.map_eq_some_iff.1 hb
    have h3 : cur[j]? = some u := by
      have := congrArg (fun l => l[j]?) htake
      simp only [hu] at this
      rw [List.getElem?_take] at this
      split at this
      · simpa using this
      · cases this
    have h4 : u.oneCell' = true := by
      have := List.mem_of_getElem? hu
      simp only [rep, List.mem_flatten, List.mem_replicate] at this
      obtain ⟨m, ⟨_, rfl⟩, hm⟩ := this
      exact E.one u hm
    exact ⟨u, h3, h4, .v h4⟩

/-- The cells of a literal's parts, in order. -/
def partsL (σ : St) : Nat → List (Nat × Operand) → Option (List (List AV))
  | _, [] => some []
  | k, (i, x) :: l => if i = k then (match (σ.eval x).cells, partsL σ (k + 1) l with
    | some c, some r => some (c :: r)
    | _, _ => none) else none

theorem partsL_spec {K : Ctx} {ι : Oid → Option Blk} {S : Nat → Prop} {a : Act} {w : World} (R : RelI K ι S σ a w) : ∀ (l : List (Nat × Operand)) (k : Nat) (r : List (List AV)), partsL σ k l = some r →
    ∃ vs : List Value, l.map (fun p => (p.1, a.eval p.2)) = enumV k vs ∧ vs.length = r.length ∧ (∀ (j : Nat) (v : Value) (c : List AV), vs[j]? = some v → r[j]? = some c → v.cells.size = c.length) ∧
      (vs.flatMap fun v => v.cells.toList).length = r.flatten.length ∧ (∀ x ∈ (vs.flatMap fun v => v.cells.toList), x.oneCell' = true) ∧
      ∀ (j : Nat) (b : AV), r.flatten[j]? = some b → ∃ u, (vs.flatMap fun v => v.cells.toList)[j]? = some u ∧ Rep ι S w b u
  | [], k, r, h => by simp [partsL] at h; subst h; exact ⟨[], by simp [enumV], rfl, by simp, by simp, by simp, by simp⟩
  | (i, x) :: l, k, r, h => by
    simp only [partsL] at h
    split at h
    · rename_i hik
      subst hik
      split at h
      · rename_i c r' hc hr
        obtain rfl := Option.some.inj h
        obtain ⟨vs, h1, h2, h3, h4, h5, h6⟩ := partsL_spec R l (i + 1) r' hr
        obtain ⟨c1, c2, c3⟩ := (R.eval x).cells hc
        refine ⟨a.eval x :: vs, by simp [enumV, h1], by simp [h2], fun j v c' hv hc' => ?_, by simp [c1, h4], fun y hy => ?_, fun j b hb => ?_⟩
        · cases j with
          | zero => simp at hv hc'; subst hv; subst hc'; exact c1
          | succ j => exact h3 j v c' (by simpa using hv) (by simpa using hc')
        · simp only [List.flatMap_cons, List.mem_append] at hy
          rcases hy with hy | hy
          · exact c2 y hy
          · exact h5 y hy
        · simp only [List.flatten_cons, List.flatMap_cons, List.getElem?_append] at hb ⊢
          have c1' : (a.eval x).cells.toList.length = c.length := by simpa using c1
          rw [c1']
          split at hb
          · rename_i hj
            rw [if_pos hj]
            have hj2 : j < (a.eval x).cells.size := by omega
            have := c3 j b hb
            simp [hj2] at this
            exact ⟨_, by simp [hj2], this⟩
          · rename_i hj
            rw [if_neg hj]
            exact h6 _ b hb
      · cases h
    · cases h

/-- A literal slice. -/
theorem st_bs (id : Oid) (len : Nat) (parts : Array (Nat × Operand)) (ho : o.op = .buildSlice T len parts) (E : Elem P T e size bytes z) {r : List (List AV)} (hp : partsL σ 0 parts.toList = some r) (hlen : r.length = len) (hsz : ∀ c ∈ r, c.length = size)
    (hb : len * size ≤ 100000) (hid : σ.ob id = .free) {xs : List PV} (hxs : downs r.flatten = some xs) : Step P o σ ((σ.setOb id (.obj (.row e size xs))).put o.dst (.ref id 0 len)) := by
  intro K ι S a w R
  obtain ⟨vs, h1, h2, h3, h4, h5, h6⟩ := partsL_spec R _ _ _ hp
  obtain ⟨d1, d2⟩ := downs_get hxs
  have hvsz : ∀ v ∈ vs, v.cells.size = size := by
    intro v hv
    obtain ⟨j, hj, rfl⟩ := List.getElem_of_mem hv
    have hjr : j < r.length := by omega
    rw [h3 j _ _ (List.getElem?_eq_getElem hj) (List.getElem?_eq_getElem hjr)]
    exact hsz _ (List.getElem_mem hjr)
  obtain ⟨v', w', hr, H', hbl, hfr, _⟩ := run_bs (P := P) (ρ := a.eval) (SH.start w) len parts ho vs h1 (by omega) hvsz _ rfl h5 hb
  have hrow := H'.get (i := 0) (x := .row v' e size len (vs.flatMap fun v => v.cells.toList)) rfl
  have hxl : xs.length = len * size := by
    have : ∀ (r : List (List AV)), (∀ c ∈ r, c.length = size) → r.flatten.length = r.length * size := by
      intro r
      induction r with
      | nil => simp
      | cons c r ih =>
        intro h
        rw [List.flatten_cons, List.length_append, ih fun c hc => h c (List.mem_cons_of_mem _ hc), h c List.mem_cons_self, List.length_cons, Nat.add_mul, Nat.one_mul, Nat.add_comm]
    rw [← d1, this r hsz, hlen]
  rcases hrow.1.2 with ⟨hv, hx0⟩ | ⟨g, cap, cur, hv, hbg, hg, hnc, hcm, hcs, htake⟩
  · subst hv
    obtain rfl : len = 0 := hx0
    obtain rfl : xs = [] := List.eq_nil_of_length_eq_zero (by simpa using hxl)
    exact yields_value hr (R.newNil hid hbl e size _)
  · subst hv
    refine yields_value hr (R.newRow hid hbl e size len hg hbg hnc hcm hcs hxl (fun j b hb => ?_) _)
    obtain ⟨c, hc, hcd⟩ := d2 j b hb
    obtain ⟨u, hu, hru⟩ := h6 j c hc
    have h1u : u.oneCell' = true := h5 u (List.mem_of_getElem? hu)
    refine ⟨u, ?_, h1u, hru.down hcd h1u⟩
    have := congrArg (fun l => l[j]?) htake
    simp only [hu] at this
    rw [List.getElem?_take] at this
    split at this
    · simpa using this
    · cases this
end
end Go.Proofs.Ytphlaojoehmhaaa

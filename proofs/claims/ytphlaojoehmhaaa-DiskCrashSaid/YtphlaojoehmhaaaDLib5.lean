/- The machine's steps: append, copy, parts of slices; numbers. No program text. -/
import Derived.Test.YtphlaojoehmhaaaDLib4
set_option linter.unusedSimpArgs false
set_option linter.unusedVariables false
namespace Go.Proofs.Ytphlaojoehmhaaa
open Go.RowKit

section
variable {P : Program} {o : Oper} {σ : St} {av : AV} {t e T : TypeId} {agg : Bool} {z : List Value} {size bytes : Nat}

/-- What can be read as a slice of m elements with the cells news. -/
inductive SrcAV (σ : St) : AV → Nat → Nat → List PV → Prop where
  | sl {m sz : Nat} {news : List PV} (h : news.length = m * sz) : SrcAV σ (.sl m news) sz m news
  | nil {sz : Nat} : SrcAV σ (.v (.slice none 0 0)) sz 0 []
  | ref {id : Oid} {off m sz : Nat} {e : TypeId} {xs news : List PV} (hid : σ.ob id = .obj (.row e sz xs)) (hn : (xs.drop off).take (m * sz) = news) (hl : off + m * sz ≤ xs.length) : SrcAV σ (.ref id off m) sz m news

theorem SrcAV.src {K : Ctx} {ι : Oid → Option Blk} {S : Nat → Prop} {a : Act} {w : World} (R : RelI K ι S σ a w) {x : Operand} {sz m : Nat} {news : List PV} (hsz : 0 < sz) (h : SrcAV σ (σ.eval x) sz m news) :
    ∃ us, Sl w sz (a.eval x) m us ∧ us.length = news.length ∧ ∀ (j : Nat) (p : PV), news[j]? = some p → ∃ u, us[j]? = some u ∧ u.oneCell' = true ∧ Rd S w p u := by
  have hv := R.eval x
  generalize he : σ.eval x = av at h hv
  cases h with
  | nil =>
    rw [hv.toV]
    exact ⟨[], ⟨none, 0, rfl, Nat.le_refl _, by simp, by simp, by simp, fun _ => ⟨rfl, rfl⟩, fun h => absurd h (by omega), by simp⟩, rfl, by simp⟩
  | sl h =>
    cases hv with
    | sl hr =>
      generalize a.eval x = v at hr
      cases hr with
      | sl0 h0 h1 h2 =>
        have : m = 0 := by
          rcases Nat.eq_zero_or_pos m with h' | h'
          · exact h'
          · have := Nat.mul_pos h' hsz; simp at h; omega
        subst this
        exact ⟨[], ⟨_, _, rfl, h0, h1, by simp, by simp, fun hn => by obtain ⟨_, rfl⟩ := h2 hn; exact ⟨rfl, rfl⟩, fun h => absurd h (by omega), by simp⟩, rfl, by simp⟩
      | sl us h0 h1 hS h2 h3 =>
        obtain ⟨vs, v1, v2⟩ := list_of (R := fun j u => u = us j) news.length fun j _ => ⟨us j, rfl⟩
        have hat : ∀ (j : Nat) (u : Value), vs[j]? = some u → ∃ p, news[j]? = some p ∧ u = us j := fun j u hu => by
          have hj : j < news.length := by rw [← v1]; exact (List.getElem?_eq_some_iff.1 hu).1
          exact ⟨news[j], List.getElem?_eq_getElem hj, v2 j u hu⟩
        refine ⟨vs, ⟨_, _, rfl, h0, h1, by omega, fun u hu => ?_, fun hn => (by cases hn), fun _ => ⟨_, _, rfl⟩, fun ad had j u hu => ?_⟩, v1, fun j p hp => ?_⟩
        · obtain ⟨j, hj, rfl⟩ := List.getElem_of_mem hu
          obtain ⟨p, hp, hh⟩ := hat j _ (List.getElem?_eq_getElem hj)
          rw [hh]; exact (h3 j p hp).one
        · obtain rfl := Option.some.inj had
          obtain ⟨p, hp, rfl⟩ := hat j u hu
          rw [Addr.add_lit]; exact h2 j p hp
        · have hj : j < vs.length := by rw [v1]; exact (List.getElem?_eq_some_iff.1 hp).1
          have := v2 j _ (List.getElem?_eq_getElem hj)
          exact ⟨vs[j], List.getElem?_eq_getElem hj, by rw [this]; exact (h3 j p hp).one, by rw [this]; exact h3 j p hp⟩
  | ref hid hn hl =>
    rename_i id off e' xs
    obtain ⟨B, h1, h2, ⟨c, h3, h4, h5⟩, h6⟩ := R.refB hid he
    subst hn
    cases hg : B.g with
    | none =>
      rw [hg] at h5
      obtain ⟨h7, rfl, _⟩ := h5
      rw [h7]
      exact ⟨[], ⟨none, 0, rfl, Nat.le_refl _, by simp, by simp, by simp, fun _ => ⟨rfl, rfl⟩, fun h => absurd h (by omega), by simp⟩, by simp, by simp⟩
    | some g =>
      rw [hg] at h5
      obtain ⟨o', h7, h8, h9⟩ := h5
      rcases h6 with ⟨h6, _⟩ | ⟨g', cur, h10, h11, h12, h13, h14⟩
      · rw [hg] at h6; cases h6
      · rw [hg] at h10
        obtain rfl := Option.some.inj h10
        obtain ⟨us, u1, u2⟩ := list_of (R := fun j u => cur[off + j]? = some u ∧ u.oneCell' = true ∧ ∀ p, xs[off + j]? = some p → Rd S w p u) (m * sz) fun j hj => h14 (off + j) (by omega)
        refine ⟨us, ⟨_, _, h7, h3, h4, u1, fun u hu => ?_, fun hn => (by cases hn), fun _ => ⟨_, _, rfl⟩, fun ad had j u hu => ?_⟩, by simp [u1]; omega, fun j p hp => ?_⟩
        · obtain ⟨j, hj, rfl⟩ := List.getElem_of_mem hu
          exact (u2 j _ (List.getElem?_eq_getElem hj)).2.1
        · obtain rfl := Option.some.inj had
          have hj : j < m * sz := by rw [← u1]; exact (List.getElem?_eq_some_iff.1 hu).1
          have hm : 0 < m := by rcases Nat.eq_zero_or_pos m with h | h; · subst h; omega
                                · exact h
          obtain rfl := h8.resolve_right (by omega)
          rw [Addr.add_lit]
          exact cell_in h11 (u2 j u hu).1
        · rw [List.getElem?_take] at hp
          split at hp
          · rename_i hj
            rw [List.getElem?_drop] at hp
            have hju : j < us.length := by omega
            have := u2 j _ (List.getElem?_eq_getElem hju)
            exact ⟨us[j], List.getElem?_eq_getElem hju, this.2.1, this.2.2 p hp⟩
          · cases hp

/-- The cells of a row from its start, as the model's law on append takes them. -/
theorem RelI.owns {K : Ctx} {ι : Oid → Option Blk} {S : Nat → Prop} {a : Act} {w : World} (R : RelI K ι S σ a w) {id : Oid} {e : TypeId} {sz n : Nat} {xs : List PV} (hid : σ.ob id = .obj (.row e sz xs)) {x : Operand} (hx : σ.eval x = .ref id 0 n) (hl : n * sz = xs.length) :
    ∃ B us, ι id = some B ∧ w.ownsRow 0 e sz (a.eval x) n us ∧ us.length = xs.length ∧ (∀ (j : Nat) (p : PV), xs[j]? = some p → ∃ u, us[j]? = some u ∧ u.oneCell' = true ∧ Rd S w p u) ∧ ∀ g, (a.eval x).ownBlock = some g ↔ B.g = some g := by
  obtain ⟨B, h1, h2, ⟨c, h3, h4, h5⟩, h6⟩ := R.refB hid hx
  cases hg : B.g with
  | none =>
    rw [hg] at h5
    obtain ⟨h7, rfl, _⟩ := h5
    have : xs = [] := List.eq_nil_of_length_eq_zero (by omega)
    subst this
    exact ⟨B, [], h1, by rw [h7]; exact World.ownsRow_nil _ _ _ _, rfl, by simp, fun g => by simp [h7, Value.ownBlock, hg]⟩
  | some g =>
    rw [hg] at h5
    obtain ⟨o', h7, h8, h9⟩ := h5
    obtain rfl := h8.resolve_right (by omega)
    rcases h6 with ⟨h6, _⟩ | ⟨g', cur, h10, h11, h12, h13, h14⟩
    · rw [hg] at h6; cases h6
    · rw [hg] at h10
      obtain rfl := Option.some.inj h10
      subst h2
      refine ⟨B, cur.toList.take (n * B.sz), h1, ⟨by simp; omega, .inr ⟨g, c, cur, h7, Nat.zero_le _, h11, h3, h4, by omega, rfl⟩⟩, by simp; omega, fun j p hp => ?_, fun k => by simp [h7, Value.ownBlock, hg]⟩
      have hj : j < xs.length := (List.getElem?_eq_some_iff.1 hp).1
      obtain ⟨u, hu, hu1, hu2⟩ := h14 j hj
      exact ⟨u, by rw [List.getElem?_take, if_pos (by omega)]; simpa using hu, hu1, hu2 p hp⟩

theorem own_split {w : World} {e : TypeId} {sz n : Nat} {v : Value} {us : List Value} (h : w.ownsRow 0 e sz v n us) :
    (v = .slice none 0 0 ∧ n = 0 ∧ us = []) ∨ ∃ g c cur, v = .slice (some ⟨g, 0, none⟩) n c ∧ w.heap[g]? = some (.cells cur e (0, 0)) ∧ n ≤ c ∧ c ≤ maxLen ∧ cur.size = c * sz ∧ ∀ (j : Nat) (u : Value), us[j]? = some u → cur[j]? = some u := by
  rcases h.2 with ⟨h1, h2⟩ | ⟨g, cap, cur, hv, hbg, hg, hnc, hcm, hcs, htake⟩
  · subst h2
    exact .inl ⟨h1, rfl, List.eq_nil_of_length_eq_zero (by simpa using h.1)⟩
  · refine .inr ⟨g, cap, cur, hv, hg, hnc, hcm, hcs, fun j u hu => ?_⟩
    rw [← htake, List.getElem?_take] at hu
    split at hu
    · simpa using hu
    · cases hu

/-- append to a row, from its start. -/
theorem st_ap (id' : Oid) (s x : Operand) (ho : o.op = .call { callee := .builtin .append, args := #[s, x], argTypes := #[T, T] }) (E : Elem P T e size bytes z) {id : Oid} {n : Nat} {xs : List PV} (hs : σ.eval s = .ref id 0 n) (hid : σ.ob id = .obj (.row e size xs)) (hl : n * size = xs.length)
    {m : Nat} {news : List PV} (hx : SrcAV σ (σ.eval x) size m news) (hb : (n + m) * bytes ≤ 140737488355328) (hid' : σ.ob id' = .free) {ys : List PV} (hy : xs ++ news = ys) {k : Nat} (hk : n + m = k) :
    Step P o σ ((((σ.setOb id .gone).setOb id' (.obj (.row e size ys))).setInc id' (σ.inc id)).put o.dst (.ref id' 0 k)) := by
  subst hy; subst hk
  intro K ι S a w R
  obtain ⟨B, us, h1, hown, hul, hur, hblk⟩ := R.owns hid hs hl
  obtain ⟨vs, hsl, hvl, hvr⟩ := hx.src R E.pos
  obtain ⟨v', w', hr, h4, h5, _, h7⟩ := run_app (P := P) (T := T) o.type 0 (a.eval s) n us hown (a.eval x) m vs hsl hb (Nat.zero_le _)
  have hrun : (execOp a.eval o).run P w = .ok (.value v') w' := by
    unfold execOp
    simp only [ho, resolve, invoke, builtin, Sem.run_bind, Sem.run_pure, Result.andThen_ok, List.map_toArray, List.map_cons, List.map_nil, hr]
  have hkeep : Keeps (fun g => B.g = some g) w w' := (Keeps.grown h5).mono fun g hg => (hblk g).1 hg
  have hwS : ∀ k, S k → w'.heap[k]? = w.heap[k]? := fun k hk' => hkeep.block k (R.Slt k hk') fun hg => (R.sep id B k h1 hg).1 hk'
  have hcells : ∀ (j : Nat) (p : PV), (xs ++ news)[j]? = some p → ∃ u, (us ++ vs)[j]? = some u ∧ u.oneCell' = true ∧ Rd S w' p u := by
    intro j p hp
    rw [List.getElem?_append] at hp ⊢
    rw [hul]
    split at hp
    · rename_i hj
      rw [if_pos hj]
      obtain ⟨u, a1, a2, a3⟩ := hur j p hp
      exact ⟨u, a1, a2, a3.next hwS fun _ h => h⟩
    · rename_i hj
      rw [if_neg hj]
      obtain ⟨u, a1, a2, a3⟩ := hvr _ p hp
      exact ⟨u, a1, a2, a3.next hwS fun _ h => h⟩
  have hlen : (us ++ vs).length = (xs ++ news).length := by simp [hul, hvl]
  rcases own_split h4 with ⟨hv, hn0, hu0⟩ | ⟨g, c, cur, hv, hg, hnc, hcm, hcs, hcu⟩
  · subst hv
    have R1 := R.moved (id' := id') (o' := .row e size (xs ++ news)) (B' := ⟨none, 0, size⟩) hid hid' h1 hkeep (fun g hg => by cases hg)
      ⟨_, setI_same _ _ _, rfl, .inl ⟨rfl, by rw [← hlen, hu0]; rfl, rfl⟩⟩ (fun i hi => hi.elim)
    refine yields_value hrun ⟨_, S, R1.put o.dst (.ref (fun B2 hB2 => ?_) rfl) fun i hi => ?_⟩
    · rw [setI_same] at hB2
      obtain rfl := Option.some.inj hB2
      exact ⟨0, by omega, by unfold maxLen; omega, rfl, hn0, rfl⟩
    · cases hi; show ((σ.setOb id .gone).setOb id' _).ob id' ≠ _; rw [St.setOb_same]; intro h; cases h
  · subst hv
    have hle : (xs ++ news).length ≤ cur.size := by
      rw [← hlen]
      have := h4.1
      rw [this, hcs]
      exact Nat.mul_le_mul_right _ hnc
    have R1 := R.moved (id' := id') (o' := .row e size (xs ++ news)) (B' := ⟨some g, cur.size, size⟩) hid hid' h1 hkeep (fun g' hg' => by
        obtain rfl := Option.some.inj hg'
        rcases h7 with h | ⟨k, hk, hle⟩
        · exact .inl ((hblk g).1 (by rw [← h]; rfl))
        · right
          simp [Value.ownBlock] at hk
          omega)
      ⟨_, setI_same _ _ _, rfl, .inr ⟨g, cur, rfl, hg, rfl, hle, fun j hj => by
        obtain ⟨u, a1, a2, a3⟩ := hcells j _ (List.getElem?_eq_getElem hj)
        refine ⟨u, hcu j u a1, a2, fun p hp => ?_⟩
        rw [List.getElem?_eq_getElem hj] at hp
        obtain rfl := Option.some.inj hp
        exact a3⟩⟩ (fun i hi => hi.elim)
    refine yields_value hrun ⟨_, S, R1.put o.dst (.ref (fun B2 hB2 => ?_) rfl) fun i hi => ?_⟩
    · rw [setI_same] at hB2
      obtain rfl := Option.some.inj hB2
      exact ⟨c, hnc, hcm, 0, rfl, .inl rfl, by simp [hcs]⟩
    · cases hi; show ((σ.setOb id .gone).setOb id' _).ob id' ≠ _; rw [St.setOb_same]; intro h; cases h

/-- append to a nil slice. -/
theorem st_ap0 (id' : Oid) (s x : Operand) (ho : o.op = .call { callee := .builtin .append, args := #[s, x], argTypes := #[T, T] }) (E : Elem P T e size bytes z) (hs : σ.eval s = .v (.slice none 0 0))
    {m : Nat} {news : List PV} (hx : SrcAV σ (σ.eval x) size m news) (hb : m * bytes ≤ 140737488355328) (hid' : σ.ob id' = .free) :
    Step P o σ ((σ.setOb id' (.obj (.row e size news))).put o.dst (.ref id' 0 m)) := by
  intro K ι S a w R
  have hv := R.eval s
  rw [hs] at hv
  have hv := hv.toV
  obtain ⟨vs, hsl, hvl, hvr⟩ := hx.src R E.pos
  obtain ⟨v', w', hr, h4, h5, _, h7⟩ := run_app (P := P) (T := T) o.type 0 (.slice none 0 0) 0 [] (World.ownsRow_nil _ _ _ _) (a.eval x) m vs hsl (by simpa using hb) (Nat.zero_le _)
  have hrun : (execOp a.eval o).run P w = .ok (.value v') w' := by
    unfold execOp
    simp only [ho, resolve, invoke, builtin, Sem.run_bind, Sem.run_pure, Result.andThen_ok, List.map_toArray, List.map_cons, List.map_nil, hv, hr]
  simp only [List.nil_append, Nat.zero_add] at h4
  have hbl : Below w.heap.size w w' := below_grown (by simpa [Value.ownBlock] using h5)
  rcases own_split h4 with ⟨hv', hn0, hu0⟩ | ⟨g, c, cur, hv', hg, hnc, hcm, hcs, hcu⟩
  · subst hv'
    have : news = [] := List.eq_nil_of_length_eq_zero (by rw [← hvl, hu0]; rfl)
    subst this; subst hn0
    exact yields_value hrun (R.newNil hid' hbl e size _)
  · subst hv'
    refine yields_value hrun (R.newRow hid' hbl e size m hg ?_ hnc hcm hcs (by rw [← hvl]; exact h4.1) (fun j b hb' => ?_) _)
    · rcases h7 with h | ⟨k, hk, hle⟩
      · simp [Value.ownBlock] at h
      · simp [Value.ownBlock] at hk; omega
    · obtain ⟨u, a1, a2, a3⟩ := hvr j b hb'
      exact ⟨u, hcu j u a1, a2, a3⟩

/-- copy into a row of cells of one each. -/
theorem st_cp {sT : TypeId} (d s : Operand) (ho : o.op = .call { callee := .builtin .copy, args := #[d, s], argTypes := #[T, sT] }) (E : Elem P T e 1 bytes z) {id : Oid} {n : Nat} {xs : List PV} (hd : σ.eval d = .ref id 0 n) (hid : σ.ob id = .obj (.row e 1 xs)) (hl : n = xs.length)
    {m : Nat} {news : List PV} (hx : SrcAV σ (σ.eval s) 1 m news) {ys : List PV} (hy : news.take n ++ xs.drop m = ys) {k : Nat} (hk : min m n = k) :
    Step P o σ ((σ.setOb id (.obj (.row e 1 ys))).put o.dst (.v (.int .i64 (k : Int)))) := by
  subst hy; subst hk
  intro K ι S a w R
  obtain ⟨B, us, h1, hown, hul, hur, hblk⟩ := R.owns hid hd (by omega)
  obtain ⟨vs, hsl, hvl, hvr⟩ := hx.src R (by omega)
  have h1u : ∀ u ∈ us, u.oneCell' = true := by
    intro u hu
    obtain ⟨j, hj, rfl⟩ := List.getElem_of_mem hu
    obtain ⟨u, a1, a2, _⟩ := hur j _ (List.getElem?_eq_getElem (show j < xs.length by omega))
    rw [List.getElem?_eq_getElem hj] at a1
    obtain rfl := Option.some.inj a1
    exact a2
  obtain ⟨inf, zv, hinf, hz, hsz, hby, hzc⟩ := E.info
  obtain ⟨ao, c, hve, hmc, hcm, hln, hone, hnil, hpos, hcells⟩ := hsl
  have hszi : (P.info? e).map (·.size) = some 1 := by rw [hinf]; simp [hsz]
  simp only [Nat.mul_one] at hln
  have fin : ∀ {v : Value} w', (Builtin.copy_ #[T, sT] o.type #[a.eval d, a.eval s]).run P w = .ok v w' → (execOp a.eval o).run P w = .ok (.value v) w' := by
    intro v w' hr
    unfold execOp
    simp only [ho, resolve, invoke, builtin, Sem.run_bind, Sem.run_pure, Result.andThen_ok, List.map_toArray, List.map_cons, List.map_nil, hr]
  by_cases h0 : Nat.min m n = 0
  · have h0' : min m n = 0 := h0
    have he : news.take n ++ xs.drop m = xs := by
      rcases Nat.min_eq_zero_iff.1 h0' with h | h
      · subst h
        have : news = [] := List.eq_nil_of_length_eq_zero (by omega)
        subst this; simp
      · subst h
        have : xs = [] := List.eq_nil_of_length_eq_zero hl.symm
        subst this; simp
    rw [he]
    have R1 : RelI K ι S (σ.setOb id (.obj (.row e 1 xs))) a w := by
      have : σ.setOb id (.obj (.row e 1 xs)) = σ := by
        obtain ⟨n0, fr, ob, inc, pin⟩ := σ
        simp only [St.setOb, St.mk.injEq, true_and, and_true]
        funext i
        by_cases h : i = id
        · subst h; simp only [oeq_self, cond_true]; exact hid.symm
        · simp [oeq_ne h]
      rw [this]; exact R
    have hr : (Builtin.copy_ #[T, sT] o.type #[a.eval d, a.eval s]).run P w = .ok (goInt ((min m n : Nat) : Int)) w := by
      rw [hve]
      rcases own_split hown with ⟨hv, rfl, _⟩ | ⟨g, cap, cur, hv, _⟩
      · rw [hv]
        have := run_copy_none (P := P) w T sT o.type e none ao 0 0 m c E.und hszi h0
        rw [this, h0']; rfl
      · rw [hv]
        have := run_copy_none (P := P) w T sT o.type e (some ⟨g, 0, none⟩) ao n cap m c E.und hszi h0
        rw [this, h0']; rfl
    exact yields_value (fin w hr) ⟨ι, S, R1.put o.dst (by exact .v) fun i hi => noHasV hi⟩
  · rcases own_split hown with ⟨hv, rfl, _⟩ | ⟨g, cap, cur, hv, hg, hnc, hcm', hcs, hcu⟩
    · exact absurd (Nat.min_zero m) h0
    · cases ao with
      | none => obtain ⟨rfl, _⟩ := hnil rfl; exact absurd (Nat.zero_min n) h0
      | some ad =>
        have hmn : Nat.min m n = min m n := rfl
        have hl1 : (vs.take n).length = Nat.min m n := by rw [hmn, List.length_take]; omega
        simp only [Nat.mul_one] at hcs
        have hr := run_copy_row (P := P) w T sT o.type e g 0 n cap ad m c cur e (vs.take n) E.und hszi hg hl1 (fun j u hu => by
          refine hcells ad rfl j u ?_
          rw [List.getElem?_take] at hu
          split at hu
          · exact hu
          · cases hu) (by rw [hl1, hmn]; omega) (fun u hu => hone u (List.mem_of_mem_take hu))
        rw [hl1, hmn] at hr
        simp only [List.take_zero, List.nil_append, Nat.zero_add] at hr
        have hB : B.g = some g := (hblk g).1 (by rw [hv]; rfl)
        have hkeep : Keeps (fun k => B.g = some k) w (w.setRow g (vs.take n ++ cur.toList.drop (min m n)).toArray) := keeps_setRow w g _ hB
        have hwS : ∀ k, S k → (w.setRow g (vs.take n ++ cur.toList.drop (min m n)).toArray).heap[k]? = w.heap[k]? := fun k hk' => setRow_other w g k _ fun e => (R.sep id B g h1 hB).1 (e ▸ hk')
        obtain ⟨B', hB1, hB2, hB3⟩ := R.ob id _ hid
        rw [h1] at hB1
        obtain rfl := Option.some.inj hB1
        have htot : cur.size = B.tot := by
          rcases hB3 with ⟨h6, _⟩ | ⟨g', cur', h10, h11, h12, _⟩
          · rw [hB] at h6; cases h6
          · rw [hB] at h10
            obtain rfl := Option.some.inj h10
            rw [hg] at h11
            simp at h11; subst h11; exact h12
        have hyl : (news.take n ++ xs.drop m).length = n := by simp; omega
        have R1 := R.upd (o' := .row e 1 (news.take n ++ xs.drop m)) hid h1 hkeep ⟨B, h1, hB2, .inr ⟨g, _, hB, setRow_heap w g cur _ e _ hg, by simp; omega, by simp; omega, fun j hj => ?_⟩⟩ (fun i hi => hi.elim)
        · exact yields_value (fin _ (by rw [hve, hv]; exact hr)) ⟨ι, S, R1.put o.dst (by exact .v) fun i hi => noHasV hi⟩
        · rw [hyl] at hj
          simp only [List.getElem?_toArray]
          by_cases hjm : j < m
          · obtain ⟨u, a1, a2, a3⟩ := hvr j _ (List.getElem?_eq_getElem (show j < news.length by omega))
            refine ⟨u, ?_, a2, fun p hp => ?_⟩
            · rw [List.getElem?_append, if_pos (by simp; omega), List.getElem?_take, if_pos hj]; exact a1
            · rw [List.getElem?_append, if_pos (by simp; omega), List.getElem?_take, if_pos hj, List.getElem?_eq_getElem (show j < news.length by omega)] at hp
              obtain rfl := Option.some.inj hp
              exact a3.next hwS fun _ h => h
          · obtain ⟨u, a1, a2, a3⟩ := hur j _ (List.getElem?_eq_getElem (show j < xs.length by omega))
            refine ⟨u, ?_, a2, fun p hp => ?_⟩
            · rw [List.getElem?_append, if_neg (by simp; omega), List.getElem?_drop]
              have : min m n + (j - (vs.take n).length) = j := by simp; omega
              rw [this]
              simpa using hcu j u a1
            · rw [List.getElem?_append, if_neg (by simp; omega), List.getElem?_drop] at hp
              have : m + (j - (news.take n).length) = j := by simp; omega
              rw [this, List.getElem?_eq_getElem (show j < xs.length by omega)] at hp
              obtain rfl := Option.some.inj hp
              exact a3.next hwS fun _ h => h

/-! parts of slices -/
inductive Bnd (σ : St) (dflt : Nat) : Option Operand → Nat → Prop where
  | dflt : Bnd σ dflt none dflt
  | lit {x : Operand} {k : IntKind} {N : Int} {n : Nat} (h : σ.eval x = .v (.int k N)) (hN : N = (n : Int)) : Bnd σ dflt (some x) n

theorem run_slice_of (w : World) {a : Act} (E : Elem P T e size bytes z) (x : Operand) (lo hi : Option Operand) (ho : o.op = .slice T x lo hi none) {ao : Option Addr} {n c : Nat} (hx : a.eval x = .slice ao n c) (hnc : n ≤ c) (lv hv : Nat)
    (hl : (lo = none ∧ lv = 0) ∨ ∃ p k L, lo = some p ∧ a.eval p = .int k L ∧ L = (lv : Int)) (hh : (hi = none ∧ hv = n) ∨ ∃ p k L, hi = some p ∧ a.eval p = .int k L ∧ L = (hv : Int)) (h1 : lv ≤ hv) (h2 : hv ≤ n) :
    (execOp a.eval o).run P w = .ok (.value (.slice (if c = lv then ao else ao.map (·.add (lv * size))) (hv - lv) (c - lv))) w := by
  obtain ⟨inf, zv, hinf, _, hs, _⟩ := E.info
  have hlo : ∀ y, lv ≤ y → ∀ code, (match lo.map a.eval with | some v => Instr.sliceBound v y code | none => pure 0 : Sem Nat).run P w = .ok lv w := by
    intro y hy code
    rcases hl with ⟨rfl, rfl⟩ | ⟨p, k, L, rfl, hp, rfl⟩
    · rfl
    · simp [hp, Instr.sliceBound, asIntOf, hy]
  have hhi : (match hi.map a.eval with | some v => Instr.sliceBound v c .sliceAcap | none => pure n : Sem Nat).run P w = .ok hv w := by
    rcases hh with ⟨rfl, rfl⟩ | ⟨p, k, L, rfl, hp, rfl⟩
    · rfl
    · simp [hp, Instr.sliceBound, asIntOf, show hv ≤ c by omega]
  have hbo : (Instr.sliceBounds true n c (lo.map a.eval) (hi.map a.eval) none).run P w = .ok (lv, hv, c) w := by
    have := hlo hv h1 .sliceB
    cases hlo' : lo.map a.eval <;> cases hhi' : hi.map a.eval <;> simp [hlo', hhi'] at this hhi <;> simp [Instr.sliceBounds, this, hhi] <;> simp_all
  simp [execOp, ho, Instr.sliceAt, hx, run_underlying E.und, Instr.slice, hbo, sizeOf, typeInfo, hinf, hs]

theorem Bnd.real {K : Ctx} {ι : Oid → Option Blk} {S : Nat → Prop} {a : Act} {w : World} (R : RelI K ι S σ a w) {d n : Nat} {x : Option Operand} (h : Bnd σ d x n) : (x = none ∧ n = d) ∨ ∃ p k L, x = some p ∧ a.eval p = .int k L ∧ L = (n : Int) := by
  cases h with
  | dflt => exact .inl ⟨rfl, rfl⟩
  | lit h hN =>
    have := R.eval ‹Operand›
    rw [h] at this
    exact .inr ⟨_, _, _, rfl, this.toV, hN⟩

/-- A part of a frozen slice. -/
theorem st_slS (x : Operand) (lo hi : Option Operand) (ho : o.op = .slice T x lo hi none) (E : Elem P T e size bytes z) {n : Nat} {xs : List PV} (hx : σ.eval x = .sl n xs) (lv hv : Nat) (hl : Bnd σ 0 lo lv) (hh : Bnd σ n hi hv) (h1 : lv ≤ hv) (h2 : hv ≤ n)
    {ys : List PV} (hy : (xs.drop (lv * size)).take ((hv - lv) * size) = ys) {k : Nat} (hk : hv - lv = k) : Step P o σ (σ.put o.dst (.sl k ys)) := by
  subst hy; subst hk
  refine step_val fun K ι S a w R => ?_
  have hp := R.eval x
  rw [hx] at hp
  cases hp with
  | sl h =>
    generalize hve : a.eval x = v at h
    cases h with
    | sl0 h0 h3 h4 =>
      refine ⟨_, run_slice_of w E x lo hi ho hve h0 lv hv (hl.real R) (hh.real R) h1 h2, .sl ?_, fun _ => noHasS⟩
      rw [show (([] : List PV).drop (lv * size)).take ((hv - lv) * size) = [] by simp]
      refine .sl0 (by omega) (by omega) fun hn => ?_
      split at hn
      · have := h4 hn; omega
      · rw [Option.map_eq_none_iff] at hn
        have := h4 hn; omega
    | sl us h0 h3 hS h4 h5 =>
      refine ⟨_, run_slice_of w E x lo hi ho hve h0 lv hv (hl.real R) (hh.real R) h1 h2, .sl ?_, fun _ => noHasS⟩
      by_cases hc : (hv - lv) * size = 0
      · rw [hc, List.take_zero]
        refine .sl0 (by omega) (by omega) fun hn => ?_
        split at hn <;> cases hn
      · have hpos : 0 < hv - lv := by
          rcases Nat.eq_zero_or_pos (hv - lv) with h | h
          · simp [h] at hc
          · exact h
        rw [if_neg (by omega)]
        simp only [Option.map_some, Addr.add_lit]
        refine .sl (fun j => us (lv * size + j)) (by omega) (by omega) hS (fun j p hp => ?_) fun j p hp => ?_
        · rw [List.getElem?_take] at hp
          split at hp
          · rw [List.getElem?_drop] at hp
            rw [Nat.add_assoc]; exact h4 _ p hp
          · cases hp
        · rw [List.getElem?_take] at hp
          split at hp
          · rw [List.getElem?_drop] at hp
            exact h5 _ p hp
          · cases hp

/-- A part of a row. -/
theorem st_slR (x : Operand) (lo hi : Option Operand) (ho : o.op = .slice T x lo hi none) (E : Elem P T e size bytes z) {id : Oid} {of0 n : Nat} {xs : List PV} (hx : σ.eval x = .ref id of0 n) (hid : σ.ob id = .obj (.row e size xs)) (lv hv : Nat) (hl : Bnd σ 0 lo lv) (hh : Bnd σ n hi hv) (h1 : lv ≤ hv) (h2 : hv ≤ n)
    {off : Nat} (hoff : of0 + lv * size = off) {k : Nat} (hk : hv - lv = k) : Step P o σ (σ.put o.dst (.ref id off k)) := by
  subst hoff; subst hk
  refine step_val fun K ι S a w R => ?_
  obtain ⟨B, h3, h4, ⟨c, h5, h6, h7⟩, _⟩ := R.refB hid hx
  cases hg : B.g with
  | none =>
    rw [hg] at h7
    obtain ⟨h8, rfl, rfl⟩ := h7
    refine ⟨_, run_slice_of w E x lo hi ho h8 (Nat.le_refl _) lv hv (hl.real R) (hh.real R) h1 h2, .ref (fun B' hB' => ?_) rfl, fun i h => R.evalHas x (by rw [hx]; cases h; exact .ref)⟩
    rw [h3] at hB'
    obtain rfl := Option.some.inj hB'
    refine ⟨0, by omega, by unfold maxLen; omega, ?_⟩
    rw [hg]
    refine ⟨?_, by omega, rfl⟩
    simp only [Option.map_none, ite_self, Value.slice.injEq, true_and]
    omega
  | some g =>
    rw [hg] at h7
    obtain ⟨o', h8, h9, h10⟩ := h7
    refine ⟨_, run_slice_of w E x lo hi ho h8 h5 lv hv (hl.real R) (hh.real R) h1 h2, .ref (fun B' hB' => ?_) rfl, fun i h => R.evalHas x (by rw [hx]; cases h; exact .ref)⟩
    rw [h3] at hB'
    obtain rfl := Option.some.inj hB'
    refine ⟨c - lv, by omega, by omega, ?_⟩
    rw [hg]
    have hz := E.pos
    have hsum : of0 + lv * size + (c - lv) * B.sz = B.tot := by
      rw [h4, Nat.add_assoc, ← Nat.add_mul, show lv + (c - lv) = c by omega, ← h4]; exact h10
    by_cases hc : c = lv
    · rw [if_pos hc]
      refine ⟨o', rfl, ?_, hsum⟩
      by_cases hz0 : of0 + lv * size = o'
      · exact .inl hz0.symm
      · refine .inr ⟨by omega, ?_⟩
        rcases h9 with h9 | ⟨_, h9⟩
        · have : lv ≠ 0 := fun h => hz0 (by rw [h, h9]; simp)
          have := Nat.mul_pos (Nat.pos_of_ne_zero this) hz
          omega
        · omega
    · rw [if_neg hc]
      refine ⟨o' + lv * size, by simp [Addr.add_lit], ?_, hsum⟩
      left
      rcases h9 with h9 | ⟨h9, _⟩
      · rw [h9]
      · omega

/-! numbers -/
theorem Rep.evV {K : Ctx} {ι : Oid → Option Blk} {S : Nat → Prop} {a : Act} {w : World} (R : RelI K ι S σ a w) {x : Operand} {v : Value} (h : σ.eval x = .v v) : a.eval x = v := by
  have := R.eval x
  rw [h] at this
  exact this.toV

variable {t' : TypeId} {a b : Int} {k : IntKind}
theorem st_bool {x y : Operand} {op : BinOp} (ho : o.op = .binOp op t x y t') {u v : Value} (hx : σ.eval x = .v u) (hy : σ.eval y = .v v) {r : Value} (h : ∀ (ρ : Operand → Value) w, ρ x = u → ρ y = v → (execOp ρ o).run P w = .ok (.value r) w) : Step P o σ (σ.put o.dst (.v r)) :=
  step_val fun _ _ _ a w R => ⟨r, h a.eval w (Rep.evV R hx) (Rep.evV R hy), .v, fun _ => noHasV⟩
theorem st_eql {r : Bool} (x y : Operand) (ho : o.op = .binOp .eql t x y t') (hx : σ.eval x = .v (.int k a)) (hy : σ.eval y = .v (.int k b)) (hr : (a == b) = r) : Step P o σ (σ.put o.dst (.v (.bool r))) :=
  st_bool ho hx hy fun ρ w hx hy => by subst hr; simp [execOp, ho, hx, hy, eqGuard, go_sem]
theorem st_neq {r : Bool} (x y : Operand) (ho : o.op = .binOp .neq t x y t') (hx : σ.eval x = .v (.int k a)) (hy : σ.eval y = .v (.int k b)) (hr : (a != b) = r) : Step P o σ (σ.put o.dst (.v (.bool r))) :=
  st_bool ho hx hy fun ρ w hx hy => by subst hr; simp [execOp, ho, hx, hy, eqGuard, go_sem]
theorem st_lss {r : Bool} (x y : Operand) (ho : o.op = .binOp .lss t x y t') (hx : σ.eval x = .v (.int k a)) (hy : σ.eval y = .v (.int k b)) (hr : decide (a < b) = r) : Step P o σ (σ.put o.dst (.v (.bool r))) :=
  st_bool ho hx hy fun ρ w hx hy => by subst hr; simp [execOp, ho, hx, hy, eqGuard, go_sem]
theorem st_leq {r : Bool} (x y : Operand) (ho : o.op = .binOp .leq t x y t') (hx : σ.eval x = .v (.int k a)) (hy : σ.eval y = .v (.int k b)) (hr : decide (a ≤ b) = r) : Step P o σ (σ.put o.dst (.v (.bool r))) :=
  st_bool ho hx hy fun ρ w hx hy => by subst hr; simp [execOp, ho, hx, hy, eqGuard, go_sem]
theorem st_gtr {r : Bool} (x y : Operand) (ho : o.op = .binOp .gtr t x y t') (hx : σ.eval x = .v (.int k a)) (hy : σ.eval y = .v (.int k b)) (hr : decide (b < a) = r) : Step P o σ (σ.put o.dst (.v (.bool r))) :=
  st_bool ho hx hy fun ρ w hx hy => by subst hr; simp [execOp, ho, hx, hy, eqGuard, go_sem]
theorem st_geq {r : Bool} (x y : Operand) (ho : o.op = .binOp .geq t x y t') (hx : σ.eval x = .v (.int k a)) (hy : σ.eval y = .v (.int k b)) (hr : decide (b ≤ a) = r) : Step P o σ (σ.put o.dst (.v (.bool r))) :=
  st_bool ho hx hy fun ρ w hx hy => by subst hr; simp [execOp, ho, hx, hy, eqGuard, go_sem]
theorem st_add {r : Int} (x y : Operand) (ho : o.op = .binOp .add t x y t') (hx : σ.eval x = .v (.int k a)) (hy : σ.eval y = .v (.int k b)) (hr : k.wrap (a + b) = r) : Step P o σ (σ.put o.dst (.v (.int k r))) :=
  st_bool ho hx hy fun ρ w hx hy => by subst hr; simp [execOp, ho, hx, hy, eqGuard, go_sem]
theorem st_sub {r : Int} (x y : Operand) (ho : o.op = .binOp .sub t x y t') (hx : σ.eval x = .v (.int k a)) (hy : σ.eval y = .v (.int k b)) (hr : k.wrap (a - b) = r) : Step P o σ (σ.put o.dst (.v (.int k r))) :=
  st_bool ho hx hy fun ρ w hx hy => by subst hr; simp [execOp, ho, hx, hy, eqGuard, go_sem]
theorem st_mul {r : Int} (x y : Operand) (ho : o.op = .binOp .mul t x y t') (hx : σ.eval x = .v (.int k a)) (hy : σ.eval y = .v (.int k b)) (hr : k.wrap (a * b) = r) : Step P o σ (σ.put o.dst (.v (.int k r))) :=
  st_bool ho hx hy fun ρ w hx hy => by subst hr; simp [execOp, ho, hx, hy, eqGuard, go_sem]
theorem st_quo {r : Int} (x y : Operand) (ho : o.op = .binOp .quo t x y t') (hx : σ.eval x = .v (.int k a)) (hy : σ.eval y = .v (.int k b)) (hb : b ≠ 0) (hr : k.wrap (a.tdiv b) = r) : Step P o σ (σ.put o.dst (.v (.int k r))) :=
  st_bool ho hx hy fun ρ w hx hy => by subst hr; simp [execOp, ho, hx, hy, eqGuard, go_sem, hb]
theorem st_rem {r : Int} (x y : Operand) (ho : o.op = .binOp .rem t x y t') (hx : σ.eval x = .v (.int k a)) (hy : σ.eval y = .v (.int k b)) (hb : b ≠ 0) (hr : a.tmod b = r) : Step P o σ (σ.put o.dst (.v (.int k r))) :=
  st_bool ho hx hy fun ρ w hx hy => by subst hr; simp [execOp, ho, hx, hy, eqGuard, go_sem, hb]
theorem st_un {x : Operand} {op : UnOp} (ho : o.op = .unOp op t x) {u r : Value} (hx : σ.eval x = .v u) (h : ∀ (ρ : Operand → Value) w, ρ x = u → (execOp ρ o).run P w = .ok (.value r) w) : Step P o σ (σ.put o.dst (.v r)) :=
  step_val fun _ _ _ a w R => ⟨r, h a.eval w (Rep.evV R hx), .v, fun _ => noHasV⟩
theorem st_not {p r : Bool} (x : Operand) (ho : o.op = .unOp .not t x) (hx : σ.eval x = .v (.bool p)) (hr : (!p) = r) : Step P o σ (σ.put o.dst (.v (.bool r))) :=
  st_un ho hx fun ρ w hx => by subst hr; simp [execOp, ho, hx, go_sem]
theorem st_neg {r : Int} (x : Operand) (ho : o.op = .unOp .neg t x) (hx : σ.eval x = .v (.int k a)) (hr : k.wrap (-a) = r) : Step P o σ (σ.put o.dst (.v (.int k r))) :=
  st_un ho hx fun ρ w hx => by subst hr; simp [execOp, ho, hx, go_sem]
end
end Go.Proofs.Ytphlaojoehmhaaa

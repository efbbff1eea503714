/- SameInts and Around, by their contracts. -/
import Derived.Test.YtphlaojoehmhaaaD2
namespace Go.Proofs.Ytphlaojoehmhaaa
open Go.RowKit

/-- A bool, in a world that has grown. -/
def BPost (w : World) (b : Bool) (e : Ending) (w' : World) : Prop := e = .returned (.bool b) ∧ Below w.heap.size w w'

set_option maxHeartbeats 800000 in
theorem sameInts_any (w0 : World) (pa pb : Option Addr) (n m ca cb : Nat) (xs ys : List Int) (ha : Sl w0 1 (.slice pa n ca) n (ints xs)) (hb : Sl w0 1 (.slice pb m cb) m (ints ys)) (h1 : n ≤ 1000000) (h2 : m ≤ 1000000) :
    Calls Try.prog 13 #[.slice pa n ca, .slice pb m cb] w0 (BPost w0 (decide (xs = ys))) := by
  have la : xs.length = n := ints_len ha
  have lb : ys.length = m := ints_len hb
  have H := ((SH.start w0).take hb (by simp)).take ha (by simp [Ent.read])
  clear ha hb
  have La := Lib.hid la; have Lb := Lib.hid lb
  by_cases hnm : n = m
  case neg =>
    have hne : decide (xs = ys) = false := by simp; rintro rfl; omega
    rw [hne]
    clear hne la lb
    have hq : ((n : Int) != (m : Int)) = true := by rw [bne_iff_ne]; omega
    go_enter Try.func13, Try.ntmps13
    go_wp2
    go_ret
    exact ⟨rfl, Below.refl _ _⟩
  case pos =>
    subst hnm
    clear la lb
    have hq : ((n : Int) != (n : Int)) = false := by simp
    go_enter Try.func13, Try.ntmps13
    go_wp2
    go_loopw [5] (fun i wr => ∃ k : Nat, k ≤ n ∧ i = .int .i64 k ∧ Hid (xs.take k = ys.take k) ∧ SH w0 wr [.sl (.slice pa n ca) 1 n (ints xs), .sl (.slice pb n cb) 1 n (ints ys)]) (fun i _ => n - (intOf i).toNat)
    case atStart => exact ⟨0, Nat.zero_le _, rfl, rfl, H⟩
    case round =>
      clear H
      obtain ⟨k, hk, rfl, Heq, H⟩ := hrel
      by_cases hlk : k < n
      · have hx : Hid ((ints xs)[k * 1]? = some (.int .i64 (xs[k]'(by rw [La.out]; exact hlk)))) := by rw [Nat.mul_one]; exact ints_get _ _ _
        have hy : Hid ((ints ys)[k * 1]? = some (.int .i64 (ys[k]'(by rw [Lb.out]; exact hlk)))) := by rw [Nat.mul_one]; exact ints_get _ _ _
        have hex : Hid (xs.take (k + 1) = xs.take k ++ [xs[k]'(by rw [La.out]; exact hlk)]) := take_succ _ _ _
        have hey : Hid (ys.take (k + 1) = ys.take k ++ [ys[k]'(by rw [Lb.out]; exact hlk)]) := take_succ _ _ _
        generalize xs[k]'(by rw [La.out]; exact hlk) = x at *
        generalize ys[k]'(by rw [Lb.out]; exact hlk) = y at *
        go_wp2
        refine wp_region_facts 9 [Det (.slice pa n ca), Det (.int .i64 k), Det (elemPtr (.slice pa n ca) (k * 1)), Det (.int .i64 x), Det (.slice pb n cb), Det (.int .i64 k), Det (elemPtr (.slice pb n cb) (k * 1)), Det (.int .i64 y), Det (.bool (x != y))] (by kernel_rfl) (by kernel_rfl) (by repeat (first | exact stab_nil | refine stab_cons (by first | exact Det.stable _ | exact NewSl.stable _ _ _ _ | assumption) ?_)) _ (fun ω => by simp only [List.take_succ_cons, List.take_zero, List.take_nil, putAll, Act.put, List.setIfInBounds_toArray, List.set_cons_succ, List.set_cons_zero, Nat.reduceAdd]; rfl) ⟨?_, ?_, ?_, ?_, ?_, ?_, ?_, ?_, ?_, trivial⟩ ?_
        · refine obl_of rfl fun ω w hb hd => ?_; exact yl_mv _ rfl rfl
        · refine obl_of rfl fun ω w hb hd => ?_; exact yl_mv _ rfl rfl
        · refine obl_of rfl fun ω w hb hd => ?_; exact yl_ix k _ _ rfl inferInstance (hd.at 0 rfl rfl) ((H.inClass hb).rd 0 rfl) (hd.at 1 rfl rfl) rfl (by omega)
        · refine obl_of rfl fun ω w hb hd => ?_; exact yl_el1 _ rfl inferInstance (hd.at 2 rfl rfl) ((H.inClass hb).rd 0 rfl) hx.out
        · refine obl_of rfl fun ω w hb hd => ?_; exact yl_mv _ rfl rfl
        · refine obl_of rfl fun ω w hb hd => ?_; exact yl_mv _ rfl rfl
        · refine obl_of rfl fun ω w hb hd => ?_; exact yl_ix k _ _ rfl inferInstance (hd.at 4 rfl rfl) ((H.inClass hb).rd 1 rfl) (hd.at 5 rfl rfl) rfl (by omega)
        · refine obl_of rfl fun ω w hb hd => ?_; exact yl_el1 _ rfl inferInstance (hd.at 6 rfl rfl) ((H.inClass hb).rd 1 rfl) hy.out
        · refine obl_of rfl fun ω w hb hd => ?_; exact yl_neq _ _ rfl (hd.at 3 rfl rfl) (hd.at 7 rfl rfl) rfl
        rintro ω w hb ⟨h0, h1, h2, h3, h4, h5, h6, h7, h8, -⟩
        change ω 0 = _ at h0
        change ω 1 = _ at h1
        change ω 2 = _ at h2
        change ω 3 = _ at h3
        change ω 4 = _ at h4
        change ω 5 = _ at h5
        change ω 6 = _ at h6
        change ω 7 = _ at h7
        change ω 8 = _ at h8
        simp only [h0, h1, h2, h3, h4, h5, h6, h7, h8, List.drop_succ_cons, List.drop_zero, List.drop_nil]
        clear h0 h1 h2 h3 h4 h5 h6 h7 h8
        replace H := H.inClass hb
        clear hb
        by_cases hxy : x = y
        · have hb : (x != y) = false := by simp [hxy]
          have Hxy := Lib.hid hxy; clear hxy
          go_wp2
          go_roundw
          case rel => exact ⟨k + 1, by omega, by go_num, (by show _ = _; rw [hex.out, hey.out, Heq.out, Hxy.out]), H⟩
          case measure => simp [intOf]; omega
        · have hb : (x != y) = true := by simp [hxy]
          have Hxy := Lib.hid hxy; clear hxy
          go_wp2
          go_ret
          refine ⟨ret_bool (Eq.symm (decide_eq_false ?_)), H.below⟩
          intro e
          subst e
          have := hex.out.symm.trans hey.out
          simp at this
          exact Hxy.out this
      · have hkn : k = n := by omega
        subst hkn
        go_wp2
        go_ret
        refine ⟨ret_bool (Eq.symm (decide_eq_true ?_)), H.below⟩
        have e := Heq.out
        rwa [List.take_of_length_le (by rw [La.out]; exact Nat.le_refl _), List.take_of_length_le (by rw [Lb.out]; exact Nat.le_refl _)] at e

def around (n most : Int) : Int := (if n < 0 then -(n + 1) else n) % most
theorem around_lo (n most : Int) (h : 1 ≤ most) : 0 ≤ around n most := Int.emod_nonneg _ (by omega)
theorem around_hi (n most : Int) (h : 1 ≤ most) : around n most < most := Int.emod_lt_of_pos _ (by omega)

set_option maxHeartbeats 400000 in
theorem around_any (n most : Int) (w : World) (h1 : 1 ≤ most) (h2 : most ≤ 4000000000) (hn : -9223372036854775808 ≤ n) (hn2 : n ≤ 9223372036854775807) :
    Calls Try.prog 10 #[.int .i64 n, .int .i64 most] w fun e w' => e = .returned (.int .i64 (around n most)) ∧ w = w' := by
  by_cases h : n < 0
  · have h0 : 0 ≤ -(n + 1) := by omega
    have hm : most ≠ 0 := by omega
    have ht : (-(n + 1)).tmod most = (-(n + 1)) % most := Int.tmod_eq_emod_of_nonneg h0
    go_enter Try.func10, Try.ntmps10
    go_wp2
    go_ret
    exact ⟨ret_int (by simp only [around, if_pos h]), rfl⟩
  · go_enter Try.func10, Try.ntmps10
    go_wp2
    go_ret
    exact ⟨ret_int (by rw [around, if_neg (by omega)]), rfl⟩
end Go.Proofs.Ytphlaojoehmhaaa

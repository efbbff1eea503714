/- What the laws on orders have in common. -/
import Derived.Test.YtkbkmngbenohkaaOwA18
set_option linter.unusedSimpArgs false
set_option linter.unusedVariables false
namespace Go.Proofs.Ytkbkmngbenohkaa
open Go.RowKit

/-- What a generated order is. -/
structure Gen (n : Int) (m : Nat) (l : List Int) (k : Nat) (E : Prs) : Prop where
  lo : -9223372036854775808 ≤ n
  hi : n ≤ 9223372036854775807
  ar : around n 8 = (k : Int)
  len : l.length = m
  le : m ≤ 4611686018427387904
  rng : Rng l
  prs : pairs (k : Int) l = E
theorem Gen.of (n : Int) (h : -9223372036854775808 ≤ n ∧ n ≤ 9223372036854775807) (m : Nat) (l : List Int) (hm : l.length = m) (h1 : m ≤ 4611686018427387904) (hr : Rng l) : ∃ k E, Gen n m l k E :=
  ⟨(around n 8).toNat, _, h.1, h.2, (Int.toNat_of_nonneg (around_lo n 8 (by omega))).symm, hm, h1, hr, rfl⟩
theorem Gen.kle {n : Int} {m : Nat} {l : List Int} {k : Nat} {E : Prs} (g : Gen n m l k E) : k < 8 := by
  have := around_hi n 8 (by omega)
  rw [g.ar] at this; omega
theorem Gen.inE {n : Int} {m : Nat} {l : List Int} {k : Nat} {E : Prs} (g : Gen n m l k E) : inE k E = true := g.prs ▸ pairs_in k l
theorem Gen.el {n : Int} {m : Nat} {l : List Int} {k : Nat} {E : Prs} (g : Gen n m l k E) : E.length ≤ 12 := g.prs ▸ pairs_len k l
theorem Gen.yes {n : Int} {m : Nat} {l : List Int} {k : Nat} {E : Prs} (g : Gen n m l k E) (hC : Cyc k E) : Spec Try.prog 30 (inSt [.v (.int .i64 n), .sl m (isl l)] []) (outSt (.v (.bool true)) []) :=
  cyclic_yes n g.lo g.hi k g.ar m l g.len g.le g.rng (g.prs ▸ hC)
theorem Gen.no {n : Int} {m : Nat} {l : List Int} {k : Nat} {E : Prs} (g : Gen n m l k E) (hC : ¬ Cyc k E) : Spec Try.prog 30 (inSt [.v (.int .i64 n), .sl m (isl l)] []) (outSt (.v (.bool false)) []) :=
  cyclic_no n g.lo g.hi k g.ar m l g.len g.le g.rng (g.prs ▸ hC)
theorem Gen.made {n : Int} {m : Nat} {l : List Int} {k : Nat} {E : Prs} (g : Gen n m l k E) (hC : ¬ Cyc k E) :
    Spec Try.prog 31 (inSt [.v (.int .i64 n), .sl m (isl l)] []) (outSt (.tup [.fp 0 (ord k (cloW k E)), .agg (rord k (cloM k E))]) []) := by
  have := made_spec n g.lo g.hi k g.ar m l g.len g.le g.rng (g.prs ▸ hC)
  rw [g.prs] at this; exact this
theorem Gen.pairs {n : Int} {m : Nat} {l : List Int} {k : Nat} {E : Prs} (g : Gen n m l k E) : Spec Try.prog 32 (inSt [.v (.int .i64 (k : Int)), .sl m (isl l)] []) (outSt (.sl E.length (psl E)) []) := by
  have := pairs_spec (k : Int) (by omega) (by have := g.kle; omega) m l g.len g.le g.rng
  rw [g.prs] at this; exact this
theorem Gen.w {n : Int} {m : Nat} {l : List Int} {k : Nat} {E : Prs} (g : Gen n m l k E) : Words k (cloW k E) := cloW_words (by have := g.kle; omega)
theorem Gen.m {n : Int} {m : Nat} {l : List Int} {k : Nat} {E : Prs} (g : Gen n m l k E) : Mat k (cloM k E) := cloM_mat (by have := g.kle; omega)
theorem Gen.less {n : Int} {m : Nat} {l : List Int} {k : Nat} {E : Prs} (g : Gen n m l k E) (a b : Nat) (ha : a < k) (hb : b < k) :
    Spec Try.prog 33 (inSt [.fp 0 (ord k (cloW k E)), .v (.int .i64 (a : Int)), .v (.int .i64 (b : Int))] []) (outSt (.v (.bool (cl E a b))) []) := by
  have := lessN_spec k _ g.w a b ha hb
  rw [wlt_clo g.inE] at this; exact this
/-- Down, told by the closure. -/
noncomputable abbrev dwn (k : Nat) (E : Prs) (l : List Int) : List Nat := downA k (cl E) l k
theorem Gen.down {n : Int} {m : Nat} {l : List Int} {k : Nat} {E : Prs} (g : Gen n m l k E) (m' : Nat) (x : List Int) (hm : x.length = m') (h1 : m' ≤ 4611686018427387904) :
    Spec Try.prog 39 (inSt [.fp 0 (ord k (cloW k E)), .sl m' (isl x)] []) (outSt (.sl (dwn k E x).length (nsl (dwn k E x))) []) := by
  have := down_spec k _ g.w m' x hm h1
  rw [wlt_clo g.inE] at this; exact this
theorem same_true (n : Nat) (xs : List Int) (hn : xs.length = n) (h1 : n ≤ 4611686018427387904) : Spec Try.prog 40 (inSt [.sl n (isl xs), .sl n (isl xs)] []) (outSt (.v (.bool true)) []) := by
  have := same_spec n n xs xs hn hn h1 h1
  rw [decide_eq_true rfl] at this; exact this
theorem samepairs_true (n : Nat) (xs : List (Int × Int)) (hn : xs.length = n) (h1 : n ≤ 4611686018427387904) : Spec Try.prog 35 (inSt [.sl n (psl xs), .sl n (psl xs)] []) (outSt (.v (.bool true)) []) := by
  have := samepairs_spec n n xs xs hn hn h1 h1
  rw [decide_eq_true rfl] at this; exact this
theorem Gen.covers {n : Int} {m : Nat} {l : List Int} {k : Nat} {E : Prs} (g : Gen n m l k E) :
    Spec Try.prog 34 (inSt [.fp 0 (ord k (cloW k E))] []) (outSt (.sl (covA k (cl E) k).length (psl (covA k (cl E) k))) []) := by
  have := covers_spec k _ g.w
  rw [wlt_clo g.inE] at this; exact this
theorem Gen.rcovers {n : Int} {m : Nat} {l : List Int} {k : Nat} {E : Prs} (g : Gen n m l k E) :
    Spec Try.prog 36 (inSt [.agg (rord k (cloM k E))] []) (outSt (.sl (covA k (cl E) k).length (psl (covA k (cl E) k))) []) := by
  have := rcovers_spec k _ g.m
  rw [mlt_clo g.inE] at this; exact this
theorem Gen.linear {n : Int} {m : Nat} {l : List Int} {k : Nat} {E : Prs} (g : Gen n m l k E) (hC : ¬ Cyc k E) :
    Spec Try.prog 44 (inSt [.fp 0 (ord k (cloW k E))] []) (outSt (.sl k (isl (nl (lin k (cl E) k)))) []) := by
  have := linear_spec k _ g.w (by rw [wlt_clo g.inE]; exact spo_cl hC)
  rw [wlt_clo g.inE] at this; exact this
theorem Gen.rlinear {n : Int} {m : Nat} {l : List Int} {k : Nat} {E : Prs} (g : Gen n m l k E) (hC : ¬ Cyc k E) :
    Spec Try.prog 45 (inSt [.agg (rord k (cloM k E))] []) (outSt (.sl k (isl (nl (lin k (cl E) k)))) []) := by
  have := rlinear_spec k _ g.m (by rw [mlt_clo g.inE]; exact spo_cl hC)
  rw [mlt_clo g.inE] at this; exact this
theorem Gen.isl {n : Int} {m : Nat} {l : List Int} {k : Nat} {E : Prs} (g : Gen n m l k E) (m' : Nat) (x : List Int) (hm : x.length = m') (h1 : m' ≤ 4611686018427387904) :
    Spec Try.prog 50 (inSt [.fp 0 (ord k (cloW k E)), .sl m' (Ytkbkmngbenohkaa.isl x)] []) (outSt (.v (.bool (islin k (cl E) x))) []) := by
  have := islinear_spec k _ g.w m' x hm h1
  rw [wlt_clo g.inE] at this; exact this
end Go.Proofs.Ytkbkmngbenohkaa

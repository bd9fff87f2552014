import Derived.Test.YtjmbcnfhonfpkaaGreatL1
import Derived.Test.YtjmbcnfhonfpkaaGreatB2
set_option linter.unusedSimpArgs false
set_option linter.unusedVariables false
/- Spans, and what of narrower ones comes lies in what comes of wider ones; in plain Lean. -/
set_option maxRecDepth 100000
namespace Go.Gim
structure Sp where
 lo : Int
 hi : Int
 all : Bool
deriving DecidableEq
def fixB (n : Int) : Bool := decide (-2147483647 ≤ n) && decide (n ≤ 2147483647)
def zd8 : Sp := ⟨0, 0, true⟩
def zao (x : Sp) : Sp := if x.all = true ∨ fixB x.lo = false ∨ fixB x.hi = false ∨ x.hi < x.lo then zd8 else x
def madeS (lo hi : Int) : Sp := zao ⟨lo, hi, false⟩
def ofS (a b : Int) : Sp := madeS (min a b) (max a b)
def hasS (x : Sp) (n : Int) : Bool := (zao x).all || (decide ((zao x).lo ≤ n) && decide (n ≤ (zao x).hi))
def inS (x y : Sp) : Bool := decide (zao y = zd8) || (!decide (zao x = zd8) && (decide ((zao y).lo ≤ (zao x).lo) && decide ((zao x).hi ≤ (zao y).hi)))
def addS (x y : Sp) : Sp := if (zao x).all = true ∨ (zao y).all = true then zd8 else madeS ((zao x).lo + (zao y).lo) ((zao x).hi + (zao y).hi)
def subS (x y : Sp) : Sp := if (zao x).all = true ∨ (zao y).all = true then zd8 else madeS ((zao x).lo - (zao y).hi) ((zao x).hi - (zao y).lo)
def negS (x : Sp) : Sp := subS (ofS 0 0) x
def lo4 (x y : Sp) : Int := min (min (min (x.lo * y.lo) (x.lo * y.hi)) (x.hi * y.lo)) (x.hi * y.hi)
def hi4 (x y : Sp) : Int := max (max (max (x.lo * y.lo) (x.lo * y.hi)) (x.hi * y.lo)) (x.hi * y.hi)
def mulS' (x y : Sp) : Sp := madeS ((lo4 x y).fdiv 1048576) (-((-(hi4 x y)).fdiv 1048576))
def mulP (x y : Sp) : Sp := if (zao x).all = true ∨ (zao y).all = true then zd8 else mulS' (zao x) (zao y)
def sqrS (x : Sp) : Sp := if (zao x).all = false ∧ (mulP x x).all = false ∧ hasS x 0 = true then { mulP x x with lo := 0 } else mulP x x
def OkS (x : Sp) : Prop := x = zd8 ∨ (x.all = false ∧ (-2147483647 ≤ x.lo ∧ x.lo ≤ x.hi ∧ x.hi ≤ 2147483647))
def SubS (x y : Sp) : Prop := y = zd8 ∨ (x.all = false ∧ y.lo ≤ x.lo ∧ x.hi ≤ y.hi)
theorem fixB_iff {n : Int} : fixB n = true ↔ -2147483647 ≤ n ∧ n ≤ 2147483647 := by simp [fixB]
theorem fixB_no {n : Int} : fixB n = false ↔ n < -2147483647 ∨ 2147483647 < n := by
 cases h : fixB n
 ·simp only [true_iff]
  have : ¬ (-2147483647 ≤ n ∧ n ≤ 2147483647) := fun h2 => by rw [fixB_iff.2 h2] at h; cases h
  omega
 ·have := fixB_iff.1 h
  simp; omega
theorem za1 {x : Sp} (h : OkS x) : zao x = x := by
 unfold zao
 rcases h with rfl | ⟨h1, h2⟩
 ·rw [if_pos (.inl rfl)]
 ·rw [if_neg]
  rintro (h | h | h | h)
  ·rw [h1] at h; cases h
  ·rw [fixB_no] at h; omega
  ·rw [fixB_no] at h; omega
  ·omega
theorem right_is (x : Sp) : OkS (zao x) := by
 unfold zao
 split
 ·exact .inl rfl
 ·rename_i h
  refine .inr ⟨?_, ?_⟩
  ·cases hx : x.all
   ·rfl
   ·exact absurd (.inl hx) h
  ·have h1 : fixB x.lo = true := by cases hf : fixB x.lo; exact absurd (.inr (.inl hf)) h; rfl
   have h2 : fixB x.hi = true := by cases hf : fixB x.hi; exact absurd (.inr (.inr (.inl hf))) h; rfl
   rw [fixB_iff] at h1 h2
   have h3 : ¬ x.hi < x.lo := fun hf => h (.inr (.inr (.inr hf)))
   omega
theorem OkS.lt {x : Sp} (h : OkS x) (ha : x.all = false) : -2147483647 ≤ x.lo ∧ x.lo ≤ x.hi ∧ x.hi ≤ 2147483647 := by
 rcases h with rfl | h
 ·cases ha
 ·exact h.2
theorem OkS.w {x : Sp} (h : OkS x) (ha : x.all = true) : x = zd8 := by
 rcases h with h | h
 ·exact h
 ·rw [h.1] at ha; cases ha
theorem made_ok (a b : Int) : OkS (madeS a b) := right_is _
theorem made_eq {a b : Int} (h : -2147483647 ≤ a ∧ a ≤ b ∧ b ≤ 2147483647) : madeS a b = ⟨a, b, false⟩ := za1 (.inr ⟨rfl, h⟩)
theorem made_no {a b : Int} (h : ¬ (-2147483647 ≤ a ∧ a ≤ b ∧ b ≤ 2147483647)) : madeS a b = zd8 := by
 unfold madeS zao
 rw [if_pos]
 simp only [fixB_no]
 omega
theorem made_sub {a b c d : Int} (h1 : c ≤ a) (h2 : b ≤ d) (h : a ≤ b) : SubS (madeS a b) (madeS c d) := by
 by_cases h3 : -2147483647 ≤ c ∧ c ≤ d ∧ d ≤ 2147483647
 ·rw [made_eq h3, made_eq (a := a) (b := b) (by omega)]
  exact .inr ⟨rfl, h1, h2⟩
 ·rw [made_no h3]; exact .inl rfl
theorem SubS.all {x y : Sp} (h : SubS x y) (hy : OkS y) (ha : y.all = false) : x.all = false ∧ y.lo ≤ x.lo ∧ x.hi ≤ y.hi := by
 rcases h with rfl | h
 ·cases ha
 ·exact h
theorem in_iff {x y : Sp} (hx : OkS x) (hy : OkS y) : inS x y = true ↔ SubS x y := by
 unfold inS SubS
 rw [za1 hx, za1 hy]
 simp only [Bool.or_eq_true, Bool.and_eq_true, decide_eq_true_eq, Bool.not_eq_true', decide_eq_false_iff_not]
 constructor
 ·rintro (h | ⟨h1, h2, h3⟩)
  ·exact .inl h
  ·refine .inr ⟨?_, h2, h3⟩
   cases ha : x.all
   ·rfl
   ·exact absurd (hx.w ha) h1
 ·rintro (h | ⟨h1, h2, h3⟩)
  ·exact .inl h
  ·refine .inr ⟨fun h => ?_, h2, h3⟩
   rw [h] at h1; cases h1
theorem add_ok (x y : Sp) : OkS (addS x y) := by unfold addS; split; exact .inl rfl; exact made_ok _ _
theorem sub_ok' (x y : Sp) : OkS (subS x y) := by unfold subS; split; exact .inl rfl; exact made_ok _ _
theorem zea (x y : Sp) : OkS (mulP x y) := by unfold mulP; split; exact .inl rfl; exact made_ok _ _
theorem of_ok (a b : Int) : OkS (ofS a b) := made_ok _ _
theorem notall {b : Bool} (h : ¬ b = true) : b = false := by simpa using h
theorem add_mono {x y x' y' : Sp} (hx : OkS x) (hy : OkS y) (hx' : OkS x') (hy' : OkS y') (h1 : SubS x x') (h2 : SubS y y') : SubS (addS x y) (addS x' y') := by
 unfold addS
 rw [za1 hx, za1 hy, za1 hx', za1 hy']
 by_cases h : x'.all = true ∨ y'.all = true
 ·rw [if_pos h]; exact .inl rfl
 ·rw [if_neg h]
  have a1 := h1.all hx' (notall fun e => h (.inl e))
  have a2 := h2.all hy' (notall fun e => h (.inr e))
  rw [if_neg (by rw [a1.1, a2.1]; decide)]
  have b1 := hx.lt a1.1
  have b2 := hy.lt a2.1
  exact made_sub (by omega) (by omega) (by omega)
theorem subS_mono {x y x' y' : Sp} (hx : OkS x) (hy : OkS y) (hx' : OkS x') (hy' : OkS y') (h1 : SubS x x') (h2 : SubS y y') : SubS (subS x y) (subS x' y') := by
 unfold subS
 rw [za1 hx, za1 hy, za1 hx', za1 hy']
 by_cases h : x'.all = true ∨ y'.all = true
 ·rw [if_pos h]; exact .inl rfl
 ·rw [if_neg h]
  have a1 := h1.all hx' (notall fun e => h (.inl e))
  have a2 := h2.all hy' (notall fun e => h (.inr e))
  rw [if_neg (by rw [a1.1, a2.1]; decide)]
  have b1 := hx.lt a1.1
  have b2 := hy.lt a2.1
  exact made_sub (by omega) (by omega) (by omega)
theorem SubS.refl {x : Sp} (h : OkS x) : SubS x x := by
 rcases h with rfl | h
 ·exact .inl rfl
 ·exact .inr ⟨h.1, Int.le_refl _, Int.le_refl _⟩
theorem neg_mono {x x' : Sp} (hx : OkS x) (hx' : OkS x') (h : SubS x x') : SubS (negS x) (negS x') := subS_mono (of_ok 0 0) hx (of_ok 0 0) hx' (SubS.refl (of_ok 0 0)) h
theorem prod_mid {a b u v : Int} (h : a ≤ u ∧ u ≤ b) : min (a * v) (b * v) ≤ u * v ∧ u * v ≤ max (a * v) (b * v) := by
 rcases Int.le_total 0 v with hv | hv
 ·have h1 := Int.mul_le_mul_of_nonneg_right h.1 hv
  have h2 := Int.mul_le_mul_of_nonneg_right h.2 hv
  omega
 ·have h1 := Int.mul_le_mul_of_nonpos_right h.1 hv
  have h2 := Int.mul_le_mul_of_nonpos_right h.2 hv
  omega
theorem box_mid {x y : Sp} {u v : Int} (hu : x.lo ≤ u ∧ u ≤ x.hi) (hv : y.lo ≤ v ∧ v ≤ y.hi) : lo4 x y ≤ u * v ∧ u * v ≤ hi4 x y := by
 have h1 := prod_mid (v := v) hu
 have h2 := prod_mid (v := x.lo) hv
 have h3 := prod_mid (v := x.hi) hv
 rw [Int.mul_comm y.lo, Int.mul_comm y.hi, Int.mul_comm v] at h2 h3
 unfold lo4 hi4
 omega
theorem zho {a b c : Int} (hc : 0 < c) (h : a ≤ b) : a.fdiv c ≤ b.fdiv c := by
 rw [Int.fdiv_eq_ediv_of_nonneg _ (by omega), Int.fdiv_eq_ediv_of_nonneg _ (by omega)]
 exact Int.ediv_le_ediv hc h
theorem mul_mono {x y x' y' : Sp} (hx : OkS x) (hy : OkS y) (hx' : OkS x') (hy' : OkS y') (h1 : SubS x x') (h2 : SubS y y') : SubS (mulP x y) (mulP x' y') := by
 unfold mulP
 rw [za1 hx, za1 hy, za1 hx', za1 hy']
 by_cases h : x'.all = true ∨ y'.all = true
 ·rw [if_pos h]; exact .inl rfl
 ·rw [if_neg h]
  have a1 := h1.all hx' (notall fun e => h (.inl e))
  have a2 := h2.all hy' (notall fun e => h (.inr e))
  rw [if_neg (by rw [a1.1, a2.1]; decide)]
  have b1 := hx.lt a1.1
  have b2 := hy.lt a2.1
  have c1 := box_mid (x := x') (y := y') (u := x.lo) (v := y.lo) (by omega) (by omega)
  have c2 := box_mid (x := x') (y := y') (u := x.lo) (v := y.hi) (by omega) (by omega)
  have c3 := box_mid (x := x') (y := y') (u := x.hi) (v := y.lo) (by omega) (by omega)
  have c4 := box_mid (x := x') (y := y') (u := x.hi) (v := y.hi) (by omega) (by omega)
  have e1 : lo4 x' y' ≤ lo4 x y := by
   generalize lo4 x' y' = L at *
   unfold lo4; omega
  have e2 : hi4 x y ≤ hi4 x' y' := by
   generalize hi4 x' y' = L at *
   unfold hi4; omega
  have e3 : lo4 x y ≤ hi4 x y := by
   unfold lo4 hi4; omega
  have f1 := zho (c := 1048576) (by decide) e1
  have f2 := zho (c := 1048576) (by decide) (show -(hi4 x' y') ≤ -(hi4 x y) by omega)
  unfold mulS'
  refine made_sub f1 (by omega) ?_
  have f3 := Int.mul_fdiv_add_fmod (lo4 x y) 1048576
  have f4 := Int.fmod_nonneg_of_pos (lo4 x y) (show (0 : Int) < 1048576 by decide)
  have f5 := Int.mul_fdiv_add_fmod (-(hi4 x y)) 1048576
  have f6 := Int.fmod_nonneg_of_pos (-(hi4 x y)) (show (0 : Int) < 1048576 by decide)
  omega
theorem mul_comm' (x y : Sp) : mulP x y = mulP y x := by
 unfold mulP mulS' lo4 hi4
 by_cases h : (zao x).all = true ∨ (zao y).all = true
 ·rw [if_pos h, if_pos h.symm]
 ·rw [if_neg h, if_neg fun e => h e.symm]
  rw [Int.mul_comm (zao y).lo, Int.mul_comm (zao y).lo, Int.mul_comm (zao y).hi, Int.mul_comm (zao y).hi]
  congr 2 <;> (try omega)
  ·congr 1; omega
theorem has_iff {x : Sp} (h : OkS x) (n : Int) : hasS x n = true ↔ x.all = true ∨ (x.lo ≤ n ∧ n ≤ x.hi) := by
 unfold hasS
 rw [za1 h]
 simp
theorem mul_lo {x : Sp} (h : OkS x) (ha : x.all = false) (h0 : ¬ (x.lo ≤ 0 ∧ 0 ≤ x.hi)) : 0 ≤ lo4 x x := by
 have b := h.lt ha
 have h1 : 0 ≤ x.lo * x.lo := by rcases Int.le_total 0 x.lo with h | h; exact Int.mul_nonneg h h; exact Int.mul_nonneg_of_nonpos_of_nonpos h h
 have h2 : 0 ≤ x.hi * x.hi := by rcases Int.le_total 0 x.hi with h | h; exact Int.mul_nonneg h h; exact Int.mul_nonneg_of_nonpos_of_nonpos h h
 have h3 : 0 ≤ x.lo * x.hi := by
  rcases Int.le_total 0 x.lo with h | h
  ·exact Int.mul_nonneg h (by omega)
  ·exact Int.mul_nonneg_of_nonpos_of_nonpos h (by omega)
 have h4 : 0 ≤ x.hi * x.lo := by rw [Int.mul_comm]; exact h3
 unfold lo4; omega
theorem mulP_all {x y : Sp} (hx : OkS x) (hy : OkS y) (ha : (mulP x y).all = false) : x.all = false ∧ y.all = false ∧ mulP x y = ⟨(lo4 x y).fdiv 1048576, -((-(hi4 x y)).fdiv 1048576), false⟩ := by
 unfold mulP at ha ⊢
 rw [za1 hx, za1 hy] at ha ⊢
 by_cases h : x.all = true ∨ y.all = true
 ·rw [if_pos h] at ha; cases ha
 ·rw [if_neg h] at ha ⊢
  refine ⟨notall fun e => h (.inl e), notall fun e => h (.inr e), ?_⟩
  unfold mulS' at ha ⊢
  by_cases h3 : -2147483647 ≤ (lo4 x y).fdiv 1048576 ∧ (lo4 x y).fdiv 1048576 ≤ -((-(hi4 x y)).fdiv 1048576) ∧ -((-(hi4 x y)).fdiv 1048576) ≤ 2147483647
  ·exact made_eq h3
  ·rw [made_no h3] at ha; cases ha
theorem sq_hi {x : Sp} (h : OkS x) (ha : x.all = false) : 0 ≤ -((-(hi4 x x)).fdiv 1048576) := by
 have h1 : 0 ≤ x.lo * x.lo := by rcases Int.le_total 0 x.lo with h | h; exact Int.mul_nonneg h h; exact Int.mul_nonneg_of_nonpos_of_nonpos h h
 have h2 : 0 ≤ hi4 x x := by unfold hi4; omega
 have := zho (c := 1048576) (by decide) (show -(hi4 x x) ≤ 0 by omega)
 simp at this
 omega
theorem zhe {x : Sp} (hx : OkS x) : OkS (sqrS x) := by
 unfold sqrS
 rw [za1 hx]
 by_cases h : x.all = false ∧ (mulP x x).all = false ∧ hasS x 0 = true
 ·rw [if_pos h]
  obtain ⟨h1, h2, h3⟩ := h
  have := (zea x x).lt h2
  have e : (mulP x x).hi = -((-(hi4 x x)).fdiv 1048576) := by rw [(mulP_all hx hx h2).2.2]
  have h4 := sq_hi hx h1
  rw [← e] at h4
  exact .inr ⟨h2, zdo⟩
 ·rw [if_neg h]; exact zea x x
theorem sqr_mono {x x' : Sp} (hx : OkS x) (hx' : OkS x') (h : SubS x x') : SubS (sqrS x) (sqrS x') := by
 have hm := mul_mono hx hx hx' hx' h h
 unfold sqrS
 rw [za1 hx, za1 hx']
 by_cases ha : (mulP x' x').all = true
 ·rw [if_neg (c := x'.all = false ∧ _) (by rw [ha]; simp), (zea x' x').w ha]; exact .inl rfl
 ·have ha := notall ha
  have m1 := hm.all (zea _ _) ha
  obtain ⟨e1, _, e2⟩ := mulP_all hx' hx' ha
  obtain ⟨e3, _, e4⟩ := mulP_all hx hx m1.1
  have a1 := h.all hx' e1
  by_cases h0 : hasS x' 0 = true
  ·rw [if_pos (c := x'.all = false ∧ _) ⟨e1, ha, h0⟩]
   by_cases h1 : hasS x 0 = true
   ·rw [if_pos ⟨e3, m1.1, h1⟩]
    exact .inr ⟨m1.1, Int.le_refl _, m1.2.2⟩
   ·rw [if_neg fun e => h1 e.2.2]
    refine .inr ⟨m1.1, ?_, m1.2.2⟩
    have h2 : ¬ (x.lo ≤ 0 ∧ 0 ≤ x.hi) := fun e => h1 ((has_iff hx 0).2 (.inr e))
    have h3 := mul_lo hx e3 h2
    have h4 := zho (c := 1048576) (by decide) h3
    rw [e4]
    simpa using h4
  ·rw [if_neg (c := x'.all = false ∧ _) fun e => h0 e.2.2]
   have h1 : ¬ hasS x 0 = true := fun e => by
    rcases (has_iff hx 0).1 e with e | e
    ·rw [e3] at e; cases e
    ·exact h0 ((has_iff hx' 0).2 (.inr (by omega)))
   rw [if_neg fun e => h1 e.2.2]
   exact hm
end Go.Gim
/- Sums for sine and cosine: they fall with the square; in plain Lean. -/
set_option maxRecDepth 100000
namespace Go.Gim
theorem zcc (s : Int) (n : Nat) : s ^ (n + 1) = s ^ n * s := Int.pow_succ s n
theorem pow_nn {s : Int} (h : 0 ≤ s) : ∀ n : Nat, 0 ≤ s ^ n
 | 0 => by simp
 | n + 1 => by rw [zcc]; exact Int.mul_nonneg (pow_nn h n) h
theorem pow_diff {s1 s2 : Int} (h1 : 0 ≤ s1) (h2 : s1 ≤ s2) : ∀ k : Nat, ((k : Int) + 1) * (s1 ^ k * (s2 - s1)) ≤ s2 ^ (k + 1) - s1 ^ (k + 1)
 | 0 => by rw [zcc, zcc]; simp
 | k + 1 => by
  have ih := pow_diff h1 h2 k
  have e1 : s2 ^ (k + 1 + 1) - s1 ^ (k + 1 + 1) = s2 * (s2 ^ (k + 1) - s1 ^ (k + 1)) + s1 ^ (k + 1) * (s2 - s1) := by rw [zcc s2, zcc s1 (k + 1)]; grind
  have hd : 0 ≤ s2 ^ (k + 1) - s1 ^ (k + 1) := by
   have : 0 ≤ ((k : Int) + 1) * (s1 ^ k * (s2 - s1)) := Int.mul_nonneg (by omega) (Int.mul_nonneg (pow_nn h1 k) (by omega))
   omega
  have h3 : s1 * (((k : Int) + 1) * (s1 ^ k * (s2 - s1))) ≤ s2 * (s2 ^ (k + 1) - s1 ^ (k + 1)) :=
   Int.le_trans (Int.mul_le_mul_of_nonneg_left ih h1) (Int.mul_le_mul_of_nonneg_right h2 hd)
  have e2 : s1 * (((k : Int) + 1) * (s1 ^ k * (s2 - s1))) = ((k : Int) + 1) * (s1 ^ (k + 1) * (s2 - s1)) := by rw [zcc]; grind
  rw [e2] at h3
  rw [e1]
  have e3 : (((k + 1 : Nat) : Int) + 1) * (s1 ^ (k + 1) * (s2 - s1)) = ((k : Int) + 1) * (s1 ^ (k + 1) * (s2 - s1)) + s1 ^ (k + 1) * (s2 - s1) := by push_cast; grind
  rw [e3]
  omega
theorem pow_two {s1 s2 L : Int} (h1 : 0 ≤ s1) (h2 : s1 ≤ s2) (h3 : s2 ≤ L) (k : Nat) : ((k : Int) + 1) * (s2 ^ (k + 2) - s1 ^ (k + 2)) ≤ ((k : Int) + 2) * (L * (s2 ^ (k + 1) - s1 ^ (k + 1))) := by
 have hd := pow_diff h1 h2 k
 have h0 : 0 ≤ s2 ^ (k + 1) - s1 ^ (k + 1) := by
  have : 0 ≤ ((k : Int) + 1) * (s1 ^ k * (s2 - s1)) := Int.mul_nonneg (by omega) (Int.mul_nonneg (pow_nn h1 k) (by omega))
  omega
 have e1 : s2 ^ (k + 2) - s1 ^ (k + 2) = s2 * (s2 ^ (k + 1) - s1 ^ (k + 1)) + s1 ^ (k + 1) * (s2 - s1) := by rw [zcc s2, zcc s1 (k + 1)]; grind
 have e2 : ((k : Int) + 1) * (s1 ^ (k + 1) * (s2 - s1)) = s1 * (((k : Int) + 1) * (s1 ^ k * (s2 - s1))) := by rw [zcc]; grind
 have h4 : s1 * (((k : Int) + 1) * (s1 ^ k * (s2 - s1))) ≤ L * (s2 ^ (k + 1) - s1 ^ (k + 1)) :=
  Int.le_trans (Int.mul_le_mul_of_nonneg_left hd h1) (Int.mul_le_mul_of_nonneg_right (by omega) h0)
 have h5 : ((k : Int) + 1) * (s2 * (s2 ^ (k + 1) - s1 ^ (k + 1))) ≤ ((k : Int) + 1) * (L * (s2 ^ (k + 1) - s1 ^ (k + 1))) := Int.mul_le_mul_of_nonneg_left (Int.mul_le_mul_of_nonneg_right h3 h0) (by omega)
 rw [e1, Int.mul_add, e2]
 have e3 : ((k : Int) + 2) * (L * (s2 ^ (k + 1) - s1 ^ (k + 1))) = ((k : Int) + 1) * (L * (s2 ^ (k + 1) - s1 ^ (k + 1))) + L * (s2 ^ (k + 1) - s1 ^ (k + 1)) := by grind
 rw [e3]
 omega
theorem neg_even (s : Int) : ∀ j : Nat, (-s) ^ (2 * j) = s ^ (2 * j)
 | 0 => by simp
 | j + 1 => by
  rw [show 2 * (j + 1) = 2 * j + 1 + 1 by omega, zcc, zcc, zcc s, zcc s, neg_even s j]
  grind
theorem neg_odd (s : Int) (j : Nat) : (-s) ^ (2 * j + 1) = -(s ^ (2 * j + 1)) := by rw [zcc, zcc, neg_even]; grind
def serS (b : Nat → Int) (T : Nat) (s : Int) : Int := sumZ (fun k => (-s) ^ k * b k) T
theorem ser_mono {b : Nat → Int} {L s1 s2 : Int} (h1 : 0 ≤ s1) (h2 : s1 ≤ s2) (h3 : s2 ≤ L) : ∀ j : Nat, (∀ k, k < 2 * j → 0 ≤ b (k + 1)) → (∀ k, k + 1 < 2 * j → ((k : Int) + 2) * (L * b (k + 2)) ≤ ((k : Int) + 1) * b (k + 1)) → serS b (2 * j + 1) s2 ≤ serS b (2 * j + 1) s1
 | 0, _, _ => by simp [serS, sumZ]
 | j + 1, hb, hr => by
  have ih := ser_mono (b := b) h1 h2 h3 j (fun k hk => hb k (by omega)) fun k hk => hr k (by omega)
  have hp := pow_two h1 h2 h3 (2 * j)
  have hr1 := hr (2 * j) (by omega)
  have hb1 := hb (2 * j) (by omega)
  have hb2 := hb (2 * j + 1) (by omega)
  have h0 : 0 ≤ s2 ^ (2 * j + 1) - s1 ^ (2 * j + 1) := by
   have h4 : 0 ≤ (((2 * j : Nat) : Int) + 1) * (s1 ^ (2 * j) * (s2 - s1)) := Int.mul_nonneg (by omega) (Int.mul_nonneg (pow_nn h1 _) (by omega))
   have := pow_diff h1 h2 (2 * j)
   omega
  have key : b (2 * j + 2) * (s2 ^ (2 * j + 2) - s1 ^ (2 * j + 2)) ≤ b (2 * j + 1) * (s2 ^ (2 * j + 1) - s1 ^ (2 * j + 1)) := by
   refine Int.le_of_mul_le_mul_left (a := ((2 * j : Nat) : Int) + 1) ?_ (by omega)
   have a1 := Int.mul_le_mul_of_nonneg_left hp hb2
   have a2 := Int.mul_le_mul_of_nonneg_right hr1 h0
   have e1 : b (2 * j + 1 + 1) * ((((2 * j : Nat) : Int) + 1) * (s2 ^ (2 * j + 2) - s1 ^ (2 * j + 2))) = (((2 * j : Nat) : Int) + 1) * (b (2 * j + 2) * (s2 ^ (2 * j + 2) - s1 ^ (2 * j + 2))) := by grind
   have e2 : b (2 * j + 1 + 1) * ((((2 * j : Nat) : Int) + 2) * (L * (s2 ^ (2 * j + 1) - s1 ^ (2 * j + 1)))) = (((2 * j : Nat) : Int) + 2) * (L * b (2 * j + 2)) * (s2 ^ (2 * j + 1) - s1 ^ (2 * j + 1)) := by grind
   have e3 : (((2 * j : Nat) : Int) + 1) * b (2 * j + 1) * (s2 ^ (2 * j + 1) - s1 ^ (2 * j + 1)) = (((2 * j : Nat) : Int) + 1) * (b (2 * j + 1) * (s2 ^ (2 * j + 1) - s1 ^ (2 * j + 1))) := by grind
   rw [e1, e2] at a1
   rw [e3] at a2
   omega
  unfold serS at ih ⊢
  rw [show 2 * (j + 1) + 1 = 2 * j + 1 + 1 + 1 by omega]
  simp only [sumZ]
  simp only [sumZ] at ih
  rw [neg_odd s2 j, neg_odd s1 j, show 2 * j + 1 + 1 = 2 * (j + 1) by omega, neg_even s2 (j + 1), neg_even s1 (j + 1)]
  rw [show 2 * (j + 1) = 2 * j + 2 by omega]
  have e4 : b (2 * j + 2) * (s2 ^ (2 * j + 2) - s1 ^ (2 * j + 2)) = s2 ^ (2 * j + 2) * b (2 * j + 2) - s1 ^ (2 * j + 2) * b (2 * j + 2) := by grind
  have e5 : b (2 * j + 1) * (s2 ^ (2 * j + 1) - s1 ^ (2 * j + 1)) = -(-(s2 ^ (2 * j + 1)) * b (2 * j + 1)) + -(s1 ^ (2 * j + 1)) * b (2 * j + 1) := by grind
  rw [e4, e5] at key
  omega
def factI : Nat → Int
 | 0 => 1
 | n + 1 => factI n * ((n : Int) + 1)
def serQ (c T k : Nat) : Int := (factI (2 * (T - 1) + c)).fdiv (factI (2 * k + c))
def serB (c T k : Nat) : Int := 1048576 ^ (T - 1 - k) * serQ c T k
def serN (c T : Nat) (s : Int) : Int := serS (serB c T) T s
def serD (c T : Nat) : Int := 1048576 ^ (T - 1) * factI (2 * (T - 1) + c)
def Fine3 (c T : Nat) : Prop := (∀ k, k < T → 0 ≤ serB c T k) ∧ ∀ k, k < T - 2 → ((k : Int) + 2) * (4194304 * serB c T (k + 2)) ≤ ((k : Int) + 1) * serB c T (k + 1)
instance (c T : Nat) : Decidable (Fine3 c T) := inferInstanceAs (Decidable (_ ∧ _))
theorem fine_1_12 : Fine3 1 12 := by decide +kernel
theorem fine_1_13 : Fine3 1 13 := by decide +kernel
theorem fine_2_12 : Fine3 2 12 := by decide +kernel
theorem fine_2_13 : Fine3 2 13 := by decide +kernel
theorem ser_13 {c : Nat} (h : Fine3 c 13) {s1 s2 : Int} (h1 : 0 ≤ s1) (h2 : s1 ≤ s2) (h3 : s2 ≤ 4194304) : serN c 13 s2 ≤ serN c 13 s1 :=
 ser_mono h1 h2 h3 6 (fun k hk => h.1 _ (by omega)) fun k hk => h.2 k (by omega)
theorem ser_12 {c : Nat} (h : Fine3 c 12) {s1 s2 : Int} (h1 : 0 ≤ s1) (h2 : s1 ≤ s2) (h3 : s2 ≤ 4194304) : serN c 12 s2 ≤ serN c 12 s1 := by
 have hm : serS (serB c 12) (2 * 5 + 1) s2 ≤ serS (serB c 12) (2 * 5 + 1) s1 := ser_mono h1 h2 h3 5 (fun k hk => h.1 _ (by omega)) fun k hk => h.2 k (by omega)
 have hb := h.1 11 (by omega)
 have hp : s1 ^ 11 ≤ s2 ^ 11 := by
  have h4 : 0 ≤ (((10 : Nat) : Int) + 1) * (s1 ^ 10 * (s2 - s1)) := Int.mul_nonneg (by omega) (Int.mul_nonneg (pow_nn h1 _) (by omega))
  have h5 := pow_diff h1 h2 10
  change _ ≤ s2 ^ 11 - s1 ^ 11 at h5
  omega
 have hq := Int.mul_le_mul_of_nonneg_right hp hb
 unfold serN serS at *
 simp only [sumZ] at hm ⊢
 have e1 : (-s2) ^ 11 = -(s2 ^ 11) := neg_odd s2 5
 have e2 : (-s1) ^ 11 = -(s1 ^ 11) := neg_odd s1 5
 rw [e1, e2, Int.neg_mul, Int.neg_mul]
 omega
theorem ser_more {c : Nat} (h : ∀ k, k < 12 → serB c 13 k * serD c 12 = serB c 12 k * serD c 13) (hb : 0 ≤ serB c 13 12) (hd : 0 < serD c 12) {s : Int} (hs : 0 ≤ s) : serN c 12 s * serD c 13 ≤ serN c 13 s * serD c 12 := by
 have e : serS (serB c 13) 12 s * serD c 12 = serS (serB c 12) 12 s * serD c 13 := by
  unfold serS
  have hm : ∀ n, n ≤ 12 → sumZ (fun k => (-s) ^ k * serB c 13 k) n * serD c 12 = sumZ (fun k => (-s) ^ k * serB c 12 k) n * serD c 13 := by
   intro n
   induction n with
   | zero => intro _; simp [sumZ]
   | succ n ih =>
    intro hn
    simp only [sumZ]
    rw [Int.add_mul, Int.add_mul, ih (by omega), Int.mul_assoc, h n (by omega), ← Int.mul_assoc]
  exact hm 12 (by omega)
 have e2 : serN c 13 s = serS (serB c 13) 12 s + s ^ 12 * serB c 13 12 := by
  unfold serN
  show sumZ _ 12 + (-s) ^ 12 * serB c 13 12 = _
  rw [show (-s) ^ 12 = s ^ 12 from neg_even s 6]
  rfl
 have h0 : 0 ≤ s ^ 12 * serB c 13 12 * serD c 12 := Int.mul_nonneg (Int.mul_nonneg (pow_nn hs 12) hb) (by omega)
 unfold serN at *
 rw [e2, Int.add_mul, e]
 omega
def More3 (c : Nat) : Prop := (∀ k, k < 12 → serB c 13 k * serD c 12 = serB c 12 k * serD c 13) ∧ 0 < serD c 12 ∧ 0 < serD c 13
instance (c : Nat) : Decidable (More3 c) := inferInstanceAs (Decidable (_ ∧ _))
theorem more_1 : More3 1 := by decide +kernel
theorem more_2 : More3 2 := by decide +kernel
def encLo (c : Nat) (s : Int) : Int := (serN c 12 s * 1048576).fdiv (serD c 12)
def encHi (c : Nat) (s : Int) : Int := -((-(serN c 13 s * 1048576)).fdiv (serD c 13))
def encS (c : Nat) (s : Sp) : Sp := if inS s (ofS 0 4194304) = true then ofS (encLo c s.hi) (encHi c s.lo) else zd8
structure Enc (c : Nat) : Prop where
 f12 : Fine3 c 12
 f13 : Fine3 c 13
 m : More3 c
 lo : -2147483647 ≤ encLo c 4194304 ∧ encLo c 0 ≤ 2147483647
 hi : -2147483647 ≤ encHi c 4194304 ∧ encHi c 0 ≤ 2147483647
theorem enc_1 : Enc 1 := ⟨fine_1_12, fine_1_13, more_1, by decide +kernel, by decide +kernel⟩
theorem enc_2 : Enc 2 := ⟨fine_2_12, fine_2_13, more_2, by decide +kernel, by decide +kernel⟩
theorem encLo_mono {c : Nat} (h : Enc c) {s1 s2 : Int} (h1 : 0 ≤ s1) (h2 : s1 ≤ s2) (h3 : s2 ≤ 4194304) : encLo c s2 ≤ encLo c s1 := zho h.m.2.1 (by have := ser_12 h.f12 h1 h2 h3; omega)
theorem encHi_mono {c : Nat} (h : Enc c) {s1 s2 : Int} (h1 : 0 ≤ s1) (h2 : s1 ≤ s2) (h3 : s2 ≤ 4194304) : encHi c s2 ≤ encHi c s1 := by
 have := zho h.m.2.2 (a := -(serN c 13 s1 * 1048576)) (b := -(serN c 13 s2 * 1048576)) (by have := ser_13 h.f13 h1 h2 h3; omega)
 unfold encHi; omega
theorem enc_cross {c : Nat} (h : Enc c) {s : Int} (hs : 0 ≤ s) : encLo c s ≤ encHi c s := by
 have h1 := ser_more h.m.1 (h.f13.1 12 (by omega)) h.m.2.1 hs
 have d1 := h.m.2.1
 have d2 := h.m.2.2
 unfold encLo encHi
 have a1 := Int.mul_fdiv_add_fmod (serN c 12 s * 1048576) (serD c 12)
 have a2 := Int.fmod_nonneg_of_pos (serN c 12 s * 1048576) d1
 have b1 := Int.mul_fdiv_add_fmod (-(serN c 13 s * 1048576)) (serD c 13)
 have b2 := Int.fmod_nonneg_of_pos (-(serN c 13 s * 1048576)) d2
 generalize (serN c 12 s * 1048576).fdiv (serD c 12) = p at *
 generalize (-(serN c 13 s * 1048576)).fdiv (serD c 13) = q at *
 generalize serN c 12 s = N at *
 generalize serN c 13 s = M at *
 generalize serD c 12 = D at *
 generalize serD c 13 = E at *
 have p1 : D * p ≤ N * 1048576 := by omega
 have q1 : E * q ≤ -(M * 1048576) := by omega
 -- D E p ≤ E N 2^20 ≤ D M 2^20 ≤ - D E q
 refine Int.le_of_mul_le_mul_left (a := D * E) ?_ (Int.mul_pos d1 d2)
 have r1 := Int.mul_le_mul_of_nonneg_left p1 (show 0 ≤ E by omega)
 have r2 := Int.mul_le_mul_of_nonneg_left q1 (show 0 ≤ D by omega)
 have e1 : E * (D * p) = D * E * p := by grind
 have e2 : D * (E * q) = D * E * q := by grind
 have e3 : E * (N * 1048576) = N * E * 1048576 := by grind
 have e4 : D * -(M * 1048576) = -(M * D * 1048576) := by grind
 have e5 : D * E * -q = -(D * E * q) := by grind
 rw [e1, e3] at r1
 rw [e2, e4] at r2
 rw [e5]
 omega
theorem enc_ok (c : Nat) (s : Sp) : OkS (encS c s) := by unfold encS; split; exact of_ok _ _; exact .inl rfl
theorem enc_in {s : Sp} (hs : OkS s) : inS s (ofS 0 4194304) = true ↔ s.all = false ∧ 0 ≤ s.lo ∧ s.hi ≤ 4194304 := by
 rw [in_iff hs (of_ok _ _)]
 have e : ofS 0 4194304 = ⟨0, 4194304, false⟩ := by decide
 unfold SubS
 rw [e]
 constructor
 ·rintro (h | h)
  ·cases h
  ·exact h
 ·exact .inr
theorem enc_eq {c : Nat} (h : Enc c) {s : Sp} (hs : OkS s) (ha : s.all = false) (h1 : 0 ≤ s.lo) (h2 : s.hi ≤ 4194304) : encS c s = ⟨encLo c s.hi, encHi c s.lo, false⟩ ∧ -2147483647 ≤ encLo c s.hi ∧ encLo c s.hi ≤ encHi c s.lo ∧ encHi c s.lo ≤ 2147483647 := by
 have hl := hs.lt ha
 have a1 := encLo_mono h (s1 := s.hi) (s2 := 4194304) (by omega) (by omega) (by omega)
 have a2 := encHi_mono h (s1 := 0) (s2 := s.lo) (by omega) (by omega) (by omega)
 have a3 := encLo_mono h (s1 := s.lo) (s2 := s.hi) (by omega) (by omega) (by omega)
 have a4 := enc_cross h h1
 have b1 := h.lo
 have b2 := h.hi
 unfold encS
 rw [if_pos ((enc_in hs).2 ⟨ha, h1, h2⟩)]
 unfold ofS
 rw [show min (encLo c s.hi) (encHi c s.lo) = encLo c s.hi by omega, show max (encLo c s.hi) (encHi c s.lo) = encHi c s.lo by omega, made_eq (by omega)]
 exact ⟨rfl, by omega⟩
theorem enc_mono {c : Nat} (h : Enc c) {s s' : Sp} (hs : OkS s) (hs' : OkS s') (hsub : SubS s s') : SubS (encS c s) (encS c s') := by
 by_cases hi : inS s' (ofS 0 4194304) = true
 ·obtain ⟨ha, h1, h2⟩ := (enc_in hs').1 hi
  have hb := hsub.all hs' ha
  have hl := hs.lt hb.1
  obtain ⟨e1, _⟩ := enc_eq h hs' ha h1 h2
  obtain ⟨e2, _⟩ := enc_eq h hs hb.1 (by omega) (by omega)
  rw [e1, e2]
  exact .inr ⟨rfl, encLo_mono h (by omega) (by omega) (by omega), encHi_mono h (by omega) (by omega) (by omega)⟩
 ·rw [encS, encS, if_neg hi]; exact .inl rfl
end Go.Gim
/- Turns of spans: of narrower ones comes what lies in that of wider ones; in plain Lean. -/
set_option maxRecDepth 100000
namespace Go.Gim
def dotV (v w : Nat → Sp) : Sp := addS (addS (mulP (v 0) (w 0)) (mulP (v 1) (w 1))) (mulP (v 2) (w 2))
def normV (v : Nat → Sp) : Sp := addS (addS (sqrS (v 0)) (sqrS (v 1))) (sqrS (v 2))
def idR (i j : Nat) : Sp := if i = j then ofS 1048576 1048576 else ofS 0 0
def zew (w : Nat → Sp) (i j : Nat) : Sp := if i = j then ofS 0 0 else if (i + 1) % 3 = j then negS (w (3 - i - j)) else w (3 - i - j)
def zfg (w : Nat → Sp) (i j : Nat) : Sp := if i ≠ j then mulP (w (min i j)) (w (max i j)) else negS (addS (sqrS (w (min ((i + 1) % 3) ((i + 2) % 3)))) (sqrS (w (max ((i + 1) % 3) ((i + 2) % 3)))))
def expR (w : Nat → Sp) (i j : Nat) : Sp := addS (addS (idR i j) (mulP (encS 1 (normV w)) (zew w i j))) (mulP (encS 2 (normV w)) (zfg w i j))
def applyR (r : Nat → Nat → Sp) (v : Nat → Sp) (i : Nat) : Sp := dotV (r i) v
def OkV (v : Nat → Sp) : Prop := ∀ i, OkS (v i)
def SubV (v w : Nat → Sp) : Prop := ∀ i, SubS (v i) (w i)
theorem dot_ok (v w : Nat → Sp) : OkS (dotV v w) := add_ok _ _
theorem dot_mono {v w v' w' : Nat → Sp} (h1 : OkV v) (h2 : OkV w) (h3 : OkV v') (h4 : OkV w') (a : SubV v v') (b : SubV w w') : SubS (dotV v w) (dotV v' w') :=
 add_mono (add_ok _ _) (zea _ _) (add_ok _ _) (zea _ _) (add_mono (zea _ _) (zea _ _) (zea _ _) (zea _ _) (mul_mono (h1 0) (h2 0) (h3 0) (h4 0) (a 0) (b 0)) (mul_mono (h1 1) (h2 1) (h3 1) (h4 1) (a 1) (b 1))) (mul_mono (h1 2) (h2 2) (h3 2) (h4 2) (a 2) (b 2))
theorem zg3 (v : Nat → Sp) : OkS (normV v) := add_ok _ _
theorem norm_mono {v v' : Nat → Sp} (h1 : OkV v) (h3 : OkV v') (a : SubV v v') : SubS (normV v) (normV v') :=
 add_mono (add_ok _ _) (zhe (h1 2)) (add_ok _ _) (zhe (h3 2)) (add_mono (zhe (h1 0)) (zhe (h1 1)) (zhe (h3 0)) (zhe (h3 1)) (sqr_mono (h1 0) (h3 0) (a 0)) (sqr_mono (h1 1) (h3 1) (a 1))) (sqr_mono (h1 2) (h3 2) (a 2))
theorem neg_ok (x : Sp) : OkS (negS x) := sub_ok' _ _
theorem cross_ok {w : Nat → Sp} (h : OkV w) (i j : Nat) : OkS (zew w i j) := by
 unfold zew
 split
 ·exact of_ok _ _
 ·split
  ·exact neg_ok _
  ·exact h _
theorem cross_mono {w w' : Nat → Sp} (h : OkV w) (h' : OkV w') (a : SubV w w') (i j : Nat) : SubS (zew w i j) (zew w' i j) := by
 unfold zew
 split
 ·exact SubS.refl (of_ok _ _)
 ·split
  ·exact neg_mono (h _) (h' _) (a _)
  ·exact a _
theorem twice_ok {w : Nat → Sp} (h : OkV w) (i j : Nat) : OkS (zfg w i j) := by
 unfold zfg
 split
 ·exact zea _ _
 ·exact neg_ok _
theorem twice_mono {w w' : Nat → Sp} (h : OkV w) (h' : OkV w') (a : SubV w w') (i j : Nat) : SubS (zfg w i j) (zfg w' i j) := by
 unfold zfg
 split
 ·exact mul_mono (h _) (h _) (h' _) (h' _) (a _) (a _)
 ·exact neg_mono (add_ok _ _) (add_ok _ _) (add_mono (zhe (h _)) (zhe (h _)) (zhe (h' _)) (zhe (h' _)) (sqr_mono (h _) (h' _) (a _)) (sqr_mono (h _) (h' _) (a _)))
theorem id_ok (i j : Nat) : OkS (idR i j) := by unfold idR; split <;> exact of_ok _ _
theorem exp_ok (w : Nat → Sp) (i j : Nat) : OkS (expR w i j) := add_ok _ _
theorem exp_mono {w w' : Nat → Sp} (h : OkV w) (h' : OkV w') (a : SubV w w') (i j : Nat) : SubS (expR w i j) (expR w' i j) :=
 have n := norm_mono h h' a
 add_mono (add_ok _ _) (zea _ _) (add_ok _ _) (zea _ _)
  (add_mono (id_ok _ _) (zea _ _) (id_ok _ _) (zea _ _) (SubS.refl (id_ok _ _)) (mul_mono (enc_ok _ _) (cross_ok h _ _) (enc_ok _ _) (cross_ok h' _ _) (enc_mono enc_1 (zg3 _) (zg3 _) n) (cross_mono h h' a _ _)))
  (mul_mono (enc_ok _ _) (twice_ok h _ _) (enc_ok _ _) (twice_ok h' _ _) (enc_mono enc_2 (zg3 _) (zg3 _) n) (twice_mono h h' a _ _))
theorem apply_mono {r r' : Nat → Nat → Sp} {v v' : Nat → Sp} (h1 : ∀ i, OkV (r i)) (h2 : OkV v) (h3 : ∀ i, OkV (r' i)) (h4 : OkV v') (a : ∀ i, SubV (r i) (r' i)) (b : SubV v v') (i : Nat) : SubS (applyR r v i) (applyR r' v' i) := dot_mono (h1 i) h2 (h3 i) h4 (a i) b
def vec3 (x y z : Sp) (i : Nat) : Sp := if i = 0 then x else if i = 1 then y else z
theorem vec3_ok {x y z : Sp} (hx : OkS x) (hy : OkS y) (hz : OkS z) : OkV (vec3 x y z) := fun i => by unfold vec3; split; exact hx; split; exact hy; exact hz
theorem vec3_sub {x y z x' y' z' : Sp} (hx : SubS x x') (hy : SubS y y') (hz : SubS z z') : SubV (vec3 x y z) (vec3 x' y' z') := fun i => by unfold vec3; split; exact hx; split; exact hy; exact hz
theorem of_eq {a b : Int} (h1 : a ≤ b) (h2 : -2147483647 ≤ a) (h3 : b ≤ 2147483647) : ofS a b = ⟨a, b, false⟩ := by
 unfold ofS
 rw [show min a b = a by omega, show max a b = b by omega, made_eq ⟨h2, h1, h3⟩]
theorem z_eq : ofS 0 0 = ⟨0, 0, false⟩ := by decide
theorem add_z {x : Sp} (h : OkS x) : addS x (ofS 0 0) = x := by
 unfold addS
 rw [za1 h, za1 (of_ok 0 0)]
 rcases h with rfl | ⟨h1, h2⟩
 ·rw [if_pos (.inl rfl)]
 ·rw [if_neg (by rw [h1]; decide), z_eq, Int.add_zero, Int.add_zero, made_eq h2]
  obtain ⟨a, b, c⟩ := x
  dsimp only at h1
  rw [h1]
theorem z_add {x : Sp} (h : OkS x) : addS (ofS 0 0) x = x := by
 unfold addS
 rw [za1 h, za1 (of_ok 0 0)]
 rcases h with rfl | ⟨h1, h2⟩
 ·rw [if_pos (.inr rfl)]
 ·rw [if_neg (by rw [h1]; decide), z_eq, Int.zero_add, Int.zero_add, made_eq h2]
  obtain ⟨a, b, c⟩ := x
  dsimp only at h1
  rw [h1]
theorem mul_z {x : Sp} (h : OkS x) (ha : x.all = false) : mulP x (ofS 0 0) = ofS 0 0 := by
 unfold mulP
 rw [za1 h, za1 (of_ok 0 0), if_neg (by rw [ha]; decide), z_eq]
 unfold mulS' lo4 hi4
 simp only [Int.mul_zero]
 decide
theorem not_all {x y : Sp} (h : SubS x y) (hy : OkS y) (ha : y.all = false) : x.all = false := (h.all hy ha).1
def wideA : Nat → Sp := vec3 (ofS 0 0) (ofS 0 0) (ofS (-1048576) 1048576)
theorem wide_ok : OkV wideA := vec3_ok (of_ok _ _) (of_ok _ _) (of_ok _ _)
theorem wide_all : (expR wideA 1 1).all = false ∧ (expR wideA 1 2).all = false ∧ (encS 2 (normV wideA)).all = false := by decide +kernel
theorem v3_0 (x y z : Sp) : vec3 x y z 0 = x := rfl
theorem v3_1 (x y z : Sp) : vec3 x y z 1 = y := rfl
theorem v3_2 (x y z : Sp) : vec3 x y z 2 = z := rfl
theorem cross_10 (w : Nat → Sp) : zew w 1 0 = w 2 := rfl
theorem twice_10 (w : Nat → Sp) : zfg w 1 0 = mulP (w 0) (w 1) := rfl
theorem id_10 : idR 1 0 = ofS 0 0 := rfl
theorem zz_sq : addS (sqrS (ofS 0 0)) (sqrS (ofS 0 0)) = ofS 0 0 := by decide +kernel
theorem zz_mul : mulP (ofS 0 0) (ofS 0 0) = ofS 0 0 := by decide +kernel
theorem turn_sine {a p : Int} (ha : -1048576 ≤ a ∧ a ≤ 1048576) (hp : OkS (ofS p p)) : applyR (expR (vec3 (ofS 0 0) (ofS 0 0) (ofS a a))) (vec3 (ofS p p) (ofS 0 0) (ofS 0 0)) 1 = mulP (mulP (ofS a a) (encS 1 (sqrS (ofS a a)))) (ofS p p) := by
 have hv := vec3_ok (of_ok 0 0) (of_ok 0 0) (of_ok a a)
 have hs : SubV (vec3 (ofS 0 0) (ofS 0 0) (ofS a a)) wideA := vec3_sub (SubS.refl (of_ok _ _)) (SubS.refl (of_ok _ _)) (by
  rw [of_eq (Int.le_refl a) (by omega) (by omega), of_eq (by omega) (by omega) (by omega)]
  exact .inr ⟨rfl, ha⟩)
 have n1 := not_all (exp_mono hv wide_ok hs 1 1) (exp_ok _ _ _) wide_all.1
 have n2 := not_all (exp_mono hv wide_ok hs 1 2) (exp_ok _ _ _) wide_all.2.1
 have n3 := not_all (enc_mono enc_2 (zg3 _) (zg3 _) (norm_mono hv wide_ok hs)) (enc_ok _ _) wide_all.2.2
 have hn : normV (vec3 (ofS 0 0) (ofS 0 0) (ofS a a)) = sqrS (ofS a a) := by
  unfold normV
  rw [v3_0, v3_1, v3_2, zz_sq, z_add (zhe (of_ok _ _))]
 have h10 : expR (vec3 (ofS 0 0) (ofS 0 0) (ofS a a)) 1 0 = mulP (encS 1 (sqrS (ofS a a))) (ofS a a) := by
  unfold expR
  rw [id_10, cross_10, twice_10, v3_0, v3_1, v3_2, z_add (zea _ _), zz_mul, mul_z (enc_ok _ _) n3, add_z (zea _ _), hn]
 unfold applyR dotV
 rw [v3_0, v3_1, v3_2, mul_z (exp_ok _ _ _) n1, mul_z (exp_ok _ _ _) n2, add_z (zea _ _), add_z (zea _ _), h10, mul_comm' (encS 1 _)]
def meetB (x y : Sp) : Bool := decide (zao x = zd8) || (decide (zao y = zd8) || decide (max (zao x).lo (zao y).lo ≤ min (zao x).hi (zao y).hi))
theorem meet_self {x : Sp} (h : OkS x) : meetB x x = true := by
 unfold meetB
 rw [za1 h]
 rcases h with rfl | ⟨h1, h2⟩
 ·simp
 ·simp only [Bool.or_eq_true, decide_eq_true_eq]
  right; right; omega
def oneA (a : Int) : Nat → Sp := vec3 (ofS 0 0) (ofS 0 0) (ofS a a)
def twoA (a w : Int) : Nat → Sp := vec3 (ofS 0 0) (ofS 0 0) (ofS (a - w) (a + w))
def oneP (p : Int) : Nat → Sp := vec3 (ofS p p) (ofS 0 0) (ofS 0 0)
def twoP (p m : Int) : Nat → Sp := vec3 (ofS (p - m) (p + m)) (ofS 0 0) (ofS 0 0)
theorem wider {a w : Int} (ha : -1048576 ≤ a ∧ a ≤ 1048576) (hw : 0 ≤ w ∧ w ≤ 1000) : SubS (ofS a a) (ofS (a - w) (a + w)) := by
 rw [of_eq (Int.le_refl a) (by omega) (by omega), of_eq (by omega) (by omega) (by omega)]
 exact .inr ⟨rfl, zdo⟩
theorem spans_in {a w p m : Int} (ha : -1048576 ≤ a ∧ a ≤ 1048576) (hw : 0 ≤ w ∧ w ≤ 1000) (hp : -1048576 ≤ p ∧ p ≤ 1048576) (hm : 0 ≤ m ∧ m ≤ 1000) (i : Nat) : inS (applyR (expR (oneA a)) (oneP p) i) (applyR (expR (twoA a w)) (twoP p m) i) = true := by
 have z := of_ok 0 0
 have hA : OkV (oneA a) := vec3_ok z z (of_ok _ _)
 have hB : OkV (twoA a w) := vec3_ok z z (of_ok _ _)
 have hP : OkV (oneP p) := vec3_ok (of_ok _ _) z z
 have hQ : OkV (twoP p m) := vec3_ok (of_ok _ _) z z
 have sA : SubV (oneA a) (twoA a w) := vec3_sub (SubS.refl z) (SubS.refl z) (wider ha hw)
 have sP : SubV (oneP p) (twoP p m) := vec3_sub (wider hp hm) (SubS.refl z) (SubS.refl z)
 refine (in_iff (dot_ok _ _) (dot_ok _ _)).2 (apply_mono (fun i j => exp_ok _ _ _) hP (fun i j => exp_ok _ _ _) hQ (fun i j => exp_mono hA hB sA i j) sP i)
theorem spans_meet {a p : Int} (ha : -1048576 ≤ a ∧ a ≤ 1048576) : meetB (applyR (expR (oneA a)) (oneP p) 1) (mulP (mulP (ofS a a) (encS 1 (sqrS (ofS a a)))) (ofS p p)) = true := by
 unfold oneA oneP
 rw [turn_sine ha (of_ok _ _)]
 exact meet_self (zea _ _)
end Go.Gim

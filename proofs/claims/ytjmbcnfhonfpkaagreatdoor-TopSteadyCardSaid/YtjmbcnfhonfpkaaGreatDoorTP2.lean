import Derived.Test.YtjmbcnfhonfpkaaGreatDoorL1
import Derived.Test.YtjmbcnfhonfpkaaGreatDoorB2
set_option linter.unusedSimpArgs false
set_option linter.unusedVariables false
/- Spans, and what of narrower ones comes lies in what comes of wider ones; in plain Lean. -/
set_option maxRecDepth 100000
namespace Go.Gim
structure Sp where
 lo : Int
 hi : Int
 all : Bool
deriving DecidableEq
def fixB (n : Int) : Bool := decide (-2147483647 ≤ n) && decide (n ≤ 2147483647)
def ze0 : Sp := ⟨0, 0, true⟩
def zax (x : Sp) : Sp := if x.all = true ∨ fixB x.lo = false ∨ fixB x.hi = false ∨ x.hi < x.lo then ze0 else x
def madeS (lo hi : Int) : Sp := zax ⟨lo, hi, false⟩
def ofS (a b : Int) : Sp := madeS (min a b) (max a b)
def hasS (x : Sp) (n : Int) : Bool := (zax x).all || (decide ((zax x).lo ≤ n) && decide (n ≤ (zax x).hi))
def inS (x y : Sp) : Bool := decide (zax y = ze0) || (!decide (zax x = ze0) && (decide ((zax y).lo ≤ (zax x).lo) && decide ((zax x).hi ≤ (zax y).hi)))
def addS (x y : Sp) : Sp := if (zax x).all = true ∨ (zax y).all = true then ze0 else madeS ((zax x).lo + (zax y).lo) ((zax x).hi + (zax y).hi)
def subS (x y : Sp) : Sp := if (zax x).all = true ∨ (zax y).all = true then ze0 else madeS ((zax x).lo - (zax y).hi) ((zax x).hi - (zax y).lo)
def negS (x : Sp) : Sp := subS (ofS 0 0) x
def lo4 (x y : Sp) : Int := min (min (min (x.lo * y.lo) (x.lo * y.hi)) (x.hi * y.lo)) (x.hi * y.hi)
def hi4 (x y : Sp) : Int := max (max (max (x.lo * y.lo) (x.lo * y.hi)) (x.hi * y.lo)) (x.hi * y.hi)
def mulS' (x y : Sp) : Sp := madeS ((lo4 x y).fdiv 1048576) (-((-(hi4 x y)).fdiv 1048576))
def mulP (x y : Sp) : Sp := if (zax x).all = true ∨ (zax y).all = true then ze0 else mulS' (zax x) (zax y)
def sqrS (x : Sp) : Sp := if (zax x).all = false ∧ (mulP x x).all = false ∧ hasS x 0 = true then { mulP x x with lo := 0 } else mulP x x
def OkS (x : Sp) : Prop := x = ze0 ∨ (x.all = false ∧ (-2147483647 ≤ x.lo ∧ x.lo ≤ x.hi ∧ x.hi ≤ 2147483647))
def SubS (x y : Sp) : Prop := y = ze0 ∨ (x.all = false ∧ y.lo ≤ x.lo ∧ x.hi ≤ y.hi)
theorem fixB_iff {n : Int} : fixB n = true ↔ -2147483647 ≤ n ∧ n ≤ 2147483647 := by simp [fixB]
theorem fixB_no {n : Int} : fixB n = false ↔ n < -2147483647 ∨ 2147483647 < n := by
 cases h : fixB n
 ·simp only [true_iff]
  have : ¬ (-2147483647 ≤ n ∧ n ≤ 2147483647) := fun h2 => by rw [fixB_iff.2 h2] at h; cases h
  omega
 ·have := fixB_iff.1 h
  simp; omega
theorem zch {x : Sp} (h : OkS x) : zax x = x := by
 unfold zax
 rcases h with rfl | ⟨h1, h2⟩
 ·rw [if_pos (.inl rfl)]
 ·rw [if_neg]
  rintro (h | h | h | h)
  ·rw [h1] at h; cases h
  ·rw [fixB_no] at h; omega
  ·rw [fixB_no] at h; omega
  ·omega
theorem right_is (x : Sp) : OkS (zax x) := by
 unfold zax
 split
 ·exact .inl rfl
 ·rename_i h
  refine .inr ⟨?_, ?_⟩
  ·cases hx : x.all
   ·rfl
   ·exact absurd (.inl hx) h
  ·have h1 : fixB x.lo = true := by cases hf : fixB x.lo; exact absurd (.inr (.inl hf)) h; rfl
   have h2 : fixB x.hi = true := by cases hf : fixB x.hi; exact absurd (.inr (.inr (.inl hf))) h; rfl
   rw [fixB_iff] at h1 h2
   have h3 : ¬ x.hi < x.lo := fun hf => h (.inr (.inr (.inr hf)))
   omega
theorem OkS.lt {x : Sp} (h : OkS x) (ha : x.all = false) : -2147483647 ≤ x.lo ∧ x.lo ≤ x.hi ∧ x.hi ≤ 2147483647 := by
 rcases h with rfl | h
 ·cases ha
 ·exact h.2
theorem OkS.w {x : Sp} (h : OkS x) (ha : x.all = true) : x = ze0 := by
 rcases h with h | h
 ·exact h
 ·rw [h.1] at ha; cases ha
theorem made_ok (a b : Int) : OkS (madeS a b) := right_is _
theorem made_eq {a b : Int} (h : -2147483647 ≤ a ∧ a ≤ b ∧ b ≤ 2147483647) : madeS a b = ⟨a, b, false⟩ := zch (.inr ⟨rfl, h⟩)
theorem made_no {a b : Int} (h : ¬ (-2147483647 ≤ a ∧ a ≤ b ∧ b ≤ 2147483647)) : madeS a b = ze0 := by
 unfold madeS zax
 rw [if_pos]
 simp only [fixB_no]
 omega
theorem SubS.all {x y : Sp} (h : SubS x y) (hy : OkS y) (ha : y.all = false) : x.all = false ∧ y.lo ≤ x.lo ∧ x.hi ≤ y.hi := by
 rcases h with rfl | h
 ·cases ha
 ·exact h
theorem in_iff {x y : Sp} (hx : OkS x) (hy : OkS y) : inS x y = true ↔ SubS x y := by
 unfold inS SubS
 rw [zch hx, zch hy]
 simp only [Bool.or_eq_true, Bool.and_eq_true, decide_eq_true_eq, Bool.not_eq_true', decide_eq_false_iff_not]
 constructor
 ·rintro (h | ⟨h1, h2, h3⟩)
  ·exact .inl h
  ·refine .inr ⟨?_, h2, h3⟩
   cases ha : x.all
   ·rfl
   ·exact absurd (hx.w ha) h1
 ·rintro (h | ⟨h1, h2, h3⟩)
  ·exact .inl h
  ·refine .inr ⟨fun h => ?_, h2, h3⟩
   rw [h] at h1; cases h1
theorem add_ok (x y : Sp) : OkS (addS x y) := by unfold addS; split; exact .inl rfl; exact made_ok _ _
theorem mul_ok (x y : Sp) : OkS (mulP x y) := by unfold mulP; split; exact .inl rfl; exact made_ok _ _
theorem of_ok (a b : Int) : OkS (ofS a b) := made_ok _ _
theorem SubS.refl {x : Sp} (h : OkS x) : SubS x x := by
 rcases h with rfl | h
 ·exact .inl rfl
 ·exact .inr ⟨h.1, Int.le_refl _, Int.le_refl _⟩
theorem prod_mid {a b u v : Int} (h : a ≤ u ∧ u ≤ b) : min (a * v) (b * v) ≤ u * v ∧ u * v ≤ max (a * v) (b * v) := by
 rcases Int.le_total 0 v with hv | hv
 ·have h1 := Int.mul_le_mul_of_nonneg_right h.1 hv
  have h2 := Int.mul_le_mul_of_nonneg_right h.2 hv
  omega
 ·have h1 := Int.mul_le_mul_of_nonpos_right h.1 hv
  have h2 := Int.mul_le_mul_of_nonpos_right h.2 hv
  omega
theorem box_mid {x y : Sp} {u v : Int} (hu : x.lo ≤ u ∧ u ≤ x.hi) (hv : y.lo ≤ v ∧ v ≤ y.hi) : lo4 x y ≤ u * v ∧ u * v ≤ hi4 x y := by
 have h1 := prod_mid (v := v) hu
 have h2 := prod_mid (v := x.lo) hv
 have h3 := prod_mid (v := x.hi) hv
 rw [Int.mul_comm y.lo, Int.mul_comm y.hi, Int.mul_comm v] at h2 h3
 unfold lo4 hi4
 omega
theorem fdiv_mono {a b c : Int} (hc : 0 < c) (h : a ≤ b) : a.fdiv c ≤ b.fdiv c := by
 rw [Int.fdiv_eq_ediv_of_nonneg _ (by omega), Int.fdiv_eq_ediv_of_nonneg _ (by omega)]
 exact Int.ediv_le_ediv hc h
theorem mul_comm' (x y : Sp) : mulP x y = mulP y x := by
 unfold mulP mulS' lo4 hi4
 by_cases h : (zax x).all = true ∨ (zax y).all = true
 ·rw [if_pos h, if_pos h.symm]
 ·rw [if_neg h, if_neg fun e => h e.symm]
  rw [Int.mul_comm (zax y).lo, Int.mul_comm (zax y).lo, Int.mul_comm (zax y).hi, Int.mul_comm (zax y).hi]
  congr 2 <;> (try omega)
  ·congr 1; omega
theorem has_iff {x : Sp} (h : OkS x) (n : Int) : hasS x n = true ↔ x.all = true ∨ (x.lo ≤ n ∧ n ≤ x.hi) := by
 unfold hasS
 rw [zch h]
 simp
end Go.Gim
/- Sums for sine and cosine: they fall with the square; in plain Lean. -/
set_option maxRecDepth 100000
namespace Go.Gim
theorem zcv (s : Int) (n : Nat) : s ^ (n + 1) = s ^ n * s := Int.pow_succ s n
theorem pow_nn {s : Int} (h : 0 ≤ s) : ∀ n : Nat, 0 ≤ s ^ n
 | 0 => by simp
 | n + 1 => by rw [zcv]; exact Int.mul_nonneg (pow_nn h n) h
theorem pow_diff {s1 s2 : Int} (h1 : 0 ≤ s1) (h2 : s1 ≤ s2) : ∀ k : Nat, ((k : Int) + 1) * (s1 ^ k * (s2 - s1)) ≤ s2 ^ (k + 1) - s1 ^ (k + 1)
 | 0 => by rw [zcv, zcv]; simp
 | k + 1 => by
  have ih := pow_diff h1 h2 k
  have e1 : s2 ^ (k + 1 + 1) - s1 ^ (k + 1 + 1) = s2 * (s2 ^ (k + 1) - s1 ^ (k + 1)) + s1 ^ (k + 1) * (s2 - s1) := by rw [zcv s2, zcv s1 (k + 1)]; grind
  have hd : 0 ≤ s2 ^ (k + 1) - s1 ^ (k + 1) := by
   have : 0 ≤ ((k : Int) + 1) * (s1 ^ k * (s2 - s1)) := Int.mul_nonneg (by omega) (Int.mul_nonneg (pow_nn h1 k) (by omega))
   omega
  have h3 : s1 * (((k : Int) + 1) * (s1 ^ k * (s2 - s1))) ≤ s2 * (s2 ^ (k + 1) - s1 ^ (k + 1)) :=
   Int.le_trans (Int.mul_le_mul_of_nonneg_left ih h1) (Int.mul_le_mul_of_nonneg_right h2 hd)
  have e2 : s1 * (((k : Int) + 1) * (s1 ^ k * (s2 - s1))) = ((k : Int) + 1) * (s1 ^ (k + 1) * (s2 - s1)) := by rw [zcv]; grind
  rw [e2] at h3
  rw [e1]
  have e3 : (((k + 1 : Nat) : Int) + 1) * (s1 ^ (k + 1) * (s2 - s1)) = ((k : Int) + 1) * (s1 ^ (k + 1) * (s2 - s1)) + s1 ^ (k + 1) * (s2 - s1) := by push_cast; grind
  rw [e3]
  omega
theorem pow_two {s1 s2 L : Int} (h1 : 0 ≤ s1) (h2 : s1 ≤ s2) (h3 : s2 ≤ L) (k : Nat) : ((k : Int) + 1) * (s2 ^ (k + 2) - s1 ^ (k + 2)) ≤ ((k : Int) + 2) * (L * (s2 ^ (k + 1) - s1 ^ (k + 1))) := by
 have hd := pow_diff h1 h2 k
 have h0 : 0 ≤ s2 ^ (k + 1) - s1 ^ (k + 1) := by
  have : 0 ≤ ((k : Int) + 1) * (s1 ^ k * (s2 - s1)) := Int.mul_nonneg (by omega) (Int.mul_nonneg (pow_nn h1 k) (by omega))
  omega
 have e1 : s2 ^ (k + 2) - s1 ^ (k + 2) = s2 * (s2 ^ (k + 1) - s1 ^ (k + 1)) + s1 ^ (k + 1) * (s2 - s1) := by rw [zcv s2, zcv s1 (k + 1)]; grind
 have e2 : ((k : Int) + 1) * (s1 ^ (k + 1) * (s2 - s1)) = s1 * (((k : Int) + 1) * (s1 ^ k * (s2 - s1))) := by rw [zcv]; grind
 have h4 : s1 * (((k : Int) + 1) * (s1 ^ k * (s2 - s1))) ≤ L * (s2 ^ (k + 1) - s1 ^ (k + 1)) :=
  Int.le_trans (Int.mul_le_mul_of_nonneg_left hd h1) (Int.mul_le_mul_of_nonneg_right (by omega) h0)
 have h5 : ((k : Int) + 1) * (s2 * (s2 ^ (k + 1) - s1 ^ (k + 1))) ≤ ((k : Int) + 1) * (L * (s2 ^ (k + 1) - s1 ^ (k + 1))) := Int.mul_le_mul_of_nonneg_left (Int.mul_le_mul_of_nonneg_right h3 h0) (by omega)
 rw [e1, Int.mul_add, e2]
 have e3 : ((k : Int) + 2) * (L * (s2 ^ (k + 1) - s1 ^ (k + 1))) = ((k : Int) + 1) * (L * (s2 ^ (k + 1) - s1 ^ (k + 1))) + L * (s2 ^ (k + 1) - s1 ^ (k + 1)) := by grind
 rw [e3]
 omega
theorem neg_even (s : Int) : ∀ j : Nat, (-s) ^ (2 * j) = s ^ (2 * j)
 | 0 => by simp
 | j + 1 => by
  rw [show 2 * (j + 1) = 2 * j + 1 + 1 by omega, zcv, zcv, zcv s, zcv s, neg_even s j]
  grind
theorem neg_odd (s : Int) (j : Nat) : (-s) ^ (2 * j + 1) = -(s ^ (2 * j + 1)) := by rw [zcv, zcv, neg_even]; grind
def serS (b : Nat → Int) (T : Nat) (s : Int) : Int := sumZ (fun k => (-s) ^ k * b k) T
theorem ser_mono {b : Nat → Int} {L s1 s2 : Int} (h1 : 0 ≤ s1) (h2 : s1 ≤ s2) (h3 : s2 ≤ L) : ∀ j : Nat, (∀ k, k < 2 * j → 0 ≤ b (k + 1)) → (∀ k, k + 1 < 2 * j → ((k : Int) + 2) * (L * b (k + 2)) ≤ ((k : Int) + 1) * b (k + 1)) → serS b (2 * j + 1) s2 ≤ serS b (2 * j + 1) s1
 | 0, _, _ => by simp [serS, sumZ]
 | j + 1, hb, hr => by
  have ih := ser_mono (b := b) h1 h2 h3 j (fun k hk => hb k (by omega)) fun k hk => hr k (by omega)
  have hp := pow_two h1 h2 h3 (2 * j)
  have hr1 := hr (2 * j) (by omega)
  have hb1 := hb (2 * j) (by omega)
  have hb2 := hb (2 * j + 1) (by omega)
  have h0 : 0 ≤ s2 ^ (2 * j + 1) - s1 ^ (2 * j + 1) := by
   have h4 : 0 ≤ (((2 * j : Nat) : Int) + 1) * (s1 ^ (2 * j) * (s2 - s1)) := Int.mul_nonneg (by omega) (Int.mul_nonneg (pow_nn h1 _) (by omega))
   have := pow_diff h1 h2 (2 * j)
   omega
  have key : b (2 * j + 2) * (s2 ^ (2 * j + 2) - s1 ^ (2 * j + 2)) ≤ b (2 * j + 1) * (s2 ^ (2 * j + 1) - s1 ^ (2 * j + 1)) := by
   refine Int.le_of_mul_le_mul_left (a := ((2 * j : Nat) : Int) + 1) ?_ (by omega)
   have a1 := Int.mul_le_mul_of_nonneg_left hp hb2
   have a2 := Int.mul_le_mul_of_nonneg_right hr1 h0
   have e1 : b (2 * j + 1 + 1) * ((((2 * j : Nat) : Int) + 1) * (s2 ^ (2 * j + 2) - s1 ^ (2 * j + 2))) = (((2 * j : Nat) : Int) + 1) * (b (2 * j + 2) * (s2 ^ (2 * j + 2) - s1 ^ (2 * j + 2))) := by grind
   have e2 : b (2 * j + 1 + 1) * ((((2 * j : Nat) : Int) + 2) * (L * (s2 ^ (2 * j + 1) - s1 ^ (2 * j + 1)))) = (((2 * j : Nat) : Int) + 2) * (L * b (2 * j + 2)) * (s2 ^ (2 * j + 1) - s1 ^ (2 * j + 1)) := by grind
   have e3 : (((2 * j : Nat) : Int) + 1) * b (2 * j + 1) * (s2 ^ (2 * j + 1) - s1 ^ (2 * j + 1)) = (((2 * j : Nat) : Int) + 1) * (b (2 * j + 1) * (s2 ^ (2 * j + 1) - s1 ^ (2 * j + 1))) := by grind
   rw [e1, e2] at a1
   rw [e3] at a2
   omega
  unfold serS at ih ⊢
  rw [show 2 * (j + 1) + 1 = 2 * j + 1 + 1 + 1 by omega]
  simp only [sumZ]
  simp only [sumZ] at ih
  rw [neg_odd s2 j, neg_odd s1 j, show 2 * j + 1 + 1 = 2 * (j + 1) by omega, neg_even s2 (j + 1), neg_even s1 (j + 1)]
  rw [show 2 * (j + 1) = 2 * j + 2 by omega]
  have e4 : b (2 * j + 2) * (s2 ^ (2 * j + 2) - s1 ^ (2 * j + 2)) = s2 ^ (2 * j + 2) * b (2 * j + 2) - s1 ^ (2 * j + 2) * b (2 * j + 2) := by grind
  have e5 : b (2 * j + 1) * (s2 ^ (2 * j + 1) - s1 ^ (2 * j + 1)) = -(-(s2 ^ (2 * j + 1)) * b (2 * j + 1)) + -(s1 ^ (2 * j + 1)) * b (2 * j + 1) := by grind
  rw [e4, e5] at key
  omega
def factI : Nat → Int
 | 0 => 1
 | n + 1 => factI n * ((n : Int) + 1)
def serQ (c T k : Nat) : Int := (factI (2 * (T - 1) + c)).fdiv (factI (2 * k + c))
def serB (c T k : Nat) : Int := 1048576 ^ (T - 1 - k) * serQ c T k
def serN (c T : Nat) (s : Int) : Int := serS (serB c T) T s
def serD (c T : Nat) : Int := 1048576 ^ (T - 1) * factI (2 * (T - 1) + c)
def Fine3 (c T : Nat) : Prop := (∀ k, k < T → 0 ≤ serB c T k) ∧ ∀ k, k < T - 2 → ((k : Int) + 2) * (4194304 * serB c T (k + 2)) ≤ ((k : Int) + 1) * serB c T (k + 1)
instance (c T : Nat) : Decidable (Fine3 c T) := inferInstanceAs (Decidable (_ ∧ _))
theorem fine_1_12 : Fine3 1 12 := by decide +kernel
theorem fine_1_13 : Fine3 1 13 := by decide +kernel
theorem fine_2_12 : Fine3 2 12 := by decide +kernel
theorem fine_2_13 : Fine3 2 13 := by decide +kernel
theorem ser_13 {c : Nat} (h : Fine3 c 13) {s1 s2 : Int} (h1 : 0 ≤ s1) (h2 : s1 ≤ s2) (h3 : s2 ≤ 4194304) : serN c 13 s2 ≤ serN c 13 s1 :=
 ser_mono h1 h2 h3 6 (fun k hk => h.1 _ (by omega)) fun k hk => h.2 k (by omega)
theorem ser_12 {c : Nat} (h : Fine3 c 12) {s1 s2 : Int} (h1 : 0 ≤ s1) (h2 : s1 ≤ s2) (h3 : s2 ≤ 4194304) : serN c 12 s2 ≤ serN c 12 s1 := by
 have hm : serS (serB c 12) (2 * 5 + 1) s2 ≤ serS (serB c 12) (2 * 5 + 1) s1 := ser_mono h1 h2 h3 5 (fun k hk => h.1 _ (by omega)) fun k hk => h.2 k (by omega)
 have hb := h.1 11 (by omega)
 have hp : s1 ^ 11 ≤ s2 ^ 11 := by
  have h4 : 0 ≤ (((10 : Nat) : Int) + 1) * (s1 ^ 10 * (s2 - s1)) := Int.mul_nonneg (by omega) (Int.mul_nonneg (pow_nn h1 _) (by omega))
  have h5 := pow_diff h1 h2 10
  change _ ≤ s2 ^ 11 - s1 ^ 11 at h5
  omega
 have hq := Int.mul_le_mul_of_nonneg_right hp hb
 unfold serN serS at *
 simp only [sumZ] at hm ⊢
 have e1 : (-s2) ^ 11 = -(s2 ^ 11) := neg_odd s2 5
 have e2 : (-s1) ^ 11 = -(s1 ^ 11) := neg_odd s1 5
 rw [e1, e2, Int.neg_mul, Int.neg_mul]
 omega
theorem ser_more {c : Nat} (h : ∀ k, k < 12 → serB c 13 k * serD c 12 = serB c 12 k * serD c 13) (hb : 0 ≤ serB c 13 12) (hd : 0 < serD c 12) {s : Int} (hs : 0 ≤ s) : serN c 12 s * serD c 13 ≤ serN c 13 s * serD c 12 := by
 have e : serS (serB c 13) 12 s * serD c 12 = serS (serB c 12) 12 s * serD c 13 := by
  unfold serS
  have hm : ∀ n, n ≤ 12 → sumZ (fun k => (-s) ^ k * serB c 13 k) n * serD c 12 = sumZ (fun k => (-s) ^ k * serB c 12 k) n * serD c 13 := by
   intro n
   induction n with
   | zero => intro _; simp [sumZ]
   | succ n ih =>
    intro hn
    simp only [sumZ]
    rw [Int.add_mul, Int.add_mul, ih (by omega), Int.mul_assoc, h n (by omega), ← Int.mul_assoc]
  exact hm 12 (by omega)
 have e2 : serN c 13 s = serS (serB c 13) 12 s + s ^ 12 * serB c 13 12 := by
  unfold serN
  show sumZ _ 12 + (-s) ^ 12 * serB c 13 12 = _
  rw [show (-s) ^ 12 = s ^ 12 from neg_even s 6]
  rfl
 have h0 : 0 ≤ s ^ 12 * serB c 13 12 * serD c 12 := Int.mul_nonneg (Int.mul_nonneg (pow_nn hs 12) hb) (by omega)
 unfold serN at *
 rw [e2, Int.add_mul, e]
 omega
def More3 (c : Nat) : Prop := (∀ k, k < 12 → serB c 13 k * serD c 12 = serB c 12 k * serD c 13) ∧ 0 < serD c 12 ∧ 0 < serD c 13
instance (c : Nat) : Decidable (More3 c) := inferInstanceAs (Decidable (_ ∧ _))
theorem more_1 : More3 1 := by decide +kernel
theorem more_2 : More3 2 := by decide +kernel
def encLo (c : Nat) (s : Int) : Int := (serN c 12 s * 1048576).fdiv (serD c 12)
def encHi (c : Nat) (s : Int) : Int := -((-(serN c 13 s * 1048576)).fdiv (serD c 13))
def encS (c : Nat) (s : Sp) : Sp := if inS s (ofS 0 4194304) = true then ofS (encLo c s.hi) (encHi c s.lo) else ze0
structure Enc (c : Nat) : Prop where
 f12 : Fine3 c 12
 f13 : Fine3 c 13
 m : More3 c
 lo : -2147483647 ≤ encLo c 4194304 ∧ encLo c 0 ≤ 2147483647
 hi : -2147483647 ≤ encHi c 4194304 ∧ encHi c 0 ≤ 2147483647
theorem enc_1 : Enc 1 := ⟨fine_1_12, fine_1_13, more_1, by decide +kernel, by decide +kernel⟩
theorem enc_2 : Enc 2 := ⟨fine_2_12, fine_2_13, more_2, by decide +kernel, by decide +kernel⟩
theorem encLo_mono {c : Nat} (h : Enc c) {s1 s2 : Int} (h1 : 0 ≤ s1) (h2 : s1 ≤ s2) (h3 : s2 ≤ 4194304) : encLo c s2 ≤ encLo c s1 := fdiv_mono h.m.2.1 (by have := ser_12 h.f12 h1 h2 h3; omega)
theorem encHi_mono {c : Nat} (h : Enc c) {s1 s2 : Int} (h1 : 0 ≤ s1) (h2 : s1 ≤ s2) (h3 : s2 ≤ 4194304) : encHi c s2 ≤ encHi c s1 := by
 have := fdiv_mono h.m.2.2 (a := -(serN c 13 s1 * 1048576)) (b := -(serN c 13 s2 * 1048576)) (by have := ser_13 h.f13 h1 h2 h3; omega)
 unfold encHi; omega
theorem enc_cross {c : Nat} (h : Enc c) {s : Int} (hs : 0 ≤ s) : encLo c s ≤ encHi c s := by
 have h1 := ser_more h.m.1 (h.f13.1 12 (by omega)) h.m.2.1 hs
 have d1 := h.m.2.1
 have d2 := h.m.2.2
 unfold encLo encHi
 have a1 := Int.mul_fdiv_add_fmod (serN c 12 s * 1048576) (serD c 12)
 have a2 := Int.fmod_nonneg_of_pos (serN c 12 s * 1048576) d1
 have b1 := Int.mul_fdiv_add_fmod (-(serN c 13 s * 1048576)) (serD c 13)
 have b2 := Int.fmod_nonneg_of_pos (-(serN c 13 s * 1048576)) d2
 generalize (serN c 12 s * 1048576).fdiv (serD c 12) = p at *
 generalize (-(serN c 13 s * 1048576)).fdiv (serD c 13) = q at *
 generalize serN c 12 s = N at *
 generalize serN c 13 s = M at *
 generalize serD c 12 = D at *
 generalize serD c 13 = E at *
 have p1 : D * p ≤ N * 1048576 := by omega
 have q1 : E * q ≤ -(M * 1048576) := by omega
 -- D E p ≤ E N 2^20 ≤ D M 2^20 ≤ - D E q
 refine Int.le_of_mul_le_mul_left (a := D * E) ?_ (Int.mul_pos d1 d2)
 have r1 := Int.mul_le_mul_of_nonneg_left p1 (show 0 ≤ E by omega)
 have r2 := Int.mul_le_mul_of_nonneg_left q1 (show 0 ≤ D by omega)
 have e1 : E * (D * p) = D * E * p := by grind
 have e2 : D * (E * q) = D * E * q := by grind
 have e3 : E * (N * 1048576) = N * E * 1048576 := by grind
 have e4 : D * -(M * 1048576) = -(M * D * 1048576) := by grind
 have e5 : D * E * -q = -(D * E * q) := by grind
 rw [e1, e3] at r1
 rw [e2, e4] at r2
 rw [e5]
 omega
theorem enc_in {s : Sp} (hs : OkS s) : inS s (ofS 0 4194304) = true ↔ s.all = false ∧ 0 ≤ s.lo ∧ s.hi ≤ 4194304 := by
 rw [in_iff hs (of_ok _ _)]
 have e : ofS 0 4194304 = ⟨0, 4194304, false⟩ := by decide
 unfold SubS
 rw [e]
 constructor
 ·rintro (h | h)
  ·cases h
  ·exact h
 ·exact .inr
theorem enc_eq {c : Nat} (h : Enc c) {s : Sp} (hs : OkS s) (ha : s.all = false) (h1 : 0 ≤ s.lo) (h2 : s.hi ≤ 4194304) : encS c s = ⟨encLo c s.hi, encHi c s.lo, false⟩ ∧ -2147483647 ≤ encLo c s.hi ∧ encLo c s.hi ≤ encHi c s.lo ∧ encHi c s.lo ≤ 2147483647 := by
 have hl := hs.lt ha
 have a1 := encLo_mono h (s1 := s.hi) (s2 := 4194304) (by omega) (by omega) (by omega)
 have a2 := encHi_mono h (s1 := 0) (s2 := s.lo) (by omega) (by omega) (by omega)
 have a3 := encLo_mono h (s1 := s.lo) (s2 := s.hi) (by omega) (by omega) (by omega)
 have a4 := enc_cross h h1
 have b1 := h.lo
 have b2 := h.hi
 unfold encS
 rw [if_pos ((enc_in hs).2 ⟨ha, h1, h2⟩)]
 unfold ofS
 rw [show min (encLo c s.hi) (encHi c s.lo) = encLo c s.hi by omega, show max (encLo c s.hi) (encHi c s.lo) = encHi c s.lo by omega, made_eq (by omega)]
 exact ⟨rfl, by omega⟩
end Go.Gim
/- Turns of spans: of narrower ones comes what lies in that of wider ones; in plain Lean. -/
set_option maxRecDepth 100000
namespace Go.Gim
def dotV (v w : Nat → Sp) : Sp := addS (addS (mulP (v 0) (w 0)) (mulP (v 1) (w 1))) (mulP (v 2) (w 2))
def normV (v : Nat → Sp) : Sp := addS (addS (sqrS (v 0)) (sqrS (v 1))) (sqrS (v 2))
def idR (i j : Nat) : Sp := if i = j then ofS 1048576 1048576 else ofS 0 0
def zii (w : Nat → Sp) (i j : Nat) : Sp := if i = j then ofS 0 0 else if (i + 1) % 3 = j then negS (w (3 - i - j)) else w (3 - i - j)
def twiceR (w : Nat → Sp) (i j : Nat) : Sp := if i ≠ j then mulP (w (min i j)) (w (max i j)) else negS (addS (sqrS (w (min ((i + 1) % 3) ((i + 2) % 3)))) (sqrS (w (max ((i + 1) % 3) ((i + 2) % 3)))))
def expR (w : Nat → Sp) (i j : Nat) : Sp := addS (addS (idR i j) (mulP (encS 1 (normV w)) (zii w i j))) (mulP (encS 2 (normV w)) (twiceR w i j))
def zem (r : Nat → Nat → Sp) (v : Nat → Sp) (i : Nat) : Sp := dotV (r i) v
def OkV (v : Nat → Sp) : Prop := ∀ i, OkS (v i)
theorem norm_ok (v : Nat → Sp) : OkS (normV v) := add_ok _ _
def vec3 (x y z : Sp) (i : Nat) : Sp := if i = 0 then x else if i = 1 then y else z
theorem vec3_ok {x y z : Sp} (hx : OkS x) (hy : OkS y) (hz : OkS z) : OkV (vec3 x y z) := fun i => by unfold vec3; split; exact hx; split; exact hy; exact hz
theorem of_eq {a b : Int} (h1 : a ≤ b) (h2 : -2147483647 ≤ a) (h3 : b ≤ 2147483647) : ofS a b = ⟨a, b, false⟩ := by
 unfold ofS
 rw [show min a b = a by omega, show max a b = b by omega, made_eq ⟨h2, h1, h3⟩]
theorem z_eq : ofS 0 0 = ⟨0, 0, false⟩ := by decide
theorem add_z {x : Sp} (h : OkS x) : addS x (ofS 0 0) = x := by
 unfold addS
 rw [zch h, zch (of_ok 0 0)]
 rcases h with rfl | ⟨h1, h2⟩
 ·rw [if_pos (.inl rfl)]
 ·rw [if_neg (by rw [h1]; decide), z_eq, Int.add_zero, Int.add_zero, made_eq h2]
  obtain ⟨a, b, c⟩ := x
  dsimp only at h1
  rw [h1]
theorem z_add {x : Sp} (h : OkS x) : addS (ofS 0 0) x = x := by
 unfold addS
 rw [zch h, zch (of_ok 0 0)]
 rcases h with rfl | ⟨h1, h2⟩
 ·rw [if_pos (.inr rfl)]
 ·rw [if_neg (by rw [h1]; decide), z_eq, Int.zero_add, Int.zero_add, made_eq h2]
  obtain ⟨a, b, c⟩ := x
  dsimp only at h1
  rw [h1]
theorem mul_z {x : Sp} (h : OkS x) (ha : x.all = false) : mulP x (ofS 0 0) = ofS 0 0 := by
 unfold mulP
 rw [zch h, zch (of_ok 0 0), if_neg (by rw [ha]; decide), z_eq]
 unfold mulS' lo4 hi4
 simp only [Int.mul_zero]
 decide
end Go.Gim

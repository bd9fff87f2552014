import Derived.Test.YtjmbcnfhonfpkaaGreatDoorTP2
set_option linter.unusedSimpArgs false
set_option linter.unusedVariables false
/- A steady pull: what is summed up encloses what it makes; in plain Lean. -/
set_option maxRecDepth 100000
namespace Go.Gim
def EncQ (x : Sp) (a m : Int) : Prop := x.all = true ∨ (x.lo * m ≤ a ∧ a ≤ x.hi * m)
def divS' (x y : Sp) : Sp := if hasS y 0 = true then ze0 else
 madeS (min (min (min ((x.lo * 1048576).fdiv y.lo) ((x.lo * 1048576).fdiv y.hi)) ((x.hi * 1048576).fdiv y.lo)) ((x.hi * 1048576).fdiv y.hi))
  (-(min (min (min ((-x.lo * 1048576).fdiv y.lo) ((-x.lo * 1048576).fdiv y.hi)) ((-x.hi * 1048576).fdiv y.lo)) ((-x.hi * 1048576).fdiv y.hi)))
def divP (x y : Sp) : Sp := if (zax x).all = true ∨ (zax y).all = true then ze0 else divS' (zax x) (zax y)
def onlyS (n : Int) : Sp := ofS n n
def timeS (rate ticks : Int) : Sp := divP (onlyS (ticks * 1048576)) (onlyS (rate * 1048576))
def zba (v : Nat → Sp) (s : Sp) (i : Nat) : Sp := mulP (v i) s
def addV (v w : Nat → Sp) (i : Nat) : Sp := addS (v i) (w i)
def mulR (r q : Nat → Nat → Sp) (i j : Nat) : Sp := dotV (r i) fun k => q k j
structure Rn2 where
 R : Nat → Nat → Sp
 V : Nat → Sp
 P : Nat → Sp
 ticks : Int
 count : Int
def stepR (a : Rn2) (w f : Nat → Sp) (t : Sp) : Rn2 :=
 ⟨mulR a.R (expR (zba w t)), addV a.V (zba (zem a.R f) t), addV (addV a.P (zba a.V t)) (zba (zba (zba (zem a.R f) t) t) (onlyS 524288)), a.ticks, a.count⟩
theorem made_enc {lo hi a m : Int} (hm : 0 < m) (h : lo * m ≤ a ∧ a ≤ hi * m) : EncQ (madeS lo hi) a m := by
 by_cases h2 : -2147483647 ≤ lo ∧ lo ≤ hi ∧ hi ≤ 2147483647
 ·rw [made_eq h2]; exact .inr h
 ·rw [made_no h2]; exact .inl rfl
theorem add_enc {x y : Sp} {a b m : Int} (hx : OkS x) (hy : OkS y) (hm : 0 < m) (h1 : EncQ x a m) (h2 : EncQ y b m) : EncQ (addS x y) (a + b) m := by
 unfold addS
 rw [zch hx, zch hy]
 split
 ·exact .inl rfl
 ·rename_i h
  rcases h1 with h1 | h1
  ·exact absurd (.inl h1) h
  ·rcases h2 with h2 | h2
   ·exact absurd (.inr h2) h
   ·refine made_enc hm ?_
    rw [Int.add_mul, Int.add_mul]
    omega
theorem mul_enc {x y : Sp} {a b m k : Int} (hx : OkS x) (hy : OkS y) (hm : 0 < m) (hk : 0 < k) (h1 : EncQ x a m) (h2 : EncQ y b k) : EncQ (mulP x y) (a * b) (m * k * 1048576) := by
 unfold mulP
 rw [zch hx, zch hy]
 split
 ·exact .inl rfl
 ·rename_i h
  rcases h1 with h1 | h1
  ·exact absurd (.inl h1) h
  ·rcases h2 with h2 | h2
   ·exact absurd (.inr h2) h
   ·unfold mulS'
    refine made_enc (Int.mul_pos (Int.mul_pos hm hk) (by decide)) ?_
    have hb := box_mid (x := ⟨x.lo * m, x.hi * m, false⟩) (y := ⟨y.lo * k, y.hi * k, false⟩) (u := a) (v := b) h1 h2
    have e1 : lo4 ⟨x.lo * m, x.hi * m, false⟩ ⟨y.lo * k, y.hi * k, false⟩ = lo4 x y * (m * k) := by
     have hp : 0 ≤ m * k := Int.le_of_lt (Int.mul_pos hm hk)
     unfold lo4
     dsimp only
     have q1 : x.lo * m * (y.lo * k) = x.lo * y.lo * (m * k) := by grind
     have q2 : x.lo * m * (y.hi * k) = x.lo * y.hi * (m * k) := by grind
     have q3 : x.hi * m * (y.lo * k) = x.hi * y.lo * (m * k) := by grind
     have q4 : x.hi * m * (y.hi * k) = x.hi * y.hi * (m * k) := by grind
     rw [q1, q2, q3, q4]
     have mm : ∀ u v : Int, min (u * (m * k)) (v * (m * k)) = min u v * (m * k) := fun u v => by
      rcases Int.le_total u v with h | h
      ·have := Int.mul_le_mul_of_nonneg_right h hp
       rw [Int.min_eq_left h, Int.min_eq_left this]
      ·have := Int.mul_le_mul_of_nonneg_right h hp
       rw [Int.min_eq_right h, Int.min_eq_right this]
     rw [mm, mm, mm]
    have e2 : hi4 ⟨x.lo * m, x.hi * m, false⟩ ⟨y.lo * k, y.hi * k, false⟩ = hi4 x y * (m * k) := by
     have hp : 0 ≤ m * k := Int.le_of_lt (Int.mul_pos hm hk)
     unfold hi4
     dsimp only
     have q1 : x.lo * m * (y.lo * k) = x.lo * y.lo * (m * k) := by grind
     have q2 : x.lo * m * (y.hi * k) = x.lo * y.hi * (m * k) := by grind
     have q3 : x.hi * m * (y.lo * k) = x.hi * y.lo * (m * k) := by grind
     have q4 : x.hi * m * (y.hi * k) = x.hi * y.hi * (m * k) := by grind
     rw [q1, q2, q3, q4]
     have mm : ∀ u v : Int, max (u * (m * k)) (v * (m * k)) = max u v * (m * k) := fun u v => by
      rcases Int.le_total u v with h | h
      ·have := Int.mul_le_mul_of_nonneg_right h hp
       rw [Int.max_eq_right h, Int.max_eq_right this]
      ·have := Int.mul_le_mul_of_nonneg_right h hp
       rw [Int.max_eq_left h, Int.max_eq_left this]
     rw [mm, mm, mm]
    rw [e1, e2] at hb
    have hp := Int.mul_pos hm hk
    generalize m * k = p at *
    have f1 := Int.mul_fdiv_add_fmod (lo4 x y) 1048576
    have f2 := Int.fmod_nonneg_of_pos (lo4 x y) (show (0 : Int) < 1048576 by decide)
    have f3 := Int.mul_fdiv_add_fmod (-(hi4 x y)) 1048576
    have f4 := Int.fmod_nonneg_of_pos (-(hi4 x y)) (show (0 : Int) < 1048576 by decide)
    generalize (lo4 x y).fdiv 1048576 = q at *
    generalize (-(hi4 x y)).fdiv 1048576 = s at *
    have g1 := Int.mul_le_mul_of_nonneg_right (show 1048576 * q ≤ lo4 x y by omega) (show 0 ≤ p by omega)
    have g2 := Int.mul_le_mul_of_nonneg_right (show 1048576 * s ≤ -(hi4 x y) by omega) (show 0 ≤ p by omega)
    have r1 : q * (p * 1048576) = 1048576 * q * p := by grind
    have r2 : -s * (p * 1048576) = -(1048576 * s * p) := by grind
    have r3 : -(hi4 x y) * p = -(hi4 x y * p) := by grind
    rw [r1, r2]
    rw [r3] at g2
    omega
theorem enc_scale {x : Sp} {a m c : Int} (hc : 0 < c) (h : EncQ x (c * a) (c * m)) : EncQ x a m := by
 rcases h with h | ⟨h1, h2⟩
 ·exact .inl h
 ·refine .inr ⟨?_, ?_⟩
  ·refine Int.le_of_mul_le_mul_left (a := c) ?_ hc
   rw [Int.mul_left_comm]; exact h1
  ·refine Int.le_of_mul_le_mul_left (a := c) ?_ hc
   rw [Int.mul_left_comm]; exact h2
theorem only_enc {n : Int} (h : -2147483647 ≤ n ∧ n ≤ 2147483647) : EncQ (onlyS n) n 1 := by
 unfold onlyS
 rw [of_eq (Int.le_refl n) h.1 h.2]
 exact .inr ⟨zdo, zdo⟩
theorem div_ok (x y : Sp) : OkS (divP x y) := by
 unfold divP divS'
 split
 ·exact .inl rfl
 ·split
  ·exact .inl rfl
  ·exact made_ok _ _
theorem time_ok (r t : Int) : OkS (timeS r t) := div_ok _ _
theorem time_enc {t : Int} (h : 1 ≤ t ∧ t ≤ 200) : EncQ (timeS 100 t) (t * 1048576) 100 ∧ (timeS 100 t).all = false := by
 have e : timeS 100 t = ⟨(t * 1048576 * 1048576).fdiv 104857600, -((-(t * 1048576) * 1048576).fdiv 104857600), false⟩ := by
  unfold timeS divP onlyS
  rw [of_eq (Int.le_refl _) (by omega) (by omega), of_eq (Int.le_refl _) (by omega) (by omega), zch (.inr ⟨rfl, zdo⟩), zch (.inr ⟨rfl, zdo⟩)]
  rw [if_neg (by simp)]
  unfold divS'
  rw [if_neg (by decide)]
  dsimp only
  have f1 := Int.mul_fdiv_add_fmod (t * 1048576 * 1048576) 104857600
  have f2 := Int.fmod_nonneg_of_pos (t * 1048576 * 1048576) (show (0 : Int) < 104857600 by decide)
  have f3 := Int.fmod_lt_of_pos (t * 1048576 * 1048576) (show (0 : Int) < 104857600 by decide)
  have f4 := Int.mul_fdiv_add_fmod (-(t * 1048576) * 1048576) 104857600
  have f5 := Int.fmod_nonneg_of_pos (-(t * 1048576) * 1048576) (show (0 : Int) < 104857600 by decide)
  have f6 := Int.fmod_lt_of_pos (-(t * 1048576) * 1048576) (show (0 : Int) < 104857600 by decide)
  have e1 : (100 : Int) * 1048576 = 104857600 := by decide
  rw [e1]
  simp only [Int.min_self]
  exact made_eq (by omega)
 rw [e]
 refine ⟨.inr ?_, rfl⟩
 dsimp only
 have f1 := Int.mul_fdiv_add_fmod (t * 1048576 * 1048576) 104857600
 have f2 := Int.fmod_nonneg_of_pos (t * 1048576 * 1048576) (show (0 : Int) < 104857600 by decide)
 have f4 := Int.mul_fdiv_add_fmod (-(t * 1048576) * 1048576) 104857600
 have f5 := Int.fmod_nonneg_of_pos (-(t * 1048576) * 1048576) (show (0 : Int) < 104857600 by decide)
 omega
end Go.Gim
/- A steady pull, sample by sample; in plain Lean. -/
set_option maxRecDepth 100000
namespace Go.Gim
def zV : Nat → Sp := fun _ => ofS 0 0
theorem exp_z : ∀ i, i < 3 → ∀ j, j < 3 → expR zV i j = idR i j := by decide +kernel
theorem mul_id : ∀ i, i < 3 → ∀ j, j < 3 → mulR idR idR i j = idR i j := by decide +kernel
theorem z_mul {x : Sp} (h : OkS x) (ha : x.all = false) : mulP (ofS 0 0) x = ofS 0 0 := by rw [mul_comm', mul_z h ha]
theorem vec3_z : vec3 (ofS 0 0) (ofS 0 0) (ofS 0 0) = zV := by
 funext i
 unfold vec3 zV
 split
 ·rfl
 ·split <;> rfl
theorem scale_z {t : Sp} (h : OkS t) (ha : t.all = false) : zba zV t = zV := by
 funext i
 exact z_mul h ha
theorem one_mul {x : Sp} (h : OkS x) : mulP (ofS 1048576 1048576) x = x := by
 unfold mulP
 rw [zch h, zch (of_ok _ _), of_eq (Int.le_refl _) (by decide) (by decide)]
 rcases h with rfl | ⟨h1, h2⟩
 ·rw [if_pos (.inr rfl)]
 ·rw [if_neg (by rw [h1]; decide)]
  unfold mulS' lo4 hi4
  dsimp only
  have e1 : min (min (min (1048576 * x.lo) (1048576 * x.hi)) (1048576 * x.lo)) (1048576 * x.hi) = 1048576 * x.lo := by omega
  have e2 : max (max (max (1048576 * x.lo) (1048576 * x.hi)) (1048576 * x.lo)) (1048576 * x.hi) = 1048576 * x.hi := by omega
  rw [e1, e2]
  have f1 : (1048576 * x.lo).fdiv 1048576 = x.lo := by
   have a := Int.mul_fdiv_add_fmod (1048576 * x.lo) 1048576
   have b := Int.fmod_nonneg_of_pos (1048576 * x.lo) (show (0 : Int) < 1048576 by decide)
   have c := Int.fmod_lt_of_pos (1048576 * x.lo) (show (0 : Int) < 1048576 by decide)
   omega
  have f2 : (-(1048576 * x.hi)).fdiv 1048576 = -x.hi := by
   have a := Int.mul_fdiv_add_fmod (-(1048576 * x.hi)) 1048576
   have b := Int.fmod_nonneg_of_pos (-(1048576 * x.hi)) (show (0 : Int) < 1048576 by decide)
   have c := Int.fmod_lt_of_pos (-(1048576 * x.hi)) (show (0 : Int) < 1048576 by decide)
   omega
  rw [f1, f2, Int.neg_neg, made_eq h2]
  obtain ⟨a, b, c⟩ := x
  dsimp only at h1
  rw [h1]
def IsId (r : Nat → Nat → Sp) : Prop := ∀ i, i < 3 → ∀ j, j < 3 → r i j = idR i j
theorem dot_congr {v w v' w' : Nat → Sp} (h : ∀ i, i < 3 → v i = v' i) (h' : ∀ i, i < 3 → w i = w' i) : dotV v w = dotV v' w' := by
 unfold dotV
 rw [h 0 (by omega), h 1 (by omega), h 2 (by omega), h' 0 (by omega), h' 1 (by omega), h' 2 (by omega)]
theorem id_step {r : Nat → Nat → Sp} (h : IsId r) {t : Sp} (ht : OkS t) (ha : t.all = false) : IsId (mulR r (expR (zba zV t))) := fun i hi j hj => by
 rw [scale_z ht ha]
 unfold mulR
 rw [dot_congr (v' := idR i) (w' := fun k => idR k j) (fun k hk => h i hi k hk) (fun k hk => exp_z k hk j hj)]
 exact mul_id i hi j hj
theorem id_apply {r : Nat → Nat → Sp} (h : IsId r) {f : Nat → Sp} (hf : OkV f) (ha : ∀ i, (f i).all = false) {i : Nat} (hi : i < 3) : zem r f i = f i := by
 unfold zem
 rw [dot_congr (v' := idR i) (w' := f) (fun k hk => h i hi k hk) (fun k hk => rfl)]
 unfold dotV
 rcases (show i = 0 ∨ i = 1 ∨ i = 2 by omega) with rfl | rfl | rfl
 ·rw [show idR 0 0 = ofS 1048576 1048576 from rfl, show idR 0 1 = ofS 0 0 from rfl, show idR 0 2 = ofS 0 0 from rfl, one_mul (hf 0), z_mul (hf 1) (ha 1), z_mul (hf 2) (ha 2), add_z (hf 0), add_z (hf 0)]
 ·rw [show idR 1 0 = ofS 0 0 from rfl, show idR 1 1 = ofS 1048576 1048576 from rfl, show idR 1 2 = ofS 0 0 from rfl, one_mul (hf 1), z_mul (hf 0) (ha 0), z_mul (hf 2) (ha 2), z_add (hf 1), add_z (hf 1)]
 ·rw [show idR 2 0 = ofS 0 0 from rfl, show idR 2 1 = ofS 0 0 from rfl, show idR 2 2 = ofS 1048576 1048576 from rfl, one_mul (hf 2), z_mul (hf 0) (ha 0), z_mul (hf 1) (ha 1), add_z (of_ok 0 0), z_add (hf 2)]
structure Stead (a : Rn2) (pull ticks : Int) (axis n : Nat) : Prop where
 id : IsId a.R
 okV : OkV a.V
 okP : OkV a.P
 v : EncQ (a.V axis) (pull * ticks * n) 100
 p : EncQ (a.P axis) (pull * ticks * ticks * n * n) 20000
theorem stead_step {a : Rn2} {pull ticks : Int} {axis n : Nat} {f : Nat → Sp} (h : Stead a pull ticks axis n) (hx : axis < 3) (hp : -1048576 ≤ pull ∧ pull ≤ 1048576) (ht : 1 ≤ ticks ∧ ticks ≤ 5) (hf : OkV f) (ha : ∀ i, (f i).all = false) (hfa : f axis = ofS pull pull) :
  Stead (stepR a zV f (timeS 100 ticks)) pull ticks axis (n + 1) := by
 obtain ⟨te, ta⟩ := time_enc (t := ticks) ⟨ht.1, by omega⟩
 have tok := time_ok 100 ticks
 generalize timeS 100 ticks = t at *
 have e0 : EncQ (ofS pull pull) pull 1 := only_enc (n := pull) (by omega)
 have d1 : EncQ (zba (zem a.R f) t axis) (pull * ticks) 100 := by
  unfold zba
  rw [id_apply h.id hf ha hx, hfa]
  refine enc_scale (c := 1048576) (by decide) ?_
  have := mul_enc (of_ok pull pull) tok (by decide) (by decide) e0 te
  have q1 : pull * (ticks * 1048576) = 1048576 * (pull * ticks) := by grind
  rw [q1] at this
  exact this
 have okd : OkV (zba (zem a.R f) t) := fun i => mul_ok _ _
 have dt : EncQ (zba (zba (zem a.R f) t) t axis) (pull * ticks * ticks) 10000 := by
  refine enc_scale (c := 1048576) (by decide) ?_
  have := mul_enc (okd axis) tok (by decide) (by decide) d1 te
  have q1 : pull * ticks * (ticks * 1048576) = 1048576 * (pull * ticks * ticks) := by grind
  rw [q1] at this
  exact this
 have dh : EncQ (zba (zba (zba (zem a.R f) t) t) (onlyS 524288) axis) (pull * ticks * ticks) 20000 := by
  refine enc_scale (c := 524288) (by decide) ?_
  have := mul_enc (x := zba (zba (zem a.R f) t) t axis) (mul_ok _ _) (of_ok 524288 524288) (by decide) (by decide) dt (only_enc (n := 524288) (by decide))
  have q1 : pull * ticks * ticks * 524288 = 524288 * (pull * ticks * ticks) := by grind
  rw [q1] at this
  exact this
 have vt : EncQ (zba a.V t axis) (2 * (pull * ticks * ticks * n)) 20000 := by
  refine enc_scale (c := 524288) (by decide) ?_
  have := mul_enc (h.okV axis) tok (by decide) (by decide) h.v te
  have q1 : pull * ticks * n * (ticks * 1048576) = 524288 * (2 * (pull * ticks * ticks * n)) := by grind
  rw [q1] at this
  exact this
 refine ⟨id_step h.id tok ta, fun i => add_ok _ _, fun i => add_ok _ _, ?_, ?_⟩
 ·have := add_enc (h.okV axis) (okd axis) (by decide) h.v d1
  have q : pull * ticks * n + pull * ticks = pull * ticks * ((n + 1 : Nat) : Int) := by push_cast; grind
  rw [q] at this
  exact this
 ·have s1 := add_enc (x := a.P axis) (y := zba a.V t axis) (h.okP axis) (mul_ok _ _) (by decide) h.p vt
  have s2 := add_enc (x := addS (a.P axis) (zba a.V t axis)) (y := zba (zba (zba (zem a.R f) t) t) (onlyS 524288) axis) (add_ok _ _) (mul_ok _ _) (by decide) s1 dh
  have q : pull * ticks * ticks * n * n + 2 * (pull * ticks * ticks * n) + pull * ticks * ticks = pull * ticks * ticks * ((n + 1 : Nat) : Int) * ((n + 1 : Nat) : Int) := by push_cast; grind
  rw [q] at s2
  exact s2
theorem stead_zero (pull ticks : Int) (axis : Nat) : Stead ⟨idR, zV, zV, 0, 0⟩ pull ticks axis 0 := by
 refine ⟨fun i _ j _ => rfl, fun i => of_ok 0 0, fun i => of_ok 0 0, ?_, ?_⟩
 ·show EncQ (ofS 0 0) _ _
  rw [z_eq]
  exact .inr ⟨by simp, by simp⟩
 ·show EncQ (ofS 0 0) _ _
  rw [z_eq]
  exact .inr ⟨by simp, by simp⟩
end Go.Gim

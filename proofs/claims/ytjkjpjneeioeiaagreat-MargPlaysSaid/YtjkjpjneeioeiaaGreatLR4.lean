import Derived.Test.YtjkjpjneeioeiaaGreatLR3
/- The document's whole numbers: products. -/
set_option maxRecDepth 100000
set_option linter.unusedSimpArgs false
set_option linter.unusedVariables false
namespace Go.Gim
open Go.Proofs
attribute [local go_sem] IntWalk.i64_in wu64 wu32 wu8 Nat.mod_eq_of_lt shr32 shr63 shl32 or32 quo64 quo32 zfb remk zcw zcv zd0 zdz zb9 Nat.add_assoc za8 lt_ne gt_ne zds dlt_t dlt_f dle_t dle_f deq_t deq_f zca zep zel zbr zbq zbf zbc zcx zcy zcz zdh zae List.length_set ge_iff_le gt_iff_lt Int.toNat_natCast zcg zdi zcq zdk zdj zcp zb0 zea zb7 zb8 zdr
theorem mul_step {P vo vo' vo2 o c x y s T Q R : Nat} (h1 : vo' + P * c = vo + Q * (x * T)) (h2 : vo2 + P * o = vo' + P * (s % 10)) (hs : s = o + c + x * y) (hQ : P = Q * R) : vo2 + P * 10 * (s / 10) = vo + Q * (x * (T + R * y)) := by
 have e := Nat.mod_add_div s 10
 have e1 : P * 10 * (s / 10) = P * (10 * (s / 10)) := by rw [Nat.mul_assoc]
 have e2 : P * (s % 10) + P * (10 * (s / 10)) = P * s := by rw [← Nat.mul_add, e]
 have e3 : P * s = P * o + P * c + P * (x * y) := by rw [hs, Nat.mul_add, Nat.mul_add]
 have e4 : Q * (x * (T + R * y)) = Q * (x * T) + P * (x * y) := by
  rw [Nat.mul_add x, Nat.mul_add Q, hQ]
  congr 1
  rw [Nat.mul_assoc]; congr 1; rw [Nat.mul_left_comm]
 omega
theorem r_mul (x y : Int) (hx : dlim x ≤ 1099511627776) (hy : dlim y ≤ 1099511627776) : Ret pg zak [DV x, DV y] (DV (x * y)) := by
 unfold dlim at hx hy
 generalize hX : digs 10 x.natAbs = xs at hx
 generalize hY : digs 10 y.natAbs = ys at hy
 have lx : ∀ z ∈ xs, z < 10 := by rw [← hX]; exact zbl d2 _
 have ly : ∀ z ∈ ys, z < 10 := by rw [← hY]; exact zbl d2 _
 refine gimbalref01_Int_Mul.of rfl (W_b ?_)
 unfold gimbalref01_Int_Mul.k gimbalref01_Int_Mul.res Ot kp kd Og Oy Om Ol Oq Oi Oc On ci
 simp -dsimp -implicitDefEqProofs (disch := try exact zdL) only [go_sem, zao, zan, zah, zaz, zas, zac, hX, hY]
 refine zap (T := Nat × Nat × List Nat) (fun t => ⟨E [(2, .pp (DV x)), (3, .pp (DV y)), (4, .ptr 2 1 0 0), (5, .own 11 (xs.length + (ys.length + 1))), (6, .int .i64 t.1)], (Hp.upd (fun _ => none) 2 (some ⟨[.agg [.bool false, .nil]], 2⟩)).upd 11 (some ⟨nats .i64 t.2.2, 1⟩), t.2.1, t.2.1⟩)
  (fun t => 11 < t.2.1 ∧ t.2.2.length = xs.length + (ys.length + 1) ∧ t.1 ≤ xs.length ∧ (∀ z ∈ t.2.2, z < 10) ∧ val 10 t.2.2 = val 10 (xs.take t.1) * val 10 ys) (fun t => xs.length - t.1) (0, _, List.replicate (xs.length + (ys.length + 1)) 0) rfl
  ⟨zdo, by simp, by simp, by intro z hz; rw [List.eq_of_mem_replicate hz]; decide, by simp [val]; exact zgv _ (fun z hz => List.eq_of_mem_replicate hz)⟩ ?_
 rintro ⟨i, nx, out⟩ ⟨h0, h1, h2, h3, h4⟩
 dsimp only at h0 h1 h2 h3 h4
 by_cases hi : i < xs.length
 ·have hm : xs.getD i 0 < 10 := zbt lx (by decide)
  have htk := za7 (B := 10) hi
  have hbd : val 10 (xs.take (i + 1)) * val 10 ys < 10 ^ (i + 1 + ys.length) := by
   rw [Nat.pow_add]
   refine Nat.mul_lt_mul'' ?_ (zge d2 ly)
   have := zge (B := 10) d2 (l := xs.take (i + 1)) fun z hz => lx z (List.mem_of_mem_take hz)
   rwa [show (xs.take (i + 1)).length = i + 1 by simp; omega] at this
  generalize hxi : xs.getD i 0 = m at *
  have hsum : val 10 out + 10 ^ i * (m * val 10 ys) = val 10 (xs.take (i + 1)) * val 10 ys := by rw [h4, htk, Nat.add_mul, Nat.mul_assoc]
  simp -dsimp -implicitDefEqProofs (disch := try exact zdL) only [go_sem, zao, zan, zah, zaz, zas, zac, hX, hY]
  refine zap (T := Nat × Nat × Nat × List Nat) (fun t => ⟨E [(2, .pp (DV x)), (3, .pp (DV y)), (4, .ptr 2 1 0 0), (5, .own 11 (xs.length + (ys.length + 1))), (6, .int .i64 i), (7, .int .i64 t.2.1), (8, .int .i64 t.1)], (Hp.upd (fun _ => none) 2 (some ⟨[.agg [.bool false, .nil]], 2⟩)).upd 11 (some ⟨nats .i64 t.2.2.2, 1⟩), t.2.2.1, t.2.2.1⟩)
   (fun t => 11 < t.2.2.1 ∧ t.2.2.2.length = xs.length + (ys.length + 1) ∧ t.1 ≤ ys.length + 1 ∧ t.2.1 < 10 ∧ (∀ z ∈ t.2.2.2, z < 10) ∧ val 10 t.2.2.2 + 10 ^ (i + t.1) * t.2.1 = val 10 out + 10 ^ i * (m * val 10 (ys.take t.1))) (fun t => ys.length + 1 - t.1) (0, 0, _, out) rfl ⟨zdo, h1, zdo, zdo, h3, by simp [val]⟩ ?_
  rintro ⟨k, o, nx', out'⟩ ⟨k0, k1, k2, k3, k4, k5⟩
  dsimp only at k0 k1 k2 k3 k4 k5
  have hok : 0 < o → k ≤ ys.length := fun ho => by
   rcases Nat.lt_or_ge ys.length k with h | h
   ·exfalso
    rw [List.take_of_length_le (by omega), hsum] at k5
    have e1 : 10 ^ (i + 1 + ys.length) ≤ 10 ^ (i + k) := Nat.pow_le_pow_right (by decide) (by omega)
    have e2 := Nat.le_mul_of_pos_right (10 ^ (i + k)) ho
    omega
   ·exact h
  have hc : out'.getD (i + k) 0 < 10 := zbt k4 (by decide)
  by_cases hk : k < ys.length
  ·have hb : ys.getD k 0 < 10 := zbt ly (by decide)
   have hvs : ∀ v, val 10 (out'.set (i + k) v) + 10 ^ (i + k) * out'.getD (i + k) 0 = val 10 out' + 10 ^ (i + k) * v := fun v => val_set (by omega)
   have htk2 := za7 (B := 10) hk
   generalize hyk : ys.getD k 0 = b at *
   generalize hgo : out'.getD (i + k) 0 = c at *
   have hmb : m * b ≤ 9 * 9 := Nat.mul_le_mul (by omega) (by omega)
   simp -dsimp -implicitDefEqProofs (disch := try exact zdL) only [go_sem, zao, zan, zah, zaz, zas, zac, hX, hY, hxi, hyk, hgo]
   refine ⟨(k + 1, (c + (o + m * b)) / 10, _, out'.set (i + k) ((c + (o + m * b)) % 10)), rfl, ⟨zdo, by simp [k1], zdo, zdo, fun z hz => ?_, ?_⟩, zdo⟩
   ·rcases List.mem_or_eq_of_mem_set hz with hz | rfl
    ·exact k4 z hz
    ·exact Nat.mod_lt _ (by decide)
   ·dsimp only
    rw [htk2, ← Nat.add_assoc i k 1, Nat.pow_succ 10 (i + k)]
    exact mul_step k5 (hvs _) (by omega) (Nat.pow_add _ _ _)
  ·by_cases ho : 0 < o
   ·have he : k = ys.length := by have := hok ho; omega
    have hvs : ∀ v, val 10 (out'.set (i + k) v) + 10 ^ (i + k) * out'.getD (i + k) 0 = val 10 out' + 10 ^ (i + k) * v := fun v => val_set (by omega)
    generalize hgo : out'.getD (i + k) 0 = c at *
    simp -dsimp -implicitDefEqProofs (disch := try exact zdL) only [go_sem, zao, zan, zah, zaz, zas, zac, hX, hY, hxi, hgo]
    refine ⟨(k + 1, (c + o) / 10, _, out'.set (i + k) ((c + o) % 10)), rfl, ⟨zdo, by simp [k1], zdo, zdo, fun z hz => ?_, ?_⟩, zdo⟩
    ·rcases List.mem_or_eq_of_mem_set hz with hz | rfl
     ·exact k4 z hz
     ·exact Nat.mod_lt _ (by decide)
    ·dsimp only
     have := mul_step (y := 0) (R := 10 ^ k) k5 (hvs ((c + o) % 10)) (by omega) (Nat.pow_add _ _ _)
     rw [← Nat.add_assoc i k 1, Nat.pow_succ 10 (i + k), this, Nat.mul_zero, Nat.add_zero, List.take_of_length_le (by omega), List.take_of_length_le (by omega)]
   ·have ho0 : o = 0 := by omega
    subst ho0
    simp -dsimp -implicitDefEqProofs (disch := try exact zdL) only [go_sem, zao, zan, zah, zaz, zas, zac, hX, hY]
    refine ⟨(i + 1, _, out'), rfl, ⟨zdo, k1, zdo, k4, ?_⟩, zdo⟩
    dsimp only
    rw [Nat.mul_zero, Nat.add_zero, List.take_of_length_le (by omega)] at k5
    rw [k5, hsum]
 ·have he : i = xs.length := by omega
  subst he
  rw [List.take_length, ← hX, ← hY, zaw d2, zaw d2] at h4
  have hmr := r_made (!decide (decide (x < 0) = decide (y < 0))) out h3 (by omega)
  rw [h4] at hmr
  have hsg : DV (sg (!decide (decide (x < 0) = decide (y < 0))) (x.natAbs * y.natAbs)) = DV (x * y) := by
   congr 1
   rw [← Int.natAbs_mul]
   unfold sg
   by_cases h1 : x < 0 <;> by_cases h2 : y < 0
   ·have := Int.mul_nonneg_of_nonpos_of_nonpos (show x ≤ 0 by omega) (show y ≤ 0 by omega)
    simp [h1, h2]; omega
   ·have := Int.mul_nonpos_of_nonpos_of_nonneg (show x ≤ 0 by omega) (show 0 ≤ y by omega)
    simp [h1, h2]; omega
   ·have := Int.mul_nonpos_of_nonneg_of_nonpos (show 0 ≤ x by omega) (show y ≤ 0 by omega)
    simp [h1, h2]; omega
   ·have := Int.mul_nonneg (show 0 ≤ x by omega) (show 0 ≤ y by omega)
    simp [h1, h2]; omega
  rw [hsg] at hmr
  simp -dsimp -implicitDefEqProofs (disch := try exact zdL) only [go_sem, zao, zan, zah, zaz, zas, zac, hX, hY]
  refine zfr 11 (nats .i64 out) rfl zg5 (by simp [V.sub, fz1, zae, h1]) hmr (by simp) ?_
  exact sgd trivial
end Go.Gim

import Derived.Test.YtjkjpjneeioeiaaGreatLR3
/- The document's whole numbers: as small ones. -/
set_option maxRecDepth 100000
set_option linter.unusedSimpArgs false
set_option linter.unusedVariables false
namespace Go.Gim
open Go.Proofs
attribute [local go_sem] IntWalk.i64_in wu64 wu32 wu8 Nat.mod_eq_of_lt shr32 shr63 shl32 or32 quo64 quo32 zfb remk zcw zcv zd0 zdz zb9 Nat.add_assoc za8 lt_ne gt_ne zds dlt_t dlt_f dle_t dle_f deq_t deq_f zca zep zel zbr zbq zbf zbc zcx zcy zcz zdh zae List.length_set ge_iff_le gt_iff_lt Int.toNat_natCast zcg zdi zcq zdk zdj zcp zb0 zea zb7 zb8 zdr
theorem sign_pos_iff {a : Int} : 0 < a.sign ↔ 0 < a := by
 rcases Int.lt_trichotomy a 0 with h | h | h
 ·rw [Int.sign_eq_neg_one_of_neg h]; omega
 ·subst h; simp
 ·rw [Int.sign_eq_one_of_pos h]; omega
theorem sign_neg_iff {a : Int} : a.sign < 0 ↔ a < 0 := by
 rcases Int.lt_trichotomy a 0 with h | h | h
 ·rw [Int.sign_eq_neg_one_of_neg h]; omega
 ·subst h; simp
 ·rw [Int.sign_eq_one_of_pos h]; omega
theorem r_small (x : Int) (h : -9223372036854775808 ≤ x ∧ x ≤ 9223372036854775807) : Ret pg zdp [DV x] (.tup [.int .i64 x, .bool true]) := by
 have hd := zbe h
 have hd1 := zbe (x := -9223372036854775808) (by omega)
 have hd2 := zbe (x := 9223372036854775807) (by omega)
 have s1 : ¬ (x - -9223372036854775808).sign < 0 := by rw [sign_neg_iff]; omega
 have s2 : ¬ 0 < (x - 9223372036854775807).sign := by rw [sign_pos_iff]; omega
 have hlen : (digs 10 x.natAbs).length ≤ 20 := hd
 have hlt := zbl d2 x.natAbs
 have hval := zaw d2 x.natAbs
 refine gimbalref01_Int_Small.of rfl (W_b ?_)
 unfold gimbalref01_Int_Small.k gimbalref01_Int_Small.res Ot kp Og Oy Om Ol OL Oq Oi Oc On ci
 refine sgd ?_
 refine zaa (r_of _ (by omega)) (by simp) ?_
 refine sgd ?_
 refine zaa (r_of _ (by omega)) (by simp) ?_
 refine sgd ?_
 refine zaa (r_cmp _ _ (by omega) (by omega)) (by simp) ?_
 simp -dsimp -implicitDefEqProofs (disch := try exact zdL) only [go_sem, zao, zan, zah, zaz, zas, zac, s1]
 refine zaa (r_cmp _ _ (by omega) (by omega)) (by simp) ?_
 simp -dsimp -implicitDefEqProofs (disch := try exact zdL) only [go_sem, zao, zan, zah, zaz, zas, zac, s2]
 generalize hX : digs 10 x.natAbs = xs at *
 have hstep : ∀ k, k < xs.length → val 10 (xs.drop k) = xs.getD k 0 + 10 * val 10 (xs.drop (k + 1)) := fun k hk => by rw [zcu hk, val]
 have hle : ∀ k, k ≤ xs.length → val 10 (xs.drop k) ≤ x.natAbs := fun k hk => by
  have := zeo (B := 10) hk
  have h2 := Nat.le_mul_of_pos_left (val 10 (xs.drop k)) (Nat.pow_pos (n := k) (show 0 < 10 by decide))
  omega
 refine zap (T := Nat × Nat) (fun t => ⟨E [(1, .pp (DV x)), (6, .int .i64 (if x < 0 then -(val 10 (xs.drop t.1) : Int) else val 10 (xs.drop t.1))), (7, .int .i64 ((t.1 : Int) - 1))], (Hp.upd (fun _ => none) 4 (some ⟨[DV (-9223372036854775808)], 2⟩)).upd 7 (some ⟨[DV 9223372036854775807], 2⟩), t.2, t.2⟩)
  (fun t => t.1 ≤ xs.length) (fun t => t.1) (xs.length, _) (by simp [val]; rfl) zdo ?_
 rintro ⟨k, nx⟩ k1
 dsimp only at k1
 by_cases hk : k = 0
 ·subst hk
  have e : (if x < 0 then -(val 10 (xs.drop 0) : Int) else val 10 (xs.drop 0)) = x := by
   rw [List.drop_zero, hval]; split <;> omega
  rw [e]
  exact sgd trivial
 ·obtain ⟨m, rfl⟩ : ∃ m, k = m + 1 := ⟨k - 1, by omega⟩
  have h1 := hstep m (by omega)
  have h2 := hle m (by omega)
  have hdg : xs.getD m 0 < 10 := zbt hlt (by decide)
  have e1 : ((m + 1 : Nat) : Int) - 1 = (m : Int) := by omega
  generalize val 10 (xs.drop (m + 1)) = v at *
  generalize hV : val 10 (xs.drop m) = v' at *
  generalize hG : xs.getD m 0 = d at *
  by_cases hx : x < 0
  ·have e2 : decide (x < 0) = true := decide_eq_true hx
   rw [if_pos hx]
   simp -dsimp -implicitDefEqProofs (disch := try exact zdL) only [go_sem, zao, zan, zah, zaz, zas, zac, hX, e1, e2, hG]
   exact ⟨(m, _), by dsimp only; rw [if_pos hx, hV, show (10 : Int) * -(v : Int) - (d : Int) = -(v' : Int) by omega], zdo, zdo⟩
  ·have e2 : decide (x < 0) = false := decide_eq_false hx
   rw [if_neg hx]
   simp -dsimp -implicitDefEqProofs (disch := try exact zdL) only [go_sem, zao, zan, zah, zaz, zas, zac, hX, e1, e2, hG]
   exact ⟨(m, _), by dsimp only; rw [if_neg hx, hV, show (10 : Int) * (v : Int) + (d : Int) = (v' : Int) by omega], zdo, zdo⟩
end Go.Gim

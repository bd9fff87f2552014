import Derived.Test.YtjkjpjneeioeiaaGreatSV6
import Derived.Test.YtjkjpjneeioeiaaGreatSA2
set_option linter.unusedSimpArgs false
set_option linter.unusedVariables false
/- How near a step is to what it should solve; in plain Lean. -/
set_option maxRecDepth 100000
namespace Go.Gim
open Go.Proofs
theorem nearF_near {num den : Int} (hd : 0 < den) (h : -10000000 < nearF num den ∧ nearF num den < 10000000) : -den ≤ 2 * (nearF num den * den - num) ∧ 2 * (nearF num den * den - num) ≤ den := by
 have e : nearF num den = (2 * num + den).fdiv (2 * den) := by
  unfold nearF at h ⊢
  generalize (2 * num + den).fdiv (2 * den) = q at *
  omega
 rw [e]
 have h1 := Int.mul_fdiv_add_fmod (2 * num + den) (2 * den)
 have h2 := Int.fmod_nonneg_of_pos (2 * num + den) (show 0 < 2 * den by omega)
 have h3 := Int.fmod_lt_of_pos (2 * num + den) (show 0 < 2 * den by omega)
 generalize (2 * num + den).fdiv (2 * den) = q at *
 generalize (2 * num + den).fmod (2 * den) = m at *
 have e2 : 2 * den * q = 2 * (q * den) := by rw [Int.mul_assoc, Int.mul_comm den q]
 rw [e2] at h1
 generalize q * den = p at *
 omega
theorem sumZ_half {a e : Nat → Int} {D : Int} (hD : 0 ≤ D) (he : ∀ k, -D ≤ 2 * e k ∧ 2 * e k ≤ D) : ∀ n, -(D * sumZ (fun k => ((a k).natAbs : Int)) n) ≤ 2 * sumZ (fun k => a k * e k) n ∧ 2 * sumZ (fun k => a k * e k) n ≤ D * sumZ (fun k => ((a k).natAbs : Int)) n
 | 0 => by simp [sumZ]
 | n + 1 => by
  have ih := sumZ_half (a := a) hD he n
  simp only [sumZ]
  obtain ⟨h1, h2⟩ := he n
  have h3 : -(D * ((a n).natAbs : Int)) ≤ 2 * (a n * e n) ∧ 2 * (a n * e n) ≤ D * ((a n).natAbs : Int) := by
   rcases Int.natAbs_eq (a n) with h | h
   ·have g1 := Int.mul_le_mul_of_nonneg_left h1 (Int.natCast_nonneg (a n).natAbs)
    have g2 := Int.mul_le_mul_of_nonneg_left h2 (Int.natCast_nonneg (a n).natAbs)
    rw [← h] at g1 g2
    rw [← h]
    have c1 : a n * (2 * e n) = 2 * (a n * e n) := by rw [Int.mul_left_comm]
    have c2 : a n * -D = -(D * a n) := by rw [Int.mul_neg, Int.mul_comm]
    have c3 : a n * D = D * a n := Int.mul_comm _ _
    rw [c1] at g1 g2
    rw [c2] at g1
    rw [c3] at g2
    exact ⟨g1, g2⟩
   ·obtain ⟨b, hb⟩ : ∃ b : Int, ((a n).natAbs : Int) = b := ⟨_, rfl⟩
    have hb0 : 0 ≤ b := by rw [← hb]; exact Int.natCast_nonneg _
    rw [hb] at h ⊢
    rw [h]
    have g1 := Int.mul_le_mul_of_nonneg_left h1 hb0
    have g2 := Int.mul_le_mul_of_nonneg_left h2 hb0
    have c1 : b * (2 * e n) = 2 * (b * e n) := by rw [Int.mul_left_comm]
    have c2 : b * -D = -(D * b) := by rw [Int.mul_neg, Int.mul_comm]
    have c3 : b * D = D * b := Int.mul_comm _ _
    have c4 : 2 * (-b * e n) = -(2 * (b * e n)) := by rw [Int.neg_mul, Int.mul_neg]
    rw [c1] at g1 g2
    rw [c2] at g1
    rw [c3] at g2
    rw [c4]
    omega
  rw [Int.mul_add, Int.mul_add]
  omega
end Go.Gim
/- A step solves what it should but for rounding; in plain Lean. -/
set_option maxRecDepth 100000
namespace Go.Gim
open Go.Proofs
theorem sumZ_lin (a d m : Nat → Int) (D : Int) : ∀ n, sumZ (fun k => a k * (d k * D - m k)) n = D * sumZ (fun k => a k * d k) n - sumZ (fun k => a k * m k) n
 | 0 => by simp [sumZ]
 | n + 1 => by
  simp only [sumZ]
  rw [sumZ_lin a d m D n, Int.mul_add, Int.mul_sub]
  have e : a n * (d n * D) = D * (a n * d n) := by rw [← Int.mul_assoc, Int.mul_comm]
  rw [e]
  omega
theorem sumZ_diag (C d : Nat → Int) (i : Nat) (more : Int) : ∀ n, sumZ (fun k => (C k + if i = k then more else 0) * d k) n = sumZ (fun k => C k * d k) n + if i < n then more * d i else 0
 | 0 => by simp [sumZ]
 | n + 1 => by
  simp only [sumZ]
  rw [sumZ_diag C d i more n, Int.add_mul]
  by_cases h : i = n
  ·subst h
   rw [if_pos rfl, if_neg (by omega), if_pos (by omega)]
   omega
  ·rw [if_neg h]
   by_cases h2 : i < n
   ·rw [if_pos h2, if_pos (by omega)]; omega
   ·rw [if_neg h2, if_neg (by omega)]; omega
theorem sumZ_absd (C : Nat → Int) (i : Nat) (more : Int) (hm : 0 ≤ more) : ∀ n, sumZ (fun k => ((C k + if i = k then more else 0).natAbs : Int)) n ≤ sumZ (fun k => ((C k).natAbs : Int)) n + if i < n then more else 0
 | 0 => by simp [sumZ]
 | n + 1 => by
  simp only [sumZ]
  have ih := sumZ_absd C i more hm n
  by_cases h : i = n
  ·subst h
   rw [if_pos rfl, if_pos (by omega)]
   rw [if_neg (by omega)] at ih
   omega
  ·rw [if_neg h]
   by_cases h2 : i < n
   ·rw [if_pos h2] at ih; rw [if_pos (by omega)]; omega
   ·rw [if_neg h2] at ih; rw [if_neg (by omega)]; omega
theorem step_near (g : Gr) (x : List Int) (r i : Nat) (hB : stepB g x r = true) (hi : i < g.n) (hm : 0 ≤ moreI g r) (hd : ∀ k, k < g.n → -10000000 < stepD g x r k ∧ stepD g x r k < 10000000) :
  -(sumZ (fun k => ((zau g x i k).natAbs : Int)) g.n + moreI g r) ≤ 2 * (sumZ (fun k => zau g x i k * stepD g x r k) g.n + moreI g r * stepD g x r i) + 2048 * stepC g x i ∧
  2 * (sumZ (fun k => zau g x i k * stepD g x r k) g.n + moreI g r * stepD g x r i) + 2048 * stepC g x i ≤ sumZ (fun k => ((zau g x i k).natAbs : Int)) g.n + moreI g r := by
 have hD : 0 < stepE g x r := defS_det hB
 have hb := solve_back (n := g.n) (stepA g x r) (downS g x) hi
 change sumZ (fun k => stepA g x r i k * stepN g x r k) g.n = stepE g x r * downS g x i at hb
 have he : ∀ k, -(stepE g x r) ≤ 2 * (if k < g.n then stepD g x r k * stepE g x r - stepN g x r k else 0) ∧ 2 * (if k < g.n then stepD g x r k * stepE g x r - stepN g x r k else 0) ≤ stepE g x r := fun k => by
  by_cases hk : k < g.n
  ·rw [if_pos hk]; exact nearF_near hD (hd k hk)
  ·rw [if_neg hk]; omega
 have h1 := sumZ_half (a := stepA g x r i) (by omega) he g.n
 have h2 : sumZ (fun k => stepA g x r i k * (if k < g.n then stepD g x r k * stepE g x r - stepN g x r k else 0)) g.n = stepE g x r * (sumZ (fun k => stepA g x r i k * stepD g x r k) g.n - downS g x i) := by
  rw [zac (g := fun k => stepA g x r i k * (stepD g x r k * stepE g x r - stepN g x r k)) fun k hk => by rw [if_pos hk], sumZ_lin, hb, Int.mul_sub]
 rw [h2] at h1
 have e3 : sumZ (fun k => stepA g x r i k * stepD g x r k) g.n = sumZ (fun k => zau g x i k * stepD g x r k) g.n + moreI g r * stepD g x r i := by
  have := sumZ_diag (zau g x i) (stepD g x r) i (moreI g r) g.n
  rw [if_pos hi] at this
  exact this
 have e4 : sumZ (fun k => ((stepA g x r i k).natAbs : Int)) g.n ≤ sumZ (fun k => ((zau g x i k).natAbs : Int)) g.n + moreI g r := by
  have := sumZ_absd (zau g x i) i (moreI g r) hm g.n
  rw [if_pos hi] at this
  exact this
 rw [e3] at h1
 unfold downS at h1
 generalize sumZ (fun k => ((stepA g x r i k).natAbs : Int)) g.n = S at *
 generalize sumZ (fun k => zau g x i k * stepD g x r k) g.n + moreI g r * stepD g x r i = T at *
 generalize stepE g x r = D at *
 obtain ⟨g1, g2⟩ := h1
 have c1 : 2 * (D * (T - stepC g x i * -1024)) = D * (2 * T + 2048 * stepC g x i) := by
  rw [Int.mul_left_comm]; congr 1; omega
 rw [c1] at g1 g2
 have c2 : -(D * S) = D * -S := by rw [Int.mul_neg]
 rw [c2] at g1
 have k1 := Int.le_of_mul_le_mul_left g1 hD
 have k2 := Int.le_of_mul_le_mul_left g2 hD
 omega
end Go.Gim
/- The law SolveNear: a step solves what it should, but for rounding. (Under way: the loops are left.) -/
set_option maxRecDepth 100000
set_option maxHeartbeats 4000000
namespace Go.Gim
open Go.Proofs
theorem moreI_one (m : Nat) (rows : List Row4) (P : List (List Int)) (Q : List Int) (c : Int) (r : Nat) (hr : r ≤ 12) : moreI ⟨m, rows, P, Q, c, 1⟩ r = ((if r = 0 then 0 else 4 ^ (r - 1) : Nat) : Int) := by
 unfold moreI
 by_cases h : r = 0
 ·rw [if_pos h, if_pos h]; rfl
 ·rw [if_neg h, if_neg h, Int.one_mul, Nat.pow_mul]
theorem four_le {k : Nat} (h : k ≤ 11) : 4 ^ k ≤ 4194304 := Nat.pow_le_pow_right (n := 4) (by decide) h
end Go.Gim
/- The law SolveNear, under way: every branch but that of a step that is found. -/
set_option maxRecDepth 100000
set_option maxHeartbeats 4000000
namespace Go.Gim
open Go.Proofs
theorem near_easy (n : Int) (rows : List Row4) (x : List Int) (raise : Int) (hn : In64 n) (hl : rows.length ≤ 9223372036854775807) (hr : ∀ r ∈ rows, r.co.length ≤ 9223372036854775807) (hxl : x.length ≤ 9223372036854775807)
  (h : rd19B n 8 rows 1 = false ∨ (20 : Int) < rows.length ∨ ∃ e : Int, e ≠ 0 ∧ Ret pg zb5 [GV (rd19G n 8 rows [] 1), ints x, .int .i64 raise] (.tup [.sl [], .int .i64 e])) :
  Ret pg zb4 [.int .i64 n, .sl (rows.map RV), ints x, .int .i64 raise] (.bool true) := by
 have c1 := read19_ret n 8 1 rows [] hl hr (by decide) (fun r h => by cases h) (by decide)
 have c1 := c1.nn (args := [.int .i64 n, .int .i64 8, .sl (rows.map RV), .nil, .int .i64 1]) rfl
 refine gimballaw19_SolveNear.of rfl (W_b ?_)
 unfold gimballaw19_SolveNear.k gimballaw19_SolveNear.res Ot kp kd Og Oh Oy Om Ol OL Oi Oc On ci
 by_cases hrd : rd19B n 8 rows 1 = true
 ·rw [hrd] at c1
  by_cases h20 : (20 : Int) < rows.length
  ·refine sgo ?_
   first | refine zaa (zdj) (by simp) ?_ | refine zab (zdj) (by simp) ?_
   refine sgo ?_
   first | refine zaa (c1) (by simp) ?_ | refine zab (c1) (by simp) ?_
   simp -dsimp -implicitDefEqProofs (disch := try exact zdE) only [go_sem, h20]
   done
  ·obtain ⟨e, he, hs⟩ : ∃ e : Int, e ≠ 0 ∧ Ret pg zb5 [GV (rd19G n 8 rows [] 1), ints x, .int .i64 raise] (.tup [.sl [], .int .i64 e]) := by
    rcases h with h | h | h
    ·rw [hrd] at h; cases h
    ·exact absurd h h20
    ·exact h
   refine sgo ?_
   first | refine zaa (zdj) (by simp) ?_ | refine zab (zdj) (by simp) ?_
   refine sgo ?_
   first | refine zaa (c1) (by simp) ?_ | refine zab (c1) (by simp) ?_
   simp -dsimp -implicitDefEqProofs (disch := try exact zdE) only [go_sem, h20]
   first | refine zaa (hs) (by simp) ?_ | refine zab (hs) (by simp) ?_
   simp -dsimp -implicitDefEqProofs (disch := try exact zdE) only [go_sem, he]
   done
 ·have hrd : rd19B n 8 rows 1 = false := by simpa using hrd
  rw [hrd] at c1
  refine sgo ?_
  first | refine zaa (zdj) (by simp) ?_ | refine zab (zdj) (by simp) ?_
  refine sgo ?_
  first | refine zaa (c1) (by simp) ?_ | refine zab (c1) (by simp) ?_
  exact sgo trivial
  done
end Go.Gim
/- The law SolveNear: a step that is found solves what it should, but for rounding. -/
set_option maxRecDepth 100000
set_option maxHeartbeats 4000000
namespace Go.Gim
open Go.Proofs
def nearA (g : Gr) (x : List Int) (r a M k : Nat) : Int := stepC g x a * 2048 + 2 * (M : Int) * stepD g x r a + sumZ (fun q => zau g x a q * (2 * stepD g x r q)) k
def nearB (g : Gr) (x : List Int) (a M k : Nat) : Int := (M : Int) + sumZ (fun q => ((zau g x a q).natAbs : Int)) k
theorem sumZ_two (C d : Nat → Int) : ∀ n, sumZ (fun k => C k * (2 * d k)) n = 2 * sumZ (fun k => C k * d k) n
 | 0 => by simp [sumZ]
 | n + 1 => by
  simp only [sumZ]
  rw [sumZ_two C d n, Int.mul_left_comm]
  omega
theorem near_end {g : Gr} {x : List Int} {r a M : Nat} (hM : moreI g r = M) (h : -(sumZ (fun k => ((zau g x a k).natAbs : Int)) g.n + moreI g r) ≤ 2 * (sumZ (fun k => zau g x a k * stepD g x r k) g.n + moreI g r * stepD g x r a) + 2048 * stepC g x a ∧
  2 * (sumZ (fun k => zau g x a k * stepD g x r k) g.n + moreI g r * stepD g x r a) + 2048 * stepC g x a ≤ sumZ (fun k => ((zau g x a k).natAbs : Int)) g.n + moreI g r) : ¬ 0 < (nearA g x r a M g.n - nearB g x a M g.n).sign ∧ ¬ (nearA g x r a M g.n - -nearB g x a M g.n).sign < 0 := by
 rw [sign_pos_iff, zd7]
 unfold nearA nearB
 rw [sumZ_two]
 rw [hM] at h
 have e : 2 * (M : Int) * stepD g x r a = 2 * ((M : Int) * stepD g x r a) := Int.mul_assoc _ _ _
 rw [e]
 omega
theorem near_main (m : Nat) (rows : List Row4) (x : List Int) (r : Nat) (hl : rows.length ≤ 20) (hr : ∀ r ∈ rows, r.co.length ≤ 9223372036854775807) (hrd : rd19B m 8 rows 1 = true) (ok : GOkay (rd19G m 8 rows [] 1) x) (hgn : (rd19G m 8 rows [] 1).n = m) (hm0 : 0 < m) (hr12 : r ≤ 12) (hB : stepB (rd19G m 8 rows [] 1) x r = true) (hmo : moreI (rd19G m 8 rows [] 1) r = ((if r = 0 then 0 else 4 ^ (r - 1) : Nat) : Int)) :
  Ret pg zb4 [.int .i64 m, .sl (rows.map RV), ints x, .int .i64 r] (.bool true) := by
 have c1 := read19_ret m 8 1 rows [] (by omega) hr (by decide) (fun r h => by cases h) (by decide)
 have c1 := c1.nn (args := [.int .i64 m, .int .i64 8, .sl (rows.map RV), .nil, .int .i64 1]) rfl
 rw [hrd] at c1
 obtain ⟨g, hg⟩ : ∃ g, rd19G m 8 rows [] 1 = g := ⟨_, rfl⟩
 rw [hg] at ok hgn hB c1 hmo
 have hs := step_ret g x r ok (by omega) hr12
 rw [if_pos hB] at hs
 have h20 : ¬ (20 : Int) < rows.length := by omega
 have h11 := ok.hi
 have hsl : (stepL g x r).length = m := by simp [stepL, hgn]
 have hgD : ∀ k, k < m → (stepL g x r).getD k 0 = stepD g x r k := fun k hk => by unfold stepL; rw [zay 0 (by omega)]
 have hgS : ∀ k, k < m → (zc1 g x).getD k 0 = stepC g x k := fun k hk => by unfold zc1; rw [zay 0 (by omega)]; rfl
 have hstl : (zc1 g x).length = m := by simp [zc1, hgn]
 have hbd : ∀ k, -10000000 ≤ stepD g x r k ∧ stepD g x r k ≤ 10000000 := fun k => nearF_bd _ _
 have cc := curve_ret g x ok.len.symm ok.hi ok.sixty ok.right ok.state ok.sq (fun i j => by have := ok.sP i j; omega) (by have := ok.sd; omega)
 have cs := csteep_ret g x ok
 have hcl : (mat g.n (zau g x)).length = m := by rw [(mat_sq _ _).1]; exact hgn
 obtain ⟨M, hM⟩ : ∃ M : Nat, (if r = 0 then 0 else 4 ^ (r - 1) : Nat) = M := ⟨_, rfl⟩
 rw [hM] at hmo
 have hM2 : M ≤ 4194304 := by
  rw [← hM]
  split
  ·omega
  ·exact four_le (by omega)
 have hri : ∀ a, a < m → ((mat g.n (zau g x)).getD a []).length = m := fun a ha => by rw [(mat_sq g.n (zau g x)).row (by omega)]; exact hgn
 have hat : ∀ a k, a < m → k < m → ((mat g.n (zau g x)).getD a []).getD k 0 = zau g x a k := fun a k ha hk => mat_at (by omega) (by omega)
 obtain ⟨KP, hKP⟩ : ∃ KP, mat g.n (zau g x) = KP := ⟨_, rfl⟩
 rw [hKP] at cc hcl hri hat
 refine gimballaw19_SolveNear.of rfl (W_b ?_)
 unfold gimballaw19_SolveNear.k gimballaw19_SolveNear.res Ot kp kd Og Oh Oy Om Ol OL Oi Oc On ci
 refine sgo ?_
 first | refine zaa (zdj) (by simp) ?_ | refine zab (zdj) (by simp) ?_
 refine sgo ?_
 first | refine zaa (c1) (by simp) ?_ | refine zab (c1) (by simp) ?_
 simp -dsimp -implicitDefEqProofs (disch := try exact zdE) only [go_sem, h20]
 first | refine zaa (hs) (by simp) ?_ | refine zab (hs) (by simp) ?_
 simp -dsimp -implicitDefEqProofs (disch := try exact zdE) only [go_sem, hsl]
 refine csel_meet (fun env G nx => env 0 = .int .i64 m ∧ env 2 = ints x ∧ env 9 = .bool true ∧ env 10 = .ptr 10 1 0 0 ∧ env 13 = ints (stepL g x r) ∧ env 15 = .int .i64 M ∧ 10 < nx ∧ G 10 = some ⟨[GV g], 8⟩) (fun h5 => ?_) (fun h5 => ?_) ?_
 ·have h5 : (0 : Int) < r := by simpa using h5
  have h6 : ¬ r = 0 := by omega
  rw [if_neg h6] at hM
  refine sgo ?_
  refine zao (T := Nat × Hp × Nat) (fun t => ⟨E [(0, .int .i64 m), (2, ints x), (3, .int .i64 r), (9, .bool true), (10, .ptr 10 1 0 0), (13, ints (stepL g x r)), (15, .int .i64 ((4 ^ t.1 : Nat) : Int)), (16, .int .i64 ((t.1 : Int) + 1))], t.2.1, t.2.2, t.2.2⟩)
   (fun t => t.1 + 1 ≤ r ∧ 10 < t.2.2 ∧ t.2.1 10 = some ⟨[GV g], 8⟩) (fun t => r - t.1) (0, _, _) rfl ⟨zdo, zdo, rfl⟩ ?_
  rintro ⟨i, H, nx⟩ ⟨i1, i2, i3⟩
  dsimp only at i1 i2 i3
  by_cases hi : i + 1 < r
  ·have h4 := four_le (k := i + 1) (by omega)
   have e1 : IntKind.i64.wrap (((4 ^ i : Nat) : Int) * 4) = ((4 ^ (i + 1) : Nat) : Int) := by
    rw [Nat.pow_succ] at h4 ⊢
    rw [IntWalk.i64_in _ (by omega)]; omega
   have e2 : IntKind.i64.wrap ((i : Int) + 1 + 1) = ((i + 1 : Nat) : Int) + 1 := by rw [IntWalk.i64_in _ (by omega)]; omega
   have h7 : (i : Int) + 1 < r := by omega
   simp -dsimp -implicitDefEqProofs (disch := try exact zdE) only [go_sem, e1, e2, h7]
   exact ⟨(i + 1, H, _), rfl, ⟨zdo, zdo, i3⟩, zdo⟩
  ·have h7 : ¬ (i : Int) + 1 < r := by omega
   have hie : r - 1 = i := by omega
   rw [hie] at hM
   simp -dsimp -implicitDefEqProofs (disch := try exact zdE) only [go_sem, h7]
   rw [hM]
   exact ⟨rfl, i3⟩
 ·have h5 : ¬ (0 : Int) < r := by simpa using h5
  have h6 : r = 0 := by omega
  rw [if_pos h6] at hM
  refine sgo ?_
  rw [← hM]
  rfl
 rintro env G nx ⟨f0, f2, f9, f10, f13, f15, fn, g10⟩
 have hn1 : ¬ (KP.length : Int) ≠ m := by omega
 have hn2 : ¬ ((zc1 g x).length : Int) ≠ m := by omega
 simp -dsimp -implicitDefEqProofs (disch := try exact zdE) only [go_sem, f0, f2, f9, f10, f13, f15, g10]
 first | refine zaa (cc) (by simp) ?_ | refine zab (cc) (by simp) ?_
 simp -dsimp -implicitDefEqProofs (disch := try exact zdE) only [go_sem, f0, f2, f9, f10, f13, f15, g10]
 first | refine zaa (cs) (by simp) ?_ | refine zab (cs) (by simp) ?_
 simp -dsimp -implicitDefEqProofs (disch := try exact zdE) only [go_sem, f0, f2, f9, f10, f13, f15, g10, hcl, hstl]
 refine zao (T := Nat × Nat) (fun t => ⟨E [(0, .int .i64 m), (9, .bool true), (13, ints (stepL g x r)), (15, .int .i64 M), (17, .sl (KP.map ivl)), (18, ivl (zc1 g x)), (19, .int .i64 t.1)], G, t.2, t.2⟩)
  (fun t => t.1 ≤ m ∧ ∀ k, k < t.1 → -10000000 < stepD g x r k ∧ stepD g x r k < 10000000) (fun t => m - t.1) (0, _) rfl ⟨zdo, fun k hk => absurd hk (by omega)⟩ ?_
 rintro ⟨i, nx2⟩ ⟨i1, i2⟩
 dsimp only at i1 i2
 by_cases hi : i < m
 ·have e1 := hgD i hi
  by_cases hcut : 10000000 ≤ stepD g x r i ∨ stepD g x r i ≤ -10000000
  ·by_cases hc1 : 10000000 ≤ stepD g x r i
   ·simp -dsimp -implicitDefEqProofs (disch := try exact zdE) only [go_sem, hsl, e1, hc1]
    done
   ·have hc2 : stepD g x r i ≤ -10000000 := by omega
    simp -dsimp -implicitDefEqProofs (disch := try exact zdE) only [go_sem, hsl, e1, hc1, hc2]
    done
  ·have hc1 : ¬ 10000000 ≤ stepD g x r i := by omega
   have hc2 : ¬ stepD g x r i ≤ -10000000 := by omega
   simp -dsimp -implicitDefEqProofs (disch := try exact zdE) only [go_sem, hsl, e1, hc1, hc2]
   exact ⟨(i + 1, _), rfl, ⟨zdo, fun k hk => by
    dsimp only at hk
    by_cases e : k = i
    ·subst e; omega
    ·exact i2 k (by omega)⟩, zdo⟩
 have hie : i = m := by omega
 have hcut : ∀ k, k < g.n → -10000000 < stepD g x r k ∧ stepD g x r k < 10000000 := fun k hk => i2 k (by omega)
 clear i2
 rw [hie]
 refine sgo ?_
 have hmn : m = g.n := hgn.symm
 have hMi : lim (M : Int) ≤ 2 := zar (x := M) ⟨by omega, by omega⟩
 have hM2i : lim (2 * (M : Int)) ≤ 2 := zar ⟨by omega, by omega⟩
 have h2048 : lim 2048 ≤ 2 := zar (x := 2048) ⟨by omega, by omega⟩
 refine zao (T := Nat × Hp × Nat) (fun t => ⟨E [(0, .int .i64 m), (9, .bool true), (13, ints (stepL g x r)), (15, .int .i64 M), (17, .sl (KP.map ivl)), (18, ivl (zc1 g x)), (20, .int .i64 t.1)], t.2.1, t.2.2, t.2.2⟩)
  (fun t => t.1 ≤ m) (fun t => m - t.1) (0, G, _) rfl zdo ?_
 rintro ⟨a, H, nx3⟩ a1
 dsimp only at a1
 by_cases ha : a < m
 ·have hga := hgD a ha
  have hsa := hgS a ha
  have la := stC_lim ok (k := a) (by omega)
  have ld := zar (x := stepD g x r a) ⟨by have := hbd a; omega, by have := hbd a; omega⟩
  have lm1 := zbj (stepC g x a) 2048
  have lm2 := zbj (2 * (M : Int)) (stepD g x r a)
  have la1 := ze9 (stepC g x a * 2048) (2 * (M : Int) * stepD g x r a)
  have e1 : IntKind.i64.wrap (2 * (M : Int)) = 2 * M := IntWalk.i64_in _ (by omega)
  have hda : In64 (stepD g x r a) := ⟨by have := hbd a; omega, by have := hbd a; omega⟩
  have hnr := step_near g x r a hB (by omega) (by omega) hcut
  simp -dsimp -implicitDefEqProofs (disch := try exact zdE) only [go_sem, hga, hsa, hsl, hstl, e1]
  first | refine zaa (zav 2048 ⟨by omega, by omega⟩) (by simp) ?_ | refine zab (zav 2048 ⟨by omega, by omega⟩) (by simp) ?_
  refine sgo ?_
  first | refine zaa (zbd (stepC g x a) 2048 (by omega) (by omega)) (by simp) ?_ | refine zab (zbd (stepC g x a) 2048 (by omega) (by omega)) (by simp) ?_
  simp -dsimp -implicitDefEqProofs (disch := try exact zdE) only [go_sem, hga, hsa, hsl, hstl, e1]
  first | refine zaa (zav (2 * (M : Int)) ⟨by omega, by omega⟩) (by simp) ?_ | refine zab (zav (2 * (M : Int)) ⟨by omega, by omega⟩) (by simp) ?_
  simp -dsimp -implicitDefEqProofs (disch := try exact zdE) only [go_sem, hga, hsa, hsl, hstl, e1]
  first | refine zaa (zav (stepD g x r a) hda) (by simp) ?_ | refine zab (zav (stepD g x r a) hda) (by simp) ?_
  refine sgo ?_
  first | refine zaa (zbd (2 * (M : Int)) (stepD g x r a) (by omega) (by omega)) (by simp) ?_ | refine zab (zbd (2 * (M : Int)) (stepD g x r a) (by omega) (by omega)) (by simp) ?_
  refine sgo ?_
  first | refine zaa (za6 _ _ (by omega) (by omega)) (by simp) ?_ | refine zab (za6 _ _ (by omega) (by omega)) (by simp) ?_
  refine sgo ?_
  first | refine zaa (zav (M : Int) ⟨by omega, by omega⟩) (by simp) ?_ | refine zab (zav (M : Int) ⟨by omega, by omega⟩) (by simp) ?_
  refine sgo ?_
  have lC : ∀ k, lim (zau g x a k) ≤ 1000 := fun k => curveAt_lim ok a k
  have hdk : ∀ k, In64 (2 * stepD g x r k) := fun k => ⟨by have := hbd k; omega, by have := hbd k; omega⟩
  have lA : ∀ k, lim (nearA g x r a M k) ≤ 5000 + k := fun k => by
   have h1 := ze9 (stepC g x a * 2048 + 2 * (M : Int) * stepD g x r a) (sumZ (fun q => zau g x a q * (2 * stepD g x r q)) k)
   have h2 : lim (sumZ (fun q => zau g x a q * (2 * stepD g x r q)) k) ≤ 1002 + k := sumZ_lim fun q _ => by
    have := zbj (zau g x a q) (2 * stepD g x r q)
    have := zar (hdk q)
    have := lC q
    omega
   unfold nearA; omega
  have lB : ∀ k, lim (nearB g x a M k) ≤ 2000 + k := fun k => by
   have h1 := ze9 (M : Int) (sumZ (fun q => ((zau g x a q).natAbs : Int)) k)
   have h2 : lim (sumZ (fun q => ((zau g x a q).natAbs : Int)) k) ≤ 1000 + k := sumZ_lim fun q _ => by
    have := lC q
    have e : lim (((zau g x a q).natAbs : Int)) = lim (zau g x a q) := by simp [lim]
    omega
   unfold nearB; omega
  refine zao (T := Nat × Hp × Nat) (fun t => ⟨E [(0, .int .i64 m), (9, .bool true), (13, ints (stepL g x r)), (15, .int .i64 M), (17, .sl (KP.map ivl)), (18, ivl (zc1 g x)), (20, .int .i64 a), (21, .ptr (nx3 + 19) 1 0 0), (22, .ptr (nx3 + 23) 1 0 0), (23, .int .i64 t.1)], t.2.1, t.2.2, t.2.2⟩)
   (fun t => t.1 ≤ m ∧ nx3 + 26 ≤ t.2.2 ∧ t.2.1 (nx3 + 19) = some ⟨[IV (nearA g x r a M t.1)], 2⟩ ∧ t.2.1 (nx3 + 23) = some ⟨[IV (nearB g x a M t.1)], 2⟩) (fun t => m - t.1)
   (0, (H.upd (nx3 + 19) (some ⟨[IV (stepC g x a * 2048 + 2 * (M : Int) * stepD g x r a)], 2⟩)).upd (nx3 + 23) (some ⟨[IV (M : Int)], 2⟩), _) rfl ⟨zdo, zdo, by dsimp only; rw [Hp.upd_ne _ _ (by omega), Hp.upd_same]; simp [nearA, sumZ], by dsimp only; rw [Hp.upd_same]; simp [nearB, sumZ]⟩ ?_
  rintro ⟨k, H4, nx4⟩ ⟨k1, k2, k3, k4⟩
  dsimp only at k1 k2 k3 k4
  by_cases hk : k < m
  ·have hra := hri a ha
   have hak := hat a k ha hk
   have hgk := hgD k hk
   have l1 := lA k
   have l2 := lB k
   have l3 := lC k
   have l4 := zar (hdk k)
   have l5 := zbj (zau g x a k) (2 * stepD g x r k)
   have e5 : IntKind.i64.wrap (2 * stepD g x r k) = 2 * stepD g x r k := IntWalk.i64_in _ (by have := hdk k; unfold In64 at this; omega)
   have eA : nearA g x r a M k + zau g x a k * (2 * stepD g x r k) = nearA g x r a M (k + 1) := by unfold nearA; simp only [sumZ]; omega
   have eB : nearB g x a M k + ((zau g x a k).natAbs : Int) = nearB g x a M (k + 1) := by unfold nearB; simp only [sumZ]; omega
   generalize nearA g x r a M k = vA at *
   generalize nearB g x a M k = vB at *
   generalize zau g x a k = vC at *
   by_cases hneg : vC < 0
   ·have sn : vC.sign < 0 := by rw [zd7]; exact hneg
    have en : ((vC.natAbs : Int)) = -vC := by omega
    rw [en] at eB
    have ln : lim (-vC) = lim vC := lim_neg _
    simp -dsimp -implicitDefEqProofs (disch := try exact zdE) only [go_sem, k3, k4, hcl, hra, hak, hgk, hsl, e5]
    first | refine zaa (zav (2 * stepD g x r k) (hdk k)) (by simp) ?_ | refine zab (zav (2 * stepD g x r k) (hdk k)) (by simp) ?_
    simp -dsimp -implicitDefEqProofs (disch := try exact zdE) only [go_sem, k3, k4, hcl, hra, hak, hgk, hsl, e5]
    first | refine zaa (zbd vC (2 * stepD g x r k) (by omega) (by omega)) (by simp) ?_ | refine zab (zbd vC (2 * stepD g x r k) (by omega) (by omega)) (by simp) ?_
    simp -dsimp -implicitDefEqProofs (disch := try exact zdE) only [go_sem, k3, k4, hcl, hra, hak, hgk, hsl, e5]
    first | refine zaa (za6 vA _ (by omega) (by omega)) (by simp) ?_ | refine zab (za6 vA _ (by omega) (by omega)) (by simp) ?_
    simp -dsimp -implicitDefEqProofs (disch := try exact zdE) only [go_sem, k3, k4, hcl, hra, hak, hgk, hsl, e5, eA]
    first | refine zaa (zdm vC (by omega)) (by simp) ?_ | refine zab (zdm vC (by omega)) (by simp) ?_
    simp -dsimp -implicitDefEqProofs (disch := try exact zdE) only [go_sem, k3, k4, hcl, hra, hak, hgk, hsl, sn]
    first | refine zaa (neg_ret vC (by omega)) (by simp) ?_ | refine zab (neg_ret vC (by omega)) (by simp) ?_
    simp -dsimp -implicitDefEqProofs (disch := try exact zdE) only [go_sem, k3, k4, hcl, hra, hak, hgk, hsl]
    first | refine zaa (za6 vB (-vC) (by omega) (by omega)) (by simp) ?_ | refine zab (za6 vB (-vC) (by omega) (by omega)) (by simp) ?_
    simp -dsimp -implicitDefEqProofs (disch := try exact zdE) only [go_sem, k3, k4, eB]
    exact ⟨(k + 1, (((H4.upd (nx3 + 19) (some ⟨[IV (nearA g x r a M (k + 1))], 2⟩)).upd (nx4 + 27) (some ⟨[IV (-vC)], 2⟩)).upd (nx3 + 23) (some ⟨[IV (nearB g x a M (k + 1))], 2⟩)), _), rfl, ⟨zdo, zdo, by dsimp only; rw [Hp.upd_ne _ _ (show nx3 + 19 ≠ nx3 + 23 by omega), Hp.upd_ne _ _ (show nx3 + 19 ≠ nx4 + 27 by omega), Hp.upd_same], by dsimp only; rw [Hp.upd_same]⟩, zdo⟩
   ·have sn : ¬ vC.sign < 0 := by rw [zd7]; exact hneg
    have en : ((vC.natAbs : Int)) = vC := by omega
    rw [en] at eB
    simp -dsimp -implicitDefEqProofs (disch := try exact zdE) only [go_sem, k3, k4, hcl, hra, hak, hgk, hsl, e5]
    first | refine zaa (zav (2 * stepD g x r k) (hdk k)) (by simp) ?_ | refine zab (zav (2 * stepD g x r k) (hdk k)) (by simp) ?_
    simp -dsimp -implicitDefEqProofs (disch := try exact zdE) only [go_sem, k3, k4, hcl, hra, hak, hgk, hsl, e5]
    first | refine zaa (zbd vC (2 * stepD g x r k) (by omega) (by omega)) (by simp) ?_ | refine zab (zbd vC (2 * stepD g x r k) (by omega) (by omega)) (by simp) ?_
    simp -dsimp -implicitDefEqProofs (disch := try exact zdE) only [go_sem, k3, k4, hcl, hra, hak, hgk, hsl, e5]
    first | refine zaa (za6 vA _ (by omega) (by omega)) (by simp) ?_ | refine zab (za6 vA _ (by omega) (by omega)) (by simp) ?_
    simp -dsimp -implicitDefEqProofs (disch := try exact zdE) only [go_sem, k3, k4, hcl, hra, hak, hgk, hsl, e5, eA]
    first | refine zaa (zdm vC (by omega)) (by simp) ?_ | refine zab (zdm vC (by omega)) (by simp) ?_
    simp -dsimp -implicitDefEqProofs (disch := try exact zdE) only [go_sem, k3, k4, hcl, hra, hak, hgk, hsl, sn]
    first | refine zaa (za6 vB vC (by omega) (by omega)) (by simp) ?_ | refine zab (za6 vB vC (by omega) (by omega)) (by simp) ?_
    simp -dsimp -implicitDefEqProofs (disch := try exact zdE) only [go_sem, k3, k4, eB]
    exact ⟨(k + 1, (((H4.upd (nx3 + 19) (some ⟨[IV (nearA g x r a M (k + 1))], 2⟩)).upd (nx4 + 27) (some ⟨[IV vC], 2⟩)).upd (nx3 + 23) (some ⟨[IV (nearB g x a M (k + 1))], 2⟩)), _), rfl, ⟨zdo, zdo, by dsimp only; rw [Hp.upd_ne _ _ (show nx3 + 19 ≠ nx3 + 23 by omega), Hp.upd_ne _ _ (show nx3 + 19 ≠ nx4 + 27 by omega), Hp.upd_same], by dsimp only; rw [Hp.upd_same]⟩, zdo⟩
  ·have hke : k = g.n := by omega
   subst hke
   obtain ⟨f1, f2⟩ := near_end hmo hnr
   have l1 := lA g.n
   have l2 := lB g.n
   have l3 : lim (-nearB g x a M g.n) = lim (nearB g x a M g.n) := lim_neg _
   have hk' : ¬ (g.n : Int) < m := by omega
   simp -dsimp -implicitDefEqProofs (disch := try exact zdE) only [go_sem, k3, k4, hk']
   first | refine zaa (zbp _ _ (by omega) (by omega)) (by simp) ?_ | refine zab (zbp _ _ (by omega) (by omega)) (by simp) ?_
   simp -dsimp -implicitDefEqProofs (disch := try exact zdE) only [go_sem, k3, k4]
   first | refine zaa (neg_ret _ (by omega)) (by simp) ?_ | refine zab (neg_ret _ (by omega)) (by simp) ?_
   simp -dsimp -implicitDefEqProofs (disch := try exact zdE) only [go_sem, k3, k4]
   first | refine zaa (zbp _ _ (by omega) (by omega)) (by simp) ?_ | refine zab (zbp _ _ (by omega) (by omega)) (by simp) ?_
   simp -dsimp -implicitDefEqProofs (disch := try exact zdE) only [go_sem, k3, k4, f1, f2]
   exact ⟨(a + 1, H4, _), rfl, zdo, zdo⟩
 ·exact sgo trivial
  done
end Go.Gim
/- The law SolveNear: a step solves what it should, but for rounding. -/
set_option maxRecDepth 100000
set_option maxHeartbeats 4000000
namespace Go.Gim
open Go.Proofs
theorem SolveNear_true (n : Int) (rows : List Row4) (x : List Int) (raise : Int) (hn : In64 n) (hl : rows.length ≤ 9223372036854775807) (hr : ∀ r ∈ rows, r.co.length ≤ 9223372036854775807) (hxl : x.length ≤ 9223372036854775807) :
  Ret pg zb4 [.int .i64 n, .sl (rows.map RV), ints x, .int .i64 raise] (.bool true) := by
 by_cases hrd : rd19B n 8 rows 1 = true
 ·by_cases h20 : (20 : Int) < rows.length
  ·exact near_easy n rows x raise hn hl hr hxl (.inr (.inl h20))
  ·obtain ⟨h1, h2, h3⟩ := rd19_ok.1 hrd
   obtain ⟨g1, g2, g3⟩ := gnewE_ok h1
   obtain ⟨m, rfl⟩ : ∃ m : Nat, n = m := ⟨n.toNat, by omega⟩
   have hG : rd19G m 8 rows [] 1 = ⟨m, rows, mirM [] m, List.replicate m 0, 0, 1⟩ := by unfold rd19G; rw [if_pos hrd]; rfl
   have easy := fun h => near_easy m rows x raise hn hl hr hxl (.inr (.inr h))
   by_cases hx : x.length = m ∧ zf6 x = true
   ·have ok := gz_ok (m := m) (by omega) g2 g3 hx.1 hx.2
    by_cases hk : raise < 0 ∨ 12 < raise
    ·exact easy ⟨1, by decide, step_bad2 _ x raise hxl (by rw [hG]; exact hx.1) hx.2 hk⟩
    ·obtain ⟨r, rfl⟩ : ∃ r : Nat, raise = r := ⟨raise.toNat, by omega⟩
     have hs := step_ret (rd19G m 8 rows [] 1) x r (by rw [hG]; exact ok) (by rw [hG]; show 0 < m; omega) (by omega)
     by_cases hB : stepB (rd19G m 8 rows [] 1) x r = true
     ·exact near_main m rows x r (by omega) hr hrd (by rw [hG]; exact ok) (by rw [hG]) (by omega) (by omega) hB (by rw [hG]; exact moreI_one m rows _ _ _ r (by omega))
     ·rw [if_neg hB] at hs
      exact easy ⟨80, by decide, hs⟩
   ·refine easy ⟨170, by decide, step_bad1 _ x raise hxl ?_⟩
    rw [hG]
    show x.length ≠ m ∨ _
    by_cases h : x.length = m
    ·right
     cases h2 : zf6 x
     ·rfl
     ·exact absurd ⟨h, h2⟩ hx
    ·exact .inl h
 ·exact near_easy n rows x raise hn hl hr hxl (.inl (by simpa using hrd))
end Go.Gim

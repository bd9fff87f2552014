import Derived.Test.YtjkjpjneeioeiaaGreatSV6
import Derived.Test.YtjkjpjneeioeiaaGreatLR6
import Derived.Test.YtjkjpjneeioeiaaGreatGSR
import Derived.Test.YtjkjpjneeioeiaaGreatRK
import Derived.Test.YtjkjpjneeioeiaaGreatRD8
import Derived.Test.YtjkjpjneeioeiaaGreatSW2
set_option linter.unusedSimpArgs false
set_option linter.unusedVariables false
/- Reference 19: the whole number nearest to a quotient. -/
set_option maxRecDepth 100000
set_option maxHeartbeats 4000000
namespace Go.Gim
open Go.Proofs
theorem dlim_mono {x y : Int} (h : x.natAbs ≤ y.natAbs) : dlim x ≤ dlim y := dlim_of (Nat.lt_of_le_of_lt h (dlim_lt y))
theorem dlim_fd (x y : Int) : dlim (x.fdiv y) ≤ dlim x := by
 refine dlim_mono ?_
 match x, y with
 | 0, _ => simp
 | .ofNat (m + 1), .ofNat n => exact Nat.div_le_self _ _
 | .ofNat (m + 1), .negSucc n =>
  show m / (n + 1) + 1 ≤ m + 1
  have := Nat.div_le_self m (n + 1)
  omega
 | .negSucc m, 0 => simp
 | .negSucc m, .ofNat (n + 1) =>
  show m / (n + 1) + 1 ≤ m + 1
  have := Nat.div_le_self m (n + 1)
  omega
 | .negSucc m, .negSucc n =>
  show (m + 1) / (n + 1) ≤ m + 1
  exact Nat.div_le_self _ _
theorem fdiv_two {a b q : Int} (hb : 0 < b) (h1 : b * q ≤ a) (h2 : a < b * q + b) : a.fdiv b = q := by
 rw [Int.fdiv_eq_ediv_of_nonneg _ (by omega)]
 exact ((Int.ediv_emod_unique hb).2 ⟨show (a - b * q) + b * q = a by omega, by omega, by omega⟩).1
theorem near_round (num den : Int) (hd : 0 < den) : (2 * num + den).fdiv (2 * den) = num.fdiv den + if den ≤ 2 * num.fmod den then 1 else 0 := by
 have h1 := Int.mul_fdiv_add_fmod num den
 have h2 := Int.fmod_nonneg_of_pos num hd
 have h3 := Int.fmod_lt_of_pos num hd
 generalize num.fdiv den = q at *
 generalize num.fmod den = r at *
 have e : 2 * den * q = 2 * (den * q) := Int.mul_assoc _ _ _
 split
 ·refine fdiv_two (by omega) ?_ ?_
  ·rw [Int.mul_add, e]; omega
  ·rw [Int.mul_add, e]; omega
 ·refine fdiv_two (by omega) ?_ ?_
  ·rw [Int.add_zero, e]; omega
  ·rw [Int.add_zero, e]; omega
theorem rnearest_ret (num den : Int) (hd : 0 < den) (hn : dlim num ≤ 10000000) (hdl : dlim den ≤ 10000000) : Ret pg zeo [DV num, DV den] (.int .i64 (nearF num den)) := by
 have e := near_round num den hd
 have h2 := Int.fmod_nonneg_of_pos num hd
 have h3 := Int.fmod_lt_of_pos num hd
 have l1 := dlim_fd num den
 have l2 : dlim (num.fmod den) ≤ dlim den := dlim_mono (by omega)
 have l3 := dlim_add (num.fmod den) (num.fmod den)
 have l4 := dlim_add (num.fdiv den) 1
 have l5 := zb2 (x := 1) (by omega)
 have l6 := zb2 (x := 10000000) (by omega)
 have l7 := zb2 (x := -10000000) (by omega)
 have cq := r_quo num den (by omega) (by omega) (by omega)
 unfold nearF
 rw [e]
 refine gimbalref19_nearest.of rfl (W_b ?_)
 unfold gimbalref19_nearest.k gimbalref19_nearest.res Ot kp kd Oy Om OL Oc ci
 refine sgo ?_
 first | refine zaa (cq) (by simp) ?_ | refine zab (cq) (by simp) ?_
 generalize num.fdiv den = q at *
 generalize num.fmod den = t at *
 refine sgo ?_
 first | refine zaa (r_add t t (by omega) (by omega)) (by simp) ?_ | refine zab (r_add t t (by omega) (by omega)) (by simp) ?_
 refine sgo ?_
 first | refine zaa (r_cmp (t + t) den (by omega) (by omega)) (by simp) ?_ | refine zab (r_cmp (t + t) den (by omega) (by omega)) (by simp) ?_
 refine sgo ?_
 obtain ⟨q', hq⟩ : ∃ q' : Int, (q + if den ≤ 2 * t then 1 else 0) = q' := ⟨_, rfl⟩
 rw [hq]
 have l8 : dlim q' ≤ 10000002 := by
  rw [← hq]
  split
  ·omega
  ·rw [Int.add_zero]; omega
 refine csel_meet (fun env G nx => env 5 = .ptr 10 1 0 0 ∧ 10 < nx ∧ G 10 = some ⟨[DV q'], 2⟩) (fun h5 => ?_) (fun h5 => ?_) ?_
 ·have h5 : 0 ≤ (t + t - den).sign := by simpa using h5
  have h6 : den ≤ 2 * t := by
   rcases Int.lt_or_le (t + t - den) 0 with h | h
   ·have := sign_neg_iff.2 h; omega
   ·omega
  rw [if_pos h6] at hq
  refine sgo ?_
  first | refine zaa (r_of 1 (by omega)) (by simp) ?_ | refine zab (r_of 1 (by omega)) (by simp) ?_
  refine sgo ?_
  first | refine zaa (r_add q 1 (by omega) (by omega)) (by simp) ?_ | refine zab (r_add q 1 (by omega) (by omega)) (by simp) ?_
  simp -dsimp -implicitDefEqProofs (disch := try exact zdE) only [go_sem, hq]
  done
 ·have h5 : ¬ 0 ≤ (t + t - den).sign := by simpa using h5
  have h6 : ¬ den ≤ 2 * t := by
   intro h
   have : 0 ≤ (t + t - den).sign := Int.sign_nonneg_iff.2 (by omega)
   omega
  rw [if_neg h6, Int.add_zero] at hq
  simp -dsimp -implicitDefEqProofs (disch := try exact zdE) only [go_sem, hq]
  done
 ·rintro env G nx ⟨f5, fn, g5⟩
  simp -dsimp -implicitDefEqProofs (disch := try exact zdE) only [go_sem, f5, g5]
  first | refine zaa (r_of 10000000 (by omega)) (by simp) ?_ | refine zab (r_of 10000000 (by omega)) (by simp) ?_
  simp -dsimp -implicitDefEqProofs (disch := try exact zdE) only [go_sem, f5, g5]
  first | refine zaa (r_cmp q' 10000000 (by omega) (by omega)) (by simp) ?_ | refine zab (r_cmp q' 10000000 (by omega) (by omega)) (by simp) ?_
  simp -dsimp -implicitDefEqProofs (disch := try exact zdE) only [go_sem, f5, g5]
  first | refine zaa (r_minus 10000000 (by omega)) (by simp) ?_ | refine zab (r_minus 10000000 (by omega)) (by simp) ?_
  simp -dsimp -implicitDefEqProofs (disch := try exact zdE) only [go_sem, f5, g5]
  first | refine zaa (r_cmp q' (-10000000) (by omega) (by omega)) (by simp) ?_ | refine zab (r_cmp q' (-10000000) (by omega) (by omega)) (by simp) ?_
  by_cases h1 : 10000000 < q'
  ·have s1 : 0 < (q' - 10000000).sign := by rw [zek]; omega
   simp -dsimp -implicitDefEqProofs (disch := try exact zdE) only [go_sem, f5, g5, s1]
   congr 2; omega
  ·have s1 : ¬ 0 < (q' - 10000000).sign := by rw [zek]; omega
   by_cases h2 : q' < -10000000
   ·have s2 : (q' - -10000000).sign < 0 := by rw [sign_neg_iff]; omega
    simp -dsimp -implicitDefEqProofs (disch := try exact zdE) only [go_sem, f5, g5, s1, s2]
    congr 2; omega
   ·have s2 : ¬ (q' - -10000000).sign < 0 := by rw [sign_neg_iff]; omega
    simp -dsimp -implicitDefEqProofs (disch := try exact zdE) only [go_sem, f5, g5, s1, s2]
    first | refine zaa (r_small q' (by omega)) (by simp) ?_ | refine zab (r_small q' (by omega)) (by simp) ?_
    refine sgo ?_
    congr 2; omega
end Go.Gim
/- Reference 18: how steep the cost is, as a row that may be written. -/
set_option maxRecDepth 100000
set_option maxHeartbeats 4000000
namespace Go.Gim
open Go.Proofs
theorem rsteep18_G (g : Gr) (x : List Int) (h : GOkay g x) (h1 : 1 ≤ g.n) (H0 : Hp) (n0 : Nat) :
  ∃ H' n' id, (n0 ≤ id ∧ id < n' ∧ H' id = some ⟨(zed g x).map DV, 2⟩ ∧ ∀ b, b < n0 → H' b = H0 b) ∧ RetG pg zd3 [DGV g, ints x] H0 n0 (.own id g.n) H' n' := by
 suffices h : ∃ r H' n', (∃ id, r = .own id g.n ∧ n0 ≤ id ∧ id < n' ∧ H' id = some ⟨(zed g x).map DV, 2⟩ ∧ ∀ b, b < n0 → H' b = H0 b) ∧ RetG pg zd3 [DGV g, ints x] H0 n0 r H' n' by
  obtain ⟨_, H', n', ⟨id, rfl, h1⟩, h⟩ := h
  exact ⟨H', n', id, h1, h⟩
 obtain ⟨hn, h11, h60, hr, hx, hsq, hq, sP, sQ, sc, sd⟩ := h
 have hcl : (za6 g x).length = g.rows.length := by simp [za6]
 have hcr : ∀ l ∈ za6 g x, l.length = g.n ∧ ∀ v ∈ l, In64 v := fun l hl => by
  obtain ⟨r, hr', rfl⟩ := List.mem_map.1 hl
  have h1 := (hr r hr').len
  exact ⟨by simp [zcq]; omega, fun v hv => by have := steepR_bd (x := x) (hr r hr') v hv; exact ⟨by omega, by omega⟩⟩
 have hcin := fun l hl => (hcr l hl).2
 have hsl : (zed g x).length = g.n := by simp [zed]
 have e1 := numbers_ret x (by omega) hx.in64
 have hS0 : ∀ k, stS g x 0 k = zat g.P x g.n k - g.Q.getD k 0 := fun k => by unfold stS colS; rw [List.take_zero]; simp [sumL]
 have hSl : ∀ i k, lim (stS g x i k) ≤ 1000 := fun i k => by
  have l2 := colS_lim hcin i k
  have l3 := zh4 h11 sP hx k
  have l4 := sQ k
  have l5 := zia (zat g.P x g.n k) (g.Q.getD k 0)
  have l6 := zb8 (colS (za6 g x) i k) g.den
  have l7 := zib (zat g.P x g.n k - g.Q.getD k 0) (colS (za6 g x) i k * g.den)
  unfold stS; omega
 refine gimbalref18_Steep.ofG rfl (W_b ?_)
 unfold gimbalref18_Steep.k gimbalref18_Steep.res Ot kp kd Oy Om Ol OL Oq Oi Oc On ci
 refine sgo ?_
 first | refine zaa (e1) (by simp) ?_ | refine zab (e1) (by simp) ?_
 refine sgo ?_
 obtain ⟨H1, n1, id, ⟨c1, c2, c3, c4⟩, hc⟩ := rslope_G g.P g.Q x g.c g.n H0 (n0 + 8) (by omega) h1 hsq hq hn (fun i j => by have := dl_of (sP i j); omega) (fun i => by have := dl_of (sQ i); omega) (fun i => by have := dl_of (hx.lim i); omega)
 refine zf6 hc ?_
 refine sgo ?_
 rw [show (List.range g.n).map (fun k => zat g.P x g.n k - g.Q.getD k 0) = (List.range g.n).map (stS g x 0) from List.map_congr_left fun k _ => (hS0 k).symm] at c3
 refine zeu (T := Nat × Hp × Nat) (fun t => ⟨E [(1, ints x), (2, .pp (DGV g)), (5, .own id g.n), (6, .int .i64 t.1)], t.2.1, t.2.2, t.2.2⟩)
  (fun t => t.1 ≤ g.rows.length ∧ id < t.2.2 ∧ (∀ b, b < n0 → t.2.1 b = H0 b) ∧ t.2.1 id = some ⟨((List.range g.n).map (stS g x t.1)).map DV, 2⟩) (fun t => g.rows.length - t.1) (0, H1, _) (Ghost.refl _) ⟨zdo, zdo, fun b hb => c4 b (by omega), c3⟩ ?_
 clear c3
 rintro ⟨i, H, nx⟩ ⟨i1, i2, i4, i3⟩
 dsimp only at i1 i2 i3 i4
 by_cases hi : i < g.rows.length
 ·have hri := hr _ (zan default hi)
  have hml := hcr _ (zan [] (show i < (za6 g x).length by omega))
  have hgs : (za6 g x).getD i [] = zcq (g.rows.getD i default) x := by simp [za6, List.getD_eq_getElem?_getD, hi]
  have hst := fun k => colS_step (ls := za6 g x) (i := i) (by omega) k
  rw [hgs] at hml hst
  obtain ⟨hl1, hl2⟩ := hml
  generalize hX : g.rows.getD i default = r at *
  simp -dsimp -implicitDefEqProofs (disch := try exact zdE) only [go_sem, hX]
  first | refine zaa (rsteep_ret r x hri hx) (by simp) ?_ | refine zab (rsteep_ret r x hri hx) (by simp) ?_
  rw [midF_zero (stS g x i) (stS g x (i + 1))] at i3
  refine sgo ?_
  refine zeu (T := Nat × Hp × Nat) (fun t => ⟨E [(1, ints x), (2, .pp (DGV g)), (5, .own id g.n), (6, .int .i64 i), (7, ints (zcq r x)), (8, .int .i64 t.1)], t.2.1, t.2.2, t.2.2⟩)
   (fun t => t.1 ≤ g.n ∧ id < t.2.2 ∧ (∀ b, b < n0 → t.2.1 b = H0 b) ∧ t.2.1 id = some ⟨((List.range g.n).map (midF (stS g x i) (stS g x (i + 1)) t.1)).map DV, 2⟩) (fun t => g.n - t.1) (0, H, _) (Ghost.refl _) ⟨zdo, zdo, i4, i3⟩ ?_
  clear i3
  rintro ⟨j, H2, nx2⟩ ⟨j1, j2, j4, j3⟩
  dsimp only at j1 j2 j3 j4
  by_cases hj : j < g.n
  ·have hv := getD_in hl2 j
   have hget := midF_get (f := stS g x i) (g := stS g x (i + 1)) hj
   have hset := midF_set (stS g x i) (stS g x (i + 1)) g.n j
   have e3 : stS g x i j + (zcq r x).getD j 0 * g.den = stS g x (i + 1) j := by unfold stS; rw [hst j]; grind
   have l1 := hSl i j
   have l7 := za8 hv
   have l8 := zb8 ((zcq r x).getD j 0) g.den
   have d1 := dlim_lim (stS g x i j)
   have d2 := dlim_lim ((zcq r x).getD j 0)
   have d3 := dlim_lim g.den
   have d4 := dlim_lim ((zcq r x).getD j 0 * g.den)
   simp -dsimp -implicitDefEqProofs (disch := try exact zdE) only [go_sem, j3, hget]
   first | refine zaa (r_of _ hv) (by simp) ?_ | refine zab (r_of _ hv) (by simp) ?_
   refine sgo ?_
   first | refine zaa (r_mul _ _ (by omega) (by omega)) (by simp) ?_ | refine zab (r_mul _ _ (by omega) (by omega)) (by simp) ?_
   refine sgo ?_
   first | refine zaa (r_add _ _ (by omega) (by omega)) (by simp) ?_ | refine zab (r_add _ _ (by omega) (by omega)) (by simp) ?_
   simp -dsimp -implicitDefEqProofs (disch := try exact zdE) only [go_sem, j3, e3, hset]
   generalize hG : Hp.upd H2 id _ = G
   exact ⟨(j + 1, G, _), Ghost.refl _, ⟨zdo, zdo, fun b hb => by dsimp only; rw [← hG, Hp.upd_ne _ _ (by omega)]; exact j4 b hb, zdf hG⟩, zdo⟩
  ·have hje : g.n = j := by omega
   subst hje
   rw [midF_all] at j3
   refine sgo ?_
   exact ⟨(i + 1, H2, _), Ghost.refl _, ⟨zdo, zdo, j4, j3⟩, zdo⟩
 ·have hie : g.rows.length = i := by omega
  subst hie
  rw [show (List.range g.n).map (stS g x g.rows.length) = zed g x from List.map_congr_left fun k _ => Int.add_comm _ _] at i3
  simp -dsimp -implicitDefEqProofs (disch := try exact zdE) only [go_sem, hsl]
  exact ⟨_, rfl, zdo, _, rfl, by omega, zdo, i3, i4⟩
end Go.Gim
/- Reference 19: where to look for less. -/
set_option maxRecDepth 100000
set_option maxHeartbeats 4000000
namespace Go.Gim
open Go.Proofs
theorem rstep_bad1 (g : Gr) (x : List Int) (k : Int) (hl : x.length ≤ 9223372036854775807) (h : x.length ≠ g.n ∨ zej x = false) : Ret pg zcn [DGV g, ints x, .int .i64 k] (.tup [.sl [], .int .i64 170]) := by
 have c := rstate_ret x hl
 refine gimbalref19_Step.of rfl (W_b ?_)
 unfold gimbalref19_Step.k gimbalref19_Step.res Ot kp kd Og Oy Om Ol OL Oq Oi Oc On ci
 by_cases hx : (x.length : Int) = g.n
 ·have hs : zej x = false := by rcases h with h | h; omega; exact h
  rw [hs] at c
  refine sgo ?_
  first | refine zaa (c) (by simp) ?_ | refine zab (c) (by simp) ?_
  simp -dsimp -implicitDefEqProofs (disch := try exact zdE) only [go_sem, hx]
  done
 ·refine sgo ?_
  first | refine zaa (c) (by simp) ?_ | refine zab (c) (by simp) ?_
  simp -dsimp -implicitDefEqProofs (disch := try exact zdE) only [go_sem, hx]
  done
theorem rstep_bad2 (g : Gr) (x : List Int) (k : Int) (hl : x.length ≤ 9223372036854775807) (hx : x.length = g.n) (hs : zej x = true) (h : k < 0 ∨ 12 < k) : Ret pg zcn [DGV g, ints x, .int .i64 k] (.tup [.sl [], .int .i64 1]) := by
 have c := rstate_ret x hl
 rw [hs] at c
 have hx' : (x.length : Int) = g.n := by omega
 refine gimbalref19_Step.of rfl (W_b ?_)
 unfold gimbalref19_Step.k gimbalref19_Step.res Ot kp kd Og Oy Om Ol OL Oq Oi Oc On ci
 by_cases h0 : k < 0
 ·refine sgo ?_
  first | refine zaa (c) (by simp) ?_ | refine zab (c) (by simp) ?_
  simp -dsimp -implicitDefEqProofs (disch := try exact zdE) only [go_sem, hx']
  done
 ·have h1 : 12 < k := by omega
  refine sgo ?_
  first | refine zaa (c) (by simp) ?_ | refine zab (c) (by simp) ?_
  simp -dsimp -implicitDefEqProofs (disch := try exact zdE) only [go_sem, hx']
  done
theorem four_in {i : Nat} (h : i ≤ 12) : In64 ((4 ^ i : Nat) : Int) := by
 have h1 := Nat.pow_le_pow_right (n := 4) (by decide) h
 generalize 4 ^ i = z at *
 exact ⟨by omega, by omega⟩
theorem rstep_ret (g : Gr) (x : List Int) (r : Nat) (h : GOkay g x) (hn0 : 0 < g.n) (hr : r ≤ 12) : Ret pg zcn [DGV g, ints x, .int .i64 r] (if stepB g x r = true then .tup [ints (stepL g x r), .int .i64 0] else .tup [.sl [], .int .i64 80]) := by
 have hx := h.len
 have h11 := h.hi
 have hsd := h.sd
 have hs := stateB_iff.2 h.state
 have c := rstate_ret x (by omega)
 rw [hs] at c
 have hx' : (x.length : Int) = g.n := by omega
 have dden := dl_of hsd
 have cc := rcurve_ret g x hx.symm h11 h.sixty h.right h.state h.sq (fun i j => by have := dl_of (h.sP i j); omega) (by omega)
 have hml := moreI_lim g r hr
 have dml := dl_of hml
 have dA : ∀ i j, dlim (stepA g x r i j) ≤ 20100 := fun i j => by have := dl_of (stepA_lim h hr i j); omega
 have dM := dlim_at_mat (n := g.n) dA
 have dS : ∀ i, i < g.n → dlim (downS g x i) ≤ 20100 := fun i hi => by
  have h1 := stC_lim h hi
  have h2 := zb8 (stepC g x i) (-1024)
  have h3 := za8 (x := -1024) ⟨by omega, by omega⟩
  have := dl_of (x := downS g x i) (L := 2010) (by unfold downS; omega)
  omega
 have cf := rdefinite_ret (L := 20100) (by omega) (mat g.n (stepA g x r)) g.n (by omega) (zgx _ _) dM
 have eF : defS g.n (at2 (mat g.n (stepA g x r))) = stepB g x r := defS_congr fun i j hi hj => zf8 hi hj
 rw [eF] at cf
 have cv := rsolve_ret (L := 20100) (by omega) (mat g.n (stepA g x r)) ((List.range g.n).map (downS g x)) g.n (by omega) (zgx _ _) (by simp) (fun i j _ _ => dM i j) (fun i hi => by rw [zaz 0 hi]; exact dS i hi)
 have e2 : rowF g.n (fun i => det g.n (setC (at2 (mat g.n (stepA g x r))) i fun i => ((List.range g.n).map (downS g x)).getD i 0)) = rowF g.n (stepN g x r) := zfl fun i hi => zax fun a b ha hb => by
  unfold setC
  split
  ·show ((List.range g.n).map (downS g x)).getD a 0 = _
   rw [zaz 0 ha]
  ·exact zf8 ha hb
 rw [e2] at cv
 have cd := rdet_ret (L := 20100) (by omega) g.n (mat g.n (stepA g x r)) (by omega) (zgx _ _) fun i j _ _ => dM i j
 have e1 : det g.n (at2 (mat g.n (stepA g x r))) = stepE g x r := zax fun i j hi hj => zf8 hi hj
 rw [e1] at cd
 have dE : dlim (stepE g x r) ≤ 1000000 := by
  have := det_dlim (n := g.n) (M := stepA g x r) (L := 20100) fun i j _ _ => dA i j
  have h2 : g.n * (20100 + g.n) ≤ 11 * (20100 + 11) := Nat.mul_le_mul h11 (by omega)
  unfold stepE; omega
 have dN : ∀ i, i < g.n → dlim (stepN g x r i) ≤ 1000000 := fun i hi => by
  have := det_dlim (n := g.n) (M := setC (stepA g x r) i (downS g x)) (L := 20100) fun a b ha hb => by
   unfold setC
   split
   ·exact dS _ (by assumption)
   ·exact dA a b
  have h2 : g.n * (20100 + g.n) ≤ 11 * (20100 + 11) := Nat.mul_le_mul h11 (by omega)
  unfold stepN; omega
 have hrow : ∀ k, ∀ v ∈ (List.range k).map (fun q => dvl (rowF g.n (stepA g x r q))), V.Pure v := fun k => zbq fun x => by simp
 have hC : ∀ i, i < g.n → (mat g.n (zbj g x)).getD i [] = rowF g.n (zbj g x i) := fun i hi => by unfold mat; rw [zaz [] hi]; rfl
 have hCl : (mat g.n (zbj g x)).length = g.n := (zgx _ _).1
 refine gimbalref19_Step.of rfl (W_b ?_)
 unfold gimbalref19_Step.k gimbalref19_Step.res Ot kp kd Og Oy Om Ol OL Oq Oi Oc On ci
 refine sgo ?_
 first | refine zaa (c) (by simp) ?_ | refine zab (c) (by simp) ?_
 simp -dsimp -implicitDefEqProofs (disch := try exact zdE) only [go_sem, hx']
 first | refine zaa (r_of 0 (by omega)) (by simp) ?_ | refine zab (r_of 0 (by omega)) (by simp) ?_
 refine sgo ?_
 refine csel_meet (fun env G nx => env 1 = ints x ∧ env 3 = .pp (DGV g) ∧ env 9 = .ptr 22 1 0 0 ∧ 22 < nx ∧ G 22 = some ⟨[DV (moreI g r)], 2⟩) (fun h5 => ?_) (fun h5 => ?_) ?_
 ·have h5 : (0 : Int) < r := by simpa using h5
  refine sgo ?_
  refine zam (T := Nat × Hp × Nat) (fun t => ⟨E [(1, ints x), (2, .int .i64 r), (3, .pp (DGV g)), (9, .ptr 22 1 0 0), (10, .int .i64 ((t.1 : Int) + 1))], t.2.1, t.2.2, t.2.2⟩)
   (fun t => t.1 + 1 ≤ r ∧ 22 < t.2.2 ∧ t.2.1 22 = some ⟨[DV (g.den * ((4 ^ t.1 : Nat) : Int))], 2⟩) (fun t => r - t.1) (0, Hp.upd (fun _ => none) 22 (some ⟨[DV g.den], 2⟩), 30) rfl ⟨zdo, zdo, by dsimp only; rw [Hp.upd_same]; simp⟩ ?_
  rintro ⟨i, H, nx⟩ ⟨i1, i2, i3⟩
  dsimp only at i1 i2 i3
  by_cases hi : i + 1 < r
  ·have h7 : (i : Int) + 1 < r := by omega
   have e2 : IntKind.i64.wrap ((i : Int) + 1 + 1) = ((i + 1 : Nat) : Int) + 1 := by rw [IntWalk.i64_in _ (by omega)]; omega
   have e3 : g.den * ((4 ^ i : Nat) : Int) * 4 = g.den * ((4 ^ (i + 1) : Nat) : Int) := by rw [Int.mul_assoc, Nat.pow_succ]; rfl
   have d1 := zh1 g.den ((4 ^ i : Nat) : Int)
   have d2 := zb2 (four_in (i := i) (by omega))
   have d3 := zb2 (x := 4) (by omega)
   simp -dsimp -implicitDefEqProofs (disch := try exact zdE) only [go_sem, i3, h7]
   first | refine zaa (r_of 4 (by omega)) (by simp) ?_ | refine zab (r_of 4 (by omega)) (by simp) ?_
   simp -dsimp -implicitDefEqProofs (disch := try exact zdE) only [go_sem, i3]
   first | refine zaa (r_mul (g.den * ((4 ^ i : Nat) : Int)) 4 (by omega) (by omega)) (by simp) ?_ | refine zab (r_mul (g.den * ((4 ^ i : Nat) : Int)) 4 (by omega) (by omega)) (by simp) ?_
   simp -dsimp -implicitDefEqProofs (disch := try exact zdE) only [go_sem, i3, e2, e3]
   exact ⟨(i + 1, H.upd 22 (some ⟨[DV (g.den * ((4 ^ (i + 1) : Nat) : Int))], 2⟩), _), rfl, ⟨zdo, zdo, by dsimp only; exact Hp.upd_same _ _ _⟩, zdo⟩
  ·have h7 : ¬ (i : Int) + 1 < r := by omega
   have e : g.den * ((4 ^ i : Nat) : Int) = moreI g r := by
    unfold moreI
    rw [if_neg (by omega), Nat.pow_mul, show r - 1 = i by omega]
   rw [e] at i3
   simp -dsimp -implicitDefEqProofs (disch := try exact zdE) only [go_sem, h7]
   exact i3
 ·have h5 : ¬ (0 : Int) < r := by simpa using h5
  have e : moreI g r = 0 := by unfold moreI; rw [if_pos (by omega)]
  rw [e]
  exact sgo trivial
  done
 rintro env G nx ⟨f1, f3, f9, fn, g22⟩
 obtain ⟨KP, hKP⟩ : ∃ KP, mat g.n (zbj g x) = KP := ⟨_, rfl⟩
 rw [hKP] at cc hCl hC
 simp -dsimp -implicitDefEqProofs (disch := try exact zdE) only [go_sem, f1, f3, f9, g22]
 first | refine zaa (cc) (by simp) ?_ | refine zab (cc) (by simp) ?_
 simp -dsimp -implicitDefEqProofs (disch := try exact zdE) only [go_sem, f1, f3, f9, g22]
 refine zam (T := Nat × V × Hp × Nat) (fun t => ⟨E [(1, ints x), (3, .pp (DGV g)), (9, .ptr 22 1 0 0), (11, .sl (KP.map dvl)), (12, t.2.1), (13, .int .i64 t.1)], t.2.2.1, t.2.2.2, t.2.2.2⟩)
  (fun t => t.1 ≤ g.n ∧ 22 < t.2.2.2 ∧ t.2.2.1 22 = some ⟨[DV (moreI g r)], 2⟩ ∧ Row 23 t.2.2.1 t.2.2.2 t.2.1 1 ((List.range t.1).map fun q => dvl (rowF g.n (stepA g x r q)))) (fun t => g.n - t.1) (0, .nil, G, _) rfl ⟨zdo, zdo, g22, Row.nil _ _ _ _⟩ ?_
 rintro ⟨i, w, H, nx2⟩ ⟨i1, i2, i3, i4⟩
 dsimp only at i1 i2 i3 i4
 by_cases hi : i < g.n
 ·have hrF := hC i hi
  have hlr := zdx g.n (zbj g x i)
  have hga : (rowF g.n (zbj g x i)).getD i 0 = zbj g x i i := zhr hi
  have hset : (rowF g.n (zbj g x i)).set i (zbj g x i i + moreI g r) = rowF g.n (stepA g x r i) := by
   rw [rowF_set]
   refine zfl fun q _ => ?_
   unfold stepA dampM
   by_cases h : q = i
   ·subst h; rw [if_pos rfl, if_pos rfl]
   ·rw [if_neg h, if_neg fun e => h e.symm, Int.add_zero]
  have hls : ((rowF g.n (stepA g x r i)).map DV).length = g.n := by simp [rowF]
  have e8 : V.sl ((rowF g.n (stepA g x r i)).map DV) = dvl (rowF g.n (stepA g x r i)) := rfl
  have d1 := dl_of (curveAt_lim h i i)
  simp -dsimp -implicitDefEqProofs (disch := try exact zdE) only [go_sem, hCl, hrF]
  refine effB_copy (H0 := H) rfl (by simp [rowOk, V.isJunk, V.cells, V.cellOk, DV]) (by decide) (by simp [rowF]; omega) (by simp [rowF]; omega) ?_
  simp -dsimp -implicitDefEqProofs (disch := try exact zdE) only [go_sem, hlr, hga, i3, zeg]
  first | refine zaa (r_add (zbj g x i i) (moreI g r) (by omega) (by omega)) (by simp) ?_ | refine zab (r_add (zbj g x i i) (moreI g r) (by omega) (by omega)) (by simp) ?_
  simp -dsimp -implicitDefEqProofs (disch := try exact zdE) only [go_sem, hlr, hset, zeg]
  generalize hG2 : Hp.upd _ (nx2 + 9) _ = G2
  have g1 : ∀ c, c < nx2 → G2 c = H c := fun c hc => by rw [← hG2, Hp.upd_ne _ _ (by omega), Hp.upd_ne _ _ (by omega)]
  have g2 : G2 (nx2 + 9) = some ⟨(rowF g.n (stepA g x r i)).map DV, 2⟩ := by rw [← hG2, Hp.upd_same]
  clear hG2
  refine gh_row (lo := nx2) (es := 2) (ys := (rowF g.n (stepA g x r i)).map DV) 14 rfl (.inr ⟨nx2 + 9, by rw [hls]; rfl, by omega, by omega, g2⟩) (zbq fun x => by simp) (fun p hp hne c hc => ?_) fun H2 hH2 => ?_
  ·have h22 : 22 ≠ c := by omega
   simp only [List.mem_cons, List.not_mem_nil, or_false] at hp
   rcases hp with rfl | rfl | rfl | rfl | rfl | rfl | rfl <;> first | exact absurd rfl hne | exact sub_ints _ _ | (simp [V.sub]; done) | exact i4.sub_ge (by omega) | (simp [V.sub, fz1, h22]; done)
  ·have i3' : H2 22 = some ⟨[DV (moreI g r)], 2⟩ := hH2 22 _ i2 ((g1 22 i2).trans i3) (by simp)
   have i4' : Row 23 H2 nx2 w 1 ((List.range i).map fun q => dvl (rowF g.n (stepA g x r q))) := (i4.same (H' := G2) g1 (Nat.le_refl _)).told (lo := nx2) (Nat.le_refl _) (Nat.le_refl _) (hrow i) hH2
   simp -dsimp -implicitDefEqProofs (disch := try exact zdE) only [go_sem, e8]
   refine za1 (lo := 23) (nx := nx2) (H0 := H2) (xs := (List.range i).map fun q => dvl (rowF g.n (stepA g x r q))) i4' (by omega) rfl (by omega) (by omega) (by simp [rowOk, V.cells, V.cellOk, dvl, V.isJunk]) (by decide) (by simp; omega) (by simp; omega) fun v2 H3 r1 _ _ r4 => ?_
   rw [zb9 (fun q => dvl (rowF g.n (stepA g x r q)))] at r1
   refine sgo ?_
   exact ⟨(i + 1, v2, H3, _), rfl, ⟨zdo, zdo, (r4 22 (by omega)).trans i3', r1.same (fun _ _ => rfl) zdo⟩, zdo⟩
 ·have hie : i = g.n := by omega
  subst hie
  obtain ⟨c, hu, c1, c2, c3⟩ := i4.own_of (by simp; omega)
  rw [List.length_map, List.length_range] at hu
  subst hu
  have eM : (List.range g.n).map (fun q => dvl (rowF g.n (stepA g x r q))) = (mat g.n (stepA g x r)).map dvl := by unfold mat; rw [List.map_map]; rfl
  rw [eM] at c3
  have hlm : ((mat g.n (stepA g x r)).map dvl).length = g.n := by rw [List.length_map]; exact (zgx _ _).1
  by_cases hB : stepB g x r = true
  ·rw [hB] at cf
   simp -dsimp -implicitDefEqProofs (disch := try exact zdE) only [go_sem, hCl]
   refine zb1 (fz1 c ((mat g.n (stepA g x r)).map dvl)) (zet c3 (zbq fun x => by simp)) (by simp -dsimp -implicitDefEqProofs (disch := try exact zdE) only [go_sem, subO_some hlm]) cf (by simp) ?_
   simp -dsimp -implicitDefEqProofs (disch := try exact zdE) only [go_sem, subO_some hlm]
   obtain ⟨H5, n5, c5, ⟨d1, d2, d3, d4⟩, hc⟩ := rsteep18_G g x h hn0 (Hp.sub (fz1 c ((mat g.n (stepA g x r)).map dvl)) H) (nx2 + 13)
   refine zf6 hc ?_
   have hsl : (zed g x).length = g.n := by simp [zed]
   simp -dsimp -implicitDefEqProofs (disch := try exact zdE) only [go_sem, d3, hsl]
   refine zam (T := Nat × Hp × Nat) (fun t => ⟨E [(12, .sl ((mat g.n (stepA g x r)).map dvl)), (16, .own c5 g.n), (17, .int .i64 t.1)], t.2.1, t.2.2, t.2.2⟩)
    (fun t => t.1 ≤ g.n ∧ c5 < t.2.2 ∧ t.2.1 c5 = some ⟨((List.range g.n).map (midD g x t.1)).map DV, 2⟩) (fun t => g.n - t.1) (0, H5, _) rfl ⟨zdo, zdo, by dsimp only; rw [midD_zero]; exact d3⟩ ?_
   rintro ⟨j, H6, nx6⟩ ⟨j1, j2, j3⟩
   dsimp only at j1 j2 j3
   by_cases hj : j < g.n
   ·have hget : ((List.range g.n).map (midD g x j)).getD j 0 = stepC g x j := by rw [zaz 0 hj]; unfold midD; rw [if_neg (by omega)]
    have hset := midD_set g x g.n j
    unfold downS at hset
    have q1 := dl_of (stC_lim h hj)
    have q2 := zb2 (x := -1024) ⟨by omega, by omega⟩
    simp -dsimp -implicitDefEqProofs (disch := try exact zdE) only [go_sem, j3, hget]
    first | refine zaa (r_of (-1024) (by omega)) (by simp) ?_ | refine zab (r_of (-1024) (by omega)) (by simp) ?_
    simp -dsimp -implicitDefEqProofs (disch := try exact zdE) only [go_sem, j3, hget]
    first | refine zaa (r_mul (stepC g x j) (-1024) (by omega) (by omega)) (by simp) ?_ | refine zab (r_mul (stepC g x j) (-1024) (by omega) (by omega)) (by simp) ?_
    simp -dsimp -implicitDefEqProofs (disch := try exact zdE) only [go_sem, j3, hset]
    generalize hG6 : Hp.upd H6 c5 _ = G6
    exact ⟨(j + 1, G6, _), rfl, ⟨zdo, zdo, zdf hG6⟩, zdo⟩
   ·have hje : j = g.n := by omega
    rw [hje, midD_all] at j3
    have hl5 : (((List.range g.n).map (downS g x)).map DV).length = g.n := by simp
    rw [if_pos hB, hje]
    simp -dsimp -implicitDefEqProofs (disch := try exact zdE) only [go_sem, j3]
    refine zd7 c5 (((List.range g.n).map (downS g x)).map DV) j3 (zbq fun x => by simp) (by simp only [List.map_cons, List.map_nil, V.sub, fz1, if_true, hl5]; rfl) cv (by simp) ?_
    refine sgo ?_
    first | refine zaa (cd) (by simp) ?_ | refine zab (cd) (by simp) ?_
    refine sgo ?_
    have hNl := zdx g.n (stepN g x r)
    have hEp : 0 < stepE g x r := defS_det hB
    refine zam (T := Nat × V × Hp × Nat) (fun t => ⟨E [(18, dvl (rowF g.n (stepN g x r))), (19, .ptr (nx6 + 10) 1 0 0), (20, t.2.1), (21, .int .i64 t.1)], t.2.2.1, t.2.2.2, t.2.2.2⟩)
     (fun t => t.1 ≤ g.n ∧ nx6 + 10 < t.2.2.2 ∧ t.2.2.1 (nx6 + 10) = some ⟨[DV (stepE g x r)], 2⟩ ∧ Row (nx6 + 11) t.2.2.1 t.2.2.2 t.2.1 1 (((List.range t.1).map (stepD g x r)).map (V.int .i64))) (fun t => g.n - t.1) (0, .nil, (H6.upd c5 none).upd (nx6 + 10) (some ⟨[DV (stepE g x r)], 2⟩), _) rfl ⟨zdo, zdo, by dsimp only; exact Hp.upd_same _ _ _, Row.nil _ _ _ _⟩ ?_
    rintro ⟨k, w7, H7, nx7⟩ ⟨k1, k2, k3, k4⟩
    dsimp only at k1 k2 k3 k4
    by_cases hk : k < g.n
    ·have hNk : (rowF g.n (stepN g x r)).getD k 0 = stepN g x r k := zhr hk
     have cn := rnearest_ret (stepN g x r k) (stepE g x r) hEp (by have := dN k hk; omega) (by omega)
     simp -dsimp -implicitDefEqProofs (disch := try exact zdE) only [go_sem, k3, hNk, hNl]
     first | refine zaa (cn) (by simp) ?_ | refine zab (cn) (by simp) ?_
     refine sgo ?_
     refine za1 (lo := nx6 + 11) (nx := nx7) (H0 := H7) (xs := ((List.range k).map (stepD g x r)).map (V.int .i64)) k4 (by omega) rfl (by omega) (by omega) (by simp [rowOk, V.cells, V.cellOk, V.isJunk]) (by decide) (by simp; omega) (by simp; omega) fun v2 H8 r1 _ _ r4 => ?_
     rw [zdj, show (List.range k).map (stepD g x r) ++ [nearF (stepN g x r k) (stepE g x r)] = (List.range (k + 1)).map (stepD g x r) from zb9 _ _] at r1
     refine sgo ?_
     exact ⟨(k + 1, v2, H8, _), rfl, ⟨zdo, zdo, (r4 _ (by omega)).trans k3, r1.same (fun _ _ => rfl) zdo⟩, zdo⟩
    ·have hke : k = g.n := by omega
     rw [hke] at k4
     simp -dsimp -implicitDefEqProofs (disch := try exact zdE) only [go_sem, hNl]
     rw [k4.frz (zc2 fun x => rfl)]
     rfl
  ·rw [show stepB g x r = false by simpa using hB] at cf
   simp -dsimp -implicitDefEqProofs (disch := try exact zdE) only [go_sem, hCl]
   refine zb1 (fz1 c ((mat g.n (stepA g x r)).map dvl)) (zet c3 (zbq fun x => by simp)) (by simp -dsimp -implicitDefEqProofs (disch := try exact zdE) only [go_sem, subO_some hlm]) cf (by simp) ?_
   simp -dsimp -implicitDefEqProofs (disch := try exact zdE) only [go_sem, subO_some hlm, hB]
   done
end Go.Gim
/- The law SolveSteps: where to look for less is as the document says. -/
set_option maxRecDepth 100000
set_option maxHeartbeats 4000000
namespace Go.Gim
open Go.Proofs
theorem zrep19 (m i : Nat) : (List.replicate m (0 : Int)).getD i 0 = 0 := by
 rw [List.getD_eq_getElem?_getD, List.getElem?_replicate]
 split <;> rfl
theorem gp_ok {m : Nat} {rows : List Row4} {prior : List (List Int)} {den : Int} {x : List Int} (hm : 1 ≤ m ∧ m ≤ 11) (h60 : rows.length ≤ 60) (hr : ∀ r ∈ rows, zgt r m = true) (hp : ∀ r ∈ prior, ∀ v ∈ r, In64 v) (hd : In64 den) (hxm : x.length = m) (hst : zej x = true) : GOkay ⟨m, rows, mirM prior m, List.replicate m 0, 0, den⟩ x where
 len := hxm
 hi := hm.2
 sixty := h60
 right := fun r h => by rw [hxm]; exact rightB_iff.1 (hr r h)
 state := stateB_iff.1 hst
 sq := mirM_sq _ _
 ql := by simp
 sP := fun i j => Nat.le_trans (za8 (at2_in (fun r h => mirM_in (rows := prior) hp m r h) i j)) (by decide)
 sQ := fun i => by show lim ((List.replicate m 0).getD i 0) ≤ 100; rw [zrep19, zbn]; omega
 sc := by show lim 0 ≤ 100; rw [zbn]; omega
 sd := Nat.le_trans (za8 hd) (by decide)
theorem steps_both (g : Gr) (x : List Int) (raise : Int) (hn0 : 0 < g.n) (hxl : x.length ≤ 9223372036854775807) (hok : x.length = g.n → zej x = true → GOkay g x) :
  ∃ d e, Ret pg zdb [GV g, ints x, .int .i64 raise] (.tup [ints d, .int .i64 e]) ∧ Ret pg zcn [DGV g, ints x, .int .i64 raise] (.tup [ints d, .int .i64 e]) ∧ d.length ≤ g.n := by
 by_cases hx : x.length = g.n ∧ zej x = true
 ·by_cases hk : raise < 0 ∨ 12 < raise
  ·exact ⟨[], 1, step_bad2 g x raise hxl hx.1 hx.2 hk, rstep_bad2 g x raise hxl hx.1 hx.2 hk, by simp⟩
  ·obtain ⟨r, rfl⟩ : ∃ r : Nat, raise = r := ⟨raise.toNat, by omega⟩
   have ok := hok hx.1 hx.2
   have a := step_ret g x r ok hn0 (by omega)
   have b := rstep_ret g x r ok hn0 (by omega)
   by_cases hB : stepB g x r = true
   ·rw [if_pos hB] at a b
    exact ⟨_, _, a, b, by simp [stepL]⟩
   ·rw [if_neg hB] at a b
    exact ⟨[], _, a, b, by simp⟩
 ·have h : x.length ≠ g.n ∨ zej x = false := by
   by_cases h : x.length = g.n
   ·right
    cases h2 : zej x
    ·rfl
    ·exact absurd ⟨h, h2⟩ hx
   ·exact .inl h
  exact ⟨[], 170, step_bad1 g x raise hxl h, rstep_bad1 g x raise hxl h, by simp⟩
theorem SolveSteps_true (n : Int) (rows : List Row4) (prior : List (List Int)) (den : Int) (x : List Int) (raise : Int) (hn : In64 n) (hl : rows.length ≤ 9223372036854775807) (hr : ∀ r ∈ rows, r.co.length ≤ 9223372036854775807) (hpl : prior.length ≤ 9223372036854775807) (hp : ∀ r ∈ prior, r.length ≤ 9223372036854775807 ∧ ∀ v ∈ r, In64 v) (hd : In64 den) (hxl : x.length ≤ 9223372036854775807) :
  Ret pg zfn [.int .i64 n, .sl (rows.map RV), .sl (prior.map ints), .int .i64 den, ints x, .int .i64 raise] (.bool true) := by
 have c1 := read19_ret n 5 den rows prior hl hr hpl hp hd
 refine gimballaw19_SolveSteps.of rfl (W_b ?_)
 unfold gimballaw19_SolveSteps.k gimballaw19_SolveSteps.res Ot kp Oh Oy Om OL ci
 by_cases hrd : rd19B n 5 rows den = true
 ·obtain ⟨h1, h2, h3⟩ := rd19_ok.1 hrd
  obtain ⟨g1, g2, g3⟩ := gnewE_ok h1
  obtain ⟨m, hm⟩ : ∃ m : Nat, n = m := ⟨n.toNat, by omega⟩
  have hG : rd19G n 5 rows prior den = ⟨m, rows, mirM prior m, List.replicate m 0, 0, den⟩ := by unfold rd19G; rw [if_pos hrd, hm]; rfl
  rw [hrd, hG] at c1
  obtain ⟨d, e, a, b, hdl⟩ := steps_both ⟨m, rows, mirM prior m, List.replicate m 0, 0, den⟩ x raise (by show 0 < m; omega) hxl fun hx hs => gp_ok (by omega) g2 (by rw [hm] at g3; exact g3) (fun r h => (hp r h).2) hd hx hs
  have cs := same19_ret d d (by have : d.length ≤ m := hdl; omega) (by have : d.length ≤ m := hdl; omega)
  rw [decide_eq_true rfl] at cs
  generalize (⟨m, rows, mirM prior m, List.replicate m 0, 0, den⟩ : Gr) = g at *
  refine sgo ?_
  first | refine zaa (awake19_ret) (by simp) ?_ | refine zab (awake19_ret) (by simp) ?_
  refine sgo ?_
  first | refine zaa (c1) (by simp) ?_ | refine zab (c1) (by simp) ?_
  refine sgo ?_
  first | refine zaa (a) (by simp) ?_ | refine zab (a) (by simp) ?_
  refine sgo ?_
  first | refine zaa (b) (by simp) ?_ | refine zab (b) (by simp) ?_
  refine sgo ?_
  first | refine zaa (cs) (by simp) ?_ | refine zab (cs) (by simp) ?_
  exact sgo trivial
  done
 ·have hrd : rd19B n 5 rows den = false := by simpa using hrd
  rw [hrd] at c1
  refine sgo ?_
  first | refine zaa (awake19_ret) (by simp) ?_ | refine zab (awake19_ret) (by simp) ?_
  refine sgo ?_
  first | refine zaa (c1) (by simp) ?_ | refine zab (c1) (by simp) ?_
  exact sgo trivial
  done
end Go.Gim

import Derived.Test.YtjkjpjneeioeiaaGreatRL0
import Derived.Test.YtjkjpjneeioeiaaGreatSM0
/- The references' products and quadratic functions. -/
set_option maxRecDepth 100000
set_option maxHeartbeats 4000000
set_option linter.unusedSimpArgs false
set_option linter.unusedVariables false
namespace Go.Gim
open Go.Proofs
theorem zh4 {f p : Nat → Int} {L : Nat} (h : ∀ i, dlim (f i) + dlim (p i) ≤ L) : ∀ n, dlim (sumN f p n) ≤ L + n
 | 0 => by have h0 : dlim 0 = 0 := (by simp [dlim, zbe]); simp only [sumN]; omega
 | n + 1 => by
  have h1 := zh4 h n
  have h2 := zgs (f n) (p n)
  have h3 := dlim_add (sumN f p n) (f n * p n)
  have h4 := h n
  rw [sumN]
  omega
theorem sumN_congr {f f' p p' : Nat → Int} : ∀ n, (∀ k, k < n → f k * p k = f' k * p' k) → sumN f p n = sumN f' p' n
 | 0, _ => rfl
 | n + 1, h => by rw [sumN, sumN, sumN_congr n fun k hk => h k (by omega), h n (by omega)]
theorem rdot_ret (x y : List Int) (hl : x.length ≤ 1000) (hy : x.length ≤ y.length) (sx : ∀ i, dlim (x.getD i 0) ≤ 2000000) (sy : ∀ i, dlim (y.getD i 0) ≤ 2000000) : Ret pg zda [dvl x, dvl y] (DV (sumN (fun k => x.getD k 0) (fun k => y.getD k 0) x.length)) := by
 refine gimbalref07_Dot.of rfl (W_b ?_)
 unfold gimbalref07_Dot.k gimbalref07_Dot.res Ot kp kd Oy Om OL Oi Oc On ci
 simp -dsimp -implicitDefEqProofs (disch := try exact zdE) only [go_sem, ← zi2]
 refine zaa (r_of 0 (by omega)) (by simp) ?_
 refine sgo ?_
 refine zel (T := Nat × Nat) (fun t => ⟨E [(0, dvl x), (1, dvl y), (4, .ptr 0 1 0 0), (5, .ptr 2 1 0 0), (6, .int .i64 t.1)], (Hp.upd (fun _ => none) 0 (some ⟨[DV 0], 2⟩)).upd 2 (some ⟨[DV (sumN (fun k => x.getD k 0) (fun k => y.getD k 0) t.1)], 2⟩), t.2, t.2⟩) (fun t => t.1 ≤ x.length ∧ 2 < t.2) (fun t => x.length - t.1) (0, 5) (Ghost.refl _) ⟨zdo, zdo⟩ ?_
 rintro ⟨i, nx⟩ ⟨i1, i2⟩
 dsimp only at i1 i2
 have b0 := zh4 (f := fun k => x.getD k 0) (p := fun k => y.getD k 0) (L := 4000000) (fun k => by have := sx k; have := sy k; omega) i
 by_cases hi : i < x.length
 ·have b1 := sx i
  have b2 := sy i
  have b3 := zgs (x.getD i 0) (y.getD i 0)
  refine sgo ?_
  first | refine zaa (r_mul _ _ (by omega) (by omega)) (by simp) ?_ | refine zab (r_mul _ _ (by omega) (by omega)) (by simp) ?_
  refine sgo ?_
  first | refine zaa (r_add _ _ (by omega) (by omega)) (by simp) ?_ | refine zab (r_add _ _ (by omega) (by omega)) (by simp) ?_
  refine sgo ?_
  exact ⟨(i + 1, _), Ghost.refl _, ⟨zdo, zdo⟩, zdo⟩
 ·have hie : x.length = i := by omega
  subst hie
  exact sgo trivial
theorem rapply_G (m : List (List Int)) (x : List Int) (n : Nat) (H : Hp) (n0 : Nat) (hn : n ≤ 1000) (hn1 : 1 ≤ n) (hm : Sq m n) (hx : x.length = n) (sm : ∀ i j, dlim (at2 m i j) ≤ 2000000) (sx : ∀ i, dlim (x.getD i 0) ≤ 2000000) :
  ∃ H' n' id, (n0 ≤ id ∧ id < n' ∧ H' id = some ⟨((List.range n).map (zar m x n)).map DV, 2⟩ ∧ ∀ b, b < n0 → H' b = H b) ∧ RetG pg zbt [.sl (m.map dvl), dvl x] H n0 (.own id n) H' n' := by
 suffices h : ∃ r H' n', (∃ id, r = .own id n ∧ n0 ≤ id ∧ id < n' ∧ H' id = some ⟨((List.range n).map (zar m x n)).map DV, 2⟩ ∧ ∀ b, b < n0 → H' b = H b) ∧ RetG pg zbt [.sl (m.map dvl), dvl x] H n0 r H' n' by
  obtain ⟨_, H', n', ⟨id, rfl, h1⟩, h⟩ := h
  exact ⟨H', n', id, h1, h⟩
 have hml := hm.1
 refine gimbalref07_Mat_Apply.ofG rfl (W_b ?_)
 unfold gimbalref07_Mat_Apply.k gimbalref07_Mat_Apply.res Ot kp Om Ol Oi Oc On ci
 refine sgo ?_
 refine zap (T := Nat × V × Hp × Nat) (fun t => ⟨E [(0, .sl (m.map dvl)), (1, dvl x), (5, t.2.1), (6, .int .i64 t.1)], t.2.2.1, t.2.2.2, t.2.2.2⟩)
  (fun t => t.1 ≤ n ∧ n0 ≤ t.2.2.2 ∧ Row n0 t.2.2.1 t.2.2.2 t.2.1 2 (((List.range t.1).map (zar m x n)).map DV) ∧ ∀ b, b < n0 → t.2.2.1 b = H b) (fun t => n - t.1) (0, .nil, H, _) rfl ⟨zdo, zdo, Row.nil _ _ _ _, fun _ _ => rfl⟩ ?_
 rintro ⟨i, w, H1, nx⟩ ⟨i1, i2, i3, i4⟩
 dsimp only at i1 i2 i3 i4
 by_cases hi : i < n
 ·have hr := hm.row hi
  have hd := rdot_ret (m.getD i []) x (by omega) (by omega) (fun j => by have := sm i j; unfold at2 at this; omega) sx
  have e : sumN (fun k => (m.getD i []).getD k 0) (fun k => x.getD k 0) (m.getD i []).length = zar m x n i := by rw [hr]; rfl
  rw [e] at hd
  refine sgo ?_
  first | refine zaa (hd) (by simp) ?_ | refine zab (hd) (by simp) ?_
  refine sgo ?_
  refine zaz (lo := n0) (nx := nx) (H0 := H1) (xs := ((List.range i).map (zar m x n)).map DV) i3 (by omega) rfl (by omega) (by omega) (by simp [rowOk, V.cells, V.cellOk, DV]) (by decide) (by simp; omega) (by simp; omega) fun v2 H2 r1 _ _ r4 => ?_
  rw [zdf, zci] at r1
  refine sgo ?_
  exact ⟨(i + 1, v2, H2, _), rfl, ⟨zdo, zdo, r1.same (fun _ _ => rfl) zdo, fun b hb => (r4 b hb).trans (i4 b hb)⟩, zdo⟩
 ·have hie : n = i := by omega
  subst hie
  obtain ⟨c, rfl, c1, c2, c3⟩ := i3.own_of (by simp; omega)
  rw [List.length_map, List.length_map, List.length_range]
  refine sgo ?_
  exact ⟨_, rfl, zdo, _, rfl, by omega, zdo, c3, fun b hb => i4 b hb⟩
theorem rapply_ret (m : List (List Int)) (x : List Int) (n : Nat) (hn : n ≤ 1000) (hn1 : 1 ≤ n) (hm : Sq m n) (hx : x.length = n) (sm : ∀ i j, dlim (at2 m i j) ≤ 2000000) (sx : ∀ i, dlim (x.getD i 0) ≤ 2000000) :
  Ret pg zbt [.sl (m.map dvl), dvl x] (dvl ((List.range n).map (zar m x n))) := by
 obtain ⟨H', n', id, ⟨_, _, h3, _⟩, h⟩ := rapply_G m x n (fun _ => none) 0 hn hn1 hm hx sm sx
 refine h.toRet ?_
 rw [frz_own, h3, frzO_some (by simp), zc5 fun x => rfl]
 rfl
theorem rquad_ret (m : List (List Int)) (x : List Int) (n : Nat) (hn : n ≤ 1000) (hn1 : 1 ≤ n) (hm : Sq m n) (hx : x.length = n) (sm : ∀ i j, dlim (at2 m i j) ≤ 900000) (sx : ∀ i, dlim (x.getD i 0) ≤ 900000) :
  Ret pg zeu [.sl (m.map dvl), dvl x] (DV (quadV m x n)) := by
 have ha := rapply_ret m x n hn hn1 hm hx (fun i j => by have := sm i j; omega) (fun i => by have := sx i; omega)
 have hd := rdot_ret x ((List.range n).map (zar m x n)) (by omega) (by simp; omega) (fun i => by have := sx i; omega) (fun i => by
  rw [range_getD']; split
  ·have := zh4 (f := at2 m i) (p := fun k => x.getD k 0) (L := 1800000) (fun k => by have := sm i k; have := sx k; omega) n
   unfold zar; omega
  ·have := zbx (x := 0) (by omega); omega)
 have e : sumN (fun k => x.getD k 0) (fun k => ((List.range n).map (zar m x n)).getD k 0) x.length = quadV m x n := by
  rw [hx]; unfold quadV; exact sumN_congr n fun k hk => by rw [za0 0 hk]
 rw [e] at hd
 refine gimbalref07_Mat_Quad.of rfl (W_b ?_)
 unfold gimbalref07_Mat_Quad.k gimbalref07_Mat_Quad.res Ot kp Oy Om
 refine sgo ?_
 first | refine zaa (ha) (by simp) ?_ | refine zab (ha) (by simp) ?_
 refine sgo ?_
 first | refine zaa (hd) (by simp) ?_ | refine zab (hd) (by simp) ?_
 exact sgo trivial
theorem rvalue_ret (P : List (List Int)) (Q x : List Int) (c : Int) (n : Nat) (hn : n ≤ 1000) (hn1 : 1 ≤ n) (hP : Sq P n) (hQ : Q.length = n) (hx : x.length = n) (sP : ∀ i j, dlim (at2 P i j) ≤ 900000) (sQ : ∀ i, dlim (Q.getD i 0) ≤ 900000) (sc : dlim c ≤ 900000) (sx : ∀ i, dlim (x.getD i 0) ≤ 900000) :
  Ret pg zd6 [DQV P Q c, dvl x] (DV (qval P Q c x)) := by
 have hd := rdot_ret Q x (by omega) (by omega) (fun i => by have := sQ i; omega) (fun i => by have := sx i; omega)
 have hq := rquad_ret P x n hn hn1 hP hx sP sx
 have l1 := zh4 (f := fun k => Q.getD k 0) (p := fun k => x.getD k 0) (L := 1800000) (fun k => by have := sx k; have := sQ k; omega) Q.length
 have l2 : ∀ i, dlim (zar P x n i) ≤ 1801000 := fun i => by
  have := zh4 (f := at2 P i) (p := fun k => x.getD k 0) (L := 1800000) (fun k => by have := sP i k; have := sx k; omega) n
  unfold zar; omega
 have l3 := zh4 (f := fun k => x.getD k 0) (p := zar P x n) (L := 2701000) (fun k => by have := sx k; have := l2 k; omega) n
 have hPl := hP.1
 unfold qval quadV at *
 rw [hPl]
 generalize sumN (fun k => Q.getD k 0) (fun k => x.getD k 0) Q.length = s at *
 generalize sumN (fun k => x.getD k 0) (zar P x n) n = q at *
 have l4 := dlim_add s s
 have l5 := dlim_sub q (s + s)
 have e : q - s * 2 + c = q - (s + s) + c := by omega
 rw [e]
 refine gimbalref08_Quad_Value.of rfl (W_b ?_)
 unfold gimbalref08_Quad_Value.k gimbalref08_Quad_Value.res Ot kp kd Oy Om Ol OL Oq
 refine sgo ?_
 first | refine zaa (hd) (by simp) ?_ | refine zab (hd) (by simp) ?_
 refine sgo ?_
 first | refine zaa (hd) (by simp) ?_ | refine zab (hd) (by simp) ?_
 refine sgo ?_
 first | refine zaa (r_add _ _ (by omega) (by omega)) (by simp) ?_ | refine zab (r_add _ _ (by omega) (by omega)) (by simp) ?_
 refine sgo ?_
 first | refine zaa (hq) (by simp) ?_ | refine zab (hq) (by simp) ?_
 refine sgo ?_
 first | refine zaa (r_sub _ _ (by omega) (by omega)) (by simp) ?_ | refine zab (r_sub _ _ (by omega) (by omega)) (by simp) ?_
 refine sgo ?_
 first | refine zaa (r_add _ _ (by omega) (by omega)) (by simp) ?_ | refine zab (r_add _ _ (by omega) (by omega)) (by simp) ?_
 exact sgo trivial
def slpS (P : List (List Int)) (Q x : List Int) (n j k : Nat) : Int := if k < j then zar P x n k - Q.getD k 0 else zar P x n k
theorem slpS_set (P : List (List Int)) (Q x : List Int) (n j : Nat) : ((List.range n).map (slpS P Q x n j)).set j (zar P x n j - Q.getD j 0) = (List.range n).map (slpS P Q x n (j + 1)) := by
 rw [ze6]
 refine List.map_congr_left fun k _ => ?_
 unfold slpS
 by_cases h : k = j
 ·subst h
  rw [if_pos rfl, if_pos (by omega)]
 ·rw [if_neg h]
  by_cases h2 : k < j
  ·rw [if_pos h2, if_pos (by omega)]
  ·rw [if_neg h2, if_neg (by omega)]
theorem slpS_zero (P : List (List Int)) (Q x : List Int) (n : Nat) : (List.range n).map (zar P x n) = (List.range n).map (slpS P Q x n 0) := List.map_congr_left fun k _ => by unfold slpS; rw [if_neg (by omega)]
theorem slpS_all (P : List (List Int)) (Q x : List Int) (n : Nat) : (List.range n).map (slpS P Q x n n) = (List.range n).map fun k => zar P x n k - Q.getD k 0 := List.map_congr_left fun k hk => by unfold slpS; rw [if_pos (List.mem_range.1 hk)]
theorem rslope_G (P : List (List Int)) (Q x : List Int) (c : Int) (n : Nat) (H : Hp) (n0 : Nat) (hn : n ≤ 1000) (hn1 : 1 ≤ n) (hP : Sq P n) (hQ : Q.length = n) (hx : x.length = n) (sP : ∀ i j, dlim (at2 P i j) ≤ 900000) (sQ : ∀ i, dlim (Q.getD i 0) ≤ 900000) (sx : ∀ i, dlim (x.getD i 0) ≤ 900000) :
  ∃ H' n' id, (n0 ≤ id ∧ id < n' ∧ H' id = some ⟨((List.range n).map fun k => zar P x n k - Q.getD k 0).map DV, 2⟩ ∧ ∀ b, b < n0 → H' b = H b) ∧ RetG pg zc2 [DQV P Q c, dvl x] H n0 (.own id n) H' n' := by
 suffices h : ∃ r H' n', (∃ id, r = .own id n ∧ n0 ≤ id ∧ id < n' ∧ H' id = some ⟨((List.range n).map fun k => zar P x n k - Q.getD k 0).map DV, 2⟩ ∧ ∀ b, b < n0 → H' b = H b) ∧ RetG pg zc2 [DQV P Q c, dvl x] H n0 r H' n' by
  obtain ⟨_, H', n', ⟨id, rfl, h1⟩, h⟩ := h
  exact ⟨H', n', id, h1, h⟩
 have l2 : ∀ i, dlim (zar P x n i) ≤ 1801000 := fun i => by
  have := zh4 (f := at2 P i) (p := fun k => x.getD k 0) (L := 1800000) (fun k => by have := sP i k; have := sx k; omega) n
  unfold zar; omega
 refine gimbalref08_Quad_Slope.ofG rfl (W_b ?_)
 unfold gimbalref08_Quad_Slope.k gimbalref08_Quad_Slope.res Ot kp kd Oy Om Ol OL Oq Oi Oc On ci
 refine sgo ?_
 obtain ⟨H1, n1, id, ⟨c1, c2, c3, c4⟩, hc⟩ := rapply_G P x n H (n0 + 7) hn hn1 hP hx (fun i j => by have := sP i j; omega) (fun i => by have := sx i; omega)
 refine zf5 hc ?_
 refine sgo ?_
 rw [slpS_zero] at c3
 refine zap (T := Nat × Hp × Nat) (fun t => ⟨E [(2, .pp (DQV P Q c)), (5, .own id n), (6, .int .i64 t.1)], t.2.1, t.2.2, t.2.2⟩)
  (fun t => t.1 ≤ n ∧ id < t.2.2 ∧ t.2.1 id = some ⟨((List.range n).map (slpS P Q x n t.1)).map DV, 2⟩ ∧ ∀ b, b < n0 → t.2.1 b = H b) (fun t => n - t.1) (0, H1, _) rfl ⟨zdo, zdo, c3, fun b hb => c4 b (by omega)⟩ ?_
 clear c3 c4 c2
 rintro ⟨j, H2, nx⟩ ⟨j1, j2, j3, j4⟩
 dsimp only at j1 j2 j3 j4
 by_cases hj : j < n
 ·have b1 := l2 j
  have b2 := sQ j
  have hget : ((List.range n).map (slpS P Q x n j)).getD j 0 = zar P x n j := by rw [za0 0 hj]; unfold slpS; rw [if_neg (by omega)]
  have hset := slpS_set P Q x n j
  simp -dsimp -implicitDefEqProofs (disch := try exact zdE) only [go_sem, j3, hget]
  first | refine zaa (r_sub _ _ (by omega) (by omega)) (by simp) ?_ | refine zab (r_sub _ _ (by omega) (by omega)) (by simp) ?_
  simp -dsimp -implicitDefEqProofs (disch := try exact zdE) only [go_sem, j3, hset]
  generalize hG : Hp.upd H2 id _ = G
  exact ⟨(j + 1, G, _), rfl, ⟨zdo, zdo, zdb hG, fun b hb => by dsimp only; rw [← hG, Hp.upd_ne _ _ (by omega)]; exact j4 b hb⟩, zdo⟩
 ·have hje : j = n := by omega
  subst hje
  simp -dsimp -implicitDefEqProofs (disch := try exact zdE) only [go_sem, j3]
  rw [slpS_all] at j3
  exact ⟨_, rfl, zdo, _, rfl, by omega, zdo, j3, fun b hb => j4 b hb⟩
end Go.Gim

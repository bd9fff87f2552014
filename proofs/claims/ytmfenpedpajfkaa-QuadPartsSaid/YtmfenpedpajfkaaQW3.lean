import Derived.Test.YtmfenpedpajfkaaQP2
import Derived.Test.YtmfenpedpajfkaaRD8
import Derived.Test.YtmfenpedpajfkaaQL3
import Derived.Test.YtmfenpedpajfkaaQT2
import Derived.Test.YtmfenpedpajfkaaQM2
/- What the document's sums are: with numbers told, without the first ones. -/
set_option maxRecDepth 100000
set_option maxHeartbeats 1000000
set_option linter.unusedSimpArgs false
set_option linter.unusedVariables false
namespace Go.Gim
open Go.Proofs
def wQ (k : Nat) (P : Mx) (q y : Nat → Int) (i t : Nat) : Int := q i - sumZ (fun j => P i (k + j) * y j) t
def wC (k m : Nat) (P : Mx) (q : Nat → Int) (c : Int) (y : Nat → Int) (t : Nat) : Int := c - sumZ (fun i => 2 * q (k + i) * y i) t + sumZ (fun i => sumZ (fun j => P (k + i) (k + j) * y i * y j) m) t
def wD (k m : Nat) (P : Mx) (q : Nat → Int) (c : Int) (y : Nat → Int) (i t : Nat) : Int := wC k m P q c y i - 2 * q (k + i) * y i + sumZ (fun j => P (k + i) (k + j) * y i * y j) t
theorem wC_val {k m : Nat} {P : Mx} {q : Nat → Int} {c : Int} {y X : Nat → Int} (hX : ∀ i, i < k + m → X i = if i < k then 0 else y (i - k)) : valF (k + m) P q c X = wC k m P q c y m := by
  have h0 : ∀ i, i < k → X i = 0 := fun i hi => by rw [hX i (by omega), if_pos hi]
  have h1 : ∀ i, i < m → X (k + i) = y i := fun i hi => by rw [hX _ (by omega), if_neg (by omega)]; congr 1; omega
  have e1 : qS (k + m) P X = sumZ (fun i => sumZ (fun j => P (k + i) (k + j) * y i * y j) m) m := by
    unfold qS
    rw [sumZ_split, sg_zero fun i hi => by rw [h0 i hi, Int.zero_mul], Int.zero_add]
    refine sumZ_congr fun i hi => ?_
    unfold appS
    rw [sumZ_split, sg_zero fun j hj => by rw [h0 j hj, Int.mul_zero], Int.zero_add, h1 i hi, ← sg_mul]
    exact sumZ_congr fun j hj => by rw [h1 j hj]; grind
  have e2 : sumZ (fun k => q k * X k) (k + m) * 2 = sumZ (fun i => 2 * q (k + i) * y i) m := by
    rw [sumZ_split, sg_zero fun i hi => by rw [h0 i hi, Int.mul_zero], Int.zero_add, ← sg_mulr]
    exact sumZ_congr fun j hj => by rw [h1 j hj]; grind
  unfold valF wC
  rw [e1, e2]
  omega
theorem gP_ref {n k : Nat} (hk : k ≤ n) {P : Mx} (hs : SymM n P) {i j : Nat} (hi : i < n - k) (hj : j < n - k) : gP k P i j = det k P * P (k + i) (k + j) - sumZ (fun c => P (k + i) c * numF k P (P (k + j)) c) k := by
  have hh := hat_sym hs (fun _ => 0) 0
  have e1 := without_hat hk hs (fun _ => 0) 0 (i := i) (j := j) (by omega) (by omega)
  have e2 := without_hat hk hs (fun _ => 0) 0 (i := j) (j := i) (by omega) (by omega)
  rw [tgt_sym hh (by omega) (by omega) (by omega) (by omega) (by omega), ← e2] at e1
  unfold hat at e1
  rw [if_pos hi, if_pos hj, if_pos hj, if_pos hi] at e1
  rw [e1]
  unfold gP
  rw [hs (k + j) (k + i) (by omega) (by omega), Int.mul_comm]
  congr 1
  exact sumZ_congr fun c _ => Int.mul_comm _ _
end Go.Gim
/- Reference 08: the first rows, with the last numbers told. -/
set_option maxRecDepth 100000
set_option maxHeartbeats 4000000
set_option linter.unusedSimpArgs false
set_option linter.unusedVariables false
namespace Go.Gim
open Go.Proofs
theorem slc_dvl {l : List Int} {k : Nat} {ki : IntKind} (h : k ≤ l.length) : redV (.slc 2 false true false) [dvl l, .int ki (k : Int)] = some (dvl (l.take k)) := by
  rw [dvl_eq, slc_to (by omega) (by rw [List.length_map]; omega) (by decide), Int.toNat_natCast, ← List.map_take]; rfl
theorem rfirst_ret (P : List (List Int)) (n k : Nat) (hn : n ≤ 1000) (hP : Sq P n) (hk : k ≤ n) : Ret pg n_gimbalref08_first [.sl (P.map dvl), .int .i64 k] (.sl ((mat k (at2 P)).map dvl)) := by
  have hl := hP.1
  refine gimbalref08_first.of rfl (W_b ?_)
  unfold gimbalref08_first.k gimbalref08_first.res
  simp -dsimp -implicitDefEqProofs (disch := (first | assumption | omega | (simp only [zE] <;> omega) | (apply isPure_intro <;> simp))) only [go_sem]
  refine W_loop (T := Nat × V × Hp × Nat) (fun t => ⟨E [(0, .sl (P.map dvl)), (1, .int .i64 k), (5, t.2.1), (6, .int .i64 t.1)], t.2.2.1, t.2.2.2, t.2.2.2⟩)
    (fun t => t.1 ≤ k ∧ Row 0 t.2.2.1 t.2.2.2 t.2.1 1 ((List.range t.1).map fun i => dvl (rowF k (at2 P i)))) (fun t => k - t.1) (0, .nil, _, _) rfl ⟨by dsimp only; omega, Row.nil _ _ _ _⟩ ?_
  rintro ⟨i, w, H, nx⟩ ⟨i1, i2⟩
  dsimp only at i1 i2
  by_cases hi : i < k
  · have hr := hP.row (show i < n by omega)
    have hs3 := slc_dvl (l := P.getD i []) (k := k) (ki := .i64) (by omega)
    rw [take_F hr hk] at hs3
    have e : (rowF k fun j => (P.getD i []).getD j 0) = rowF k (at2 P i) := rfl
    rw [e] at hs3
    simp -dsimp -implicitDefEqProofs (disch := (first | assumption | omega | (simp only [zE] <;> omega) | (apply isPure_intro <;> simp))) only [go_sem, hl]
    refine W_gh0 ?_
    simp -dsimp -implicitDefEqProofs (disch := (first | assumption | omega | (simp only [zE] <;> omega) | (apply isPure_intro <;> simp))) only [go_sem, hl, hs3]
    refine effB_row (lo := 0) (nx := nx) (H0 := H) (xs := (List.range i).map fun i => dvl (rowF k (at2 P i))) i2 (by omega) rfl (by omega) (by omega) (by simp [rowOk, V.cells, V.cellOk, V.isJunk, dvl]) (by decide) (by simp; omega) (by simp; omega) fun v2 H2 r1 _ _ r4 => ?_
    rw [range_snoc (fun i => dvl (rowF k (at2 P i)))] at r1
    simp -dsimp -implicitDefEqProofs (disch := (first | assumption | omega | (simp only [zE] <;> omega) | (apply isPure_intro <;> simp))) only [go_sem]
    exact ⟨(i + 1, v2, H2, _), rfl, ⟨by dsimp only; omega, r1.same (fun _ _ => rfl) (by dsimp only; omega)⟩, by dsimp only; omega⟩
  · have hie : i = k := by omega
    subst hie
    simp -dsimp -implicitDefEqProofs (disch := (first | assumption | omega | (simp only [zE] <;> omega) | (apply isPure_intro <;> simp))) only [go_sem]
    rw [i2.frz (allOf_self fun x hx => by obtain ⟨q, _, rfl⟩ := List.mem_map.1 hx; rfl)]
    unfold mat
    rw [List.map_map]
    rfl
theorem rqwith_ret (P : List (List Int)) (Q : List Int) (c : Int) (y : List Int) (n k m : Nat) (hkm : k + m = n) (hn : n ≤ 12) (hP : Sq P n) (hQ : Q.length = n) (hy : y.length = m) (sP : ∀ i j, dlim (at2 P i j) ≤ 20) (sQ : ∀ i, dlim (Q.getD i 0) ≤ 20) (sc : dlim c ≤ 20) (sy : ∀ i, dlim (y.getD i 0) ≤ 20) :
    Ret pg n_gimbalref08_Quad_With [DQV P Q c, dvl y] (DQV (mat k (at2 P)) (rowF k fun i => wQ k (at2 P) (fun i => Q.getD i 0) (fun i => y.getD i 0) i m) (wC k m (at2 P) (fun i => Q.getD i 0) c (fun i => y.getD i 0) m)) := by
  have hl := hP.1
  have c1 := rfirst_ret P n k (by omega) hP (by omega)
  have hkn : ((n : Int) - (m : Int)) = (k : Int) := by omega
  have b1 : ∀ i t, dlim (sumZ (fun j => at2 P i (k + j) * y.getD j 0) t) ≤ 40 + t := fun i t => sumZ_dlim fun j hj => by
    have := dlim_mul (at2 P i (k + j)) (y.getD j 0)
    have := sP i (k + j)
    have := sy j
    omega
  have sW : ∀ i t, t ≤ 12 → dlim (wQ k (at2 P) (fun i => Q.getD i 0) (fun i => y.getD i 0) i t) ≤ 100 := fun i t ht => by
    unfold wQ
    have := dlim_sub (Q.getD i 0) (sumZ (fun j => at2 P i (k + j) * y.getD j 0) t)
    have := b1 i t
    have := sQ i
    dsimp only
    omega
  have b2 : ∀ i t, dlim (sumZ (fun j => at2 P (k + i) (k + j) * y.getD i 0 * y.getD j 0) t) ≤ 60 + t := fun i t => sumZ_dlim fun j hj => by
    have := dlim_mul (at2 P (k + i) (k + j)) (y.getD i 0)
    have := dlim_mul (at2 P (k + i) (k + j) * y.getD i 0) (y.getD j 0)
    have := sP (k + i) (k + j)
    have := sy j
    have := sy i
    omega
  have hd2 : dlim 2 ≤ 20 := dlim_i64 (by decide)
  have b3 : ∀ i, dlim (2 * Q.getD (k + i) 0 * y.getD i 0) ≤ 60 := fun i => by
    have := dlim_mul 2 (Q.getD (k + i) 0)
    have := dlim_mul (2 * Q.getD (k + i) 0) (y.getD i 0)
    have := sQ (k + i)
    have := sy i
    omega
  have b4 : ∀ t, dlim (sumZ (fun i => 2 * Q.getD (k + i) 0 * y.getD i 0) t) ≤ 60 + t := fun t => sumZ_dlim fun i _ => b3 i
  have b5 : ∀ t, dlim (sumZ (fun i => sumZ (fun j => at2 P (k + i) (k + j) * y.getD i 0 * y.getD j 0) m) t) ≤ 72 + t := fun t => sumZ_dlim fun i _ => by have := b2 i m; omega
  have sC : ∀ t, t ≤ 12 → dlim (wC k m (at2 P) (fun i => Q.getD i 0) c (fun i => y.getD i 0) t) ≤ 300 := fun t ht => by
    unfold wC
    have := dlim_sub c (sumZ (fun i => 2 * Q.getD (k + i) 0 * y.getD i 0) t)
    have := dlim_add (c - sumZ (fun i => 2 * Q.getD (k + i) 0 * y.getD i 0) t) (sumZ (fun i => sumZ (fun j => at2 P (k + i) (k + j) * y.getD i 0 * y.getD j 0) m) t)
    have := b4 t
    have := b5 t
    dsimp only
    omega
  have sD : ∀ i t, i ≤ 12 → t ≤ 12 → dlim (wD k m (at2 P) (fun i => Q.getD i 0) c (fun i => y.getD i 0) i t) ≤ 500 := fun i t hi ht => by
    unfold wD
    have := sC i hi
    have := b3 i
    have := b2 i t
    have := dlim_sub (wC k m (at2 P) (fun i => Q.getD i 0) c (fun i => y.getD i 0) i) (2 * Q.getD (k + i) 0 * y.getD i 0)
    have := dlim_add (wC k m (at2 P) (fun i => Q.getD i 0) c (fun i => y.getD i 0) i - 2 * Q.getD (k + i) 0 * y.getD i 0) (sumZ (fun j => at2 P (k + i) (k + j) * y.getD i 0 * y.getD j 0) t)
    dsimp only
    omega
  refine gimbalref08_Quad_With.of rfl (W_b ?_)
  unfold gimbalref08_Quad_With.k gimbalref08_Quad_With.res
  simp -dsimp -implicitDefEqProofs (disch := (first | assumption | omega | (simp only [zE] <;> omega) | (apply isPure_intro <;> simp))) only [go_sem, hQ, hy, hkn]
  first | refine callB_of (c1) (by simp) ?_ | refine callP_of (c1) (by simp) ?_
  simp -dsimp -implicitDefEqProofs (disch := (first | assumption | omega | (simp only [zE] <;> omega) | (apply isPure_intro <;> simp))) only [go_sem]
  first | refine callB_of (r_of 2 (by decide)) (by simp) ?_ | refine callP_of (r_of 2 (by decide)) (by simp) ?_
  simp -dsimp -implicitDefEqProofs (disch := (first | assumption | omega | (simp only [zE] <;> omega) | (apply isPure_intro <;> simp))) only [go_sem]
  generalize hp : (fun i => Q.getD i 0) = qf at *
  generalize hyf : (fun i => y.getD i 0) = yf at *
  obtain ⟨H0, eH0⟩ : ∃ H0 : Hp, H0 = ((((Hp.upd (fun _ => none) 1 (some ⟨[.agg [.nil, .nil, .bool false, .sl []]], 4⟩)).upd 16 (some ⟨[.agg [.sl ((mat k (at2 P)).map dvl), .nil, .bool (decide (c < 0)), .sl (nats .i64 (digs 10 c.natAbs))]], 4⟩)).upd 19 (some ⟨[DV 2], 2⟩)) : Hp) := ⟨_, rfl⟩
  have z1 : H0 1 = some ⟨[.agg [.nil, .nil, .bool false, .sl []]], 4⟩ := by rw [eH0]; rfl
  have z2 : H0 16 = some ⟨[.agg [.sl ((mat k (at2 P)).map dvl), .nil, .bool (decide (c < 0)), .sl (nats .i64 (digs 10 c.natAbs))]], 4⟩ := by rw [eH0]; rfl
  have z3 : H0 19 = some ⟨[DV 2], 2⟩ := by rw [eH0]; rfl
  rw [← eH0]
  clear eH0
  refine W_loop (T := Nat × V × Hp × Nat) (fun t => ⟨E [(1, dvl y), (2, .pp (DQV P Q c)), (4, .ptr 1 1 0 0), (5, .int .i64 k), (6, .ptr 16 1 0 0), (7, .ptr 19 1 0 0), (8, .int .i64 t.1)], t.2.2.1, t.2.2.2, t.2.2.2⟩)
    (fun t => t.1 ≤ k ∧ 22 ≤ t.2.2.2 ∧ t.2.2.1 1 = some ⟨[.agg [.nil, .nil, .bool false, .sl []]], 4⟩ ∧ t.2.2.1 16 = some ⟨[.agg [.sl ((mat k (at2 P)).map dvl), t.2.1, .bool (decide (c < 0)), .sl (nats .i64 (digs 10 c.natAbs))]], 4⟩ ∧ t.2.2.1 19 = some ⟨[DV 2], 2⟩ ∧ Row 22 t.2.2.1 t.2.2.2 t.2.1 2 ((rowF t.1 fun i => wQ k (at2 P) qf yf i m).map DV)) (fun t => k - t.1) (0, .nil, H0, _) rfl ⟨by dsimp only; omega, by dsimp only; omega, z1, z2, z3, Row.nil _ _ _ _⟩ ?_
  clear z1 z2 z3 H0
  rintro ⟨i, w, H, nx⟩ ⟨i1, i2, i3, i4, i5, i6⟩
  dsimp only at i1 i2 i3 i4 i5 i6
  obtain ⟨hwa, hwc, _, _⟩ := i6.flat
  by_cases hi : i < k
  · have e0 : Q.getD i 0 = wQ k (at2 P) qf yf i 0 := by rw [← hp]; unfold wQ; simp [sumZ]
    simp -dsimp -implicitDefEqProofs (disch := (first | assumption | omega | (simp only [zE] <;> omega) | (apply isPure_intro <;> simp))) only [go_sem, hQ]
    rw [e0]
    obtain ⟨H1, eH1⟩ : ∃ H1 : Hp, H1 = H.upd (nx + 8) (some ⟨[DV (wQ k (at2 P) qf yf i 0)], 2⟩) := ⟨_, rfl⟩
    have f0 : ∀ b, b < nx → H1 b = H b := fun b hb => by rw [eH1, Hp.upd_ne _ _ (by omega)]
    have fb : H1 (nx + 8) = some ⟨[DV (wQ k (at2 P) qf yf i 0)], 2⟩ := by rw [eH1]; exact Hp.upd_same _ _ _
    rw [← eH1]
    clear eH1
    refine W_loop (T := Nat × Hp × Nat) (fun t => ⟨E [(1, dvl y), (2, .pp (DQV P Q c)), (4, .ptr 1 1 0 0), (5, .int .i64 k), (6, .ptr 16 1 0 0), (7, .ptr 19 1 0 0), (8, .int .i64 i), (9, .ptr (nx + 8) 1 0 0), (10, .int .i64 t.1)], t.2.1, t.2.2, t.2.2⟩)
      (fun t => t.1 ≤ m ∧ nx + 11 ≤ t.2.2 ∧ (∀ b, b < nx → t.2.1 b = H b) ∧ t.2.1 (nx + 8) = some ⟨[DV (wQ k (at2 P) qf yf i t.1)], 2⟩) (fun t => m - t.1) (0, H1, _) rfl ⟨by dsimp only; omega, by dsimp only; omega, f0, fb⟩ ?_
    clear f0 fb H1
    rintro ⟨j, H2, nx2⟩ ⟨j1, j2, j3, j4⟩
    dsimp only at j1 j2 j3 j4
    by_cases hj : j < m
    · have hri := hP.row (show i < n by omega)
      have g1 : (P.getD i []).getD (k + j) 0 = at2 P i (k + j) := rfl
      have s1 := sP i (k + j)
      have s2 := sy j
      have s3 := dlim_mul (at2 P i (k + j)) (y.getD j 0)
      have s4 := sW i j (by omega)
      have ek : ((k : Int) + (j : Int)) = ((k + j : Nat) : Int) := by omega
      have eg : wQ k (at2 P) qf yf i j - at2 P i (k + j) * y.getD j 0 = wQ k (at2 P) qf yf i (j + 1) := by
        rw [← hyf]; unfold wQ; simp only [sumZ]; omega
      simp -dsimp -implicitDefEqProofs (disch := (first | assumption | omega | (simp only [zE] <;> omega) | (apply isPure_intro <;> simp))) only [go_sem, hl, hri, hy, j4, ek, g1]
      first | refine callB_of (r_mul _ _ (by omega) (by omega)) (by simp) ?_ | refine callP_of (r_mul _ _ (by omega) (by omega)) (by simp) ?_
      simp -dsimp -implicitDefEqProofs (disch := (first | assumption | omega | (simp only [zE] <;> omega) | (apply isPure_intro <;> simp))) only [go_sem, hl, hri, hy, j4]
      first | refine callB_of (r_sub _ _ (by omega) (by omega)) (by simp) ?_ | refine callP_of (r_sub _ _ (by omega) (by omega)) (by simp) ?_
      rw [eg]
      simp -dsimp -implicitDefEqProofs (disch := (first | assumption | omega | (simp only [zE] <;> omega) | (apply isPure_intro <;> simp))) only [go_sem, hl, hri, hy, j4]
      generalize hG : Hp.upd H2 (nx + 8) _ = G
      exact ⟨(j + 1, G, _), rfl, ⟨by dsimp only; omega, by dsimp only; omega, fun b hb => by dsimp only; rw [← hG, Hp.upd_ne _ _ (by omega)]; exact j3 b hb, upd_at_same hG⟩, by dsimp only; omega⟩
    · have hjm : j = m := by omega
      subst hjm
      have q1 := (j3 1 (by omega)).trans i3
      have q2 := (j3 16 (by omega)).trans i4
      have q3 := (j3 19 (by omega)).trans i5
      have q6 := i6.same (H' := H2) (nx' := nx2) j3 (by omega)
      simp -dsimp -implicitDefEqProofs (disch := (first | assumption | omega | (simp only [zE] <;> omega) | (apply isPure_intro <;> simp))) only [go_sem, hy, j4, q2, hwa]
      refine effB_row (lo := 22) (nx := nx2 + 3) (H0 := H2) (xs := (rowF i fun i => wQ k (at2 P) qf yf i j).map DV) (q6.same (fun _ _ => rfl) (by omega)) (by omega) rfl (by omega) (by omega) (by simp [rowOk, V.cells, V.cellOk, DV, V.isJunk]) (by decide) (by simp [rowF]; omega) (by simp [rowF]; omega) fun v2 H4 r1 _ _ r4 => ?_
      rw [map_app, show (rowF i fun i => wQ k (at2 P) qf yf i j) ++ [wQ k (at2 P) qf yf i j] = rowF (i + 1) (fun i => wQ k (at2 P) qf yf i j) from range_snoc _ _] at r1
      have p1 := (r4 1 (by omega)).trans q1
      have p2 := (r4 16 (by omega)).trans q2
      have p3 := (r4 19 (by omega)).trans q3
      obtain ⟨b', hv2, c1, c3, c4⟩ := r1.own_of (by simp [rowF])
      rw [List.length_map, rowF_len] at hv2
      subst hv2
      simp -dsimp -implicitDefEqProofs (disch := (first | assumption | omega | (simp only [zE] <;> omega) | (apply isPure_intro <;> simp))) only [go_sem, p2, hwa]
      generalize hH6 : Hp.upd H4 16 _ = H6
      have k1 := upd_at_ne hH6 p1 (by omega)
      have k2 := upd_at_same hH6
      have k3 := upd_at_ne hH6 p3 (by omega)
      have k4 := upd_at_ne hH6 c4 (by omega)
      exact ⟨(i + 1, _, H6, _), rfl, ⟨by dsimp only; omega, by dsimp only; omega, k1, k2, k3, .inr ⟨b', by rw [List.length_map, rowF_len], c1, by dsimp only; omega, k4⟩⟩, by dsimp only; omega⟩
  · have hik : i = k := by omega
    subst hik
    simp -dsimp -implicitDefEqProofs (disch := (first | assumption | omega | (simp only [zE] <;> omega) | (apply isPure_intro <;> simp))) only [go_sem]
    have e0 : c = wC i m (at2 P) qf c yf 0 := by unfold wC; simp [sumZ]
    have hN : 22 ≤ nx + 4 := by omega
    have f6 := i6.same (H' := H) (nx' := nx + 4) (fun _ _ => rfl) (by omega)
    generalize nx + 4 = N at hN f6 ⊢
    refine W_loop (T := Nat × Hp × Nat) (fun t => ⟨E [(1, dvl y), (2, .pp (DQV P Q c)), (4, .ptr 1 1 0 0), (5, .int .i64 i), (6, .ptr 16 1 0 0), (7, .ptr 19 1 0 0), (11, .int .i64 t.1)], t.2.1, t.2.2, t.2.2⟩)
      (fun t => t.1 ≤ m ∧ N ≤ t.2.2 ∧ (∀ b, b ≠ 16 → t.2.1 b = H b) ∧ t.2.1 16 = some ⟨[.agg [.sl ((mat i (at2 P)).map dvl), w, .bool (decide (wC i m (at2 P) qf c yf t.1 < 0)), .sl (nats .i64 (digs 10 (wC i m (at2 P) qf c yf t.1).natAbs))]], 4⟩) (fun t => m - t.1) (0, H, N) rfl ⟨by dsimp only; omega, by dsimp only; omega, fun _ _ => rfl, by dsimp only; rw [← e0]; exact i4⟩ ?_
    rintro ⟨j, H2, nx2⟩ ⟨j1, j2, j3, j4⟩
    dsimp only at j1 j2 j3 j4
    have q1 := (j3 1 (by omega)).trans i3
    have q3 := (j3 19 (by omega)).trans i5
    by_cases hj : j < m
    · have ek : ((i : Int) + (j : Int)) = ((i + j : Nat) : Int) := by omega
      have s1 := sQ (i + j)
      have s2 := dlim_mul 2 (Q.getD (i + j) 0)
      have s3 := b3 j
      have s4 := sy j
      have s5 := sC j (by omega)
      have eg : wC i m (at2 P) qf c yf j - 2 * Q.getD (i + j) 0 * y.getD j 0 = wD i m (at2 P) qf c yf j 0 := by
        rw [← hyf, ← hp]; unfold wD; simp [sumZ]
      simp -dsimp -implicitDefEqProofs (disch := (first | assumption | omega | (simp only [zE] <;> omega) | (apply isPure_intro <;> simp))) only [go_sem, hQ, hy, j4, q3, ek, hwa]
      first | refine callB_of (r_mul _ _ (by omega) (by omega)) (by simp) ?_ | refine callP_of (r_mul _ _ (by omega) (by omega)) (by simp) ?_
      simp -dsimp -implicitDefEqProofs (disch := (first | assumption | omega | (simp only [zE] <;> omega) | (apply isPure_intro <;> simp))) only [go_sem, hQ, hy, j4, q3, hwa]
      first | refine callB_of (r_mul _ _ (by omega) (by omega)) (by simp) ?_ | refine callP_of (r_mul _ _ (by omega) (by omega)) (by simp) ?_
      simp -dsimp -implicitDefEqProofs (disch := (first | assumption | omega | (simp only [zE] <;> omega) | (apply isPure_intro <;> simp))) only [go_sem, hQ, hy, j4, q3, hwa]
      first | refine callB_of (r_sub _ _ (by omega) (by omega)) (by simp) ?_ | refine callP_of (r_sub _ _ (by omega) (by omega)) (by simp) ?_
      rw [eg]
      simp -dsimp -implicitDefEqProofs (disch := (first | assumption | omega | (simp only [zE] <;> omega) | (apply isPure_intro <;> simp))) only [go_sem, hQ, hy, j4, q3, hwa]
      obtain ⟨H3, eH3⟩ : ∃ H3 : Hp, H3 = H2.upd 16 (some ⟨[.agg [.sl ((mat i (at2 P)).map dvl), w, .bool (decide (wD i m (at2 P) qf c yf j 0 < 0)), .sl (nats .i64 (digs 10 (wD i m (at2 P) qf c yf j 0).natAbs))]], 4⟩) := ⟨_, rfl⟩
      have f0 : ∀ b, b ≠ 16 → H3 b = H b := fun b hb => by rw [eH3, Hp.upd_ne _ _ hb]; exact j3 b hb
      have fb : H3 16 = some ⟨[.agg [.sl ((mat i (at2 P)).map dvl), w, .bool (decide (wD i m (at2 P) qf c yf j 0 < 0)), .sl (nats .i64 (digs 10 (wD i m (at2 P) qf c yf j 0).natAbs))]], 4⟩ := by rw [eH3]; exact Hp.upd_same _ _ _
      rw [← eH3]
      clear eH3 j3 j4 q1 q3
      refine W_loop (T := Nat × Hp × Nat) (fun t => ⟨E [(1, dvl y), (2, .pp (DQV P Q c)), (4, .ptr 1 1 0 0), (5, .int .i64 i), (6, .ptr 16 1 0 0), (7, .ptr 19 1 0 0), (11, .int .i64 j), (12, .int .i64 t.1)], t.2.1, t.2.2, t.2.2⟩)
        (fun t => t.1 ≤ m ∧ N ≤ t.2.2 ∧ (∀ b, b ≠ 16 → t.2.1 b = H b) ∧ t.2.1 16 = some ⟨[.agg [.sl ((mat i (at2 P)).map dvl), w, .bool (decide (wD i m (at2 P) qf c yf j t.1 < 0)), .sl (nats .i64 (digs 10 (wD i m (at2 P) qf c yf j t.1).natAbs))]], 4⟩) (fun t => m - t.1) (0, H3, _) rfl ⟨by dsimp only; omega, by dsimp only; omega, f0, fb⟩ ?_
      rintro ⟨r, H4, nx3⟩ ⟨r1, r2, r3, r4⟩
      dsimp only at r1 r2 r3 r4
      by_cases hr : r < m
      · have hri := hP.row (show i + j < n by omega)
        have er : ((i : Int) + (r : Int)) = ((i + r : Nat) : Int) := by omega
        have g1 : (P.getD (i + j) []).getD (i + r) 0 = at2 P (i + j) (i + r) := rfl
        have t1 := sP (i + j) (i + r)
        have t2 := dlim_mul (at2 P (i + j) (i + r)) (y.getD j 0)
        have t3 := dlim_mul (at2 P (i + j) (i + r) * y.getD j 0) (y.getD r 0)
        have t4 := sy r
        have t5 := sD j r (by omega) (by omega)
        have eg2 : wD i m (at2 P) qf c yf j r + at2 P (i + j) (i + r) * y.getD j 0 * y.getD r 0 = wD i m (at2 P) qf c yf j (r + 1) := by
          rw [← hyf, ← hp]; unfold wD; simp only [sumZ]; omega
        simp -dsimp -implicitDefEqProofs (disch := (first | assumption | omega | (simp only [zE] <;> omega) | (apply isPure_intro <;> simp))) only [go_sem, hl, hri, hy, r4, ek, er, g1, hwa]
        first | refine callB_of (r_mul _ _ (by omega) (by omega)) (by simp) ?_ | refine callP_of (r_mul _ _ (by omega) (by omega)) (by simp) ?_
        simp -dsimp -implicitDefEqProofs (disch := (first | assumption | omega | (simp only [zE] <;> omega) | (apply isPure_intro <;> simp))) only [go_sem, hl, hri, hy, r4, hwa]
        first | refine callB_of (r_mul _ _ (by omega) (by omega)) (by simp) ?_ | refine callP_of (r_mul _ _ (by omega) (by omega)) (by simp) ?_
        simp -dsimp -implicitDefEqProofs (disch := (first | assumption | omega | (simp only [zE] <;> omega) | (apply isPure_intro <;> simp))) only [go_sem, hl, hri, hy, r4, hwa]
        first | refine callB_of (r_add _ _ (by omega) (by omega)) (by simp) ?_ | refine callP_of (r_add _ _ (by omega) (by omega)) (by simp) ?_
        rw [eg2]
        simp -dsimp -implicitDefEqProofs (disch := (first | assumption | omega | (simp only [zE] <;> omega) | (apply isPure_intro <;> simp))) only [go_sem, hl, hri, hy, r4, hwa]
        generalize hG : Hp.upd H4 16 _ = G
        exact ⟨(r + 1, G, _), rfl, ⟨by dsimp only; omega, by dsimp only; omega, fun b hb => by dsimp only; rw [← hG, Hp.upd_ne _ _ hb]; exact r3 b hb, upd_at_same hG⟩, by dsimp only; omega⟩
      · have hrm : r = m := by omega
        subst hrm
        have eg3 : wD i r (at2 P) qf c yf j r = wC i r (at2 P) qf c yf (j + 1) := by
          unfold wD wC; simp only [sumZ]; omega
        rw [eg3] at r4
        simp -dsimp -implicitDefEqProofs (disch := (first | assumption | omega | (simp only [zE] <;> omega) | (apply isPure_intro <;> simp))) only [go_sem, hy]
        exact ⟨(j + 1, H4, _), rfl, ⟨by dsimp only; omega, by dsimp only; omega, r3, r4⟩, by dsimp only; omega⟩
    · have hjm : j = m := by omega
      subst hjm
      have q6 : Row 22 H2 nx2 w 2 ((rowF i fun i_1 => wQ i (at2 P) qf yf i_1 j).map DV) := by
        rcases f6 with h | ⟨b, h1, h2, h3, h4⟩
        · exact .inl h
        · exact .inr ⟨b, h1, h2, by omega, by rw [j3 b (by omega)]; exact h4⟩
      simp -dsimp -implicitDefEqProofs (disch := (first | assumption | omega | (simp only [zE] <;> omega) | (apply isPure_intro <;> simp))) only [go_sem, hy, j4, q1, hwa, hwc]
      rw [(q6.upd (by omega)).frz (frz_map fun x => frz_DV _ _ _)]
      rfl
end Go.Gim
/- Reference 08: without the first numbers. -/
set_option maxRecDepth 100000
set_option maxHeartbeats 4000000
set_option linter.unusedSimpArgs false
set_option linter.unusedVariables false
namespace Go.Gim
open Go.Proofs
theorem DQV_zz : DQV [] [] 0 = .agg [.sl [], .sl [], .bool false, .sl []] := by simp [DQV, digs_zero, nats, dvl]
theorem DV_zz : DV 0 = .agg [.bool false, .sl []] := by simp [DV, digs_zero, nats]
def routV (n k : Nat) (P : Mx) (q : Nat → Int) (c : Int) : V := if defS k P = true then .tup [DQV (mat (n - k) (gP k P)) (rowF (n - k) (gQ k P q)) (gC k P q c), DV (det k P), .bool true] else .tup [DQV [] [] 0, DV 0, .bool false]
theorem rqwithout_ret (P : List (List Int)) (Q : List Int) (c : Int) (n k : Nat) (hn : n ≤ 12) (hk : k ≤ n) (hP : Sq P n) (hS : SymM n (at2 P)) (hQ : Q.length = n) (sP : ∀ i j, dlim (at2 P i j) ≤ 20) (sQ : ∀ i, dlim (Q.getD i 0) ≤ 20) (sc : dlim c ≤ 20) :
    Ret pg n_gimbalref08_Quad_Without [DQV P Q c, .int .i64 k] (routV n k (at2 P) (fun i => Q.getD i 0) c) := by
  have hl := hP.1
  have c1 := rfirst_ret P n k (by omega) hP hk
  have hAt : ∀ i j, i < k → j < k → at2 (mat k (at2 P)) i j = at2 P i j := fun i j hi hj => mat_at hi hj
  have sM := dlim_at_mat (n := k) sP
  have c2 := rdefinite_ret (L := 20) (by omega) (mat k (at2 P)) k (by omega) (mat_sq _ _) sM
  rw [defS_congr hAt] at c2
  have c3 := rdet_ret (L := 20) (by omega) k (mat k (at2 P)) (by omega) (mat_sq _ _) fun i j _ _ => sM i j
  rw [det_congr hAt] at c3
  have hkk : k * (20 + k) ≤ 12 * 32 := Nat.mul_le_mul (by omega) (by omega)
  have sD : dlim (det k (at2 P)) ≤ 400 := by have := det_dlim (n := k) (M := at2 P) (L := 20) fun i j _ _ => sP i j; omega
  have hsol : ∀ (b : List Int) (f : Nat → Int), b.length = k → (∀ i, i < k → b.getD i 0 = f i) → (∀ i, dlim (b.getD i 0) ≤ 20) → Ret pg n_gimbalref07_Mat_Solve [.sl ((mat k (at2 P)).map dvl), dvl b] (dvl (rowF k (numF k (at2 P) f))) := fun b f hb hf sb => by
    have := rsolve_ret (L := 20) (by omega) (mat k (at2 P)) b k (by omega) (mat_sq _ _) hb (fun i j _ _ => sM i j) (fun i _ => sb i)
    rw [show (rowF k fun i => det k (setC (at2 (mat k (at2 P))) i fun i => b.getD i 0)) = rowF k (numF k (at2 P) f) from rowF_congr fun j hj => numF_congr hAt hf j] at this
    exact this
  have sNum : ∀ (f : Nat → Int), (∀ i, dlim (f i) ≤ 20) → ∀ j, dlim (numF k (at2 P) f j) ≤ 400 := fun f hf j => by
    have := det_dlim (n := k) (M := setC (at2 P) j f) (L := 20) fun a b _ _ => by unfold setC; split; exact hf a; exact sP a b
    unfold numF; omega
  have hslQ := slc_dvl (l := Q) (k := k) (ki := .i64) (by omega)
  rw [take_F hQ hk] at hslQ
  have hslP : ∀ i, i < n → redV (.slc 2 false true false) [dvl (P.getD i []), .int .i64 (k : Int)] = some (dvl (rowF k (at2 P i))) := fun i hi => by
    have := slc_dvl (l := P.getD i []) (k := k) (ki := .i64) (by rw [hP.row hi]; exact hk)
    rw [take_F (hP.row hi) hk] at this
    exact this
  have rngd : ∀ {f : Nat → Int}, (∀ i, dlim (f i) ≤ 400) → ∀ i, dlim ((rowF k f).getD i 0) ≤ 400 := fun {f} h i => by
    unfold rowF
    rw [range_getD']; split
    · exact h i
    · rw [dlim_zero]; omega
  have rng2 : ∀ {f : Nat → Int}, (∀ i, dlim (f i) ≤ 20) → ∀ i, dlim ((rowF k f).getD i 0) ≤ 20 := fun {f} h i => by
    unfold rowF
    rw [range_getD']; split
    · exact h i
    · rw [dlim_zero]; omega
  have hdot : ∀ f g : Nat → Int, (∀ i, dlim (f i) ≤ 400) → (∀ i, dlim (g i) ≤ 400) → Ret pg n_gimbalref07_Dot [dvl (rowF k f), dvl (rowF k g)] (DV (sumZ (fun c => f c * g c) k)) := fun f g hf hg => by
    have := rdot_ret (rowF k f) (rowF k g) (by rw [rowF_len]; omega) (by rw [rowF_len, rowF_len]; omega) (fun i => by have := rngd hf i; omega) (fun i => by have := rngd hg i; omega)
    rw [rowF_len, sumN_sm, sumZ_congr (g := fun c => f c * g c) fun c hc => by rw [rowF_get hc, rowF_get hc]] at this
    exact this
  have sSum : ∀ f g : Nat → Int, (∀ i, dlim (f i) ≤ 400) → (∀ i, dlim (g i) ≤ 400) → dlim (sumZ (fun c => f c * g c) k) ≤ 900 := fun f g hf hg => by
    have := sumZ_dlim (f := fun c => f c * g c) (B := 800) (n := k) fun i _ => by have := dlim_mul (f i) (g i); have := hf i; have := hg i; omega
    omega
  have sQ' : ∀ i, dlim (Q.getD i 0) ≤ 400 := fun i => by have := sQ i; omega
  have sP' : ∀ i j, dlim (at2 P i j) ≤ 400 := fun i j => by have := sP i j; omega
  refine gimbalref08_Quad_Without.of rfl (W_b ?_)
  unfold gimbalref08_Quad_Without.k gimbalref08_Quad_Without.res routV
  simp -dsimp -implicitDefEqProofs (disch := (first | assumption | omega | (simp only [zE] <;> omega) | (apply isPure_intro <;> simp))) only [go_sem]
  first | refine callB_of (c1) (by simp) ?_ | refine callP_of (c1) (by simp) ?_
  simp -dsimp -implicitDefEqProofs (disch := (first | assumption | omega | (simp only [zE] <;> omega) | (apply isPure_intro <;> simp))) only [go_sem]
  first | refine callB_of (c2) (by simp) ?_ | refine callP_of (c2) (by simp) ?_
  by_cases hdf : defS k (at2 P) = true
  · rw [if_pos hdf, hdf]
    simp -dsimp -implicitDefEqProofs (disch := (first | assumption | omega | (simp only [zE] <;> omega) | (apply isPure_intro <;> simp))) only [go_sem]
    first | refine callB_of (c3) (by simp) ?_ | refine callP_of (c3) (by simp) ?_
    simp -dsimp -implicitDefEqProofs (disch := (first | assumption | omega | (simp only [zE] <;> omega) | (apply isPure_intro <;> simp))) only [go_sem, hslQ]
    first | refine callB_of (hsol (rowF k fun j => Q.getD j 0) (fun i => Q.getD i 0) (rowF_len _ _) (fun i hi => rowF_get hi) (fun i => rng2 sQ i)) (by simp) ?_ | refine callP_of (hsol (rowF k fun j => Q.getD j 0) (fun i => Q.getD i 0) (rowF_len _ _) (fun i hi => rowF_get hi) (fun i => rng2 sQ i)) (by simp) ?_
    simp -dsimp -implicitDefEqProofs (disch := (first | assumption | omega | (simp only [zE] <;> omega) | (apply isPure_intro <;> simp))) only [go_sem, hslQ]
    have sm1 := dlim_mul (det k (at2 P)) c
    have ss1 := sSum (fun i => Q.getD i 0) (numF k (at2 P) fun i => Q.getD i 0) sQ' (sNum _ sQ)
    first | refine callB_of (r_mul _ c (by omega) (by omega)) (by simp) ?_ | refine callP_of (r_mul _ c (by omega) (by omega)) (by simp) ?_
    simp -dsimp -implicitDefEqProofs (disch := (first | assumption | omega | (simp only [zE] <;> omega) | (apply isPure_intro <;> simp))) only [go_sem, hslQ]
    first | refine callB_of (hdot (fun i => Q.getD i 0) (numF k (at2 P) fun i => Q.getD i 0) sQ' (sNum _ sQ)) (by simp) ?_ | refine callP_of (hdot (fun i => Q.getD i 0) (numF k (at2 P) fun i => Q.getD i 0) sQ' (sNum _ sQ)) (by simp) ?_
    simp -dsimp -implicitDefEqProofs (disch := (first | assumption | omega | (simp only [zE] <;> omega) | (apply isPure_intro <;> simp))) only [go_sem, hslQ]
    first | refine callB_of (r_sub _ _ (by omega) (by omega)) (by simp) ?_ | refine callP_of (r_sub _ _ (by omega) (by omega)) (by simp) ?_
    have egC : det k (at2 P) * c - sumZ (fun c => Q.getD c 0 * numF k (at2 P) (fun i => Q.getD i 0) c) k = gC k (at2 P) (fun i => Q.getD i 0) c := by rw [Int.mul_comm]; rfl
    rw [egC]
    simp -dsimp -implicitDefEqProofs (disch := (first | assumption | omega | (simp only [zE] <;> omega) | (apply isPure_intro <;> simp))) only [go_sem]
    generalize gC k (at2 P) (fun i => Q.getD i 0) c = gc
    generalize hD : det k (at2 P) = d at *
    obtain ⟨H0, eH0⟩ : ∃ H0 : Hp, H0 = (((Hp.upd (fun x => none) 1 (some ⟨[V.agg [V.nil, V.nil, V.bool false, V.sl []]], 4⟩)).upd 2 (some ⟨[V.agg [V.bool false, V.sl []]], 2⟩)).upd 16 (some ⟨[DV d], 2⟩)).upd 37 (some ⟨[V.agg [V.nil, V.nil, V.bool (decide (gc < 0)), V.sl (nats .i64 (digs 10 gc.natAbs))]], 4⟩) := ⟨_, rfl⟩
    have b0 : H0 1 = some ⟨[V.agg [V.nil, V.nil, V.bool false, V.sl []]], 4⟩ := by rw [eH0]; rfl
    have b1 : H0 37 = some ⟨[.agg [.nil, .nil, .bool (decide (gc < 0)), .sl (nats .i64 (digs 10 gc.natAbs))]], 4⟩ := by rw [eH0]; exact Hp.upd_same _ _ _
    have b2 : H0 16 = some ⟨[DV d], 2⟩ := by rw [eH0]; rfl
    have b3 : H0 2 = some ⟨[V.agg [V.bool false, V.sl []]], 2⟩ := by rw [eH0]; rfl
    rw [← eH0]
    clear eH0 egC c1 c2 c3
    refine W_loop (T := Nat × V × V × Hp × Nat) (fun t => ⟨E [(1, .int .i64 k), (2, .pp (DQV P Q c)), (4, .ptr 1 1 0 0), (5, .ptr 2 1 0 0), (7, .sl ((mat k (at2 P)).map dvl)), (9, .ptr 16 1 0 0), (10, dvl (rowF k (numF k (at2 P) fun j => Q.getD j 0))), (11, .ptr 37 1 0 0), (12, .int .i64 ((k + t.1 : Nat) : Int))], t.2.2.2.1, t.2.2.2.2, t.2.2.2.2⟩)
      (fun t => t.1 ≤ n - k ∧ 41 ≤ t.2.2.2.2 ∧ t.2.2.2.1 37 = some ⟨[.agg [t.2.1, t.2.2.1, .bool (decide (gc < 0)), .sl (nats .i64 (digs 10 gc.natAbs))]], 4⟩ ∧ t.2.2.2.1 16 = some ⟨[DV d], 2⟩ ∧ t.2.2.2.1 1 = some ⟨[V.agg [V.nil, V.nil, V.bool false, V.sl []]], 4⟩ ∧ t.2.2.2.1 2 = some ⟨[V.agg [V.bool false, V.sl []]], 2⟩ ∧ Row 41 t.2.2.2.1 t.2.2.2.2 t.2.1 1 ((List.range t.1).map fun i => dvl (rowF (n - k) (gP k (at2 P) i))) ∧ Row 41 t.2.2.2.1 t.2.2.2.2 t.2.2.1 2 ((rowF t.1 (gQ k (at2 P) fun i => Q.getD i 0)).map DV)) (fun t => n - k - t.1)
      (0, .nil, .nil, H0, _) rfl ⟨by dsimp only; omega, by dsimp only; omega, b1, b2, b0, b3, Row.nil _ _ _ _, Row.nil _ _ _ _⟩ ?_
    clear b1 b2 b0 b3 H0
    rintro ⟨i, w1, w2, H, nx⟩ ⟨i1, i2, i3, i4, i7, i8, i5, i6⟩
    dsimp only at i1 i2 i3 i4 i5 i6 i7 i8
    obtain ⟨hwa1, hwc1, _, _⟩ := i5.flat
    obtain ⟨hwa2, hwc2, _, _⟩ := i6.flat
    have hsep : Sep w1 w2 := i5.not_row2 i6 (by decide)
    by_cases hi : i < n - k
    · simp -dsimp -implicitDefEqProofs (disch := (first | assumption | omega | (simp only [zE] <;> omega) | (apply isPure_intro <;> simp))) only [go_sem, hQ]
      have hN : 49 ≤ nx + 8 := by omega
      have f5 := i5.same (H' := H) (nx' := nx + 8) (fun _ _ => rfl) (by omega)
      have f6 := i6.same (H' := H) (nx' := nx + 8) (fun _ _ => rfl) (by omega)
      have hNn : nx ≤ nx + 8 := by omega
      generalize nx + 8 = N at hN hNn f5 f6 ⊢
      refine W_loop (T := Nat × V × Hp × Nat) (fun t => ⟨E [(1, .int .i64 k), (2, .pp (DQV P Q c)), (4, .ptr 1 1 0 0), (5, .ptr 2 1 0 0), (7, .sl ((mat k (at2 P)).map dvl)), (9, .ptr 16 1 0 0), (10, dvl (rowF k (numF k (at2 P) fun j => Q.getD j 0))), (11, .ptr 37 1 0 0), (12, .int .i64 ((k + i : Nat) : Int)), (13, t.2.1), (14, .int .i64 ((k + t.1 : Nat) : Int))], t.2.2.1, t.2.2.2, t.2.2.2⟩)
        (fun t => t.1 ≤ n - k ∧ N ≤ t.2.2.2 ∧ (∀ b, b < N → t.2.2.1 b = H b) ∧ Row N t.2.2.1 t.2.2.2 t.2.1 2 ((rowF t.1 (gP k (at2 P) i)).map DV)) (fun t => n - k - t.1)
        (0, .nil, H, _) rfl ⟨by dsimp only; omega, by dsimp only; omega, fun _ _ => rfl, Row.nil _ _ _ _⟩ ?_
      rintro ⟨j, u, H2, nx2⟩ ⟨j1, j2, j3, j4⟩
      dsimp only at j1 j2 j3 j4
      have e1 := (j3 37 (by omega)).trans i3
      have e2 := (j3 16 (by omega)).trans i4
      have e7 := (j3 1 (by omega)).trans i7
      have e8 := (j3 2 (by omega)).trans i8
      by_cases hj : j < n - k
      · have hsPj := hslP (k + j) (by omega)
        have hsPi := hslP (k + i) (by omega)
        have hsj := hsol (rowF k (at2 P (k + j))) (at2 P (k + j)) (rowF_len _ _) (fun a ha => rowF_get ha) (fun a => rng2 (sP (k + j)) a)
        have hri := hP.row (show k + i < n by omega)
        have hg : (P.getD (k + i) []).getD (k + j) 0 = at2 P (k + i) (k + j) := rfl
        have s1 := sP' (k + i) (k + j)
        have s2 := dlim_mul d (at2 P (k + i) (k + j))
        have s3 := sSum (at2 P (k + i)) (numF k (at2 P) (at2 P (k + j))) (sP' _) (sNum _ (sP _))
        have eg : d * at2 P (k + i) (k + j) - sumZ (fun c => at2 P (k + i) c * numF k (at2 P) (at2 P (k + j)) c) k = gP k (at2 P) i j := by rw [← hD]; exact (gP_ref hk hS hi hj).symm
        simp -dsimp -implicitDefEqProofs (disch := (first | assumption | omega | (simp only [zE] <;> omega) | (apply isPure_intro <;> simp))) only [go_sem, hl, hQ, hsPj]
        first | refine callB_of (hsj) (by simp) ?_ | refine callP_of (hsj) (by simp) ?_
        simp -dsimp -implicitDefEqProofs (disch := (first | assumption | omega | (simp only [zE] <;> omega) | (apply isPure_intro <;> simp))) only [go_sem, hl, hri, hg, e2]
        first | refine callB_of (r_mul _ _ (by omega) (by omega)) (by simp) ?_ | refine callP_of (r_mul _ _ (by omega) (by omega)) (by simp) ?_
        simp -dsimp -implicitDefEqProofs (disch := (first | assumption | omega | (simp only [zE] <;> omega) | (apply isPure_intro <;> simp))) only [go_sem, hl, hsPi]
        first | refine callB_of (hdot (at2 P (k + i)) (numF k (at2 P) (at2 P (k + j))) (sP' _) (sNum _ (sP _))) (by simp) ?_ | refine callP_of (hdot (at2 P (k + i)) (numF k (at2 P) (at2 P (k + j))) (sP' _) (sNum _ (sP _))) (by simp) ?_
        simp -dsimp -implicitDefEqProofs (disch := (first | assumption | omega | (simp only [zE] <;> omega) | (apply isPure_intro <;> simp))) only [go_sem]
        first | refine callB_of (r_sub _ _ (by omega) (by omega)) (by simp) ?_ | refine callP_of (r_sub _ _ (by omega) (by omega)) (by simp) ?_
        rw [eg]
        simp -dsimp -implicitDefEqProofs (disch := (first | assumption | omega | (simp only [zE] <;> omega) | (apply isPure_intro <;> simp))) only [go_sem]
        refine effB_row (lo := N) (nx := nx2 + 5) (H0 := H2) (xs := (rowF j (gP k (at2 P) i)).map DV) (j4.same (fun _ _ => rfl) (by omega)) (by omega) rfl (by omega) (by omega) (by simp [rowOk, V.cells, V.cellOk, DV, V.isJunk]) (by decide) (by simp [rowF]; omega) (by simp [rowF]; omega) fun v2 H3 r1 _ _ r4 => ?_
        rw [map_app, show rowF j (gP k (at2 P) i) ++ [gP k (at2 P) i j] = rowF (j + 1) (gP k (at2 P) i) from range_snoc _ _] at r1
        simp -dsimp -implicitDefEqProofs (disch := (first | assumption | omega | (simp only [zE] <;> omega) | (apply isPure_intro <;> simp))) only [go_sem]
        exact ⟨(j + 1, v2, H3, _), rfl, ⟨by dsimp only; omega, by dsimp only; omega, fun b hb => (r4 b hb).trans (j3 b hb), r1.same (fun _ _ => rfl) (by dsimp only; omega)⟩, by dsimp only; omega⟩
      · have hjn : j = n - k := by omega
        rw [hjn] at j4
        have g5 := f5.same (H' := H2) (nx' := nx2) j3 j2
        have g6 := f6.same (H' := H2) (nx' := nx2) j3 j2
        simp -dsimp -implicitDefEqProofs (disch := (first | assumption | omega | (simp only [zE] <;> omega) | (apply isPure_intro <;> simp))) only [go_sem, hQ]
        refine gh_row2 (lo := N) (ys := (rowF (n - k) (gP k (at2 P) i)).map DV) 13 rfl (j4.same (fun _ _ => rfl) (by omega)) (pure_map fun x => by simp) (fun p hp hne c hc => ?_) fun H3 hH3 => ?_
        · simp only [List.mem_cons, List.not_mem_nil, or_false] at hp
          rcases hp with rfl | rfl | rfl | rfl | rfl | rfl | rfl | rfl | rfl | rfl | rfl | rfl <;> first | exact absurd rfl hne | exact sub_dvl _ _ | (simp [V.sub]; done) | exact sub_ptr_ne (by omega)
        · have e9 : V.sl ((rowF (n - k) (gP k (at2 P) i)).map DV) = dvl (rowF (n - k) (gP k (at2 P) i)) := rfl
          have hH3p : ∀ b blk, b < N → H2 b = some blk → (∀ x ∈ blk.elems, V.Pure x) → H3 b = some blk := fun b blk hb h hp => hH3 b blk hb h fun x hx c _ => sub_pure _ (hp x hx)
          have q1 : H3 37 = some ⟨[.agg [w1, w2, .bool (decide (gc < 0)), .sl (nats .i64 (digs 10 gc.natAbs))]], 4⟩ := hH3 37 _ (by omega) e1 fun x hx c hc => by
            simp only [List.mem_singleton] at hx
            subst hx
            rw [sub_agg]
            simp only [List.map_cons, List.map_nil, i5.sub_ge (show nx ≤ c by omega), i6.sub_ge (show nx ≤ c by omega)]
            simp [V.sub]
          have q2 : H3 16 = some ⟨[DV d], 2⟩ := hH3p 16 _ (by omega) e2 (by simp)
          have q7 : H3 1 = some ⟨[V.agg [V.nil, V.nil, V.bool false, V.sl []]], 4⟩ := hH3p 1 _ (by omega) e7 (by simp)
          have q8 : H3 2 = some ⟨[V.agg [V.bool false, V.sl []]], 2⟩ := hH3p 2 _ (by omega) e8 (by simp)
          have q5 : Row 41 H3 nx2 w1 1 ((List.range i).map fun i => dvl (rowF (n - k) (gP k (at2 P) i))) := (f5.same (H' := H2) (nx' := N) j3 (Nat.le_refl _)).told (lo := N) (Nat.le_refl _) j2 (pure_map fun x => by simp) hH3p
          have q6 : Row 41 H3 nx2 w2 2 ((rowF i (gQ k (at2 P) fun i => Q.getD i 0)).map DV) := (f6.same (H' := H2) (nx' := N) j3 (Nat.le_refl _)).told (lo := N) (Nat.le_refl _) j2 (pure_map fun x => by simp) hH3p
          clear hH3 hH3p g5 g6 f5 f6 e1 e2 e7 e8 j3 j4 i3 i4 i5 i6 i7 i8
          simp -dsimp -implicitDefEqProofs (disch := (first | assumption | omega | (simp only [zE] <;> omega) | (apply isPure_intro <;> simp))) only [go_sem, e9, q1, hwa1]
          refine effB_row (lo := 41) (nx := nx2 + 5) (H0 := H3) (xs := (List.range i).map fun i => dvl (rowF (n - k) (gP k (at2 P) i))) (q5.same (fun _ _ => rfl) (by omega)) (by omega) rfl (by omega) (by omega) (by simp [rowOk, V.cells, V.cellOk, V.isJunk, dvl]) (by decide) (by simp; omega) (by simp; omega) fun v2 H4 r1 r2 r3 r4 => ?_
          rw [range_snoc (fun i => dvl (rowF (n - k) (gP k (at2 P) i)))] at r1
          have p1 := (r4 37 (by omega)).trans q1
          have p2 := (r4 16 (by omega)).trans q2
          have p7 := (r4 1 (by omega)).trans q7
          have p8 := (r4 2 (by omega)).trans q8
          have p6 := (q6.same (H' := H3) (nx' := nx2 + 5) (fun _ _ => rfl) (by omega)).keep r3 hsep (Nat.le_refl _)
          obtain ⟨b', hv2, c1, c3, c4⟩ := r1.own_of (by simp)
          rw [List.length_map, List.length_range] at hv2
          subst hv2
          have hsPi := hslP (k + i) (by omega)
          have s1 := sQ' (k + i)
          have s2 := dlim_mul d (Q.getD (k + i) 0)
          have s3 := sSum (at2 P (k + i)) (numF k (at2 P) fun j => Q.getD j 0) (sP' _) (sNum _ sQ)
          have eg : d * Q.getD (k + i) 0 - sumZ (fun c => at2 P (k + i) c * numF k (at2 P) (fun j => Q.getD j 0) c) k = gQ k (at2 P) (fun i => Q.getD i 0) i := by rw [← hD, Int.mul_comm]; rfl
          simp -dsimp -implicitDefEqProofs (disch := (first | assumption | omega | (simp only [zE] <;> omega) | (apply isPure_intro <;> simp))) only [go_sem, p1, p2, hwa1, hwa2, hQ]
          first | refine callB_of (r_mul _ _ (by omega) (by omega)) (by simp) ?_ | refine callP_of (r_mul _ _ (by omega) (by omega)) (by simp) ?_
          simp -dsimp -implicitDefEqProofs (disch := (first | assumption | omega | (simp only [zE] <;> omega) | (apply isPure_intro <;> simp))) only [go_sem, hl, hsPi]
          first | refine callB_of (hdot (at2 P (k + i)) (numF k (at2 P) fun j => Q.getD j 0) (sP' _) (sNum _ sQ)) (by simp) ?_ | refine callP_of (hdot (at2 P (k + i)) (numF k (at2 P) fun j => Q.getD j 0) (sP' _) (sNum _ sQ)) (by simp) ?_
          simp -dsimp -implicitDefEqProofs (disch := (first | assumption | omega | (simp only [zE] <;> omega) | (apply isPure_intro <;> simp))) only [go_sem]
          first | refine callB_of (r_sub _ _ (by omega) (by omega)) (by simp) ?_ | refine callP_of (r_sub _ _ (by omega) (by omega)) (by simp) ?_
          rw [eg]
          simp -dsimp -implicitDefEqProofs (disch := (first | assumption | omega | (simp only [zE] <;> omega) | (apply isPure_intro <;> simp))) only [go_sem]
          refine effB_row (lo := 41) (nx := nx2 + 13) (H0 := H4.upd 37 (some ⟨[.agg [.own b' (i + 1), w2, .bool (decide (gc < 0)), .sl (nats .i64 (digs 10 gc.natAbs))]], 4⟩)) (xs := (rowF i (gQ k (at2 P) fun i => Q.getD i 0)).map DV) ((p6.upd (by omega)).same (fun _ _ => rfl) (by omega)) (by omega) rfl (by omega) (by omega) (by simp [rowOk, V.cells, V.cellOk, DV, V.isJunk]) (by decide) (by simp [rowF]; omega) (by simp [rowF]; omega) fun v3 H5 t1 t2 t3 t4 => ?_
          rw [map_app, show rowF i (gQ k (at2 P) fun i => Q.getD i 0) ++ [gQ k (at2 P) (fun i => Q.getD i 0) i] = rowF (i + 1) (gQ k (at2 P) fun i => Q.getD i 0) from range_snoc _ _] at t1
          have u1 : H5 37 = some ⟨[.agg [.own b' (i + 1), w2, .bool (decide (gc < 0)), .sl (nats .i64 (digs 10 gc.natAbs))]], 4⟩ := (t4 37 (by omega)).trans (Hp.upd_same _ _ _)
          have u2 : H5 16 = some ⟨[DV d], 2⟩ := (t4 16 (by omega)).trans ((Hp.upd_ne _ _ (by omega)).trans p2)
          have u7 : H5 1 = some ⟨[V.agg [V.nil, V.nil, V.bool false, V.sl []]], 4⟩ := (t4 1 (by omega)).trans ((Hp.upd_ne _ _ (by omega)).trans p7)
          have u8 : H5 2 = some ⟨[V.agg [V.bool false, V.sl []]], 2⟩ := (t4 2 (by omega)).trans ((Hp.upd_ne _ _ (by omega)).trans p8)
          have ub : H5 b' = some ⟨(List.range (i + 1)).map fun i => dvl (rowF (n - k) (gP k (at2 P) i)), 1⟩ := by
            rw [t3 b' (by omega) fun m e => by have h1 := p6.lt e; have h2 := r2 b' _ rfl; omega, Hp.upd_ne _ _ (by omega)]
            exact c4
          obtain ⟨b3, hv3, x1, x3, x4⟩ := t1.own_of (by simp [rowF])
          have hv3' : v3 = .own b3 (i + 1) := by rw [hv3, List.length_map, rowF_len]
          subst hv3'
          clear t1 t2 t3 t4 r1 r2 r3 r4 hv3 p1 p2 p6 p7 p8 q1 q2 q5 q6 q7 q8 c4
          simp -dsimp -implicitDefEqProofs (disch := (first | assumption | omega | (simp only [zE] <;> omega) | (apply isPure_intro <;> simp))) only [go_sem, u1, u2, hwa1, hwa2]
          generalize hH6 : Hp.upd H5 37 _ = H6
          have k1 := upd_at_same hH6
          have k2 := upd_at_ne hH6 u2 (by omega)
          have k3 := upd_at_ne hH6 ub (by omega)
          have k4 := upd_at_ne hH6 x4 (by omega)
          have k7 := upd_at_ne hH6 u7 (by omega)
          have k8 := upd_at_ne hH6 u8 (by omega)
          exact ⟨(i + 1, _, _, H6, _), rfl, ⟨by dsimp only; omega, by dsimp only; omega, k1, k2, k7, k8, .inr ⟨b', by rw [List.length_map, List.length_range], c1, by dsimp only; omega, k3⟩, .inr ⟨b3, by rw [List.length_map, rowF_len], x1, by dsimp only; omega, k4⟩⟩, by dsimp only; omega⟩
    · have hin : i = n - k := by omega
      subst hin
      have h1n : (1 : Nat) ≠ 37 := by omega
      simp -dsimp -implicitDefEqProofs (disch := (first | assumption | omega | (simp only [zE] <;> omega) | (apply isPure_intro <;> simp))) only [go_sem, hQ, i3, i4, i7, i8, hwa1, hwa2, hwc1, hwc2]
      rw [((i5.upd (by omega)).upd (by omega)).frz (allOf_self fun x hx => by obtain ⟨q, _, rfl⟩ := List.mem_map.1 hx; rfl), ((i6.upd (by omega)).upd (by omega)).frz (frz_map fun x => frz_DV _ _ _)]
      simp only [Option.map_some, Option.bind_some, DQV, mat, List.map_map]
      rfl
  · have hdf' : defS k (at2 P) = false := by simpa using hdf
    rw [if_neg hdf, hdf']
    simp -dsimp -implicitDefEqProofs (disch := (first | assumption | omega | (simp only [zE] <;> omega) | (apply isPure_intro <;> simp))) only [go_sem, DQV_zz, DV_zz]
end Go.Gim
/- With the last numbers told, and without the first ones, it is as the document says. -/
set_option maxRecDepth 100000
set_option maxHeartbeats 4000000
set_option linter.unusedSimpArgs false
set_option linter.unusedVariables false
namespace Go.Gim
open Go.Proofs
theorem QuadParts_true (rows : List (List Int)) (q : List Int) (c : Int) (l : List Int) (k : Int) (hl : rows.length ≤ 9223372036854775807) (hr : ∀ r ∈ rows, r.length ≤ 9223372036854775807 ∧ ∀ v ∈ r, In64 v) (hql : q.length ≤ 9223372036854775807) (hq : ∀ v ∈ q, In64 v) (hc : In64 c) (hll : l.length ≤ 9223372036854775807) (hlv : ∀ v ∈ l, In64 v) (hk : In64 k) :
    Ret pg n_gimballaw08_QuadParts [.sl (rows.map ints), ints q, .int .i64 c, ints l, .int .i64 k] (.bool true) := by
  obtain ⟨n, hmn, hn5⟩ := min_nat rows.length 5
  have g1 := read8_ret rows q c 5 n hmn (by decide) hl hr hq hc
  have hsy := mir_sym rows n
  have hsq := mirM_sq rows n
  have hml := hsq.1
  have sP := mir_sm (fun r h => (hr r h).2) n
  have sQ := pad_lim hq n
  have hQl := padL_len q n
  have sc : lim c ≤ 2 := lim_i64 hc
  generalize hPP : mirM rows n = P at *
  generalize hQQ : padL q n = Q at *
  refine gimballaw08_QuadParts.of rfl (W_b ?_)
  unfold gimballaw08_QuadParts.k gimballaw08_QuadParts.res
  simp -dsimp -implicitDefEqProofs (disch := (first | assumption | omega | (simp only [zE] <;> omega) | (apply isPure_intro <;> simp))) only [go_sem]
  first | refine callB_of (awake08_ret) (by simp) ?_ | refine callP_of (awake08_ret) (by simp) ?_
  simp -dsimp -implicitDefEqProofs (disch := (first | assumption | omega | (simp only [zE] <;> omega) | (apply isPure_intro <;> simp))) only [go_sem]
  first | refine callB_of (g1) (by simp) ?_ | refine callP_of (g1) (by simp) ?_
  by_cases hbad : k < 0 ∨ (n : Int) < k
  · have d1 := qwithout_bad P Q c k (by omega) hk (by omega)
    have hXl := padL_len l (n + 1)
    have d2 := qwith_bad P Q c (padL l (n + 1)) (by omega) (by omega) (by omega)
    have en : ((n : Int) + 1) = ((n + 1 : Nat) : Int) := by omega
    have d3 := list8_ret l (n + 1) (by omega) hlv
    rcases hbad with h0 | h0
    · simp -dsimp -implicitDefEqProofs (disch := (first | assumption | omega | (simp only [zE] <;> omega) | (apply isPure_intro <;> simp))) only [go_sem, hml]
      first | refine callB_of (d1) (by simp) ?_ | refine callP_of (d1) (by simp) ?_
      simp -dsimp -implicitDefEqProofs (disch := (first | assumption | omega | (simp only [zE] <;> omega) | (apply isPure_intro <;> simp))) only [go_sem, en]
      first | refine callB_of (d3) (by simp) ?_ | refine callP_of (d3) (by simp) ?_
      simp -dsimp -implicitDefEqProofs (disch := (first | assumption | omega | (simp only [zE] <;> omega) | (apply isPure_intro <;> simp))) only [go_sem]
      first | refine callB_of (d2) (by simp) ?_ | refine callP_of (d2) (by simp) ?_
      simp -dsimp -implicitDefEqProofs (disch := (first | assumption | omega | (simp only [zE] <;> omega) | (apply isPure_intro <;> simp))) only [go_sem]
    · have h1 : ¬ k < 0 := by omega
      simp -dsimp -implicitDefEqProofs (disch := (first | assumption | omega | (simp only [zE] <;> omega) | (apply isPure_intro <;> simp))) only [go_sem, hml]
      first | refine callB_of (d1) (by simp) ?_ | refine callP_of (d1) (by simp) ?_
      simp -dsimp -implicitDefEqProofs (disch := (first | assumption | omega | (simp only [zE] <;> omega) | (apply isPure_intro <;> simp))) only [go_sem, en]
      first | refine callB_of (d3) (by simp) ?_ | refine callP_of (d3) (by simp) ?_
      simp -dsimp -implicitDefEqProofs (disch := (first | assumption | omega | (simp only [zE] <;> omega) | (apply isPure_intro <;> simp))) only [go_sem]
      first | refine callB_of (d2) (by simp) ?_ | refine callP_of (d2) (by simp) ?_
      simp -dsimp -implicitDefEqProofs (disch := (first | assumption | omega | (simp only [zE] <;> omega) | (apply isPure_intro <;> simp))) only [go_sem]
  · obtain ⟨k, rfl⟩ : ∃ m : Nat, k = m := ⟨k.toNat, by omega⟩
    have hkn : k ≤ n := by omega
    obtain ⟨m, rfl⟩ : ∃ m, n = k + m := ⟨n - k, by omega⟩
    have hXl := padL_len l m
    have sX := pad_lim hlv m
    have dP : ∀ i j, dlim (at2 P i j) ≤ 20 := fun i j => by have := sP i j; have := dlim_lim (at2 P i j); omega
    have dQ : ∀ i, dlim (Q.getD i 0) ≤ 20 := fun i => by have := sQ i; have := dlim_lim (Q.getD i 0); omega
    have dX : ∀ i, dlim ((padL l m).getD i 0) ≤ 20 := fun i => by have := sX i; have := dlim_lim ((padL l m).getD i 0); omega
    have dc : dlim c ≤ 20 := by have := dlim_lim c; omega
    have c1 := qwith_ret P Q c (padL l m) (k + m) k m rfl (by omega) hsq hQl hXl (fun i j => by have := sP i j; omega) (fun i => by have := sQ i; omega) (by omega) (fun i => by have := sX i; omega)
    have hX0 : ∀ i, i < k + m → (rowF (k + m) fun i => if i < k then 0 else (padL l m).getD (i - k) 0).getD i 0 = if i < k then 0 else (fun j => (padL l m).getD j 0) (i - k) := fun i hi => rowF_get hi
    have eR : (rowF k fun i => (applyAt P (rowF (k + m) fun i => if i < k then 0 else (padL l m).getD (i - k) 0) (k + m) i - Q.getD i 0) * -1) = rowF k fun i => wQ k (at2 P) (fun i => Q.getD i 0) (fun i => (padL l m).getD i 0) i m := rowF_congr fun i hi => by
      rw [with_rest (y := fun j => (padL l m).getD j 0) hkn hX0, show k + m - k = m by omega]; rfl
    have eV : qval P Q c (rowF (k + m) fun i => if i < k then 0 else (padL l m).getD (i - k) 0) = wC k m (at2 P) (fun i => Q.getD i 0) c (fun i => (padL l m).getD i 0) m := by
      rw [qval_val hsq hQl]; exact wC_val (y := fun j => (padL l m).getD j 0) hX0
    rw [eR, eV] at c1
    have c2 := qwithout_ret P Q c (k + m) k 2 (by omega) hkn (by omega) (by
      have h2 : 2 ^ k ≤ 2 ^ 5 := Nat.pow_le_pow_right (by decide) (by omega)
      have h3 : 2 ^ k * (2 + 1) ≤ 32 * 3 := Nat.mul_le_mul h2 (by omega)
      omega) hsq hQl sP sQ sc
    have c3 := rqwithout_ret P Q c (k + m) k (by omega) hkn hsq hsy hQl dP dQ dc
    have c4 := rqwith_ret P Q c (padL l m) (k + m) k m rfl (by omega) hsq hQl hXl dP dQ dc dX
    have hg := g_lim (k := k) (L := 2) (D := 96) (M := at2 P) (q := fun i => Q.getD i 0) (c := c) (by
      have h2 : 2 ^ k ≤ 2 ^ 5 := Nat.pow_le_pow_right (by decide) (by omega)
      have h3 : 2 ^ k * (2 + 1) ≤ 32 * 3 := Nat.mul_le_mul h2 (by omega)
      omega) sP sQ sc
    have sR : ∀ i, lim (wQ k (at2 P) (fun i => Q.getD i 0) (fun i => (padL l m).getD i 0) i m) ≤ 12 := fun i => by
      have h1 : lim (sumZ (fun j => at2 P i (k + j) * (padL l m).getD j 0) m) ≤ 4 + m := sumZ_lim fun j hj => by
        have := lim_mul (at2 P i (k + j)) ((padL l m).getD j 0)
        have := sP i (k + j)
        have := sX j
        omega
      have h2 := lim_sub (Q.getD i 0) (sumZ (fun j => at2 P i (k + j) * (padL l m).getD j 0) m)
      have h3 := sQ i
      unfold wQ; dsimp only; omega
    have sV : lim (wC k m (at2 P) (fun i => Q.getD i 0) c (fun i => (padL l m).getD i 0) m) ≤ 100 := by
      rw [← wC_val (X := fun i => if i < k then 0 else (padL l m).getD (i - k) 0) fun i hi => rfl]
      have := val_lim (n := k + m) (P := at2 P) (q := fun i => Q.getD i 0) (x := fun i => if i < k then 0 else (padL l m).getD (i - k) 0) (c := c) (A := 2) (B := 2) (fun i j _ _ => sP i j) (fun i _ => sQ i) sc (fun i _ => by split; rw [lim_zero]; omega; exact sX _)
      omega
    have sD := det_pw (n := k) sP
    have sD2 : lim (det k (at2 P)) ≤ 96 := by
      have h2 : 2 ^ k ≤ 2 ^ 5 := Nat.pow_le_pow_right (by decide) (by omega)
      have h3 : 2 ^ k * (2 + 1) ≤ 32 * 3 := Nat.mul_le_mul h2 (by omega)
      omega
    have dl : ∀ x, lim x ≤ 1000 → lim x ≤ 1000000 ∧ dlim x ≤ 10000000 := fun x hx => by have := dlim_lim x; omega
    generalize hqf : (fun i => Q.getD i 0) = qf at *
    generalize hyf : (fun i => (padL l m).getD i 0) = yf at *
    have t1 := whole8_ret (mat k (at2 P)) (rowF k fun i => wQ k (at2 P) qf yf i m) (wC k m (at2 P) qf c yf m) (by rw [(mat_sq k _).1]; omega) (mat_rows (by omega)) (by rw [rowF_len]; omega) (mat_all (p := fun x => lim x ≤ 1000000) fun i j => by have := sP i j; omega) (row_all (p := fun x => lim x ≤ 1000000) fun i => by have := sR i; omega) (by omega)
    have t2 := wholes8_ret (mat k (at2 P)) (rowF k fun i => wQ k (at2 P) qf yf i m) (wC k m (at2 P) qf c yf m) (by rw [(mat_sq k _).1]; omega) (mat_rows (by omega)) (by rw [rowF_len]; omega) (mat_all (p := fun x => dlim x ≤ 10000000) fun i j => (dl _ (by have := sP i j; omega)).2) (row_all (p := fun x => dlim x ≤ 10000000) fun i => (dl _ (by have := sR i; omega)).2) (dl _ (by omega)).2
    have t3 := whole8_ret (mat m (gP k (at2 P))) (rowF m (gQ k (at2 P) qf)) (gC k (at2 P) qf c) (by rw [(mat_sq m _).1]; omega) (mat_rows (by omega)) (by rw [rowF_len]; omega) (mat_all (p := fun x => lim x ≤ 1000000) fun i j => by have := hg.1 i j; omega) (row_all (p := fun x => lim x ≤ 1000000) fun i => by have := hg.2.1 i; omega) (by have := hg.2.2; omega)
    have t4 := wholes8_ret (mat m (gP k (at2 P))) (rowF m (gQ k (at2 P) qf)) (gC k (at2 P) qf c) (by rw [(mat_sq m _).1]; omega) (mat_rows (by omega)) (by rw [rowF_len]; omega) (mat_all (p := fun x => dlim x ≤ 10000000) fun i j => (dl _ (by have := hg.1 i j; omega)).2) (row_all (p := fun x => dlim x ≤ 10000000) fun i => (dl _ (by have := hg.2.1 i; omega)).2) (dl _ (by have := hg.2.2; omega)).2
    have d3 := list8_ret l m (by omega) hlv
    have en : (((k + m : Nat) : Int) - (k : Int)) = (m : Int) := by omega
    have h1 : ¬ (k : Int) < 0 := by omega
    have h2 : ¬ ((k + m : Nat) : Int) < (k : Int) := by omega
    unfold qoutV at c2
    unfold routV at c3
    rw [show k + m - k = m by omega] at c2 c3
    simp -dsimp -implicitDefEqProofs (disch := (first | assumption | omega | (simp only [zE] <;> omega) | (apply isPure_intro <;> simp))) only [go_sem, hml, en]
    first | refine callB_of (d3) (by simp) ?_ | refine callP_of (d3) (by simp) ?_
    simp -dsimp -implicitDefEqProofs (disch := (first | assumption | omega | (simp only [zE] <;> omega) | (apply isPure_intro <;> simp))) only [go_sem]
    first | refine callB_of (c1) (by simp) ?_ | refine callP_of (c1) (by simp) ?_
    simp -dsimp -implicitDefEqProofs (disch := (first | assumption | omega | (simp only [zE] <;> omega) | (apply isPure_intro <;> simp))) only [go_sem]
    by_cases hdf : defS k (at2 P) = true
    · rw [if_pos hdf] at c2 c3
      first | refine callB_of (c2) (by simp) ?_ | refine callP_of (c2) (by simp) ?_
      simp -dsimp -implicitDefEqProofs (disch := (first | assumption | omega | (simp only [zE] <;> omega) | (apply isPure_intro <;> simp))) only [go_sem]
      first | refine callB_of (c3) (by simp) ?_ | refine callP_of (c3) (by simp) ?_
      simp -dsimp -implicitDefEqProofs (disch := (first | assumption | omega | (simp only [zE] <;> omega) | (apply isPure_intro <;> simp))) only [go_sem]
      first | refine callB_of (string_ret _ (by omega)) (by simp) ?_ | refine callP_of (string_ret _ (by omega)) (by simp) ?_
      simp -dsimp -implicitDefEqProofs (disch := (first | assumption | omega | (simp only [zE] <;> omega) | (apply isPure_intro <;> simp))) only [go_sem]
      first | refine callB_of (t1) (by simp) ?_ | refine callP_of (t1) (by simp) ?_
      simp -dsimp -implicitDefEqProofs (disch := (first | assumption | omega | (simp only [zE] <;> omega) | (apply isPure_intro <;> simp))) only [go_sem]
      first | refine callB_of (c4) (by simp) ?_ | refine callP_of (c4) (by simp) ?_
      simp -dsimp -implicitDefEqProofs (disch := (first | assumption | omega | (simp only [zE] <;> omega) | (apply isPure_intro <;> simp))) only [go_sem]
      first | refine callB_of (t2) (by simp) ?_ | refine callP_of (t2) (by simp) ?_
      simp -dsimp -implicitDefEqProofs (disch := (first | assumption | omega | (simp only [zE] <;> omega) | (apply isPure_intro <;> simp))) only [go_sem, strV_same]
      first | refine callB_of (r_string _ (by have := dlim_lim (det k (at2 P)); omega)) (by simp) ?_ | refine callP_of (r_string _ (by have := dlim_lim (det k (at2 P)); omega)) (by simp) ?_
      simp -dsimp -implicitDefEqProofs (disch := (first | assumption | omega | (simp only [zE] <;> omega) | (apply isPure_intro <;> simp))) only [go_sem, strV_same]
      first | refine callB_of (t3) (by simp) ?_ | refine callP_of (t3) (by simp) ?_
      simp -dsimp -implicitDefEqProofs (disch := (first | assumption | omega | (simp only [zE] <;> omega) | (apply isPure_intro <;> simp))) only [go_sem]
      first | refine callB_of (t4) (by simp) ?_ | refine callP_of (t4) (by simp) ?_
      simp -dsimp -implicitDefEqProofs (disch := (first | assumption | omega | (simp only [zE] <;> omega) | (apply isPure_intro <;> simp))) only [go_sem, strV_same]
      done
    · rw [if_neg hdf] at c2 c3
      first | refine callB_of (c2) (by simp) ?_ | refine callP_of (c2) (by simp) ?_
      simp -dsimp -implicitDefEqProofs (disch := (first | assumption | omega | (simp only [zE] <;> omega) | (apply isPure_intro <;> simp))) only [go_sem]
      first | refine callB_of (c3) (by simp) ?_ | refine callP_of (c3) (by simp) ?_
      simp -dsimp -implicitDefEqProofs (disch := (first | assumption | omega | (simp only [zE] <;> omega) | (apply isPure_intro <;> simp))) only [go_sem]
      first | refine callB_of (t1) (by simp) ?_ | refine callP_of (t1) (by simp) ?_
      simp -dsimp -implicitDefEqProofs (disch := (first | assumption | omega | (simp only [zE] <;> omega) | (apply isPure_intro <;> simp))) only [go_sem]
      first | refine callB_of (c4) (by simp) ?_ | refine callP_of (c4) (by simp) ?_
      simp -dsimp -implicitDefEqProofs (disch := (first | assumption | omega | (simp only [zE] <;> omega) | (apply isPure_intro <;> simp))) only [go_sem]
      first | refine callB_of (t2) (by simp) ?_ | refine callP_of (t2) (by simp) ?_
      simp -dsimp -implicitDefEqProofs (disch := (first | assumption | omega | (simp only [zE] <;> omega) | (apply isPure_intro <;> simp))) only [go_sem, strV_same]
      done
end Go.Gim

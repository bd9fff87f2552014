import Derived.Test.YtmfenpedpajfkaaRD8
import Derived.Test.YtmfenpedpajfkaaQL3
import Derived.Test.YtmfenpedpajfkaaQM1
/- The references' quadratic functions: values and slopes of none too, both together. -/
set_option maxRecDepth 100000
set_option maxHeartbeats 4000000
set_option linter.unusedSimpArgs false
set_option linter.unusedVariables false
namespace Go.Gim
open Go.Proofs
theorem rqadd_ret (P P2 : List (List Int)) (Q Q2 : List Int) (c c2 : Int) (n : Nat) (hn : n ≤ 1000) (hP : Sq P n) (hP2 : Sq P2 n) (hQ : Q.length = n) (hQ2 : Q2.length = n) (sP : ∀ i j, dlim (at2 P i j) ≤ 4000000) (sP2 : ∀ i j, dlim (at2 P2 i j) ≤ 4000000) (sQ : ∀ i, dlim (Q.getD i 0) ≤ 4000000) (sQ2 : ∀ i, dlim (Q2.getD i 0) ≤ 4000000) (sc : dlim c ≤ 4000000) (sc2 : dlim c2 ≤ 4000000) :
    Ret pg n_gimbalref08_Quad_Add [DQV P Q c, DQV P2 Q2 c2] (DQV (mat n fun i j => at2 P i j + at2 P2 i j) (rowF n fun k => Q.getD k 0 + Q2.getD k 0) (c + c2)) := by
  have hl := hP.1
  have hl2 := hP2.1
  refine gimbalref08_Quad_Add.of rfl (W_b ?_)
  unfold gimbalref08_Quad_Add.k gimbalref08_Quad_Add.res
  simp -dsimp -implicitDefEqProofs (disch := (first | assumption | omega | (simp only [zE] <;> omega) | (apply isPure_intro <;> simp))) only [go_sem]
  first | refine callB_of (r_add c c2 (by omega) (by omega)) (by simp) ?_ | refine callP_of (r_add c c2 (by omega) (by omega)) (by simp) ?_
  simp -dsimp -implicitDefEqProofs (disch := (first | assumption | omega | (simp only [zE] <;> omega) | (apply isPure_intro <;> simp))) only [go_sem]
  generalize hcc : c + c2 = cc
  generalize hQQ : rowF n (fun k => Q.getD k 0 + Q2.getD k 0) = QQ
  refine W_loop (T := Nat × V × V × Hp × Nat) (fun t => ⟨E [(2, .pp (DQV P Q c)), (3, .pp (DQV P2 Q2 c2)), (4, .ptr 2 1 0 0), (5, .ptr 9 1 0 0), (6, .int .i64 t.1)], t.2.2.2.1, t.2.2.2.2, t.2.2.2.2⟩)
    (fun t => t.1 ≤ n ∧ 12 ≤ t.2.2.2.2 ∧ t.2.2.2.1 2 = some ⟨[.agg [.nil, .nil, .bool false, .sl []]], 4⟩ ∧ t.2.2.2.1 9 = some ⟨[.agg [t.2.1, t.2.2.1, .bool (decide (cc < 0)), .sl (nats .i64 (digs 10 cc.natAbs))]], 4⟩ ∧ Row 12 t.2.2.2.1 t.2.2.2.2 t.2.1 1 ((List.range t.1).map fun i => dvl (rowF n fun j => at2 P i j + at2 P2 i j)) ∧ Row 12 t.2.2.2.1 t.2.2.2.2 t.2.2.1 2 ((rowF t.1 fun k => Q.getD k 0 + Q2.getD k 0).map DV)) (fun t => n - t.1) (0, .nil, .nil, _, _) rfl ⟨by dsimp only; omega, by dsimp only; omega, rfl, rfl, Row.nil _ _ _ _, Row.nil _ _ _ _⟩ ?_
  rintro ⟨i, w1, w2, H, nx⟩ ⟨i1, i2, i3, i4, i5, i6⟩
  dsimp only at i1 i2 i3 i4 i5 i6
  obtain ⟨hwa1, hwc1, _, _⟩ := i5.flat
  obtain ⟨hwa2, hwc2, _, _⟩ := i6.flat
  have hsep : Sep w2 w1 := i6.not_row2 i5 (by decide)
  by_cases hi : i < n
  · have q1 := sQ i
    have q2 := sQ2 i
    simp -dsimp -implicitDefEqProofs (disch := (first | assumption | omega | (simp only [zE] <;> omega) | (apply isPure_intro <;> simp))) only [go_sem, hQ, hQ2, i4, hwa1, hwa2]
    first | refine callB_of (r_add _ _ (by omega) (by omega)) (by simp) ?_ | refine callP_of (r_add _ _ (by omega) (by omega)) (by simp) ?_
    simp -dsimp -implicitDefEqProofs (disch := (first | assumption | omega | (simp only [zE] <;> omega) | (apply isPure_intro <;> simp))) only [go_sem]
    refine effB_row (lo := 12) (nx := nx) (H0 := H) (xs := (rowF i fun k => Q.getD k 0 + Q2.getD k 0).map DV) i6 (by omega) rfl (by omega) (by omega) (by simp [rowOk, V.cells, V.cellOk, DV, V.isJunk]) (by decide) (by simp [rowF]; omega) (by simp [rowF]; omega) fun v2 H1 r1 r2 r3 r4 => ?_
    rw [map_app, show (rowF i fun k => Q.getD k 0 + Q2.getD k 0) ++ [Q.getD i 0 + Q2.getD i 0] = rowF (i + 1) (fun k => Q.getD k 0 + Q2.getD k 0) from range_snoc _ _] at r1
    have j3 := (r4 2 (by omega)).trans i3
    have j4 := (r4 9 (by omega)).trans i4
    have j5 := i5.keep r3 hsep (Nat.le_refl _)
    obtain ⟨b', hv2, c1, c3, c4⟩ := r1.own_of (by simp [rowF])
    rw [List.length_map, rowF_len] at hv2
    subst hv2
    simp -dsimp -implicitDefEqProofs (disch := (first | assumption | omega | (simp only [zE] <;> omega) | (apply isPure_intro <;> simp))) only [go_sem, j3, j4, hwa1, hwa2]
    generalize hH2 : Hp.upd H1 9 _ = H2
    have f2 := upd_at_ne hH2 j3 (by omega)
    have f9 := upd_at_same hH2
    have fb := upd_at_ne hH2 c4 (by omega)
    have f5 : Row 12 H2 (nx + 24) w1 1 ((List.range i).map fun i => dvl (rowF n fun j => at2 P i j + at2 P2 i j)) := by
      rw [← hH2]; exact (j5.upd (by omega)).same (fun _ _ => rfl) (by omega)
    have f6 : Row 12 H2 (nx + 24) (.own b' (i + 1)) 2 ((rowF (i + 1) fun k => Q.getD k 0 + Q2.getD k 0).map DV) := .inr ⟨b', by rw [List.length_map, rowF_len], c1, by omega, fb⟩
    have hN : 36 ≤ nx + 24 := by omega
    clear hH2 j3 j4 j5 r1 r2 r3 r4 c4 c3 fb i3 i4 i5 i6 hsep
    have c3 : b' < nx + 24 := f6.lt rfl
    have hw2 : Sep w1 (.own b' (i + 1)) := f5.not_row2 f6 (by decide)
    generalize nx + 24 = N at *
    refine W_loop (T := Nat × V × Hp × Nat) (fun t => ⟨E [(2, .pp (DQV P Q c)), (3, .pp (DQV P2 Q2 c2)), (4, .ptr 2 1 0 0), (5, .ptr 9 1 0 0), (6, .int .i64 i), (7, t.2.1), (8, .int .i64 t.1)], t.2.2.1, t.2.2.2, t.2.2.2⟩)
      (fun t => t.1 ≤ n ∧ N ≤ t.2.2.2 ∧ (∀ b, b < N → t.2.2.1 b = H2 b) ∧ Row N t.2.2.1 t.2.2.2 t.2.1 2 ((rowF t.1 fun j => at2 P i j + at2 P2 i j).map DV)) (fun t => n - t.1)
      (0, .nil, H2, _) rfl ⟨by dsimp only; omega, by dsimp only; omega, fun _ _ => rfl, Row.nil _ _ _ _⟩ ?_
    rintro ⟨j, u, H3, nx2⟩ ⟨k1, k2, k3, k4⟩
    dsimp only at k1 k2 k3 k4
    have e2 := (k3 2 (by omega)).trans f2
    have e9 := (k3 9 (by omega)).trans f9
    have hr1 := hP.row hi
    have hr2 := hP2.row hi
    by_cases hj : j < n
    · have s1 := sP i j
      have s2 := sP2 i j
      have g1 : (P.getD i []).getD j 0 = at2 P i j := rfl
      have g2 : (P2.getD i []).getD j 0 = at2 P2 i j := rfl
      simp -dsimp -implicitDefEqProofs (disch := (first | assumption | omega | (simp only [zE] <;> omega) | (apply isPure_intro <;> simp))) only [go_sem, hQ, hl, hl2, hr1, hr2, g1, g2]
      first | refine callB_of (r_add _ _ (by omega) (by omega)) (by simp) ?_ | refine callP_of (r_add _ _ (by omega) (by omega)) (by simp) ?_
      simp -dsimp -implicitDefEqProofs (disch := (first | assumption | omega | (simp only [zE] <;> omega) | (apply isPure_intro <;> simp))) only [go_sem]
      refine effB_row (lo := N) (nx := nx2) (H0 := H3) (xs := (rowF j fun j => at2 P i j + at2 P2 i j).map DV) k4 (by omega) rfl (by omega) (by omega) (by simp [rowOk, V.cells, V.cellOk, DV, V.isJunk]) (by decide) (by simp [rowF]; omega) (by simp [rowF]; omega) fun v2 H4 r1 _ _ r4 => ?_
      rw [map_app, show (rowF j fun j => at2 P i j + at2 P2 i j) ++ [at2 P i j + at2 P2 i j] = rowF (j + 1) (fun j => at2 P i j + at2 P2 i j) from range_snoc _ _] at r1
      simp -dsimp -implicitDefEqProofs (disch := (first | assumption | omega | (simp only [zE] <;> omega) | (apply isPure_intro <;> simp))) only [go_sem]
      exact ⟨(j + 1, v2, H4, _), rfl, ⟨by dsimp only; omega, by dsimp only; omega, fun b hb => (r4 b hb).trans (k3 b hb), r1.same (fun _ _ => rfl) (by dsimp only; omega)⟩, by dsimp only; omega⟩
    · have hjn : j = n := by omega
      rw [hjn] at k4
      have g5 := f5.same (H' := H3) (nx' := N) k3 (Nat.le_refl _)
      have g6 := f6.same (H' := H3) (nx' := N) k3 (Nat.le_refl _)
      simp -dsimp -implicitDefEqProofs (disch := (first | assumption | omega | (simp only [zE] <;> omega) | (apply isPure_intro <;> simp))) only [go_sem, hQ]
      refine gh_row2 (lo := N) (ys := (rowF n fun j => at2 P i j + at2 P2 i j).map DV) 7 rfl (k4.same (fun _ _ => rfl) (by omega)) (pure_map fun x => by simp) (fun p hp hne c hc => ?_) fun H4 hH4 => ?_
      · simp only [List.mem_cons, List.not_mem_nil, or_false] at hp
        rcases hp with rfl | rfl | rfl | rfl | rfl | rfl | rfl | rfl <;> first | exact absurd rfl hne | (simp [V.sub]; done) | exact sub_ptr_ne (by omega)
      · have e8 : V.sl ((rowF n fun j => at2 P i j + at2 P2 i j).map DV) = dvl (rowF n fun j => at2 P i j + at2 P2 i j) := rfl
        have hH4p : ∀ b blk, b < N → H3 b = some blk → (∀ x ∈ blk.elems, V.Pure x) → H4 b = some blk := fun b blk hb h hp => hH4 b blk hb h fun x hx c _ => sub_pure _ (hp x hx)
        have q1 : H4 9 = some ⟨[.agg [w1, .own b' (i + 1), .bool (decide (cc < 0)), .sl (nats .i64 (digs 10 cc.natAbs))]], 4⟩ := hH4 9 _ (by omega) e9 fun x hx c hc => by
          simp only [List.mem_singleton] at hx
          subst hx
          rw [sub_agg]
          simp only [List.map_cons, List.map_nil, f5.sub_ge (show N ≤ c by omega), f6.sub_ge (show N ≤ c by omega)]
          simp [V.sub]
        have q2 : H4 2 = some ⟨[.agg [.nil, .nil, .bool false, .sl []]], 4⟩ := hH4p 2 _ (by omega) e2 (by simp)
        have q5 : Row 12 H4 nx2 w1 1 ((List.range i).map fun i => dvl (rowF n fun j => at2 P i j + at2 P2 i j)) := g5.told (lo := N) (Nat.le_refl _) k2 (pure_map fun x => by simp) hH4p
        have q6 : Row 12 H4 nx2 (.own b' (i + 1)) 2 ((rowF (i + 1) fun k => Q.getD k 0 + Q2.getD k 0).map DV) := g6.told (lo := N) (Nat.le_refl _) k2 (pure_map fun x => by simp) hH4p
        clear hH4 hH4p g5 g6 f5 f6 e9 e2 f9 f2 k3 k4
        simp -dsimp -implicitDefEqProofs (disch := (first | assumption | omega | (simp only [zE] <;> omega) | (apply isPure_intro <;> simp))) only [go_sem, e8, q1, hwa1]
        refine effB_row (lo := 12) (nx := nx2 + 3) (H0 := H4) (xs := (List.range i).map fun i => dvl (rowF n fun j => at2 P i j + at2 P2 i j)) (q5.same (fun _ _ => rfl) (by omega)) (by omega) rfl (by omega) (by omega) (by simp [rowOk, V.cells, V.cellOk, V.isJunk, dvl]) (by decide) (by simp; omega) (by simp; omega) fun v3 H5 r1 r2 r3 r4 => ?_
        rw [range_snoc (fun i => dvl (rowF n fun j => at2 P i j + at2 P2 i j))] at r1
        have p1 := (r4 9 (by omega)).trans q1
        have p2 := (r4 2 (by omega)).trans q2
        have p6 := (q6.same (H' := H4) (nx' := nx2 + 3) (fun _ _ => rfl) (by omega)).keep r3 hw2 (Nat.le_refl _)
        obtain ⟨b3, hv3, x1, x3, x4⟩ := r1.own_of (by simp)
        rw [List.length_map, List.length_range] at hv3
        subst hv3
        simp -dsimp -implicitDefEqProofs (disch := (first | assumption | omega | (simp only [zE] <;> omega) | (apply isPure_intro <;> simp))) only [go_sem, p1, p2, hwa1]
        generalize hH6 : Hp.upd H5 9 _ = H6
        have y1 := upd_at_same hH6
        have y2 := upd_at_ne hH6 p2 (by omega)
        have y3 := upd_at_ne hH6 x4 (by omega)
        refine ⟨(i + 1, _, _, H6, _), rfl, ⟨by dsimp only; omega, by dsimp only; omega, y2, y1, .inr ⟨b3, by rw [List.length_map, List.length_range], x1, by dsimp only; omega, y3⟩, ?_⟩, by dsimp only; omega⟩
        dsimp only
        rw [← hH6]
        exact (p6.upd (by omega)).same (fun _ _ => rfl) (by omega)
  · have hin : i = n := by omega
    subst hin
    simp -dsimp -implicitDefEqProofs (disch := (first | assumption | omega | (simp only [zE] <;> omega) | (apply isPure_intro <;> simp))) only [go_sem, i3, i4, hwa1, hwa2, hwc1, hwc2, hQ]
    rw [(i5.upd (by omega)).frz (allOf_self fun x hx => by obtain ⟨q, _, rfl⟩ := List.mem_map.1 hx; rfl), (i6.upd (by omega)).frz (frz_map fun x => frz_DV _ _ _)]
    rw [← hQQ]
    simp only [Option.map_some, Option.bind_some, DQV, mat, List.map_map]
    rfl
theorem rvalue_any (P : List (List Int)) (Q x : List Int) (c : Int) (n : Nat) (hn : n ≤ 1000) (hP : Sq P n) (hQ : Q.length = n) (hx : x.length = n) (sP : ∀ i j, dlim (at2 P i j) ≤ 900000) (sQ : ∀ i, dlim (Q.getD i 0) ≤ 900000) (sc : dlim c ≤ 900000) (sx : ∀ i, dlim (x.getD i 0) ≤ 900000) :
    Ret pg n_gimbalref08_Quad_Value [DQV P Q c, dvl x] (DV (qval P Q c x)) := by
  have hd := rdot_ret Q x (by omega) (by omega) (fun i => by have := sQ i; omega) (fun i => by have := sx i; omega)
  have hq := rquad_any P x n hn hP hx sP sx
  have l1 := sumN_dlim (f := fun k => Q.getD k 0) (p := fun k => x.getD k 0) (L := 1800000) (fun k => by have := sx k; have := sQ k; omega) Q.length
  have l2 : ∀ i, dlim (applyAt P x n i) ≤ 1801000 := fun i => by
    have := sumN_dlim (f := at2 P i) (p := fun k => x.getD k 0) (L := 1800000) (fun k => by have := sP i k; have := sx k; omega) n
    unfold applyAt; omega
  have l3 := sumN_dlim (f := fun k => x.getD k 0) (p := applyAt P x n) (L := 2701000) (fun k => by have := sx k; have := l2 k; omega) n
  have hPl := hP.1
  unfold qval quadV at *
  rw [hPl]
  generalize sumN (fun k => Q.getD k 0) (fun k => x.getD k 0) Q.length = s at *
  generalize sumN (fun k => x.getD k 0) (applyAt P x n) n = q at *
  have l4 := dlim_add s s
  have l5 := dlim_sub q (s + s)
  have e : q - s * 2 + c = q - (s + s) + c := by omega
  rw [e]
  refine gimbalref08_Quad_Value.of rfl (W_b ?_)
  unfold gimbalref08_Quad_Value.k gimbalref08_Quad_Value.res
  simp -dsimp -implicitDefEqProofs (disch := (first | assumption | omega | (simp only [zE] <;> omega) | (apply isPure_intro <;> simp))) only [go_sem]
  first | refine callB_of (hd) (by simp) ?_ | refine callP_of (hd) (by simp) ?_
  simp -dsimp -implicitDefEqProofs (disch := (first | assumption | omega | (simp only [zE] <;> omega) | (apply isPure_intro <;> simp))) only [go_sem]
  first | refine callB_of (hd) (by simp) ?_ | refine callP_of (hd) (by simp) ?_
  simp -dsimp -implicitDefEqProofs (disch := (first | assumption | omega | (simp only [zE] <;> omega) | (apply isPure_intro <;> simp))) only [go_sem]
  first | refine callB_of (r_add _ _ (by omega) (by omega)) (by simp) ?_ | refine callP_of (r_add _ _ (by omega) (by omega)) (by simp) ?_
  simp -dsimp -implicitDefEqProofs (disch := (first | assumption | omega | (simp only [zE] <;> omega) | (apply isPure_intro <;> simp))) only [go_sem]
  first | refine callB_of (hq) (by simp) ?_ | refine callP_of (hq) (by simp) ?_
  simp -dsimp -implicitDefEqProofs (disch := (first | assumption | omega | (simp only [zE] <;> omega) | (apply isPure_intro <;> simp))) only [go_sem]
  first | refine callB_of (r_sub _ _ (by omega) (by omega)) (by simp) ?_ | refine callP_of (r_sub _ _ (by omega) (by omega)) (by simp) ?_
  simp -dsimp -implicitDefEqProofs (disch := (first | assumption | omega | (simp only [zE] <;> omega) | (apply isPure_intro <;> simp))) only [go_sem]
  first | refine callB_of (r_add _ _ (by omega) (by omega)) (by simp) ?_ | refine callP_of (r_add _ _ (by omega) (by omega)) (by simp) ?_
  simp -dsimp -implicitDefEqProofs (disch := (first | assumption | omega | (simp only [zE] <;> omega) | (apply isPure_intro <;> simp))) only [go_sem]
theorem rslope_any (P : List (List Int)) (Q x : List Int) (c : Int) (n : Nat) (hn : n ≤ 1000) (hP : Sq P n) (hQ : Q.length = n) (hx : x.length = n) (sP : ∀ i j, dlim (at2 P i j) ≤ 900000) (sQ : ∀ i, dlim (Q.getD i 0) ≤ 900000) (sx : ∀ i, dlim (x.getD i 0) ≤ 900000) :
    Ret pg n_gimbalref08_Quad_Slope [DQV P Q c, dvl x] (dvl ((List.range n).map fun k => applyAt P x n k - Q.getD k 0)) := by
  by_cases h : 1 ≤ n
  · obtain ⟨H', n', id, ⟨h1, h2, h3, _⟩, h⟩ := rslope_G P Q x c n (fun _ => none) 0 hn h hP hQ hx sP sQ sx
    refine h.toRet ?_
    rw [frz_own, h3, frzO_some (by simp), frz_map fun x => rfl]
    rfl
  · obtain rfl : n = 0 := by omega
    obtain rfl : P = [] := List.eq_nil_of_length_eq_zero hP.1
    obtain rfl : x = [] := List.eq_nil_of_length_eq_zero hx
    refine gimbalref08_Quad_Slope.of rfl (W_b ?_)
    unfold gimbalref08_Quad_Slope.k gimbalref08_Quad_Slope.res
    simp -dsimp -implicitDefEqProofs (disch := (first | assumption | omega | (simp only [zE] <;> omega) | (apply isPure_intro <;> simp))) only [go_sem]
    first | refine callB_of (rapply0_ret) (by simp) ?_ | refine callP_of (rapply0_ret) (by simp) ?_
    simp -dsimp -implicitDefEqProofs (disch := (first | assumption | omega | (simp only [zE] <;> omega) | (apply isPure_intro <;> simp))) only [go_sem]
    refine W_loop (T := Nat) (fun t => ⟨E [(2, .pp (DQV [] Q c)), (5, .sl []), (6, .int .i64 0)], fun _ => none, t, t⟩) (fun _ => True) (fun t => 0) _ rfl trivial ?_
    intro nx _
    simp -dsimp -implicitDefEqProofs (disch := (first | assumption | omega | (simp only [zE] <;> omega) | (apply isPure_intro <;> simp))) only [go_sem]
    rfl
end Go.Gim
/- Values, slopes and sums of quadratic functions are as the document says. -/
set_option maxRecDepth 100000
set_option maxHeartbeats 4000000
set_option linter.unusedSimpArgs false
set_option linter.unusedVariables false
namespace Go.Gim
open Go.Proofs
theorem mat_all {p : Int → Prop} {n : Nat} {f : Mx} (h : ∀ i j, p (f i j)) : ∀ r ∈ mat n f, ∀ x ∈ r, p x := fun r hr x hx => by
  obtain ⟨i, _, rfl⟩ := List.mem_map.1 hr
  obtain ⟨j, _, rfl⟩ := List.mem_map.1 hx
  exact h i j
theorem row_all {p : Int → Prop} {n : Nat} {f : Nat → Int} (h : ∀ i, p (f i)) : ∀ x ∈ rowF n f, p x := fun x hx => by
  obtain ⟨j, _, rfl⟩ := List.mem_map.1 hx
  exact h j
theorem mat_rows {n m : Nat} {f : Mx} (h : n ≤ m) : ∀ r ∈ mat n f, r.length ≤ m := fun r hr => by
  obtain ⟨i, _, rfl⟩ := List.mem_map.1 hr
  rw [List.length_map, List.length_range]; exact h
theorem slope_lim {P : List (List Int)} {Q x : List Int} {n : Nat} (hn : n ≤ 12) (sP : ∀ i j, lim (at2 P i j) ≤ 2) (sQ : ∀ i, lim (Q.getD i 0) ≤ 2) (sx : ∀ i, lim (x.getD i 0) ≤ 2) (k : Nat) : lim (applyAt P x n k - Q.getD k 0) ≤ 1000 := by
  have h1 := lim_sub (applyAt P x n k) (Q.getD k 0)
  have h2 : lim (applyAt P x n k) ≤ 4 + n := sumN_lim (fun j => by have := sP k j; have := sx j; omega) n
  have := sQ k
  omega
theorem QuadTells_true (rows : List (List Int)) (q : List Int) (c : Int) (others : List (List Int)) (p l : List Int) (hl : rows.length ≤ 9223372036854775807) (hr : ∀ r ∈ rows, r.length ≤ 9223372036854775807 ∧ ∀ v ∈ r, In64 v) (hql : q.length ≤ 9223372036854775807) (hq : ∀ v ∈ q, In64 v) (hc : In64 c) (hol : others.length ≤ 9223372036854775807) (ho : ∀ r ∈ others, r.length ≤ 9223372036854775807 ∧ ∀ v ∈ r, In64 v) (hpl : p.length ≤ 9223372036854775807) (hp : ∀ v ∈ p, In64 v) (hll : l.length ≤ 9223372036854775807) (hlv : ∀ v ∈ l, In64 v) :
    Ret pg n_gimballaw08_QuadTells [.sl (rows.map ints), ints q, .int .i64 c, .sl (others.map ints), ints p, ints l] (.bool true) := by
  obtain ⟨n, hmn, hn6⟩ := min_nat rows.length 6
  obtain ⟨n2, hmn2, hn62⟩ := min_nat others.length 6
  have g1 := read8_ret rows q c 6 n hmn (by decide) hl hr hq hc
  have g2 := read8_ret others p c 6 n2 hmn2 (by decide) hol ho hp hc
  have hsq := mirM_sq rows n
  have hml := hsq.1
  have hsq2 := mirM_sq others n2
  have hml2 := hsq2.1
  have sP := mir_sm (fun r h => (hr r h).2) n
  have sQ := pad_lim hq n
  have sP2 := mir_sm (fun r h => (ho r h).2) n2
  have sQ2 := pad_lim hp n2
  have sX := pad_lim hlv n
  have hQl := padL_len q n
  have hQl2 := padL_len p n2
  have hXl := padL_len l n
  have sc : lim c ≤ 2 := lim_i64 hc
  refine gimballaw08_QuadTells.of rfl (W_b ?_)
  unfold gimballaw08_QuadTells.k gimballaw08_QuadTells.res
  simp -dsimp -implicitDefEqProofs (disch := (first | assumption | omega | (simp only [zE] <;> omega) | (apply isPure_intro <;> simp))) only [go_sem]
  first | refine callB_of (awake08_ret) (by simp) ?_ | refine callP_of (awake08_ret) (by simp) ?_
  simp -dsimp -implicitDefEqProofs (disch := (first | assumption | omega | (simp only [zE] <;> omega) | (apply isPure_intro <;> simp))) only [go_sem]
  first | refine callB_of (g1) (by simp) ?_ | refine callP_of (g1) (by simp) ?_
  simp -dsimp -implicitDefEqProofs (disch := (first | assumption | omega | (simp only [zE] <;> omega) | (apply isPure_intro <;> simp))) only [go_sem]
  first | refine callB_of (g2) (by simp) ?_ | refine callP_of (g2) (by simp) ?_
  by_cases hnn : n = n2
  · subst hnn
    have dP : ∀ i j, dlim (at2 (mirM rows n) i j) ≤ 20 := fun i j => by have := sP i j; have := dlim_lim (at2 (mirM rows n) i j); omega
    have dP2 : ∀ i j, dlim (at2 (mirM others n) i j) ≤ 20 := fun i j => by have := sP2 i j; have := dlim_lim (at2 (mirM others n) i j); omega
    have dQ : ∀ i, dlim ((padL q n).getD i 0) ≤ 20 := fun i => by have := sQ i; have := dlim_lim ((padL q n).getD i 0); omega
    have dQ2 : ∀ i, dlim ((padL p n).getD i 0) ≤ 20 := fun i => by have := sQ2 i; have := dlim_lim ((padL p n).getD i 0); omega
    have dX : ∀ i, dlim ((padL l n).getD i 0) ≤ 20 := fun i => by have := sX i; have := dlim_lim ((padL l n).getD i 0); omega
    have dc : dlim c ≤ 20 := by have := dlim_lim c; omega
    generalize hPP : mirM rows n = P at *
    generalize hPP2 : mirM others n = P2 at *
    generalize hQQ : padL q n = Q at *
    generalize hQQ2 : padL p n = Q2 at *
    have c1 := qvalue_ret P Q (padL l n) c n (by omega) hsq hQl hXl (fun i j => by have := sP i j; omega) (fun i => by have := sQ i; omega) (by omega) (fun i => by have := sX i; omega)
    have c2 := qslope_ret P Q (padL l n) c n (by omega) hsq hQl hXl (fun i j => by have := sP i j; omega) (fun i => by have := sQ i; omega) (fun i => by have := sX i; omega)
    have c3 := qadd_ret P P2 Q Q2 c c n (by omega) hsq hsq2 hQl hQl2 (fun i j => by have := sP i j; omega) (fun i j => by have := sP2 i j; omega) (fun i => by have := sQ i; omega) (fun i => by have := sQ2 i; omega) (by omega) (by omega)
    have c4 := rvalue_any P Q (padL l n) c n (by omega) hsq hQl hXl (fun i j => by have := dP i j; omega) (fun i => by have := dQ i; omega) (by omega) (fun i => by have := dX i; omega)
    have c5 := rslope_any P Q (padL l n) c n (by omega) hsq hQl hXl (fun i j => by have := dP i j; omega) (fun i => by have := dQ i; omega) (fun i => by have := dX i; omega)
    have c6 := rqadd_ret P P2 Q Q2 c c n (by omega) hsq hsq2 hQl hQl2 (fun i j => by have := dP i j; omega) (fun i j => by have := dP2 i j; omega) (fun i => by have := dQ i; omega) (fun i => by have := dQ2 i; omega) (by omega) (by omega)
    have sS := slope_lim (n := n) (by omega) sP sQ sX
    have sS' : ∀ x ∈ (List.range n).map fun k => applyAt P (padL l n) n k - Q.getD k 0, lim x ≤ 1000000 := row_all (p := fun x => lim x ≤ 1000000) (n := n) fun k => by have := sS k; omega
    have t1 := text8_ret ((List.range n).map fun k => applyAt P (padL l n) n k - Q.getD k 0) (by rw [List.length_map, List.length_range]; omega) sS'
    have t2 := texts8_ret ((List.range n).map fun k => applyAt P (padL l n) n k - Q.getD k 0) (by rw [List.length_map, List.length_range]; omega) fun x hx => by have := sS' x hx; have := dlim_lim x; omega
    have a1 : ∀ i j, lim (at2 P i j + at2 P2 i j) ≤ 1000000 := fun i j => by have := lim_add (at2 P i j) (at2 P2 i j); have := sP i j; have := sP2 i j; omega
    have a2 : ∀ i, lim (Q.getD i 0 + Q2.getD i 0) ≤ 1000000 := fun i => by have := lim_add (Q.getD i 0) (Q2.getD i 0); have := sQ i; have := sQ2 i; omega
    have a3 := lim_add c c
    have t3 := whole8_ret (mat n fun i j => at2 P i j + at2 P2 i j) (rowF n fun k => Q.getD k 0 + Q2.getD k 0) (c + c) (by rw [(mat_sq n _).1]; omega) (mat_rows (by omega)) (by rw [rowF_len]; omega) (mat_all (p := fun x => lim x ≤ 1000000) a1) (row_all (p := fun x => lim x ≤ 1000000) a2) (by omega)
    have t4 := wholes8_ret (mat n fun i j => at2 P i j + at2 P2 i j) (rowF n fun k => Q.getD k 0 + Q2.getD k 0) (c + c) (by rw [(mat_sq n _).1]; omega) (mat_rows (by omega)) (by rw [rowF_len]; omega) (mat_all (p := fun x => dlim x ≤ 10000000) fun i j => by have := a1 i j; have := dlim_lim (at2 P i j + at2 P2 i j); omega) (row_all (p := fun x => dlim x ≤ 10000000) fun i => by have := a2 i; have := dlim_lim (Q.getD i 0 + Q2.getD i 0); omega) (by have := dlim_lim (c + c); omega)
    have sV : lim (qval P Q c (padL l n)) ≤ 1000000 := by
      rw [qval_val hsq hQl]
      have := val_lim (n := n) (P := at2 P) (q := fun i => Q.getD i 0) (x := fun i => (padL l n).getD i 0) (c := c) (A := 2) (B := 2) (fun i j _ _ => sP i j) (fun i _ => sQ i) sc (fun i _ => sX i)
      omega
    have dV := dlim_lim (qval P Q c (padL l n))
    simp -dsimp -implicitDefEqProofs (disch := (first | assumption | omega | (simp only [zE] <;> omega) | (apply isPure_intro <;> simp))) only [go_sem, hml, hml2]
    first | refine callB_of (list8_ret l n (by omega) hlv) (by simp) ?_ | refine callP_of (list8_ret l n (by omega) hlv) (by simp) ?_
    simp -dsimp -implicitDefEqProofs (disch := (first | assumption | omega | (simp only [zE] <;> omega) | (apply isPure_intro <;> simp))) only [go_sem]
    first | refine callB_of (c1) (by simp) ?_ | refine callP_of (c1) (by simp) ?_
    simp -dsimp -implicitDefEqProofs (disch := (first | assumption | omega | (simp only [zE] <;> omega) | (apply isPure_intro <;> simp))) only [go_sem]
    first | refine callB_of (string_ret _ (by omega)) (by simp) ?_ | refine callP_of (string_ret _ (by omega)) (by simp) ?_
    simp -dsimp -implicitDefEqProofs (disch := (first | assumption | omega | (simp only [zE] <;> omega) | (apply isPure_intro <;> simp))) only [go_sem]
    first | refine callB_of (c2) (by simp) ?_ | refine callP_of (c2) (by simp) ?_
    simp -dsimp -implicitDefEqProofs (disch := (first | assumption | omega | (simp only [zE] <;> omega) | (apply isPure_intro <;> simp))) only [go_sem]
    first | refine callB_of (t1) (by simp) ?_ | refine callP_of (t1) (by simp) ?_
    simp -dsimp -implicitDefEqProofs (disch := (first | assumption | omega | (simp only [zE] <;> omega) | (apply isPure_intro <;> simp))) only [go_sem]
    first | refine callB_of (c3) (by simp) ?_ | refine callP_of (c3) (by simp) ?_
    simp -dsimp -implicitDefEqProofs (disch := (first | assumption | omega | (simp only [zE] <;> omega) | (apply isPure_intro <;> simp))) only [go_sem]
    first | refine callB_of (t3) (by simp) ?_ | refine callP_of (t3) (by simp) ?_
    simp -dsimp -implicitDefEqProofs (disch := (first | assumption | omega | (simp only [zE] <;> omega) | (apply isPure_intro <;> simp))) only [go_sem]
    first | refine callB_of (c4) (by simp) ?_ | refine callP_of (c4) (by simp) ?_
    simp -dsimp -implicitDefEqProofs (disch := (first | assumption | omega | (simp only [zE] <;> omega) | (apply isPure_intro <;> simp))) only [go_sem]
    first | refine callB_of (r_string _ (by omega)) (by simp) ?_ | refine callP_of (r_string _ (by omega)) (by simp) ?_
    simp -dsimp -implicitDefEqProofs (disch := (first | assumption | omega | (simp only [zE] <;> omega) | (apply isPure_intro <;> simp))) only [go_sem, strV_same]
    first | refine callB_of (c5) (by simp) ?_ | refine callP_of (c5) (by simp) ?_
    simp -dsimp -implicitDefEqProofs (disch := (first | assumption | omega | (simp only [zE] <;> omega) | (apply isPure_intro <;> simp))) only [go_sem]
    first | refine callB_of (t2) (by simp) ?_ | refine callP_of (t2) (by simp) ?_
    simp -dsimp -implicitDefEqProofs (disch := (first | assumption | omega | (simp only [zE] <;> omega) | (apply isPure_intro <;> simp))) only [go_sem, strV_same]
    first | refine callB_of (c6) (by simp) ?_ | refine callP_of (c6) (by simp) ?_
    simp -dsimp -implicitDefEqProofs (disch := (first | assumption | omega | (simp only [zE] <;> omega) | (apply isPure_intro <;> simp))) only [go_sem]
    first | refine callB_of (t4) (by simp) ?_ | refine callP_of (t4) (by simp) ?_
    simp -dsimp -implicitDefEqProofs (disch := (first | assumption | omega | (simp only [zE] <;> omega) | (apply isPure_intro <;> simp))) only [go_sem, strV_same]
    done
  · simp -dsimp -implicitDefEqProofs (disch := (first | assumption | omega | (simp only [zE] <;> omega) | (apply isPure_intro <;> simp))) only [go_sem, hml, hml2, hnn]
    done
end Go.Gim

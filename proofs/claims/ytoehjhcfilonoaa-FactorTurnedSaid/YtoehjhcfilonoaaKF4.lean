import Derived.Test.YtoehjhcfilonoaaKM4
/- A row turned round. -/
set_option maxRecDepth 100000
set_option maxHeartbeats 4000000
set_option linter.unusedSimpArgs false
set_option linter.unusedVariables false
namespace Go.Gim
open Go.Proofs
def backR (r : Row4) : Row4 := ⟨r.co.map fun a => -a, -r.z, r.kn, r.w⟩
def oneR (r : Row4) : Row4 := ⟨r.co, r.z, r.kn, 1⟩
theorem back_right {r : Row4} {n : Nat} (h : Right4 r n) : Right4 (backR r) n where
  len := by unfold backR; rw [List.length_map]; exact h.len
  le := h.le
  z := by have := h.z; unfold backR; dsimp only; omega
  kn := h.kn
  w := h.w
  co := fun a ha => by
    obtain ⟨b, hb, rfl⟩ := List.mem_map.1 ha
    have := h.co b hb; omega
theorem one_right {r : Row4} {n : Nat} (h : Right4 r n) : Right4 (oneR r) n := ⟨h.len, h.le, h.z, h.kn, ⟨by show (1 : Int) ≤ 1; decide, by show (1 : Int) ≤ 100; decide⟩, h.co⟩
theorem dot_back (r : Row4) (x : List Int) : ∀ n, dotN (backR r).co x n = -dotN r.co x n
  | 0 => by simp [dotN]
  | n + 1 => by
    have e : (backR r).co.getD n 0 = -r.co.getD n 0 := by
      unfold backR
      by_cases h : n < r.co.length
      · simp [List.getD_eq_getElem?_getD, h]
      · simp [List.getD_eq_getElem?_getD, List.getElem?_eq_none (show r.co.length ≤ n by omega)]
    rw [dotN, dotN, dot_back r x n, e]; grind
theorem resid_back (r : Row4) (x : List Int) : residR (backR r) x = -residR r x := by
  have e : (backR r).co.length = r.co.length := by unfold backR; rw [List.length_map]
  have h : rawR (backR r) x = -rawR r x := by unfold rawR; rw [dot_back, e]; show - -r.z + _ = _; omega
  unfold residR; rw [h]; omega
theorem clamp_neg {a : Int} (h : -1000000000 ≤ a ∧ a ≤ 1000000000) : clampR (-a) = -clampR a := by unfold clampR; omega
theorem size_neg {a : Int} (h : -1000000000 ≤ a ∧ a ≤ 1000000000) : sizeR (-a) = sizeR a := by unfold sizeR; rw [clamp_neg h]; omega
theorem rho_neg {a k : Int} (h : -1000000000 ≤ a ∧ a ≤ 1000000000) : hRho (-a) k = hRho a k := by
  unfold hRho; rw [size_neg h, clamp_neg h]; grind
theorem slope_neg {a k : Int} (h : -1000000000 ≤ a ∧ a ≤ 1000000000) : hSlope (-a) k = -hSlope a k := by
  have hk : 0 ≤ clampK k := by unfold clampK; omega
  unfold hSlope; rw [size_neg h, clamp_neg h]; split <;> omega
theorem cost_back (r : Row4) (x : List Int) : costR (backR r) x = costR r x := by
  unfold costR; rw [resid_back, show (backR r).kn = r.kn from rfl, show (backR r).w = r.w from rfl, rho_neg (residR_bd _ _)]
theorem steep_back (r : Row4) (x : List Int) : steepR (backR r) x = steepR r x := by
  unfold steepR slopeR
  rw [resid_back, show (backR r).kn = r.kn from rfl, show (backR r).w = r.w from rfl, slope_neg (residR_bd _ _)]
  unfold backR
  dsimp only
  rw [List.map_map]
  refine List.map_congr_left fun a _ => ?_
  simp only [Function.comp]; grind
theorem cost_one (r : Row4) (x : List Int) : costR r x = costR (oneR r) x * r.w := by
  unfold costR
  show r.w * hRho (residR r x) r.kn = 1 * hRho (residR r x) r.kn * r.w
  grind
theorem FactorTurned_true (r : Row4) (x : List Int) (hl : r.co.length ≤ 9223372036854775807) (hx : x.length ≤ 9223372036854775807) : Ret pg n_gimballaw16_FactorTurned [RV r, ints x] (.bool true) := by
  refine gimballaw16_FactorTurned.of rfl (W_b ?_)
  unfold gimballaw16_FactorTurned.k gimballaw16_FactorTurned.res
  simp -dsimp -implicitDefEqProofs (disch := (first | assumption | omega | (simp only [nats_len, List.length_map, List.length_set, List.length_replicate, List.length_append, List.length_range, upto_len, els_len, List.length_cons, List.length_nil] <;> omega) | (apply isPure_intro <;> simp))) only [go_sem]
  first | refine callB_of (awake16_ret) (by simp) ?_ | refine callP_of (awake16_ret) (by simp) ?_
  simp -dsimp -implicitDefEqProofs (disch := (first | assumption | omega | (simp only [nats_len, List.length_map, List.length_set, List.length_replicate, List.length_append, List.length_range, upto_len, els_len, List.length_cons, List.length_nil] <;> omega) | (apply isPure_intro <;> simp))) only [go_sem]
  first | refine callB_of (rright_ret r x.length hl) (by simp) ?_ | refine callP_of (rright_ret r x.length hl) (by simp) ?_
  simp -dsimp -implicitDefEqProofs (disch := (first | assumption | omega | (simp only [nats_len, List.length_map, List.length_set, List.length_replicate, List.length_append, List.length_range, upto_len, els_len, List.length_cons, List.length_nil] <;> omega) | (apply isPure_intro <;> simp))) only [go_sem]
  first | refine callB_of (rstate_ret x hx) (by simp) ?_ | refine callP_of (rstate_ret x hx) (by simp) ?_
  by_cases h1 : rightB r x.length = true
  · by_cases h2 : stateB x = true
    · have hr := rightB_iff.1 h1
      have hs := stateB_iff.1 h2
      have hz := hr.z
      have hrl := hr.len
      have hsl : (steepR r x).length = x.length := by unfold steepR; rw [List.length_map]; exact hrl
      have hbl := steep_back r x
      have hcb := cost_back r x
      have hone : costR (oneR r) x * r.w = costR r x := (cost_one r x).symm
      have hcr := costR_bd (x := x) hr
      have hle := hr.le
      have hco : ∀ j, -1000 ≤ r.co.getD j 0 ∧ r.co.getD j 0 ≤ 1000 := hr.get
      simp -dsimp -implicitDefEqProofs (disch := (first | assumption | omega | (simp only [nats_len, List.length_map, List.length_set, List.length_replicate, List.length_append, List.length_range, upto_len, els_len, List.length_cons, List.length_nil] <;> omega) | (apply isPure_intro <;> simp))) only [go_sem, h1, h2, Int.zero_sub]
      generalize hH0 : Hp.upd (fun _ => none) 19 _ = H0
      have m0 : H0 19 = some ⟨[.agg [.nil, .int .i64 (-r.z), .int .i64 r.kn, .int .i64 r.w]], 4⟩ := upd_at_same hH0
      clear hH0
      refine W_loop (T := Nat × Hp × Nat × V) (fun t => ⟨E [(1, ints x), (2, .pp (RV r)), (5, .bool true), (8, .ptr 19 1 0 0), (9, .int .i64 (t.1 : Int))], t.2.1, t.2.2.1, t.2.2.1⟩)
        (fun t => t.1 ≤ r.co.length ∧ 20 ≤ t.2.2.1 ∧ t.2.1 19 = some ⟨[.agg [t.2.2.2, .int .i64 (-r.z), .int .i64 r.kn, .int .i64 r.w]], 4⟩ ∧ Row 20 t.2.1 t.2.2.1 t.2.2.2 1 (((r.co.take t.1).map fun a => -a).map (V.int .i64)))
        (fun t => r.co.length - t.1) (0, H0, _, .nil) rfl ⟨by dsimp only; omega, by dsimp only; omega, m0, Row.nil _ _ _ _⟩ ?_
      rintro ⟨j, H, nx, cv⟩ ⟨j1, j2, j3, j4⟩
      dsimp only at j1 j2 j3 j4
      obtain ⟨v1, v2, v3, v4⟩ := j4.flat
      by_cases hj : j < r.co.length
      · have hcj := hco j
        simp -dsimp -implicitDefEqProofs (disch := (first | assumption | omega | (simp only [nats_len, List.length_map, List.length_set, List.length_replicate, List.length_append, List.length_range, upto_len, els_len, List.length_cons, List.length_nil] <;> omega) | (apply isPure_intro <;> simp))) only [go_sem, j3, v1, v2, v3, v4, Int.zero_sub]
        refine effB_row j4 j2 rfl (by omega) (by omega) rfl (by omega) (by simp; omega) (by simp; omega) fun v' H4 r1 r2 r3 r4 => ?_
        have mM4 := (r4 19 (by omega)).trans j3
        obtain ⟨w1, w2, w3, w4⟩ := r1.flat
        simp -dsimp -implicitDefEqProofs (disch := (first | assumption | omega | (simp only [nats_len, List.length_map, List.length_set, List.length_replicate, List.length_append, List.length_range, upto_len, els_len, List.length_cons, List.length_nil] <;> omega) | (apply isPure_intro <;> simp))) only [go_sem, mM4, w1, w2, w3, w4]
        have hR4 : Row 20 (H4.upd 19 (some ⟨[V.agg [v', .int .i64 (-r.z), .int .i64 r.kn, .int .i64 r.w]], 4⟩)) (nx + 20) v' 1 (((r.co.take j).map fun a => -a).map (V.int .i64) ++ ([r.co.getD j 0].map fun a => -a).map (V.int .i64)) := (r1.upd (by omega)).same (fun _ _ => rfl) (by omega)
        generalize hG : Hp.upd H4 19 _ = G
        exact ⟨(j + 1, G, _, v'), rfl, ⟨by dsimp only; omega, by dsimp only; omega, upd_at_same hG, by
          dsimp only
          rw [take_getD 0 hj, List.map_append, List.map_append, ← hG]
          exact hR4⟩, by dsimp only; omega⟩
      · obtain rfl : j = r.co.length := by omega
        rw [List.take_length] at j4
        rcases j4 with ⟨rfl, j5⟩ | ⟨b, rfl, b1, b2, b3⟩
        · have hnil : r.co = [] := by simpa using j5
          simp -dsimp -implicitDefEqProofs (disch := (first | assumption | omega | (simp only [nats_len, List.length_map, List.length_set, List.length_replicate, List.length_append, List.length_range, upto_len, els_len, List.length_cons, List.length_nil] <;> omega) | (apply isPure_intro <;> simp))) only [go_sem, j3]
          have hbk : [V.agg [.nil, .int .i64 (-r.z), .int .i64 r.kn, .int .i64 r.w], ints x].map V.nn = [RV (backR r), ints x] := by unfold backR RV; rw [hnil]; rfl
          first | refine callB_of (cost_ret r x hr hs) (by simp) ?_ | refine callP_of (cost_ret r x hr hs) (by simp) ?_
          have m10 : (H.upd (nx + 6) (some ⟨[RV (oneR r)], 4⟩)) (nx + 6) = some ⟨[RV (oneR r)], 4⟩ := Hp.upd_same _ _ _
          have m19 : (H.upd (nx + 6) (some ⟨[RV (oneR r)], 4⟩)) 19 = some ⟨[.agg [.nil, .int .i64 (-r.z), .int .i64 r.kn, .int .i64 r.w]], 4⟩ := by rw [Hp.upd_ne _ _ (by omega)]; exact j3
          rw [show V.agg [ints r.co, V.int .i64 r.z, .int .i64 r.kn, .int .i64 1] = RV (oneR r) from rfl]
          generalize H.upd (nx + 6) (some ⟨[RV (oneR r)], 4⟩) = G at m10 m19 ⊢
          simp -dsimp -implicitDefEqProofs (disch := (first | assumption | omega | (simp only [nats_len, List.length_map, List.length_set, List.length_replicate, List.length_append, List.length_range, upto_len, els_len, List.length_cons, List.length_nil] <;> omega) | (apply isPure_intro <;> simp))) only [go_sem, m19, m10]
          first | refine callB_of ((cost_ret (backR r) x (back_right hr) hs).nn (args := [.agg [.nil, .int .i64 (-r.z), .int .i64 r.kn, .int .i64 r.w], ints x]) hbk) (by simp) ?_ | refine callP_of ((cost_ret (backR r) x (back_right hr) hs).nn (args := [.agg [.nil, .int .i64 (-r.z), .int .i64 r.kn, .int .i64 r.w], ints x]) hbk) (by simp) ?_
          simp -dsimp -implicitDefEqProofs (disch := (first | assumption | omega | (simp only [nats_len, List.length_map, List.length_set, List.length_replicate, List.length_append, List.length_range, upto_len, els_len, List.length_cons, List.length_nil] <;> omega) | (apply isPure_intro <;> simp))) only [go_sem, m19, m10]
          first | refine callB_of (cost_ret (oneR r) x (one_right hr) hs) (by simp) ?_ | refine callP_of (cost_ret (oneR r) x (one_right hr) hs) (by simp) ?_
          simp -dsimp -implicitDefEqProofs (disch := (first | assumption | omega | (simp only [nats_len, List.length_map, List.length_set, List.length_replicate, List.length_append, List.length_range, upto_len, els_len, List.length_cons, List.length_nil] <;> omega) | (apply isPure_intro <;> simp))) only [go_sem, m19, m10]
          first | refine callB_of (steep_ret r x hr hs) (by simp) ?_ | refine callP_of (steep_ret r x hr hs) (by simp) ?_
          simp -dsimp -implicitDefEqProofs (disch := (first | assumption | omega | (simp only [nats_len, List.length_map, List.length_set, List.length_replicate, List.length_append, List.length_range, upto_len, els_len, List.length_cons, List.length_nil] <;> omega) | (apply isPure_intro <;> simp))) only [go_sem, m19, m10]
          first | refine callB_of ((steep_ret (backR r) x (back_right hr) hs).nn (args := [.agg [.nil, .int .i64 (-r.z), .int .i64 r.kn, .int .i64 r.w], ints x]) hbk) (by simp) ?_ | refine callP_of ((steep_ret (backR r) x (back_right hr) hs).nn (args := [.agg [.nil, .int .i64 (-r.z), .int .i64 r.kn, .int .i64 r.w], ints x]) hbk) (by simp) ?_
          simp -dsimp -implicitDefEqProofs (disch := (first | assumption | omega | (simp only [nats_len, List.length_map, List.length_set, List.length_replicate, List.length_append, List.length_range, upto_len, els_len, List.length_cons, List.length_nil] <;> omega) | (apply isPure_intro <;> simp))) only [go_sem, m19, m10, hsl, hbl, hrl, hcb]
          generalize steepR r x = S at hsl ⊢
          refine W_loop (T := Nat × Nat) (fun t => ⟨E [(1, ints x), (2, .pp (RV r)), (5, .bool true), (11, .int .i64 (costR r x)), (12, .int .i64 (costR r x)), (13, .int .i64 (costR (oneR r) x)), (14, ints S), (15, ints S), (16, .int .i64 (t.1 : Int))], G, t.2, t.2⟩) (fun t => t.1 ≤ x.length) (fun t => x.length - t.1) (0, _) rfl (by dsimp only; omega) ?_
          rintro ⟨j, nx⟩ j1
          dsimp only at j1
          by_cases hj : j < x.length
          · simp -dsimp -implicitDefEqProofs (disch := (first | assumption | omega | (simp only [nats_len, List.length_map, List.length_set, List.length_replicate, List.length_append, List.length_range, upto_len, els_len, List.length_cons, List.length_nil] <;> omega) | (apply isPure_intro <;> simp))) only [go_sem]
            exact ⟨(j + 1, _), rfl, by dsimp only; omega, by dsimp only; omega⟩
          · obtain rfl : j = x.length := by omega
            simp -dsimp -implicitDefEqProofs (disch := (first | assumption | omega | (simp only [nats_len, List.length_map, List.length_set, List.length_replicate, List.length_append, List.length_range, upto_len, els_len, List.length_cons, List.length_nil] <;> omega) | (apply isPure_intro <;> simp))) only [go_sem, hone, decide_true]
        · simp -dsimp -implicitDefEqProofs (disch := (first | assumption | omega | (simp only [nats_len, List.length_map, List.length_set, List.length_replicate, List.length_append, List.length_range, upto_len, els_len, List.length_cons, List.length_nil] <;> omega) | (apply isPure_intro <;> simp))) only [go_sem, j3]
          have s1 : (19 = b) = False := eq_false (by omega)
          have s2 : (nx + 6 = b) = False := eq_false (by omega)
          refine callB_frE (fz1 b (((r.co.map fun a => -a)).map (V.int .i64))) (fz1_ok (H := H.upd (nx + 6) _) (by rw [Hp.upd_ne _ _ (by omega)]; exact b3) pure_ints) (by simp [sub_RV, sub_ints]) (cost_ret r x hr hs) (by simp) ?_
          have m10 : ((H.upd (nx + 6) (some ⟨[RV (oneR r)], 4⟩)).sub (fz1 b (((r.co.map fun a => -a)).map (V.int .i64)))) (nx + 6) = some ⟨[RV (oneR r)], 4⟩ := sub_at (fz1_ne (by omega)) (Hp.upd_same _ _ _) (by simp [sub_RV])
          have m19 : ((H.upd (nx + 6) (some ⟨[RV (oneR r)], 4⟩)).sub (fz1 b (((r.co.map fun a => -a)).map (V.int .i64)))) 19 = some ⟨[RV (backR r)], 4⟩ := sub_at (fz1_ne (by omega)) (by rw [Hp.upd_ne _ _ (by omega)]; exact j3) (by
            simp only [List.map_cons, List.map_nil, sub_agg, sub_c_own, sub_c_int, fz1, if_true, subO, List.length_map]
            rfl)
          rw [show V.agg [ints r.co, V.int .i64 r.z, .int .i64 r.kn, .int .i64 1] = RV (oneR r) from rfl]
          generalize Hp.sub (fz1 b (((r.co.map fun a => -a)).map (V.int .i64))) (H.upd (nx + 6) (some ⟨[RV (oneR r)], 4⟩)) = G at m10 m19 ⊢
          simp -dsimp -implicitDefEqProofs (disch := (first | assumption | omega | (simp only [nats_len, List.length_map, List.length_set, List.length_replicate, List.length_append, List.length_range, upto_len, els_len, List.length_cons, List.length_nil] <;> omega) | (apply isPure_intro <;> simp))) only [go_sem, s1, s2, m19, m10]
          first | refine callB_of (cost_ret (backR r) x (back_right hr) hs) (by simp) ?_ | refine callP_of (cost_ret (backR r) x (back_right hr) hs) (by simp) ?_
          simp -dsimp -implicitDefEqProofs (disch := (first | assumption | omega | (simp only [nats_len, List.length_map, List.length_set, List.length_replicate, List.length_append, List.length_range, upto_len, els_len, List.length_cons, List.length_nil] <;> omega) | (apply isPure_intro <;> simp))) only [go_sem, s1, s2, m19, m10]
          first | refine callB_of (cost_ret (oneR r) x (one_right hr) hs) (by simp) ?_ | refine callP_of (cost_ret (oneR r) x (one_right hr) hs) (by simp) ?_
          simp -dsimp -implicitDefEqProofs (disch := (first | assumption | omega | (simp only [nats_len, List.length_map, List.length_set, List.length_replicate, List.length_append, List.length_range, upto_len, els_len, List.length_cons, List.length_nil] <;> omega) | (apply isPure_intro <;> simp))) only [go_sem, s1, s2, m19, m10]
          first | refine callB_of (steep_ret r x hr hs) (by simp) ?_ | refine callP_of (steep_ret r x hr hs) (by simp) ?_
          simp -dsimp -implicitDefEqProofs (disch := (first | assumption | omega | (simp only [nats_len, List.length_map, List.length_set, List.length_replicate, List.length_append, List.length_range, upto_len, els_len, List.length_cons, List.length_nil] <;> omega) | (apply isPure_intro <;> simp))) only [go_sem, s1, s2, m19, m10]
          first | refine callB_of (steep_ret (backR r) x (back_right hr) hs) (by simp) ?_ | refine callP_of (steep_ret (backR r) x (back_right hr) hs) (by simp) ?_
          simp -dsimp -implicitDefEqProofs (disch := (first | assumption | omega | (simp only [nats_len, List.length_map, List.length_set, List.length_replicate, List.length_append, List.length_range, upto_len, els_len, List.length_cons, List.length_nil] <;> omega) | (apply isPure_intro <;> simp))) only [go_sem, s1, s2, m19, m10, hsl, hbl, hrl, hcb]
          generalize steepR r x = S at hsl ⊢
          refine W_loop (T := Nat × Nat) (fun t => ⟨E [(1, ints x), (2, .pp (RV r)), (5, .bool true), (11, .int .i64 (costR r x)), (12, .int .i64 (costR r x)), (13, .int .i64 (costR (oneR r) x)), (14, ints S), (15, ints S), (16, .int .i64 (t.1 : Int))], G, t.2, t.2⟩) (fun t => t.1 ≤ x.length) (fun t => x.length - t.1) (0, _) rfl (by dsimp only; omega) ?_
          rintro ⟨j, nx⟩ j1
          dsimp only at j1
          by_cases hj : j < x.length
          · simp -dsimp -implicitDefEqProofs (disch := (first | assumption | omega | (simp only [nats_len, List.length_map, List.length_set, List.length_replicate, List.length_append, List.length_range, upto_len, els_len, List.length_cons, List.length_nil] <;> omega) | (apply isPure_intro <;> simp))) only [go_sem]
            exact ⟨(j + 1, _), rfl, by dsimp only; omega, by dsimp only; omega⟩
          · obtain rfl : j = x.length := by omega
            simp -dsimp -implicitDefEqProofs (disch := (first | assumption | omega | (simp only [nats_len, List.length_map, List.length_set, List.length_replicate, List.length_append, List.length_range, upto_len, els_len, List.length_cons, List.length_nil] <;> omega) | (apply isPure_intro <;> simp))) only [go_sem, hone, decide_true]
    · have h2 : stateB x = false := by simpa using h2
      simp -dsimp -implicitDefEqProofs (disch := (first | assumption | omega | (simp only [nats_len, List.length_map, List.length_set, List.length_replicate, List.length_append, List.length_range, upto_len, els_len, List.length_cons, List.length_nil] <;> omega) | (apply isPure_intro <;> simp))) only [go_sem, h1, h2]
  · have h1 : rightB r x.length = false := by simpa using h1
    simp -dsimp -implicitDefEqProofs (disch := (first | assumption | omega | (simp only [nats_len, List.length_map, List.length_set, List.length_replicate, List.length_append, List.length_range, upto_len, els_len, List.length_cons, List.length_nil] <;> omega) | (apply isPure_intro <;> simp))) only [go_sem, h1]
end Go.Gim

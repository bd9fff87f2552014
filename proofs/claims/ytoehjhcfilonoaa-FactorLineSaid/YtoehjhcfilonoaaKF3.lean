import Derived.Test.YtoehjhcfilonoaaKM4
import Derived.Test.YtoehjhcfilonoaaCL0
import Derived.Test.YtoehjhcfilonoaaLI4
import Derived.Test.YtoehjhcfilonoaaLI2
/- How steep a row's cost is tells it from below. -/
set_option maxRecDepth 100000
set_option maxHeartbeats 4000000
set_option linter.unusedSimpArgs false
set_option linter.unusedVariables false
namespace Go.Gim
open Go.Proofs
theorem sign_nn {z : Int} (h : 0 ≤ z) : 0 ≤ z.sign := by
  obtain ⟨n, rfl⟩ := Int.eq_ofNat_of_zero_le h
  cases n <;> simp [Int.sign]
theorem lineN_bd {s x y : List Int} (hs : ∀ i, -3276800000 ≤ s.getD i 0 ∧ s.getD i 0 ≤ 3276800000) (hx : ∀ i, -1000000 ≤ x.getD i 0 ∧ x.getD i 0 ≤ 1000000) (hy : ∀ i, -1000000 ≤ y.getD i 0 ∧ y.getD i 0 ≤ 1000000) : ∀ n : Nat, -(13107200000000000 * (n : Int)) ≤ lineN s x y n ∧ lineN s x y n ≤ 13107200000000000 * (n : Int)
  | 0 => by simp [lineN]
  | n + 1 => by
    have := lineN_bd hs hx hy n
    have := hs n; have := hx n; have := hy n
    have := prod_bd (a := s.getD n 0 * 2) (b := y.getD n 0 - x.getD n 0) (A := 6553600000) (B := 2000000) (by omega) (by omega)
    rw [lineN]; push_cast; omega
theorem FactorLine_true (r : Row4) (x y : List Int) (hl : r.co.length ≤ 9223372036854775807) (hx : x.length ≤ 9223372036854775807) (hy : y.length ≤ 9223372036854775807) : Ret pg n_gimballaw16_FactorLine [RV r, ints x, ints y] (.bool true) := by
  refine gimballaw16_FactorLine.of rfl (W_b ?_)
  unfold gimballaw16_FactorLine.k gimballaw16_FactorLine.res
  simp -dsimp -implicitDefEqProofs (disch := (first | assumption | omega | (simp only [nats_len, List.length_map, List.length_set, List.length_replicate, List.length_append, List.length_range, upto_len, els_len, List.length_cons, List.length_nil] <;> omega) | (apply isPure_intro <;> simp))) only [go_sem]
  first | refine callB_of (awake16_ret) (by simp) ?_ | refine callP_of (awake16_ret) (by simp) ?_
  simp -dsimp -implicitDefEqProofs (disch := (first | assumption | omega | (simp only [nats_len, List.length_map, List.length_set, List.length_replicate, List.length_append, List.length_range, upto_len, els_len, List.length_cons, List.length_nil] <;> omega) | (apply isPure_intro <;> simp))) only [go_sem]
  first | refine callB_of (rright_ret r x.length hl) (by simp) ?_ | refine callP_of (rright_ret r x.length hl) (by simp) ?_
  simp -dsimp -implicitDefEqProofs (disch := (first | assumption | omega | (simp only [nats_len, List.length_map, List.length_set, List.length_replicate, List.length_append, List.length_range, upto_len, els_len, List.length_cons, List.length_nil] <;> omega) | (apply isPure_intro <;> simp))) only [go_sem]
  first | refine callB_of (rstate_ret x hx) (by simp) ?_ | refine callP_of (rstate_ret x hx) (by simp) ?_
  simp -dsimp -implicitDefEqProofs (disch := (first | assumption | omega | (simp only [nats_len, List.length_map, List.length_set, List.length_replicate, List.length_append, List.length_range, upto_len, els_len, List.length_cons, List.length_nil] <;> omega) | (apply isPure_intro <;> simp))) only [go_sem]
  first | refine callB_of (rstate_ret y hy) (by simp) ?_ | refine callP_of (rstate_ret y hy) (by simp) ?_
  by_cases h1 : rightB r x.length = true
  · by_cases h2 : stateB x = true
    · by_cases h3 : stateB y = true
      · by_cases h4 : (y.length : Int) = (x.length : Int)
        · have hr := rightB_iff.1 h1
          have hs := stateB_iff.1 h2
          have ht := stateB_iff.1 h3
          have hry : Right4 r y.length := by rw [show y.length = x.length by omega]; exact hr
          simp -dsimp -implicitDefEqProofs (disch := (first | assumption | omega | (simp only [nats_len, List.length_map, List.length_set, List.length_replicate, List.length_append, List.length_range, upto_len, els_len, List.length_cons, List.length_nil] <;> omega) | (apply isPure_intro <;> simp))) only [go_sem, h1, h2, h3, h4]
          first | refine callB_of (resid_ret r x hr hs) (by simp) ?_ | refine callP_of (resid_ret r x hr hs) (by simp) ?_
          simp -dsimp -implicitDefEqProofs (disch := (first | assumption | omega | (simp only [nats_len, List.length_map, List.length_set, List.length_replicate, List.length_append, List.length_range, upto_len, els_len, List.length_cons, List.length_nil] <;> omega) | (apply isPure_intro <;> simp))) only [go_sem]
          first | refine callB_of (resid_ret r y hry ht) (by simp) ?_ | refine callP_of (resid_ret r y hry ht) (by simp) ?_
          simp -dsimp -implicitDefEqProofs (disch := (first | assumption | omega | (simp only [nats_len, List.length_map, List.length_set, List.length_replicate, List.length_append, List.length_range, upto_len, els_len, List.length_cons, List.length_nil] <;> omega) | (apply isPure_intro <;> simp))) only [go_sem]
          by_cases q1 : residR r x ≤ -1000000000
          · simp -dsimp -implicitDefEqProofs (disch := (first | assumption | omega | (simp only [nats_len, List.length_map, List.length_set, List.length_replicate, List.length_append, List.length_range, upto_len, els_len, List.length_cons, List.length_nil] <;> omega) | (apply isPure_intro <;> simp))) only [go_sem, q1]
          · by_cases q2 : 1000000000 ≤ residR r x
            · simp -dsimp -implicitDefEqProofs (disch := (first | assumption | omega | (simp only [nats_len, List.length_map, List.length_set, List.length_replicate, List.length_append, List.length_range, upto_len, els_len, List.length_cons, List.length_nil] <;> omega) | (apply isPure_intro <;> simp))) only [go_sem, q1, q2]
            · by_cases q3 : residR r y ≤ -1000000000
              · simp -dsimp -implicitDefEqProofs (disch := (first | assumption | omega | (simp only [nats_len, List.length_map, List.length_set, List.length_replicate, List.length_append, List.length_range, upto_len, els_len, List.length_cons, List.length_nil] <;> omega) | (apply isPure_intro <;> simp))) only [go_sem, q1, q2, q3]
              · by_cases q4 : 1000000000 ≤ residR r y
                · simp -dsimp -implicitDefEqProofs (disch := (first | assumption | omega | (simp only [nats_len, List.length_map, List.length_set, List.length_replicate, List.length_append, List.length_range, upto_len, els_len, List.length_cons, List.length_nil] <;> omega) | (apply isPure_intro <;> simp))) only [go_sem, q1, q2, q3, q4]
                · have hcx := costR_bd (x := x) hr
                  have hcy := costR_bd (x := y) hr
                  have hsb := steepR_bd (x := x) hr
                  have hln := cost_line (x := x) (y := y) hr (by omega) (by omega)
                  have hsl : (steepR r x).length = x.length := by unfold steepR; rw [List.length_map]; exact hr.len
                  have hle := hr.le
                  simp -dsimp -implicitDefEqProofs (disch := (first | assumption | omega | (simp only [nats_len, List.length_map, List.length_set, List.length_replicate, List.length_append, List.length_range, upto_len, els_len, List.length_cons, List.length_nil] <;> omega) | (apply isPure_intro <;> simp))) only [go_sem, q1, q2, q3, q4]
                  first | refine callB_of (steep_ret r x hr hs) (by simp) ?_ | refine callP_of (steep_ret r x hr hs) (by simp) ?_
                  simp -dsimp -implicitDefEqProofs (disch := (first | assumption | omega | (simp only [nats_len, List.length_map, List.length_set, List.length_replicate, List.length_append, List.length_range, upto_len, els_len, List.length_cons, List.length_nil] <;> omega) | (apply isPure_intro <;> simp))) only [go_sem]
                  first | refine callB_of (cost_ret r x hr hs) (by simp) ?_ | refine callP_of (cost_ret r x hr hs) (by simp) ?_
                  simp -dsimp -implicitDefEqProofs (disch := (first | assumption | omega | (simp only [nats_len, List.length_map, List.length_set, List.length_replicate, List.length_append, List.length_range, upto_len, els_len, List.length_cons, List.length_nil] <;> omega) | (apply isPure_intro <;> simp))) only [go_sem]
                  first | refine callB_of (of_ret _ (by omega)) (by simp) ?_ | refine callP_of (of_ret _ (by omega)) (by simp) ?_
                  have hS : ∀ i, -3276800000 ≤ (steepR r x).getD i 0 ∧ (steepR r x).getD i 0 ≤ 3276800000 := fun i => by
                    by_cases hi : i < (steepR r x).length
                    · exact hsb _ (getD_mem' 0 hi)
                    · rw [List.getD_eq_getElem?_getD, List.getElem?_eq_none (by omega)]; simp
                  have hbd := fun n => lineN_bd hS hs.get ht.get n
                  generalize steepR r x = S at hsl hln hbd hS ⊢
                  simp -dsimp -implicitDefEqProofs (disch := (first | assumption | omega | (simp only [nats_len, List.length_map, List.length_set, List.length_replicate, List.length_append, List.length_range, upto_len, els_len, List.length_cons, List.length_nil] <;> omega) | (apply isPure_intro <;> simp))) only [go_sem, hsl, IV_cells, IV_isAgg, IV_isJunk]
                  generalize hH0 : Hp.upd (fun _ => none) 62 _ = H0
                  have m0 : H0 62 = some ⟨[IV (costR r x)], 2⟩ := upd_at_same hH0
                  clear hH0
                  refine W_loop (T := Nat × Hp × Nat) (fun t => ⟨E [(1, ints x), (2, ints y), (3, .pp (RV r)), (7, .bool true), (13, ints S), (14, .ptr 62 1 0 0), (15, .int .i64 (t.1 : Int))], t.2.1, t.2.2, t.2.2⟩)
                    (fun t => t.1 ≤ x.length ∧ 63 ≤ t.2.2 ∧ t.2.1 62 = some ⟨[IV (costR r x + lineN S x y t.1)], 2⟩) (fun t => x.length - t.1) (0, H0, _) rfl ⟨by dsimp only; omega, by dsimp only; omega, by dsimp only; rw [m0, lineN, Int.add_zero]⟩ ?_
                  rintro ⟨j, H, nx⟩ ⟨j1, j2, j3⟩
                  dsimp only at j1 j2 j3
                  have hbj := hbd j
                  by_cases hj : j < x.length
                  · have hsj := hS j
                    have hxj := hs.get j
                    have hyj := ht.get j
                    have hbj1 := hbd (j + 1)
                    rw [lineN] at hbj1
                    have htl : costR r x + lineN S x y j + 2 * S.getD j 0 * (y.getD j 0 - x.getD j 0) = costR r x + lineN S x y (j + 1) := by rw [lineN]; grind
                    have l1 : lim (costR r x + lineN S x y j) ≤ 2 := lim_i64 (by omega)
                    have l2 : lim (2 * S.getD j 0) ≤ 2 := lim_i64 (by omega)
                    have l3 : lim (y.getD j 0 - x.getD j 0) ≤ 2 := lim_i64 (by omega)
                    have l4 : lim (2 * S.getD j 0 * (y.getD j 0 - x.getD j 0)) ≤ 4 := by have := lim_mul (2 * S.getD j 0) (y.getD j 0 - x.getD j 0); omega
                    simp -dsimp -implicitDefEqProofs (disch := (first | assumption | omega | (simp only [nats_len, List.length_map, List.length_set, List.length_replicate, List.length_append, List.length_range, upto_len, els_len, List.length_cons, List.length_nil] <;> omega) | (apply isPure_intro <;> simp))) only [go_sem, j3, IV_cells, IV_isAgg, IV_isJunk]
                    first | refine callB_of (of_ret _ (by omega)) (by simp) ?_ | refine callP_of (of_ret _ (by omega)) (by simp) ?_
                    simp -dsimp -implicitDefEqProofs (disch := (first | assumption | omega | (simp only [nats_len, List.length_map, List.length_set, List.length_replicate, List.length_append, List.length_range, upto_len, els_len, List.length_cons, List.length_nil] <;> omega) | (apply isPure_intro <;> simp))) only [go_sem, j3, IV_cells, IV_isAgg, IV_isJunk]
                    first | refine callB_of (of_ret _ (by omega)) (by simp) ?_ | refine callP_of (of_ret _ (by omega)) (by simp) ?_
                    simp -dsimp -implicitDefEqProofs (disch := (first | assumption | omega | (simp only [nats_len, List.length_map, List.length_set, List.length_replicate, List.length_append, List.length_range, upto_len, els_len, List.length_cons, List.length_nil] <;> omega) | (apply isPure_intro <;> simp))) only [go_sem, j3, IV_cells, IV_isAgg, IV_isJunk]
                    first | refine callB_of (mul_ret _ _ (by omega) (by omega)) (by simp) ?_ | refine callP_of (mul_ret _ _ (by omega) (by omega)) (by simp) ?_
                    simp -dsimp -implicitDefEqProofs (disch := (first | assumption | omega | (simp only [nats_len, List.length_map, List.length_set, List.length_replicate, List.length_append, List.length_range, upto_len, els_len, List.length_cons, List.length_nil] <;> omega) | (apply isPure_intro <;> simp))) only [go_sem, j3, IV_cells, IV_isAgg, IV_isJunk]
                    first | refine callB_of (add_ret _ _ (by omega) (by omega)) (by simp) ?_ | refine callP_of (add_ret _ _ (by omega) (by omega)) (by simp) ?_
                    simp -dsimp -implicitDefEqProofs (disch := (first | assumption | omega | (simp only [nats_len, List.length_map, List.length_set, List.length_replicate, List.length_append, List.length_range, upto_len, els_len, List.length_cons, List.length_nil] <;> omega) | (apply isPure_intro <;> simp))) only [go_sem, j3, IV_cells, IV_isAgg, IV_isJunk, htl]
                    generalize hG : Hp.upd H 62 _ = G
                    exact ⟨(j + 1, G, _), rfl, ⟨by dsimp only; omega, by dsimp only; omega, upd_at_same hG⟩, by dsimp only; omega⟩
                  · obtain rfl : j = x.length := by omega
                    have l1 : lim (costR r x + lineN S x y x.length) ≤ 2 := lim_i64 (by omega)
                    have l2 : lim (costR r y) ≤ 2 := lim_i64 (by omega)
                    simp -dsimp -implicitDefEqProofs (disch := (first | assumption | omega | (simp only [nats_len, List.length_map, List.length_set, List.length_replicate, List.length_append, List.length_range, upto_len, els_len, List.length_cons, List.length_nil] <;> omega) | (apply isPure_intro <;> simp))) only [go_sem, j3, IV_cells, IV_isAgg, IV_isJunk]
                    first | refine callB_of (cost_ret r y hry ht) (by simp) ?_ | refine callP_of (cost_ret r y hry ht) (by simp) ?_
                    simp -dsimp -implicitDefEqProofs (disch := (first | assumption | omega | (simp only [nats_len, List.length_map, List.length_set, List.length_replicate, List.length_append, List.length_range, upto_len, els_len, List.length_cons, List.length_nil] <;> omega) | (apply isPure_intro <;> simp))) only [go_sem, j3, IV_cells, IV_isAgg, IV_isJunk]
                    first | refine callB_of (of_ret _ (by omega)) (by simp) ?_ | refine callP_of (of_ret _ (by omega)) (by simp) ?_
                    simp -dsimp -implicitDefEqProofs (disch := (first | assumption | omega | (simp only [nats_len, List.length_map, List.length_set, List.length_replicate, List.length_append, List.length_range, upto_len, els_len, List.length_cons, List.length_nil] <;> omega) | (apply isPure_intro <;> simp))) only [go_sem, j3, IV_cells, IV_isAgg, IV_isJunk]
                    first | refine callB_of (icmp_ret _ _ (by omega) (by omega)) (by simp) ?_ | refine callP_of (icmp_ret _ _ (by omega) (by omega)) (by simp) ?_
                    have hge : 0 ≤ (costR r y - (costR r x + lineN S x y x.length)).sign := sign_nn (by omega)
                    simp -dsimp -implicitDefEqProofs (disch := (first | assumption | omega | (simp only [nats_len, List.length_map, List.length_set, List.length_replicate, List.length_append, List.length_range, upto_len, els_len, List.length_cons, List.length_nil] <;> omega) | (apply isPure_intro <;> simp))) only [go_sem, hge]
        · have h4' : ¬ ((x.length : Int) = (y.length : Int)) := fun e => h4 e.symm
          simp -dsimp -implicitDefEqProofs (disch := (first | assumption | omega | (simp only [nats_len, List.length_map, List.length_set, List.length_replicate, List.length_append, List.length_range, upto_len, els_len, List.length_cons, List.length_nil] <;> omega) | (apply isPure_intro <;> simp))) only [go_sem, h1, h2, h3, h4']
      · have h3 : stateB y = false := by simpa using h3
        simp -dsimp -implicitDefEqProofs (disch := (first | assumption | omega | (simp only [nats_len, List.length_map, List.length_set, List.length_replicate, List.length_append, List.length_range, upto_len, els_len, List.length_cons, List.length_nil] <;> omega) | (apply isPure_intro <;> simp))) only [go_sem, h1, h2, h3]
    · have h2 : stateB x = false := by simpa using h2
      simp -dsimp -implicitDefEqProofs (disch := (first | assumption | omega | (simp only [nats_len, List.length_map, List.length_set, List.length_replicate, List.length_append, List.length_range, upto_len, els_len, List.length_cons, List.length_nil] <;> omega) | (apply isPure_intro <;> simp))) only [go_sem, h1, h2]
  · have h1 : rightB r x.length = false := by simpa using h1
    simp -dsimp -implicitDefEqProofs (disch := (first | assumption | omega | (simp only [nats_len, List.length_map, List.length_set, List.length_replicate, List.length_append, List.length_range, upto_len, els_len, List.length_cons, List.length_nil] <;> omega) | (apply isPure_intro <;> simp))) only [go_sem, h1]
end Go.Gim

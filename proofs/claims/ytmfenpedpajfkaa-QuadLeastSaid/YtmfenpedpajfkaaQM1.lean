import Derived.Test.YtmfenpedpajfkaaQL3
import Derived.Test.YtmfenpedpajfkaaQP2
/- The least value; what is left out is at its least; left out twice. -/
set_option maxRecDepth 100000
set_option maxHeartbeats 4000000
set_option linter.unusedSimpArgs false
set_option linter.unusedVariables false
namespace Go.Gim
open Go.Proofs
theorem min_nat (a : Nat) (m : Nat) : ∃ n, min a m = n ∧ n ≤ m := ⟨min a m, rfl, Nat.min_le_right _ _⟩
theorem sign_ge {a : Int} (h : 0 ≤ a) : 0 ≤ a.sign := by
  rcases Int.lt_trichotomy a 0 with h1 | h1 | h1
  · omega
  · rw [h1]; decide
  · rw [Int.sign_eq_one_of_pos h1]; decide
theorem mir_sm {rows : List (List Int)} (h : ∀ r ∈ rows, ∀ v ∈ r, In64 v) (n : Nat) : ∀ i j, lim (at2 (mirM rows n) i j) ≤ 2 := Sq.sm (mirM_in h n)
theorem QuadLeast_true (rows : List (List Int)) (q : List Int) (c : Int) (l : List Int) (hl : rows.length ≤ 9223372036854775807) (hr : ∀ r ∈ rows, r.length ≤ 9223372036854775807 ∧ ∀ v ∈ r, In64 v) (hql : q.length ≤ 9223372036854775807) (hq : ∀ v ∈ q, In64 v) (hc : In64 c) (hll : l.length ≤ 9223372036854775807) (hlv : ∀ v ∈ l, In64 v) :
    Ret pg n_gimballaw08_QuadLeast [.sl (rows.map ints), ints q, .int .i64 c, ints l] (.bool true) := by
  obtain ⟨n, hmn, hn8⟩ := min_nat rows.length 8
  have g1 := read8_ret rows q c 8 n hmn (by decide) hl hr hq hc
  have hsy := mir_sym rows n
  have hsq := mirM_sq rows n
  have hml := hsq.1
  have sP := mir_sm (fun r h => (hr r h).2) n
  have sQ := pad_lim hq n
  have sX := pad_lim hlv n
  have hQl := padL_len q n
  have hXl := padL_len l n
  have sc : lim c ≤ 2 := lim_i64 hc
  have c1 := qleast_ret (mirM rows n) (padL q n) c n 2 (by omega) (by omega) hsq hQl sP sQ sc
  have c2 := ldefinite_ret (mirM rows n) n 2 (by omega) (by omega) hsq sP
  have c3 := qvalue_ret (mirM rows n) (padL q n) (padL l n) c n (by omega) hsq hQl hXl (fun i j => by have := sP i j; omega) (fun i => by have := sQ i; omega) (by omega) (fun i => by have := sX i; omega)
  rw [qval_val hsq hQl] at c3
  have sV := val_lim (n := n) (P := at2 (mirM rows n)) (q := fun i => (padL q n).getD i 0) (x := fun i => (padL l n).getD i 0) (c := c) (A := 2) (B := 2) (fun i j _ _ => sP i j) (fun i _ => sQ i) sc (fun i _ => sX i)
  have sD := det_sm (n := n) (L := 2) (by omega) (by omega) sP
  have sN : ∀ k, lim (numF n (at2 (mirM rows n)) (fun i => (padL q n).getD i 0) k) ≤ 413696 := fun k => det_sm (by omega) (show 2 ≤ 100 by omega) (setC_lim sP sQ k)
  have hnl := rowF_len n (numF n (at2 (mirM rows n)) fun i => (padL q n).getD i 0)
  have sN' : ∀ i, lim ((rowF n (numF n (at2 (mirM rows n)) fun i => (padL q n).getD i 0)).getD i 0) ≤ 413696 := fun i => rng_lim sN i
  have c4 := apply_ret (mirM rows n) (rowF n (numF n (at2 (mirM rows n)) fun i => (padL q n).getD i 0)) n (by omega) hsq hnl (fun i j => by have := sP i j; omega) (fun i => by have := sN' i; omega)
  have c5 := lquad_ret (mirM rows n) (rowF n (numF n (at2 (mirM rows n)) fun i => (padL q n).getD i 0)) n (by omega) hsq hnl (fun i j => by have := sP i j; omega) (fun i => by have := sN' i; omega)
  rw [quadV_qS, qS_congr (N := at2 (mirM rows n)) (y := numF n (at2 (mirM rows n)) fun i => (padL q n).getD i 0) (fun _ _ _ _ => rfl) fun i hi => rowF_get hi] at c5
  have hA : ∀ i, i < n → applyAt (mirM rows n) (rowF n (numF n (at2 (mirM rows n)) fun i => (padL q n).getD i 0)) n i = (padL q n).getD i 0 * det n (at2 (mirM rows n)) := fun i hi => by
    rw [applyAt_eq, appS_congr (M' := at2 (mirM rows n)) (x' := numF n (at2 (mirM rows n)) fun i => (padL q n).getD i 0) (fun _ _ => rfl) (fun k hk => rowF_get hk)]
    have := num_solve (at2 (mirM rows n)) (fun i => (padL q n).getD i 0) hi
    unfold appS
    rw [this, Int.mul_comm]
  refine gimballaw08_QuadLeast.of rfl (W_b ?_)
  unfold gimballaw08_QuadLeast.k gimballaw08_QuadLeast.res
  simp -dsimp -implicitDefEqProofs (disch := (first | assumption | omega | (simp only [nats_len, List.length_map, List.length_set, List.length_replicate, List.length_append, List.length_range, upto_len, els_len, List.length_cons, List.length_nil] <;> omega) | (apply isPure_intro <;> simp))) only [go_sem]
  first | refine callB_of (awake08_ret) (by simp) ?_ | refine callP_of (awake08_ret) (by simp) ?_
  simp -dsimp -implicitDefEqProofs (disch := (first | assumption | omega | (simp only [nats_len, List.length_map, List.length_set, List.length_replicate, List.length_append, List.length_range, upto_len, els_len, List.length_cons, List.length_nil] <;> omega) | (apply isPure_intro <;> simp))) only [go_sem]
  first | refine callB_of (g1) (by simp) ?_ | refine callP_of (g1) (by simp) ?_
  by_cases hdf : defS n (at2 (mirM rows n)) = true
  · have hd0 := defS_det hdf
    have hab := least_above hsy hdf (fun i => (padL q n).getD i 0) c fun i => (padL l n).getD i 0
    have hth := least_there (at2 (mirM rows n)) (fun i => (padL q n).getD i 0) c (n := n)
    have sT : lim (gC n (at2 (mirM rows n)) (fun i => (padL q n).getD i 0) c) ≤ 500000 := by
      have := (g_lim (k := n) (L := 2) (D := 413696) (c := c) (by
        have h2 : 2 ^ n ≤ 2 ^ 12 := Nat.pow_le_pow_right (by decide) (by omega)
        have h3 : 2 ^ n * (2 + 1) ≤ 4096 * 3 := Nat.mul_le_mul h2 (by omega)
        omega) sP sQ sc).2.2
      omega
    rw [if_pos hdf] at c1
    rw [hdf] at c2
    have e0 : (rowF n fun k => det n (setC (at2 (mirM rows n)) k fun i => (padL q n).getD i 0)) = rowF n (numF n (at2 (mirM rows n)) fun i => (padL q n).getD i 0) := rfl
    have e1 : c * det n (at2 (mirM rows n)) - sumZ (fun k => (padL q n).getD k 0 * det n (setC (at2 (mirM rows n)) k fun i => (padL q n).getD i 0)) n = gC n (at2 (mirM rows n)) (fun i => (padL q n).getD i 0) c := rfl
    rw [e0, e1] at c1
    have hng : ∀ i, i < n → (rowF n (numF n (at2 (mirM rows n)) fun i => (padL q n).getD i 0)).getD i 0 = numF n (at2 (mirM rows n)) (fun i => (padL q n).getD i 0) i := fun i hi => rowF_get hi
    have sqS : lim (qS n (at2 (mirM rows n)) (numF n (at2 (mirM rows n)) fun i => (padL q n).getD i 0)) ≤ 900000 := by
      unfold qS
      refine Nat.le_trans (sumZ_lim (B := 827500) fun k hk => ?_) (by omega)
      have h1 := lim_mul (numF n (at2 (mirM rows n)) (fun i => (padL q n).getD i 0) k) (appS n (at2 (mirM rows n)) (numF n (at2 (mirM rows n)) fun i => (padL q n).getD i 0) k)
      have h2 : lim (appS n (at2 (mirM rows n)) (numF n (at2 (mirM rows n)) fun i => (padL q n).getD i 0) k) ≤ 413698 + n := sumZ_lim fun j hj => by
        have := lim_mul (at2 (mirM rows n) k j) (numF n (at2 (mirM rows n)) (fun i => (padL q n).getD i 0) j)
        have := sP k j
        have := sN j
        omega
      have := sN k
      omega
    generalize hnum : numF n (at2 (mirM rows n)) (fun i => (padL q n).getD i 0) = num at *
    generalize hnn : rowF n num = nums at *
    generalize hdd : det n (at2 (mirM rows n)) = d at *
    generalize hgg : gC n (at2 (mirM rows n)) (fun i => (padL q n).getD i 0) c = top at *
    generalize hvv : valF n (at2 (mirM rows n)) (fun i => (padL q n).getD i 0) c (fun i => (padL l n).getD i 0) = val at *
    generalize hqq : qS n (at2 (mirM rows n)) num = qq at *
    have m1 := lim_mul val d
    have hsg := sign_ge (show 0 ≤ val * d - top by omega)
    have hs1 := Int.sign_eq_one_of_pos hd0
    simp -dsimp -implicitDefEqProofs (disch := (first | assumption | omega | (simp only [nats_len, List.length_map, List.length_set, List.length_replicate, List.length_append, List.length_range, upto_len, els_len, List.length_cons, List.length_nil] <;> omega) | (apply isPure_intro <;> simp))) only [go_sem]
    first | refine callB_of (c1) (by simp) ?_ | refine callP_of (c1) (by simp) ?_
    simp -dsimp -implicitDefEqProofs (disch := (first | assumption | omega | (simp only [nats_len, List.length_map, List.length_set, List.length_replicate, List.length_append, List.length_range, upto_len, els_len, List.length_cons, List.length_nil] <;> omega) | (apply isPure_intro <;> simp))) only [go_sem]
    first | refine callB_of (c2) (by simp) ?_ | refine callP_of (c2) (by simp) ?_
    simp -dsimp -implicitDefEqProofs (disch := (first | assumption | omega | (simp only [nats_len, List.length_map, List.length_set, List.length_replicate, List.length_append, List.length_range, upto_len, els_len, List.length_cons, List.length_nil] <;> omega) | (apply isPure_intro <;> simp))) only [go_sem, hnl, hml]
    first | refine callB_of (list8_ret l n (by omega) hlv) (by simp) ?_ | refine callP_of (list8_ret l n (by omega) hlv) (by simp) ?_
    simp -dsimp -implicitDefEqProofs (disch := (first | assumption | omega | (simp only [nats_len, List.length_map, List.length_set, List.length_replicate, List.length_append, List.length_range, upto_len, els_len, List.length_cons, List.length_nil] <;> omega) | (apply isPure_intro <;> simp))) only [go_sem]
    first | refine callB_of (c3) (by simp) ?_ | refine callP_of (c3) (by simp) ?_
    simp -dsimp -implicitDefEqProofs (disch := (first | assumption | omega | (simp only [nats_len, List.length_map, List.length_set, List.length_replicate, List.length_append, List.length_range, upto_len, els_len, List.length_cons, List.length_nil] <;> omega) | (apply isPure_intro <;> simp))) only [go_sem]
    first | refine callB_of (mul_ret _ _ (by omega) (by omega)) (by simp) ?_ | refine callP_of (mul_ret _ _ (by omega) (by omega)) (by simp) ?_
    simp -dsimp -implicitDefEqProofs (disch := (first | assumption | omega | (simp only [nats_len, List.length_map, List.length_set, List.length_replicate, List.length_append, List.length_range, upto_len, els_len, List.length_cons, List.length_nil] <;> omega) | (apply isPure_intro <;> simp))) only [go_sem]
    first | refine callB_of (icmp_ret _ _ (by omega) (by omega)) (by simp) ?_ | refine callP_of (icmp_ret _ _ (by omega) (by omega)) (by simp) ?_
    simp -dsimp -implicitDefEqProofs (disch := (first | assumption | omega | (simp only [nats_len, List.length_map, List.length_set, List.length_replicate, List.length_append, List.length_range, upto_len, els_len, List.length_cons, List.length_nil] <;> omega) | (apply isPure_intro <;> simp))) only [go_sem]
    first | refine callB_of (c4) (by simp) ?_ | refine callP_of (c4) (by simp) ?_
    simp -dsimp -implicitDefEqProofs (disch := (first | assumption | omega | (simp only [nats_len, List.length_map, List.length_set, List.length_replicate, List.length_append, List.length_range, upto_len, els_len, List.length_cons, List.length_nil] <;> omega) | (apply isPure_intro <;> simp))) only [go_sem]
    generalize hH : Hp.upd _ 26 (some ⟨[IV top], 2⟩) = H0
    have b1 : H0 11 = some ⟨[QV (mirM rows n) (padL q n) c], 4⟩ := by rw [← hH]; rfl
    have b2 : H0 25 = some ⟨[IV d], 2⟩ := by rw [← hH]; rfl
    have b3 : H0 26 = some ⟨[IV top], 2⟩ := by rw [← hH]; rfl
    clear hH c1 c2 c3 c4
    refine W_loop (T := Nat × Nat) (fun t => ⟨E [(9, .bool true), (10, .ptr 11 1 0 0), (13, ivl nums), (14, .ptr 25 1 0 0), (15, .ptr 26 1 0 0), (20, .int .i64 (val * d - top).sign), (21, ivl ((List.range n).map (applyAt (mirM rows n) nums n))), (22, .int .i64 t.1)], H0, t.2, t.2⟩)
      (fun t => t.1 ≤ n ∧ 71 ≤ t.2) (fun t => n - t.1) (0, _) rfl ⟨by dsimp only; omega, by dsimp only; omega⟩ ?_
    rintro ⟨i, nx⟩ ⟨i1, i2⟩
    dsimp only at i1 i2
    by_cases hi : i < n
    · have v1 := range_getD (f := applyAt (mirM rows n) nums n) 0 hi
      rw [hA i hi] at v1
      have s1 := sQ i
      have s2 := lim_mul ((padL q n).getD i 0) d
      have hz : ((padL q n).getD i 0 * d - (padL q n).getD i 0 * d).sign = 0 := by rw [Int.sub_self]; rfl
      simp -dsimp -implicitDefEqProofs (disch := (first | assumption | omega | (simp only [nats_len, List.length_map, List.length_set, List.length_replicate, List.length_append, List.length_range, upto_len, els_len, List.length_cons, List.length_nil] <;> omega) | (apply isPure_intro <;> simp))) only [go_sem, hQl, v1, b1, b2]
      first | refine callB_of (mul_ret _ _ (by omega) (by omega)) (by simp) ?_ | refine callP_of (mul_ret _ _ (by omega) (by omega)) (by simp) ?_
      simp -dsimp -implicitDefEqProofs (disch := (first | assumption | omega | (simp only [nats_len, List.length_map, List.length_set, List.length_replicate, List.length_append, List.length_range, upto_len, els_len, List.length_cons, List.length_nil] <;> omega) | (apply isPure_intro <;> simp))) only [go_sem, hQl, v1, b1, b2]
      first | refine callB_of (icmp_ret _ _ (by omega) (by omega)) (by simp) ?_ | refine callP_of (icmp_ret _ _ (by omega) (by omega)) (by simp) ?_
      simp -dsimp -implicitDefEqProofs (disch := (first | assumption | omega | (simp only [nats_len, List.length_map, List.length_set, List.length_replicate, List.length_append, List.length_range, upto_len, els_len, List.length_cons, List.length_nil] <;> omega) | (apply isPure_intro <;> simp))) only [go_sem, hz]
      exact ⟨(i + 1, _), rfl, ⟨by dsimp only; omega, by dsimp only; omega⟩, by dsimp only; omega⟩
    · have hin : i = n := by omega
      rw [hin]
      clear hin hi i1 i
      have hn71 : 26 < nx + 6 := by omega
      simp -dsimp -implicitDefEqProofs (disch := (first | assumption | omega | (simp only [nats_len, List.length_map, List.length_set, List.length_replicate, List.length_append, List.length_range, upto_len, els_len, List.length_cons, List.length_nil] <;> omega) | (apply isPure_intro <;> simp))) only [go_sem, b2]
      first | refine callB_of (sign_ret _ (by omega)) (by simp) ?_ | refine callP_of (sign_ret _ (by omega)) (by simp) ?_
      simp -dsimp -implicitDefEqProofs (disch := (first | assumption | omega | (simp only [nats_len, List.length_map, List.length_set, List.length_replicate, List.length_append, List.length_range, upto_len, els_len, List.length_cons, List.length_nil] <;> omega) | (apply isPure_intro <;> simp))) only [go_sem, b1]
      first | refine callB_of (c5) (by simp) ?_ | refine callP_of (c5) (by simp) ?_
      simp -dsimp -implicitDefEqProofs (disch := (first | assumption | omega | (simp only [nats_len, List.length_map, List.length_set, List.length_replicate, List.length_append, List.length_range, upto_len, els_len, List.length_cons, List.length_nil] <;> omega) | (apply isPure_intro <;> simp))) only [go_sem, b1]
      have d1 : (H0.upd (nx + 11) (some ⟨[IV qq], 2⟩)) 11 = some ⟨[QV (mirM rows n) (padL q n) c], 4⟩ := by rw [Hp.upd_ne _ _ (by omega)]; exact b1
      have d2 : (H0.upd (nx + 11) (some ⟨[IV qq], 2⟩)) 25 = some ⟨[IV d], 2⟩ := by rw [Hp.upd_ne _ _ (by omega)]; exact b2
      have d3 : (H0.upd (nx + 11) (some ⟨[IV qq], 2⟩)) 26 = some ⟨[IV top], 2⟩ := by rw [Hp.upd_ne _ _ (by omega)]; exact b3
      have d4 : (H0.upd (nx + 11) (some ⟨[IV qq], 2⟩)) (nx + 11) = some ⟨[IV qq], 2⟩ := Hp.upd_same _ _ _
      have hbx : 26 < nx + 11 := by omega
      have hby : nx + 11 < nx + 14 := by omega
      generalize H0.upd (nx + 11) (some ⟨[IV qq], 2⟩) = H1 at d1 d2 d3 d4 ⊢
      generalize nx + 11 = bx at hbx hby d4 ⊢
      generalize nx + 14 = N at hby ⊢
      clear b1 b2 b3 H0
      have sU : ∀ i, lim (sumZ (fun k => 2 * (padL q n).getD k 0 * num k * d) i) ≤ 827500 + i := fun i => sumZ_lim fun k hk => by
        have h1 := lim_mul 2 ((padL q n).getD k 0)
        have h2 : lim 2 ≤ 1 := lim_of (by decide)
        have h3 := sQ k
        have h4 := lim_mul (2 * (padL q n).getD k 0) (num k)
        have h5 := sN k
        have h6 := lim_mul (2 * (padL q n).getD k 0 * num k) d
        omega
      refine W_loop (T := Nat × Hp × Nat) (fun t => ⟨E [(9, .bool true), (10, .ptr 11 1 0 0), (13, ivl nums), (14, .ptr 25 1 0 0), (15, .ptr 26 1 0 0), (20, .int .i64 (val * d - top).sign), (24, .int .i64 d.sign), (25, .ptr bx 1 0 0), (26, .int .i64 t.1)], t.2.1, t.2.2, t.2.2⟩)
        (fun t => t.1 ≤ n ∧ bx < t.2.2 ∧ t.2.1 11 = some ⟨[QV (mirM rows n) (padL q n) c], 4⟩ ∧ t.2.1 25 = some ⟨[IV d], 2⟩ ∧ t.2.1 26 = some ⟨[IV top], 2⟩ ∧ t.2.1 bx = some ⟨[IV (qq - sumZ (fun k => 2 * (padL q n).getD k 0 * num k * d) t.1)], 2⟩) (fun t => n - t.1) (0, H1, N) rfl ⟨by dsimp only; omega, hby, d1, d2, d3, by dsimp only; rw [d4]; simp [sumZ]⟩ ?_
      clear d1 d2 d3 d4 H1 hby N
      rintro ⟨i, H1, nx1⟩ ⟨i1, i2, d1, d2, d3, d4⟩
      dsimp only at i1 i2 d1 d2 d3 d4
      by_cases hi : i < n
      · have h1 := lim_mul 2 ((padL q n).getD i 0)
        have h2 : lim 2 ≤ 1 := lim_of (by decide)
        have h3 := sQ i
        have h4 := lim_mul (2 * (padL q n).getD i 0) (num i)
        have h5 := sN i
        have h6 := lim_mul (2 * (padL q n).getD i 0 * num i) d
        have h7 := sU i
        have h8 := lim_sub qq (sumZ (fun k => 2 * (padL q n).getD k 0 * num k * d) i)
        have h9 := hng i hi
        simp -dsimp -implicitDefEqProofs (disch := (first | assumption | omega | (simp only [nats_len, List.length_map, List.length_set, List.length_replicate, List.length_append, List.length_range, upto_len, els_len, List.length_cons, List.length_nil] <;> omega) | (apply isPure_intro <;> simp))) only [go_sem, d1, d4]
        first | refine callB_of (of_ret 2 (by decide)) (by simp) ?_ | refine callP_of (of_ret 2 (by decide)) (by simp) ?_
        simp -dsimp -implicitDefEqProofs (disch := (first | assumption | omega | (simp only [nats_len, List.length_map, List.length_set, List.length_replicate, List.length_append, List.length_range, upto_len, els_len, List.length_cons, List.length_nil] <;> omega) | (apply isPure_intro <;> simp))) only [go_sem, d1, hQl]
        first | refine callB_of (mul_ret _ _ (by omega) (by omega)) (by simp) ?_ | refine callP_of (mul_ret _ _ (by omega) (by omega)) (by simp) ?_
        simp -dsimp -implicitDefEqProofs (disch := (first | assumption | omega | (simp only [nats_len, List.length_map, List.length_set, List.length_replicate, List.length_append, List.length_range, upto_len, els_len, List.length_cons, List.length_nil] <;> omega) | (apply isPure_intro <;> simp))) only [go_sem, hnl, h9]
        first | refine callB_of (mul_ret _ _ (by omega) (by omega)) (by simp) ?_ | refine callP_of (mul_ret _ _ (by omega) (by omega)) (by simp) ?_
        simp -dsimp -implicitDefEqProofs (disch := (first | assumption | omega | (simp only [nats_len, List.length_map, List.length_set, List.length_replicate, List.length_append, List.length_range, upto_len, els_len, List.length_cons, List.length_nil] <;> omega) | (apply isPure_intro <;> simp))) only [go_sem, d2]
        first | refine callB_of (mul_ret _ _ (by omega) (by omega)) (by simp) ?_ | refine callP_of (mul_ret _ _ (by omega) (by omega)) (by simp) ?_
        simp -dsimp -implicitDefEqProofs (disch := (first | assumption | omega | (simp only [nats_len, List.length_map, List.length_set, List.length_replicate, List.length_append, List.length_range, upto_len, els_len, List.length_cons, List.length_nil] <;> omega) | (apply isPure_intro <;> simp))) only [go_sem]
        first | refine callB_of (sub_ret _ _ (by omega) (by omega)) (by simp) ?_ | refine callP_of (sub_ret _ _ (by omega) (by omega)) (by simp) ?_
        simp -dsimp -implicitDefEqProofs (disch := (first | assumption | omega | (simp only [nats_len, List.length_map, List.length_set, List.length_replicate, List.length_append, List.length_range, upto_len, els_len, List.length_cons, List.length_nil] <;> omega) | (apply isPure_intro <;> simp))) only [go_sem, d4]
        generalize hH2 : Hp.upd H1 bx _ = H2
        exact ⟨(i + 1, H2, _), rfl, ⟨by dsimp only; omega, by dsimp only; omega, upd_at_ne hH2 d1 (by omega), upd_at_ne hH2 d2 (by omega), upd_at_ne hH2 d3 (by omega), by dsimp only; rw [upd_at_same hH2, sumZ]; simp only [Option.some.injEq, Blk.mk.injEq, List.cons.injEq, and_true]; congr 1; omega⟩, by dsimp only; omega⟩
      · have hin : i = n := by omega
        rw [hin] at d4
        have h7 := sU n
        have h8 := lim_sub qq (sumZ (fun k => 2 * (padL q n).getD k 0 * num k * d) n)
        have h9 := lim_mul c d
        have h10 := lim_mul (c * d) d
        have h11 := lim_mul top d
        have z1 : (top * d - top * d).sign = 0 := by rw [Int.sub_self]; rfl
        simp -dsimp -implicitDefEqProofs (disch := (first | assumption | omega | (simp only [nats_len, List.length_map, List.length_set, List.length_replicate, List.length_append, List.length_range, upto_len, els_len, List.length_cons, List.length_nil] <;> omega) | (apply isPure_intro <;> simp))) only [go_sem, hnl, d1, d2, d4]
        first | refine callB_of (mul_ret _ _ (by omega) (by omega)) (by simp) ?_ | refine callP_of (mul_ret _ _ (by omega) (by omega)) (by simp) ?_
        simp -dsimp -implicitDefEqProofs (disch := (first | assumption | omega | (simp only [nats_len, List.length_map, List.length_set, List.length_replicate, List.length_append, List.length_range, upto_len, els_len, List.length_cons, List.length_nil] <;> omega) | (apply isPure_intro <;> simp))) only [go_sem, d2]
        first | refine callB_of (mul_ret _ _ (by omega) (by omega)) (by simp) ?_ | refine callP_of (mul_ret _ _ (by omega) (by omega)) (by simp) ?_
        simp -dsimp -implicitDefEqProofs (disch := (first | assumption | omega | (simp only [nats_len, List.length_map, List.length_set, List.length_replicate, List.length_append, List.length_range, upto_len, els_len, List.length_cons, List.length_nil] <;> omega) | (apply isPure_intro <;> simp))) only [go_sem, d4]
        first | refine callB_of (add_ret _ _ (by omega) (by omega)) (by simp) ?_ | refine callP_of (add_ret _ _ (by omega) (by omega)) (by simp) ?_
        rw [hth]
        have n1 : ¬ 26 = bx := by omega
        have n2 : ¬ 25 = bx := by omega
        simp -dsimp -implicitDefEqProofs (disch := (first | assumption | omega | (simp only [nats_len, List.length_map, List.length_set, List.length_replicate, List.length_append, List.length_range, upto_len, els_len, List.length_cons, List.length_nil] <;> omega) | (apply isPure_intro <;> simp))) only [go_sem, d2, d3, d4, n1, n2]
        first | refine callB_of (mul_ret _ _ (by omega) (by omega)) (by simp) ?_ | refine callP_of (mul_ret _ _ (by omega) (by omega)) (by simp) ?_
        simp -dsimp -implicitDefEqProofs (disch := (first | assumption | omega | (simp only [nats_len, List.length_map, List.length_set, List.length_replicate, List.length_append, List.length_range, upto_len, els_len, List.length_cons, List.length_nil] <;> omega) | (apply isPure_intro <;> simp))) only [go_sem]
        first | refine callB_of (icmp_ret _ _ (by omega) (by omega)) (by simp) ?_ | refine callP_of (icmp_ret _ _ (by omega) (by omega)) (by simp) ?_
        simp -dsimp -implicitDefEqProofs (disch := (first | assumption | omega | (simp only [nats_len, List.length_map, List.length_set, List.length_replicate, List.length_append, List.length_range, upto_len, els_len, List.length_cons, List.length_nil] <;> omega) | (apply isPure_intro <;> simp))) only [go_sem, z1, hs1, hsg]
  · have hdf' : defS n (at2 (mirM rows n)) = false := by simpa using hdf
    rw [if_neg hdf] at c1
    rw [hdf'] at c2
    simp -dsimp -implicitDefEqProofs (disch := (first | assumption | omega | (simp only [nats_len, List.length_map, List.length_set, List.length_replicate, List.length_append, List.length_range, upto_len, els_len, List.length_cons, List.length_nil] <;> omega) | (apply isPure_intro <;> simp))) only [go_sem]
    first | refine callB_of (c1) (by simp) ?_ | refine callP_of (c1) (by simp) ?_
    simp -dsimp -implicitDefEqProofs (disch := (first | assumption | omega | (simp only [nats_len, List.length_map, List.length_set, List.length_replicate, List.length_append, List.length_range, upto_len, els_len, List.length_cons, List.length_nil] <;> omega) | (apply isPure_intro <;> simp))) only [go_sem]
    first | refine callB_of (c2) (by simp) ?_ | refine callP_of (c2) (by simp) ?_
    simp -dsimp -implicitDefEqProofs (disch := (first | assumption | omega | (simp only [nats_len, List.length_map, List.length_set, List.length_replicate, List.length_append, List.length_range, upto_len, els_len, List.length_cons, List.length_nil] <;> omega) | (apply isPure_intro <;> simp))) only [go_sem]
end Go.Gim

import Derived.Test.YtmfenpedpajfkaaQL3
import Derived.Test.YtmfenpedpajfkaaQP2
/- The least value; what is left out is at its least; left out twice. -/
set_option maxRecDepth 100000
set_option maxHeartbeats 4000000
set_option linter.unusedSimpArgs false
set_option linter.unusedVariables false
namespace Go.Gim
open Go.Proofs
theorem min_nat (a : Nat) (m : Nat) : ∃ n, min a m = n ∧ n ≤ m := ⟨min a m, rfl, Nat.min_le_right _ _⟩
theorem mir_sm {rows : List (List Int)} (h : ∀ r ∈ rows, ∀ v ∈ r, In64 v) (n : Nat) : ∀ i j, lim (at2 (mirM rows n) i j) ≤ 2 := Sq.sm (mirM_in h n)
end Go.Gim
/- What is left out twice is left out at once. -/
set_option maxRecDepth 100000
set_option maxHeartbeats 4000000
set_option linter.unusedSimpArgs false
set_option linter.unusedVariables false
namespace Go.Gim
open Go.Proofs
theorem pow_le6 {k : Nat} (h : k ≤ 6) (L : Nat) : 2 ^ k * (L + 1) ≤ 64 * (L + 1) := Nat.mul_le_mul_right _ (Nat.pow_le_pow_right (by decide) h)
theorem qoutV_congr {n k : Nat} {P P' : Mx} {q q' : Nat → Int} {c : Int} (hk : k ≤ n) (h : ∀ i j, i < n → j < n → P i j = P' i j) (hq : ∀ i, i < n → q i = q' i) : qoutV n k P q c = qoutV n k P' q' c := by
  have hd : det k P = det k P' := det_congr fun i j hi hj => h i j (by omega) (by omega)
  have hn : ∀ (f g : Nat → Int), (∀ i, i < k → f i = g i) → ∀ i, numF k P f i = numF k P' g i := fun f g hf i => numF_congr (fun a b ha hb => h a b (by omega) (by omega)) hf i
  unfold qoutV
  rw [defS_congr (n := k) fun i j hi hj => h i j (by omega) (by omega), hd]
  have e1 : mat (n - k) (gP k P) = mat (n - k) (gP k P') := mat_congr fun i j hi hj => by
    unfold gP
    rw [h _ _ (by omega) (by omega), hd]
    congr 1
    exact sumZ_congr fun c hc => by rw [hn _ (P' (k + i)) (fun a ha => h _ _ (by omega) (by omega)), h _ _ (by omega) (by omega)]
  have e2 : rowF (n - k) (gQ k P q) = rowF (n - k) (gQ k P' q') := rowF_congr fun i hi => by
    unfold gQ
    rw [hq _ (by omega), hd]
    congr 1
    exact sumZ_congr fun c hc => by rw [hn q q' (fun a ha => hq a (by omega)), h _ _ (by omega) (by omega)]
  have e3 : gC k P q c = gC k P' q' c := by
    unfold gC
    rw [hd]
    congr 1
    exact sumZ_congr fun a ha => by rw [hn q q' (fun a ha => hq a (by omega)), hq a (by omega)]
  rw [e1, e2, e3]
theorem QuadTwice_true (rows : List (List Int)) (q : List Int) (c : Int) (l : List Int) (m k : Int) (hl : rows.length ≤ 9223372036854775807) (hr : ∀ r ∈ rows, r.length ≤ 9223372036854775807 ∧ ∀ v ∈ r, In64 v) (hql : q.length ≤ 9223372036854775807) (hq : ∀ v ∈ q, In64 v) (hc : In64 c) (hll : l.length ≤ 9223372036854775807) (hlv : ∀ v ∈ l, In64 v) (hm : In64 m) (hk : In64 k) :
    Ret pg n_gimballaw08_QuadTwice [.sl (rows.map ints), ints q, .int .i64 c, ints l, .int .i64 m, .int .i64 k] (.bool true) := by
  obtain ⟨n, hmn, hn6⟩ := min_nat rows.length 6
  have g1 := read8_ret rows q c 6 n hmn (by decide) hl hr hq hc
  have hsy := mir_sym rows n
  have hsq := mirM_sq rows n
  have hml := hsq.1
  have sP := mir_sm (fun r h => (hr r h).2) n
  have sQ := pad_lim hq n
  have hQl := padL_len q n
  have sc : lim c ≤ 2 := lim_i64 hc
  refine gimballaw08_QuadTwice.of rfl (W_b ?_)
  unfold gimballaw08_QuadTwice.k gimballaw08_QuadTwice.res
  simp -dsimp -implicitDefEqProofs (disch := (first | assumption | omega | (simp only [nats_len, List.length_map, List.length_set, List.length_replicate, List.length_append, List.length_range, upto_len, els_len, List.length_cons, List.length_nil] <;> omega) | (apply isPure_intro <;> simp))) only [go_sem]
  first | refine callB_of (awake08_ret) (by simp) ?_ | refine callP_of (awake08_ret) (by simp) ?_
  simp -dsimp -implicitDefEqProofs (disch := (first | assumption | omega | (simp only [nats_len, List.length_map, List.length_set, List.length_replicate, List.length_append, List.length_range, upto_len, els_len, List.length_cons, List.length_nil] <;> omega) | (apply isPure_intro <;> simp))) only [go_sem]
  first | refine callB_of (g1) (by simp) ?_ | refine callP_of (g1) (by simp) ?_
  by_cases h0 : m < 0
  · simp -dsimp -implicitDefEqProofs (disch := (first | assumption | omega | (simp only [nats_len, List.length_map, List.length_set, List.length_replicate, List.length_append, List.length_range, upto_len, els_len, List.length_cons, List.length_nil] <;> omega) | (apply isPure_intro <;> simp))) only [go_sem, hml]
  by_cases h1 : k < 0
  · simp -dsimp -implicitDefEqProofs (disch := (first | assumption | omega | (simp only [nats_len, List.length_map, List.length_set, List.length_replicate, List.length_append, List.length_range, upto_len, els_len, List.length_cons, List.length_nil] <;> omega) | (apply isPure_intro <;> simp))) only [go_sem, hml]
  by_cases h2 : (n : Int) < m
  · simp -dsimp -implicitDefEqProofs (disch := (first | assumption | omega | (simp only [nats_len, List.length_map, List.length_set, List.length_replicate, List.length_append, List.length_range, upto_len, els_len, List.length_cons, List.length_nil] <;> omega) | (apply isPure_intro <;> simp))) only [go_sem, hml]
  by_cases h3 : (n : Int) - m < k
  · simp -dsimp -implicitDefEqProofs (disch := (first | assumption | omega | (simp only [nats_len, List.length_map, List.length_set, List.length_replicate, List.length_append, List.length_range, upto_len, els_len, List.length_cons, List.length_nil] <;> omega) | (apply isPure_intro <;> simp))) only [go_sem, hml]
  obtain ⟨m, rfl⟩ : ∃ a : Nat, m = a := ⟨m.toNat, by omega⟩
  obtain ⟨k, rfl⟩ : ∃ a : Nat, k = a := ⟨k.toNat, by omega⟩
  have hmk : m + k ≤ n := by omega
  have hB := pow_le6 (show m ≤ 6 by omega) 2
  have hB3 := pow_le6 (show m + k ≤ 6 by omega) 2
  have hB2 := pow_le6 (show k ≤ 6 by omega) 400
  have c1 := qwithout_ret (mirM rows n) (padL q n) c n m 2 (by omega) (by omega) (by omega) (by omega) hsq hQl sP sQ sc
  have c3 := qwithout_ret (mirM rows n) (padL q n) c n (m + k) 2 (by omega) hmk (by omega) (by omega) hsq hQl sP sQ sc
  unfold qoutV at c1 c3
  by_cases hdf : defS m (at2 (mirM rows n)) = true
  · have hd0 := defS_det hdf
    rw [if_pos hdf] at c1
    have hG := g_lim (k := m) (L := 2) (D := 192) (q := fun i => (padL q n).getD i 0) (c := c) (by omega) sP sQ sc
    have sG : ∀ i j, lim (at2 (mat (n - m) (gP m (at2 (mirM rows n)))) i j) ≤ 400 := lim_at_mat fun i j => by have := hG.1 i j; omega
    have sGQ : ∀ i, lim ((rowF (n - m) (gQ m (at2 (mirM rows n)) fun i => (padL q n).getD i 0)).getD i 0) ≤ 400 := fun i => by have := rng_lim (n := n - m) hG.2.1 i; unfold rowF; omega
    have c2 := qwithout_ret (mat (n - m) (gP m (at2 (mirM rows n)))) (rowF (n - m) (gQ m (at2 (mirM rows n)) fun i => (padL q n).getD i 0)) (gC m (at2 (mirM rows n)) (fun i => (padL q n).getD i 0) c) (n - m) k 400 (by omega) (by omega) (by omega) (by omega) (mat_sq _ _) (rowF_len _ _) sG sGQ (by have := hG.2.2; omega)
    rw [qoutV_congr (P' := gP m (at2 (mirM rows n))) (q' := gQ m (at2 (mirM rows n)) fun i => (padL q n).getD i 0) (by omega) (fun i j hi hj => mat_at hi hj) (fun i hi => rowF_get hi)] at c2
    unfold qoutV at c2
    rw [twice_def hmk hsy hdf] at c2
    by_cases hd2 : defS (m + k) (at2 (mirM rows n)) = true
    · have hd02 := defS_det hd2
      rw [if_pos hd2] at c2 c3
      have htw := twice_val hmk hsy (show det (m + k) (at2 (mirM rows n)) ≠ 0 by omega) (fun i => (padL q n).getD i 0) c fun i => (padL l (n - m - k)).getD i 0
      have hXl := padL_len l (n - m - k)
      have sX := pad_lim hlv (n - m - k)
      have hE : n - (m + k) = n - m - k := by omega
      have sP' : ∀ i j, lim (gP m (at2 (mirM rows n)) i j) ≤ 400 := fun i j => by have := hG.1 i j; omega
      have hG2 := g_lim (k := k) (L := 400) (D := 25664) (M := gP m (at2 (mirM rows n))) (q := gQ m (at2 (mirM rows n)) fun i => (padL q n).getD i 0) (c := gC m (at2 (mirM rows n)) (fun i => (padL q n).getD i 0) c) (by omega) sP' (fun i => by have := hG.2.1 i; omega) (by have := hG.2.2; omega)
      have hG3 := g_lim (k := m + k) (L := 2) (D := 192) (q := fun i => (padL q n).getD i 0) (c := c) (by omega) sP sQ sc
      have c4 := qvalue_ret (mat (n - m - k) (gP k (gP m (at2 (mirM rows n))))) (rowF (n - m - k) (gQ k (gP m (at2 (mirM rows n))) (gQ m (at2 (mirM rows n)) fun i => (padL q n).getD i 0))) (padL l (n - m - k)) (gC k (gP m (at2 (mirM rows n))) (gQ m (at2 (mirM rows n)) fun i => (padL q n).getD i 0) (gC m (at2 (mirM rows n)) (fun i => (padL q n).getD i 0) c)) (n - m - k) (by omega) (mat_sq _ _) (rowF_len _ _) hXl
        (lim_at_mat fun i j => by have := hG2.1 i j; omega) (fun i => by have := rng_lim (n := n - m - k) hG2.2.1 i; unfold rowF; omega) (by have := hG2.2.2; omega) (fun i => by have := sX i; omega)
      rw [qval_g (n := n - m) (n - m - k) rfl] at c4
      have c5 := qvalue_ret (mat (n - m - k) (gP (m + k) (at2 (mirM rows n)))) (rowF (n - m - k) (gQ (m + k) (at2 (mirM rows n)) fun i => (padL q n).getD i 0)) (padL l (n - m - k)) (gC (m + k) (at2 (mirM rows n)) (fun i => (padL q n).getD i 0) c) (n - m - k) (by omega) (mat_sq _ _) (rowF_len _ _) hXl
        (lim_at_mat fun i j => by have := hG3.1 i j; omega) (fun i => by have := rng_lim (n := n - m - k) hG3.2.1 i; unfold rowF; omega) (by have := hG3.2.2; omega) (fun i => by have := sX i; omega)
      rw [qval_g (n := n) (n - m - k) (by omega)] at c5
      have sV4 := val_lim (n := n - m - k) (A := 400 + 25664 + k + 1) (B := 2) (x := fun i => (padL l (n - m - k)).getD i 0) (fun i j _ _ => hG2.1 i j) (fun i _ => hG2.2.1 i) hG2.2.2 (fun i _ => sX i)
      have sV5 := val_lim (n := n - m - k) (A := 2 + 192 + (m + k) + 1) (B := 2) (x := fun i => (padL l (n - m - k)).getD i 0) (fun i j _ _ => hG3.1 i j) (fun i _ => hG3.2.1 i) hG3.2.2 (fun i _ => sX i)
      rw [hE] at htw c3
      have sD1 := det_pw (n := m) sP
      have sD2 := det_pw (n := k) sP'
      have sD3 := det_pw (n := m + k) sP
      generalize valF (n - m - k) (gP k (gP m (at2 (mirM rows n)))) (gQ k (gP m (at2 (mirM rows n))) (gQ m (at2 (mirM rows n)) fun i => (padL q n).getD i 0)) (gC k (gP m (at2 (mirM rows n))) (gQ m (at2 (mirM rows n)) fun i => (padL q n).getD i 0) (gC m (at2 (mirM rows n)) (fun i => (padL q n).getD i 0) c)) (fun i => (padL l (n - m - k)).getD i 0) = v4 at *
      generalize valF (n - m - k) (gP (m + k) (at2 (mirM rows n))) (gQ (m + k) (at2 (mirM rows n)) fun i => (padL q n).getD i 0) (gC (m + k) (at2 (mirM rows n)) (fun i => (padL q n).getD i 0) c) (fun i => (padL l (n - m - k)).getD i 0) = v5 at *
      generalize det m (at2 (mirM rows n)) = d1 at *
      generalize det k (gP m (at2 (mirM rows n))) = d2 at *
      generalize det (m + k) (at2 (mirM rows n)) = d3 at *
      have m1 := lim_mul v4 d3
      have m2 := lim_mul v5 d1
      have m3 := lim_mul (v5 * d1) d2
      have z1 : (v4 * d3 - v5 * d1 * d2).sign = 0 := by rw [htw, Int.sub_self]; rfl
      have hnmk : ((n : Int) - m - k) = ((n - m - k : Nat) : Int) := by omega
      have hmk2 : ((m : Int) + k) = ((m + k : Nat) : Int) := by omega
      simp -dsimp -implicitDefEqProofs (disch := (first | assumption | omega | (simp only [nats_len, List.length_map, List.length_set, List.length_replicate, List.length_append, List.length_range, upto_len, els_len, List.length_cons, List.length_nil] <;> omega) | (apply isPure_intro <;> simp))) only [go_sem, hml]
      first | refine callB_of (c1) (by simp) ?_ | refine callP_of (c1) (by simp) ?_
      simp -dsimp -implicitDefEqProofs (disch := (first | assumption | omega | (simp only [nats_len, List.length_map, List.length_set, List.length_replicate, List.length_append, List.length_range, upto_len, els_len, List.length_cons, List.length_nil] <;> omega) | (apply isPure_intro <;> simp))) only [go_sem, hml]
      first | refine callB_of (c2) (by simp) ?_ | refine callP_of (c2) (by simp) ?_
      simp -dsimp -implicitDefEqProofs (disch := (first | assumption | omega | (simp only [nats_len, List.length_map, List.length_set, List.length_replicate, List.length_append, List.length_range, upto_len, els_len, List.length_cons, List.length_nil] <;> omega) | (apply isPure_intro <;> simp))) only [go_sem, hmk2]
      first | refine callB_of (c3) (by simp) ?_ | refine callP_of (c3) (by simp) ?_
      simp -dsimp -implicitDefEqProofs (disch := (first | assumption | omega | (simp only [nats_len, List.length_map, List.length_set, List.length_replicate, List.length_append, List.length_range, upto_len, els_len, List.length_cons, List.length_nil] <;> omega) | (apply isPure_intro <;> simp))) only [go_sem, hml, hnmk]
      first | refine callB_of (list8_ret l (n - m - k) (by omega) hlv) (by simp) ?_ | refine callP_of (list8_ret l (n - m - k) (by omega) hlv) (by simp) ?_
      simp -dsimp -implicitDefEqProofs (disch := (first | assumption | omega | (simp only [nats_len, List.length_map, List.length_set, List.length_replicate, List.length_append, List.length_range, upto_len, els_len, List.length_cons, List.length_nil] <;> omega) | (apply isPure_intro <;> simp))) only [go_sem]
      first | refine callB_of (c4) (by simp) ?_ | refine callP_of (c4) (by simp) ?_
      simp -dsimp -implicitDefEqProofs (disch := (first | assumption | omega | (simp only [nats_len, List.length_map, List.length_set, List.length_replicate, List.length_append, List.length_range, upto_len, els_len, List.length_cons, List.length_nil] <;> omega) | (apply isPure_intro <;> simp))) only [go_sem]
      first | refine callB_of (mul_ret _ _ (by omega) (by omega)) (by simp) ?_ | refine callP_of (mul_ret _ _ (by omega) (by omega)) (by simp) ?_
      simp -dsimp -implicitDefEqProofs (disch := (first | assumption | omega | (simp only [nats_len, List.length_map, List.length_set, List.length_replicate, List.length_append, List.length_range, upto_len, els_len, List.length_cons, List.length_nil] <;> omega) | (apply isPure_intro <;> simp))) only [go_sem]
      first | refine callB_of (c5) (by simp) ?_ | refine callP_of (c5) (by simp) ?_
      simp -dsimp -implicitDefEqProofs (disch := (first | assumption | omega | (simp only [nats_len, List.length_map, List.length_set, List.length_replicate, List.length_append, List.length_range, upto_len, els_len, List.length_cons, List.length_nil] <;> omega) | (apply isPure_intro <;> simp))) only [go_sem]
      first | refine callB_of (mul_ret _ _ (by omega) (by omega)) (by simp) ?_ | refine callP_of (mul_ret _ _ (by omega) (by omega)) (by simp) ?_
      simp -dsimp -implicitDefEqProofs (disch := (first | assumption | omega | (simp only [nats_len, List.length_map, List.length_set, List.length_replicate, List.length_append, List.length_range, upto_len, els_len, List.length_cons, List.length_nil] <;> omega) | (apply isPure_intro <;> simp))) only [go_sem]
      first | refine callB_of (mul_ret _ _ (by omega) (by omega)) (by simp) ?_ | refine callP_of (mul_ret _ _ (by omega) (by omega)) (by simp) ?_
      simp -dsimp -implicitDefEqProofs (disch := (first | assumption | omega | (simp only [nats_len, List.length_map, List.length_set, List.length_replicate, List.length_append, List.length_range, upto_len, els_len, List.length_cons, List.length_nil] <;> omega) | (apply isPure_intro <;> simp))) only [go_sem]
      first | refine callB_of (icmp_ret _ _ (by omega) (by omega)) (by simp) ?_ | refine callP_of (icmp_ret _ _ (by omega) (by omega)) (by simp) ?_
      simp -dsimp -implicitDefEqProofs (disch := (first | assumption | omega | (simp only [nats_len, List.length_map, List.length_set, List.length_replicate, List.length_append, List.length_range, upto_len, els_len, List.length_cons, List.length_nil] <;> omega) | (apply isPure_intro <;> simp))) only [go_sem, z1]
    · rw [if_neg hd2] at c2 c3
      have hmk2 : ((m : Int) + k) = ((m + k : Nat) : Int) := by omega
      simp -dsimp -implicitDefEqProofs (disch := (first | assumption | omega | (simp only [nats_len, List.length_map, List.length_set, List.length_replicate, List.length_append, List.length_range, upto_len, els_len, List.length_cons, List.length_nil] <;> omega) | (apply isPure_intro <;> simp))) only [go_sem, hml]
      first | refine callB_of (c1) (by simp) ?_ | refine callP_of (c1) (by simp) ?_
      simp -dsimp -implicitDefEqProofs (disch := (first | assumption | omega | (simp only [nats_len, List.length_map, List.length_set, List.length_replicate, List.length_append, List.length_range, upto_len, els_len, List.length_cons, List.length_nil] <;> omega) | (apply isPure_intro <;> simp))) only [go_sem, hml]
      first | refine callB_of (c2) (by simp) ?_ | refine callP_of (c2) (by simp) ?_
      simp -dsimp -implicitDefEqProofs (disch := (first | assumption | omega | (simp only [nats_len, List.length_map, List.length_set, List.length_replicate, List.length_append, List.length_range, upto_len, els_len, List.length_cons, List.length_nil] <;> omega) | (apply isPure_intro <;> simp))) only [go_sem, hmk2]
      first | refine callB_of (c3) (by simp) ?_ | refine callP_of (c3) (by simp) ?_
      simp -dsimp -implicitDefEqProofs (disch := (first | assumption | omega | (simp only [nats_len, List.length_map, List.length_set, List.length_replicate, List.length_append, List.length_range, upto_len, els_len, List.length_cons, List.length_nil] <;> omega) | (apply isPure_intro <;> simp))) only [go_sem]
  · rw [if_neg hdf] at c1
    simp -dsimp -implicitDefEqProofs (disch := (first | assumption | omega | (simp only [nats_len, List.length_map, List.length_set, List.length_replicate, List.length_append, List.length_range, upto_len, els_len, List.length_cons, List.length_nil] <;> omega) | (apply isPure_intro <;> simp))) only [go_sem, hml]
    first | refine callB_of (c1) (by simp) ?_ | refine callP_of (c1) (by simp) ?_
    simp -dsimp -implicitDefEqProofs (disch := (first | assumption | omega | (simp only [nats_len, List.length_map, List.length_set, List.length_replicate, List.length_append, List.length_range, upto_len, els_len, List.length_cons, List.length_nil] <;> omega) | (apply isPure_intro <;> simp))) only [go_sem]
end Go.Gim

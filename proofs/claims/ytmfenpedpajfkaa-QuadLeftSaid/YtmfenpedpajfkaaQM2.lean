import Derived.Test.YtmfenpedpajfkaaQL3
import Derived.Test.YtmfenpedpajfkaaQP2
/- The least value; what is left out is at its least; left out twice. -/
set_option maxRecDepth 100000
set_option maxHeartbeats 4000000
set_option linter.unusedSimpArgs false
set_option linter.unusedVariables false
namespace Go.Gim
open Go.Proofs
theorem min_nat (a : Nat) (m : Nat) : ∃ n, min a m = n ∧ n ≤ m := ⟨min a m, rfl, Nat.min_le_right _ _⟩
theorem sign_ge {a : Int} (h : 0 ≤ a) : 0 ≤ a.sign := by
  rcases Int.lt_trichotomy a 0 with h1 | h1 | h1
  · omega
  · rw [h1]; decide
  · rw [Int.sign_eq_one_of_pos h1]; decide
theorem mir_sm {rows : List (List Int)} (h : ∀ r ∈ rows, ∀ v ∈ r, In64 v) (n : Nat) : ∀ i j, lim (at2 (mirM rows n) i j) ≤ 2 := Sq.sm (mirM_in h n)
end Go.Gim
/- What is left out is at its least; left out twice is left out at once. -/
set_option maxRecDepth 100000
set_option maxHeartbeats 4000000
set_option linter.unusedSimpArgs false
set_option linter.unusedVariables false
namespace Go.Gim
open Go.Proofs
theorem pow_le7 {k : Nat} (h : k ≤ 7) (L : Nat) : 2 ^ k * (L + 1) ≤ 128 * (L + 1) := Nat.mul_le_mul_right _ (Nat.pow_le_pow_right (by decide) h)
theorem slc_fromI {l : List Int} {k : Nat} {ki : IntKind} (h : k ≤ l.length) : redV (.slc 2 true false false) [ivl l, .int ki (k : Int)] = some (ivl (l.drop k)) := by
  rw [ivl_eq, slc_from (by simp [IV, V.cells]) (by omega) (by rw [List.length_map]; omega) (by decide), Int.toNat_natCast, ← List.map_drop]; rfl
theorem drop_get (l : List Int) (k j : Nat) : (l.drop k).getD j 0 = l.getD (k + j) 0 := by simp [List.getD_eq_getElem?_getD, List.getElem?_drop]
theorem with_rest {n k : Nat} {P : List (List Int)} {Q : List Int} {y : Nat → Int} {X : List Int} (hk : k ≤ n) (hX : ∀ i, i < n → X.getD i 0 = if i < k then 0 else y (i - k)) {i : Nat} : (applyAt P X n i - Q.getD i 0) * -1 = restQ k (n - k) (at2 P) (fun i => Q.getD i 0) y i := by
  obtain ⟨m, rfl⟩ : ∃ m, n = k + m := ⟨n - k, by omega⟩
  rw [applyAt_eq]
  unfold restQ appS
  rw [sumZ_split, sg_zero fun c hc => by dsimp only; rw [hX c (by omega), if_pos hc]; simp, show k + m - k = m by omega, sumZ_congr (f := fun j => at2 P i (k + j) * X.getD (k + j) 0) (g := fun j => at2 P i (k + j) * y j) fun j hj => by rw [hX (k + j) (by omega), if_neg (by omega)]; congr 2; omega]
  dsimp only
  omega
theorem QuadLeft_true (rows : List (List Int)) (q : List Int) (c : Int) (l : List Int) (k : Int) (hl : rows.length ≤ 9223372036854775807) (hr : ∀ r ∈ rows, r.length ≤ 9223372036854775807 ∧ ∀ v ∈ r, In64 v) (hql : q.length ≤ 9223372036854775807) (hq : ∀ v ∈ q, In64 v) (hc : In64 c) (hll : l.length ≤ 9223372036854775807) (hlv : ∀ v ∈ l, In64 v) (hk : In64 k) :
    Ret pg n_gimballaw08_QuadLeft [.sl (rows.map ints), ints q, .int .i64 c, ints l, .int .i64 k] (.bool true) := by
  obtain ⟨n, hmn, hn7⟩ := min_nat rows.length 7
  have g1 := read8_ret rows q c 7 n hmn (by decide) hl hr hq hc
  have hsy := mir_sym rows n
  have hsq := mirM_sq rows n
  have hml := hsq.1
  have sP := mir_sm (fun r h => (hr r h).2) n
  have sQ := pad_lim hq n
  have sX := pad_lim hlv n
  have hQl := padL_len q n
  have hXl := padL_len l n
  have sc : lim c ≤ 2 := lim_i64 hc
  refine gimballaw08_QuadLeft.of rfl (W_b ?_)
  unfold gimballaw08_QuadLeft.k gimballaw08_QuadLeft.res
  simp -dsimp -implicitDefEqProofs (disch := (first | assumption | omega | (simp only [nats_len, List.length_map, List.length_set, List.length_replicate, List.length_append, List.length_range, upto_len, els_len, List.length_cons, List.length_nil] <;> omega) | (apply isPure_intro <;> simp))) only [go_sem]
  first | refine callB_of (awake08_ret) (by simp) ?_ | refine callP_of (awake08_ret) (by simp) ?_
  simp -dsimp -implicitDefEqProofs (disch := (first | assumption | omega | (simp only [nats_len, List.length_map, List.length_set, List.length_replicate, List.length_append, List.length_range, upto_len, els_len, List.length_cons, List.length_nil] <;> omega) | (apply isPure_intro <;> simp))) only [go_sem]
  first | refine callB_of (g1) (by simp) ?_ | refine callP_of (g1) (by simp) ?_
  by_cases h0 : k < 0
  · simp -dsimp -implicitDefEqProofs (disch := (first | assumption | omega | (simp only [nats_len, List.length_map, List.length_set, List.length_replicate, List.length_append, List.length_range, upto_len, els_len, List.length_cons, List.length_nil] <;> omega) | (apply isPure_intro <;> simp))) only [go_sem, hml]
  by_cases h1 : (n : Int) < k
  · simp -dsimp -implicitDefEqProofs (disch := (first | assumption | omega | (simp only [nats_len, List.length_map, List.length_set, List.length_replicate, List.length_append, List.length_range, upto_len, els_len, List.length_cons, List.length_nil] <;> omega) | (apply isPure_intro <;> simp))) only [go_sem, hml]
  obtain ⟨k, rfl⟩ : ∃ m : Nat, k = m := ⟨k.toNat, by omega⟩
  have hkn : k ≤ n := by omega
  have hB := pow_le7 (show k ≤ 7 by omega) 2
  have c1 := qwithout_ret (mirM rows n) (padL q n) c n k 2 (by omega) hkn (by omega) (by omega) hsq hQl sP sQ sc
  unfold qoutV at c1
  by_cases hdf : defS k (at2 (mirM rows n)) = true
  · have hd0 := defS_det hdf
    rw [if_pos hdf] at c1
    have hmy : (l : List Int) → (padL l n).drop k = (padL l n).drop k := fun _ => rfl
    have hyl : ((padL l n).drop k).length = n - k := by rw [List.length_drop, hXl]
    have sy : ∀ i, lim (((padL l n).drop k).getD i 0) ≤ 2 := fun i => by rw [drop_get]; exact sX _
    have c2 := qwith_ret (mirM rows n) (padL q n) c ((padL l n).drop k) n k (n - k) (by omega) (by omega) hsq hQl hyl (fun i j => by have := sP i j; omega) (fun i => by have := sQ i; omega) (by omega) (fun i => by have := sy i; omega)
    have hX0 : ∀ i, i < n → (rowF n fun i => if i < k then 0 else ((padL l n).drop k).getD (i - k) 0).getD i 0 = if i < k then 0 else (fun j => ((padL l n).drop k).getD j 0) (i - k) := fun i hi => rowF_get hi
    have eR : (rowF k fun i => (applyAt (mirM rows n) (rowF n fun i => if i < k then 0 else ((padL l n).drop k).getD (i - k) 0) n i - (padL q n).getD i 0) * -1) = rowF k (restQ k (n - k) (at2 (mirM rows n)) (fun i => (padL q n).getD i 0) fun j => ((padL l n).drop k).getD j 0) := rowF_congr fun i hi => with_rest hkn hX0
    have eV : qval (mirM rows n) (padL q n) c (rowF n fun i => if i < k then 0 else ((padL l n).drop k).getD (i - k) 0) = valF n (at2 (mirM rows n)) (fun i => (padL q n).getD i 0) c (fun i => if i < k then 0 else (fun j => ((padL l n).drop k).getD j 0) (i - k)) := by
      rw [qval_val hsq hQl]; exact valF_congr (fun _ _ _ _ => rfl) (fun _ _ => rfl) hX0
    rw [eR, eV] at c2
    have htop := without_top hkn hsy (show det k (at2 (mirM rows n)) ≠ 0 by omega) (fun i => (padL q n).getD i 0) c fun j => ((padL l n).drop k).getD j 0
    have hle := without_least hkn hsy hdf (fun i => (padL q n).getD i 0) c fun i => (padL l n).getD i 0
    have hfun : (fun j => (fun i => (padL l n).getD i 0) (k + j)) = fun j => ((padL l n).drop k).getD j 0 := by funext j; rw [drop_get]
    rw [hfun] at hle
    have sR : ∀ i, lim (restQ k (n - k) (at2 (mirM rows n)) (fun i => (padL q n).getD i 0) (fun j => ((padL l n).drop k).getD j 0) i) ≤ 12 := fun i => by
      have h1 : lim (sumZ (fun j => at2 (mirM rows n) i (k + j) * ((padL l n).drop k).getD j 0) (n - k)) ≤ 4 + (n - k) := sumZ_lim fun j hj => by
        have := lim_mul (at2 (mirM rows n) i (k + j)) (((padL l n).drop k).getD j 0)
        have := sP i (k + j)
        have := sy j
        omega
      have h2 := lim_sub ((padL q n).getD i 0) (sumZ (fun j => at2 (mirM rows n) i (k + j) * ((padL l n).drop k).getD j 0) (n - k))
      have h3 := sQ i
      unfold restQ; dsimp only; omega
    have sV0 := val_lim (n := n) (P := at2 (mirM rows n)) (q := fun i => (padL q n).getD i 0) (x := fun i => if i < k then 0 else (fun j => ((padL l n).drop k).getD j 0) (i - k)) (c := c) (A := 2) (B := 2) (fun i j _ _ => sP i j) (fun i _ => sQ i) sc (fun i _ => by dsimp only; split; rw [lim_zero]; omega; exact sy _)
    have sV1 := val_lim (n := n) (P := at2 (mirM rows n)) (q := fun i => (padL q n).getD i 0) (x := fun i => (padL l n).getD i 0) (c := c) (A := 2) (B := 2) (fun i j _ _ => sP i j) (fun i _ => sQ i) sc (fun i _ => sX i)
    have sM : ∀ i j, lim (at2 (mat k (at2 (mirM rows n))) i j) ≤ 2 := lim_at_mat sP
    have hAt : ∀ i j, i < k → j < k → at2 (mat k (at2 (mirM rows n))) i j = at2 (mirM rows n) i j := fun i j hi hj => mat_at hi hj
    generalize hrr : restQ k (n - k) (at2 (mirM rows n)) (fun i => (padL q n).getD i 0) (fun j => ((padL l n).drop k).getD j 0) = rest at *
    have c3 := qleast_ret (mat k (at2 (mirM rows n))) (rowF k rest) (valF n (at2 (mirM rows n)) (fun i => (padL q n).getD i 0) c (fun i => if i < k then 0 else (fun j => ((padL l n).drop k).getD j 0) (i - k))) k 50 (by omega) (by omega) (mat_sq _ _) (rowF_len _ _) (fun i j => by have := sM i j; omega) (fun i => by have := rng_lim (n := k) sR i; unfold rowF; omega) (by omega)
    rw [if_pos (by rw [defS_congr hAt]; exact hdf), det_congr hAt] at c3
    have eT : sumZ (fun j => (rowF k rest).getD j 0 * det k (setC (at2 (mat k (at2 (mirM rows n)))) j fun i => (rowF k rest).getD i 0)) k = sumZ (fun r => rest r * numF k (at2 (mirM rows n)) rest r) k := sumZ_congr fun j hj => by
      rw [rowF_get hj]; congr 1; exact numF_congr hAt (fun i hi => rowF_get hi) j
    rw [eT, ← htop] at c3
    have hG := g_lim (k := k) (L := 2) (D := 384) (q := fun i => (padL q n).getD i 0) (c := c) (by omega) sP sQ sc
    have c4 := qvalue_ret (mat (n - k) (gP k (at2 (mirM rows n)))) (rowF (n - k) (gQ k (at2 (mirM rows n)) fun i => (padL q n).getD i 0)) ((padL l n).drop k) (gC k (at2 (mirM rows n)) (fun i => (padL q n).getD i 0) c) (n - k) (by omega) (mat_sq _ _) (rowF_len _ _) hyl (lim_at_mat fun i j => by have := hG.1 i j; omega) (fun i => by have := rng_lim (n := n - k) hG.2.1 i; unfold rowF; omega) (by have := hG.2.2; omega) (fun i => by have := sy i; omega)
    rw [qval_g (n - k) rfl] at c4
    have sV2 := val_lim (n := n - k) (P := gP k (at2 (mirM rows n))) (q := gQ k (at2 (mirM rows n)) fun i => (padL q n).getD i 0) (x := fun i => ((padL l n).drop k).getD i 0) (c := gC k (at2 (mirM rows n)) (fun i => (padL q n).getD i 0) c) (A := 2 + 384 + k + 1) (B := 2) (fun i j _ _ => hG.1 i j) (fun i _ => hG.2.1 i) hG.2.2 (fun i _ => sy i)
    have c5 := qvalue_ret (mirM rows n) (padL q n) (padL l n) c n (by omega) hsq hQl hXl (fun i j => by have := sP i j; omega) (fun i => by have := sQ i; omega) (by omega) (fun i => by have := sX i; omega)
    rw [qval_val hsq hQl] at c5
    have hsl := slc_fromI (l := padL l n) (k := k) (ki := .i64) (by omega)
    have sD := det_pw (n := k) sP
    have hgl := (mat_sq (n - k) (gP k (at2 (mirM rows n)))).1
    generalize valF (n - k) (gP k (at2 (mirM rows n))) (gQ k (at2 (mirM rows n)) fun i => (padL q n).getD i 0) (gC k (at2 (mirM rows n)) (fun i => (padL q n).getD i 0) c) (fun j => ((padL l n).drop k).getD j 0) = v at *
    generalize valF n (at2 (mirM rows n)) (fun i => (padL q n).getD i 0) c (fun i => (padL l n).getD i 0) = fx at *
    generalize det k (at2 (mirM rows n)) = d at *
    have m1 := lim_mul v d
    have m2 := lim_mul fx d
    have z1 : (v * d - v * d).sign = 0 := by rw [Int.sub_self]; rfl
    have z2 := sign_ge (show 0 ≤ fx * d - v by omega)
    have z3 := Int.sign_eq_one_of_pos hd0
    simp -dsimp -implicitDefEqProofs (disch := (first | assumption | omega | (simp only [nats_len, List.length_map, List.length_set, List.length_replicate, List.length_append, List.length_range, upto_len, els_len, List.length_cons, List.length_nil] <;> omega) | (apply isPure_intro <;> simp))) only [go_sem, hml]
    first | refine callB_of (c1) (by simp) ?_ | refine callP_of (c1) (by simp) ?_
    simp -dsimp -implicitDefEqProofs (disch := (first | assumption | omega | (simp only [nats_len, List.length_map, List.length_set, List.length_replicate, List.length_append, List.length_range, upto_len, els_len, List.length_cons, List.length_nil] <;> omega) | (apply isPure_intro <;> simp))) only [go_sem, hml]
    first | refine callB_of (list8_ret l n (by omega) hlv) (by simp) ?_ | refine callP_of (list8_ret l n (by omega) hlv) (by simp) ?_
    simp -dsimp -implicitDefEqProofs (disch := (first | assumption | omega | (simp only [nats_len, List.length_map, List.length_set, List.length_replicate, List.length_append, List.length_range, upto_len, els_len, List.length_cons, List.length_nil] <;> omega) | (apply isPure_intro <;> simp))) only [go_sem, hsl]
    first | refine callB_of (c2) (by simp) ?_ | refine callP_of (c2) (by simp) ?_
    simp -dsimp -implicitDefEqProofs (disch := (first | assumption | omega | (simp only [nats_len, List.length_map, List.length_set, List.length_replicate, List.length_append, List.length_range, upto_len, els_len, List.length_cons, List.length_nil] <;> omega) | (apply isPure_intro <;> simp))) only [go_sem, hgl, hyl]
    first | refine callB_of (c3) (by simp) ?_ | refine callP_of (c3) (by simp) ?_
    simp -dsimp -implicitDefEqProofs (disch := (first | assumption | omega | (simp only [nats_len, List.length_map, List.length_set, List.length_replicate, List.length_append, List.length_range, upto_len, els_len, List.length_cons, List.length_nil] <;> omega) | (apply isPure_intro <;> simp))) only [go_sem]
    first | refine callB_of (c4) (by simp) ?_ | refine callP_of (c4) (by simp) ?_
    simp -dsimp -implicitDefEqProofs (disch := (first | assumption | omega | (simp only [nats_len, List.length_map, List.length_set, List.length_replicate, List.length_append, List.length_range, upto_len, els_len, List.length_cons, List.length_nil] <;> omega) | (apply isPure_intro <;> simp))) only [go_sem]
    first | refine callB_of (mul_ret _ _ (by omega) (by omega)) (by simp) ?_ | refine callP_of (mul_ret _ _ (by omega) (by omega)) (by simp) ?_
    simp -dsimp -implicitDefEqProofs (disch := (first | assumption | omega | (simp only [nats_len, List.length_map, List.length_set, List.length_replicate, List.length_append, List.length_range, upto_len, els_len, List.length_cons, List.length_nil] <;> omega) | (apply isPure_intro <;> simp))) only [go_sem]
    first | refine callB_of (mul_ret _ _ (by omega) (by omega)) (by simp) ?_ | refine callP_of (mul_ret _ _ (by omega) (by omega)) (by simp) ?_
    simp -dsimp -implicitDefEqProofs (disch := (first | assumption | omega | (simp only [nats_len, List.length_map, List.length_set, List.length_replicate, List.length_append, List.length_range, upto_len, els_len, List.length_cons, List.length_nil] <;> omega) | (apply isPure_intro <;> simp))) only [go_sem]
    first | refine callB_of (icmp_ret _ _ (by omega) (by omega)) (by simp) ?_ | refine callP_of (icmp_ret _ _ (by omega) (by omega)) (by simp) ?_
    simp -dsimp -implicitDefEqProofs (disch := (first | assumption | omega | (simp only [nats_len, List.length_map, List.length_set, List.length_replicate, List.length_append, List.length_range, upto_len, els_len, List.length_cons, List.length_nil] <;> omega) | (apply isPure_intro <;> simp))) only [go_sem]
    first | refine callB_of (c5) (by simp) ?_ | refine callP_of (c5) (by simp) ?_
    simp -dsimp -implicitDefEqProofs (disch := (first | assumption | omega | (simp only [nats_len, List.length_map, List.length_set, List.length_replicate, List.length_append, List.length_range, upto_len, els_len, List.length_cons, List.length_nil] <;> omega) | (apply isPure_intro <;> simp))) only [go_sem]
    first | refine callB_of (mul_ret _ _ (by omega) (by omega)) (by simp) ?_ | refine callP_of (mul_ret _ _ (by omega) (by omega)) (by simp) ?_
    simp -dsimp -implicitDefEqProofs (disch := (first | assumption | omega | (simp only [nats_len, List.length_map, List.length_set, List.length_replicate, List.length_append, List.length_range, upto_len, els_len, List.length_cons, List.length_nil] <;> omega) | (apply isPure_intro <;> simp))) only [go_sem]
    first | refine callB_of (icmp_ret _ _ (by omega) (by omega)) (by simp) ?_ | refine callP_of (icmp_ret _ _ (by omega) (by omega)) (by simp) ?_
    simp -dsimp -implicitDefEqProofs (disch := (first | assumption | omega | (simp only [nats_len, List.length_map, List.length_set, List.length_replicate, List.length_append, List.length_range, upto_len, els_len, List.length_cons, List.length_nil] <;> omega) | (apply isPure_intro <;> simp))) only [go_sem]
    first | refine callB_of (sign_ret _ (by omega)) (by simp) ?_ | refine callP_of (sign_ret _ (by omega)) (by simp) ?_
    simp -dsimp -implicitDefEqProofs (disch := (first | assumption | omega | (simp only [nats_len, List.length_map, List.length_set, List.length_replicate, List.length_append, List.length_range, upto_len, els_len, List.length_cons, List.length_nil] <;> omega) | (apply isPure_intro <;> simp))) only [go_sem, z1, z2, z3]
    done
  · rw [if_neg hdf] at c1
    simp -dsimp -implicitDefEqProofs (disch := (first | assumption | omega | (simp only [nats_len, List.length_map, List.length_set, List.length_replicate, List.length_append, List.length_range, upto_len, els_len, List.length_cons, List.length_nil] <;> omega) | (apply isPure_intro <;> simp))) only [go_sem, hml]
    first | refine callB_of (c1) (by simp) ?_ | refine callP_of (c1) (by simp) ?_
    simp -dsimp -implicitDefEqProofs (disch := (first | assumption | omega | (simp only [nats_len, List.length_map, List.length_set, List.length_replicate, List.length_append, List.length_range, upto_len, els_len, List.length_cons, List.length_nil] <;> omega) | (apply isPure_intro <;> simp))) only [go_sem]
end Go.Gim

/- What the laws on graphs use: matrices as texts. -/
import Derived.Test.YtfonkhgndfjbfaaGA7
import Derived.Test.YtfonkhgndfjbfaaSB
import Derived.Test.YtfonkhgndfjbfaaLR4
import Derived.Test.YtfonkhgndfjbfaaGW
set_option maxRecDepth 100000
set_option maxHeartbeats 4000000
set_option linter.unusedSimpArgs false
set_option linter.unusedVariables false
namespace Go.Gim
open Go.Proofs
theorem take_mem {α : Type} {l : List α} {i : Nat} {x : α} (h : x ∈ l.take i) : x ∈ l := List.mem_of_mem_take h
theorem take_len_le {α : Type} (l : List α) (i : Nat) : (l.take i).length ≤ l.length := by rw [List.length_take]; omega
theorem whole_ret (m : List (List Int)) (n : Nat) (hn : n ≤ 12) (hm : Sq m n) (sm : ∀ r ∈ m, ∀ x ∈ r, lim x ≤ 1000000) : Ret pg n_gimballaw17_whole [.sl (m.map ivl)] (.str (bst (wholeL m))) := by
  have hd : ∀ r ∈ m, ∀ x ∈ r, dlim x ≤ 10000000 := fun r hr x hx => by have := sm r hr x hx; have := dlim_lim x; omega
  have hml := hm.1
  refine gimballaw17_whole.of rfl (W_b ?_)
  unfold gimballaw17_whole.k gimballaw17_whole.res
  simp -dsimp -implicitDefEqProofs (disch := (first | assumption | omega | (simp only [nats_len, List.length_map, List.length_set, List.length_replicate, List.length_append, List.length_range, upto_len, els_len, List.length_cons, List.length_nil] <;> omega) | (apply isPure_intro <;> simp))) only [go_sem, bst_nil]
  refine W_loop (T := Nat × List Nat × Nat) (fun t => ⟨E [(0, .sl (m.map ivl)), (3, .str (bst t.2.1)), (4, .int .i64 t.1)], fun _ => none, t.2.2, t.2.2⟩) (fun t => t.1 ≤ m.length ∧ t.2.1 = wholeL (m.take t.1)) (fun t => m.length - t.1) (0, [], _) rfl ⟨by dsimp only; omega, by simp [wholeL]⟩ ?_
  rintro ⟨i, z, nx⟩ ⟨i1, i2⟩
  dsimp only at i1 i2
  by_cases hi : i < m.length
  · have hr := getD_mem' [] hi
    have ht := take_getD [] hi
    have hrl := hm.2 _ hr
    have hwl := wholeL_len (m := m.take i) (n := n) (fun r h => by have := hm.2 r (take_mem h); omega) (fun r h => hd r (take_mem h))
    have hwl2 : (m.take i).length * (n * (10000000 + 2) + 1) ≤ 12 * (12 * 10000002 + 1) := Nat.mul_le_mul (by have := take_len_le m i; omega) (by omega)
    rw [← i2] at hwl
    generalize hX : m.getD i [] = r at *
    simp -dsimp -implicitDefEqProofs (disch := (first | assumption | omega | (simp only [nats_len, List.length_map, List.length_set, List.length_replicate, List.length_append, List.length_range, upto_len, els_len, List.length_cons, List.length_nil] <;> omega) | (apply isPure_intro <;> simp))) only [go_sem, hX]
    refine W_loop (T := Nat × List Nat × Nat) (fun t => ⟨E [(0, .sl (m.map ivl)), (3, .str (bst t.2.1)), (4, .int .i64 i), (5, .int .i64 t.1)], fun _ => none, t.2.2, t.2.2⟩) (fun t => t.1 ≤ r.length ∧ t.2.1 = z ++ numsL (r.take t.1)) (fun t => r.length - t.1) (0, z, _) rfl ⟨by dsimp only; omega, by simp [numsL]⟩ ?_
    rintro ⟨j, z1, nx'⟩ ⟨j1, j2⟩
    dsimp only at j1 j2
    have hz1 : z1.length = z.length + (numsL (r.take j)).length := by rw [j2, List.length_append]
    have hnl := numsL_len (r := r.take j) (fun x h => hd r hr x (take_mem h))
    have hnl2 : (r.take j).length * (10000000 + 2) ≤ 12 * 10000002 := Nat.mul_le_mul_right _ (by have := take_len_le r j; omega)
    by_cases hj : j < r.length
    · have hv := getD_mem' 0 hj
      have htj := take_getD 0 hj
      have s1 := sm r hr _ hv
      have s2 := hd r hr _ hv
      have s3 := decL_len (r.getD j 0)
      generalize hY : r.getD j 0 = y at *
      have a1 : strV .add (bst z1) (bst (decL y)) = some (.str (bst (z1 ++ decL y))) := strV_app (by omega)
      have a2 : strV .add (bst (z1 ++ decL y)) (bst [32]) = some (.str (bst ((z1 ++ decL y) ++ [32]))) := strV_app (by rw [List.length_append, List.length_singleton]; omega)
      have e32 : (⟨#[32]⟩ : ByteArray) = bst [32] := rfl
      have a3 : (z1 ++ decL y) ++ [32] = z ++ numsL (r.take (j + 1)) := by rw [htj, numsL_snoc, j2]; simp
      simp -dsimp -implicitDefEqProofs (disch := (first | assumption | omega | (simp only [nats_len, List.length_map, List.length_set, List.length_replicate, List.length_append, List.length_range, upto_len, els_len, List.length_cons, List.length_nil] <;> omega) | (apply isPure_intro <;> simp))) only [go_sem, hX, hY]
      refine callB_of (string_ret y (by omega)) (by simp) ?_
      simp -dsimp -implicitDefEqProofs (disch := (first | assumption | omega | (simp only [nats_len, List.length_map, List.length_set, List.length_replicate, List.length_append, List.length_range, upto_len, els_len, List.length_cons, List.length_nil] <;> omega) | (apply isPure_intro <;> simp))) only [go_sem, decS_bst, a1, e32, a2]
      exact ⟨(j + 1, z1 ++ (decL y ++ [32]), _), rfl, ⟨by dsimp only; omega, by dsimp only; rw [← a3]; simp⟩, by dsimp only; omega⟩
    · have hje : j = r.length := by omega
      subst hje
      have a4 : strV .add (bst z1) (bst [59]) = some (.str (bst (z1 ++ [59]))) := strV_app (by rw [List.length_singleton]; omega)
      have a5 : z1 ++ [59] = wholeL (m.take (i + 1)) := by rw [ht, wholeL_snoc, j2, List.take_length, i2]; simp
      have e59 : (⟨#[59]⟩ : ByteArray) = bst [59] := rfl
      simp -dsimp -implicitDefEqProofs (disch := (first | assumption | omega | (simp only [nats_len, List.length_map, List.length_set, List.length_replicate, List.length_append, List.length_range, upto_len, els_len, List.length_cons, List.length_nil] <;> omega) | (apply isPure_intro <;> simp))) only [go_sem, hX, e59, a4]
      exact ⟨(i + 1, z1 ++ [59], _), rfl, ⟨by dsimp only; omega, a5⟩, by dsimp only; omega⟩
  · have hie : i = m.length := by omega
    subst hie
    rw [List.take_length] at i2
    subst i2
    simp -dsimp -implicitDefEqProofs (disch := (first | assumption | omega | (simp only [nats_len, List.length_map, List.length_set, List.length_replicate, List.length_append, List.length_range, upto_len, els_len, List.length_cons, List.length_nil] <;> omega) | (apply isPure_intro <;> simp))) only [go_sem]
theorem wholes_ret (m : List (List Int)) (n : Nat) (hn : n ≤ 12) (hm : Sq m n) (sm : ∀ r ∈ m, ∀ x ∈ r, dlim x ≤ 1000000) : Ret pg n_gimballaw17_wholes [.sl (m.map dvl)] (.str (bst (wholeL m))) := by
  have hd : ∀ r ∈ m, ∀ x ∈ r, dlim x ≤ 10000000 := fun r hr x hx => by have := sm r hr x hx; omega
  have hml := hm.1
  refine gimballaw17_wholes.of rfl (W_b ?_)
  unfold gimballaw17_wholes.k gimballaw17_wholes.res
  simp -dsimp -implicitDefEqProofs (disch := (first | assumption | omega | (simp only [nats_len, List.length_map, List.length_set, List.length_replicate, List.length_append, List.length_range, upto_len, els_len, List.length_cons, List.length_nil] <;> omega) | (apply isPure_intro <;> simp))) only [go_sem, bst_nil]
  refine W_loop (T := Nat × List Nat × Nat) (fun t => ⟨E [(0, .sl (m.map dvl)), (3, .str (bst t.2.1)), (4, .int .i64 t.1)], fun _ => none, t.2.2, t.2.2⟩) (fun t => t.1 ≤ m.length ∧ t.2.1 = wholeL (m.take t.1)) (fun t => m.length - t.1) (0, [], _) rfl ⟨by dsimp only; omega, by simp [wholeL]⟩ ?_
  rintro ⟨i, z, nx⟩ ⟨i1, i2⟩
  dsimp only at i1 i2
  by_cases hi : i < m.length
  · have hr := getD_mem' [] hi
    have ht := take_getD [] hi
    have hrl := hm.2 _ hr
    have hwl := wholeL_len (m := m.take i) (n := n) (fun r h => by have := hm.2 r (take_mem h); omega) (fun r h => hd r (take_mem h))
    have hwl2 : (m.take i).length * (n * (10000000 + 2) + 1) ≤ 12 * (12 * 10000002 + 1) := Nat.mul_le_mul (by have := take_len_le m i; omega) (by omega)
    rw [← i2] at hwl
    generalize hX : m.getD i [] = r at *
    simp -dsimp -implicitDefEqProofs (disch := (first | assumption | omega | (simp only [nats_len, List.length_map, List.length_set, List.length_replicate, List.length_append, List.length_range, upto_len, els_len, List.length_cons, List.length_nil] <;> omega) | (apply isPure_intro <;> simp))) only [go_sem, hX]
    refine W_loop (T := Nat × List Nat × Nat) (fun t => ⟨E [(0, .sl (m.map dvl)), (3, .str (bst t.2.1)), (4, .int .i64 i), (5, .int .i64 t.1)], fun _ => none, t.2.2, t.2.2⟩) (fun t => t.1 ≤ r.length ∧ t.2.1 = z ++ numsL (r.take t.1)) (fun t => r.length - t.1) (0, z, _) rfl ⟨by dsimp only; omega, by simp [numsL]⟩ ?_
    rintro ⟨j, z1, nx'⟩ ⟨j1, j2⟩
    dsimp only at j1 j2
    have hz1 : z1.length = z.length + (numsL (r.take j)).length := by rw [j2, List.length_append]
    have hnl := numsL_len (r := r.take j) (fun x h => hd r hr x (take_mem h))
    have hnl2 : (r.take j).length * (10000000 + 2) ≤ 12 * 10000002 := Nat.mul_le_mul_right _ (by have := take_len_le r j; omega)
    by_cases hj : j < r.length
    · have hv := getD_mem' 0 hj
      have htj := take_getD 0 hj
      have s1 := sm r hr _ hv
      have s2 := hd r hr _ hv
      have s3 := decL_len (r.getD j 0)
      generalize hY : r.getD j 0 = y at *
      have a1 : strV .add (bst z1) (bst (decL y)) = some (.str (bst (z1 ++ decL y))) := strV_app (by omega)
      have a2 : strV .add (bst (z1 ++ decL y)) (bst [32]) = some (.str (bst ((z1 ++ decL y) ++ [32]))) := strV_app (by rw [List.length_append, List.length_singleton]; omega)
      have e32 : (⟨#[32]⟩ : ByteArray) = bst [32] := rfl
      have a3 : (z1 ++ decL y) ++ [32] = z ++ numsL (r.take (j + 1)) := by rw [htj, numsL_snoc, j2]; simp
      simp -dsimp -implicitDefEqProofs (disch := (first | assumption | omega | (simp only [nats_len, List.length_map, List.length_set, List.length_replicate, List.length_append, List.length_range, upto_len, els_len, List.length_cons, List.length_nil] <;> omega) | (apply isPure_intro <;> simp))) only [go_sem, hX, hY]
      refine callB_of (r_string y (by omega)) (by simp) ?_
      simp -dsimp -implicitDefEqProofs (disch := (first | assumption | omega | (simp only [nats_len, List.length_map, List.length_set, List.length_replicate, List.length_append, List.length_range, upto_len, els_len, List.length_cons, List.length_nil] <;> omega) | (apply isPure_intro <;> simp))) only [go_sem, decS_bst, a1, e32, a2]
      exact ⟨(j + 1, z1 ++ (decL y ++ [32]), _), rfl, ⟨by dsimp only; omega, by dsimp only; rw [← a3]; simp⟩, by dsimp only; omega⟩
    · have hje : j = r.length := by omega
      subst hje
      have a4 : strV .add (bst z1) (bst [59]) = some (.str (bst (z1 ++ [59]))) := strV_app (by rw [List.length_singleton]; omega)
      have a5 : z1 ++ [59] = wholeL (m.take (i + 1)) := by rw [ht, wholeL_snoc, j2, List.take_length, i2]; simp
      have e59 : (⟨#[59]⟩ : ByteArray) = bst [59] := rfl
      simp -dsimp -implicitDefEqProofs (disch := (first | assumption | omega | (simp only [nats_len, List.length_map, List.length_set, List.length_replicate, List.length_append, List.length_range, upto_len, els_len, List.length_cons, List.length_nil] <;> omega) | (apply isPure_intro <;> simp))) only [go_sem, hX, e59, a4]
      exact ⟨(i + 1, z1 ++ [59], _), rfl, ⟨by dsimp only; omega, a5⟩, by dsimp only; omega⟩
  · have hie : i = m.length := by omega
    subst hie
    rw [List.take_length] at i2
    subst i2
    simp -dsimp -implicitDefEqProofs (disch := (first | assumption | omega | (simp only [nats_len, List.length_map, List.length_set, List.length_replicate, List.length_append, List.length_range, upto_len, els_len, List.length_cons, List.length_nil] <;> omega) | (apply isPure_intro <;> simp))) only [go_sem]
end Go.Gim

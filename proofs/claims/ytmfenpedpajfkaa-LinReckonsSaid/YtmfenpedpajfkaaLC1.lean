import Derived.Test.YtmfenpedpajfkaaRL0
import Derived.Test.YtmfenpedpajfkaaSB
import Derived.Test.YtmfenpedpajfkaaGCL
import Derived.Test.YtmfenpedpajfkaaLS4
import Derived.Test.YtmfenpedpajfkaaDT5
/- What the laws on matrices use: texts, rows, lists. -/
set_option maxRecDepth 100000
set_option maxHeartbeats 4000000
set_option linter.unusedSimpArgs false
set_option linter.unusedVariables false
namespace Go.Gim
open Go.Proofs
theorem text7_ret (r : List Int) (hl : r.length ≤ 12) (sr : ∀ x ∈ r, lim x ≤ 1000000) : Ret pg n_gimballaw07_text [ivl r] (.str (bst (numsL r))) := by
  have hd : ∀ x ∈ r, dlim x ≤ 10000000 := fun x hx => by have := sr x hx; have := dlim_lim x; omega
  refine gimballaw07_text.of rfl (W_b ?_)
  unfold gimballaw07_text.k gimballaw07_text.res
  simp -dsimp -implicitDefEqProofs (disch := (first | assumption | omega | (simp only [nats_len, List.length_map, List.length_set, List.length_replicate, List.length_append, List.length_range, upto_len, els_len, List.length_cons, List.length_nil] <;> omega) | (apply isPure_intro <;> simp))) only [go_sem, bst_nil]
  refine W_loop (T := Nat × List Nat × Nat) (fun t => ⟨E [(0, ivl r), (3, .str (bst t.2.1)), (4, .int .i64 t.1)], fun _ => none, t.2.2, t.2.2⟩) (fun t => t.1 ≤ r.length ∧ t.2.1 = numsL (r.take t.1)) (fun t => r.length - t.1) (0, [], _) rfl ⟨by dsimp only; omega, by simp [numsL]⟩ ?_
  rintro ⟨j, z1, nx'⟩ ⟨j1, j2⟩
  dsimp only at j1 j2
  have hnl := numsL_len (r := r.take j) (fun x h => hd x (List.mem_of_mem_take h))
  have hnl2 : (r.take j).length * (10000000 + 2) ≤ 12 * 10000002 := Nat.mul_le_mul_right _ (by rw [List.length_take]; omega)
  rw [← j2] at hnl
  by_cases hj : j < r.length
  · have hv := getD_mem' 0 hj
    have htj := take_getD 0 hj
    have s1 := sr _ hv
    have s2 := hd _ hv
    have s3 := decL_len (r.getD j 0)
    generalize hY : r.getD j 0 = y at *
    have a1 : strV .add (bst z1) (bst (decL y)) = some (.str (bst (z1 ++ decL y))) := strV_app (by omega)
    have a2 : strV .add (bst (z1 ++ decL y)) (bst [32]) = some (.str (bst ((z1 ++ decL y) ++ [32]))) := strV_app (by rw [List.length_append, List.length_singleton]; omega)
    have e32 : (⟨#[32]⟩ : ByteArray) = bst [32] := rfl
    have a3 : (z1 ++ decL y) ++ [32] = numsL (r.take (j + 1)) := by rw [htj, numsL_snoc, j2]; simp
    simp -dsimp -implicitDefEqProofs (disch := (first | assumption | omega | (simp only [nats_len, List.length_map, List.length_set, List.length_replicate, List.length_append, List.length_range, upto_len, els_len, List.length_cons, List.length_nil] <;> omega) | (apply isPure_intro <;> simp))) only [go_sem, hY]
    refine callB_of (string_ret y (by omega)) (by simp) ?_
    simp -dsimp -implicitDefEqProofs (disch := (first | assumption | omega | (simp only [nats_len, List.length_map, List.length_set, List.length_replicate, List.length_append, List.length_range, upto_len, els_len, List.length_cons, List.length_nil] <;> omega) | (apply isPure_intro <;> simp))) only [go_sem, decS_bst, a1, e32, a2]
    exact ⟨(j + 1, z1 ++ (decL y ++ [32]), _), rfl, ⟨by dsimp only; omega, by dsimp only; rw [← a3]; simp⟩, by dsimp only; omega⟩
  · have hje : r.length = j := by omega
    subst hje
    rw [List.take_length] at j2
    subst j2
    simp -dsimp -implicitDefEqProofs (disch := (first | assumption | omega | (simp only [nats_len, List.length_map, List.length_set, List.length_replicate, List.length_append, List.length_range, upto_len, els_len, List.length_cons, List.length_nil] <;> omega) | (apply isPure_intro <;> simp))) only [go_sem]
theorem texts7_ret (r : List Int) (hl : r.length ≤ 12) (sr : ∀ x ∈ r, dlim x ≤ 10000000) : Ret pg n_gimballaw07_texts [dvl r] (.str (bst (numsL r))) := by
  have hd : ∀ x ∈ r, dlim x ≤ 10000000 := fun x hx => sr x hx
  refine gimballaw07_texts.of rfl (W_b ?_)
  unfold gimballaw07_texts.k gimballaw07_texts.res
  simp -dsimp -implicitDefEqProofs (disch := (first | assumption | omega | (simp only [nats_len, List.length_map, List.length_set, List.length_replicate, List.length_append, List.length_range, upto_len, els_len, List.length_cons, List.length_nil] <;> omega) | (apply isPure_intro <;> simp))) only [go_sem, bst_nil]
  refine W_loop (T := Nat × List Nat × Nat) (fun t => ⟨E [(0, dvl r), (3, .str (bst t.2.1)), (4, .int .i64 t.1)], fun _ => none, t.2.2, t.2.2⟩) (fun t => t.1 ≤ r.length ∧ t.2.1 = numsL (r.take t.1)) (fun t => r.length - t.1) (0, [], _) rfl ⟨by dsimp only; omega, by simp [numsL]⟩ ?_
  rintro ⟨j, z1, nx'⟩ ⟨j1, j2⟩
  dsimp only at j1 j2
  have hnl := numsL_len (r := r.take j) (fun x h => hd x (List.mem_of_mem_take h))
  have hnl2 : (r.take j).length * (10000000 + 2) ≤ 12 * 10000002 := Nat.mul_le_mul_right _ (by rw [List.length_take]; omega)
  rw [← j2] at hnl
  by_cases hj : j < r.length
  · have hv := getD_mem' 0 hj
    have htj := take_getD 0 hj
    have s1 := sr _ hv
    have s2 := hd _ hv
    have s3 := decL_len (r.getD j 0)
    generalize hY : r.getD j 0 = y at *
    have a1 : strV .add (bst z1) (bst (decL y)) = some (.str (bst (z1 ++ decL y))) := strV_app (by omega)
    have a2 : strV .add (bst (z1 ++ decL y)) (bst [32]) = some (.str (bst ((z1 ++ decL y) ++ [32]))) := strV_app (by rw [List.length_append, List.length_singleton]; omega)
    have e32 : (⟨#[32]⟩ : ByteArray) = bst [32] := rfl
    have a3 : (z1 ++ decL y) ++ [32] = numsL (r.take (j + 1)) := by rw [htj, numsL_snoc, j2]; simp
    simp -dsimp -implicitDefEqProofs (disch := (first | assumption | omega | (simp only [nats_len, List.length_map, List.length_set, List.length_replicate, List.length_append, List.length_range, upto_len, els_len, List.length_cons, List.length_nil] <;> omega) | (apply isPure_intro <;> simp))) only [go_sem, hY]
    refine callB_of (r_string y (by omega)) (by simp) ?_
    simp -dsimp -implicitDefEqProofs (disch := (first | assumption | omega | (simp only [nats_len, List.length_map, List.length_set, List.length_replicate, List.length_append, List.length_range, upto_len, els_len, List.length_cons, List.length_nil] <;> omega) | (apply isPure_intro <;> simp))) only [go_sem, decS_bst, a1, e32, a2]
    exact ⟨(j + 1, z1 ++ (decL y ++ [32]), _), rfl, ⟨by dsimp only; omega, by dsimp only; rw [← a3]; simp⟩, by dsimp only; omega⟩
  · have hje : r.length = j := by omega
    subst hje
    rw [List.take_length] at j2
    subst j2
    simp -dsimp -implicitDefEqProofs (disch := (first | assumption | omega | (simp only [nats_len, List.length_map, List.length_set, List.length_replicate, List.length_append, List.length_range, upto_len, els_len, List.length_cons, List.length_nil] <;> omega) | (apply isPure_intro <;> simp))) only [go_sem]
theorem whole7_ret (m : List (List Int)) (hn : m.length ≤ 12) (hm : ∀ r ∈ m, r.length ≤ 12) (sm : ∀ r ∈ m, ∀ x ∈ r, lim x ≤ 1000000) : Ret pg n_gimballaw07_whole [.sl (m.map ivl)] (.str (bst (wholeL m))) := by
  have hd : ∀ r ∈ m, ∀ x ∈ r, dlim x ≤ 10000000 := fun r hr x hx => by have := sm r hr x hx; have := dlim_lim x; omega
  refine gimballaw07_whole.of rfl (W_b ?_)
  unfold gimballaw07_whole.k gimballaw07_whole.res
  simp -dsimp -implicitDefEqProofs (disch := (first | assumption | omega | (simp only [nats_len, List.length_map, List.length_set, List.length_replicate, List.length_append, List.length_range, upto_len, els_len, List.length_cons, List.length_nil] <;> omega) | (apply isPure_intro <;> simp))) only [go_sem, bst_nil]
  refine W_loop (T := Nat × List Nat × Nat) (fun t => ⟨E [(0, .sl (m.map ivl)), (3, .str (bst t.2.1)), (4, .int .i64 t.1)], fun _ => none, t.2.2, t.2.2⟩) (fun t => t.1 ≤ m.length ∧ t.2.1 = wholeL (m.take t.1)) (fun t => m.length - t.1) (0, [], _) rfl ⟨by dsimp only; omega, by simp [wholeL]⟩ ?_
  rintro ⟨i, z, nx⟩ ⟨i1, i2⟩
  dsimp only at i1 i2
  by_cases hi : i < m.length
  · have hr := getD_mem' [] hi
    have ht := take_getD [] hi
    have hrl := hm _ hr
    have hwl := wholeL_len (m := m.take i) (n := 12) (fun r h => hm r (List.mem_of_mem_take h)) (fun r h => hd r (List.mem_of_mem_take h))
    have hwl2 : (m.take i).length * (12 * (10000000 + 2) + 1) ≤ 12 * (12 * 10000002 + 1) := Nat.mul_le_mul (by rw [List.length_take]; omega) (by omega)
    rw [← i2] at hwl
    have hnl := numsL_len (hd _ hr)
    have hnl2 : (m.getD i []).length * (10000000 + 2) ≤ 12 * 10000002 := Nat.mul_le_mul_right _ hrl
    have htx := text7_ret (m.getD i []) hrl (sm _ hr)
    generalize hX : m.getD i [] = r at *
    have a1 : strV .add (bst z) (bst (numsL r)) = some (.str (bst (z ++ numsL r))) := strV_app (by omega)
    have a2 : strV .add (bst (z ++ numsL r)) (bst [59]) = some (.str (bst ((z ++ numsL r) ++ [59]))) := strV_app (by rw [List.length_append, List.length_singleton]; omega)
    have e59 : (⟨#[59]⟩ : ByteArray) = bst [59] := rfl
    have a3 : (z ++ numsL r) ++ [59] = wholeL (m.take (i + 1)) := by rw [ht, wholeL_snoc, i2]; simp
    simp -dsimp -implicitDefEqProofs (disch := (first | assumption | omega | (simp only [nats_len, List.length_map, List.length_set, List.length_replicate, List.length_append, List.length_range, upto_len, els_len, List.length_cons, List.length_nil] <;> omega) | (apply isPure_intro <;> simp))) only [go_sem, hX]
    refine callB_of htx (by simp) ?_
    simp -dsimp -implicitDefEqProofs (disch := (first | assumption | omega | (simp only [nats_len, List.length_map, List.length_set, List.length_replicate, List.length_append, List.length_range, upto_len, els_len, List.length_cons, List.length_nil] <;> omega) | (apply isPure_intro <;> simp))) only [go_sem, a1, e59, a2]
    exact ⟨(i + 1, z ++ (numsL r ++ [59]), _), rfl, ⟨by dsimp only; omega, by dsimp only; rw [← a3]; simp⟩, by dsimp only; omega⟩
  · have hie : i = m.length := by omega
    subst hie
    rw [List.take_length] at i2
    subst i2
    simp -dsimp -implicitDefEqProofs (disch := (first | assumption | omega | (simp only [nats_len, List.length_map, List.length_set, List.length_replicate, List.length_append, List.length_range, upto_len, els_len, List.length_cons, List.length_nil] <;> omega) | (apply isPure_intro <;> simp))) only [go_sem]
theorem wholes7_ret (m : List (List Int)) (hn : m.length ≤ 12) (hm : ∀ r ∈ m, r.length ≤ 12) (sm : ∀ r ∈ m, ∀ x ∈ r, dlim x ≤ 10000000) : Ret pg n_gimballaw07_wholes [.sl (m.map dvl)] (.str (bst (wholeL m))) := by
  have hd : ∀ r ∈ m, ∀ x ∈ r, dlim x ≤ 10000000 := fun r hr x hx => by have := sm r hr x hx; omega
  refine gimballaw07_wholes.of rfl (W_b ?_)
  unfold gimballaw07_wholes.k gimballaw07_wholes.res
  simp -dsimp -implicitDefEqProofs (disch := (first | assumption | omega | (simp only [nats_len, List.length_map, List.length_set, List.length_replicate, List.length_append, List.length_range, upto_len, els_len, List.length_cons, List.length_nil] <;> omega) | (apply isPure_intro <;> simp))) only [go_sem, bst_nil]
  refine W_loop (T := Nat × List Nat × Nat) (fun t => ⟨E [(0, .sl (m.map dvl)), (3, .str (bst t.2.1)), (4, .int .i64 t.1)], fun _ => none, t.2.2, t.2.2⟩) (fun t => t.1 ≤ m.length ∧ t.2.1 = wholeL (m.take t.1)) (fun t => m.length - t.1) (0, [], _) rfl ⟨by dsimp only; omega, by simp [wholeL]⟩ ?_
  rintro ⟨i, z, nx⟩ ⟨i1, i2⟩
  dsimp only at i1 i2
  by_cases hi : i < m.length
  · have hr := getD_mem' [] hi
    have ht := take_getD [] hi
    have hrl := hm _ hr
    have hwl := wholeL_len (m := m.take i) (n := 12) (fun r h => hm r (List.mem_of_mem_take h)) (fun r h => hd r (List.mem_of_mem_take h))
    have hwl2 : (m.take i).length * (12 * (10000000 + 2) + 1) ≤ 12 * (12 * 10000002 + 1) := Nat.mul_le_mul (by rw [List.length_take]; omega) (by omega)
    rw [← i2] at hwl
    have hnl := numsL_len (hd _ hr)
    have hnl2 : (m.getD i []).length * (10000000 + 2) ≤ 12 * 10000002 := Nat.mul_le_mul_right _ hrl
    have htx := texts7_ret (m.getD i []) hrl (sm _ hr)
    generalize hX : m.getD i [] = r at *
    have a1 : strV .add (bst z) (bst (numsL r)) = some (.str (bst (z ++ numsL r))) := strV_app (by omega)
    have a2 : strV .add (bst (z ++ numsL r)) (bst [59]) = some (.str (bst ((z ++ numsL r) ++ [59]))) := strV_app (by rw [List.length_append, List.length_singleton]; omega)
    have e59 : (⟨#[59]⟩ : ByteArray) = bst [59] := rfl
    have a3 : (z ++ numsL r) ++ [59] = wholeL (m.take (i + 1)) := by rw [ht, wholeL_snoc, i2]; simp
    simp -dsimp -implicitDefEqProofs (disch := (first | assumption | omega | (simp only [nats_len, List.length_map, List.length_set, List.length_replicate, List.length_append, List.length_range, upto_len, els_len, List.length_cons, List.length_nil] <;> omega) | (apply isPure_intro <;> simp))) only [go_sem, hX]
    refine callB_of htx (by simp) ?_
    simp -dsimp -implicitDefEqProofs (disch := (first | assumption | omega | (simp only [nats_len, List.length_map, List.length_set, List.length_replicate, List.length_append, List.length_range, upto_len, els_len, List.length_cons, List.length_nil] <;> omega) | (apply isPure_intro <;> simp))) only [go_sem, a1, e59, a2]
    exact ⟨(i + 1, z ++ (numsL r ++ [59]), _), rfl, ⟨by dsimp only; omega, by dsimp only; rw [← a3]; simp⟩, by dsimp only; omega⟩
  · have hie : i = m.length := by omega
    subst hie
    rw [List.take_length] at i2
    subst i2
    simp -dsimp -implicitDefEqProofs (disch := (first | assumption | omega | (simp only [nats_len, List.length_map, List.length_set, List.length_replicate, List.length_append, List.length_range, upto_len, els_len, List.length_cons, List.length_nil] <;> omega) | (apply isPure_intro <;> simp))) only [go_sem]
def sqB (rows : List (List Int)) (most : Int) : Bool := decide ((rows.length : Int) ≤ most ∧ ∀ r ∈ rows, r.length = rows.length)
theorem square_ret (rows : List (List Int)) (most : Int) (hl : rows.length ≤ 9223372036854775807) (hr : ∀ r ∈ rows, r.length ≤ 9223372036854775807) : Ret pg n_gimballaw07_square [.sl (rows.map ints), .int .i64 most] (.bool (sqB rows most)) := by
  refine gimballaw07_square.of rfl (W_b ?_)
  unfold gimballaw07_square.k gimballaw07_square.res
  by_cases hm : most < rows.length
  · have e : sqB rows most = false := decide_eq_false fun h => by omega
    rw [e]
    simp -dsimp -implicitDefEqProofs (disch := (first | assumption | omega | (simp only [nats_len, List.length_map, List.length_set, List.length_replicate, List.length_append, List.length_range, upto_len, els_len, List.length_cons, List.length_nil] <;> omega) | (apply isPure_intro <;> simp))) only [go_sem]
  · simp -dsimp -implicitDefEqProofs (disch := (first | assumption | omega | (simp only [nats_len, List.length_map, List.length_set, List.length_replicate, List.length_append, List.length_range, upto_len, els_len, List.length_cons, List.length_nil] <;> omega) | (apply isPure_intro <;> simp))) only [go_sem]
    refine W_loop (T := Nat × Nat) (fun t => ⟨E [(0, .sl (rows.map ints)), (5, .int .i64 t.1)], fun _ => none, t.2, t.2⟩) (fun t => t.1 ≤ rows.length ∧ ∀ r ∈ rows.take t.1, r.length = rows.length) (fun t => rows.length - t.1) (0, _) rfl ⟨by dsimp only; omega, by simp⟩ ?_
    rintro ⟨i, nx⟩ ⟨i1, i2⟩
    dsimp only at i1 i2
    by_cases hi : i < rows.length
    · have hm := getD_mem' [] hi
      have ht := take_getD [] hi
      have hxl := hr _ hm
      generalize hX : rows.getD i [] = x at *
      by_cases hx : x.length = rows.length
      · simp -dsimp -implicitDefEqProofs (disch := (first | assumption | omega | (simp only [nats_len, List.length_map, List.length_set, List.length_replicate, List.length_append, List.length_range, upto_len, els_len, List.length_cons, List.length_nil] <;> omega) | (apply isPure_intro <;> simp))) only [go_sem, hX, hx]
        refine ⟨(i + 1, _), rfl, ⟨by dsimp only; omega, fun y hy => ?_⟩, by dsimp only; omega⟩
        dsimp only at hy
        rw [ht] at hy
        rcases List.mem_append.1 hy with hy | hy
        · exact i2 y hy
        · simp at hy; subst hy; exact hx
      · have e : sqB rows most = false := decide_eq_false fun h => hx (h.2 x hm)
        rw [e]
        simp -dsimp -implicitDefEqProofs (disch := (first | assumption | omega | (simp only [nats_len, List.length_map, List.length_set, List.length_replicate, List.length_append, List.length_range, upto_len, els_len, List.length_cons, List.length_nil] <;> omega) | (apply isPure_intro <;> simp))) only [go_sem, hX]
    · rw [List.take_of_length_le (by omega)] at i2
      have e : sqB rows most = true := decide_eq_true ⟨by omega, i2⟩
      rw [e]
      simp -dsimp -implicitDefEqProofs (disch := (first | assumption | omega | (simp only [nats_len, List.length_map, List.length_set, List.length_replicate, List.length_append, List.length_range, upto_len, els_len, List.length_cons, List.length_nil] <;> omega) | (apply isPure_intro <;> simp))) only [go_sem]
theorem sqB_sq {rows : List (List Int)} {most : Int} (h : sqB rows most = true) : Sq rows rows.length ∧ (rows.length : Int) ≤ most := by
  have := of_decide_eq_true h
  exact ⟨⟨rfl, this.2⟩, this.1⟩
theorem read_ret (rows : List (List Int)) (most : Int) (hm : most ≤ 12) (hl : rows.length ≤ 9223372036854775807) (hr : ∀ r ∈ rows, r.length ≤ 9223372036854775807 ∧ ∀ v ∈ r, In64 v) :
    Ret pg n_gimballaw07_read [.sl (rows.map ints), .int .i64 most] (.tup [.sl ((if sqB rows most then rows else []).map ivl), .sl ((if sqB rows most then rows else []).map dvl), .bool (sqB rows most)]) := by
  have h1 := square_ret rows most (by omega) (fun r h => by have := (hr r h).1; omega)
  have h2 := linof_retL rows hl hr
  refine gimballaw07_read.of rfl (W_b ?_)
  unfold gimballaw07_read.k gimballaw07_read.res
  by_cases hs : sqB rows most = true
  · have hq := sqB_sq hs
    have h3 := r7of_ret rows (by omega) fun r h => ⟨by have := hq.1.2 r h; omega, (hr r h).2⟩
    have he : sqE rows = 0 := by
      unfold sqE
      rw [if_neg (by omega), if_neg (fun ⟨r, h1, h2⟩ => h2 (hq.1.2 r h1))]
    rw [he] at h2
    rw [if_pos rfl] at h2
    rw [hs] at h1 ⊢
    rw [if_pos rfl]
    simp -dsimp -implicitDefEqProofs (disch := (first | assumption | omega | (simp only [nats_len, List.length_map, List.length_set, List.length_replicate, List.length_append, List.length_range, upto_len, els_len, List.length_cons, List.length_nil] <;> omega) | (apply isPure_intro <;> simp))) only [go_sem]
    first | refine callB_of (h1) (by simp) ?_ | refine callP_of (h1) (by simp) ?_
    simp -dsimp -implicitDefEqProofs (disch := (first | assumption | omega | (simp only [nats_len, List.length_map, List.length_set, List.length_replicate, List.length_append, List.length_range, upto_len, els_len, List.length_cons, List.length_nil] <;> omega) | (apply isPure_intro <;> simp))) only [go_sem]
    first | refine callB_of (h2) (by simp) ?_ | refine callP_of (h2) (by simp) ?_
    simp -dsimp -implicitDefEqProofs (disch := (first | assumption | omega | (simp only [nats_len, List.length_map, List.length_set, List.length_replicate, List.length_append, List.length_range, upto_len, els_len, List.length_cons, List.length_nil] <;> omega) | (apply isPure_intro <;> simp))) only [go_sem]
    first | refine callB_of (h3) (by simp) ?_ | refine callP_of (h3) (by simp) ?_
    simp -dsimp -implicitDefEqProofs (disch := (first | assumption | omega | (simp only [nats_len, List.length_map, List.length_set, List.length_replicate, List.length_append, List.length_range, upto_len, els_len, List.length_cons, List.length_nil] <;> omega) | (apply isPure_intro <;> simp))) only [go_sem]
  · have hs : sqB rows most = false := by simpa using hs
    rw [hs] at h1 ⊢
    rw [if_neg (by decide)]
    simp -dsimp -implicitDefEqProofs (disch := (first | assumption | omega | (simp only [nats_len, List.length_map, List.length_set, List.length_replicate, List.length_append, List.length_range, upto_len, els_len, List.length_cons, List.length_nil] <;> omega) | (apply isPure_intro <;> simp))) only [go_sem]
    first | refine callB_of (h1) (by simp) ?_ | refine callP_of (h1) (by simp) ?_
    simp -dsimp -implicitDefEqProofs (disch := (first | assumption | omega | (simp only [nats_len, List.length_map, List.length_set, List.length_replicate, List.length_append, List.length_range, upto_len, els_len, List.length_cons, List.length_nil] <;> omega) | (apply isPure_intro <;> simp))) only [go_sem]
def padL (l : List Int) (n : Nat) : List Int := (List.range n).map fun i => l.getD i 0
theorem padL_len (l n) : (padL l n).length = n := by simp [padL]
theorem padL_succ (l n) : padL l (n + 1) = padL l n ++ [l.getD n 0] := by simp [padL, List.range_succ]
theorem getD_in {l : List Int} (h : ∀ v ∈ l, In64 v) (n : Nat) : In64 (l.getD n 0) := by
  by_cases hn : n < l.length
  · exact h _ (getD_mem' 0 hn)
  · rw [List.getD_eq_getElem?_getD, List.getElem?_eq_none (Nat.le_of_not_lt hn)]; decide
theorem Row.lt {lo nx es b k : Nat} {H : Hp} {v : V} {xs : List V} (h : Row lo H nx v es xs) (hv : v = .own b k) : b < nx := by
  rcases h with ⟨h, _⟩ | ⟨d, h1, h2, h3, h4⟩
  · rw [h] at hv; cases hv
  · rw [h1] at hv; cases hv; exact h3
theorem llist_ret (l : List Int) (n : Nat) (hn : n ≤ 1000000) (hl : l.length ≤ 9223372036854775807) (hv : ∀ v ∈ l, In64 v) : Ret pg n_gimballaw07_list [ints l, .int .i64 n] (.tup [ivl (padL l n), dvl (padL l n)]) := by
  refine gimballaw07_list.of rfl (W_b ?_)
  unfold gimballaw07_list.k gimballaw07_list.res
  simp -dsimp -implicitDefEqProofs (disch := (first | assumption | omega | (simp only [nats_len, List.length_map, List.length_set, List.length_replicate, List.length_append, List.length_range, upto_len, els_len, List.length_cons, List.length_nil] <;> omega) | (apply isPure_intro <;> simp))) only [go_sem]
  refine W_loop (T := Nat × V × V × Hp × Nat) (fun t => ⟨E [(0, ints l), (1, .int .i64 n), (6, t.2.1), (7, t.2.2.1), (8, .int .i64 t.1)], t.2.2.2.1, t.2.2.2.2, t.2.2.2.2⟩)
    (fun t => t.1 ≤ n ∧ Row 0 t.2.2.2.1 t.2.2.2.2 t.2.1 2 ((padL l t.1).map IV) ∧ Row 0 t.2.2.2.1 t.2.2.2.2 t.2.2.1 2 ((padL l t.1).map DV) ∧ ∀ b n m, t.2.1 = .own b n → t.2.2.1 = .own b m → False) (fun t => n - t.1) (0, .nil, .nil, _, _) rfl ⟨by dsimp only; omega, Row.nil _ _ _ _, Row.nil _ _ _ _, fun b n m h => by cases h⟩ ?_
  rintro ⟨i, va, vb, H, nx⟩ ⟨i1, i2, i3, i4⟩
  dsimp only at i1 i2 i3 i4
  by_cases hi : i < n
  · have hx : In64 (l.getD i 0) := getD_in hv i
    have hpl := padL_len l i
    have hps := padL_succ l i
    by_cases hil : i < l.length
    · generalize hX : l.getD i 0 = x at *
      simp -dsimp -implicitDefEqProofs (disch := (first | assumption | omega | (simp only [nats_len, List.length_map, List.length_set, List.length_replicate, List.length_append, List.length_range, upto_len, els_len, List.length_cons, List.length_nil] <;> omega) | (apply isPure_intro <;> simp))) only [go_sem, hX]
      refine callB_of (of_ret x hx) (by simp) ?_
      simp -dsimp -implicitDefEqProofs (disch := (first | assumption | omega | (simp only [nats_len, List.length_map, List.length_set, List.length_replicate, List.length_append, List.length_range, upto_len, els_len, List.length_cons, List.length_nil] <;> omega) | (apply isPure_intro <;> simp))) only [go_sem]
      refine effB_row (lo := 0) (nx := nx) (H0 := H) (xs := (padL l i).map IV) i2 (by omega) rfl (by omega) (by omega) (by simp [rowOk, V.cells, V.cellOk, IV, V.isJunk]) (by decide) (by simp; omega) (by simp; omega) fun va' H2 r1 r2 r3 r4 => ?_
      rw [map_app, ← hps] at r1
      simp -dsimp -implicitDefEqProofs (disch := (first | assumption | omega | (simp only [nats_len, List.length_map, List.length_set, List.length_replicate, List.length_append, List.length_range, upto_len, els_len, List.length_cons, List.length_nil] <;> omega) | (apply isPure_intro <;> simp))) only [go_sem]
      refine callB_of (r_of x hx) (by simp) ?_
      simp -dsimp -implicitDefEqProofs (disch := (first | assumption | omega | (simp only [nats_len, List.length_map, List.length_set, List.length_replicate, List.length_append, List.length_range, upto_len, els_len, List.length_cons, List.length_nil] <;> omega) | (apply isPure_intro <;> simp))) only [go_sem]
      refine effB_row (lo := 0) (nx := nx + 18) (H0 := H2) (xs := (padL l i).map DV) (i3.keep r3 (fun b n m h1 h2 => i4 b n m h1 h2) (by omega)) (by omega) rfl (by omega) (by omega) (by simp [rowOk, V.cells, V.cellOk, DV, V.isJunk]) (by decide) (by simp; omega) (by simp; omega) fun vb' H3 s1 s2 s3 s4 => ?_
      rw [map_app, ← hps] at s1
      have hsep : Sep vb va' := fun b n m h1 h2 => by have := i3.lt h1; have := r2 b m h2; omega
      have r1' := r1.keep s3 hsep (Nat.le_refl _)
      simp -dsimp -implicitDefEqProofs (disch := (first | assumption | omega | (simp only [nats_len, List.length_map, List.length_set, List.length_replicate, List.length_append, List.length_range, upto_len, els_len, List.length_cons, List.length_nil] <;> omega) | (apply isPure_intro <;> simp))) only [go_sem]
      exact ⟨(i + 1, va', vb', H3, _), rfl, ⟨by dsimp only; omega, r1'.same (fun _ _ => rfl) (by dsimp only; omega), s1.same (fun _ _ => rfl) (by dsimp only; omega), fun b n m h1 h2 => by have := r1.lt h1; have := s2 b m h2; omega⟩, by dsimp only; omega⟩
    · have h0 : l.getD i 0 = 0 := by rw [List.getD_eq_getElem?_getD, List.getElem?_eq_none (Nat.le_of_not_lt hil)]; rfl
      rw [h0] at hx hps
      simp -dsimp -implicitDefEqProofs (disch := (first | assumption | omega | (simp only [nats_len, List.length_map, List.length_set, List.length_replicate, List.length_append, List.length_range, upto_len, els_len, List.length_cons, List.length_nil] <;> omega) | (apply isPure_intro <;> simp))) only [go_sem]
      refine callB_of (of_ret 0 hx) (by simp) ?_
      simp -dsimp -implicitDefEqProofs (disch := (first | assumption | omega | (simp only [nats_len, List.length_map, List.length_set, List.length_replicate, List.length_append, List.length_range, upto_len, els_len, List.length_cons, List.length_nil] <;> omega) | (apply isPure_intro <;> simp))) only [go_sem]
      refine effB_row (lo := 0) (nx := nx) (H0 := H) (xs := (padL l i).map IV) i2 (by omega) rfl (by omega) (by omega) (by simp [rowOk, V.cells, V.cellOk, IV, V.isJunk]) (by decide) (by simp; omega) (by simp; omega) fun va' H2 r1 r2 r3 r4 => ?_
      rw [map_app, ← hps] at r1
      simp -dsimp -implicitDefEqProofs (disch := (first | assumption | omega | (simp only [nats_len, List.length_map, List.length_set, List.length_replicate, List.length_append, List.length_range, upto_len, els_len, List.length_cons, List.length_nil] <;> omega) | (apply isPure_intro <;> simp))) only [go_sem]
      refine callB_of (r_of 0 hx) (by simp) ?_
      simp -dsimp -implicitDefEqProofs (disch := (first | assumption | omega | (simp only [nats_len, List.length_map, List.length_set, List.length_replicate, List.length_append, List.length_range, upto_len, els_len, List.length_cons, List.length_nil] <;> omega) | (apply isPure_intro <;> simp))) only [go_sem]
      refine effB_row (lo := 0) (nx := nx + 13) (H0 := H2) (xs := (padL l i).map DV) (i3.keep r3 (fun b n m h1 h2 => i4 b n m h1 h2) (by omega)) (by omega) rfl (by omega) (by omega) (by simp [rowOk, V.cells, V.cellOk, DV, V.isJunk]) (by decide) (by simp; omega) (by simp; omega) fun vb' H3 s1 s2 s3 s4 => ?_
      rw [map_app, ← hps] at s1
      have hsep : Sep vb va' := fun b n m h1 h2 => by have := i3.lt h1; have := r2 b m h2; omega
      have r1' := r1.keep s3 hsep (Nat.le_refl _)
      simp -dsimp -implicitDefEqProofs (disch := (first | assumption | omega | (simp only [nats_len, List.length_map, List.length_set, List.length_replicate, List.length_append, List.length_range, upto_len, els_len, List.length_cons, List.length_nil] <;> omega) | (apply isPure_intro <;> simp))) only [go_sem]
      exact ⟨(i + 1, va', vb', H3, _), rfl, ⟨by dsimp only; omega, r1'.same (fun _ _ => rfl) (by dsimp only; omega), s1.same (fun _ _ => rfl) (by dsimp only; omega), fun b n m h1 h2 => by have := r1.lt h1; have := s2 b m h2; omega⟩, by dsimp only; omega⟩
  · have hie : i = n := by omega
    subst hie
    simp -dsimp -implicitDefEqProofs (disch := (first | assumption | omega | (simp only [nats_len, List.length_map, List.length_set, List.length_replicate, List.length_append, List.length_range, upto_len, els_len, List.length_cons, List.length_nil] <;> omega) | (apply isPure_intro <;> simp))) only [go_sem]
    rw [i2.frz (frz_map fun x => frz_IV _ _ _), i3.frz (frz_map fun x => frz_DV _ _ _)]
    rfl
end Go.Gim
/- The chapter's examples: matrices. -/
set_option maxRecDepth 100000
set_option maxHeartbeats 4000000
set_option linter.unusedSimpArgs false
set_option linter.unusedVariables false
namespace Go.Gim
open Go.Proofs
def fzt (c : Nat) (xs : List V) (d : Nat) (ys : List V) (e : Nat) (zs : List V) : Nat → Option (List V) := fun b => if b = c then some xs else if b = d then some ys else if b = e then some zs else none
@[go_sem] theorem fzt_at (c xs d ys e zs b) : fzt c xs d ys e zs b = sel (b = c) (some xs) (sel (b = d) (some ys) (sel (b = e) (some zs) none dp dp) dp dp) dp dp := rfl
theorem fzt_ok {H : Hp} {c d e es es' es'' : Nat} {xs ys ds zs : List V} (hcd : d ≠ c) (hec : e ≠ c) (hed : e ≠ d) (hb : H c = some ⟨xs, es⟩) (hp : ∀ x ∈ xs, V.Pure x) (hd : H d = some ⟨ys, es'⟩) (hq : ∀ x ∈ ys, V.Pure x) (he : H e = some ⟨ds, es''⟩) (hy : ds.map (V.sub (fzt c xs d ys e zs)) = zs) (hr : ∀ x ∈ zs, ∀ c ∈ x.cells, V.Pure c) : Fz H (fzt c xs d ys e zs) := fun b ws h => by
  have hc : ∀ l : List V, (∀ x ∈ l, V.Pure x) → ∀ x ∈ l, ∀ c ∈ x.cells, V.Pure c := fun l hl x hx => (hl x hx).cells
  unfold fzt at h
  by_cases h1 : b = c
  · rw [if_pos h1] at h; cases h; subst h1; exact ⟨_, hb, (map_sub_pure hp _).symm, hc _ hp⟩
  · rw [if_neg h1] at h
    by_cases h2 : b = d
    · rw [if_pos h2] at h; cases h; subst h2; exact ⟨_, hd, (map_sub_pure hq _).symm, hc _ hq⟩
    · rw [if_neg h2] at h
      by_cases h3 : b = e
      · rw [if_pos h3] at h; cases h; subst h3; exact ⟨_, he, hy.symm, hr⟩
      · rw [if_neg h3] at h; cases h
theorem numsL_numsF {r : List Int} (h : (r.all fun x => decide (x.natAbs < 100000000000000000000)) = true) : numsL r = r.flatMap fun x => decF x ++ [32] := flat_congr fun x hx => by rw [decL_decF (of_decide_eq_true (List.all_eq_true.1 h x hx))]
theorem awake07_ret : Ret pg n_gimballaw07_awake [] (.bool true) := by
  have hof : ∀ a b c d : Int, In64 a → In64 b → In64 c → In64 d → Ret pg n_lin_Of [.sl [ints [a, b], ints [c, d]]] (.tup [.sl [ivl [a, b], ivl [c, d]], .int .i64 0]) := fun a b c d ha hb hc hd => by
    have := linof_ret [[a, b], [c, d]] (by simp) (fun r hr => by
      simp at hr
      rcases hr with rfl | rfl
      · exact ⟨by simp, fun v hv => by simp at hv; rcases hv with rfl | rfl <;> assumption⟩
      · exact ⟨by simp, fun v hv => by simp at hv; rcases hv with rfl | rfl <;> assumption⟩)
    have he : sqE [[a, b], [c, d]] = 0 := by unfold sqE; rw [if_neg (by simp), if_neg (by simp)]
    rw [he] at this
    exact this
  have hA := hof 2 1 1 3 (by decide) (by decide) (by decide) (by decide)
  have hB := hof 1 2 2 4 (by decide) (by decide) (by decide) (by decide)
  have hC := hof 1 2 2 1 (by decide) (by decide) (by decide) (by decide)
  have hD := hof 1 0 1 1 (by decide) (by decide) (by decide) (by decide)
  have two : ∀ a b c d : Int, In64 a → In64 b → In64 c → In64 d → Sq [[a, b], [c, d]] 2 ∧ ∀ i j, lim (at2 [[a, b], [c, d]] i j) ≤ 2 := fun a b c d ha hb hc hd => ⟨⟨rfl, fun r hr => by simp at hr; rcases hr with rfl | rfl <;> rfl⟩, Sq.sm fun r hr v hv => by
    simp at hr
    rcases hr with rfl | rfl <;> (simp at hv; rcases hv with rfl | rfl <;> assumption)⟩
  have lim1 : ∀ a b : Int, In64 a → In64 b → ∀ i, lim ([a, b].getD i 0) ≤ 2 := fun a b ha hb i => lim_i64 (getD_in (l := [a, b]) (fun v hv => by simp at hv; rcases hv with rfl | rfl <;> assumption) i)
  have tA := two 2 1 1 3 (by decide) (by decide) (by decide) (by decide)
  have tB := two 1 2 2 4 (by decide) (by decide) (by decide) (by decide)
  have tC := two 1 2 2 1 (by decide) (by decide) (by decide) (by decide)
  have tD := two 1 0 1 1 (by decide) (by decide) (by decide) (by decide)
  have dA := ldet_ret _ 2 2 (by decide) (by decide) tA.1 tA.2
  have dB := ldet_ret _ 2 2 (by decide) (by decide) tB.1 tB.2
  rw [show detS 2 (at2 [[2, 1], [1, 3]]) = 5 by decide] at dA
  rw [show detS 2 (at2 [[1, 2], [2, 4]]) = 0 by decide] at dB
  have sA := lsolve_ret _ [1, 2] 2 2 (by decide) (by decide) tA.1 rfl tA.2 (lim1 1 2 (by decide) (by decide))
  rw [show detS 2 (at2 [[2, 1], [1, 3]]) = 5 by decide, show solveS 2 (at2 [[2, 1], [1, 3]]) (fun i => [1, 2].getD i 0) = some [1, 3] by decide] at sA
  have sB := lsolve_ret _ [1, 2] 2 2 (by decide) (by decide) tB.1 rfl tB.2 (lim1 1 2 (by decide) (by decide))
  rw [show detS 2 (at2 [[1, 2], [2, 4]]) = 0 by decide, show solveS 2 (at2 [[1, 2], [2, 4]]) (fun i => [1, 2].getD i 0) = none by decide] at sB
  have fA := ldefinite_ret _ 2 2 (by decide) (by decide) tA.1 tA.2
  have fC := ldefinite_ret _ 2 2 (by decide) (by decide) tC.1 tC.2
  have fD := ldefinite_ret _ 2 2 (by decide) (by decide) tD.1 tD.2
  rw [show defS 2 (at2 [[2, 1], [1, 3]]) = true by decide] at fA
  rw [show defS 2 (at2 [[1, 2], [2, 1]]) = false by decide] at fC
  rw [show defS 2 (at2 [[1, 0], [1, 1]]) = false by decide] at fD
  have qA := lquad_ret _ [1, -1] 2 (by decide) tA.1 rfl (fun i j => by have := tA.2 i j; omega) (fun i => by have := lim1 1 (-1) (by decide) (by decide) i; omega)
  rw [show quadV [[2, 1], [1, 3]] [1, -1] 2 = 3 by decide] at qA
  have l1 := llist_ret [1, 2] 2 (by decide) (by decide) (by decide)
  have l2 := llist_ret [1, -1] 2 (by decide) (by decide) (by decide)
  rw [show padL [1, 2] 2 = [1, 2] by rfl] at l1
  rw [show padL [1, -1] 2 = [1, -1] by rfl] at l2
  have st : ∀ v : Int, In64 v → Ret pg n_long_Int_String [IV v] (.str (bst (decL v))) := fun v hv => string_ret v (by have := lim_i64 hv; omega)
  have tx := text7_ret [1, 3] (by decide) (fun x hx => by
    have : In64 x := by simp at hx; rcases hx with rfl | rfl <;> decide
    have := lim_i64 this; omega)
  have e1 : ∀ (v : Int) (b : List Nat), (decide (v.natAbs < 100000000000000000000) && decide (decF v = b)) = true → strV .eql (bst (decL v)) (bst b) = some (.bool true) := fun v b h => bst_eq (by
    rw [Bool.and_eq_true, decide_eq_true_eq, decide_eq_true_eq] at h
    rw [decL_decF h.1, h.2])
  have q5 := e1 5 [53] (by decide)
  have q0 := e1 0 [48] (by decide)
  have q3 := e1 3 [51] (by decide)
  have q13 : strV .eql (bst (numsL [1, 3])) (bst [49, 32, 51, 32]) = some (.bool true) := bst_eq (by rw [numsL_numsF (by decide)]; decide)
  have b5 : (⟨#[53]⟩ : ByteArray) = bst [53] := rfl
  have b0 : (⟨#[48]⟩ : ByteArray) = bst [48] := rfl
  have b3 : (⟨#[51]⟩ : ByteArray) = bst [51] := rfl
  have b13 : (⟨#[49, 32, 51, 32]⟩ : ByteArray) = bst [49, 32, 51, 32] := rfl
  refine gimballaw07_awake.of rfl (W_b ?_)
  unfold gimballaw07_awake.k gimballaw07_awake.res
  simp -dsimp -implicitDefEqProofs (disch := (first | assumption | omega | (simp only [nats_len, List.length_map, List.length_set, List.length_replicate, List.length_append, List.length_range, upto_len, els_len, List.length_cons, List.length_nil] <;> omega) | (apply isPure_intro <;> simp))) only [go_sem]
  refine callB_frE (fzt 1 [.int .i64 2, .int .i64 1] 2 [.int .i64 1, .int .i64 3] 3 [ints [2, 1], ints [1, 3]]) (fzt_ok (es := 1) (es' := 1) (es'' := 1) (by decide) (by decide) (by decide) (by rfl) (by simp) (by rfl) (by simp) (by rfl) (by simp -dsimp -implicitDefEqProofs (disch := (first | assumption | omega | (simp only [nats_len, List.length_map, List.length_set, List.length_replicate, List.length_append, List.length_range, upto_len, els_len, List.length_cons, List.length_nil] <;> omega) | (apply isPure_intro <;> simp))) only [go_sem]; rfl) (by simp [ints, V.cells])) (by simp -dsimp -implicitDefEqProofs (disch := (first | assumption | omega | (simp only [nats_len, List.length_map, List.length_set, List.length_replicate, List.length_append, List.length_range, upto_len, els_len, List.length_cons, List.length_nil] <;> omega) | (apply isPure_intro <;> simp))) only [go_sem]) hA (by simp) ?_
  simp -dsimp -implicitDefEqProofs (disch := (first | assumption | omega | (simp only [nats_len, List.length_map, List.length_set, List.length_replicate, List.length_append, List.length_range, upto_len, els_len, List.length_cons, List.length_nil] <;> omega) | (apply isPure_intro <;> simp))) only [go_sem]
  refine callB_frE (fzt 10 [.int .i64 1, .int .i64 2] 11 [.int .i64 2, .int .i64 4] 12 [ints [1, 2], ints [2, 4]]) (fzt_ok (es := 1) (es' := 1) (es'' := 1) (by decide) (by decide) (by decide) (by rfl) (by simp) (by rfl) (by simp) (by rfl) (by simp -dsimp -implicitDefEqProofs (disch := (first | assumption | omega | (simp only [nats_len, List.length_map, List.length_set, List.length_replicate, List.length_append, List.length_range, upto_len, els_len, List.length_cons, List.length_nil] <;> omega) | (apply isPure_intro <;> simp))) only [go_sem]; rfl) (by simp [ints, V.cells])) (by simp -dsimp -implicitDefEqProofs (disch := (first | assumption | omega | (simp only [nats_len, List.length_map, List.length_set, List.length_replicate, List.length_append, List.length_range, upto_len, els_len, List.length_cons, List.length_nil] <;> omega) | (apply isPure_intro <;> simp))) only [go_sem]) hB (by simp) ?_
  simp -dsimp -implicitDefEqProofs (disch := (first | assumption | omega | (simp only [nats_len, List.length_map, List.length_set, List.length_replicate, List.length_append, List.length_range, upto_len, els_len, List.length_cons, List.length_nil] <;> omega) | (apply isPure_intro <;> simp))) only [go_sem]
  refine callB_frE (fzt 19 [.int .i64 1, .int .i64 2] 20 [.int .i64 2, .int .i64 1] 21 [ints [1, 2], ints [2, 1]]) (fzt_ok (es := 1) (es' := 1) (es'' := 1) (by decide) (by decide) (by decide) (by rfl) (by simp) (by rfl) (by simp) (by rfl) (by simp -dsimp -implicitDefEqProofs (disch := (first | assumption | omega | (simp only [nats_len, List.length_map, List.length_set, List.length_replicate, List.length_append, List.length_range, upto_len, els_len, List.length_cons, List.length_nil] <;> omega) | (apply isPure_intro <;> simp))) only [go_sem]; rfl) (by simp [ints, V.cells])) (by simp -dsimp -implicitDefEqProofs (disch := (first | assumption | omega | (simp only [nats_len, List.length_map, List.length_set, List.length_replicate, List.length_append, List.length_range, upto_len, els_len, List.length_cons, List.length_nil] <;> omega) | (apply isPure_intro <;> simp))) only [go_sem]) hC (by simp) ?_
  simp -dsimp -implicitDefEqProofs (disch := (first | assumption | omega | (simp only [nats_len, List.length_map, List.length_set, List.length_replicate, List.length_append, List.length_range, upto_len, els_len, List.length_cons, List.length_nil] <;> omega) | (apply isPure_intro <;> simp))) only [go_sem]
  refine callB_frE (fzt 28 [.int .i64 1, .int .i64 0] 29 [.int .i64 1, .int .i64 1] 30 [ints [1, 0], ints [1, 1]]) (fzt_ok (es := 1) (es' := 1) (es'' := 1) (by decide) (by decide) (by decide) (by rfl) (by simp) (by rfl) (by simp) (by rfl) (by simp -dsimp -implicitDefEqProofs (disch := (first | assumption | omega | (simp only [nats_len, List.length_map, List.length_set, List.length_replicate, List.length_append, List.length_range, upto_len, els_len, List.length_cons, List.length_nil] <;> omega) | (apply isPure_intro <;> simp))) only [go_sem]; rfl) (by simp [ints, V.cells])) (by simp -dsimp -implicitDefEqProofs (disch := (first | assumption | omega | (simp only [nats_len, List.length_map, List.length_set, List.length_replicate, List.length_append, List.length_range, upto_len, els_len, List.length_cons, List.length_nil] <;> omega) | (apply isPure_intro <;> simp))) only [go_sem]) hD (by simp) ?_
  simp -dsimp -implicitDefEqProofs (disch := (first | assumption | omega | (simp only [nats_len, List.length_map, List.length_set, List.length_replicate, List.length_append, List.length_range, upto_len, els_len, List.length_cons, List.length_nil] <;> omega) | (apply isPure_intro <;> simp))) only [go_sem]
  refine callB_frE (fz1 63 [.int .i64 1, .int .i64 2]) (fz1_ok (es := 1) (by rfl) (by simp)) (by simp -dsimp -implicitDefEqProofs (disch := (first | assumption | omega | (simp only [nats_len, List.length_map, List.length_set, List.length_replicate, List.length_append, List.length_range, upto_len, els_len, List.length_cons, List.length_nil] <;> omega) | (apply isPure_intro <;> simp))) only [go_sem]; rfl) l1 (by simp) ?_
  simp -dsimp -implicitDefEqProofs (disch := (first | assumption | omega | (simp only [nats_len, List.length_map, List.length_set, List.length_replicate, List.length_append, List.length_range, upto_len, els_len, List.length_cons, List.length_nil] <;> omega) | (apply isPure_intro <;> simp))) only [go_sem]
  refine callB_frE (fz1 70 [.int .i64 1, .int .i64 (-1)]) (fz1_ok (es := 1) (by rfl) (by simp)) (by simp -dsimp -implicitDefEqProofs (disch := (first | assumption | omega | (simp only [nats_len, List.length_map, List.length_set, List.length_replicate, List.length_append, List.length_range, upto_len, els_len, List.length_cons, List.length_nil] <;> omega) | (apply isPure_intro <;> simp))) only [go_sem]; rfl) l2 (by simp) ?_
  simp -dsimp -implicitDefEqProofs (disch := (first | assumption | omega | (simp only [nats_len, List.length_map, List.length_set, List.length_replicate, List.length_append, List.length_range, upto_len, els_len, List.length_cons, List.length_nil] <;> omega) | (apply isPure_intro <;> simp))) only [go_sem]
  first | refine callB_of (dA) (by simp) ?_ | refine callP_of (dA) (by simp) ?_
  simp -dsimp -implicitDefEqProofs (disch := (first | assumption | omega | (simp only [nats_len, List.length_map, List.length_set, List.length_replicate, List.length_append, List.length_range, upto_len, els_len, List.length_cons, List.length_nil] <;> omega) | (apply isPure_intro <;> simp))) only [go_sem]
  first | refine callB_of (st 5 (by decide)) (by simp) ?_ | refine callP_of (st 5 (by decide)) (by simp) ?_
  simp -dsimp -implicitDefEqProofs (disch := (first | assumption | omega | (simp only [nats_len, List.length_map, List.length_set, List.length_replicate, List.length_append, List.length_range, upto_len, els_len, List.length_cons, List.length_nil] <;> omega) | (apply isPure_intro <;> simp))) only [go_sem]
  first | refine callB_of (dB) (by simp) ?_ | refine callP_of (dB) (by simp) ?_
  simp -dsimp -implicitDefEqProofs (disch := (first | assumption | omega | (simp only [nats_len, List.length_map, List.length_set, List.length_replicate, List.length_append, List.length_range, upto_len, els_len, List.length_cons, List.length_nil] <;> omega) | (apply isPure_intro <;> simp))) only [go_sem]
  first | refine callB_of (st 0 (by decide)) (by simp) ?_ | refine callP_of (st 0 (by decide)) (by simp) ?_
  simp -dsimp -implicitDefEqProofs (disch := (first | assumption | omega | (simp only [nats_len, List.length_map, List.length_set, List.length_replicate, List.length_append, List.length_range, upto_len, els_len, List.length_cons, List.length_nil] <;> omega) | (apply isPure_intro <;> simp))) only [go_sem]
  unfold solveV at sA sB
  first | refine callB_of (sA) (by simp) ?_ | refine callP_of (sA) (by simp) ?_
  simp -dsimp -implicitDefEqProofs (disch := (first | assumption | omega | (simp only [nats_len, List.length_map, List.length_set, List.length_replicate, List.length_append, List.length_range, upto_len, els_len, List.length_cons, List.length_nil] <;> omega) | (apply isPure_intro <;> simp))) only [go_sem, ← IV_zero]
  first | refine callB_of (sB) (by simp) ?_ | refine callP_of (sB) (by simp) ?_
  simp -dsimp -implicitDefEqProofs (disch := (first | assumption | omega | (simp only [nats_len, List.length_map, List.length_set, List.length_replicate, List.length_append, List.length_range, upto_len, els_len, List.length_cons, List.length_nil] <;> omega) | (apply isPure_intro <;> simp))) only [go_sem, ← IV_zero]
  first | refine callB_of (st 5 (by decide)) (by simp) ?_ | refine callP_of (st 5 (by decide)) (by simp) ?_
  simp -dsimp -implicitDefEqProofs (disch := (first | assumption | omega | (simp only [nats_len, List.length_map, List.length_set, List.length_replicate, List.length_append, List.length_range, upto_len, els_len, List.length_cons, List.length_nil] <;> omega) | (apply isPure_intro <;> simp))) only [go_sem]
  first | refine callB_of (fA) (by simp) ?_ | refine callP_of (fA) (by simp) ?_
  simp -dsimp -implicitDefEqProofs (disch := (first | assumption | omega | (simp only [nats_len, List.length_map, List.length_set, List.length_replicate, List.length_append, List.length_range, upto_len, els_len, List.length_cons, List.length_nil] <;> omega) | (apply isPure_intro <;> simp))) only [go_sem]
  first | refine callB_of (fC) (by simp) ?_ | refine callP_of (fC) (by simp) ?_
  simp -dsimp -implicitDefEqProofs (disch := (first | assumption | omega | (simp only [nats_len, List.length_map, List.length_set, List.length_replicate, List.length_append, List.length_range, upto_len, els_len, List.length_cons, List.length_nil] <;> omega) | (apply isPure_intro <;> simp))) only [go_sem]
  first | refine callB_of (fD) (by simp) ?_ | refine callP_of (fD) (by simp) ?_
  simp -dsimp -implicitDefEqProofs (disch := (first | assumption | omega | (simp only [nats_len, List.length_map, List.length_set, List.length_replicate, List.length_append, List.length_range, upto_len, els_len, List.length_cons, List.length_nil] <;> omega) | (apply isPure_intro <;> simp))) only [go_sem]
  first | refine callB_of (qA) (by simp) ?_ | refine callP_of (qA) (by simp) ?_
  simp -dsimp -implicitDefEqProofs (disch := (first | assumption | omega | (simp only [nats_len, List.length_map, List.length_set, List.length_replicate, List.length_append, List.length_range, upto_len, els_len, List.length_cons, List.length_nil] <;> omega) | (apply isPure_intro <;> simp))) only [go_sem]
  first | refine callB_of (st 3 (by decide)) (by simp) ?_ | refine callP_of (st 3 (by decide)) (by simp) ?_
  simp -dsimp -implicitDefEqProofs (disch := (first | assumption | omega | (simp only [nats_len, List.length_map, List.length_set, List.length_replicate, List.length_append, List.length_range, upto_len, els_len, List.length_cons, List.length_nil] <;> omega) | (apply isPure_intro <;> simp))) only [go_sem, b5, b0, b3, b13, q5, q0, q3, q13]
  first | refine callB_of (tx) (by simp) ?_ | refine callP_of (tx) (by simp) ?_
  simp -dsimp -implicitDefEqProofs (disch := (first | assumption | omega | (simp only [nats_len, List.length_map, List.length_set, List.length_replicate, List.length_append, List.length_range, upto_len, els_len, List.length_cons, List.length_nil] <;> omega) | (apply isPure_intro <;> simp))) only [go_sem, b5, b0, b3, b13, q5, q0, q3, q13]
end Go.Gim
/- Products do not hang on brackets. -/
set_option maxRecDepth 100000
set_option maxHeartbeats 4000000
set_option linter.unusedSimpArgs false
set_option linter.unusedVariables false
namespace Go.Gim
open Go.Proofs
theorem mat_lim {n L : Nat} {f : Nat → Nat → Int} (h : ∀ i j, lim (f i j) ≤ L) : ∀ r ∈ mat n f, ∀ x ∈ r, lim x ≤ L := fun r hr x hx => by
  simp only [mat, List.mem_map] at hr
  obtain ⟨i, _, rfl⟩ := hr
  obtain ⟨j, _, rfl⟩ := List.mem_map.1 hx
  exact h i j
theorem row_lim {n L : Nat} {f : Nat → Int} (h : ∀ i, lim (f i) ≤ L) : ∀ x ∈ (List.range n).map f, lim x ≤ L := fun x hx => by
  obtain ⟨j, _, rfl⟩ := List.mem_map.1 hx
  exact h j
theorem mulS_lim {n A B : Nat} {M N : Nat → Nat → Int} (hM : ∀ i j, lim (M i j) ≤ A) (hN : ∀ i j, lim (N i j) ≤ B) (i j : Nat) : lim (mulS n M N i j) ≤ A + B + n := sumN_lim (L := A + B) (fun k => by have := hM i k; have := hN k j; omega) n
theorem pad_lim {l : List Int} (h : ∀ v ∈ l, In64 v) (n i : Nat) : lim ((padL l n).getD i 0) ≤ 2 := by
  unfold padL
  rw [range_getD']
  split
  · exact lim_i64 (getD_in h i)
  · rw [lim_zero]; omega
end Go.Gim

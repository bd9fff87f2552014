import Derived.Test.YtmfenpedpajfkaaRL0
import Derived.Test.YtmfenpedpajfkaaSB
import Derived.Test.YtmfenpedpajfkaaGCL
import Derived.Test.YtmfenpedpajfkaaLS4
import Derived.Test.YtmfenpedpajfkaaDT5
/- What the laws on matrices use: texts, rows, lists. -/
set_option maxRecDepth 100000
set_option maxHeartbeats 4000000
set_option linter.unusedSimpArgs false
set_option linter.unusedVariables false
namespace Go.Gim
open Go.Proofs
theorem text7_ret (r : List Int) (hl : r.length ≤ 12) (sr : ∀ x ∈ r, lim x ≤ 1000000) : Ret pg n_gimballaw07_text [ivl r] (.str (bst (numsL r))) := by
  have hd : ∀ x ∈ r, dlim x ≤ 10000000 := fun x hx => by have := sr x hx; have := dlim_lim x; omega
  refine gimballaw07_text.of rfl (W_b ?_)
  unfold gimballaw07_text.k gimballaw07_text.res
  simp -dsimp -implicitDefEqProofs (disch := (first | assumption | omega | (simp only [nats_len, List.length_map, List.length_set, List.length_replicate, List.length_append, List.length_range, upto_len, els_len, List.length_cons, List.length_nil] <;> omega) | (apply isPure_intro <;> simp))) only [go_sem, bst_nil]
  refine W_loop (T := Nat × List Nat × Nat) (fun t => ⟨E [(0, ivl r), (3, .str (bst t.2.1)), (4, .int .i64 t.1)], fun _ => none, t.2.2, t.2.2⟩) (fun t => t.1 ≤ r.length ∧ t.2.1 = numsL (r.take t.1)) (fun t => r.length - t.1) (0, [], _) rfl ⟨by dsimp only; omega, by simp [numsL]⟩ ?_
  rintro ⟨j, z1, nx'⟩ ⟨j1, j2⟩
  dsimp only at j1 j2
  have hnl := numsL_len (r := r.take j) (fun x h => hd x (List.mem_of_mem_take h))
  have hnl2 : (r.take j).length * (10000000 + 2) ≤ 12 * 10000002 := Nat.mul_le_mul_right _ (by rw [List.length_take]; omega)
  rw [← j2] at hnl
  by_cases hj : j < r.length
  · have hv := getD_mem' 0 hj
    have htj := take_getD 0 hj
    have s1 := sr _ hv
    have s2 := hd _ hv
    have s3 := decL_len (r.getD j 0)
    generalize hY : r.getD j 0 = y at *
    have a1 : strV .add (bst z1) (bst (decL y)) = some (.str (bst (z1 ++ decL y))) := strV_app (by omega)
    have a2 : strV .add (bst (z1 ++ decL y)) (bst [32]) = some (.str (bst ((z1 ++ decL y) ++ [32]))) := strV_app (by rw [List.length_append, List.length_singleton]; omega)
    have e32 : (⟨#[32]⟩ : ByteArray) = bst [32] := rfl
    have a3 : (z1 ++ decL y) ++ [32] = numsL (r.take (j + 1)) := by rw [htj, numsL_snoc, j2]; simp
    simp -dsimp -implicitDefEqProofs (disch := (first | assumption | omega | (simp only [nats_len, List.length_map, List.length_set, List.length_replicate, List.length_append, List.length_range, upto_len, els_len, List.length_cons, List.length_nil] <;> omega) | (apply isPure_intro <;> simp))) only [go_sem, hY]
    refine callB_of (string_ret y (by omega)) (by simp) ?_
    simp -dsimp -implicitDefEqProofs (disch := (first | assumption | omega | (simp only [nats_len, List.length_map, List.length_set, List.length_replicate, List.length_append, List.length_range, upto_len, els_len, List.length_cons, List.length_nil] <;> omega) | (apply isPure_intro <;> simp))) only [go_sem, decS_bst, a1, e32, a2]
    exact ⟨(j + 1, z1 ++ (decL y ++ [32]), _), rfl, ⟨by dsimp only; omega, by dsimp only; rw [← a3]; simp⟩, by dsimp only; omega⟩
  · have hje : r.length = j := by omega
    subst hje
    rw [List.take_length] at j2
    subst j2
    simp -dsimp -implicitDefEqProofs (disch := (first | assumption | omega | (simp only [nats_len, List.length_map, List.length_set, List.length_replicate, List.length_append, List.length_range, upto_len, els_len, List.length_cons, List.length_nil] <;> omega) | (apply isPure_intro <;> simp))) only [go_sem]
def sqB (rows : List (List Int)) (most : Int) : Bool := decide ((rows.length : Int) ≤ most ∧ ∀ r ∈ rows, r.length = rows.length)
theorem square_ret (rows : List (List Int)) (most : Int) (hl : rows.length ≤ 9223372036854775807) (hr : ∀ r ∈ rows, r.length ≤ 9223372036854775807) : Ret pg n_gimballaw07_square [.sl (rows.map ints), .int .i64 most] (.bool (sqB rows most)) := by
  refine gimballaw07_square.of rfl (W_b ?_)
  unfold gimballaw07_square.k gimballaw07_square.res
  by_cases hm : most < rows.length
  · have e : sqB rows most = false := decide_eq_false fun h => by omega
    rw [e]
    simp -dsimp -implicitDefEqProofs (disch := (first | assumption | omega | (simp only [nats_len, List.length_map, List.length_set, List.length_replicate, List.length_append, List.length_range, upto_len, els_len, List.length_cons, List.length_nil] <;> omega) | (apply isPure_intro <;> simp))) only [go_sem]
  · simp -dsimp -implicitDefEqProofs (disch := (first | assumption | omega | (simp only [nats_len, List.length_map, List.length_set, List.length_replicate, List.length_append, List.length_range, upto_len, els_len, List.length_cons, List.length_nil] <;> omega) | (apply isPure_intro <;> simp))) only [go_sem]
    refine W_loop (T := Nat × Nat) (fun t => ⟨E [(0, .sl (rows.map ints)), (5, .int .i64 t.1)], fun _ => none, t.2, t.2⟩) (fun t => t.1 ≤ rows.length ∧ ∀ r ∈ rows.take t.1, r.length = rows.length) (fun t => rows.length - t.1) (0, _) rfl ⟨by dsimp only; omega, by simp⟩ ?_
    rintro ⟨i, nx⟩ ⟨i1, i2⟩
    dsimp only at i1 i2
    by_cases hi : i < rows.length
    · have hm := getD_mem' [] hi
      have ht := take_getD [] hi
      have hxl := hr _ hm
      generalize hX : rows.getD i [] = x at *
      by_cases hx : x.length = rows.length
      · simp -dsimp -implicitDefEqProofs (disch := (first | assumption | omega | (simp only [nats_len, List.length_map, List.length_set, List.length_replicate, List.length_append, List.length_range, upto_len, els_len, List.length_cons, List.length_nil] <;> omega) | (apply isPure_intro <;> simp))) only [go_sem, hX, hx]
        refine ⟨(i + 1, _), rfl, ⟨by dsimp only; omega, fun y hy => ?_⟩, by dsimp only; omega⟩
        dsimp only at hy
        rw [ht] at hy
        rcases List.mem_append.1 hy with hy | hy
        · exact i2 y hy
        · simp at hy; subst hy; exact hx
      · have e : sqB rows most = false := decide_eq_false fun h => hx (h.2 x hm)
        rw [e]
        simp -dsimp -implicitDefEqProofs (disch := (first | assumption | omega | (simp only [nats_len, List.length_map, List.length_set, List.length_replicate, List.length_append, List.length_range, upto_len, els_len, List.length_cons, List.length_nil] <;> omega) | (apply isPure_intro <;> simp))) only [go_sem, hX]
    · rw [List.take_of_length_le (by omega)] at i2
      have e : sqB rows most = true := decide_eq_true ⟨by omega, i2⟩
      rw [e]
      simp -dsimp -implicitDefEqProofs (disch := (first | assumption | omega | (simp only [nats_len, List.length_map, List.length_set, List.length_replicate, List.length_append, List.length_range, upto_len, els_len, List.length_cons, List.length_nil] <;> omega) | (apply isPure_intro <;> simp))) only [go_sem]
theorem sqB_sq {rows : List (List Int)} {most : Int} (h : sqB rows most = true) : Sq rows rows.length ∧ (rows.length : Int) ≤ most := by
  have := of_decide_eq_true h
  exact ⟨⟨rfl, this.2⟩, this.1⟩
theorem read_ret (rows : List (List Int)) (most : Int) (hm : most ≤ 12) (hl : rows.length ≤ 9223372036854775807) (hr : ∀ r ∈ rows, r.length ≤ 9223372036854775807 ∧ ∀ v ∈ r, In64 v) :
    Ret pg n_gimballaw07_read [.sl (rows.map ints), .int .i64 most] (.tup [.sl ((if sqB rows most then rows else []).map ivl), .sl ((if sqB rows most then rows else []).map dvl), .bool (sqB rows most)]) := by
  have h1 := square_ret rows most (by omega) (fun r h => by have := (hr r h).1; omega)
  have h2 := linof_retL rows hl hr
  refine gimballaw07_read.of rfl (W_b ?_)
  unfold gimballaw07_read.k gimballaw07_read.res
  by_cases hs : sqB rows most = true
  · have hq := sqB_sq hs
    have h3 := r7of_ret rows (by omega) fun r h => ⟨by have := hq.1.2 r h; omega, (hr r h).2⟩
    have he : sqE rows = 0 := by
      unfold sqE
      rw [if_neg (by omega), if_neg (fun ⟨r, h1, h2⟩ => h2 (hq.1.2 r h1))]
    rw [he] at h2
    rw [if_pos rfl] at h2
    rw [hs] at h1 ⊢
    rw [if_pos rfl]
    simp -dsimp -implicitDefEqProofs (disch := (first | assumption | omega | (simp only [nats_len, List.length_map, List.length_set, List.length_replicate, List.length_append, List.length_range, upto_len, els_len, List.length_cons, List.length_nil] <;> omega) | (apply isPure_intro <;> simp))) only [go_sem]
    first | refine callB_of (h1) (by simp) ?_ | refine callP_of (h1) (by simp) ?_
    simp -dsimp -implicitDefEqProofs (disch := (first | assumption | omega | (simp only [nats_len, List.length_map, List.length_set, List.length_replicate, List.length_append, List.length_range, upto_len, els_len, List.length_cons, List.length_nil] <;> omega) | (apply isPure_intro <;> simp))) only [go_sem]
    first | refine callB_of (h2) (by simp) ?_ | refine callP_of (h2) (by simp) ?_
    simp -dsimp -implicitDefEqProofs (disch := (first | assumption | omega | (simp only [nats_len, List.length_map, List.length_set, List.length_replicate, List.length_append, List.length_range, upto_len, els_len, List.length_cons, List.length_nil] <;> omega) | (apply isPure_intro <;> simp))) only [go_sem]
    first | refine callB_of (h3) (by simp) ?_ | refine callP_of (h3) (by simp) ?_
    simp -dsimp -implicitDefEqProofs (disch := (first | assumption | omega | (simp only [nats_len, List.length_map, List.length_set, List.length_replicate, List.length_append, List.length_range, upto_len, els_len, List.length_cons, List.length_nil] <;> omega) | (apply isPure_intro <;> simp))) only [go_sem]
  · have hs : sqB rows most = false := by simpa using hs
    rw [hs] at h1 ⊢
    rw [if_neg (by decide)]
    simp -dsimp -implicitDefEqProofs (disch := (first | assumption | omega | (simp only [nats_len, List.length_map, List.length_set, List.length_replicate, List.length_append, List.length_range, upto_len, els_len, List.length_cons, List.length_nil] <;> omega) | (apply isPure_intro <;> simp))) only [go_sem]
    first | refine callB_of (h1) (by simp) ?_ | refine callP_of (h1) (by simp) ?_
    simp -dsimp -implicitDefEqProofs (disch := (first | assumption | omega | (simp only [nats_len, List.length_map, List.length_set, List.length_replicate, List.length_append, List.length_range, upto_len, els_len, List.length_cons, List.length_nil] <;> omega) | (apply isPure_intro <;> simp))) only [go_sem]
def padL (l : List Int) (n : Nat) : List Int := (List.range n).map fun i => l.getD i 0
theorem padL_len (l n) : (padL l n).length = n := by simp [padL]
theorem padL_succ (l n) : padL l (n + 1) = padL l n ++ [l.getD n 0] := by simp [padL, List.range_succ]
theorem getD_in {l : List Int} (h : ∀ v ∈ l, In64 v) (n : Nat) : In64 (l.getD n 0) := by
  by_cases hn : n < l.length
  · exact h _ (getD_mem' 0 hn)
  · rw [List.getD_eq_getElem?_getD, List.getElem?_eq_none (Nat.le_of_not_lt hn)]; decide
theorem Row.lt {lo nx es b k : Nat} {H : Hp} {v : V} {xs : List V} (h : Row lo H nx v es xs) (hv : v = .own b k) : b < nx := by
  rcases h with ⟨h, _⟩ | ⟨d, h1, h2, h3, h4⟩
  · rw [h] at hv; cases hv
  · rw [h1] at hv; cases hv; exact h3
theorem llist_ret (l : List Int) (n : Nat) (hn : n ≤ 1000000) (hl : l.length ≤ 9223372036854775807) (hv : ∀ v ∈ l, In64 v) : Ret pg n_gimballaw07_list [ints l, .int .i64 n] (.tup [ivl (padL l n), dvl (padL l n)]) := by
  refine gimballaw07_list.of rfl (W_b ?_)
  unfold gimballaw07_list.k gimballaw07_list.res
  simp -dsimp -implicitDefEqProofs (disch := (first | assumption | omega | (simp only [nats_len, List.length_map, List.length_set, List.length_replicate, List.length_append, List.length_range, upto_len, els_len, List.length_cons, List.length_nil] <;> omega) | (apply isPure_intro <;> simp))) only [go_sem]
  refine W_loop (T := Nat × V × V × Hp × Nat) (fun t => ⟨E [(0, ints l), (1, .int .i64 n), (6, t.2.1), (7, t.2.2.1), (8, .int .i64 t.1)], t.2.2.2.1, t.2.2.2.2, t.2.2.2.2⟩)
    (fun t => t.1 ≤ n ∧ Row 0 t.2.2.2.1 t.2.2.2.2 t.2.1 2 ((padL l t.1).map IV) ∧ Row 0 t.2.2.2.1 t.2.2.2.2 t.2.2.1 2 ((padL l t.1).map DV) ∧ ∀ b n m, t.2.1 = .own b n → t.2.2.1 = .own b m → False) (fun t => n - t.1) (0, .nil, .nil, _, _) rfl ⟨by dsimp only; omega, Row.nil _ _ _ _, Row.nil _ _ _ _, fun b n m h => by cases h⟩ ?_
  rintro ⟨i, va, vb, H, nx⟩ ⟨i1, i2, i3, i4⟩
  dsimp only at i1 i2 i3 i4
  by_cases hi : i < n
  · have hx : In64 (l.getD i 0) := getD_in hv i
    have hpl := padL_len l i
    have hps := padL_succ l i
    by_cases hil : i < l.length
    · generalize hX : l.getD i 0 = x at *
      simp -dsimp -implicitDefEqProofs (disch := (first | assumption | omega | (simp only [nats_len, List.length_map, List.length_set, List.length_replicate, List.length_append, List.length_range, upto_len, els_len, List.length_cons, List.length_nil] <;> omega) | (apply isPure_intro <;> simp))) only [go_sem, hX]
      refine callB_of (of_ret x hx) (by simp) ?_
      simp -dsimp -implicitDefEqProofs (disch := (first | assumption | omega | (simp only [nats_len, List.length_map, List.length_set, List.length_replicate, List.length_append, List.length_range, upto_len, els_len, List.length_cons, List.length_nil] <;> omega) | (apply isPure_intro <;> simp))) only [go_sem]
      refine effB_row (lo := 0) (nx := nx) (H0 := H) (xs := (padL l i).map IV) i2 (by omega) rfl (by omega) (by omega) (by simp [rowOk, V.cells, V.cellOk, IV, V.isJunk]) (by decide) (by simp; omega) (by simp; omega) fun va' H2 r1 r2 r3 r4 => ?_
      rw [map_app, ← hps] at r1
      simp -dsimp -implicitDefEqProofs (disch := (first | assumption | omega | (simp only [nats_len, List.length_map, List.length_set, List.length_replicate, List.length_append, List.length_range, upto_len, els_len, List.length_cons, List.length_nil] <;> omega) | (apply isPure_intro <;> simp))) only [go_sem]
      refine callB_of (r_of x hx) (by simp) ?_
      simp -dsimp -implicitDefEqProofs (disch := (first | assumption | omega | (simp only [nats_len, List.length_map, List.length_set, List.length_replicate, List.length_append, List.length_range, upto_len, els_len, List.length_cons, List.length_nil] <;> omega) | (apply isPure_intro <;> simp))) only [go_sem]
      refine effB_row (lo := 0) (nx := nx + 18) (H0 := H2) (xs := (padL l i).map DV) (i3.keep r3 (fun b n m h1 h2 => i4 b n m h1 h2) (by omega)) (by omega) rfl (by omega) (by omega) (by simp [rowOk, V.cells, V.cellOk, DV, V.isJunk]) (by decide) (by simp; omega) (by simp; omega) fun vb' H3 s1 s2 s3 s4 => ?_
      rw [map_app, ← hps] at s1
      have hsep : Sep vb va' := fun b n m h1 h2 => by have := i3.lt h1; have := r2 b m h2; omega
      have r1' := r1.keep s3 hsep (Nat.le_refl _)
      simp -dsimp -implicitDefEqProofs (disch := (first | assumption | omega | (simp only [nats_len, List.length_map, List.length_set, List.length_replicate, List.length_append, List.length_range, upto_len, els_len, List.length_cons, List.length_nil] <;> omega) | (apply isPure_intro <;> simp))) only [go_sem]
      exact ⟨(i + 1, va', vb', H3, _), rfl, ⟨by dsimp only; omega, r1'.same (fun _ _ => rfl) (by dsimp only; omega), s1.same (fun _ _ => rfl) (by dsimp only; omega), fun b n m h1 h2 => by have := r1.lt h1; have := s2 b m h2; omega⟩, by dsimp only; omega⟩
    · have h0 : l.getD i 0 = 0 := by rw [List.getD_eq_getElem?_getD, List.getElem?_eq_none (Nat.le_of_not_lt hil)]; rfl
      rw [h0] at hx hps
      simp -dsimp -implicitDefEqProofs (disch := (first | assumption | omega | (simp only [nats_len, List.length_map, List.length_set, List.length_replicate, List.length_append, List.length_range, upto_len, els_len, List.length_cons, List.length_nil] <;> omega) | (apply isPure_intro <;> simp))) only [go_sem]
      refine callB_of (of_ret 0 hx) (by simp) ?_
      simp -dsimp -implicitDefEqProofs (disch := (first | assumption | omega | (simp only [nats_len, List.length_map, List.length_set, List.length_replicate, List.length_append, List.length_range, upto_len, els_len, List.length_cons, List.length_nil] <;> omega) | (apply isPure_intro <;> simp))) only [go_sem]
      refine effB_row (lo := 0) (nx := nx) (H0 := H) (xs := (padL l i).map IV) i2 (by omega) rfl (by omega) (by omega) (by simp [rowOk, V.cells, V.cellOk, IV, V.isJunk]) (by decide) (by simp; omega) (by simp; omega) fun va' H2 r1 r2 r3 r4 => ?_
      rw [map_app, ← hps] at r1
      simp -dsimp -implicitDefEqProofs (disch := (first | assumption | omega | (simp only [nats_len, List.length_map, List.length_set, List.length_replicate, List.length_append, List.length_range, upto_len, els_len, List.length_cons, List.length_nil] <;> omega) | (apply isPure_intro <;> simp))) only [go_sem]
      refine callB_of (r_of 0 hx) (by simp) ?_
      simp -dsimp -implicitDefEqProofs (disch := (first | assumption | omega | (simp only [nats_len, List.length_map, List.length_set, List.length_replicate, List.length_append, List.length_range, upto_len, els_len, List.length_cons, List.length_nil] <;> omega) | (apply isPure_intro <;> simp))) only [go_sem]
      refine effB_row (lo := 0) (nx := nx + 13) (H0 := H2) (xs := (padL l i).map DV) (i3.keep r3 (fun b n m h1 h2 => i4 b n m h1 h2) (by omega)) (by omega) rfl (by omega) (by omega) (by simp [rowOk, V.cells, V.cellOk, DV, V.isJunk]) (by decide) (by simp; omega) (by simp; omega) fun vb' H3 s1 s2 s3 s4 => ?_
      rw [map_app, ← hps] at s1
      have hsep : Sep vb va' := fun b n m h1 h2 => by have := i3.lt h1; have := r2 b m h2; omega
      have r1' := r1.keep s3 hsep (Nat.le_refl _)
      simp -dsimp -implicitDefEqProofs (disch := (first | assumption | omega | (simp only [nats_len, List.length_map, List.length_set, List.length_replicate, List.length_append, List.length_range, upto_len, els_len, List.length_cons, List.length_nil] <;> omega) | (apply isPure_intro <;> simp))) only [go_sem]
      exact ⟨(i + 1, va', vb', H3, _), rfl, ⟨by dsimp only; omega, r1'.same (fun _ _ => rfl) (by dsimp only; omega), s1.same (fun _ _ => rfl) (by dsimp only; omega), fun b n m h1 h2 => by have := r1.lt h1; have := s2 b m h2; omega⟩, by dsimp only; omega⟩
  · have hie : i = n := by omega
    subst hie
    simp -dsimp -implicitDefEqProofs (disch := (first | assumption | omega | (simp only [nats_len, List.length_map, List.length_set, List.length_replicate, List.length_append, List.length_range, upto_len, els_len, List.length_cons, List.length_nil] <;> omega) | (apply isPure_intro <;> simp))) only [go_sem]
    rw [i2.frz (frz_map fun x => frz_IV _ _ _), i3.frz (frz_map fun x => frz_DV _ _ _)]
    rfl
end Go.Gim
/- The chapter's examples: matrices. -/
set_option maxRecDepth 100000
set_option maxHeartbeats 4000000
set_option linter.unusedSimpArgs false
set_option linter.unusedVariables false
namespace Go.Gim
open Go.Proofs
def fzt (c : Nat) (xs : List V) (d : Nat) (ys : List V) (e : Nat) (zs : List V) : Nat → Option (List V) := fun b => if b = c then some xs else if b = d then some ys else if b = e then some zs else none
@[go_sem] theorem fzt_at (c xs d ys e zs b) : fzt c xs d ys e zs b = sel (b = c) (some xs) (sel (b = d) (some ys) (sel (b = e) (some zs) none dp dp) dp dp) dp dp := rfl
theorem fzt_ok {H : Hp} {c d e es es' es'' : Nat} {xs ys ds zs : List V} (hcd : d ≠ c) (hec : e ≠ c) (hed : e ≠ d) (hb : H c = some ⟨xs, es⟩) (hp : ∀ x ∈ xs, V.Pure x) (hd : H d = some ⟨ys, es'⟩) (hq : ∀ x ∈ ys, V.Pure x) (he : H e = some ⟨ds, es''⟩) (hy : ds.map (V.sub (fzt c xs d ys e zs)) = zs) (hr : ∀ x ∈ zs, ∀ c ∈ x.cells, V.Pure c) : Fz H (fzt c xs d ys e zs) := fun b ws h => by
  have hc : ∀ l : List V, (∀ x ∈ l, V.Pure x) → ∀ x ∈ l, ∀ c ∈ x.cells, V.Pure c := fun l hl x hx => (hl x hx).cells
  unfold fzt at h
  by_cases h1 : b = c
  · rw [if_pos h1] at h; cases h; subst h1; exact ⟨_, hb, (map_sub_pure hp _).symm, hc _ hp⟩
  · rw [if_neg h1] at h
    by_cases h2 : b = d
    · rw [if_pos h2] at h; cases h; subst h2; exact ⟨_, hd, (map_sub_pure hq _).symm, hc _ hq⟩
    · rw [if_neg h2] at h
      by_cases h3 : b = e
      · rw [if_pos h3] at h; cases h; subst h3; exact ⟨_, he, hy.symm, hr⟩
      · rw [if_neg h3] at h; cases h
theorem numsL_numsF {r : List Int} (h : (r.all fun x => decide (x.natAbs < 100000000000000000000)) = true) : numsL r = r.flatMap fun x => decF x ++ [32] := flat_congr fun x hx => by rw [decL_decF (of_decide_eq_true (List.all_eq_true.1 h x hx))]
theorem awake07_ret : Ret pg n_gimballaw07_awake [] (.bool true) := by
  have hof : ∀ a b c d : Int, In64 a → In64 b → In64 c → In64 d → Ret pg n_lin_Of [.sl [ints [a, b], ints [c, d]]] (.tup [.sl [ivl [a, b], ivl [c, d]], .int .i64 0]) := fun a b c d ha hb hc hd => by
    have := linof_ret [[a, b], [c, d]] (by simp) (fun r hr => by
      simp at hr
      rcases hr with rfl | rfl
      · exact ⟨by simp, fun v hv => by simp at hv; rcases hv with rfl | rfl <;> assumption⟩
      · exact ⟨by simp, fun v hv => by simp at hv; rcases hv with rfl | rfl <;> assumption⟩)
    have he : sqE [[a, b], [c, d]] = 0 := by unfold sqE; rw [if_neg (by simp), if_neg (by simp)]
    rw [he] at this
    exact this
  have hA := hof 2 1 1 3 (by decide) (by decide) (by decide) (by decide)
  have hB := hof 1 2 2 4 (by decide) (by decide) (by decide) (by decide)
  have hC := hof 1 2 2 1 (by decide) (by decide) (by decide) (by decide)
  have hD := hof 1 0 1 1 (by decide) (by decide) (by decide) (by decide)
  have two : ∀ a b c d : Int, In64 a → In64 b → In64 c → In64 d → Sq [[a, b], [c, d]] 2 ∧ ∀ i j, lim (at2 [[a, b], [c, d]] i j) ≤ 2 := fun a b c d ha hb hc hd => ⟨⟨rfl, fun r hr => by simp at hr; rcases hr with rfl | rfl <;> rfl⟩, Sq.sm fun r hr v hv => by
    simp at hr
    rcases hr with rfl | rfl <;> (simp at hv; rcases hv with rfl | rfl <;> assumption)⟩
  have lim1 : ∀ a b : Int, In64 a → In64 b → ∀ i, lim ([a, b].getD i 0) ≤ 2 := fun a b ha hb i => lim_i64 (getD_in (l := [a, b]) (fun v hv => by simp at hv; rcases hv with rfl | rfl <;> assumption) i)
  have tA := two 2 1 1 3 (by decide) (by decide) (by decide) (by decide)
  have tB := two 1 2 2 4 (by decide) (by decide) (by decide) (by decide)
  have tC := two 1 2 2 1 (by decide) (by decide) (by decide) (by decide)
  have tD := two 1 0 1 1 (by decide) (by decide) (by decide) (by decide)
  have dA := ldet_ret _ 2 2 (by decide) (by decide) tA.1 tA.2
  have dB := ldet_ret _ 2 2 (by decide) (by decide) tB.1 tB.2
  rw [show detS 2 (at2 [[2, 1], [1, 3]]) = 5 by decide] at dA
  rw [show detS 2 (at2 [[1, 2], [2, 4]]) = 0 by decide] at dB
  have sA := lsolve_ret _ [1, 2] 2 2 (by decide) (by decide) tA.1 rfl tA.2 (lim1 1 2 (by decide) (by decide))
  rw [show detS 2 (at2 [[2, 1], [1, 3]]) = 5 by decide, show solveS 2 (at2 [[2, 1], [1, 3]]) (fun i => [1, 2].getD i 0) = some [1, 3] by decide] at sA
  have sB := lsolve_ret _ [1, 2] 2 2 (by decide) (by decide) tB.1 rfl tB.2 (lim1 1 2 (by decide) (by decide))
  rw [show detS 2 (at2 [[1, 2], [2, 4]]) = 0 by decide, show solveS 2 (at2 [[1, 2], [2, 4]]) (fun i => [1, 2].getD i 0) = none by decide] at sB
  have fA := ldefinite_ret _ 2 2 (by decide) (by decide) tA.1 tA.2
  have fC := ldefinite_ret _ 2 2 (by decide) (by decide) tC.1 tC.2
  have fD := ldefinite_ret _ 2 2 (by decide) (by decide) tD.1 tD.2
  rw [show defS 2 (at2 [[2, 1], [1, 3]]) = true by decide] at fA
  rw [show defS 2 (at2 [[1, 2], [2, 1]]) = false by decide] at fC
  rw [show defS 2 (at2 [[1, 0], [1, 1]]) = false by decide] at fD
  have qA := lquad_ret _ [1, -1] 2 (by decide) tA.1 rfl (fun i j => by have := tA.2 i j; omega) (fun i => by have := lim1 1 (-1) (by decide) (by decide) i; omega)
  rw [show quadV [[2, 1], [1, 3]] [1, -1] 2 = 3 by decide] at qA
  have l1 := llist_ret [1, 2] 2 (by decide) (by decide) (by decide)
  have l2 := llist_ret [1, -1] 2 (by decide) (by decide) (by decide)
  rw [show padL [1, 2] 2 = [1, 2] by rfl] at l1
  rw [show padL [1, -1] 2 = [1, -1] by rfl] at l2
  have st : ∀ v : Int, In64 v → Ret pg n_long_Int_String [IV v] (.str (bst (decL v))) := fun v hv => string_ret v (by have := lim_i64 hv; omega)
  have tx := text7_ret [1, 3] (by decide) (fun x hx => by
    have : In64 x := by simp at hx; rcases hx with rfl | rfl <;> decide
    have := lim_i64 this; omega)
  have e1 : ∀ (v : Int) (b : List Nat), (decide (v.natAbs < 100000000000000000000) && decide (decF v = b)) = true → strV .eql (bst (decL v)) (bst b) = some (.bool true) := fun v b h => bst_eq (by
    rw [Bool.and_eq_true, decide_eq_true_eq, decide_eq_true_eq] at h
    rw [decL_decF h.1, h.2])
  have q5 := e1 5 [53] (by decide)
  have q0 := e1 0 [48] (by decide)
  have q3 := e1 3 [51] (by decide)
  have q13 : strV .eql (bst (numsL [1, 3])) (bst [49, 32, 51, 32]) = some (.bool true) := bst_eq (by rw [numsL_numsF (by decide)]; decide)
  have b5 : (⟨#[53]⟩ : ByteArray) = bst [53] := rfl
  have b0 : (⟨#[48]⟩ : ByteArray) = bst [48] := rfl
  have b3 : (⟨#[51]⟩ : ByteArray) = bst [51] := rfl
  have b13 : (⟨#[49, 32, 51, 32]⟩ : ByteArray) = bst [49, 32, 51, 32] := rfl
  refine gimballaw07_awake.of rfl (W_b ?_)
  unfold gimballaw07_awake.k gimballaw07_awake.res
  simp -dsimp -implicitDefEqProofs (disch := (first | assumption | omega | (simp only [nats_len, List.length_map, List.length_set, List.length_replicate, List.length_append, List.length_range, upto_len, els_len, List.length_cons, List.length_nil] <;> omega) | (apply isPure_intro <;> simp))) only [go_sem]
  refine callB_frE (fzt 1 [.int .i64 2, .int .i64 1] 2 [.int .i64 1, .int .i64 3] 3 [ints [2, 1], ints [1, 3]]) (fzt_ok (es := 1) (es' := 1) (es'' := 1) (by decide) (by decide) (by decide) (by rfl) (by simp) (by rfl) (by simp) (by rfl) (by simp -dsimp -implicitDefEqProofs (disch := (first | assumption | omega | (simp only [nats_len, List.length_map, List.length_set, List.length_replicate, List.length_append, List.length_range, upto_len, els_len, List.length_cons, List.length_nil] <;> omega) | (apply isPure_intro <;> simp))) only [go_sem]; rfl) (by simp [ints, V.cells])) (by simp -dsimp -implicitDefEqProofs (disch := (first | assumption | omega | (simp only [nats_len, List.length_map, List.length_set, List.length_replicate, List.length_append, List.length_range, upto_len, els_len, List.length_cons, List.length_nil] <;> omega) | (apply isPure_intro <;> simp))) only [go_sem]) hA (by simp) ?_
  simp -dsimp -implicitDefEqProofs (disch := (first | assumption | omega | (simp only [nats_len, List.length_map, List.length_set, List.length_replicate, List.length_append, List.length_range, upto_len, els_len, List.length_cons, List.length_nil] <;> omega) | (apply isPure_intro <;> simp))) only [go_sem]
  refine callB_frE (fzt 10 [.int .i64 1, .int .i64 2] 11 [.int .i64 2, .int .i64 4] 12 [ints [1, 2], ints [2, 4]]) (fzt_ok (es := 1) (es' := 1) (es'' := 1) (by decide) (by decide) (by decide) (by rfl) (by simp) (by rfl) (by simp) (by rfl) (by simp -dsimp -implicitDefEqProofs (disch := (first | assumption | omega | (simp only [nats_len, List.length_map, List.length_set, List.length_replicate, List.length_append, List.length_range, upto_len, els_len, List.length_cons, List.length_nil] <;> omega) | (apply isPure_intro <;> simp))) only [go_sem]; rfl) (by simp [ints, V.cells])) (by simp -dsimp -implicitDefEqProofs (disch := (first | assumption | omega | (simp only [nats_len, List.length_map, List.length_set, List.length_replicate, List.length_append, List.length_range, upto_len, els_len, List.length_cons, List.length_nil] <;> omega) | (apply isPure_intro <;> simp))) only [go_sem]) hB (by simp) ?_
  simp -dsimp -implicitDefEqProofs (disch := (first | assumption | omega | (simp only [nats_len, List.length_map, List.length_set, List.length_replicate, List.length_append, List.length_range, upto_len, els_len, List.length_cons, List.length_nil] <;> omega) | (apply isPure_intro <;> simp))) only [go_sem]
  refine callB_frE (fzt 19 [.int .i64 1, .int .i64 2] 20 [.int .i64 2, .int .i64 1] 21 [ints [1, 2], ints [2, 1]]) (fzt_ok (es := 1) (es' := 1) (es'' := 1) (by decide) (by decide) (by decide) (by rfl) (by simp) (by rfl) (by simp) (by rfl) (by simp -dsimp -implicitDefEqProofs (disch := (first | assumption | omega | (simp only [nats_len, List.length_map, List.length_set, List.length_replicate, List.length_append, List.length_range, upto_len, els_len, List.length_cons, List.length_nil] <;> omega) | (apply isPure_intro <;> simp))) only [go_sem]; rfl) (by simp [ints, V.cells])) (by simp -dsimp -implicitDefEqProofs (disch := (first | assumption | omega | (simp only [nats_len, List.length_map, List.length_set, List.length_replicate, List.length_append, List.length_range, upto_len, els_len, List.length_cons, List.length_nil] <;> omega) | (apply isPure_intro <;> simp))) only [go_sem]) hC (by simp) ?_
  simp -dsimp -implicitDefEqProofs (disch := (first | assumption | omega | (simp only [nats_len, List.length_map, List.length_set, List.length_replicate, List.length_append, List.length_range, upto_len, els_len, List.length_cons, List.length_nil] <;> omega) | (apply isPure_intro <;> simp))) only [go_sem]
  refine callB_frE (fzt 28 [.int .i64 1, .int .i64 0] 29 [.int .i64 1, .int .i64 1] 30 [ints [1, 0], ints [1, 1]]) (fzt_ok (es := 1) (es' := 1) (es'' := 1) (by decide) (by decide) (by decide) (by rfl) (by simp) (by rfl) (by simp) (by rfl) (by simp -dsimp -implicitDefEqProofs (disch := (first | assumption | omega | (simp only [nats_len, List.length_map, List.length_set, List.length_replicate, List.length_append, List.length_range, upto_len, els_len, List.length_cons, List.length_nil] <;> omega) | (apply isPure_intro <;> simp))) only [go_sem]; rfl) (by simp [ints, V.cells])) (by simp -dsimp -implicitDefEqProofs (disch := (first | assumption | omega | (simp only [nats_len, List.length_map, List.length_set, List.length_replicate, List.length_append, List.length_range, upto_len, els_len, List.length_cons, List.length_nil] <;> omega) | (apply isPure_intro <;> simp))) only [go_sem]) hD (by simp) ?_
  simp -dsimp -implicitDefEqProofs (disch := (first | assumption | omega | (simp only [nats_len, List.length_map, List.length_set, List.length_replicate, List.length_append, List.length_range, upto_len, els_len, List.length_cons, List.length_nil] <;> omega) | (apply isPure_intro <;> simp))) only [go_sem]
  refine callB_frE (fz1 63 [.int .i64 1, .int .i64 2]) (fz1_ok (es := 1) (by rfl) (by simp)) (by simp -dsimp -implicitDefEqProofs (disch := (first | assumption | omega | (simp only [nats_len, List.length_map, List.length_set, List.length_replicate, List.length_append, List.length_range, upto_len, els_len, List.length_cons, List.length_nil] <;> omega) | (apply isPure_intro <;> simp))) only [go_sem]; rfl) l1 (by simp) ?_
  simp -dsimp -implicitDefEqProofs (disch := (first | assumption | omega | (simp only [nats_len, List.length_map, List.length_set, List.length_replicate, List.length_append, List.length_range, upto_len, els_len, List.length_cons, List.length_nil] <;> omega) | (apply isPure_intro <;> simp))) only [go_sem]
  refine callB_frE (fz1 70 [.int .i64 1, .int .i64 (-1)]) (fz1_ok (es := 1) (by rfl) (by simp)) (by simp -dsimp -implicitDefEqProofs (disch := (first | assumption | omega | (simp only [nats_len, List.length_map, List.length_set, List.length_replicate, List.length_append, List.length_range, upto_len, els_len, List.length_cons, List.length_nil] <;> omega) | (apply isPure_intro <;> simp))) only [go_sem]; rfl) l2 (by simp) ?_
  simp -dsimp -implicitDefEqProofs (disch := (first | assumption | omega | (simp only [nats_len, List.length_map, List.length_set, List.length_replicate, List.length_append, List.length_range, upto_len, els_len, List.length_cons, List.length_nil] <;> omega) | (apply isPure_intro <;> simp))) only [go_sem]
  first | refine callB_of (dA) (by simp) ?_ | refine callP_of (dA) (by simp) ?_
  simp -dsimp -implicitDefEqProofs (disch := (first | assumption | omega | (simp only [nats_len, List.length_map, List.length_set, List.length_replicate, List.length_append, List.length_range, upto_len, els_len, List.length_cons, List.length_nil] <;> omega) | (apply isPure_intro <;> simp))) only [go_sem]
  first | refine callB_of (st 5 (by decide)) (by simp) ?_ | refine callP_of (st 5 (by decide)) (by simp) ?_
  simp -dsimp -implicitDefEqProofs (disch := (first | assumption | omega | (simp only [nats_len, List.length_map, List.length_set, List.length_replicate, List.length_append, List.length_range, upto_len, els_len, List.length_cons, List.length_nil] <;> omega) | (apply isPure_intro <;> simp))) only [go_sem]
  first | refine callB_of (dB) (by simp) ?_ | refine callP_of (dB) (by simp) ?_
  simp -dsimp -implicitDefEqProofs (disch := (first | assumption | omega | (simp only [nats_len, List.length_map, List.length_set, List.length_replicate, List.length_append, List.length_range, upto_len, els_len, List.length_cons, List.length_nil] <;> omega) | (apply isPure_intro <;> simp))) only [go_sem]
  first | refine callB_of (st 0 (by decide)) (by simp) ?_ | refine callP_of (st 0 (by decide)) (by simp) ?_
  simp -dsimp -implicitDefEqProofs (disch := (first | assumption | omega | (simp only [nats_len, List.length_map, List.length_set, List.length_replicate, List.length_append, List.length_range, upto_len, els_len, List.length_cons, List.length_nil] <;> omega) | (apply isPure_intro <;> simp))) only [go_sem]
  unfold solveV at sA sB
  first | refine callB_of (sA) (by simp) ?_ | refine callP_of (sA) (by simp) ?_
  simp -dsimp -implicitDefEqProofs (disch := (first | assumption | omega | (simp only [nats_len, List.length_map, List.length_set, List.length_replicate, List.length_append, List.length_range, upto_len, els_len, List.length_cons, List.length_nil] <;> omega) | (apply isPure_intro <;> simp))) only [go_sem, ← IV_zero]
  first | refine callB_of (sB) (by simp) ?_ | refine callP_of (sB) (by simp) ?_
  simp -dsimp -implicitDefEqProofs (disch := (first | assumption | omega | (simp only [nats_len, List.length_map, List.length_set, List.length_replicate, List.length_append, List.length_range, upto_len, els_len, List.length_cons, List.length_nil] <;> omega) | (apply isPure_intro <;> simp))) only [go_sem, ← IV_zero]
  first | refine callB_of (st 5 (by decide)) (by simp) ?_ | refine callP_of (st 5 (by decide)) (by simp) ?_
  simp -dsimp -implicitDefEqProofs (disch := (first | assumption | omega | (simp only [nats_len, List.length_map, List.length_set, List.length_replicate, List.length_append, List.length_range, upto_len, els_len, List.length_cons, List.length_nil] <;> omega) | (apply isPure_intro <;> simp))) only [go_sem]
  first | refine callB_of (fA) (by simp) ?_ | refine callP_of (fA) (by simp) ?_
  simp -dsimp -implicitDefEqProofs (disch := (first | assumption | omega | (simp only [nats_len, List.length_map, List.length_set, List.length_replicate, List.length_append, List.length_range, upto_len, els_len, List.length_cons, List.length_nil] <;> omega) | (apply isPure_intro <;> simp))) only [go_sem]
  first | refine callB_of (fC) (by simp) ?_ | refine callP_of (fC) (by simp) ?_
  simp -dsimp -implicitDefEqProofs (disch := (first | assumption | omega | (simp only [nats_len, List.length_map, List.length_set, List.length_replicate, List.length_append, List.length_range, upto_len, els_len, List.length_cons, List.length_nil] <;> omega) | (apply isPure_intro <;> simp))) only [go_sem]
  first | refine callB_of (fD) (by simp) ?_ | refine callP_of (fD) (by simp) ?_
  simp -dsimp -implicitDefEqProofs (disch := (first | assumption | omega | (simp only [nats_len, List.length_map, List.length_set, List.length_replicate, List.length_append, List.length_range, upto_len, els_len, List.length_cons, List.length_nil] <;> omega) | (apply isPure_intro <;> simp))) only [go_sem]
  first | refine callB_of (qA) (by simp) ?_ | refine callP_of (qA) (by simp) ?_
  simp -dsimp -implicitDefEqProofs (disch := (first | assumption | omega | (simp only [nats_len, List.length_map, List.length_set, List.length_replicate, List.length_append, List.length_range, upto_len, els_len, List.length_cons, List.length_nil] <;> omega) | (apply isPure_intro <;> simp))) only [go_sem]
  first | refine callB_of (st 3 (by decide)) (by simp) ?_ | refine callP_of (st 3 (by decide)) (by simp) ?_
  simp -dsimp -implicitDefEqProofs (disch := (first | assumption | omega | (simp only [nats_len, List.length_map, List.length_set, List.length_replicate, List.length_append, List.length_range, upto_len, els_len, List.length_cons, List.length_nil] <;> omega) | (apply isPure_intro <;> simp))) only [go_sem, b5, b0, b3, b13, q5, q0, q3, q13]
  first | refine callB_of (tx) (by simp) ?_ | refine callP_of (tx) (by simp) ?_
  simp -dsimp -implicitDefEqProofs (disch := (first | assumption | omega | (simp only [nats_len, List.length_map, List.length_set, List.length_replicate, List.length_append, List.length_range, upto_len, els_len, List.length_cons, List.length_nil] <;> omega) | (apply isPure_intro <;> simp))) only [go_sem, b5, b0, b3, b13, q5, q0, q3, q13]
end Go.Gim
/- Products do not hang on brackets. -/
set_option maxRecDepth 100000
set_option maxHeartbeats 4000000
set_option linter.unusedSimpArgs false
set_option linter.unusedVariables false
namespace Go.Gim
open Go.Proofs
theorem mulS_lim {n A B : Nat} {M N : Nat → Nat → Int} (hM : ∀ i j, lim (M i j) ≤ A) (hN : ∀ i j, lim (N i j) ≤ B) (i j : Nat) : lim (mulS n M N i j) ≤ A + B + n := sumN_lim (L := A + B) (fun k => by have := hM i k; have := hN k j; omega) n
end Go.Gim
/- What solves equations solves them. -/
set_option maxRecDepth 100000
set_option maxHeartbeats 4000000
set_option linter.unusedSimpArgs false
set_option linter.unusedVariables false
namespace Go.Gim
open Go.Proofs
theorem det_pw {n L : Nat} {M : Mx} (hlim : ∀ i j, lim (M i j) ≤ L) : lim (det n M) ≤ 2 ^ n * (L + 1) := by
  rw [← detS_eq]
  have hX : ∀ X o, sweep n (augF n M fun _ => 0) = some (X, o) → ∀ i j, i < n → j < n + 1 → lim (X i j) + 1 ≤ 2 ^ n * (L + 1) := fun X o hs =>
    sweepGo_lim (k := 0) (D := L + 1) (by omega) (fun i j hi hj => by have := augF_lim (n := n) (M := M) (c := fun _ => 0) (L := L) hlim (fun i => by rw [lim_zero]; omega) i j; omega) hs
  have h2 : 1 ≤ 2 ^ n * (L + 1) := Nat.mul_pos (Nat.pow_pos (by decide)) (by omega)
  unfold detS
  generalize sweep n (augF n M fun _ => 0) = o at hX ⊢
  rcases o with _ | ⟨X, odd⟩
  · dsimp only; rw [lim_zero]; omega
  · have hX := hX X odd rfl
    dsimp only
    split
    · have : lim 1 ≤ 1 := lim_of (by decide)
      omega
    · have := hX (n - 1) (n - 1) (by omega) (by omega)
      unfold sgnO
      split
      · rw [lim_neg]; omega
      · omega
theorem det_sm {n L : Nat} {M : Mx} (hn : n ≤ 12) (hL : L ≤ 100) (hlim : ∀ i j, lim (M i j) ≤ L) : lim (det n M) ≤ 413696 := by
  have h2 : 2 ^ n ≤ 2 ^ 12 := Nat.pow_le_pow_right (by decide) hn
  have h3 : 2 ^ n * (L + 1) ≤ 4096 * 101 := Nat.mul_le_mul h2 (by omega)
  have := det_pw (n := n) hlim
  omega
end Go.Gim
/- A matrix times its turned one, and one on the diagonal, is definite. -/
set_option maxRecDepth 100000
set_option maxHeartbeats 4000000
set_option linter.unusedSimpArgs false
set_option linter.unusedVariables false
namespace Go.Gim
open Go.Proofs
theorem effB_copy {id es bytes c : Nat} {H H0 : Hp} {ys : List V} {K : V → Hp → Prop} {u : Dep K} (hH : H = H0.upd c (some ⟨[], es⟩)) (he : rowOk es ys = true) (h0 : 0 < es) (hb : ys.length * bytes ≤ 140737488355328) (hb2 : ys.length ≤ 140737488355328)
    (hk : K (.own id ys.length) ((H.upd c none).upd id (some ⟨ys, es⟩))) : effB (effV H id (.app es bytes) [.own c 0, .sl ys]) K u := by
  subst hH
  refine effB_of (app_own (blk := ⟨[], es⟩) (news := ys) rfl he h0 (Hp.upd_same _ _ _) rfl rfl (by simpa using hb) (by simpa using hb2) rfl) ?_
  simpa using hk
theorem rowOk_iv (l : List Int) : rowOk 2 (l.map IV) = true := by simp [rowOk, V.isJunk, V.cells, V.cellOk, IV]
end Go.Gim
/- Determinants are multiplied with matrices. -/
set_option maxRecDepth 100000
set_option maxHeartbeats 4000000
set_option linter.unusedSimpArgs false
set_option linter.unusedVariables false
namespace Go.Gim
open Go.Proofs
def fzM (bm n w : Nat) (r : Nat → Nat) (M : Mx) : Nat → Option (List V) := fun b => if b = bm then some ((List.range n).map fun i => ivl (rowF w (M i))) else ((List.range n).find? fun i => decide (r i = b)).map fun i => (rowF w (M i)).map IV
theorem LayM.fzr {G : Hp} {lo nx n w bm : Nat} {r : Nat → Nat} {M : Mx} (h : LayM G lo nx n w bm r M) {i : Nat} (hi : i < n) : fzM bm n w r M (r i) = some ((rowF w (M i)).map IV) := by
  unfold fzM
  rw [if_neg (h.ne i hi)]
  have : (List.range n).find? (fun k => decide (r k = r i)) = some i := by
    cases e : (List.range n).find? fun k => decide (r k = r i) with
    | none =>
      have := List.find?_eq_none.1 e i (List.mem_range.2 hi)
      simp at this
    | some k =>
      have h1 := List.find?_some e
      have h2 := List.mem_of_find?_eq_some e
      rw [h.inj k i (List.mem_range.1 h2) hi (of_decide_eq_true h1)]
  rw [this]; rfl
theorem LayM.fz_none {G : Hp} {lo nx n w bm : Nat} {r : Nat → Nat} {M : Mx} (h : LayM G lo nx n w bm r M) {b : Nat} (hb : b < lo ∨ nx ≤ b) : fzM bm n w r M b = none := by
  unfold fzM
  have := h.lm
  rw [if_neg (by omega)]
  have : (List.range n).find? (fun k => decide (r k = b)) = none := List.find?_eq_none.2 fun k hk => by
    have := h.lt k (List.mem_range.1 hk)
    simp; omega
  rw [this]; rfl
theorem LayM.fz {G : Hp} {lo nx n w bm : Nat} {r : Nat → Nat} {M : Mx} (h : LayM G lo nx n w bm r M) : Fz G (fzM bm n w r M) := fun b ys hb => by
  by_cases e : b = bm
  · subst e
    have : fzM b n w r M b = some ((List.range n).map fun i => ivl (rowF w (M i))) := by unfold fzM; rw [if_pos rfl]
    rw [this] at hb
    cases hb
    refine ⟨_, h.hm, ?_, fun x hx => ?_⟩
    · rw [List.map_map]
      refine List.map_congr_left fun i hi => ?_
      show ivl (rowF w (M i)) = V.sub _ (.own (r i) w)
      simp only [V.sub, h.fzr (List.mem_range.1 hi), List.length_map, rowF_len, if_true]
      rfl
    · obtain ⟨i, _, rfl⟩ := List.mem_map.1 hx
      exact (ivl_pure _).cells
  · unfold fzM at hb
    rw [if_neg e] at hb
    cases e2 : (List.range n).find? fun k => decide (r k = b) with
    | none => rw [e2] at hb; cases hb
    | some k =>
      rw [e2] at hb
      have h1 : r k = b := by have := List.find?_some (p := fun k => decide (r k = b)) e2; simpa using this
      have h2 := List.mem_range.1 (List.mem_of_find?_eq_some e2)
      cases hb
      refine ⟨_, h1 ▸ h.hr k h2, ?_, fun x hx => ?_⟩
      · exact (map_sub_pure (pure_map fun x => by simp) _).symm
      · obtain ⟨x', _, rfl⟩ := List.mem_map.1 hx
        exact (show (IV x').Pure by simp).cells
theorem LayM.fz_bm {bm n w : Nat} {r : Nat → Nat} {M : Mx} : fzM bm n w r M bm = some ((List.range n).map fun i => ivl (rowF w (M i))) := by unfold fzM; rw [if_pos rfl]
structure LayR (G : Hp) (lo nx i w : Nat) (r : Nat → Nat) (M : Mx) : Prop where
  hr : ∀ k, k < i → G (r k) = some ⟨(rowF w (M k)).map IV, 2⟩
  inj : ∀ k j, k < i → j < i → r k = r j → k = j
  lt : ∀ k, k < i → lo ≤ r k ∧ r k < nx
theorem LayR.mono {G G' : Hp} {lo nx nx' i w : Nat} {r : Nat → Nat} {M : Mx} (h : LayR G lo nx i w r M) (hG : ∀ c es xs, lo ≤ c → c < nx → G c = some ⟨xs, es⟩ → es = 2 → G' c = G c) (hn : nx ≤ nx') : LayR G' lo nx' i w r M :=
  ⟨fun k hk => by rw [hG _ _ _ (h.lt k hk).1 (h.lt k hk).2 (h.hr k hk) rfl]; exact h.hr k hk, h.inj, fun k hk => ⟨(h.lt k hk).1, Nat.lt_of_lt_of_le (h.lt k hk).2 hn⟩⟩
theorem Row.ne_size {lo nx es es' b : Nat} {H : Hp} {v : V} {xs ys : List V} (h : Row lo H nx v es xs) (hb : H b = some ⟨ys, es'⟩) (hne : es ≠ es') (n : Nat) : v ≠ .own b n := fun e => by
  rcases h with ⟨h, _⟩ | ⟨d, h1, _, _, h4⟩
  · rw [h] at e; cases e
  · rw [h1] at e; cases e; rw [hb] at h4; cases h4; exact hne rfl
theorem storeO_fn {b n i : Nat} {f : Nat → V} {x : V} (hi : i < n) (hf : (f i).cells.length = 1) (hx : x.cells.length = 1) (ha : x.isAgg = (f i).isAgg) (hc : x.cells.all V.cellOk = true) : storeO b (some ⟨(List.range n).map f, 1⟩) n i 0 1 x = some (b, ⟨(List.range n).map fun k => if k = i then x else f k, 1⟩) := by
  rw [storeO_gen (size := 1) (es := 1) (e := f i) (by simp) (by simp [hi]) hf hx ha hc, range_set]
def addN (M : Mx) (a c : Nat) (t : Int) (j : Nat) : Mx := fun p q => if p = a ∧ q < j then M p q + t * M c q else M p q
theorem gh_fzg {P : Program} {a : K} {Q : AX → St → Prop} {u : Dep Q} {l l1 : List (Nat × V)} {H : Hp} {nx : Nat} (g : Nat → Option (List V)) (hg : Fz H g) (hl : l.map (fun p => (p.1, p.2.sub g)) = l1) (hk : Wb P a Q u ⟨E l1, H.sub g, nx, nx⟩) : Wb P (.gh a) Q u ⟨E l, H, nx, nx⟩ :=
  W_gh (by have := Ghost.fz ⟨E l, H, nx, nx⟩ g hg; unfold St.fz at this; rw [E_subl, hl] at this; exact this) hk
theorem LinRules_true (rows others : List (List Int)) (i k times : Int) (hl : rows.length ≤ 9223372036854775807) (hr : ∀ r ∈ rows, r.length ≤ 9223372036854775807 ∧ ∀ v ∈ r, In64 v) (hl2 : others.length ≤ 9223372036854775807) (hr2 : ∀ r ∈ others, r.length ≤ 9223372036854775807 ∧ ∀ v ∈ r, In64 v)
    (hi : In64 i) (hk : In64 k) (ht : In64 times) : Ret pg n_gimballaw07_LinRules [.sl (rows.map ints), .sl (others.map ints), .int .i64 i, .int .i64 k, .int .i64 times] (.bool true) := by
  have g1 := read_ret rows 7 (by decide) hl hr
  have g2 := read_ret others 7 (by decide) hl2 hr2
  obtain ⟨n, hn⟩ : ∃ n, rows.length = n := ⟨_, rfl⟩
  refine gimballaw07_LinRules.of rfl (W_b ?_)
  unfold gimballaw07_LinRules.k gimballaw07_LinRules.res
  simp -dsimp -implicitDefEqProofs (disch := (first | assumption | omega | (simp only [nats_len, List.length_map, List.length_set, List.length_replicate, List.length_append, List.length_range, upto_len, els_len, List.length_cons, List.length_nil] <;> omega) | (apply isPure_intro <;> simp))) only [go_sem]
  first | refine callB_of (awake07_ret) (by simp) ?_ | refine callP_of (awake07_ret) (by simp) ?_
  simp -dsimp -implicitDefEqProofs (disch := (first | assumption | omega | (simp only [nats_len, List.length_map, List.length_set, List.length_replicate, List.length_append, List.length_range, upto_len, els_len, List.length_cons, List.length_nil] <;> omega) | (apply isPure_intro <;> simp))) only [go_sem]
  first | refine callB_of (g1) (by simp) ?_ | refine callP_of (g1) (by simp) ?_
  simp -dsimp -implicitDefEqProofs (disch := (first | assumption | omega | (simp only [nats_len, List.length_map, List.length_set, List.length_replicate, List.length_append, List.length_range, upto_len, els_len, List.length_cons, List.length_nil] <;> omega) | (apply isPure_intro <;> simp))) only [go_sem]
  first | refine callB_of (g2) (by simp) ?_ | refine callP_of (g2) (by simp) ?_
  by_cases h1 : sqB rows 7 = true
  · by_cases h2 : sqB others 7 = true
    · rw [h1, h2]
      by_cases e1 : others.length = n
      · simp -dsimp -implicitDefEqProofs (disch := (first | assumption | omega | (simp only [nats_len, List.length_map, List.length_set, List.length_replicate, List.length_append, List.length_range, upto_len, els_len, List.length_cons, List.length_nil] <;> omega) | (apply isPure_intro <;> simp))) only [go_sem, hn, e1]
        have q1 := (sqB_sq h1).1
        have q2 := (sqB_sq h2).1
        have hn7 := (sqB_sq h1).2
        rw [hn] at q1 hn7
        rw [e1] at q2
        have hn7 : n ≤ 7 := by omega
        have sA : ∀ i j, lim (at2 rows i j) ≤ 2 := Sq.sm fun r h v hv => (hr r h).2 v hv
        have sB : ∀ i j, lim (at2 others i j) ≤ 2 := Sq.sm fun r h v hv => (hr2 r h).2 v hv
        have sAB : ∀ i j, lim (mulS n (at2 rows) (at2 others) i j) ≤ 11 := fun i j => by have := mulS_lim (n := n) sA sB i j; omega
        have sAB' := lim_at_mat (n := n) sAB
        have sT : ∀ i j, lim (at2 (mat n fun i j => at2 rows j i) i j) ≤ 2 := lim_at_mat fun i j => sA j i
        have c1 := ldet_ret rows n 2 (by omega) (by omega) q1 sA
        have c2 := lmul_ret rows others n (by omega) q1 q2 (fun i j => by have := sA i j; omega) (fun i j => by have := sB i j; omega)
        have c3 := ldet_ret (mat n (mulS n (at2 rows) (at2 others))) n 11 (by omega) (by omega) (mat_sq n _) sAB'
        have c4 := ldet_ret others n 2 (by omega) (by omega) q2 sB
        have c5 := turned_ret rows n (by omega) q1
        have c6 := ldet_ret (mat n fun i j => at2 rows j i) n 2 (by omega) (by omega) (mat_sq n _) sT
        rw [detS_eq] at c1 c3 c4 c6
        have hE1 : det n (at2 (mat n (mulS n (at2 rows) (at2 others)))) = det n (at2 rows) * det n (at2 others) := by
          rw [← det_mul]; exact det_congr fun i j hi hj => mat_at hi hj
        have hE2 : det n (at2 (mat n fun i j => at2 rows j i)) = det n (at2 rows) := by
          rw [← det_tr]; exact det_congr fun i j hi hj => by unfold trM; exact mat_at hj hi
        rw [hE1] at c3
        rw [hE2] at c6
        have s1 := det_sm (n := n) (by omega) (show 2 ≤ 100 by omega) sA
        have s2 := det_sm (n := n) (by omega) (show 2 ≤ 100 by omega) sB
        have s3 := lim_mul (det n (at2 rows)) (det n (at2 others))
        have z1 : (det n (at2 rows) * det n (at2 others) - det n (at2 rows) * det n (at2 others)).sign = 0 := by rw [Int.sub_self]; rfl
        have z2 : (det n (at2 rows) - det n (at2 rows)).sign = 0 := by rw [Int.sub_self]; rfl
        have hbx : (36 : Nat) < 38 := by decide
        first | refine callB_of (c1) (by simp) ?_ | refine callP_of (c1) (by simp) ?_
        simp -dsimp -implicitDefEqProofs (disch := (first | assumption | omega | (simp only [nats_len, List.length_map, List.length_set, List.length_replicate, List.length_append, List.length_range, upto_len, els_len, List.length_cons, List.length_nil] <;> omega) | (apply isPure_intro <;> simp))) only [go_sem]
        refine W_gh0 ?_
        simp -dsimp -implicitDefEqProofs (disch := (first | assumption | omega | (simp only [nats_len, List.length_map, List.length_set, List.length_replicate, List.length_append, List.length_range, upto_len, els_len, List.length_cons, List.length_nil] <;> omega) | (apply isPure_intro <;> simp))) only [go_sem]
        first | refine callB_of (c2) (by simp) ?_ | refine callP_of (c2) (by simp) ?_
        simp -dsimp -implicitDefEqProofs (disch := (first | assumption | omega | (simp only [nats_len, List.length_map, List.length_set, List.length_replicate, List.length_append, List.length_range, upto_len, els_len, List.length_cons, List.length_nil] <;> omega) | (apply isPure_intro <;> simp))) only [go_sem]
        first | refine callB_of (c3) (by simp) ?_ | refine callP_of (c3) (by simp) ?_
        simp -dsimp -implicitDefEqProofs (disch := (first | assumption | omega | (simp only [nats_len, List.length_map, List.length_set, List.length_replicate, List.length_append, List.length_range, upto_len, els_len, List.length_cons, List.length_nil] <;> omega) | (apply isPure_intro <;> simp))) only [go_sem]
        first | refine callB_of (c4) (by simp) ?_ | refine callP_of (c4) (by simp) ?_
        simp -dsimp -implicitDefEqProofs (disch := (first | assumption | omega | (simp only [nats_len, List.length_map, List.length_set, List.length_replicate, List.length_append, List.length_range, upto_len, els_len, List.length_cons, List.length_nil] <;> omega) | (apply isPure_intro <;> simp))) only [go_sem]
        first | refine callB_of (mul_ret _ _ (by omega) (by omega)) (by simp) ?_ | refine callP_of (mul_ret _ _ (by omega) (by omega)) (by simp) ?_
        simp -dsimp -implicitDefEqProofs (disch := (first | assumption | omega | (simp only [nats_len, List.length_map, List.length_set, List.length_replicate, List.length_append, List.length_range, upto_len, els_len, List.length_cons, List.length_nil] <;> omega) | (apply isPure_intro <;> simp))) only [go_sem]
        first | refine callB_of (icmp_ret _ _ (by omega) (by omega)) (by simp) ?_ | refine callP_of (icmp_ret _ _ (by omega) (by omega)) (by simp) ?_
        simp -dsimp -implicitDefEqProofs (disch := (first | assumption | omega | (simp only [nats_len, List.length_map, List.length_set, List.length_replicate, List.length_append, List.length_range, upto_len, els_len, List.length_cons, List.length_nil] <;> omega) | (apply isPure_intro <;> simp))) only [go_sem, z1]
        refine W_gh0 ?_
        simp -dsimp -implicitDefEqProofs (disch := (first | assumption | omega | (simp only [nats_len, List.length_map, List.length_set, List.length_replicate, List.length_append, List.length_range, upto_len, els_len, List.length_cons, List.length_nil] <;> omega) | (apply isPure_intro <;> simp))) only [go_sem]
        first | refine callB_of (c5) (by simp) ?_ | refine callP_of (c5) (by simp) ?_
        simp -dsimp -implicitDefEqProofs (disch := (first | assumption | omega | (simp only [nats_len, List.length_map, List.length_set, List.length_replicate, List.length_append, List.length_range, upto_len, els_len, List.length_cons, List.length_nil] <;> omega) | (apply isPure_intro <;> simp))) only [go_sem]
        first | refine callB_of (c6) (by simp) ?_ | refine callP_of (c6) (by simp) ?_
        simp -dsimp -implicitDefEqProofs (disch := (first | assumption | omega | (simp only [nats_len, List.length_map, List.length_set, List.length_replicate, List.length_append, List.length_range, upto_len, els_len, List.length_cons, List.length_nil] <;> omega) | (apply isPure_intro <;> simp))) only [go_sem]
        first | refine callB_of (icmp_ret _ _ (by omega) (by omega)) (by simp) ?_ | refine callP_of (icmp_ret _ _ (by omega) (by omega)) (by simp) ?_
        by_cases b1 : i < 0
        · simp -dsimp -implicitDefEqProofs (disch := (first | assumption | omega | (simp only [nats_len, List.length_map, List.length_set, List.length_replicate, List.length_append, List.length_range, upto_len, els_len, List.length_cons, List.length_nil] <;> omega) | (apply isPure_intro <;> simp))) only [go_sem, z1, z2, hn]
        · by_cases b2 : k < 0
          · simp -dsimp -implicitDefEqProofs (disch := (first | assumption | omega | (simp only [nats_len, List.length_map, List.length_set, List.length_replicate, List.length_append, List.length_range, upto_len, els_len, List.length_cons, List.length_nil] <;> omega) | (apply isPure_intro <;> simp))) only [go_sem, z1, z2, hn]
          · by_cases b3 : (n : Int) ≤ i
            · simp -dsimp -implicitDefEqProofs (disch := (first | assumption | omega | (simp only [nats_len, List.length_map, List.length_set, List.length_replicate, List.length_append, List.length_range, upto_len, els_len, List.length_cons, List.length_nil] <;> omega) | (apply isPure_intro <;> simp))) only [go_sem, z1, z2, hn]
            · by_cases b4 : (n : Int) ≤ k
              · simp -dsimp -implicitDefEqProofs (disch := (first | assumption | omega | (simp only [nats_len, List.length_map, List.length_set, List.length_replicate, List.length_append, List.length_range, upto_len, els_len, List.length_cons, List.length_nil] <;> omega) | (apply isPure_intro <;> simp))) only [go_sem, z1, z2, hn]
              · by_cases b5 : i = k
                · simp -dsimp -implicitDefEqProofs (disch := (first | assumption | omega | (simp only [nats_len, List.length_map, List.length_set, List.length_replicate, List.length_append, List.length_range, upto_len, els_len, List.length_cons, List.length_nil] <;> omega) | (apply isPure_intro <;> simp))) only [go_sem, z1, z2, hn]
                · simp -dsimp -implicitDefEqProofs (disch := (first | assumption | omega | (simp only [nats_len, List.length_map, List.length_set, List.length_replicate, List.length_append, List.length_range, upto_len, els_len, List.length_cons, List.length_nil] <;> omega) | (apply isPure_intro <;> simp))) only [go_sem, z1, z2, hn]
                  clear c2 c3 c4 c5 c6 hE1 hE2 z1 z2 s3 sAB sAB' sT
                  generalize hD : det n (at2 rows) = d at *
                  obtain ⟨a, rfl⟩ : ∃ a : Nat, i = a := ⟨i.toNat, by omega⟩
                  obtain ⟨c, rfl⟩ : ∃ c : Nat, k = c := ⟨k.toNat, by omega⟩
                  have ha : a < n := by omega
                  have hc : c < n := by omega
                  have hac : a ≠ c := by omega
                  clear b1 b2 b3 b4 b5 hi hk
                  have hrow : ∀ i, i < n → rows.getD i [] = rowF n (at2 rows i) := fun i hi => by
                    have h := q1.row hi
                    refine List.ext_getElem (by rw [h, rowF_len]) fun j h1 h2 => ?_
                    have := rowF_get (w := n) (f := at2 rows i) (i := j) (by omega)
                    simp only [List.getD_eq_getElem?_getD, List.getElem?_eq_getElem h2, Option.getD_some] at this
                    rw [this]; unfold at2; simp [List.getD_eq_getElem?_getD, List.getElem?_eq_getElem h1]
                    rw [List.getD_eq_getElem?_getD] at h1
                    rw [List.getElem?_eq_getElem h1]; rfl
                  refine W_loop (T := Nat × V × V × (Nat → Nat) × Hp × Nat) (fun t => ⟨E [(2, .int .i64 (a : Int)), (3, .int .i64 (c : Int)), (4, .int .i64 times), (11, .bool true), (12, .sl (rows.map ivl)), (18, .ptr 36 1 0 0), (19, .int .i64 0), (20, .int .i64 0), (21, t.2.1), (22, t.2.2.1), (23, .int .i64 t.1)], t.2.2.2.2.1, t.2.2.2.2.2, t.2.2.2.2.2⟩)
                    (fun t => t.1 ≤ n ∧ 38 ≤ t.2.2.2.2.2 ∧ Row 37 t.2.2.2.2.1 t.2.2.2.2.2 t.2.1 1 ((List.range t.1).map fun k => .own (t.2.2.2.1 k) n) ∧ Row 37 t.2.2.2.2.1 t.2.2.2.2.2 t.2.2.1 1 ((List.range t.1).map fun k => ivl (rowF n (at2 rows k))) ∧ LayR t.2.2.2.2.1 37 t.2.2.2.2.2 t.1 n t.2.2.2.1 (at2 rows) ∧ Sep t.2.1 t.2.2.1 ∧ t.2.2.2.2.1 36 = some ⟨[IV d], 2⟩) (fun t => n - t.1)
                    (0, .nil, .nil, fun _ => 0, _, _) rfl ⟨by dsimp only; omega, by dsimp only; omega, Row.nil _ _ _ _, Row.nil _ _ _ _, ⟨fun k hk => by dsimp only at hk; omega, fun k j hk => by dsimp only at hk; omega, fun k hk => by dsimp only at hk; omega⟩, Sep.nil_l _, rfl⟩ ?_
                  rintro ⟨i, vm, vc, r, H, nx⟩ ⟨i1, i2, i3, i4, i5, i6, i7⟩
                  dsimp only at i1 i2 i3 i4 i5 i6 i7
                  by_cases hi : i < n
                  · have hri := hrow i hi
                    simp -dsimp -implicitDefEqProofs (disch := (first | assumption | omega | (simp only [nats_len, List.length_map, List.length_set, List.length_replicate, List.length_append, List.length_range, upto_len, els_len, List.length_cons, List.length_nil] <;> omega) | (apply isPure_intro <;> simp))) only [go_sem, hn]
                    refine W_gh0 ?_
                    simp -dsimp -implicitDefEqProofs (disch := (first | assumption | omega | (simp only [nats_len, List.length_map, List.length_set, List.length_replicate, List.length_append, List.length_range, upto_len, els_len, List.length_cons, List.length_nil] <;> omega) | (apply isPure_intro <;> simp))) only [go_sem, hn, hri]
                    refine effB_copy (H0 := H) rfl (rowOk_iv _) (by decide) (by simp [rowF]; omega) (by simp [rowF]; omega) ?_
                    simp -dsimp -implicitDefEqProofs (disch := (first | assumption | omega | (simp only [nats_len, List.length_map, List.length_set, List.length_replicate, List.length_append, List.length_range, upto_len, els_len, List.length_cons, List.length_nil] <;> omega) | (apply isPure_intro <;> simp))) only [go_sem]
                    refine effB_row (lo := 37) (nx := nx + 11) (es := 1) (e := .own (nx + 10) n) (H0 := (H.upd (nx + 5) none).upd (nx + 10) (some ⟨(rowF n (at2 rows i)).map IV, 2⟩)) (xs := (List.range i).map fun k => .own (r k) n) (i3.same (fun b hb => by rw [Hp.upd_ne _ _ (by omega), Hp.upd_ne _ _ (by omega)]) (by omega)) (by omega) (by simp [rowF]) (by omega) (by omega) (by simp [rowOk, V.cells, V.cellOk, V.isJunk]) (by decide) (by simp; omega) (by simp; omega) fun vm2 H2 r1 r2 r3 r4 => ?_
                    simp -dsimp -implicitDefEqProofs (disch := (first | assumption | omega | (simp only [nats_len, List.length_map, List.length_set, List.length_replicate, List.length_append, List.length_range, upto_len, els_len, List.length_cons, List.length_nil] <;> omega) | (apply isPure_intro <;> simp))) only [go_sem]
                    refine W_gh0 ?_
                    simp -dsimp -implicitDefEqProofs (disch := (first | assumption | omega | (simp only [nats_len, List.length_map, List.length_set, List.length_replicate, List.length_append, List.length_range, upto_len, els_len, List.length_cons, List.length_nil] <;> omega) | (apply isPure_intro <;> simp))) only [go_sem, hn, hri]
                    have i4' : Row 37 H2 (nx + 19) vc 1 ((List.range i).map fun k => ivl (rowF n (at2 rows k))) := i4.keep (v := vm) (fun b hb hne => by rw [r3 b (by omega) hne, Hp.upd_ne _ _ (by omega), Hp.upd_ne _ _ (by omega)]) i6 (by omega)
                    refine effB_row (lo := 37) (nx := nx + 19) (es := 1) (e := ivl (rowF n (at2 rows i))) (H0 := H2) (xs := (List.range i).map fun k => ivl (rowF n (at2 rows k))) i4' (by omega) rfl (by omega) (by omega) (by simp [rowOk, V.cells, V.cellOk, V.isJunk, ivl]) (by decide) (by simp; omega) (by simp; omega) fun vc2 H3 s1 s2 s3 s4 => ?_
                    have hl2 : (List.range i).map (fun k => V.own (r k) n) ++ [.own (nx + 10) n] = (List.range (i + 1)).map fun k => .own ((fun k => if k = i then nx + 10 else r k) k) n := by
                      rw [List.range_succ, List.map_append, List.map_singleton]
                      congr 1
                      · exact List.map_congr_left fun k hk => by have := List.mem_range.1 hk; simp only [show k ≠ i by omega, if_false]
                      · simp
                    rw [hl2] at r1
                    rw [range_snoc (fun k => ivl (rowF n (at2 rows k))) i] at s1
                    have sp : Sep vc vm2 := fun b n m h1 h2 => by have := i4.lt h1; have := r2 b m h2; omega
                    have hk0 : ∀ k, k < i → H3 (r k) = H (r k) := fun k hk => by
                      have h1 := i5.hr k hk
                      have h2 := i5.lt k hk
                      have h3 : H2 (r k) = H (r k) := by rw [r3 _ (by omega) (i3.ne_size h1 (by decide)), Hp.upd_ne _ _ (by omega), Hp.upd_ne _ _ (by omega)]
                      rw [s3 _ (by omega) (i4'.ne_size (h3.trans h1) (by decide)), h3]
                    have hk1 : H3 (nx + 10) = some ⟨(rowF n (at2 rows i)).map IV, 2⟩ := by
                      have h3 : H2 (nx + 10) = some ⟨(rowF n (at2 rows i)).map IV, 2⟩ := by
                        rw [r3 _ (by omega) fun m e => by have := i3.lt e; omega]; exact Hp.upd_same _ _ _
                      rw [s3 _ (by omega) (i4'.ne_size h3 (by decide)), h3]
                    simp -dsimp -implicitDefEqProofs (disch := (first | assumption | omega | (simp only [nats_len, List.length_map, List.length_set, List.length_replicate, List.length_append, List.length_range, upto_len, els_len, List.length_cons, List.length_nil] <;> omega) | (apply isPure_intro <;> simp))) only [go_sem]
                    refine ⟨(i + 1, vm2, vc2, fun k => if k = i then nx + 10 else r k, H3, _), rfl, ⟨by dsimp only; omega, by dsimp only; omega, (r1.keep (nx' := nx + 21) (fun b hb hne => s3 b (by omega) hne) sp (by omega)).same (fun _ _ => rfl) (by dsimp only; omega), s1.same (fun _ _ => rfl) (by dsimp only; omega), ⟨fun k hk => ?_, fun k j hk hj e => ?_, fun k hk => ?_⟩, fun b n m h1 h2 => ?_, by dsimp only; rw [s4 _ (by omega), r4 _ (by omega), Hp.upd_ne _ _ (by omega), Hp.upd_ne _ _ (by omega)]; exact i7⟩, by dsimp only; omega⟩
                    · dsimp only at hk ⊢
                      by_cases h : k = i
                      · rw [if_pos h, h]; exact hk1
                      · rw [if_neg h, hk0 k (by omega)]; exact i5.hr k (by omega)
                    · dsimp only at hk hj e
                      by_cases h : k = i <;> by_cases h' : j = i
                      · omega
                      · rw [if_pos h, if_neg h'] at e; have := (i5.lt j (by omega)).2; omega
                      · rw [if_neg h, if_pos h'] at e; have := (i5.lt k (by omega)).2; omega
                      · rw [if_neg h, if_neg h'] at e; exact i5.inj k j (by omega) (by omega) e
                    · dsimp only at hk ⊢
                      by_cases h : k = i
                      · rw [if_pos h]; omega
                      · rw [if_neg h]; have := i5.lt k (by omega); omega
                    · dsimp only at h1 h2
                      have := r1.lt h1
                      have := s2 b m h2
                      omega
                  · obtain rfl : i = n := by omega
                    obtain ⟨bm, hvm, m1, m2, m3⟩ := i3.own_of (by simp; omega)
                    obtain ⟨bc, hvc, m4, m5, m6⟩ := i4.own_of (by simp; omega)
                    rw [List.length_map, List.length_range] at hvm hvc
                    subst hvm hvc
                    have hbc : bm ≠ bc := fun e => i6 bm i i rfl (by rw [e])
                    have L0 : LayM H 37 nx i i bm r (at2 rows) := ⟨m3, i5.hr, i5.inj, fun k hk e => by have h := congrArg (fun o => o.map Blk.size) (i5.hr k hk); rw [e, m3] at h; simp at h, i5.lt, ⟨m1, m2⟩⟩
                    have hne : ∀ k, k < i → r k ≠ bc := fun k hk e => by have h := congrArg (fun o => o.map Blk.size) (i5.hr k hk); rw [e, m6] at h; simp at h
                    simp -dsimp -implicitDefEqProofs (disch := (first | assumption | omega | (simp only [nats_len, List.length_map, List.length_set, List.length_replicate, List.length_append, List.length_range, upto_len, els_len, List.length_cons, List.length_nil] <;> omega) | (apply isPure_intro <;> simp))) only [go_sem, hn]
                    refine W_loop (T := Nat × Hp × Nat) (fun t => ⟨E [(2, .int .i64 (a : Int)), (3, .int .i64 (c : Int)), (4, .int .i64 times), (11, .bool true), (12, .sl (rows.map ivl)), (18, .ptr 36 1 0 0), (19, .int .i64 0), (20, .int .i64 0), (21, .own bm i), (22, .own bc i), (24, .int .i64 t.1)], t.2.1, t.2.2, t.2.2⟩)
                      (fun t => t.1 ≤ i ∧ nx + 5 ≤ t.2.2 ∧ LayM t.2.1 37 nx i i bm r (addN (at2 rows) a c times t.1) ∧ t.2.1 bc = some ⟨(List.range i).map fun k => ivl (rowF i (at2 rows k)), 1⟩ ∧ t.2.1 36 = some ⟨[IV d], 2⟩) (fun t => i - t.1)
                      (0, H, _) rfl ⟨by dsimp only; omega, by dsimp only; omega, L0.congr fun p q _ _ => by unfold addN; rw [if_neg (by omega)], m6, i7⟩ ?_
                    rintro ⟨j, H4, nx4⟩ ⟨j1, j2, j3, j4, j5⟩
                    dsimp only at j1 j2 j3 j4 j5
                    by_cases hj : j < i
                    · have hra := hrow a ha
                      have hrc := hrow c hc
                      have hlt := j3.lt a ha
                      have hlm := j3.lm
                      have hmm := j3.hm
                      have hrr := j3.hr
                      have u1 := sA a j
                      have u2 := sA c j
                      have u3 := lim_i64 ht
                      have u4 := lim_mul (at2 rows c j) times
                      simp -dsimp -implicitDefEqProofs (disch := (first | assumption | omega | (simp only [nats_len, List.length_map, List.length_set, List.length_replicate, List.length_append, List.length_range, upto_len, els_len, List.length_cons, List.length_nil] <;> omega) | (apply isPure_intro <;> simp))) only [go_sem, hn]
                      refine W_gh0 ?_
                      simp -dsimp -implicitDefEqProofs (disch := (first | assumption | omega | (simp only [nats_len, List.length_map, List.length_set, List.length_replicate, List.length_append, List.length_range, upto_len, els_len, List.length_cons, List.length_nil] <;> omega) | (apply isPure_intro <;> simp))) only [go_sem, hn, hra, hrc, hmm, hrr, loadO_rowt, idxB_rowF, idxO_ct]
                      first | refine callB_of (of_ret times ht) (by simp) ?_ | refine callP_of (of_ret times ht) (by simp) ?_
                      simp -dsimp -implicitDefEqProofs (disch := (first | assumption | omega | (simp only [nats_len, List.length_map, List.length_set, List.length_replicate, List.length_append, List.length_range, upto_len, els_len, List.length_cons, List.length_nil] <;> omega) | (apply isPure_intro <;> simp))) only [go_sem, hn, hra, hrc, hmm, hrr, loadO_rowt, idxB_rowF, idxO_ct]
                      first | refine callB_of (mul_ret _ _ (by omega) (by omega)) (by simp) ?_ | refine callP_of (mul_ret _ _ (by omega) (by omega)) (by simp) ?_
                      simp -dsimp -implicitDefEqProofs (disch := (first | assumption | omega | (simp only [nats_len, List.length_map, List.length_set, List.length_replicate, List.length_append, List.length_range, upto_len, els_len, List.length_cons, List.length_nil] <;> omega) | (apply isPure_intro <;> simp))) only [go_sem, hn, hra, hrc, hmm, hrr, loadO_rowt, idxB_rowF, idxO_ct]
                      first | refine callB_of (add_ret _ _ (by omega) (by omega)) (by simp) ?_ | refine callP_of (add_ret _ _ (by omega) (by omega)) (by simp) ?_
                      simp -dsimp -implicitDefEqProofs (disch := (first | assumption | omega | (simp only [nats_len, List.length_map, List.length_set, List.length_replicate, List.length_append, List.length_range, upto_len, els_len, List.length_cons, List.length_nil] <;> omega) | (apply isPure_intro <;> simp))) only [go_sem, hn, hra, hrc, hmm, hrr, loadO_rowt, idxB_rowF, idxO_ct, storeO_c]
                      generalize hH5 : Hp.upd H4 (r a) _ = H5
                      have hra' := L0.lt a ha
                      refine ⟨(j + 1, H5, _), rfl, ⟨by dsimp only; omega, by dsimp only; omega, (j3.set ha hH5).congr fun p q hp hq => ?_, ?_, ?_⟩, by dsimp only; omega⟩
                      · unfold addN
                        by_cases h1 : p = a
                        · subst h1
                          by_cases h2 : q = j
                          · subst h2; rw [if_pos ⟨rfl, rfl⟩, if_pos ⟨rfl, by omega⟩, Int.mul_comm]
                          · rw [if_neg fun h => h2 h.2]
                            by_cases h3 : q < j
                            · rw [if_pos ⟨rfl, h3⟩, if_pos ⟨rfl, by omega⟩]
                            · rw [if_neg (by omega), if_neg (by omega)]
                        · rw [if_neg fun h => h1 h.1, if_neg fun h => h1 h.1, if_neg fun h => h1 h.1]
                      · dsimp only; rw [← hH5, Hp.upd_ne _ _ fun e => hne a ha e.symm]; exact j4
                      · dsimp only; rw [← hH5, Hp.upd_ne _ _ (by omega)]; exact j5
                    · obtain rfl : j = i := by omega
                      have hra := hrow a ha
                      have hrc := hrow c hc
                      have st1 := storeO_fn (b := bc) (n := j) (f := fun k => ivl (rowF j (at2 rows k))) (x := ivl (rowF j (at2 rows c))) ha rfl rfl rfl rfl
                      have st2 := storeO_fn (b := bc) (n := j) (f := fun k => if k = a then ivl (rowF j (at2 rows c)) else ivl (rowF j (at2 rows k))) (x := ivl (rowF j (at2 rows a))) hc (by split <;> rfl) rfl (by split <;> rfl) rfl
                      simp -dsimp -implicitDefEqProofs (disch := (first | assumption | omega | (simp only [nats_len, List.length_map, List.length_set, List.length_replicate, List.length_append, List.length_range, upto_len, els_len, List.length_cons, List.length_nil] <;> omega) | (apply isPure_intro <;> simp))) only [go_sem, hn, hra, hrc, j4, idxO_f, st1]
                      simp -dsimp -implicitDefEqProofs (disch := (first | assumption | omega | (simp only [nats_len, List.length_map, List.length_set, List.length_replicate, List.length_append, List.length_range, upto_len, els_len, List.length_cons, List.length_nil] <;> omega) | (apply isPure_intro <;> simp))) only [go_sem, hn, hra, hrc, j4, idxO_f, st2]
                      generalize hH5 : Hp.upd H4 bc _ = H5
                      have L1 : LayM H5 37 nx j j bm r (addN (at2 rows) a c times j) := ⟨by rw [← hH5, Hp.upd_ne _ _ hbc]; exact j3.hm, fun k hk => by rw [← hH5, Hp.upd_ne _ _ (hne k hk)]; exact j3.hr k hk, j3.inj, j3.ne, j3.lt, j3.lm⟩
                      have k5 : H5 36 = some ⟨[IV d], 2⟩ := by rw [← hH5, Hp.upd_ne _ _ (by omega)]; exact j5
                      have kc : H5 bc = some ⟨(mat j (swpN (at2 rows) a c)).map ivl, 1⟩ := by
                        rw [← hH5, Hp.upd_same]
                        congr 2
                        unfold mat
                        rw [List.map_map]
                        refine List.map_congr_left fun k hk => ?_
                        show _ = ivl (rowF j (swpN (at2 rows) a c k))
                        unfold swpN
                        by_cases h1 : k = c
                        · rw [if_pos h1, if_pos h1]
                        · rw [if_neg h1, if_neg h1]
                          by_cases h2 : k = a
                          · rw [if_pos h2, if_pos h2]
                          · rw [if_neg h2, if_neg h2]
                      have kb : fzM bm j j r (addN (at2 rows) a c times j) bc = none := by
                        cases e : fzM bm j j r (addN (at2 rows) a c times j) bc with
                        | none => rfl
                        | some ys =>
                          unfold fzM at e
                          rw [if_neg fun e => hbc e.symm] at e
                          cases e2 : (List.range j).find? fun i => decide (r i = bc) with
                          | none => rw [e2] at e; cases e
                          | some k =>
                            have h1 : r k = bc := by have := List.find?_some (p := fun k => decide (r k = bc)) e2; simpa using this
                            exact absurd h1 (hne k (List.mem_range.1 (List.mem_of_find?_eq_some e2)))
                      have kbb : fzM bm j j r (addN (at2 rows) a c times j) bm = some ((mat j (addN (at2 rows) a c times j)).map ivl) := by
                        rw [LayM.fz_bm]; unfold mat; rw [List.map_map]; rfl
                      have hml : ((mat j (addN (at2 rows) a c times j)).map ivl).length = j := by simp [mat]
                      have hmc : ((mat j (swpN (at2 rows) a c)).map ivl).length = j := by simp [mat]
                      clear hH5
                      refine gh_fzg (fzM bm j j r (addN (at2 rows) a c times j)) L1.fz (l1 := [(11, .bool true), (18, .ptr 36 1 0 0), (19, .int .i64 0), (20, .int .i64 0), (21, .sl ((mat j (addN (at2 rows) a c times j)).map ivl)), (22, .own bc j)]) ?_ ?_
                      · have kx := L1.fz_none (b := 36) (.inl (by omega))
                        simp -dsimp -implicitDefEqProofs (disch := (first | assumption | omega | (simp only [nats_len, List.length_map, List.length_set, List.length_replicate, List.length_append, List.length_range, upto_len, els_len, List.length_cons, List.length_nil] <;> omega) | (apply isPure_intro <;> simp))) only [go_sem, kb, kbb, kx, hml]
                      · have kx := L1.fz_none (b := 36) (.inl (by omega))
                        have x1 := sub_at kx k5 (ys := [IV d]) (by simp [sub_IV])
                        have x2 := sub_at kb kc (ys := (mat j (swpN (at2 rows) a c)).map ivl) (msub_ivl _ _)
                        generalize Hp.sub (fzM bm j j r (addN (at2 rows) a c times j)) H5 = H6 at x1 x2 ⊢
                        clear kx kb kbb L1 kc k5 L0 st1 st2 j3 j4 j5 H5 H4 hne hbc m3 m6 i3 i4 i5 i6 i7
                        have sN : ∀ p q, lim (addN (at2 rows) a c times j p q) ≤ 8 := fun p q => by
                          have u1 := sA p q
                          have u2 := sA c q
                          have u3 := lim_i64 ht
                          have u4 := lim_mul times (at2 rows c q)
                          have u5 := lim_add (at2 rows p q) (times * at2 rows c q)
                          unfold addN; split <;> omega
                        have sS : ∀ p q, lim (swpN (at2 rows) a c p q) ≤ 2 := fun p q => by
                          unfold swpN
                          split
                          · exact sA _ _
                          · split
                            · exact sA _ _
                            · exact sA _ _
                        have d1 := ldet_ret (mat j (addN (at2 rows) a c times j)) j 8 (by omega) (by omega) (mat_sq _ _) (lim_at_mat sN)
                        have d2 := ldet_ret (mat j (swpN (at2 rows) a c)) j 2 (by omega) (by omega) (mat_sq _ _) (lim_at_mat sS)
                        rw [detS_eq] at d1 d2
                        have e1 : det j (at2 (mat j (addN (at2 rows) a c times j))) = d := by
                          rw [← hD, ← (det_alt j).addRow (at2 rows) ha hc hac times]
                          refine det_congr fun p q hp hq => ?_
                          rw [mat_at hp hq]
                          unfold addN setR
                          by_cases h : p = a
                          · rw [if_pos ⟨h, hq⟩, if_pos h, h]
                          · rw [if_neg fun e => h e.1, if_neg h]
                        have e2 : det j (at2 (mat j (swpN (at2 rows) a c))) = -d := by
                          rw [← hD, ← (det_alt j).swap (at2 rows) ha hc hac]
                          exact det_congr fun p q hp hq => mat_at hp hq
                        rw [e1] at d1
                        rw [e2] at d2
                        have z1 : (d - d).sign = 0 := by rw [Int.sub_self]; rfl
                        have z2 : (-d - -d).sign = 0 := by rw [Int.sub_self]; rfl
                        have hln := lim_neg d
                        simp -dsimp -implicitDefEqProofs (disch := (first | assumption | omega | (simp only [nats_len, List.length_map, List.length_set, List.length_replicate, List.length_append, List.length_range, upto_len, els_len, List.length_cons, List.length_nil] <;> omega) | (apply isPure_intro <;> simp))) only [go_sem]
                        first | refine callB_of (d1) (by simp) ?_ | refine callP_of (d1) (by simp) ?_
                        simp -dsimp -implicitDefEqProofs (disch := (first | assumption | omega | (simp only [nats_len, List.length_map, List.length_set, List.length_replicate, List.length_append, List.length_range, upto_len, els_len, List.length_cons, List.length_nil] <;> omega) | (apply isPure_intro <;> simp))) only [go_sem, x1]
                        first | refine callB_of (icmp_ret _ _ (by omega) (by omega)) (by simp) ?_ | refine callP_of (icmp_ret _ _ (by omega) (by omega)) (by simp) ?_
                        simp -dsimp -implicitDefEqProofs (disch := (first | assumption | omega | (simp only [nats_len, List.length_map, List.length_set, List.length_replicate, List.length_append, List.length_range, upto_len, els_len, List.length_cons, List.length_nil] <;> omega) | (apply isPure_intro <;> simp))) only [go_sem, z1]
                        refine gh_fzg (fz1 bc ((mat j (swpN (at2 rows) a c)).map ivl)) (fz1_ok x2 (pure_map fun x => by simp)) (l1 := [(11, .bool true), (18, .ptr 36 1 0 0), (19, .int .i64 0), (20, .int .i64 0), (22, .sl ((mat j (swpN (at2 rows) a c)).map ivl)), (25, .int .i64 0)]) ?_ ?_
                        · have : ¬ 36 = bc := by omega
                          simp -dsimp -implicitDefEqProofs (disch := (first | assumption | omega | (simp only [nats_len, List.length_map, List.length_set, List.length_replicate, List.length_append, List.length_range, upto_len, els_len, List.length_cons, List.length_nil] <;> omega) | (apply isPure_intro <;> simp))) only [go_sem, this, hmc]
                        · have x3 := sub_at (fz1_ne (c := bc) (xs := (mat j (swpN (at2 rows) a c)).map ivl) (by omega)) x1 (ys := [IV d]) (by simp [sub_IV])
                          simp -dsimp -implicitDefEqProofs (disch := (first | assumption | omega | (simp only [nats_len, List.length_map, List.length_set, List.length_replicate, List.length_append, List.length_range, upto_len, els_len, List.length_cons, List.length_nil] <;> omega) | (apply isPure_intro <;> simp))) only [go_sem]
                          first | refine callB_of (d2) (by simp) ?_ | refine callP_of (d2) (by simp) ?_
                          simp -dsimp -implicitDefEqProofs (disch := (first | assumption | omega | (simp only [nats_len, List.length_map, List.length_set, List.length_replicate, List.length_append, List.length_range, upto_len, els_len, List.length_cons, List.length_nil] <;> omega) | (apply isPure_intro <;> simp))) only [go_sem, x3]
                          first | refine callB_of (neg_ret d (by omega)) (by simp) ?_ | refine callP_of (neg_ret d (by omega)) (by simp) ?_
                          simp -dsimp -implicitDefEqProofs (disch := (first | assumption | omega | (simp only [nats_len, List.length_map, List.length_set, List.length_replicate, List.length_append, List.length_range, upto_len, els_len, List.length_cons, List.length_nil] <;> omega) | (apply isPure_intro <;> simp))) only [go_sem, x3]
                          first | refine callB_of (icmp_ret _ _ (by omega) (by omega)) (by simp) ?_ | refine callP_of (icmp_ret _ _ (by omega) (by omega)) (by simp) ?_
                          simp -dsimp -implicitDefEqProofs (disch := (first | assumption | omega | (simp only [nats_len, List.length_map, List.length_set, List.length_replicate, List.length_append, List.length_range, upto_len, els_len, List.length_cons, List.length_nil] <;> omega) | (apply isPure_intro <;> simp))) only [go_sem, z2]
      · simp -dsimp -implicitDefEqProofs (disch := (first | assumption | omega | (simp only [nats_len, List.length_map, List.length_set, List.length_replicate, List.length_append, List.length_range, upto_len, els_len, List.length_cons, List.length_nil] <;> omega) | (apply isPure_intro <;> simp))) only [go_sem, hn, e1]
    · rw [h1, show sqB others 7 = false by simpa using h2]
      simp -dsimp -implicitDefEqProofs (disch := (first | assumption | omega | (simp only [nats_len, List.length_map, List.length_set, List.length_replicate, List.length_append, List.length_range, upto_len, els_len, List.length_cons, List.length_nil] <;> omega) | (apply isPure_intro <;> simp))) only [go_sem]
  · rw [show sqB rows 7 = false by simpa using h1]
    simp -dsimp -implicitDefEqProofs (disch := (first | assumption | omega | (simp only [nats_len, List.length_map, List.length_set, List.length_replicate, List.length_append, List.length_range, upto_len, els_len, List.length_cons, List.length_nil] <;> omega) | (apply isPure_intro <;> simp))) only [go_sem]
end Go.Gim

import Derived.Test.YtmmfkmnakelacaaRL0
import Derived.Test.YtmmfkmnakelacaaSB
import Derived.Test.YtmmfkmnakelacaaSM0
import Derived.Test.YtmmfkmnakelacaaGQL
import Derived.Test.YtmmfkmnakelacaaLB2
import Derived.Test.YtmmfkmnakelacaaQA3
/- What the laws on quadratic functions use: texts. -/
set_option maxRecDepth 100000
set_option maxHeartbeats 4000000
set_option linter.unusedSimpArgs false
set_option linter.unusedVariables false
namespace Go.Gim
open Go.Proofs
theorem text8_ret (r : List Int) (hl : r.length ≤ 12) (sr : ∀ x ∈ r, lim x ≤ 1000000) : Ret pg n_gimballaw08_text [ivl r] (.str (bst (numsL r))) := by
  have hd : ∀ x ∈ r, dlim x ≤ 10000000 := fun x hx => by have := sr x hx; have := dlim_lim x; omega
  refine gimballaw08_text.of rfl (W_b ?_)
  unfold gimballaw08_text.k gimballaw08_text.res
  simp -dsimp -implicitDefEqProofs (disch := (first | assumption | omega | (simp only [zE] <;> omega) | (apply isPure_intro <;> simp))) only [go_sem, bst_nil]
  refine W_loop (T := Nat × List Nat × Nat) (fun t => ⟨E [(0, ivl r), (3, .str (bst t.2.1)), (4, .int .i64 t.1)], fun _ => none, t.2.2, t.2.2⟩) (fun t => t.1 ≤ r.length ∧ t.2.1 = numsL (r.take t.1)) (fun t => r.length - t.1) (0, [], _) rfl ⟨by dsimp only; omega, by simp [numsL]⟩ ?_
  rintro ⟨j, z1, nx'⟩ ⟨j1, j2⟩
  dsimp only at j1 j2
  have hnl := numsL_len (r := r.take j) (fun x h => hd x (List.mem_of_mem_take h))
  have hnl2 : (r.take j).length * (10000000 + 2) ≤ 12 * 10000002 := Nat.mul_le_mul_right _ (by rw [List.length_take]; omega)
  rw [← j2] at hnl
  by_cases hj : j < r.length
  · have hv := getD_mem' 0 hj
    have htj := take_getD 0 hj
    have s1 := sr _ hv
    have s2 := hd _ hv
    have s3 := decL_len (r.getD j 0)
    generalize hY : r.getD j 0 = y at *
    have a1 : strV .add (bst z1) (bst (decL y)) = some (.str (bst (z1 ++ decL y))) := strV_app (by omega)
    have a2 : strV .add (bst (z1 ++ decL y)) (bst [32]) = some (.str (bst ((z1 ++ decL y) ++ [32]))) := strV_app (by rw [List.length_append, List.length_singleton]; omega)
    have e32 : (⟨#[32]⟩ : ByteArray) = bst [32] := rfl
    have a3 : (z1 ++ decL y) ++ [32] = numsL (r.take (j + 1)) := by rw [htj, numsL_snoc, j2]; simp
    simp -dsimp -implicitDefEqProofs (disch := (first | assumption | omega | (simp only [zE] <;> omega) | (apply isPure_intro <;> simp))) only [go_sem, hY]
    refine callB_of (string_ret y (by omega)) (by simp) ?_
    simp -dsimp -implicitDefEqProofs (disch := (first | assumption | omega | (simp only [zE] <;> omega) | (apply isPure_intro <;> simp))) only [go_sem, decS_bst, a1, e32, a2]
    exact ⟨(j + 1, z1 ++ (decL y ++ [32]), _), rfl, ⟨by dsimp only; omega, by dsimp only; rw [← a3]; simp⟩, by dsimp only; omega⟩
  · have hje : r.length = j := by omega
    subst hje
    rw [List.take_length] at j2
    subst j2
    simp -dsimp -implicitDefEqProofs (disch := (first | assumption | omega | (simp only [zE] <;> omega) | (apply isPure_intro <;> simp))) only [go_sem]
def quadT (m : List (List Int)) (q : List Int) (c : Int) : List Nat := wholeL m ++ (numsL q ++ (59 :: decL c))
theorem whole8_ret (m : List (List Int)) (q : List Int) (c : Int) (hn : m.length ≤ 12) (hm : ∀ r ∈ m, r.length ≤ 12) (hq : q.length ≤ 12) (sm : ∀ r ∈ m, ∀ x ∈ r, lim x ≤ 1000000) (sq : ∀ x ∈ q, lim x ≤ 1000000) (sc : lim c ≤ 1000000) : Ret pg n_gimballaw08_whole [QV m q c] (.str (bst (quadT m q c))) := by
  have hd : ∀ r ∈ m, ∀ x ∈ r, dlim x ≤ 10000000 := fun r hr x hx => by have := sm r hr x hx; have := dlim_lim x; omega
  refine gimballaw08_whole.of rfl (W_b ?_)
  unfold gimballaw08_whole.k gimballaw08_whole.res
  simp -dsimp -implicitDefEqProofs (disch := (first | assumption | omega | (simp only [zE] <;> omega) | (apply isPure_intro <;> simp))) only [go_sem, bst_nil]
  refine W_loop (T := Nat × List Nat × Nat) (fun t => ⟨E [(1, .pp (QV m q c)), (3, .str (bst t.2.1)), (4, .int .i64 t.1)], fun _ => none, t.2.2, t.2.2⟩) (fun t => t.1 ≤ m.length ∧ t.2.1 = wholeL (m.take t.1)) (fun t => m.length - t.1) (0, [], _) rfl ⟨by dsimp only; omega, by simp [wholeL]⟩ ?_
  rintro ⟨i, z, nx⟩ ⟨i1, i2⟩
  dsimp only at i1 i2
  by_cases hi : i < m.length
  · have hr := getD_mem' [] hi
    have ht := take_getD [] hi
    have hrl := hm _ hr
    have hwl := wholeL_len (m := m.take i) (n := 12) (fun r h => hm r (List.mem_of_mem_take h)) (fun r h => hd r (List.mem_of_mem_take h))
    have hwl2 : (m.take i).length * (12 * (10000000 + 2) + 1) ≤ 12 * (12 * 10000002 + 1) := Nat.mul_le_mul (by rw [List.length_take]; omega) (by omega)
    rw [← i2] at hwl
    have hnl := numsL_len (hd _ hr)
    have hnl2 : (m.getD i []).length * (10000000 + 2) ≤ 12 * 10000002 := Nat.mul_le_mul_right _ hrl
    have htx := text8_ret (m.getD i []) hrl (sm _ hr)
    generalize hX : m.getD i [] = r at *
    have a1 : strV .add (bst z) (bst (numsL r)) = some (.str (bst (z ++ numsL r))) := strV_app (by omega)
    have a2 : strV .add (bst (z ++ numsL r)) (bst [59]) = some (.str (bst ((z ++ numsL r) ++ [59]))) := strV_app (by rw [List.length_append, List.length_singleton]; omega)
    have e59 : (⟨#[59]⟩ : ByteArray) = bst [59] := rfl
    have a3 : (z ++ numsL r) ++ [59] = wholeL (m.take (i + 1)) := by rw [ht, wholeL_snoc, i2]; simp
    simp -dsimp -implicitDefEqProofs (disch := (first | assumption | omega | (simp only [zE] <;> omega) | (apply isPure_intro <;> simp))) only [go_sem, hX]
    refine callB_of htx (by simp) ?_
    simp -dsimp -implicitDefEqProofs (disch := (first | assumption | omega | (simp only [zE] <;> omega) | (apply isPure_intro <;> simp))) only [go_sem, a1, e59, a2]
    exact ⟨(i + 1, z ++ (numsL r ++ [59]), _), rfl, ⟨by dsimp only; omega, by dsimp only; rw [← a3]; simp⟩, by dsimp only; omega⟩
  · have hie : i = m.length := by omega
    subst hie
    rw [List.take_length] at i2
    subst i2
    have hwl := wholeL_len (m := m) (n := 12) (fun r h => hm r h) (fun r h => hd r h)
    have hwl2 : m.length * (12 * (10000000 + 2) + 1) ≤ 12 * (12 * 10000002 + 1) := Nat.mul_le_mul (by omega) (by omega)
    have hdq : ∀ x ∈ q, dlim x ≤ 10000000 := fun x hx => by have := sq x hx; have := dlim_lim x; omega
    have hnl := numsL_len hdq
    have hnl2 : q.length * (10000000 + 2) ≤ 12 * 10000002 := Nat.mul_le_mul_right _ hq
    have hcl := decL_len c
    have hdc : dlim c ≤ 10000000 := by have := dlim_lim c; omega
    have a1 : strV .add (bst (wholeL m)) (bst (numsL q)) = some (.str (bst (wholeL m ++ numsL q))) := strV_app (by omega)
    have a2 : strV .add (bst (wholeL m ++ numsL q)) (bst [59]) = some (.str (bst ((wholeL m ++ numsL q) ++ [59]))) := strV_app (by rw [List.length_append, List.length_singleton]; omega)
    have a3 : strV .add (bst (wholeL m ++ (numsL q ++ [59]))) (bst (decL c)) = some (.str (bst (wholeL m ++ (numsL q ++ 59 :: decL c)))) := by
      rw [strV_app (by rw [List.length_append, List.length_append, List.length_singleton]; omega)]; simp
    have eT : quadT m q c = wholeL m ++ (numsL q ++ (59 :: decL c)) := rfl
    rw [eT]
    have e59 : (⟨#[59]⟩ : ByteArray) = bst [59] := rfl
    have e0 : ((wholeL m ++ numsL q) ++ [59]) ++ decL c = wholeL m ++ (numsL q ++ (59 :: decL c)) := by simp
    simp -dsimp -implicitDefEqProofs (disch := (first | assumption | omega | (simp only [zE] <;> omega) | (apply isPure_intro <;> simp))) only [go_sem]
    first | refine callB_of (text8_ret q hq sq) (by simp) ?_ | refine callP_of (text8_ret q hq sq) (by simp) ?_
    simp -dsimp -implicitDefEqProofs (disch := (first | assumption | omega | (simp only [zE] <;> omega) | (apply isPure_intro <;> simp))) only [go_sem, a1, e59, a2]
    first | refine callB_of (string_ret c (by omega)) (by simp) ?_ | refine callP_of (string_ret c (by omega)) (by simp) ?_
    simp -dsimp -implicitDefEqProofs (disch := (first | assumption | omega | (simp only [zE] <;> omega) | (apply isPure_intro <;> simp))) only [go_sem, decS_bst, a1, e59, a2, a3]
end Go.Gim
/- What the laws on quadratic functions use: rows that are their own turned ones, lists, a function read. -/
set_option maxRecDepth 100000
set_option maxHeartbeats 4000000
set_option linter.unusedSimpArgs false
set_option linter.unusedVariables false
namespace Go.Gim
open Go.Proofs
set_option maxHeartbeats 2000000 in
theorem mirror8_ret (rows : List (List Int)) (most n : Nat) (hmn : min rows.length most = n) (hn : n ≤ 12) (hl : rows.length ≤ 9223372036854775807) (hmo : most ≤ 1000) (hr : ∀ r ∈ rows, r.length ≤ 9223372036854775807) : Ret pg n_gimballaw08_mirror [.sl (rows.map ints), .int .i64 most] (.sl ((mirM rows n).map ints)) := by
  have hnr : n ≤ rows.length := by omega
  have hmm : min (rows.length : Int) (most : Int) = (n : Int) := by omega
  refine gimballaw08_mirror.of rfl (W_b ?_)
  unfold gimballaw08_mirror.k gimballaw08_mirror.res
  simp -dsimp -implicitDefEqProofs (disch := (first | assumption | omega | (simp only [zE] <;> omega) | (apply isPure_intro <;> simp))) only [go_sem, hmm]
  refine W_loop (T := Nat × V × (Nat → Nat) × Hp × Nat) (fun t => ⟨E [(0, .sl (rows.map ints)), (5, .int .i64 n), (6, t.2.1), (7, .int .i64 t.1)], t.2.2.2.1, t.2.2.2.2, t.2.2.2.2⟩)
    (fun t => t.1 ≤ n ∧ Row 0 t.2.2.2.1 t.2.2.2.2 t.2.1 1 ((List.range t.1).map fun k => .own (t.2.2.1 k) n) ∧ ∀ k, k < t.1 → t.2.2.2.1 (t.2.2.1 k) = some ⟨(List.replicate n 0).map (V.int .i64), 1⟩ ∧ t.2.2.1 k < t.2.2.2.2 ∧ (∀ m, t.2.1 ≠ .own (t.2.2.1 k) m) ∧ ∀ m, m < t.1 → m ≠ k → t.2.2.1 m ≠ t.2.2.1 k) (fun t => n - t.1) (0, .nil, fun _ => 0, _, _) rfl ⟨by dsimp only; omega, Row.nil _ _ _ _, fun k h => by dsimp only at h; omega⟩ ?_
  rintro ⟨i, w, ids, H, nx⟩ ⟨i1, i2, i3⟩
  dsimp only at i1 i2 i3
  by_cases hi : i < n
  · simp -dsimp -implicitDefEqProofs (disch := (first | assumption | omega | (simp only [zE] <;> omega) | (apply isPure_intro <;> simp))) only [go_sem]
    refine W_gh0 ?_
    simp -dsimp -implicitDefEqProofs (disch := (first | assumption | omega | (simp only [zE] <;> omega) | (apply isPure_intro <;> simp))) only [go_sem]
    have i2' : Row 0 (H.upd (nx + 5) (some ⟨(List.replicate n 0).map (V.int .i64), 1⟩)) (nx + 6) w 1 ((List.range i).map fun k => .own (ids k) n) := i2.same (fun b hb => Hp.upd_ne _ _ (by omega)) (by omega)
    refine effB_row (lo := 0) (nx := nx + 6) (H0 := H.upd (nx + 5) (some ⟨(List.replicate n 0).map (V.int .i64), 1⟩)) (xs := (List.range i).map fun k => .own (ids k) n) i2' (by omega) rfl (by omega) (by omega) (by simp [rowOk, V.cells, V.cellOk, V.isJunk]) (by decide) (by simp; omega) (by simp; omega) fun v2 H2 r1 r2 r3 r4 => ?_
    have hids : (List.range i).map (fun k => V.own (ids k) n) = (List.range i).map (fun k => V.own (if k = i then nx + 5 else ids k) n) := List.map_congr_left fun k hk => by simp at hk; rw [if_neg (by omega)]
    have hlast : V.own (nx + 5) n = (fun k => V.own (if k = i then nx + 5 else ids k) n) i := by simp
    rw [hids, hlast, range_snoc] at r1
    have hw5 : ∀ m, w ≠ .own (nx + 5) m := fun m e => by
      rcases i2 with ⟨h, _⟩ | ⟨b, h, _, hb, _⟩
      · rw [h] at e; cases e
      · rw [h] at e; cases e; omega
    simp -dsimp -implicitDefEqProofs (disch := (first | assumption | omega | (simp only [zE] <;> omega) | (apply isPure_intro <;> simp))) only [go_sem]
    refine ⟨(i + 1, v2, fun k => if k = i then nx + 5 else ids k, H2, _), rfl, ⟨by dsimp only; omega, r1.same (fun _ _ => rfl) (by dsimp only; omega), fun k hk => ?_⟩, by dsimp only; omega⟩
    dsimp only at hk ⊢
    by_cases hki : k = i
    · subst hki
      rw [if_pos rfl]
      refine ⟨?_, by omega, fun m e => ?_, fun m hm hmk => ?_⟩
      · rw [r3 _ (by omega) hw5, Hp.upd_same]
      · have := r2 _ _ e; omega
      · rw [if_neg hmk]
        have := (i3 m (by omega)).2.1; omega
    · rw [if_neg hki]
      obtain ⟨h1, h2, h3, h4⟩ := i3 k (by omega)
      refine ⟨?_, by omega, fun m e => ?_, fun m hm hmk => ?_⟩
      · rw [r3 _ (by omega) (fun m => h3 m), Hp.upd_ne _ _ (by omega)]; exact h1
      · have := r2 _ _ e; omega
      · by_cases hmi : m = i
        · rw [if_pos hmi]; omega
        · rw [if_neg hmi]; exact h4 m (by omega) hmk
  · have hie : n = i := by omega
    subst hie
    have hd : ∀ k m, k < n → m < n → m ≠ k → ids m ≠ ids k := fun k m hk hm hmk => (i3 k hk).2.2.2 m hm hmk
    have hw : ∀ k m, k < n → w ≠ .own (ids k) m := fun k m hk => (i3 k hk).2.2.1 m
    have hz : ∀ k, (List.replicate n (0 : Int)) = (List.range n).map (mirF rows 0 0 k) := fun k => by
      refine List.ext_getElem (by simp) fun a h1 h2 => ?_
      simp [mirF]
    have hi0 : ∀ k, k < n → H (ids k) = some ⟨((List.range n).map (mirF rows 0 0 k)).map (V.int .i64), 1⟩ ∧ ids k < nx := fun k hk => ⟨by rw [← hz k]; exact (i3 k hk).1, (i3 k hk).2.1⟩
    clear i3
    simp -dsimp -implicitDefEqProofs (disch := (first | assumption | omega | (simp only [zE] <;> omega) | (apply isPure_intro <;> simp))) only [go_sem]
    refine W_loop (T := Nat × Hp × Nat) (fun t => ⟨E [(0, .sl (rows.map ints)), (5, .int .i64 n), (6, w), (8, .int .i64 t.1)], t.2.1, t.2.2, t.2.2⟩)
      (fun t => t.1 ≤ n ∧ Row 0 t.2.1 t.2.2 w 1 ((List.range n).map fun k => .own (ids k) n) ∧ ∀ k, k < n → t.2.1 (ids k) = some ⟨((List.range n).map (mirF rows t.1 0 k)).map (V.int .i64), 1⟩ ∧ ids k < t.2.2) (fun t => n - t.1) (0, H, _) rfl ⟨by dsimp only; omega, i2.same (fun _ _ => rfl) (by dsimp only; omega), fun k hk => ⟨(hi0 k hk).1, by have := (hi0 k hk).2; dsimp only; omega⟩⟩ ?_
    clear i2 hi0 hz
    rintro ⟨i, H, nx⟩ ⟨i1, i2, i3⟩
    dsimp only at i1 i2 i3
    have hend : (i = n ∨ rows.length ≤ i) → ∀ a c, a < n → c < n → mirF rows i 0 a c = at2 rows (max a c) (min a c) := fun h a c ha hc => by
      unfold mirF
      by_cases hm : max a c < i
      · rw [if_pos (.inl hm)]
      · rw [if_neg (by omega)]
        rcases h with h | h
        · omega
        · refine (at2_zero fun r hr => ?_).symm
          rw [List.getElem?_eq_none (by omega)] at hr; cases hr
    have fin : (i = n ∨ rows.length ≤ i) → frz H 8 w = some (.sl ((mirM rows n).map ints)) := fun h => by
      have e : (mirM rows n).map ints = (List.range n).map fun k => ints ((List.range n).map fun c => at2 rows (max k c) (min k c)) := by simp only [mirM, mat, List.map_map]; rfl
      rw [e]
      refine i2.frz (allOf_map fun k hk => ?_)
      have hk := List.mem_range.1 hk
      have e2 : (List.range n).map (mirF rows i 0 k) = (List.range n).map fun c => at2 rows (max k c) (min k c) := List.map_congr_left fun c hc => hend h k c hk (List.mem_range.1 hc)
      have h1 := (i3 k hk).1
      rw [e2] at h1
      rw [frz_own, h1, frzO_some (by simp), frz_map fun x => rfl]
      rfl
    by_cases hi : i < n
    · by_cases hir : i < rows.length
      · have hrm := getD_mem' [] hir
        have hrl := hr _ hrm
        obtain ⟨b, rfl, b1, b2, b3⟩ := i2.own_of (by simp; omega)
        rw [List.length_map, List.length_range] at hw ⊢
        have hbn : ∀ k, k < n → b ≠ ids k := fun k hk e => hw k n hk (by rw [e])
        simp -dsimp -implicitDefEqProofs (disch := (first | assumption | omega | (simp only [zE] <;> omega) | (apply isPure_intro <;> simp))) only [go_sem]
        refine W_loop (T := Nat × Hp × Nat) (fun t => ⟨E [(0, .sl (rows.map ints)), (5, .int .i64 n), (6, .own b n), (8, .int .i64 i), (9, .int .i64 t.1)], t.2.1, t.2.2, t.2.2⟩)
          (fun t => t.1 ≤ i + 1 ∧ t.1 ≤ (rows.getD i []).length ∧ b < t.2.2 ∧ t.2.1 b = some ⟨(List.range n).map fun k => .own (ids k) n, 1⟩ ∧ ∀ k, k < n → t.2.1 (ids k) = some ⟨((List.range n).map (mirF rows i t.1 k)).map (V.int .i64), 1⟩ ∧ ids k < t.2.2) (fun t => i + 1 - t.1) (0, H, _) rfl ⟨by dsimp only; omega, by dsimp only; omega, by dsimp only; omega, b3, fun k hk => ⟨(i3 k hk).1, by have := (i3 k hk).2; dsimp only; omega⟩⟩ ?_
        clear i2 i3 fin
        rintro ⟨k, H, nx⟩ ⟨k1, k2, k3, k4, k5⟩
        dsimp only at k1 k2 k3 k4 k5
        have hload : ∀ (m nx : Nat), m < n → b < nx → loadO true nx b (some ⟨(List.range n).map fun k => .own (ids k) n, 1⟩) n m 0 1 false = some (.own (ids m) n) := fun m nx hm hb => loadO_gen (fun _ => hb) (by simp) (by simp [hm]) rfl rfl
        by_cases hki : k ≤ i
        · by_cases hkr : k < (rows.getD i []).length
          · obtain ⟨q1, q2⟩ := k5 i hi
            have hv : (rows.getD i []).getD k 0 = at2 rows i k := rfl
            have e1 : ((List.range n).map (mirF rows i k i)).set k (at2 rows i k) = (List.range n).map (mirF rows i (k + 1) i) := by
              rw [range_set]
              refine List.map_congr_left fun c hc => ?_
              by_cases hck : c = k
              · subst hck; rw [if_pos rfl, mirF_at (by omega)]
              · rw [if_neg hck, mirF_step (by omega)]
            have hbi : (b = ids i) = False := by simpa using hbn i hi
            by_cases hik : k = i
            · subst hik
              have e2 : ((List.range n).map (mirF rows k (k + 1) k)).set k (at2 rows k k) = (List.range n).map (mirF rows k (k + 1) k) := by
                rw [range_set]
                refine List.map_congr_left fun c hc => ?_
                by_cases hck : c = k
                · subst hck; rw [if_pos rfl, mirF_at (by omega)]
                · rw [if_neg hck]
              simp -dsimp -implicitDefEqProofs (disch := (first | assumption | omega | (simp only [zE] <;> omega) | (apply isPure_intro <;> simp))) only [go_sem, k4, hload, q1, hv, hbi, e1, e2]
              generalize hH2 : Hp.upd H (ids k) _ = H2
              have s1 := upd_at_same hH2
              have s2 := upd_at_ne hH2 k4 (hbn k hi)
              refine ⟨(k + 1, H2, _), rfl, ⟨by dsimp only; omega, by dsimp only; omega, by dsimp only; omega, s2, fun a ha => ?_⟩, by dsimp only; omega⟩
              dsimp only
              obtain ⟨y1, y2⟩ := k5 a ha
              refine ⟨?_, by omega⟩
              by_cases hak : a = k
              · subst hak; exact s1
              · have z1 := upd_at_ne hH2 y1 (hd k a hi ha hak)
                rw [z1, List.map_congr_left (g := mirF rows k (k + 1) a) fun c hc => mirF_step (by omega)]
            · obtain ⟨t1, t2⟩ := k5 k (by omega)
              have hki' : (ids k = ids i) = False := by simpa using hd i k hi (by omega) hik
              have e2 : ((List.range n).map (mirF rows i k k)).set i (at2 rows i k) = (List.range n).map (mirF rows i (k + 1) k) := by
                rw [range_set]
                refine List.map_congr_left fun c hc => ?_
                by_cases hci : c = i
                · subst hci; rw [if_pos rfl, mirF_at (by omega)]
                · rw [if_neg hci, mirF_step (by omega)]
              simp -dsimp -implicitDefEqProofs (disch := (first | assumption | omega | (simp only [zE] <;> omega) | (apply isPure_intro <;> simp))) only [go_sem, k4, hload, q1, hv, hbi, e1, hki', t1, e2]
              generalize hH1 : Hp.upd H (ids i) _ = H1
              generalize hH2 : Hp.upd H1 (ids k) _ = H2
              have p1 := upd_at_same hH1
              have p2 := upd_at_ne hH1 k4 (hbn i hi)
              have s1 := upd_at_same hH2
              have s2 := upd_at_ne hH2 p2 (hbn k (by omega))
              have s3 := upd_at_ne hH2 p1 (hd k i (by omega) hi (Ne.symm hik))
              refine ⟨(k + 1, H2, _), rfl, ⟨by dsimp only; omega, by dsimp only; omega, by dsimp only; omega, s2, fun a ha => ?_⟩, by dsimp only; omega⟩
              dsimp only
              obtain ⟨y1, y2⟩ := k5 a ha
              refine ⟨?_, by omega⟩
              by_cases hak : a = k
              · subst hak; exact s1
              · by_cases hai : a = i
                · subst hai; exact s3
                · have z1 := upd_at_ne hH1 y1 (hd i a hi ha hai)
                  have z2 := upd_at_ne hH2 z1 (hd k a (by omega) ha hak)
                  rw [z2, List.map_congr_left (g := mirF rows i (k + 1) a) fun c hc => mirF_step (by omega)]
          · simp -dsimp -implicitDefEqProofs (disch := (first | assumption | omega | (simp only [zE] <;> omega) | (apply isPure_intro <;> simp))) only [go_sem]
            have hzr : ∀ m, k ≤ m → m ≤ i → at2 rows i m = 0 := fun m h1 h2 => at2_zero fun r h => by
              have : rows.getD i [] = r := by simp [List.getD_eq_getElem?_getD, h]
              rw [← this]; omega
            refine ⟨(i + 1, H, _), rfl, ⟨by dsimp only; omega, .inr ⟨b, by simp, by omega, by dsimp only; omega, k4⟩, fun a ha => ?_⟩, by dsimp only; omega⟩
            dsimp only
            obtain ⟨y1, y2⟩ := k5 a ha
            exact ⟨by rw [y1, List.map_congr_left (g := mirF rows (i + 1) 0 a) fun c hc => mirF_row hzr], by omega⟩
        · simp -dsimp -implicitDefEqProofs (disch := (first | assumption | omega | (simp only [zE] <;> omega) | (apply isPure_intro <;> simp))) only [go_sem]
          refine ⟨(i + 1, H, _), rfl, ⟨by dsimp only; omega, .inr ⟨b, by simp, by omega, by dsimp only; omega, k4⟩, fun a ha => ?_⟩, by dsimp only; omega⟩
          dsimp only
          obtain ⟨y1, y2⟩ := k5 a ha
          exact ⟨by rw [y1, List.map_congr_left (g := mirF rows (i + 1) 0 a) fun c hc => mirF_row fun m h1 h2 => by omega], by omega⟩
      · exact absurd hi (by omega)
    · have hie : i = n := by omega
      have hf := fin (.inl hie)
      simp -dsimp -implicitDefEqProofs (disch := (first | assumption | omega | (simp only [zE] <;> omega) | (apply isPure_intro <;> simp))) only [go_sem]
      rw [hf]
      rfl
theorem cpy_pad {H : Hp} {id b n : Nat} {l : List Int} (hb : H b = some ⟨(List.replicate n 0).map (V.int .i64), 1⟩) : effV H id (.cpy 1) [.own b n, ints l] = some (.int .i64 (min l.length n : Nat), H.upd b (some ⟨(padL l n).map (V.int .i64), 1⟩)) := by
  have hr : rowOk 1 (l.map (V.int .i64)) = true := by simp [rowOk, V.isJunk, V.cells, V.cellOk]
  have hp : (l.map (V.int .i64)).take (min l.length n) ++ ((List.replicate n 0).map (V.int .i64)).drop (min l.length n) = (padL l n).map (V.int .i64) := by
    rw [← List.map_take, ← List.map_drop, ← List.map_append]
    congr 1
    refine List.ext_getElem (by simp [padL_len]; omega) fun k h1 h2 => ?_
    have h3 : k < n := by rw [padL_len] at h2; exact h2
    have h4 : (padL l n)[k] = l.getD k 0 := by simp [padL]
    rw [h4]
    by_cases hk : k < l.length
    · rw [List.getElem_append_left (by rw [List.length_take]; omega), List.getElem_take]
      simp [List.getD_eq_getElem?_getD, hk]
    · rw [List.getElem_append_right (by rw [List.length_take]; omega)]
      simp [List.getD_eq_getElem?_getD, hk]
  show effV H id (.cpy 1) [.own b n, .sl (l.map (V.int .i64))] = _
  simp only [effV, slOf, hb, hr, V.notIn, List.length_map, List.length_replicate, hp]
  simp
theorem filled8_ret (l : List Int) (n : Nat) (hn : n ≤ 1000) : Ret pg n_gimballaw08_filled [ints l, .int .i64 n] (ints (padL l n)) := by
  refine gimballaw08_filled.of rfl (W_b ?_)
  unfold gimballaw08_filled.k gimballaw08_filled.res
  simp -dsimp -implicitDefEqProofs (disch := (first | assumption | omega | (simp only [zE] <;> omega) | (apply isPure_intro <;> simp))) only [go_sem]
  refine effB_of (cpy_pad (Hp.upd_same _ _ _)) ?_
  have hpl : ((padL l n).map (V.int .i64)).length = n := by rw [List.length_map]; exact padL_len _ _
  simp -dsimp -implicitDefEqProofs (disch := (first | assumption | omega | (simp only [zE] <;> omega) | (apply isPure_intro <;> simp))) only [go_sem, hpl]
  rw [frz_map fun x => rfl]
  rfl
theorem list8_ret (l : List Int) (n : Nat) (hn : n ≤ 1000) (hv : ∀ v ∈ l, In64 v) : Ret pg n_gimballaw08_list [ints l, .int .i64 n] (.tup [ivl (padL l n), dvl (padL l n)]) := by
  refine gimballaw08_list.of rfl (W_b ?_)
  unfold gimballaw08_list.k gimballaw08_list.res
  have hpn := padL_len l n
  simp -dsimp -implicitDefEqProofs (disch := (first | assumption | omega | (simp only [zE] <;> omega) | (apply isPure_intro <;> simp))) only [go_sem]
  first | refine callB_of (filled8_ret l n hn) (by simp) ?_ | refine callP_of (filled8_ret l n hn) (by simp) ?_
  simp -dsimp -implicitDefEqProofs (disch := (first | assumption | omega | (simp only [zE] <;> omega) | (apply isPure_intro <;> simp))) only [go_sem]
  refine W_loop (T := Nat × V × V × Hp × Nat) (fun t => ⟨E [(1, .int .i64 n), (6, t.2.1), (7, t.2.2.1), (8, ints (padL l n)), (9, .int .i64 t.1)], t.2.2.2.1, t.2.2.2.2, t.2.2.2.2⟩)
    (fun t => t.1 ≤ n ∧ Row 0 t.2.2.2.1 t.2.2.2.2 t.2.1 2 ((padL l t.1).map IV) ∧ Row 0 t.2.2.2.1 t.2.2.2.2 t.2.2.1 2 ((padL l t.1).map DV) ∧ ∀ b n m, t.2.1 = .own b n → t.2.2.1 = .own b m → False) (fun t => n - t.1) (0, .nil, .nil, _, _) rfl ⟨by dsimp only; omega, Row.nil _ _ _ _, Row.nil _ _ _ _, fun b n m h => by cases h⟩ ?_
  rintro ⟨i, va, vb, H, nx⟩ ⟨i1, i2, i3, i4⟩
  dsimp only at i1 i2 i3 i4
  by_cases hi : i < n
  · have hx : In64 (l.getD i 0) := getD_in hv i
    have hg : (padL l n).getD i 0 = l.getD i 0 := by unfold padL; exact range_getD 0 hi
    have hpl := padL_len l i
    have hps := padL_succ l i
    generalize hX : l.getD i 0 = x at *
    simp -dsimp -implicitDefEqProofs (disch := (first | assumption | omega | (simp only [zE] <;> omega) | (apply isPure_intro <;> simp))) only [go_sem, hpn, hg]
    refine callB_of (of_ret x hx) (by simp) ?_
    simp -dsimp -implicitDefEqProofs (disch := (first | assumption | omega | (simp only [zE] <;> omega) | (apply isPure_intro <;> simp))) only [go_sem]
    refine effB_row (lo := 0) (nx := nx) (H0 := H) (xs := (padL l i).map IV) i2 (by omega) rfl (by omega) (by omega) (by simp [rowOk, V.cells, V.cellOk, IV, V.isJunk]) (by decide) (by simp; omega) (by simp; omega) fun va' H2 r1 r2 r3 r4 => ?_
    rw [map_app, ← hps] at r1
    simp -dsimp -implicitDefEqProofs (disch := (first | assumption | omega | (simp only [zE] <;> omega) | (apply isPure_intro <;> simp))) only [go_sem, hpn, hg]
    refine callB_of (r_of x hx) (by simp) ?_
    simp -dsimp -implicitDefEqProofs (disch := (first | assumption | omega | (simp only [zE] <;> omega) | (apply isPure_intro <;> simp))) only [go_sem]
    refine effB_row (lo := 0) (nx := nx + 11) (H0 := H2) (xs := (padL l i).map DV) (i3.keep r3 (fun b n m h1 h2 => i4 b n m h1 h2) (by omega)) (by omega) rfl (by omega) (by omega) (by simp [rowOk, V.cells, V.cellOk, DV, V.isJunk]) (by decide) (by simp; omega) (by simp; omega) fun vb' H3 s1 s2 s3 s4 => ?_
    rw [map_app, ← hps] at s1
    have hsep : Sep vb va' := fun b n m h1 h2 => by have := i3.lt h1; have := r2 b m h2; omega
    have r1' := r1.keep s3 hsep (Nat.le_refl _)
    simp -dsimp -implicitDefEqProofs (disch := (first | assumption | omega | (simp only [zE] <;> omega) | (apply isPure_intro <;> simp))) only [go_sem]
    exact ⟨(i + 1, va', vb', H3, _), rfl, ⟨by dsimp only; omega, r1'.same (fun _ _ => rfl) (by dsimp only; omega), s1.same (fun _ _ => rfl) (by dsimp only; omega), fun b n m h1 h2 => by have := r1.lt h1; have := s2 b m h2; omega⟩, by dsimp only; omega⟩
  · have hie : i = n := by omega
    subst hie
    simp -dsimp -implicitDefEqProofs (disch := (first | assumption | omega | (simp only [zE] <;> omega) | (apply isPure_intro <;> simp))) only [go_sem]
    rw [i2.frz (frz_map fun x => frz_IV _ _ _), i3.frz (frz_map fun x => frz_DV _ _ _)]
    rfl
theorem padL_in {l : List Int} (h : ∀ v ∈ l, In64 v) (n : Nat) : ∀ v ∈ padL l n, In64 v := fun v hv => by
  unfold padL at hv
  obtain ⟨k, _, rfl⟩ := List.mem_map.1 hv
  exact getD_in h k
theorem read8_ret (rows : List (List Int)) (q : List Int) (c : Int) (most n : Nat) (hmn : min rows.length most = n) (hm : most ≤ 8) (hl : rows.length ≤ 9223372036854775807) (hr : ∀ r ∈ rows, r.length ≤ 9223372036854775807 ∧ ∀ v ∈ r, In64 v) (hq : ∀ v ∈ q, In64 v) (hc : In64 c) :
    Ret pg n_gimballaw08_read [.sl (rows.map ints), ints q, .int .i64 c, .int .i64 most] (.tup [QV (mirM rows n) (padL q n) c, DQV (mirM rows n) (padL q n) c, .bool true]) := by
  have hn : n ≤ 8 := by omega
  have hml := (mirM_sq rows n).1
  have hpn := padL_len q n
  have g1 := mirror8_ret rows most n hmn (by omega) hl (by omega) fun r h => (hr r h).1
  have g2 := filled8_ret q n (by omega)
  have hmi := mirM_in (fun r h => (hr r h).2) n
  have hpi := padL_in hq n
  have g3 := qof_ret (mirM rows n) (padL q n) c (by omega) (fun r h => ⟨by rw [(mirM_sq rows n).2 r h]; omega, hmi r h⟩) hpi (by omega) hc
  rw [qofE_mir rows (by omega) hpn, if_pos rfl] at g3
  have g4 := r8of_ret (mirM rows n) (padL q n) c (by omega) (fun r h => ⟨by rw [(mirM_sq rows n).2 r h]; omega, hmi r h⟩) hpi (by omega) hc
  refine gimballaw08_read.of rfl (W_b ?_)
  unfold gimballaw08_read.k gimballaw08_read.res
  simp -dsimp -implicitDefEqProofs (disch := (first | assumption | omega | (simp only [zE] <;> omega) | (apply isPure_intro <;> simp))) only [go_sem]
  first | refine callB_of (g1) (by simp) ?_ | refine callP_of (g1) (by simp) ?_
  simp -dsimp -implicitDefEqProofs (disch := (first | assumption | omega | (simp only [zE] <;> omega) | (apply isPure_intro <;> simp))) only [go_sem, hml]
  first | refine callB_of (g2) (by simp) ?_ | refine callP_of (g2) (by simp) ?_
  simp -dsimp -implicitDefEqProofs (disch := (first | assumption | omega | (simp only [zE] <;> omega) | (apply isPure_intro <;> simp))) only [go_sem]
  first | refine callB_of (g3) (by simp) ?_ | refine callP_of (g3) (by simp) ?_
  simp -dsimp -implicitDefEqProofs (disch := (first | assumption | omega | (simp only [zE] <;> omega) | (apply isPure_intro <;> simp))) only [go_sem]
  first | refine callB_of (g4) (by simp) ?_ | refine callP_of (g4) (by simp) ?_
  simp -dsimp -implicitDefEqProofs (disch := (first | assumption | omega | (simp only [zE] <;> omega) | (apply isPure_intro <;> simp))) only [go_sem, hml, hpn]
  done
end Go.Gim
/- The chapter's examples: quadratic functions. -/
set_option maxRecDepth 100000
set_option maxHeartbeats 4000000
set_option linter.unusedSimpArgs false
set_option linter.unusedVariables false
namespace Go.Gim
open Go.Proofs
def quadF (m : List (List Int)) (q : List Int) (c : Int) : List Nat := (m.flatMap fun r => (r.flatMap fun x => decF x ++ [32]) ++ [59]) ++ ((q.flatMap fun x => decF x ++ [32]) ++ (59 :: decF c))
theorem quadT_F {m : List (List Int)} {q : List Int} {c : Int} (h : (m.all (fun r => r.all fun x => decide (x.natAbs < 100000000000000000000)) && q.all (fun x => decide (x.natAbs < 100000000000000000000)) && decide (c.natAbs < 100000000000000000000)) = true) : quadT m q c = quadF m q c := by
  simp only [Bool.and_eq_true] at h
  unfold quadT quadF
  rw [numsL_numsF h.1.2, decL_decF (of_decide_eq_true h.2)]
  congr 1
  exact flat_congr fun r hr => by rw [numsL_numsF (List.all_eq_true.1 h.1.1 r hr)]
theorem quad_eq {m : List (List Int)} {q : List Int} {c : Int} {b : List Nat} (h : (m.all (fun r => r.all fun x => decide (x.natAbs < 100000000000000000000)) && q.all (fun x => decide (x.natAbs < 100000000000000000000)) && decide (c.natAbs < 100000000000000000000)) = true) (hb : quadF m q c = b) : strV .eql (bst (quadT m q c)) (bst b) = some (.bool true) := bst_eq (by rw [quadT_F h, hb])
theorem awake08_ret : Ret pg n_gimballaw08_awake [] (.bool true) := by
  have in2 : ∀ a b : Int, In64 a → In64 b → ∀ v ∈ [a, b], In64 v := fun a b ha hb v hv => by simp at hv; rcases hv with rfl | rfl <;> assumption
  have rows2 : ∀ a b c d : Int, In64 a → In64 b → In64 c → In64 d → ∀ r ∈ [[a, b], [c, d]], r.length ≤ 1099511627776 ∧ ∀ v ∈ r, In64 v := fun a b c d ha hb hc hd r hr => by
    simp at hr
    rcases hr with rfl | rfl
    · exact ⟨by simp, in2 a b ha hb⟩
    · exact ⟨by simp, in2 c d hc hd⟩
  have o1 := qof_ret [[2, 1], [1, 3]] [1, 2] 4 (by decide) (rows2 2 1 1 3 (by decide) (by decide) (by decide) (by decide)) (by decide) (by decide) (by decide)
  rw [show qofE [[2, 1], [1, 3]] [1, 2] = 0 by decide, if_pos rfl] at o1
  have o2 := qof_ret [[1, 2], [3, 1]] [1, 2] 4 (by decide) (rows2 1 2 3 1 (by decide) (by decide) (by decide) (by decide)) (by decide) (by decide) (by decide)
  rw [show qofE [[1, 2], [3, 1]] [1, 2] = 1 by decide, if_neg (by decide)] at o2
  have hsq : Sq [[2, 1], [1, 3]] 2 := ⟨rfl, fun r hr => by simp at hr; rcases hr with rfl | rfl <;> rfl⟩
  have sP : ∀ i j, lim (at2 [[2, 1], [1, 3]] i j) ≤ 2 := Sq.sm fun r h => (rows2 2 1 1 3 (by decide) (by decide) (by decide) (by decide) r h).2
  have lim2 : ∀ a b : Int, In64 a → In64 b → ∀ i, lim ([a, b].getD i 0) ≤ 2 := fun a b ha hb i => lim_i64 (getD_in (in2 a b ha hb) i)
  have sQ := lim2 1 2 (by decide) (by decide)
  have s4 : lim 4 ≤ 2 := lim_i64 (by decide)
  have l1 := list8_ret [1, 1] 2 (by decide) (in2 1 1 (by decide) (by decide))
  have l2 := list8_ret [] 2 (by decide) (by simp)
  have l3 := list8_ret [1] 1 (by decide) (fun v hv => by simp at hv; subst hv; decide)
  rw [show padL [1, 1] 2 = [1, 1] by rfl] at l1
  rw [show padL [] 2 = [0, 0] by rfl] at l2
  rw [show padL [1] 1 = [1] by rfl] at l3
  have l2' : Ret pg n_gimballaw08_list [.nil, .int .i64 2] (.tup [ivl [0, 0], dvl [0, 0]]) := l2.nn rfl
  have v1 := qvalue_ret [[2, 1], [1, 3]] [1, 2] [1, 1] 4 2 (by decide) hsq rfl rfl (fun i j => by have := sP i j; omega) (fun i => by have := sQ i; omega) (by omega) (fun i => by have := lim2 1 1 (by decide) (by decide) i; omega)
  rw [show qval [[2, 1], [1, 3]] [1, 2] 4 [1, 1] = 5 by decide] at v1
  have v2 := qslope_ret [[2, 1], [1, 3]] [1, 2] [0, 0] 4 2 (by decide) hsq rfl rfl (fun i j => by have := sP i j; omega) (fun i => by have := sQ i; omega) (fun i => by have := lim2 0 0 (by decide) (by decide) i; omega)
  rw [show ((List.range 2).map fun k => applyAt [[2, 1], [1, 3]] [0, 0] 2 k - [1, 2].getD k 0) = [-1, -2] by decide] at v2
  have v3 := qleast_ret [[2, 1], [1, 3]] [1, 2] 4 2 2 (by decide) (by decide) hsq rfl sP sQ s4
  rw [show defS 2 (at2 [[2, 1], [1, 3]]) = true by decide, if_pos rfl, show (rowF 2 fun k => det 2 (setC (at2 [[2, 1], [1, 3]]) k fun i => [1, 2].getD i 0)) = [1, 3] by decide, show det 2 (at2 [[2, 1], [1, 3]]) = 5 by decide,
    show (4 : Int) * 5 - sumZ (fun k => [1, 2].getD k 0 * det 2 (setC (at2 [[2, 1], [1, 3]]) k fun i => [1, 2].getD i 0)) 2 = 13 by decide] at v3
  have v4 := qwith_ret [[2, 1], [1, 3]] [1, 2] 4 [1] 2 1 1 rfl (by decide) hsq rfl rfl (fun i j => by have := sP i j; omega) (fun i => by have := sQ i; omega) (by omega) (fun i => by have := lim_i64 (getD_in (l := [1]) (fun v hv => by simp at hv; subst hv; decide) i); omega)
  rw [show mat 1 (at2 [[2, 1], [1, 3]]) = [[2]] by decide, show (rowF 1 fun i => (applyAt [[2, 1], [1, 3]] (rowF 2 fun i => if i < 1 then 0 else [1].getD (i - 1) 0) 2 i - [1, 2].getD i 0) * -1) = [0] by decide, show qval [[2, 1], [1, 3]] [1, 2] 4 (rowF 2 fun i => if i < 1 then 0 else [1].getD (i - 1) 0) = 3 by decide] at v4
  have v5 := qwithout_ret [[2, 1], [1, 3]] [1, 2] 4 2 1 2 (by decide) (by decide) (by decide) (by decide) hsq rfl sP sQ s4
  unfold qoutV at v5
  rw [show defS 1 (at2 [[2, 1], [1, 3]]) = true by decide, if_pos rfl, show mat (2 - 1) (gP 1 (at2 [[2, 1], [1, 3]])) = [[5]] by decide, show rowF (2 - 1) (gQ 1 (at2 [[2, 1], [1, 3]]) fun i => [1, 2].getD i 0) = [3] by decide, show gC 1 (at2 [[2, 1], [1, 3]]) (fun i => [1, 2].getD i 0) 4 = 7 by decide, show det 1 (at2 [[2, 1], [1, 3]]) = 2 by decide] at v5
  have st : ∀ v : Int, In64 v → Ret pg n_long_Int_String [IV v] (.str (bst (decL v))) := fun v hv => string_ret v (by have := lim_i64 hv; omega)
  have tx : ∀ a b : Int, In64 a → In64 b → Ret pg n_gimballaw08_text [ivl [a, b]] (.str (bst (numsL [a, b]))) := fun a b ha hb => text8_ret [a, b] (by simp) (fun x hx => by have := lim_i64 (in2 a b ha hb x hx); omega)
  have wh : ∀ a b c : Int, In64 a → In64 b → In64 c → Ret pg n_gimballaw08_whole [QV [[a]] [b] c] (.str (bst (quadT [[a]] [b] c))) := fun a b c ha hb hc => whole8_ret [[a]] [b] c (by simp) (by simp) (by simp) (fun r hr x hx => by simp at hr; subst hr; simp at hx; subst hx; have := lim_i64 ha; omega) (fun x hx => by simp at hx; subst hx; have := lim_i64 hb; omega) (by have := lim_i64 hc; omega)
  have e1 : ∀ (v : Int) (b : List Nat), (decide (v.natAbs < 100000000000000000000) && decide (decF v = b)) = true → strV .eql (bst (decL v)) (bst b) = some (.bool true) := fun v b h => bst_eq (by
    rw [Bool.and_eq_true, decide_eq_true_eq, decide_eq_true_eq] at h
    rw [decL_decF h.1, h.2])
  have q5 := e1 5 [53] (by decide)
  have q2 := e1 2 [50] (by decide)
  have q13 := e1 13 [49, 51] (by decide)
  have t12 : strV .eql (bst (numsL [-1, -2])) (bst [45, 49, 32, 45, 50, 32]) = some (.bool true) := bst_eq (by rw [numsL_numsF (by decide)]; decide)
  have t13 : strV .eql (bst (numsL [1, 3])) (bst [49, 32, 51, 32]) = some (.bool true) := bst_eq (by rw [numsL_numsF (by decide)]; decide)
  have w1 := quad_eq (m := [[2]]) (q := [0]) (c := 3) (b := [50, 32, 59, 48, 32, 59, 51]) (by decide) (by decide)
  have w2 := quad_eq (m := [[5]]) (q := [3]) (c := 7) (b := [53, 32, 59, 51, 32, 59, 55]) (by decide) (by decide)
  have b5 : (⟨#[53]⟩ : ByteArray) = bst [53] := rfl
  have b2 : (⟨#[50]⟩ : ByteArray) = bst [50] := rfl
  have b13 : (⟨#[49, 51]⟩ : ByteArray) = bst [49, 51] := rfl
  have bt12 : (⟨#[45, 49, 32, 45, 50, 32]⟩ : ByteArray) = bst [45, 49, 32, 45, 50, 32] := rfl
  have bt13 : (⟨#[49, 32, 51, 32]⟩ : ByteArray) = bst [49, 32, 51, 32] := rfl
  have bw1 : (⟨#[50, 32, 59, 48, 32, 59, 51]⟩ : ByteArray) = bst [50, 32, 59, 48, 32, 59, 51] := rfl
  have bw2 : (⟨#[53, 32, 59, 51, 32, 59, 55]⟩ : ByteArray) = bst [53, 32, 59, 51, 32, 59, 55] := rfl
  refine gimballaw08_awake.of rfl (W_b ?_)
  unfold gimballaw08_awake.k gimballaw08_awake.res
  simp -dsimp -implicitDefEqProofs (disch := (first | assumption | omega | (simp only [zE] <;> omega) | (apply isPure_intro <;> simp))) only [go_sem]
  refine callB_frE (fzl [(1, [.int .i64 2, .int .i64 1]), (2, [.int .i64 1, .int .i64 3]), (3, [ints [2, 1], ints [1, 3]]), (4, [.int .i64 1, .int .i64 2])]) (fzl_ok fun p hp => ?_) (by simp -dsimp -implicitDefEqProofs (disch := (first | assumption | omega | (simp only [zE] <;> omega) | (apply isPure_intro <;> simp))) only [go_sem]; rfl) o1 (by simp) ?_
  · simp only [List.mem_cons, List.not_mem_nil, or_false] at hp
    rcases hp with rfl | rfl | rfl | rfl
    · exact ⟨⟨1, _, by rfl, by simp -dsimp -implicitDefEqProofs (disch := (first | assumption | omega | (simp only [zE] <;> omega) | (apply isPure_intro <;> simp))) only [go_sem]⟩, by simp⟩
    · exact ⟨⟨1, _, by rfl, by simp -dsimp -implicitDefEqProofs (disch := (first | assumption | omega | (simp only [zE] <;> omega) | (apply isPure_intro <;> simp))) only [go_sem]⟩, by simp⟩
    · exact ⟨⟨1, _, by rfl, by simp -dsimp -implicitDefEqProofs (disch := (first | assumption | omega | (simp only [zE] <;> omega) | (apply isPure_intro <;> simp))) only [go_sem]; rfl⟩, by simp⟩
    · exact ⟨⟨1, _, by rfl, by simp -dsimp -implicitDefEqProofs (disch := (first | assumption | omega | (simp only [zE] <;> omega) | (apply isPure_intro <;> simp))) only [go_sem]⟩, by simp⟩
  simp -dsimp -implicitDefEqProofs (disch := (first | assumption | omega | (simp only [zE] <;> omega) | (apply isPure_intro <;> simp))) only [go_sem]
  refine callB_frE (fz1 26 [.int .i64 1, .int .i64 1]) (fz1_ok (es := 1) (by rfl) (by simp)) (by simp -dsimp -implicitDefEqProofs (disch := (first | assumption | omega | (simp only [zE] <;> omega) | (apply isPure_intro <;> simp))) only [go_sem]; rfl) l1 (by simp) ?_
  simp -dsimp -implicitDefEqProofs (disch := (first | assumption | omega | (simp only [zE] <;> omega) | (apply isPure_intro <;> simp))) only [go_sem]
  first | refine callB_of (l2') (by simp) ?_ | refine callP_of (l2') (by simp) ?_
  simp -dsimp -implicitDefEqProofs (disch := (first | assumption | omega | (simp only [zE] <;> omega) | (apply isPure_intro <;> simp))) only [go_sem]
  refine callB_frE (fz1 39 [.int .i64 1]) (fz1_ok (es := 1) (by rfl) (by simp)) (by simp -dsimp -implicitDefEqProofs (disch := (first | assumption | omega | (simp only [zE] <;> omega) | (apply isPure_intro <;> simp))) only [go_sem]; rfl) l3 (by simp) ?_
  simp -dsimp -implicitDefEqProofs (disch := (first | assumption | omega | (simp only [zE] <;> omega) | (apply isPure_intro <;> simp))) only [go_sem]
  first | refine callB_of (v1) (by simp) ?_ | refine callP_of (v1) (by simp) ?_
  simp -dsimp -implicitDefEqProofs (disch := (first | assumption | omega | (simp only [zE] <;> omega) | (apply isPure_intro <;> simp))) only [go_sem]
  first | refine callB_of (st 5 (by decide)) (by simp) ?_ | refine callP_of (st 5 (by decide)) (by simp) ?_
  simp -dsimp -implicitDefEqProofs (disch := (first | assumption | omega | (simp only [zE] <;> omega) | (apply isPure_intro <;> simp))) only [go_sem]
  first | refine callB_of (v2) (by simp) ?_ | refine callP_of (v2) (by simp) ?_
  simp -dsimp -implicitDefEqProofs (disch := (first | assumption | omega | (simp only [zE] <;> omega) | (apply isPure_intro <;> simp))) only [go_sem]
  first | refine callB_of (v3) (by simp) ?_ | refine callP_of (v3) (by simp) ?_
  simp -dsimp -implicitDefEqProofs (disch := (first | assumption | omega | (simp only [zE] <;> omega) | (apply isPure_intro <;> simp))) only [go_sem]
  first | refine callB_of (st 5 (by decide)) (by simp) ?_ | refine callP_of (st 5 (by decide)) (by simp) ?_
  simp -dsimp -implicitDefEqProofs (disch := (first | assumption | omega | (simp only [zE] <;> omega) | (apply isPure_intro <;> simp))) only [go_sem]
  first | refine callB_of (st 13 (by decide)) (by simp) ?_ | refine callP_of (st 13 (by decide)) (by simp) ?_
  simp -dsimp -implicitDefEqProofs (disch := (first | assumption | omega | (simp only [zE] <;> omega) | (apply isPure_intro <;> simp))) only [go_sem]
  first | refine callB_of (v4) (by simp) ?_ | refine callP_of (v4) (by simp) ?_
  simp -dsimp -implicitDefEqProofs (disch := (first | assumption | omega | (simp only [zE] <;> omega) | (apply isPure_intro <;> simp))) only [go_sem]
  first | refine callB_of (v5) (by simp) ?_ | refine callP_of (v5) (by simp) ?_
  simp -dsimp -implicitDefEqProofs (disch := (first | assumption | omega | (simp only [zE] <;> omega) | (apply isPure_intro <;> simp))) only [go_sem]
  first | refine callB_of (st 2 (by decide)) (by simp) ?_ | refine callP_of (st 2 (by decide)) (by simp) ?_
  simp -dsimp -implicitDefEqProofs (disch := (first | assumption | omega | (simp only [zE] <;> omega) | (apply isPure_intro <;> simp))) only [go_sem]
  refine callB_frE (fzl [(97, [.int .i64 1, .int .i64 2]), (98, [.int .i64 3, .int .i64 1]), (99, [ints [1, 2], ints [3, 1]]), (100, [.int .i64 1, .int .i64 2])]) (fzl_ok fun p hp => ?_) (by simp -dsimp -implicitDefEqProofs (disch := (first | assumption | omega | (simp only [zE] <;> omega) | (apply isPure_intro <;> simp))) only [go_sem]; rfl) o2 (by simp) ?_
  · simp only [List.mem_cons, List.not_mem_nil, or_false] at hp
    rcases hp with rfl | rfl | rfl | rfl
    · exact ⟨⟨1, _, by rfl, by simp -dsimp -implicitDefEqProofs (disch := (first | assumption | omega | (simp only [zE] <;> omega) | (apply isPure_intro <;> simp))) only [go_sem]⟩, by simp⟩
    · exact ⟨⟨1, _, by rfl, by simp -dsimp -implicitDefEqProofs (disch := (first | assumption | omega | (simp only [zE] <;> omega) | (apply isPure_intro <;> simp))) only [go_sem]⟩, by simp⟩
    · exact ⟨⟨1, _, by rfl, by simp -dsimp -implicitDefEqProofs (disch := (first | assumption | omega | (simp only [zE] <;> omega) | (apply isPure_intro <;> simp))) only [go_sem]; rfl⟩, by simp⟩
    · exact ⟨⟨1, _, by rfl, by simp -dsimp -implicitDefEqProofs (disch := (first | assumption | omega | (simp only [zE] <;> omega) | (apply isPure_intro <;> simp))) only [go_sem]⟩, by simp⟩
  simp -dsimp -implicitDefEqProofs (disch := (first | assumption | omega | (simp only [zE] <;> omega) | (apply isPure_intro <;> simp))) only [go_sem, b5, q5]
  first | refine callB_of (tx (-1) (-2) (by decide) (by decide)) (by simp) ?_ | refine callP_of (tx (-1) (-2) (by decide) (by decide)) (by simp) ?_
  simp -dsimp -implicitDefEqProofs (disch := (first | assumption | omega | (simp only [zE] <;> omega) | (apply isPure_intro <;> simp))) only [go_sem, bt12, t12]
  first | refine callB_of (tx 1 3 (by decide) (by decide)) (by simp) ?_ | refine callP_of (tx 1 3 (by decide) (by decide)) (by simp) ?_
  simp -dsimp -implicitDefEqProofs (disch := (first | assumption | omega | (simp only [zE] <;> omega) | (apply isPure_intro <;> simp))) only [go_sem, bt13, t13, b5, q5, b13, q13]
  first | refine callB_of (wh 2 0 3 (by decide) (by decide) (by decide)) (by simp) ?_ | refine callP_of (wh 2 0 3 (by decide) (by decide) (by decide)) (by simp) ?_
  simp -dsimp -implicitDefEqProofs (disch := (first | assumption | omega | (simp only [zE] <;> omega) | (apply isPure_intro <;> simp))) only [go_sem, bw1, w1, b2, q2]
  first | refine callB_of (wh 5 3 7 (by decide) (by decide) (by decide)) (by simp) ?_ | refine callP_of (wh 5 3 7 (by decide) (by decide) (by decide)) (by simp) ?_
  simp -dsimp -implicitDefEqProofs (disch := (first | assumption | omega | (simp only [zE] <;> omega) | (apply isPure_intro <;> simp))) only [go_sem, bw2, w2]
end Go.Gim

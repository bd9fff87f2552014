import Derived.Test.YtfonkhgndfjbfaaGA7
import Derived.Test.YtfonkhgndfjbfaaSB
import Derived.Test.YtfonkhgndfjbfaaLR2
import Derived.Test.YtfonkhgndfjbfaaGW
import Derived.Test.YtfonkhgndfjbfaaSM
/- What the laws on graphs use: matrices as texts. -/
set_option maxRecDepth 100000
set_option maxHeartbeats 4000000
set_option linter.unusedSimpArgs false
set_option linter.unusedVariables false
namespace Go.Gim
open Go.Proofs
theorem take_mem {α : Type} {l : List α} {i : Nat} {x : α} (h : x ∈ l.take i) : x ∈ l := List.mem_of_mem_take h
theorem take_len_le {α : Type} (l : List α) (i : Nat) : (l.take i).length ≤ l.length := by rw [List.length_take]; omega
theorem whole_ret (m : List (List Int)) (n : Nat) (hn : n ≤ 12) (hm : Sq m n) (sm : ∀ r ∈ m, ∀ x ∈ r, lim x ≤ 1000000) : Ret pg n_gimballaw17_whole [.sl (m.map ivl)] (.str (bst (wholeL m))) := by
  have hd : ∀ r ∈ m, ∀ x ∈ r, dlim x ≤ 10000000 := fun r hr x hx => by have := sm r hr x hx; have := dlim_lim x; omega
  have hml := hm.1
  refine gimballaw17_whole.of rfl (W_b ?_)
  unfold gimballaw17_whole.k gimballaw17_whole.res
  simp -dsimp -implicitDefEqProofs (disch := (first | assumption | omega | (simp only [nats_len, List.length_map, List.length_set, List.length_replicate, List.length_append, List.length_range, upto_len, els_len, List.length_cons, List.length_nil] <;> omega) | (apply isPure_intro <;> simp))) only [go_sem, bst_nil]
  refine W_loop (T := Nat × List Nat × Nat) (fun t => ⟨E [(0, .sl (m.map ivl)), (3, .str (bst t.2.1)), (4, .int .i64 t.1)], fun _ => none, t.2.2, t.2.2⟩) (fun t => t.1 ≤ m.length ∧ t.2.1 = wholeL (m.take t.1)) (fun t => m.length - t.1) (0, [], _) rfl ⟨by dsimp only; omega, by simp [wholeL]⟩ ?_
  rintro ⟨i, z, nx⟩ ⟨i1, i2⟩
  dsimp only at i1 i2
  by_cases hi : i < m.length
  · have hr := getD_mem' [] hi
    have ht := take_getD [] hi
    have hrl := hm.2 _ hr
    have hwl := wholeL_len (m := m.take i) (n := n) (fun r h => by have := hm.2 r (take_mem h); omega) (fun r h => hd r (take_mem h))
    have hwl2 : (m.take i).length * (n * (10000000 + 2) + 1) ≤ 12 * (12 * 10000002 + 1) := Nat.mul_le_mul (by have := take_len_le m i; omega) (by omega)
    rw [← i2] at hwl
    generalize hX : m.getD i [] = r at *
    simp -dsimp -implicitDefEqProofs (disch := (first | assumption | omega | (simp only [nats_len, List.length_map, List.length_set, List.length_replicate, List.length_append, List.length_range, upto_len, els_len, List.length_cons, List.length_nil] <;> omega) | (apply isPure_intro <;> simp))) only [go_sem, hX]
    refine W_loop (T := Nat × List Nat × Nat) (fun t => ⟨E [(0, .sl (m.map ivl)), (3, .str (bst t.2.1)), (4, .int .i64 i), (5, .int .i64 t.1)], fun _ => none, t.2.2, t.2.2⟩) (fun t => t.1 ≤ r.length ∧ t.2.1 = z ++ numsL (r.take t.1)) (fun t => r.length - t.1) (0, z, _) rfl ⟨by dsimp only; omega, by simp [numsL]⟩ ?_
    rintro ⟨j, z1, nx'⟩ ⟨j1, j2⟩
    dsimp only at j1 j2
    have hz1 : z1.length = z.length + (numsL (r.take j)).length := by rw [j2, List.length_append]
    have hnl := numsL_len (r := r.take j) (fun x h => hd r hr x (take_mem h))
    have hnl2 : (r.take j).length * (10000000 + 2) ≤ 12 * 10000002 := Nat.mul_le_mul_right _ (by have := take_len_le r j; omega)
    by_cases hj : j < r.length
    · have hv := getD_mem' 0 hj
      have htj := take_getD 0 hj
      have s1 := sm r hr _ hv
      have s2 := hd r hr _ hv
      have s3 := decL_len (r.getD j 0)
      generalize hY : r.getD j 0 = y at *
      have a1 : strV .add (bst z1) (bst (decL y)) = some (.str (bst (z1 ++ decL y))) := strV_app (by omega)
      have a2 : strV .add (bst (z1 ++ decL y)) (bst [32]) = some (.str (bst ((z1 ++ decL y) ++ [32]))) := strV_app (by rw [List.length_append, List.length_singleton]; omega)
      have e32 : (⟨#[32]⟩ : ByteArray) = bst [32] := rfl
      have a3 : (z1 ++ decL y) ++ [32] = z ++ numsL (r.take (j + 1)) := by rw [htj, numsL_snoc, j2]; simp
      simp -dsimp -implicitDefEqProofs (disch := (first | assumption | omega | (simp only [nats_len, List.length_map, List.length_set, List.length_replicate, List.length_append, List.length_range, upto_len, els_len, List.length_cons, List.length_nil] <;> omega) | (apply isPure_intro <;> simp))) only [go_sem, hX, hY]
      refine callB_of (string_ret y (by omega)) (by simp) ?_
      simp -dsimp -implicitDefEqProofs (disch := (first | assumption | omega | (simp only [nats_len, List.length_map, List.length_set, List.length_replicate, List.length_append, List.length_range, upto_len, els_len, List.length_cons, List.length_nil] <;> omega) | (apply isPure_intro <;> simp))) only [go_sem, decS_bst, a1, e32, a2]
      exact ⟨(j + 1, z1 ++ (decL y ++ [32]), _), rfl, ⟨by dsimp only; omega, by dsimp only; rw [← a3]; simp⟩, by dsimp only; omega⟩
    · have hje : j = r.length := by omega
      subst hje
      have a4 : strV .add (bst z1) (bst [59]) = some (.str (bst (z1 ++ [59]))) := strV_app (by rw [List.length_singleton]; omega)
      have a5 : z1 ++ [59] = wholeL (m.take (i + 1)) := by rw [ht, wholeL_snoc, j2, List.take_length, i2]; simp
      have e59 : (⟨#[59]⟩ : ByteArray) = bst [59] := rfl
      simp -dsimp -implicitDefEqProofs (disch := (first | assumption | omega | (simp only [nats_len, List.length_map, List.length_set, List.length_replicate, List.length_append, List.length_range, upto_len, els_len, List.length_cons, List.length_nil] <;> omega) | (apply isPure_intro <;> simp))) only [go_sem, hX, e59, a4]
      exact ⟨(i + 1, z1 ++ [59], _), rfl, ⟨by dsimp only; omega, a5⟩, by dsimp only; omega⟩
  · have hie : i = m.length := by omega
    subst hie
    rw [List.take_length] at i2
    subst i2
    simp -dsimp -implicitDefEqProofs (disch := (first | assumption | omega | (simp only [nats_len, List.length_map, List.length_set, List.length_replicate, List.length_append, List.length_range, upto_len, els_len, List.length_cons, List.length_nil] <;> omega) | (apply isPure_intro <;> simp))) only [go_sem]
end Go.Gim
/- What the laws on graphs use: rows that are their own turned ones. -/
set_option maxRecDepth 100000
set_option maxHeartbeats 4000000
set_option linter.unusedSimpArgs false
set_option linter.unusedVariables false
namespace Go.Gim
open Go.Proofs
set_option maxHeartbeats 2000000 in
theorem mirror_ret (rows : List (List Int)) (n : Nat) (hn : n ≤ 12) (hl : rows.length ≤ 9223372036854775807) (hr : ∀ r ∈ rows, r.length ≤ 9223372036854775807) : Ret pg n_gimballaw17_mirror [.sl (rows.map ints), .int .i64 n] (.sl ((mirM rows n).map ints)) := by
  refine gimballaw17_mirror.of rfl (W_b ?_)
  unfold gimballaw17_mirror.k gimballaw17_mirror.res
  simp -dsimp -implicitDefEqProofs (disch := (first | assumption | omega | (simp only [nats_len, List.length_map, List.length_set, List.length_replicate, List.length_append, List.length_range, upto_len, els_len, List.length_cons, List.length_nil] <;> omega) | (apply isPure_intro <;> simp))) only [go_sem]
  refine W_loop (T := Nat × V × (Nat → Nat) × Hp × Nat) (fun t => ⟨E [(0, .sl (rows.map ints)), (1, .int .i64 n), (5, t.2.1), (6, .int .i64 t.1)], t.2.2.2.1, t.2.2.2.2, t.2.2.2.2⟩)
    (fun t => t.1 ≤ n ∧ Row 0 t.2.2.2.1 t.2.2.2.2 t.2.1 1 ((List.range t.1).map fun k => .own (t.2.2.1 k) n) ∧ ∀ k, k < t.1 → t.2.2.2.1 (t.2.2.1 k) = some ⟨(List.replicate n 0).map (V.int .i64), 1⟩ ∧ t.2.2.1 k < t.2.2.2.2 ∧ (∀ m, t.2.1 ≠ .own (t.2.2.1 k) m) ∧ ∀ m, m < t.1 → m ≠ k → t.2.2.1 m ≠ t.2.2.1 k) (fun t => n - t.1) (0, .nil, fun _ => 0, _, _) rfl ⟨by dsimp only; omega, Row.nil _ _ _ _, fun k h => by dsimp only at h; omega⟩ ?_
  rintro ⟨i, w, ids, H, nx⟩ ⟨i1, i2, i3⟩
  dsimp only at i1 i2 i3
  by_cases hi : i < n
  · simp -dsimp -implicitDefEqProofs (disch := (first | assumption | omega | (simp only [nats_len, List.length_map, List.length_set, List.length_replicate, List.length_append, List.length_range, upto_len, els_len, List.length_cons, List.length_nil] <;> omega) | (apply isPure_intro <;> simp))) only [go_sem]
    refine W_gh0 ?_
    simp -dsimp -implicitDefEqProofs (disch := (first | assumption | omega | (simp only [nats_len, List.length_map, List.length_set, List.length_replicate, List.length_append, List.length_range, upto_len, els_len, List.length_cons, List.length_nil] <;> omega) | (apply isPure_intro <;> simp))) only [go_sem]
    have i2' : Row 0 (H.upd (nx + 5) (some ⟨(List.replicate n 0).map (V.int .i64), 1⟩)) (nx + 6) w 1 ((List.range i).map fun k => .own (ids k) n) := i2.same (fun b hb => Hp.upd_ne _ _ (by omega)) (by omega)
    refine effB_row (lo := 0) (nx := nx + 6) (H0 := H.upd (nx + 5) (some ⟨(List.replicate n 0).map (V.int .i64), 1⟩)) (xs := (List.range i).map fun k => .own (ids k) n) i2' (by omega) rfl (by omega) (by omega) (by simp [rowOk, V.cells, V.cellOk, V.isJunk]) (by decide) (by simp; omega) (by simp; omega) fun v2 H2 r1 r2 r3 r4 => ?_
    have hids : (List.range i).map (fun k => V.own (ids k) n) = (List.range i).map (fun k => V.own (if k = i then nx + 5 else ids k) n) := List.map_congr_left fun k hk => by simp at hk; rw [if_neg (by omega)]
    have hlast : V.own (nx + 5) n = (fun k => V.own (if k = i then nx + 5 else ids k) n) i := by simp
    rw [hids, hlast, range_snoc] at r1
    have hw5 : ∀ m, w ≠ .own (nx + 5) m := fun m e => by
      rcases i2 with ⟨h, _⟩ | ⟨b, h, _, hb, _⟩
      · rw [h] at e; cases e
      · rw [h] at e; cases e; omega
    simp -dsimp -implicitDefEqProofs (disch := (first | assumption | omega | (simp only [nats_len, List.length_map, List.length_set, List.length_replicate, List.length_append, List.length_range, upto_len, els_len, List.length_cons, List.length_nil] <;> omega) | (apply isPure_intro <;> simp))) only [go_sem]
    refine ⟨(i + 1, v2, fun k => if k = i then nx + 5 else ids k, H2, _), rfl, ⟨by dsimp only; omega, r1.same (fun _ _ => rfl) (by dsimp only; omega), fun k hk => ?_⟩, by dsimp only; omega⟩
    dsimp only at hk ⊢
    by_cases hki : k = i
    · subst hki
      rw [if_pos rfl]
      refine ⟨?_, by omega, fun m e => ?_, fun m hm hmk => ?_⟩
      · rw [r3 _ (by omega) hw5, Hp.upd_same]
      · have := r2 _ _ e; omega
      · rw [if_neg hmk]
        have := (i3 m (by omega)).2.1; omega
    · rw [if_neg hki]
      obtain ⟨h1, h2, h3, h4⟩ := i3 k (by omega)
      refine ⟨?_, by omega, fun m e => ?_, fun m hm hmk => ?_⟩
      · rw [r3 _ (by omega) (fun m => h3 m), Hp.upd_ne _ _ (by omega)]; exact h1
      · have := r2 _ _ e; omega
      · by_cases hmi : m = i
        · rw [if_pos hmi]; omega
        · rw [if_neg hmi]; exact h4 m (by omega) hmk
  · have hie : n = i := by omega
    subst hie
    have hd : ∀ k m, k < n → m < n → m ≠ k → ids m ≠ ids k := fun k m hk hm hmk => (i3 k hk).2.2.2 m hm hmk
    have hw : ∀ k m, k < n → w ≠ .own (ids k) m := fun k m hk => (i3 k hk).2.2.1 m
    have hz : ∀ k, (List.replicate n (0 : Int)) = (List.range n).map (mirF rows 0 0 k) := fun k => by
      refine List.ext_getElem (by simp) fun a h1 h2 => ?_
      simp [mirF]
    have hi0 : ∀ k, k < n → H (ids k) = some ⟨((List.range n).map (mirF rows 0 0 k)).map (V.int .i64), 1⟩ ∧ ids k < nx := fun k hk => ⟨by rw [← hz k]; exact (i3 k hk).1, (i3 k hk).2.1⟩
    clear i3
    simp -dsimp -implicitDefEqProofs (disch := (first | assumption | omega | (simp only [nats_len, List.length_map, List.length_set, List.length_replicate, List.length_append, List.length_range, upto_len, els_len, List.length_cons, List.length_nil] <;> omega) | (apply isPure_intro <;> simp))) only [go_sem]
    refine W_loop (T := Nat × Hp × Nat) (fun t => ⟨E [(0, .sl (rows.map ints)), (1, .int .i64 n), (5, w), (7, .int .i64 t.1)], t.2.1, t.2.2, t.2.2⟩)
      (fun t => t.1 ≤ n ∧ Row 0 t.2.1 t.2.2 w 1 ((List.range n).map fun k => .own (ids k) n) ∧ ∀ k, k < n → t.2.1 (ids k) = some ⟨((List.range n).map (mirF rows t.1 0 k)).map (V.int .i64), 1⟩ ∧ ids k < t.2.2) (fun t => n - t.1) (0, H, _) rfl ⟨by dsimp only; omega, i2.same (fun _ _ => rfl) (by dsimp only; omega), fun k hk => ⟨(hi0 k hk).1, by have := (hi0 k hk).2; dsimp only; omega⟩⟩ ?_
    clear i2 hi0 hz
    rintro ⟨i, H, nx⟩ ⟨i1, i2, i3⟩
    dsimp only at i1 i2 i3
    have hend : (i = n ∨ rows.length ≤ i) → ∀ a c, a < n → c < n → mirF rows i 0 a c = at2 rows (max a c) (min a c) := fun h a c ha hc => by
      unfold mirF
      by_cases hm : max a c < i
      · rw [if_pos (.inl hm)]
      · rw [if_neg (by omega)]
        rcases h with h | h
        · omega
        · refine (at2_zero fun r hr => ?_).symm
          rw [List.getElem?_eq_none (by omega)] at hr; cases hr
    have fin : (i = n ∨ rows.length ≤ i) → frz H 8 w = some (.sl ((mirM rows n).map ints)) := fun h => by
      have e : (mirM rows n).map ints = (List.range n).map fun k => ints ((List.range n).map fun c => at2 rows (max k c) (min k c)) := by simp only [mirM, mat, List.map_map]; rfl
      rw [e]
      refine i2.frz (allOf_map fun k hk => ?_)
      have hk := List.mem_range.1 hk
      have e2 : (List.range n).map (mirF rows i 0 k) = (List.range n).map fun c => at2 rows (max k c) (min k c) := List.map_congr_left fun c hc => hend h k c hk (List.mem_range.1 hc)
      have h1 := (i3 k hk).1
      rw [e2] at h1
      rw [frz_own, h1, frzO_some (by simp), frz_map fun x => rfl]
      rfl
    by_cases hi : i < n
    · by_cases hir : i < rows.length
      · have hrm := getD_mem' [] hir
        have hrl := hr _ hrm
        obtain ⟨b, rfl, b1, b2, b3⟩ := i2.own_of (by simp; omega)
        rw [List.length_map, List.length_range] at hw ⊢
        have hbn : ∀ k, k < n → b ≠ ids k := fun k hk e => hw k n hk (by rw [e])
        simp -dsimp -implicitDefEqProofs (disch := (first | assumption | omega | (simp only [nats_len, List.length_map, List.length_set, List.length_replicate, List.length_append, List.length_range, upto_len, els_len, List.length_cons, List.length_nil] <;> omega) | (apply isPure_intro <;> simp))) only [go_sem]
        refine W_loop (T := Nat × Hp × Nat) (fun t => ⟨E [(0, .sl (rows.map ints)), (1, .int .i64 n), (5, .own b n), (7, .int .i64 i), (8, .int .i64 t.1)], t.2.1, t.2.2, t.2.2⟩)
          (fun t => t.1 ≤ i + 1 ∧ t.1 ≤ (rows.getD i []).length ∧ b < t.2.2 ∧ t.2.1 b = some ⟨(List.range n).map fun k => .own (ids k) n, 1⟩ ∧ ∀ k, k < n → t.2.1 (ids k) = some ⟨((List.range n).map (mirF rows i t.1 k)).map (V.int .i64), 1⟩ ∧ ids k < t.2.2) (fun t => i + 1 - t.1) (0, H, _) rfl ⟨by dsimp only; omega, by dsimp only; omega, by dsimp only; omega, b3, fun k hk => ⟨(i3 k hk).1, by have := (i3 k hk).2; dsimp only; omega⟩⟩ ?_
        clear i2 i3 fin
        rintro ⟨k, H, nx⟩ ⟨k1, k2, k3, k4, k5⟩
        dsimp only at k1 k2 k3 k4 k5
        have hload : ∀ (m nx : Nat), m < n → b < nx → loadO true nx b (some ⟨(List.range n).map fun k => .own (ids k) n, 1⟩) n m 0 1 false = some (.own (ids m) n) := fun m nx hm hb => loadO_gen (fun _ => hb) (by simp) (by simp [hm]) rfl rfl
        by_cases hki : k ≤ i
        · by_cases hkr : k < (rows.getD i []).length
          · obtain ⟨q1, q2⟩ := k5 i hi
            have hv : (rows.getD i []).getD k 0 = at2 rows i k := rfl
            have e1 : ((List.range n).map (mirF rows i k i)).set k (at2 rows i k) = (List.range n).map (mirF rows i (k + 1) i) := by
              rw [range_set]
              refine List.map_congr_left fun c hc => ?_
              by_cases hck : c = k
              · subst hck; rw [if_pos rfl, mirF_at (by omega)]
              · rw [if_neg hck, mirF_step (by omega)]
            have hbi : (b = ids i) = False := by simpa using hbn i hi
            by_cases hik : k = i
            · subst hik
              have e2 : ((List.range n).map (mirF rows k (k + 1) k)).set k (at2 rows k k) = (List.range n).map (mirF rows k (k + 1) k) := by
                rw [range_set]
                refine List.map_congr_left fun c hc => ?_
                by_cases hck : c = k
                · subst hck; rw [if_pos rfl, mirF_at (by omega)]
                · rw [if_neg hck]
              simp -dsimp -implicitDefEqProofs (disch := (first | assumption | omega | (simp only [nats_len, List.length_map, List.length_set, List.length_replicate, List.length_append, List.length_range, upto_len, els_len, List.length_cons, List.length_nil] <;> omega) | (apply isPure_intro <;> simp))) only [go_sem, k4, hload, q1, hv, hbi, e1, e2]
              generalize hH2 : Hp.upd H (ids k) _ = H2
              have s1 := upd_at_same hH2
              have s2 := upd_at_ne hH2 k4 (hbn k hi)
              refine ⟨(k + 1, H2, _), rfl, ⟨by dsimp only; omega, by dsimp only; omega, by dsimp only; omega, s2, fun a ha => ?_⟩, by dsimp only; omega⟩
              dsimp only
              obtain ⟨y1, y2⟩ := k5 a ha
              refine ⟨?_, by omega⟩
              by_cases hak : a = k
              · subst hak; exact s1
              · have z1 := upd_at_ne hH2 y1 (hd k a hi ha hak)
                rw [z1, List.map_congr_left (g := mirF rows k (k + 1) a) fun c hc => mirF_step (by omega)]
            · obtain ⟨t1, t2⟩ := k5 k (by omega)
              have hki' : (ids k = ids i) = False := by simpa using hd i k hi (by omega) hik
              have e2 : ((List.range n).map (mirF rows i k k)).set i (at2 rows i k) = (List.range n).map (mirF rows i (k + 1) k) := by
                rw [range_set]
                refine List.map_congr_left fun c hc => ?_
                by_cases hci : c = i
                · subst hci; rw [if_pos rfl, mirF_at (by omega)]
                · rw [if_neg hci, mirF_step (by omega)]
              simp -dsimp -implicitDefEqProofs (disch := (first | assumption | omega | (simp only [nats_len, List.length_map, List.length_set, List.length_replicate, List.length_append, List.length_range, upto_len, els_len, List.length_cons, List.length_nil] <;> omega) | (apply isPure_intro <;> simp))) only [go_sem, k4, hload, q1, hv, hbi, e1, hki', t1, e2]
              generalize hH1 : Hp.upd H (ids i) _ = H1
              generalize hH2 : Hp.upd H1 (ids k) _ = H2
              have p1 := upd_at_same hH1
              have p2 := upd_at_ne hH1 k4 (hbn i hi)
              have s1 := upd_at_same hH2
              have s2 := upd_at_ne hH2 p2 (hbn k (by omega))
              have s3 := upd_at_ne hH2 p1 (hd k i (by omega) hi (Ne.symm hik))
              refine ⟨(k + 1, H2, _), rfl, ⟨by dsimp only; omega, by dsimp only; omega, by dsimp only; omega, s2, fun a ha => ?_⟩, by dsimp only; omega⟩
              dsimp only
              obtain ⟨y1, y2⟩ := k5 a ha
              refine ⟨?_, by omega⟩
              by_cases hak : a = k
              · subst hak; exact s1
              · by_cases hai : a = i
                · subst hai; exact s3
                · have z1 := upd_at_ne hH1 y1 (hd i a hi ha hai)
                  have z2 := upd_at_ne hH2 z1 (hd k a (by omega) ha hak)
                  rw [z2, List.map_congr_left (g := mirF rows i (k + 1) a) fun c hc => mirF_step (by omega)]
          · simp -dsimp -implicitDefEqProofs (disch := (first | assumption | omega | (simp only [nats_len, List.length_map, List.length_set, List.length_replicate, List.length_append, List.length_range, upto_len, els_len, List.length_cons, List.length_nil] <;> omega) | (apply isPure_intro <;> simp))) only [go_sem]
            have hzr : ∀ m, k ≤ m → m ≤ i → at2 rows i m = 0 := fun m h1 h2 => at2_zero fun r h => by
              have : rows.getD i [] = r := by simp [List.getD_eq_getElem?_getD, h]
              rw [← this]; omega
            refine ⟨(i + 1, H, _), rfl, ⟨by dsimp only; omega, .inr ⟨b, by simp, by omega, by dsimp only; omega, k4⟩, fun a ha => ?_⟩, by dsimp only; omega⟩
            dsimp only
            obtain ⟨y1, y2⟩ := k5 a ha
            exact ⟨by rw [y1, List.map_congr_left (g := mirF rows (i + 1) 0 a) fun c hc => mirF_row hzr], by omega⟩
        · simp -dsimp -implicitDefEqProofs (disch := (first | assumption | omega | (simp only [nats_len, List.length_map, List.length_set, List.length_replicate, List.length_append, List.length_range, upto_len, els_len, List.length_cons, List.length_nil] <;> omega) | (apply isPure_intro <;> simp))) only [go_sem]
          refine ⟨(i + 1, H, _), rfl, ⟨by dsimp only; omega, .inr ⟨b, by simp, by omega, by dsimp only; omega, k4⟩, fun a ha => ?_⟩, by dsimp only; omega⟩
          dsimp only
          obtain ⟨y1, y2⟩ := k5 a ha
          exact ⟨by rw [y1, List.map_congr_left (g := mirF rows (i + 1) 0 a) fun c hc => mirF_row fun m h1 h2 => by omega], by omega⟩
      · have hf := fin (.inr (by omega))
        simp -dsimp -implicitDefEqProofs (disch := (first | assumption | omega | (simp only [nats_len, List.length_map, List.length_set, List.length_replicate, List.length_append, List.length_range, upto_len, els_len, List.length_cons, List.length_nil] <;> omega) | (apply isPure_intro <;> simp))) only [go_sem]
        rw [hf]
        rfl
    · have hie : i = n := by omega
      have hf := fin (.inl hie)
      simp -dsimp -implicitDefEqProofs (disch := (first | assumption | omega | (simp only [nats_len, List.length_map, List.length_set, List.length_replicate, List.length_append, List.length_range, upto_len, els_len, List.length_cons, List.length_nil] <;> omega) | (apply isPure_intro <;> simp))) only [go_sem]
      rw [hf]
      rfl
end Go.Gim
/- What the laws on graphs use: a graph, read from their input. -/
set_option maxRecDepth 100000
set_option maxHeartbeats 4000000
set_option linter.unusedSimpArgs false
set_option linter.unusedVariables false
namespace Go.Gim
open Go.Proofs
theorem read17_ret (n den : Int) (rows : List Row4) (prior : List (List Int)) (x : List Int) (hl : rows.length ≤ 9223372036854775807) (hr : ∀ r ∈ rows, r.co.length ≤ 9223372036854775807) (hpl : prior.length ≤ 9223372036854775807) (hp : ∀ r ∈ prior, r.length ≤ 9223372036854775807 ∧ ∀ v ∈ r, In64 v) (hx : x.length ≤ 9223372036854775807) (hd : In64 den) :
    Ret pg n_gimballaw17_read [.int .i64 n, .sl (rows.map RV), .sl (prior.map ints), .int .i64 den, ints x] (.tup [GV (rdG n rows prior den x), DGV (rdG n rows prior den x), .bool (rdB n rows den x)]) := by
  have g1 := gnew_ret n rows hl hr
  have g2 := rnew_ret n rows hl hr
  refine gimballaw17_read.of rfl (W_b ?_)
  unfold gimballaw17_read.k gimballaw17_read.res
  simp -dsimp -implicitDefEqProofs (disch := (first | assumption | omega | (simp only [nats_len, List.length_map, List.length_set, List.length_replicate, List.length_append, List.length_range, upto_len, els_len, List.length_cons, List.length_nil] <;> omega) | (apply isPure_intro <;> simp))) only [go_sem]
  refine callB_of (rstate_ret x hx) (by simp) ?_
  simp -dsimp -implicitDefEqProofs (disch := (first | assumption | omega | (simp only [nats_len, List.length_map, List.length_set, List.length_replicate, List.length_append, List.length_range, upto_len, els_len, List.length_cons, List.length_nil] <;> omega) | (apply isPure_intro <;> simp))) only [go_sem]
  refine callB_of (r := .tup [GV (newG n rows), .int .i64 (gnewE n rows)]) g1 (by simp) ?_
  simp -dsimp -implicitDefEqProofs (disch := (first | assumption | omega | (simp only [nats_len, List.length_map, List.length_set, List.length_replicate, List.length_append, List.length_range, upto_len, els_len, List.length_cons, List.length_nil] <;> omega) | (apply isPure_intro <;> simp))) only [go_sem]
  refine callB_of (r := .tup [DGV (newG n rows), .int .i64 (gnewE n rows)]) g2 (by simp) ?_
  have no : ∀ {p : Prop}, ¬ p → (rdB n rows den x = true → p) → rdB n rows den x = false := fun h1 h2 => by
    cases h : rdB n rows den x
    · rfl
    · exact absurd (h2 h) h1
  have all : rdB n rows den x = true ↔ gnewE n rows = 0 ∧ 0 < den ∧ (x.length : Int) = n ∧ stateB x = true := by
    unfold rdB; simp only [Bool.and_eq_true, decide_eq_true_eq]; exact ⟨fun ⟨⟨⟨a, b⟩, c⟩, d⟩ => ⟨a, b, c, d⟩, fun ⟨a, b, c, d⟩ => ⟨⟨⟨a, b⟩, c⟩, d⟩⟩
  have nog : rdB n rows den x = false → rdG n rows prior den x = newG n rows := fun h => by unfold rdG; rw [h]; rfl
  by_cases h1 : gnewE n rows = 0
  · by_cases h2 : 0 < den
    · by_cases h3 : (x.length : Int) = n
      · cases h4 : stateB x
        · have hb := no (by simp [h4]) fun h => (all.1 h).2.2.2
          rw [nog hb, hb]
          simp -dsimp -implicitDefEqProofs (disch := (first | assumption | omega | (simp only [nats_len, List.length_map, List.length_set, List.length_replicate, List.length_append, List.length_range, upto_len, els_len, List.length_cons, List.length_nil] <;> omega) | (apply isPure_intro <;> simp))) only [go_sem, h1, h3]
        · have hb := all.2 ⟨h1, h2, h3, h4⟩
          obtain ⟨hn, _, _⟩ := gnewE_ok h1
          obtain ⟨m, rfl⟩ : ∃ m : Nat, n = m := ⟨n.toNat, by omega⟩
          have hG : rdG m rows prior den x = ⟨m, rows, mirM prior m, List.replicate m 0, 0, den⟩ := by unfold rdG; rw [if_pos hb]; rfl
          rw [hb, hG]
          have hm12 : m ≤ 12 := by omega
          have hxl : x.length = m := by omega
          have q0 := qofE_mir prior hm12 (q := List.replicate m 0) (by simp)
          have hsq := mirM_sq prior m
          have hin := mirM_in (rows := prior) (fun r h => (hp r h).2) m
          have hlen : ∀ r ∈ mirM prior m, r.length = m := hsq.2
          have q1 := qof_ret (mirM prior m) (List.replicate m 0) 0 (by rw [hsq.1]; omega) (fun r h => ⟨by rw [hlen r h]; omega, hin r h⟩) (fun v hv => by obtain ⟨_, rfl⟩ := List.mem_replicate.1 hv; omega) (by simp; omega) (by omega)
          rw [q0, if_pos rfl] at q1
          have q2 := r8of_ret (mirM prior m) (List.replicate m 0) 0 (by rw [hsq.1]; omega) (fun r h => ⟨by rw [hlen r h]; omega, hin r h⟩) (fun v hv => by obtain ⟨_, rfl⟩ := List.mem_replicate.1 hv; omega) (by simp; omega) (by omega)
          have hng : newG m rows = ⟨m, rows, mat m (fun _ _ => 0), List.replicate m 0, 0, 1⟩ := by unfold newG; rw [if_pos h1]; rfl
          have q3 := with_ret (newG m rows) (mirM prior m) (List.replicate m 0) 0 den (by rw [hng]; dsimp only; omega) (by rw [hsq.1]; omega) (by simp; omega) (by have := lim_i64 hd; omega)
          rw [if_pos (by rw [hng]; exact ⟨hsq.1, by simp, h2⟩), if_pos (by rw [hng]; exact ⟨hsq.1, by simp, h2⟩)] at q3
          have hGe : GV { newG m rows with P := mirM prior m, Q := List.replicate m 0, c := 0, den := den } = GV ⟨m, rows, mirM prior m, List.replicate m 0, 0, den⟩ := by rw [hng]
          rw [hGe] at q3
          simp -dsimp -implicitDefEqProofs (disch := (first | assumption | omega | (simp only [nats_len, List.length_map, List.length_set, List.length_replicate, List.length_append, List.length_range, upto_len, els_len, List.length_cons, List.length_nil] <;> omega) | (apply isPure_intro <;> simp))) only [go_sem, h1, h3]
          refine callB_of (mirror_ret prior m hm12 hpl fun r h => (hp r h).1) (by simp) ?_
          simp -dsimp -implicitDefEqProofs (disch := (first | assumption | omega | (simp only [nats_len, List.length_map, List.length_set, List.length_replicate, List.length_append, List.length_range, upto_len, els_len, List.length_cons, List.length_nil] <;> omega) | (apply isPure_intro <;> simp))) only [go_sem]
          refine callB_frE (fz1 46 ((List.replicate m 0).map (V.int .i64))) (fz1_ok (es := 1) (by rfl) pure_ints) (by simp -dsimp -implicitDefEqProofs (disch := (first | assumption | omega | (simp only [nats_len, List.length_map, List.length_set, List.length_replicate, List.length_append, List.length_range, upto_len, els_len, List.length_cons, List.length_nil] <;> omega) | (apply isPure_intro <;> simp))) only [go_sem]; rfl) q1 (by simp) ?_
          simp -dsimp -implicitDefEqProofs (disch := (first | assumption | omega | (simp only [nats_len, List.length_map, List.length_set, List.length_replicate, List.length_append, List.length_range, upto_len, els_len, List.length_cons, List.length_nil] <;> omega) | (apply isPure_intro <;> simp))) only [go_sem]
          refine callP_of (of_ret den hd) (by simp) ?_
          simp -dsimp -implicitDefEqProofs (disch := (first | assumption | omega | (simp only [nats_len, List.length_map, List.length_set, List.length_replicate, List.length_append, List.length_range, upto_len, els_len, List.length_cons, List.length_nil] <;> omega) | (apply isPure_intro <;> simp))) only [go_sem]
          refine callP_of q3 (by simp) ?_
          simp -dsimp -implicitDefEqProofs (disch := (first | assumption | omega | (simp only [nats_len, List.length_map, List.length_set, List.length_replicate, List.length_append, List.length_range, upto_len, els_len, List.length_cons, List.length_nil] <;> omega) | (apply isPure_intro <;> simp))) only [go_sem]
          refine callB_frE (fz1 67 ((List.replicate m 0).map (V.int .i64))) (fz1_ok (es := 1) (by rfl) pure_ints) (by simp -dsimp -implicitDefEqProofs (disch := (first | assumption | omega | (simp only [nats_len, List.length_map, List.length_set, List.length_replicate, List.length_append, List.length_range, upto_len, els_len, List.length_cons, List.length_nil] <;> omega) | (apply isPure_intro <;> simp))) only [go_sem]; rfl) q2 (by simp) ?_
          simp -dsimp -implicitDefEqProofs (disch := (first | assumption | omega | (simp only [nats_len, List.length_map, List.length_set, List.length_replicate, List.length_append, List.length_range, upto_len, els_len, List.length_cons, List.length_nil] <;> omega) | (apply isPure_intro <;> simp))) only [go_sem]
          refine callB_of (r_of den hd) (by simp) ?_
          simp -dsimp -implicitDefEqProofs (disch := (first | assumption | omega | (simp only [nats_len, List.length_map, List.length_set, List.length_replicate, List.length_append, List.length_range, upto_len, els_len, List.length_cons, List.length_nil] <;> omega) | (apply isPure_intro <;> simp))) only [go_sem]
          have hd0 : decide (den < 0) = false := decide_eq_false (by omega)
          rw [hng]
          simp only [DGV, hd0]
          rfl
      · have hb := no h3 fun h => (all.1 h).2.2.1
        rw [nog hb, hb]
        simp -dsimp -implicitDefEqProofs (disch := (first | assumption | omega | (simp only [nats_len, List.length_map, List.length_set, List.length_replicate, List.length_append, List.length_range, upto_len, els_len, List.length_cons, List.length_nil] <;> omega) | (apply isPure_intro <;> simp))) only [go_sem, h1]
    · have hb := no h2 fun h => (all.1 h).2.1
      rw [nog hb, hb]
      simp -dsimp -implicitDefEqProofs (disch := (first | assumption | omega | (simp only [nats_len, List.length_map, List.length_set, List.length_replicate, List.length_append, List.length_range, upto_len, els_len, List.length_cons, List.length_nil] <;> omega) | (apply isPure_intro <;> simp))) only [go_sem, h1]
  · have hb := no h1 fun h => (all.1 h).1
    rw [nog hb, hb]
    simp -dsimp -implicitDefEqProofs (disch := (first | assumption | omega | (simp only [nats_len, List.length_map, List.length_set, List.length_replicate, List.length_append, List.length_range, upto_len, els_len, List.length_cons, List.length_nil] <;> omega) | (apply isPure_intro <;> simp))) only [go_sem]
end Go.Gim
/- The chapter's examples; the laws on graphs. -/
set_option maxRecDepth 100000
set_option maxHeartbeats 4000000
set_option linter.unusedSimpArgs false
set_option linter.unusedVariables false
namespace Go.Gim
open Go.Proofs
theorem awake17_ret : Ret pg n_gimballaw17_awake [] (.bool true) := by
  have n1 := gnew_ret 1 [⟨[1], 0, 5, 3⟩] (by decide) (by decide)
  rw [show gnewE 1 [⟨[1], 0, 5, 3⟩] = 0 by decide, if_pos rfl] at n1
  have n2 : Ret pg n_graph_New [.int .i64 0, .nil] (.tup [GV Gr0, .int .i64 1]) := (gnew_ret 0 [] (by decide) (by decide)).nn rfl
  have n3 := gnew_ret 1 (List.replicate 61 ⟨[], 0, 0, 0⟩) (by decide) (by decide)
  rw [show gnewE 1 (List.replicate 61 ⟨[], 0, 0, 0⟩) = 3 by decide, if_neg (by decide)] at n3
  have n4 := gnew_ret 1 [⟨[1, 2], 0, 5, 3⟩] (by decide) (by decide)
  rw [show gnewE 1 [⟨[1, 2], 0, 5, 3⟩] = 160 by decide, if_neg (by decide)] at n4
  refine gimballaw17_awake.of rfl (W_b ?_)
  unfold gimballaw17_awake.k gimballaw17_awake.res
  simp -dsimp -implicitDefEqProofs (disch := (first | assumption | omega | (simp only [nats_len, List.length_map, List.length_set, List.length_replicate, List.length_append, List.length_range, upto_len, els_len, List.length_cons, List.length_nil] <;> omega) | (apply isPure_intro <;> simp))) only [go_sem]
  refine callB_frE (fzp 1 [.int .i64 1] 6 [RV ⟨[1], 0, 5, 3⟩]) (fzp_ok' (es := 1) (es' := 4) (by decide) (by rfl) (by simp) (by rfl) (by simp -dsimp -implicitDefEqProofs (disch := (first | assumption | omega | (simp only [nats_len, List.length_map, List.length_set, List.length_replicate, List.length_append, List.length_range, upto_len, els_len, List.length_cons, List.length_nil] <;> omega) | (apply isPure_intro <;> simp))) only [go_sem]; rfl) (by simp)) (by simp -dsimp -implicitDefEqProofs (disch := (first | assumption | omega | (simp only [nats_len, List.length_map, List.length_set, List.length_replicate, List.length_append, List.length_range, upto_len, els_len, List.length_cons, List.length_nil] <;> omega) | (apply isPure_intro <;> simp))) only [go_sem]) n1 (by simp) ?_
  simp -dsimp -implicitDefEqProofs (disch := (first | assumption | omega | (simp only [nats_len, List.length_map, List.length_set, List.length_replicate, List.length_append, List.length_range, upto_len, els_len, List.length_cons, List.length_nil] <;> omega) | (apply isPure_intro <;> simp))) only [go_sem]
  refine callB_of n2 (by simp) ?_
  simp -dsimp -implicitDefEqProofs (disch := (first | assumption | omega | (simp only [nats_len, List.length_map, List.length_set, List.length_replicate, List.length_append, List.length_range, upto_len, els_len, List.length_cons, List.length_nil] <;> omega) | (apply isPure_intro <;> simp))) only [go_sem]
  refine newB_of (n := 61) (blk := ⟨List.replicate 61 (RV ⟨[], 0, 0, 0⟩), 4⟩) (newV_mk (n := 61) (by decide) (by decide) rfl (by decide)) ?_
  simp -dsimp -implicitDefEqProofs (disch := (first | assumption | omega | (simp only [nats_len, List.length_map, List.length_set, List.length_replicate, List.length_append, List.length_range, upto_len, els_len, List.length_cons, List.length_nil] <;> omega) | (apply isPure_intro <;> simp))) only [go_sem]
  have e61 : List.replicate 61 (RV ⟨[], 0, 0, 0⟩) = (List.replicate 61 ⟨[], 0, 0, 0⟩).map RV := by rw [List.map_replicate]
  rw [e61]
  refine callB_frE (fz1 21 ((List.replicate 61 ⟨[], 0, 0, 0⟩).map RV)) (fz1_ok (es := 4) (by rfl) (pure_map fun x => by simp)) (by simp -dsimp -implicitDefEqProofs (disch := (first | assumption | omega | (simp only [nats_len, List.length_map, List.length_set, List.length_replicate, List.length_append, List.length_range, upto_len, els_len, List.length_cons, List.length_nil] <;> omega) | (apply isPure_intro <;> simp))) only [go_sem]) n3 (by simp) ?_
  simp -dsimp -implicitDefEqProofs (disch := (first | assumption | omega | (simp only [nats_len, List.length_map, List.length_set, List.length_replicate, List.length_append, List.length_range, upto_len, els_len, List.length_cons, List.length_nil] <;> omega) | (apply isPure_intro <;> simp))) only [go_sem]
  refine callB_frE (fzp 29 [.int .i64 1, .int .i64 2] 31 [RV ⟨[1, 2], 0, 5, 3⟩]) (fzp_ok' (es := 1) (es' := 4) (by decide) (by rfl) (by simp) (by rfl) (by simp -dsimp -implicitDefEqProofs (disch := (first | assumption | omega | (simp only [nats_len, List.length_map, List.length_set, List.length_replicate, List.length_append, List.length_range, upto_len, els_len, List.length_cons, List.length_nil] <;> omega) | (apply isPure_intro <;> simp))) only [go_sem]; rfl) (by simp)) (by simp -dsimp -implicitDefEqProofs (disch := (first | assumption | omega | (simp only [nats_len, List.length_map, List.length_set, List.length_replicate, List.length_append, List.length_range, upto_len, els_len, List.length_cons, List.length_nil] <;> omega) | (apply isPure_intro <;> simp))) only [go_sem]) n4 (by simp) ?_
  simp -dsimp -implicitDefEqProofs (disch := (first | assumption | omega | (simp only [nats_len, List.length_map, List.length_set, List.length_replicate, List.length_append, List.length_range, upto_len, els_len, List.length_cons, List.length_nil] <;> omega) | (apply isPure_intro <;> simp))) only [go_sem]
  have hst : ∀ v : Int, -1000000 ≤ v → v ≤ 1000000 → State [v] := fun v h1 h2 w hw => by simp at hw; subst hw; exact ⟨h1, h2⟩
  have hr1 : Right4 ⟨[1], 0, 5, 3⟩ 1 := rightB_iff.1 (by decide)
  have g1 : Gr := ⟨1, [⟨[1], 0, 5, 3⟩], mat 1 fun _ _ => 0, List.replicate 1 0, 0, 1⟩
  have c1 := fun v h1 h2 => share_ret ⟨1, [⟨[1], 0, 5, 3⟩], mat 1 fun _ _ => 0, List.replicate 1 0, 0, 1⟩ ⟨[1], 0, 5, 3⟩ [v] hr1 (hst v h1 h2)
  have s1 := c1 4 (by decide) (by decide)
  rw [show shareR ⟨[1], 0, 5, 3⟩ [4] = 1024 by decide] at s1
  have s2 := c1 10 (by decide) (by decide)
  rw [show shareR ⟨[1], 0, 5, 3⟩ [10] = 512 by decide] at s2
  have s3 := c1 1000000 (by decide) (by decide)
  rw [show shareR ⟨[1], 0, 5, 3⟩ [1000000] = 1 by decide] at s3
  refine callB_frE (fz1 49 [.int .i64 4]) (fz1_ok (es := 1) (by rfl) (by simp)) (by simp -dsimp -implicitDefEqProofs (disch := (first | assumption | omega | (simp only [nats_len, List.length_map, List.length_set, List.length_replicate, List.length_append, List.length_range, upto_len, els_len, List.length_cons, List.length_nil] <;> omega) | (apply isPure_intro <;> simp))) only [go_sem]; rfl) s1 (by simp) ?_
  simp -dsimp -implicitDefEqProofs (disch := (first | assumption | omega | (simp only [nats_len, List.length_map, List.length_set, List.length_replicate, List.length_append, List.length_range, upto_len, els_len, List.length_cons, List.length_nil] <;> omega) | (apply isPure_intro <;> simp))) only [go_sem]
  refine callB_frE (fz1 54 [.int .i64 10]) (fz1_ok (es := 1) (by rfl) (by simp)) (by simp -dsimp -implicitDefEqProofs (disch := (first | assumption | omega | (simp only [nats_len, List.length_map, List.length_set, List.length_replicate, List.length_append, List.length_range, upto_len, els_len, List.length_cons, List.length_nil] <;> omega) | (apply isPure_intro <;> simp))) only [go_sem]; rfl) s2 (by simp) ?_
  simp -dsimp -implicitDefEqProofs (disch := (first | assumption | omega | (simp only [nats_len, List.length_map, List.length_set, List.length_replicate, List.length_append, List.length_range, upto_len, els_len, List.length_cons, List.length_nil] <;> omega) | (apply isPure_intro <;> simp))) only [go_sem]
  refine callB_frE (fz1 59 [.int .i64 1000000]) (fz1_ok (es := 1) (by rfl) (by simp)) (by simp -dsimp -implicitDefEqProofs (disch := (first | assumption | omega | (simp only [nats_len, List.length_map, List.length_set, List.length_replicate, List.length_append, List.length_range, upto_len, els_len, List.length_cons, List.length_nil] <;> omega) | (apply isPure_intro <;> simp))) only [go_sem]; rfl) s3 (by simp) ?_
  simp -dsimp -implicitDefEqProofs (disch := (first | assumption | omega | (simp only [nats_len, List.length_map, List.length_set, List.length_replicate, List.length_append, List.length_range, upto_len, els_len, List.length_cons, List.length_nil] <;> omega) | (apply isPure_intro <;> simp))) only [go_sem]
  have sq1 := mat_sq 1 fun _ _ => 0
  have k1 := fun v h1 h2 => curve_ret ⟨1, [⟨[1], 0, 5, 3⟩], mat 1 fun _ _ => 0, List.replicate 1 0, 0, 1⟩ [v] rfl (by decide) (by decide) (fun r hr => by simp at hr; subst hr; exact hr1) (hst v h1 h2) sq1 (lim_at_mat fun i j => by rw [lim_zero]; omega) (by have := lim_i64 (x := 1) (by omega); dsimp only; omega)
  have hcv : ∀ (g : Gr) (x : List Int) (v : Int), g.n = 1 → curveAt g x 0 0 = v → mat g.n (curveAt g x) = [[v]] := fun g x v h1 h2 => by rw [h1]; simp [mat, h2]
  have k4 := k1 4 (by decide) (by decide)
  rw [hcv _ _ 3072 rfl (by decide)] at k4
  have k10 := k1 10 (by decide) (by decide)
  rw [hcv _ _ 1536 rfl (by decide)] at k10
  have hwh : ∀ v : Int, v.natAbs < 100000000000000000 → Ret pg n_gimballaw17_whole [.sl ([[v]].map ivl)] (.str (bst (wholeL [[v]]))) := fun v hv => whole_ret [[v]] 1 (by decide) ⟨rfl, by simp⟩ fun r hr x hx => by
    simp at hr; subst hr; simp at hx; subst hx
    have := lim_i64 (x := x) (by omega); omega
  refine callB_frE (fz1 63 [.int .i64 4]) (fz1_ok (es := 1) (by rfl) (by simp)) (by simp -dsimp -implicitDefEqProofs (disch := (first | assumption | omega | (simp only [nats_len, List.length_map, List.length_set, List.length_replicate, List.length_append, List.length_range, upto_len, els_len, List.length_cons, List.length_nil] <;> omega) | (apply isPure_intro <;> simp))) only [go_sem]; rfl) k4 (by simp) ?_
  simp -dsimp -implicitDefEqProofs (disch := (first | assumption | omega | (simp only [nats_len, List.length_map, List.length_set, List.length_replicate, List.length_append, List.length_range, upto_len, els_len, List.length_cons, List.length_nil] <;> omega) | (apply isPure_intro <;> simp))) only [go_sem]
  refine callB_of (hwh 3072 (by decide)) (by simp) ?_
  simp -dsimp -implicitDefEqProofs (disch := (first | assumption | omega | (simp only [nats_len, List.length_map, List.length_set, List.length_replicate, List.length_append, List.length_range, upto_len, els_len, List.length_cons, List.length_nil] <;> omega) | (apply isPure_intro <;> simp))) only [go_sem]
  refine callB_frE (fz1 68 [.int .i64 10]) (fz1_ok (es := 1) (by rfl) (by simp)) (by simp -dsimp -implicitDefEqProofs (disch := (first | assumption | omega | (simp only [nats_len, List.length_map, List.length_set, List.length_replicate, List.length_append, List.length_range, upto_len, els_len, List.length_cons, List.length_nil] <;> omega) | (apply isPure_intro <;> simp))) only [go_sem]; rfl) k10 (by simp) ?_
  simp -dsimp -implicitDefEqProofs (disch := (first | assumption | omega | (simp only [nats_len, List.length_map, List.length_set, List.length_replicate, List.length_append, List.length_range, upto_len, els_len, List.length_cons, List.length_nil] <;> omega) | (apply isPure_intro <;> simp))) only [go_sem]
  refine callB_of (hwh 1536 (by decide)) (by simp) ?_
  simp -dsimp -implicitDefEqProofs (disch := (first | assumption | omega | (simp only [nats_len, List.length_map, List.length_set, List.length_replicate, List.length_append, List.length_range, upto_len, els_len, List.length_cons, List.length_nil] <;> omega) | (apply isPure_intro <;> simp))) only [go_sem]
  have hrd := read17_ret 1 2 [⟨[1], 0, 5, 3⟩] [[7]] [4] (by decide) (by decide) (by decide) (by decide) (by decide) (by decide)
  have hG : rdG 1 [⟨[1], 0, 5, 3⟩] [[7]] 2 [4] = ⟨1, [⟨[1], 0, 5, 3⟩], mirM [[7]] 1, List.replicate 1 0, 0, 2⟩ := by unfold rdG; rw [if_pos (by decide)]; rfl
  rw [hG, show rdB 1 [⟨[1], 0, 5, 3⟩] 2 [4] = true by decide] at hrd
  refine callB_frE (fzl [(73, [RV ⟨[1], 0, 5, 3⟩]), (74, [.int .i64 7]), (75, [ints [7]]), (76, [.int .i64 4])]) (fzl_ok fun p hp => by
    simp only [List.mem_cons, List.not_mem_nil, or_false] at hp
    rcases hp with rfl | rfl | rfl | rfl <;> exact ⟨⟨_, _, rfl, by simp -dsimp -implicitDefEqProofs (disch := (first | assumption | omega | (simp only [nats_len, List.length_map, List.length_set, List.length_replicate, List.length_append, List.length_range, upto_len, els_len, List.length_cons, List.length_nil] <;> omega) | (apply isPure_intro <;> simp))) only [go_sem] <;> rfl⟩, by simp⟩) (by simp -dsimp -implicitDefEqProofs (disch := (first | assumption | omega | (simp only [nats_len, List.length_map, List.length_set, List.length_replicate, List.length_append, List.length_range, upto_len, els_len, List.length_cons, List.length_nil] <;> omega) | (apply isPure_intro <;> simp))) only [go_sem]; rfl) hrd (by simp) ?_
  simp -dsimp -implicitDefEqProofs (disch := (first | assumption | omega | (simp only [nats_len, List.length_map, List.length_set, List.length_replicate, List.length_append, List.length_range, upto_len, els_len, List.length_cons, List.length_nil] <;> omega) | (apply isPure_intro <;> simp))) only [go_sem]
  have k7 := curve_ret ⟨1, [⟨[1], 0, 5, 3⟩], mirM [[7]] 1, List.replicate 1 0, 0, 2⟩ [4] rfl (by decide) (by decide) (fun r hr => by simp at hr; subst hr; exact hr1) (hst 4 (by decide) (by decide)) (mirM_sq _ _) (lim_at_mat fun i j => by
    have := lim_i64 (x := at2 [[7]] (max i j) (min i j)) (at2_in (by decide) _ _); omega) (by have := lim_i64 (x := 2) (by omega); dsimp only; omega)
  rw [hcv _ _ 13312 rfl (by decide)] at k7
  refine callB_frE (fz1 90 [.int .i64 4]) (fz1_ok (es := 1) (by rfl) (by simp)) (by simp -dsimp -implicitDefEqProofs (disch := (first | assumption | omega | (simp only [nats_len, List.length_map, List.length_set, List.length_replicate, List.length_append, List.length_range, upto_len, els_len, List.length_cons, List.length_nil] <;> omega) | (apply isPure_intro <;> simp))) only [go_sem]; rfl) k7 (by simp) ?_
  simp -dsimp -implicitDefEqProofs (disch := (first | assumption | omega | (simp only [nats_len, List.length_map, List.length_set, List.length_replicate, List.length_append, List.length_range, upto_len, els_len, List.length_cons, List.length_nil] <;> omega) | (apply isPure_intro <;> simp))) only [go_sem]
  refine callB_of (hwh 13312 (by decide)) (by simp) ?_
  have t1 : strV .eql (bst (wholeL [[3072]])) ⟨#[51, 48, 55, 50, 32, 59]⟩ = some (.bool true) := bst_eq (b := [51, 48, 55, 50, 32, 59]) (by rw [wholeL_wholeF (by decide)]; decide)
  have t2 : strV .eql (bst (wholeL [[1536]])) ⟨#[49, 53, 51, 54, 32, 59]⟩ = some (.bool true) := bst_eq (b := [49, 53, 51, 54, 32, 59]) (by rw [wholeL_wholeF (by decide)]; decide)
  have t3 : strV .eql (bst (wholeL [[13312]])) ⟨#[49, 51, 51, 49, 50, 32, 59]⟩ = some (.bool true) := bst_eq (b := [49, 51, 51, 49, 50, 32, 59]) (by rw [wholeL_wholeF (by decide)]; decide)
  simp -dsimp -implicitDefEqProofs (disch := (first | assumption | omega | (simp only [nats_len, List.length_map, List.length_set, List.length_replicate, List.length_append, List.length_range, upto_len, els_len, List.length_cons, List.length_nil] <;> omega) | (apply isPure_intro <;> simp))) only [go_sem, t1, t2, t3]
end Go.Gim
/- The law on priors. -/
set_option maxRecDepth 100000
set_option maxHeartbeats 4000000
set_option linter.unusedSimpArgs false
set_option linter.unusedVariables false
namespace Go.Gim
open Go.Proofs
theorem GraphWith_true (n order den : Int) (hd : In64 den) : Ret pg n_gimballaw17_GraphWith [.int .i64 n, .int .i64 order, .int .i64 den] (.bool true) := by
  have g1 : Ret pg n_graph_New [.int .i64 n, .nil] (.tup [GV (newG n []), .int .i64 (gnewE n [])]) := (gnew_ret n [] (by decide) (by decide)).nn rfl
  refine gimballaw17_GraphWith.of rfl (W_b ?_)
  unfold gimballaw17_GraphWith.k gimballaw17_GraphWith.res
  simp -dsimp -implicitDefEqProofs (disch := (first | assumption | omega | (simp only [nats_len, List.length_map, List.length_set, List.length_replicate, List.length_append, List.length_range, upto_len, els_len, List.length_cons, List.length_nil] <;> omega) | (apply isPure_intro <;> simp))) only [go_sem]
  refine callB_of awake17_ret (by simp) ?_
  simp -dsimp -implicitDefEqProofs (disch := (first | assumption | omega | (simp only [nats_len, List.length_map, List.length_set, List.length_replicate, List.length_append, List.length_range, upto_len, els_len, List.length_cons, List.length_nil] <;> omega) | (apply isPure_intro <;> simp))) only [go_sem]
  refine callB_of g1 (by simp) ?_
  by_cases h0 : gnewE n [] = 0
  · obtain ⟨hn, _, _⟩ := gnewE_ok h0
    obtain ⟨m, rfl⟩ : ∃ m : Nat, n = m := ⟨n.toNat, by omega⟩
    have hng : newG m [] = ⟨m, [], mat m (fun _ _ => 0), List.replicate m 0, 0, 1⟩ := by unfold newG; rw [if_pos h0]; rfl
    rw [h0, hng]
    by_cases o1 : order < 0
    · simp -dsimp -implicitDefEqProofs (disch := (first | assumption | omega | (simp only [nats_len, List.length_map, List.length_set, List.length_replicate, List.length_append, List.length_range, upto_len, els_len, List.length_cons, List.length_nil] <;> omega) | (apply isPure_intro <;> simp))) only [go_sem]
    by_cases o2 : 12 < order
    · simp -dsimp -implicitDefEqProofs (disch := (first | assumption | omega | (simp only [nats_len, List.length_map, List.length_set, List.length_replicate, List.length_append, List.length_range, upto_len, els_len, List.length_cons, List.length_nil] <;> omega) | (apply isPure_intro <;> simp))) only [go_sem]
    obtain ⟨k, rfl⟩ : ∃ k : Nat, order = k := ⟨order.toNat, by omega⟩
    have hk : k ≤ 12 := by omega
    have hmi : Ret pg n_gimballaw17_mirror [.nil, .int .i64 k] (.sl ((mirM [] k).map ints)) := (mirror_ret [] k hk (by decide) (by decide)).nn rfl
    have hsq := mirM_sq [] k
    have hin := mirM_in (rows := []) (by simp) k
    have q0 := qofE_mir [] hk (q := List.replicate k 0) (by simp)
    have q1 := qof_ret (mirM [] k) (List.replicate k 0) 5 (by rw [hsq.1]; omega) (fun r h => ⟨by rw [hsq.2 r h]; omega, hin r h⟩) (fun v hv => by obtain ⟨_, rfl⟩ := List.mem_replicate.1 hv; omega) (by simp; omega) (by omega)
    rw [q0, if_pos rfl] at q1
    have q3 := with_ret ⟨m, [], mat m (fun _ _ => 0), List.replicate m 0, 0, 1⟩ (mirM [] k) (List.replicate k 0) 5 den (by dsimp only; omega) (by rw [hsq.1]; omega) (by simp; omega) (by have := lim_i64 hd; omega)
    have hPl := hsq.1
    have hQl : (List.replicate k (0 : Int)).length = k := by simp
    have hz : redV (.mkz 8 .i64) [.int .i64 k, .int .i64 k] = some (ints (List.replicate k 0)) := by
      simp only [redV]
      rw [if_pos ⟨by omega, by omega, by omega, by omega⟩, Int.toNat_natCast, ints, List.map_replicate]
    simp -dsimp -implicitDefEqProofs (disch := (first | assumption | omega | (simp only [nats_len, List.length_map, List.length_set, List.length_replicate, List.length_append, List.length_range, upto_len, els_len, List.length_cons, List.length_nil] <;> omega) | (apply isPure_intro <;> simp))) only [go_sem]
    first | refine callB_of (hmi) (by simp) ?_ | refine callP_of (hmi) (by simp) ?_
    simp -dsimp -implicitDefEqProofs (disch := (first | assumption | omega | (simp only [nats_len, List.length_map, List.length_set, List.length_replicate, List.length_append, List.length_range, upto_len, els_len, List.length_cons, List.length_nil] <;> omega) | (apply isPure_intro <;> simp))) only [go_sem, hz]
    first | refine callB_of (q1) (by simp) ?_ | refine callP_of (q1) (by simp) ?_
    simp -dsimp -implicitDefEqProofs (disch := (first | assumption | omega | (simp only [nats_len, List.length_map, List.length_set, List.length_replicate, List.length_append, List.length_range, upto_len, els_len, List.length_cons, List.length_nil] <;> omega) | (apply isPure_intro <;> simp))) only [go_sem]
    first | refine callB_of (of_ret den hd) (by simp) ?_ | refine callP_of (of_ret den hd) (by simp) ?_
    simp -dsimp -implicitDefEqProofs (disch := (first | assumption | omega | (simp only [nats_len, List.length_map, List.length_set, List.length_replicate, List.length_append, List.length_range, upto_len, els_len, List.length_cons, List.length_nil] <;> omega) | (apply isPure_intro <;> simp))) only [go_sem]
    first | refine callB_of (q3) (by simp) ?_ | refine callP_of (q3) (by simp) ?_
    by_cases c1 : k = m
    · subst c1
      by_cases c2 : 0 < den
      · have hc : (mirM [] k).length = k ∧ (List.replicate k (0 : Int)).length = k ∧ 0 < den := ⟨hPl, hQl, c2⟩
        rw [if_pos hc, if_pos hc]
        have l1 := lim_i64 hd
        have l5 := lim_i64 (x := 5) (by omega)
        have s1 : (den - den).sign = 0 := by rw [Int.sub_self]; rfl
        have s2 : (5 - 5 : Int).sign = 0 := by decide
        simp -dsimp -implicitDefEqProofs (disch := (first | assumption | omega | (simp only [nats_len, List.length_map, List.length_set, List.length_replicate, List.length_append, List.length_range, upto_len, els_len, List.length_cons, List.length_nil] <;> omega) | (apply isPure_intro <;> simp))) only [go_sem]
        first | refine callB_of (of_ret den hd) (by simp) ?_ | refine callP_of (of_ret den hd) (by simp) ?_
        simp -dsimp -implicitDefEqProofs (disch := (first | assumption | omega | (simp only [nats_len, List.length_map, List.length_set, List.length_replicate, List.length_append, List.length_range, upto_len, els_len, List.length_cons, List.length_nil] <;> omega) | (apply isPure_intro <;> simp))) only [go_sem]
        have hIV : IV den = .agg [.bool false, .sl (nats .u32 (digs W32 den.natAbs))] := by unfold IV; rw [decide_eq_false (by omega)]
        have ic := (congrArg (fun v => Ret pg n_long_Int_Cmp [v, IV den] (.int .i64 (den - den).sign)) hIV).mp (icmp_ret den den (by omega) (by omega))
        first | refine callB_of (ic) (by simp) ?_ | refine callP_of (ic) (by simp) ?_
        simp -dsimp -implicitDefEqProofs (disch := (first | assumption | omega | (simp only [nats_len, List.length_map, List.length_set, List.length_replicate, List.length_append, List.length_range, upto_len, els_len, List.length_cons, List.length_nil] <;> omega) | (apply isPure_intro <;> simp))) only [go_sem, s1]
        first | refine callB_of (of_ret 5 (by omega)) (by simp) ?_ | refine callP_of (of_ret 5 (by omega)) (by simp) ?_
        simp -dsimp -implicitDefEqProofs (disch := (first | assumption | omega | (simp only [nats_len, List.length_map, List.length_set, List.length_replicate, List.length_append, List.length_range, upto_len, els_len, List.length_cons, List.length_nil] <;> omega) | (apply isPure_intro <;> simp))) only [go_sem]
        first | refine callB_of (icmp_ret 5 5 (by omega) (by omega)) (by simp) ?_ | refine callP_of (icmp_ret 5 5 (by omega) (by omega)) (by simp) ?_
        simp -dsimp -implicitDefEqProofs (disch := (first | assumption | omega | (simp only [nats_len, List.length_map, List.length_set, List.length_replicate, List.length_append, List.length_range, upto_len, els_len, List.length_cons, List.length_nil] <;> omega) | (apply isPure_intro <;> simp))) only [go_sem, s1, s2]
      · have hc : ¬ ((mirM [] k).length = k ∧ (List.replicate k (0 : Int)).length = k ∧ 0 < den) := fun h => c2 h.2.2
        rw [if_neg hc, if_neg hc, Gr0_eq]
        simp -dsimp -implicitDefEqProofs (disch := (first | assumption | omega | (simp only [nats_len, List.length_map, List.length_set, List.length_replicate, List.length_append, List.length_range, upto_len, els_len, List.length_cons, List.length_nil] <;> omega) | (apply isPure_intro <;> simp))) only [go_sem]
    · have hc : ¬ ((mirM [] k).length = m ∧ (List.replicate k (0 : Int)).length = m ∧ 0 < den) := fun h => c1 (by rw [← h.1, hPl])
      rw [if_neg hc, if_neg hc, Gr0_eq]
      simp -dsimp -implicitDefEqProofs (disch := (first | assumption | omega | (simp only [nats_len, List.length_map, List.length_set, List.length_replicate, List.length_append, List.length_range, upto_len, els_len, List.length_cons, List.length_nil] <;> omega) | (apply isPure_intro <;> simp))) only [go_sem]
  · simp -dsimp -implicitDefEqProofs (disch := (first | assumption | omega | (simp only [nats_len, List.length_map, List.length_set, List.length_replicate, List.length_append, List.length_range, upto_len, els_len, List.length_cons, List.length_nil] <;> omega) | (apply isPure_intro <;> simp))) only [go_sem]
end Go.Gim

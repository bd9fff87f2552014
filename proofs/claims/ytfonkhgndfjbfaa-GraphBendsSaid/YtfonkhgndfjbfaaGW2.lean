/- What the laws on graphs use: rows that are their own turned ones. -/
import Derived.Test.YtfonkhgndfjbfaaGW1
set_option maxRecDepth 100000
set_option maxHeartbeats 4000000
set_option linter.unusedSimpArgs false
set_option linter.unusedVariables false
namespace Go.Gim
open Go.Proofs
/-- What mirrored rows hold, where so many are done. -/
def mirF (rows : List (List Int)) (i k a c : Nat) : Int := if max a c < i ∨ (max a c = i ∧ min a c < k) then at2 rows (max a c) (min a c) else 0
def mirM (rows : List (List Int)) (n : Nat) : List (List Int) := mat n fun a c => at2 rows (max a c) (min a c)
theorem mirF_step {rows : List (List Int)} {i k a c : Nat} (h : ¬ (max a c = i ∧ min a c = k)) : mirF rows i k a c = mirF rows i (k + 1) a c := by
  unfold mirF
  by_cases h1 : max a c < i ∨ (max a c = i ∧ min a c < k)
  · rw [if_pos h1, if_pos (by omega)]
  · rw [if_neg h1, if_neg (by omega)]
theorem mirF_at {rows : List (List Int)} {i k a c : Nat} (h : max a c = i ∧ min a c = k) : mirF rows i (k + 1) a c = at2 rows i k := by
  unfold mirF
  rw [if_pos (by omega), h.1, h.2]
theorem at2_zero {rows : List (List Int)} {i k : Nat} (h : ∀ r, rows[i]? = some r → r.length ≤ k) : at2 rows i k = 0 := by
  unfold at2
  cases hr : rows[i]? with
  | none => simp [List.getD_eq_getElem?_getD, hr]
  | some r => simp [List.getD_eq_getElem?_getD, hr, List.getElem?_eq_none (h r hr)]
theorem mirF_row {rows : List (List Int)} {i k a c : Nat} (h : ∀ m, k ≤ m → m ≤ i → at2 rows i m = 0) : mirF rows i k a c = mirF rows (i + 1) 0 a c := by
  unfold mirF
  by_cases h1 : max a c < i ∨ (max a c = i ∧ min a c < k)
  · rw [if_pos h1, if_pos (by omega)]
  · rw [if_neg h1]
    by_cases h2 : max a c < i + 1 ∨ (max a c = i + 1 ∧ min a c < 0)
    · rw [if_pos h2]
      have e : max a c = i := by omega
      rw [e, h _ (by omega) (by omega)]
    · rw [if_neg h2]
theorem allOf_map {α : Type} {f : V → Option V} {a b : α → V} : ∀ {l : List α}, (∀ k ∈ l, f (a k) = some (b k)) → allOf f (l.map a) = some (l.map b)
  | [], _ => rfl
  | x :: l, h => by
    have ih := allOf_map (f := f) (a := a) (b := b) (l := l) fun k hk => h k (List.mem_cons_of_mem _ hk)
    have hx := h x List.mem_cons_self
    simp only [List.map_cons, allOf, hx, ih]
set_option maxHeartbeats 2000000 in
theorem mirror_ret (rows : List (List Int)) (n : Nat) (hn : n ≤ 12) (hl : rows.length ≤ 9223372036854775807) (hr : ∀ r ∈ rows, r.length ≤ 9223372036854775807) : Ret pg n_gimballaw17_mirror [.sl (rows.map ints), .int .i64 n] (.sl ((mirM rows n).map ints)) := by
  refine gimballaw17_mirror.of rfl (W_b ?_)
  unfold gimballaw17_mirror.k gimballaw17_mirror.res
  simp -dsimp -implicitDefEqProofs (disch := (first | assumption | omega | (simp only [nats_len, List.length_map, List.length_set, List.length_replicate, List.length_append, List.length_range, upto_len, els_len, List.length_cons, List.length_nil] <;> omega) | (apply isPure_intro <;> simp))) only [go_sem]
  refine W_loop (T := Nat × V × (Nat → Nat) × Hp × Nat) (fun t => ⟨E [(0, .sl (rows.map ints)), (1, .int .i64 n), (5, t.2.1), (6, .int .i64 t.1)], t.2.2.2.1, t.2.2.2.2, t.2.2.2.2⟩)
    (fun t => t.1 ≤ n ∧ Row 0 t.2.2.2.1 t.2.2.2.2 t.2.1 1 ((List.range t.1).map fun k => .own (t.2.2.1 k) n) ∧ ∀ k, k < t.1 → t.2.2.2.1 (t.2.2.1 k) = some ⟨(List.replicate n 0).map (V.int .i64), 1⟩ ∧ t.2.2.1 k < t.2.2.2.2 ∧ (∀ m, t.2.1 ≠ .own (t.2.2.1 k) m) ∧ ∀ m, m < t.1 → m ≠ k → t.2.2.1 m ≠ t.2.2.1 k) (fun t => n - t.1) (0, .nil, fun _ => 0, _, _) rfl ⟨by dsimp only; omega, Row.nil _ _ _ _, fun k h => by dsimp only at h; omega⟩ ?_
  rintro ⟨i, w, ids, H, nx⟩ ⟨i1, i2, i3⟩
  dsimp only at i1 i2 i3
  by_cases hi : i < n
  · simp -dsimp -implicitDefEqProofs (disch := (first | assumption | omega | (simp only [nats_len, List.length_map, List.length_set, List.length_replicate, List.length_append, List.length_range, upto_len, els_len, List.length_cons, List.length_nil] <;> omega) | (apply isPure_intro <;> simp))) only [go_sem]
    refine W_gh0 ?_
    simp -dsimp -implicitDefEqProofs (disch := (first | assumption | omega | (simp only [nats_len, List.length_map, List.length_set, List.length_replicate, List.length_append, List.length_range, upto_len, els_len, List.length_cons, List.length_nil] <;> omega) | (apply isPure_intro <;> simp))) only [go_sem]
    have i2' : Row 0 (H.upd (nx + 5) (some ⟨(List.replicate n 0).map (V.int .i64), 1⟩)) (nx + 6) w 1 ((List.range i).map fun k => .own (ids k) n) := i2.same (fun b hb => Hp.upd_ne _ _ (by omega)) (by omega)
    refine effB_row (lo := 0) (nx := nx + 6) (H0 := H.upd (nx + 5) (some ⟨(List.replicate n 0).map (V.int .i64), 1⟩)) (xs := (List.range i).map fun k => .own (ids k) n) i2' (by omega) rfl (by omega) (by omega) (by simp [rowOk, V.cells, V.cellOk, V.isJunk]) (by decide) (by simp; omega) (by simp; omega) fun v2 H2 r1 r2 r3 r4 => ?_
    have hids : (List.range i).map (fun k => V.own (ids k) n) = (List.range i).map (fun k => V.own (if k = i then nx + 5 else ids k) n) := List.map_congr_left fun k hk => by simp at hk; rw [if_neg (by omega)]
    have hlast : V.own (nx + 5) n = (fun k => V.own (if k = i then nx + 5 else ids k) n) i := by simp
    rw [hids, hlast, range_snoc] at r1
    have hw5 : ∀ m, w ≠ .own (nx + 5) m := fun m e => by
      rcases i2 with ⟨h, _⟩ | ⟨b, h, _, hb, _⟩
      · rw [h] at e; cases e
      · rw [h] at e; cases e; omega
    simp -dsimp -implicitDefEqProofs (disch := (first | assumption | omega | (simp only [nats_len, List.length_map, List.length_set, List.length_replicate, List.length_append, List.length_range, upto_len, els_len, List.length_cons, List.length_nil] <;> omega) | (apply isPure_intro <;> simp))) only [go_sem]
    refine ⟨(i + 1, v2, fun k => if k = i then nx + 5 else ids k, H2, _), rfl, ⟨by dsimp only; omega, r1.same (fun _ _ => rfl) (by dsimp only; omega), fun k hk => ?_⟩, by dsimp only; omega⟩
    dsimp only at hk ⊢
    by_cases hki : k = i
    · subst hki
      rw [if_pos rfl]
      refine ⟨?_, by omega, fun m e => ?_, fun m hm hmk => ?_⟩
      · rw [r3 _ (by omega) hw5, Hp.upd_same]
      · have := r2 _ _ e; omega
      · rw [if_neg hmk]
        have := (i3 m (by omega)).2.1; omega
    · rw [if_neg hki]
      obtain ⟨h1, h2, h3, h4⟩ := i3 k (by omega)
      refine ⟨?_, by omega, fun m e => ?_, fun m hm hmk => ?_⟩
      · rw [r3 _ (by omega) (fun m => h3 m), Hp.upd_ne _ _ (by omega)]; exact h1
      · have := r2 _ _ e; omega
      · by_cases hmi : m = i
        · rw [if_pos hmi]; omega
        · rw [if_neg hmi]; exact h4 m (by omega) hmk
  · have hie : n = i := by omega
    subst hie
    have hd : ∀ k m, k < n → m < n → m ≠ k → ids m ≠ ids k := fun k m hk hm hmk => (i3 k hk).2.2.2 m hm hmk
    have hw : ∀ k m, k < n → w ≠ .own (ids k) m := fun k m hk => (i3 k hk).2.2.1 m
    have hz : ∀ k, (List.replicate n (0 : Int)) = (List.range n).map (mirF rows 0 0 k) := fun k => by
      refine List.ext_getElem (by simp) fun a h1 h2 => ?_
      simp [mirF]
    have hi0 : ∀ k, k < n → H (ids k) = some ⟨((List.range n).map (mirF rows 0 0 k)).map (V.int .i64), 1⟩ ∧ ids k < nx := fun k hk => ⟨by rw [← hz k]; exact (i3 k hk).1, (i3 k hk).2.1⟩
    clear i3
    simp -dsimp -implicitDefEqProofs (disch := (first | assumption | omega | (simp only [nats_len, List.length_map, List.length_set, List.length_replicate, List.length_append, List.length_range, upto_len, els_len, List.length_cons, List.length_nil] <;> omega) | (apply isPure_intro <;> simp))) only [go_sem]
    refine W_loop (T := Nat × Hp × Nat) (fun t => ⟨E [(0, .sl (rows.map ints)), (1, .int .i64 n), (5, w), (7, .int .i64 t.1)], t.2.1, t.2.2, t.2.2⟩)
      (fun t => t.1 ≤ n ∧ Row 0 t.2.1 t.2.2 w 1 ((List.range n).map fun k => .own (ids k) n) ∧ ∀ k, k < n → t.2.1 (ids k) = some ⟨((List.range n).map (mirF rows t.1 0 k)).map (V.int .i64), 1⟩ ∧ ids k < t.2.2) (fun t => n - t.1) (0, H, _) rfl ⟨by dsimp only; omega, i2.same (fun _ _ => rfl) (by dsimp only; omega), fun k hk => ⟨(hi0 k hk).1, by have := (hi0 k hk).2; dsimp only; omega⟩⟩ ?_
    clear i2 hi0 hz
    rintro ⟨i, H, nx⟩ ⟨i1, i2, i3⟩
    dsimp only at i1 i2 i3
    have hend : (i = n ∨ rows.length ≤ i) → ∀ a c, a < n → c < n → mirF rows i 0 a c = at2 rows (max a c) (min a c) := fun h a c ha hc => by
      unfold mirF
      by_cases hm : max a c < i
      · rw [if_pos (.inl hm)]
      · rw [if_neg (by omega)]
        rcases h with h | h
        · omega
        · refine (at2_zero fun r hr => ?_).symm
          rw [List.getElem?_eq_none (by omega)] at hr; cases hr
    have fin : (i = n ∨ rows.length ≤ i) → frz H 8 w = some (.sl ((mirM rows n).map ints)) := fun h => by
      have e : (mirM rows n).map ints = (List.range n).map fun k => ints ((List.range n).map fun c => at2 rows (max k c) (min k c)) := by simp only [mirM, mat, List.map_map]; rfl
      rw [e]
      refine i2.frz (allOf_map fun k hk => ?_)
      have hk := List.mem_range.1 hk
      have e2 : (List.range n).map (mirF rows i 0 k) = (List.range n).map fun c => at2 rows (max k c) (min k c) := List.map_congr_left fun c hc => hend h k c hk (List.mem_range.1 hc)
      have h1 := (i3 k hk).1
      rw [e2] at h1
      rw [frz_own, h1, frzO_some (by simp), frz_map fun x => rfl]
      rfl
    by_cases hi : i < n
    · by_cases hir : i < rows.length
      · have hrm := getD_mem' [] hir
        have hrl := hr _ hrm
        obtain ⟨b, rfl, b1, b2, b3⟩ := i2.own_of (by simp; omega)
        rw [List.length_map, List.length_range] at hw ⊢
        have hbn : ∀ k, k < n → b ≠ ids k := fun k hk e => hw k n hk (by rw [e])
        simp -dsimp -implicitDefEqProofs (disch := (first | assumption | omega | (simp only [nats_len, List.length_map, List.length_set, List.length_replicate, List.length_append, List.length_range, upto_len, els_len, List.length_cons, List.length_nil] <;> omega) | (apply isPure_intro <;> simp))) only [go_sem]
        refine W_loop (T := Nat × Hp × Nat) (fun t => ⟨E [(0, .sl (rows.map ints)), (1, .int .i64 n), (5, .own b n), (7, .int .i64 i), (8, .int .i64 t.1)], t.2.1, t.2.2, t.2.2⟩)
          (fun t => t.1 ≤ i + 1 ∧ t.1 ≤ (rows.getD i []).length ∧ b < t.2.2 ∧ t.2.1 b = some ⟨(List.range n).map fun k => .own (ids k) n, 1⟩ ∧ ∀ k, k < n → t.2.1 (ids k) = some ⟨((List.range n).map (mirF rows i t.1 k)).map (V.int .i64), 1⟩ ∧ ids k < t.2.2) (fun t => i + 1 - t.1) (0, H, _) rfl ⟨by dsimp only; omega, by dsimp only; omega, by dsimp only; omega, b3, fun k hk => ⟨(i3 k hk).1, by have := (i3 k hk).2; dsimp only; omega⟩⟩ ?_
        clear i2 i3 fin
        rintro ⟨k, H, nx⟩ ⟨k1, k2, k3, k4, k5⟩
        dsimp only at k1 k2 k3 k4 k5
        have hload : ∀ (m nx : Nat), m < n → b < nx → loadO true nx b (some ⟨(List.range n).map fun k => .own (ids k) n, 1⟩) n m 0 1 false = some (.own (ids m) n) := fun m nx hm hb => loadO_gen (fun _ => hb) (by simp) (by simp [hm]) rfl rfl
        by_cases hki : k ≤ i
        · by_cases hkr : k < (rows.getD i []).length
          · obtain ⟨q1, q2⟩ := k5 i hi
            have hv : (rows.getD i []).getD k 0 = at2 rows i k := rfl
            have e1 : ((List.range n).map (mirF rows i k i)).set k (at2 rows i k) = (List.range n).map (mirF rows i (k + 1) i) := by
              rw [range_set]
              refine List.map_congr_left fun c hc => ?_
              by_cases hck : c = k
              · subst hck; rw [if_pos rfl, mirF_at (by omega)]
              · rw [if_neg hck, mirF_step (by omega)]
            have hbi : (b = ids i) = False := by simpa using hbn i hi
            by_cases hik : k = i
            · subst hik
              have e2 : ((List.range n).map (mirF rows k (k + 1) k)).set k (at2 rows k k) = (List.range n).map (mirF rows k (k + 1) k) := by
                rw [range_set]
                refine List.map_congr_left fun c hc => ?_
                by_cases hck : c = k
                · subst hck; rw [if_pos rfl, mirF_at (by omega)]
                · rw [if_neg hck]
              simp -dsimp -implicitDefEqProofs (disch := (first | assumption | omega | (simp only [nats_len, List.length_map, List.length_set, List.length_replicate, List.length_append, List.length_range, upto_len, els_len, List.length_cons, List.length_nil] <;> omega) | (apply isPure_intro <;> simp))) only [go_sem, k4, hload, q1, hv, hbi, e1, e2]
              generalize hH2 : Hp.upd H (ids k) _ = H2
              have s1 := upd_at_same hH2
              have s2 := upd_at_ne hH2 k4 (hbn k hi)
              refine ⟨(k + 1, H2, _), rfl, ⟨by dsimp only; omega, by dsimp only; omega, by dsimp only; omega, s2, fun a ha => ?_⟩, by dsimp only; omega⟩
              dsimp only
              obtain ⟨y1, y2⟩ := k5 a ha
              refine ⟨?_, by omega⟩
              by_cases hak : a = k
              · subst hak; exact s1
              · have z1 := upd_at_ne hH2 y1 (hd k a hi ha hak)
                rw [z1, List.map_congr_left (g := mirF rows k (k + 1) a) fun c hc => mirF_step (by omega)]
            · obtain ⟨t1, t2⟩ := k5 k (by omega)
              have hki' : (ids k = ids i) = False := by simpa using hd i k hi (by omega) hik
              have e2 : ((List.range n).map (mirF rows i k k)).set i (at2 rows i k) = (List.range n).map (mirF rows i (k + 1) k) := by
                rw [range_set]
                refine List.map_congr_left fun c hc => ?_
                by_cases hci : c = i
                · subst hci; rw [if_pos rfl, mirF_at (by omega)]
                · rw [if_neg hci, mirF_step (by omega)]
              simp -dsimp -implicitDefEqProofs (disch := (first | assumption | omega | (simp only [nats_len, List.length_map, List.length_set, List.length_replicate, List.length_append, List.length_range, upto_len, els_len, List.length_cons, List.length_nil] <;> omega) | (apply isPure_intro <;> simp))) only [go_sem, k4, hload, q1, hv, hbi, e1, hki', t1, e2]
              generalize hH1 : Hp.upd H (ids i) _ = H1
              generalize hH2 : Hp.upd H1 (ids k) _ = H2
              have p1 := upd_at_same hH1
              have p2 := upd_at_ne hH1 k4 (hbn i hi)
              have s1 := upd_at_same hH2
              have s2 := upd_at_ne hH2 p2 (hbn k (by omega))
              have s3 := upd_at_ne hH2 p1 (hd k i (by omega) hi (Ne.symm hik))
              refine ⟨(k + 1, H2, _), rfl, ⟨by dsimp only; omega, by dsimp only; omega, by dsimp only; omega, s2, fun a ha => ?_⟩, by dsimp only; omega⟩
              dsimp only
              obtain ⟨y1, y2⟩ := k5 a ha
              refine ⟨?_, by omega⟩
              by_cases hak : a = k
              · subst hak; exact s1
              · by_cases hai : a = i
                · subst hai; exact s3
                · have z1 := upd_at_ne hH1 y1 (hd i a hi ha hai)
                  have z2 := upd_at_ne hH2 z1 (hd k a (by omega) ha hak)
                  rw [z2, List.map_congr_left (g := mirF rows i (k + 1) a) fun c hc => mirF_step (by omega)]
          · simp -dsimp -implicitDefEqProofs (disch := (first | assumption | omega | (simp only [nats_len, List.length_map, List.length_set, List.length_replicate, List.length_append, List.length_range, upto_len, els_len, List.length_cons, List.length_nil] <;> omega) | (apply isPure_intro <;> simp))) only [go_sem]
            have hzr : ∀ m, k ≤ m → m ≤ i → at2 rows i m = 0 := fun m h1 h2 => at2_zero fun r h => by
              have : rows.getD i [] = r := by simp [List.getD_eq_getElem?_getD, h]
              rw [← this]; omega
            refine ⟨(i + 1, H, _), rfl, ⟨by dsimp only; omega, .inr ⟨b, by simp, by omega, by dsimp only; omega, k4⟩, fun a ha => ?_⟩, by dsimp only; omega⟩
            dsimp only
            obtain ⟨y1, y2⟩ := k5 a ha
            exact ⟨by rw [y1, List.map_congr_left (g := mirF rows (i + 1) 0 a) fun c hc => mirF_row hzr], by omega⟩
        · simp -dsimp -implicitDefEqProofs (disch := (first | assumption | omega | (simp only [nats_len, List.length_map, List.length_set, List.length_replicate, List.length_append, List.length_range, upto_len, els_len, List.length_cons, List.length_nil] <;> omega) | (apply isPure_intro <;> simp))) only [go_sem]
          refine ⟨(i + 1, H, _), rfl, ⟨by dsimp only; omega, .inr ⟨b, by simp, by omega, by dsimp only; omega, k4⟩, fun a ha => ?_⟩, by dsimp only; omega⟩
          dsimp only
          obtain ⟨y1, y2⟩ := k5 a ha
          exact ⟨by rw [y1, List.map_congr_left (g := mirF rows (i + 1) 0 a) fun c hc => mirF_row fun m h1 h2 => by omega], by omega⟩
      · have hf := fin (.inr (by omega))
        simp -dsimp -implicitDefEqProofs (disch := (first | assumption | omega | (simp only [nats_len, List.length_map, List.length_set, List.length_replicate, List.length_append, List.length_range, upto_len, els_len, List.length_cons, List.length_nil] <;> omega) | (apply isPure_intro <;> simp))) only [go_sem]
        rw [hf]
        rfl
    · have hie : i = n := by omega
      have hf := fin (.inl hie)
      simp -dsimp -implicitDefEqProofs (disch := (first | assumption | omega | (simp only [nats_len, List.length_map, List.length_set, List.length_replicate, List.length_append, List.length_range, upto_len, els_len, List.length_cons, List.length_nil] <;> omega) | (apply isPure_intro <;> simp))) only [go_sem]
      rw [hf]
      rfl
end Go.Gim

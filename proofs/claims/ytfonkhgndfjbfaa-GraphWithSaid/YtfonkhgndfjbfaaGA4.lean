import Derived.Test.YtfonkhgndfjbfaaGA3
/- Quadratic functions: made of small numbers. -/
set_option maxRecDepth 100000
set_option linter.unusedSimpArgs false
set_option linter.unusedVariables false
namespace Go.Gim
open Go.Proofs
abbrev In64 (n : Int) : Prop := -9223372036854775808 ≤ n ∧ n ≤ 9223372036854775807
def QV (P : List (List Int)) (Q : List Int) (c : Int) : V := .agg [.sl (P.map ivl), ivl Q, .bool (decide (c < 0)), .sl (nats .u32 (digs W32 c.natAbs))]
@[simp] theorem QV_pure (P Q c) : (QV P Q c).Pure := by simp [QV]
theorem sub_QV (g : Nat → Option (List V)) (P Q c) : V.sub g (QV P Q c) = QV P Q c := sub_pure _ (QV_pure P Q c)
attribute [go_sem] sub_QV
theorem QV_cells (P Q c) : (QV P Q c).cells = [.sl (P.map ivl), ivl Q, .bool (decide (c < 0)), .sl (nats .u32 (digs W32 c.natAbs))] := rfl
theorem QV_isAgg (P Q c) : (QV P Q c).isAgg = true := rfl
@[simp] theorem QV_isJunk (P Q c) : (QV P Q c).isJunk = false := rfl
theorem part_QV (P Q c) : V.part (QV P Q c) 0 4 true = some (QV P Q c) := rfl
theorem frz_QV (H : Hp) (n : Nat) (P Q c) : frz H (n + 2) (QV P Q c) = some (QV P Q c) := rfl
theorem QV_zero : QV [] [] 0 = .agg [.sl [], .sl [], .bool false, .sl []] := by
  unfold QV
  rw [show (0 : Int).natAbs = 0 from rfl, digs_zero]; rfl
attribute [go_sem] QV_cells QV_isAgg QV_isJunk part_QV frz_QV
theorem Sq.sm {m : List (List Int)} (h : ∀ r ∈ m, ∀ v ∈ r, In64 v) (i j : Nat) : lim (at2 m i j) ≤ 2 := by
  unfold at2
  by_cases hi : i < m.length
  · by_cases hj : j < (m.getD i []).length
    · exact lim_i64 (h _ (getD_mem' [] hi) _ (getD_mem' 0 hj))
    · rw [show (m.getD i []).getD j 0 = 0 by rw [List.getD_eq_getElem?_getD, List.getElem?_eq_none (by omega)]; rfl, lim_zero]; omega
  · rw [show (m.getD i []) = [] by rw [List.getD_eq_getElem?_getD, List.getElem?_eq_none (by omega)]; rfl]
    simp [lim_zero]
def symB (m : List (List Int)) : Bool := decide (m = mat m.length fun i j => at2 m j i)
def qofE (rows : List (List Int)) (q : List Int) : Int := if sqE rows ≠ 0 then sqE rows else if q.length ≠ rows.length ∨ symB rows = false then 1 else 0
theorem lim_at_mat {n : Nat} {f : Nat → Nat → Int} {A : Nat} (h : ∀ i j, lim (f i j) ≤ A) (i j : Nat) : lim (at2 (mat n f) i j) ≤ A := by
  by_cases hi : i < n
  · by_cases hj : j < n
    · rw [mat_at hi hj]; exact h i j
    · unfold at2 mat; rw [range_getD [] hi, range_getD', if_neg hj, lim_zero]; omega
  · unfold at2 mat
    rw [show ((List.range n).map fun i => (List.range n).map (f i)).getD i [] = [] by rw [List.getD_eq_getElem?_getD, List.getElem?_eq_none (by simp; omega)]; rfl]
    simp [lim_zero]
theorem qof_ret (rows : List (List Int)) (q : List Int) (c : Int) (hl : rows.length ≤ 1099511627776) (hr : ∀ r ∈ rows, r.length ≤ 1099511627776 ∧ ∀ v ∈ r, In64 v) (hq : ∀ v ∈ q, In64 v) (hql : q.length ≤ 1099511627776) (hc : In64 c) :
    Ret pg n_quad_Of [.sl (rows.map ints), ints q, .int .i64 c] (.tup [if qofE rows q = 0 then QV rows q c else QV [] [] 0, .int .i64 (qofE rows q)]) := by
  have hlo := linof_ret rows hl hr
  refine quad_Of.of rfl (W_b ?_)
  unfold quad_Of.k quad_Of.res
  simp -dsimp -implicitDefEqProofs (disch := (first | assumption | omega | (simp only [nats_len, List.length_map, List.length_set, List.length_replicate, List.length_append, List.length_range, upto_len, els_len, List.length_cons, List.length_nil] <;> omega) | (apply isPure_intro <;> simp))) only [go_sem]
  refine callB_of hlo (by simp) ?_
  by_cases h0 : sqE rows = 0
  · obtain ⟨hsq, h12⟩ := sqE_ok h0
    rw [if_pos h0]
    by_cases hqr : q.length = rows.length
    · simp -dsimp -implicitDefEqProofs (disch := (first | assumption | omega | (simp only [nats_len, List.length_map, List.length_set, List.length_replicate, List.length_append, List.length_range, upto_len, els_len, List.length_cons, List.length_nil] <;> omega) | (apply isPure_intro <;> simp))) only [go_sem, h0]
      refine callB_of (turned_ret rows rows.length (by omega) hsq) (by simp) ?_
      simp -dsimp -implicitDefEqProofs (disch := (first | assumption | omega | (simp only [nats_len, List.length_map, List.length_set, List.length_replicate, List.length_append, List.length_range, upto_len, els_len, List.length_cons, List.length_nil] <;> omega) | (apply isPure_intro <;> simp))) only [go_sem]
      have sm := Sq.sm fun r h1 => (hr r h1).2
      refine callB_of (same_go rows _ rows.length (by omega) hsq (mat_sq _ _) (fun i j => by have := sm i j; omega) (lim_at_mat fun i j => by have := sm j i; omega)) (by simp) ?_
      cases hsy : symB rows
      · have hsy' : decide (rows = mat rows.length fun i j => at2 rows j i) = false := hsy
        have e : qofE rows q = 1 := by unfold qofE; rw [if_neg (by simpa using h0), if_pos (.inr hsy)]
        rw [hsy', e, if_neg (by decide), QV_zero]
        simp -dsimp -implicitDefEqProofs (disch := (first | assumption | omega | (simp only [nats_len, List.length_map, List.length_set, List.length_replicate, List.length_append, List.length_range, upto_len, els_len, List.length_cons, List.length_nil] <;> omega) | (apply isPure_intro <;> simp))) only [go_sem]
      · have hsy' : decide (rows = mat rows.length fun i j => at2 rows j i) = true := hsy
        have e : qofE rows q = 0 := by unfold qofE; rw [if_neg (by simpa using h0), if_neg (by simp [hqr, hsy])]
        rw [hsy', e]
        simp -dsimp -implicitDefEqProofs (disch := (first | assumption | omega | (simp only [nats_len, List.length_map, List.length_set, List.length_replicate, List.length_append, List.length_range, upto_len, els_len, List.length_cons, List.length_nil] <;> omega) | (apply isPure_intro <;> simp))) only [go_sem]
        refine callB_of (of_ret _ hc) (by simp) ?_
        simp -dsimp -implicitDefEqProofs (disch := (first | assumption | omega | (simp only [nats_len, List.length_map, List.length_set, List.length_replicate, List.length_append, List.length_range, upto_len, els_len, List.length_cons, List.length_nil] <;> omega) | (apply isPure_intro <;> simp))) only [go_sem]
        refine W_loop (T := Nat × V × Hp × Nat) (fun t => ⟨E [(6, .ptr 0 1 0 0), (10, .ptr 29 1 0 0), (41, ints q), (42, .int .i64 q.length), (43, .int .i64 t.1)], t.2.2.1, t.2.2.2, t.2.2.2⟩)
          (fun t => t.1 ≤ q.length ∧ 29 < t.2.2.2 ∧ t.2.2.1 0 = some ⟨[.agg [.nil, .nil, .bool false, .sl []]], 4⟩ ∧ t.2.2.1 29 = some ⟨[.agg [.sl (rows.map ivl), t.2.1, .bool (decide (c < 0)), .sl (nats .u32 (digs W32 c.natAbs))]], 4⟩ ∧ Row 30 t.2.2.1 t.2.2.2 t.2.1 2 ((q.take t.1).map IV)) (fun t => q.length - t.1) (0, .nil, _, _) rfl ⟨by dsimp only; omega, by dsimp only; omega, rfl, rfl, Row.nil _ _ _ _⟩ ?_
        rintro ⟨i, w, H, nx⟩ ⟨i1, i2, i3, i4, i5⟩
        dsimp only at i1 i2 i3 i4 i5
        have hwa : w.isAgg = false := by rcases i5 with ⟨rfl, _⟩ | ⟨b, rfl, _⟩ <;> rfl
        have hwc : w.cellOk = true := by rcases i5 with ⟨rfl, _⟩ | ⟨b, rfl, _⟩ <;> rfl
        by_cases hi : i < q.length
        · have hv := hq _ (getD_mem' 0 hi)
          have ht := take_getD 0 hi
          generalize hX : q.getD i 0 = x at *
          simp -dsimp -implicitDefEqProofs (disch := (first | assumption | omega | (simp only [nats_len, List.length_map, List.length_set, List.length_replicate, List.length_append, List.length_range, upto_len, els_len, List.length_cons, List.length_nil] <;> omega) | (apply isPure_intro <;> simp))) only [go_sem, hX, i4, hwa]
          refine callP_of (of_ret _ hv) (by simp) ?_
          simp -dsimp -implicitDefEqProofs (disch := (first | assumption | omega | (simp only [nats_len, List.length_map, List.length_set, List.length_replicate, List.length_append, List.length_range, upto_len, els_len, List.length_cons, List.length_nil] <;> omega) | (apply isPure_intro <;> simp))) only [go_sem]
          refine effB_row (lo := 30) (nx := nx) (H0 := H) (xs := (q.take i).map IV) i5 (by omega) rfl (by omega) (by omega) (by simp [rowOk, V.cells, V.cellOk, IV]) (by decide) (by simp; omega) (by simp; omega) fun v2 H2 r1 _ _ r4 => ?_
          rw [map_app, ← ht] at r1
          have j3 := (r4 0 (by omega)).trans i3
          have j4 := (r4 29 (by omega)).trans i4
          rcases r1 with ⟨_, h⟩ | ⟨b', rfl, c1, c2, c3⟩
          · have := congrArg List.length h
            simp only [List.length_map, List.length_take, List.length_nil] at this; omega
          · simp -dsimp -implicitDefEqProofs (disch := (first | assumption | omega | (simp only [nats_len, List.length_map, List.length_set, List.length_replicate, List.length_append, List.length_range, upto_len, els_len, List.length_cons, List.length_nil] <;> omega) | (apply isPure_intro <;> simp))) only [go_sem, j3, j4]
            generalize hH3 : Hp.upd H2 29 _ = H3
            have k0 := upd_at_ne hH3 j3 (by omega)
            have k29 := upd_at_same hH3
            have kb := upd_at_ne hH3 c3 (by omega)
            exact ⟨(i + 1, .own b' (q.take (i + 1)).length, H3, _), rfl, ⟨by dsimp only; omega, by dsimp only; omega, k0, k29, .inr ⟨b', by rw [List.length_map], c1, by dsimp only; omega, kb⟩⟩, by dsimp only; omega⟩
        · have hie : i = q.length := by omega
          subst hie
          rw [List.take_length] at i5
          simp -dsimp -implicitDefEqProofs (disch := (first | assumption | omega | (simp only [nats_len, List.length_map, List.length_set, List.length_replicate, List.length_append, List.length_range, upto_len, els_len, List.length_cons, List.length_nil] <;> omega) | (apply isPure_intro <;> simp))) only [go_sem, i3, i4, hwa, hwc]
          rw [(i5.upd (by omega)).frz (frz_map fun x => frz_IV _ _ _)]
          rfl
    · have e : qofE rows q = 1 := by unfold qofE; rw [if_neg (by simpa using h0), if_pos (.inl hqr)]
      rw [e, if_neg (by decide), QV_zero]
      simp -dsimp -implicitDefEqProofs (disch := (first | assumption | omega | (simp only [nats_len, List.length_map, List.length_set, List.length_replicate, List.length_append, List.length_range, upto_len, els_len, List.length_cons, List.length_nil] <;> omega) | (apply isPure_intro <;> simp))) only [go_sem, h0]
  · have e : qofE rows q = sqE rows := by unfold qofE; rw [if_pos h0]
    rw [e, if_neg h0, if_neg h0, QV_zero]
    simp -dsimp -implicitDefEqProofs (disch := (first | assumption | omega | (simp only [nats_len, List.length_map, List.length_set, List.length_replicate, List.length_append, List.length_range, upto_len, els_len, List.length_cons, List.length_nil] <;> omega) | (apply isPure_intro <;> simp))) only [go_sem]
end Go.Gim

import Derived.Test.YtfonkhgndfjbfaaFA2
import Derived.Test.YtfonkhgndfjbfaaLR2
import Derived.Test.YtfonkhgndfjbfaaGRR
import Derived.Test.YtfonkhgndfjbfaaGA7
/- The document's rows: whether they are the same, may be, what they lack, how much they count. -/
set_option maxRecDepth 100000
set_option linter.unusedSimpArgs false
set_option linter.unusedVariables false
namespace Go.Gim
open Go.Proofs
theorem rout_ret (n low top : Int) : Ret pg n_gimbalref16_out [.int .i64 n, .int .i64 low, .int .i64 top] (.bool (outB n low top)) := by
  refine gimbalref16_out.of rfl (W_b ?_)
  unfold gimbalref16_out.k gimbalref16_out.res outB
  by_cases h : n < low
  · simp -dsimp -implicitDefEqProofs (disch := (first | assumption | omega | (simp only [nats_len, List.length_map, List.length_set, List.length_replicate, List.length_append, List.length_range, upto_len, els_len, List.length_cons, List.length_nil] <;> omega) | (apply isPure_intro <;> simp))) only [go_sem, decide_eq_true h, Bool.true_or]
  · simp -dsimp -implicitDefEqProofs (disch := (first | assumption | omega | (simp only [nats_len, List.length_map, List.length_set, List.length_replicate, List.length_append, List.length_range, upto_len, els_len, List.length_cons, List.length_nil] <;> omega) | (apply isPure_intro <;> simp))) only [go_sem, decide_eq_false h, Bool.false_or]
set_option maxHeartbeats 1000000 in
theorem rright_ret (r : Row4) (n : Int) (hl : r.co.length ≤ 9223372036854775807) : Ret pg n_gimbalref16_Right [RV r, .int .i64 n] (.bool (rightB r n)) := by
  refine gimbalref16_Right.of rfl (W_b ?_)
  unfold gimbalref16_Right.k gimbalref16_Right.res rightB
  by_cases h1 : (r.co.length : Int) = n
  · by_cases h2 : n ≤ 11
    · subst h1
      simp -dsimp -implicitDefEqProofs (disch := (first | assumption | omega | (simp only [nats_len, List.length_map, List.length_set, List.length_replicate, List.length_append, List.length_range, upto_len, els_len, List.length_cons, List.length_nil] <;> omega) | (apply isPure_intro <;> simp))) only [go_sem]
      refine callB_of (rout_ret _ _ _) (by simp) ?_
      cases hz : outB r.z (-1000000000) 1000000000
      · simp -dsimp -implicitDefEqProofs (disch := (first | assumption | omega | (simp only [nats_len, List.length_map, List.length_set, List.length_replicate, List.length_append, List.length_range, upto_len, els_len, List.length_cons, List.length_nil] <;> omega) | (apply isPure_intro <;> simp))) only [go_sem]
        refine callB_of (rout_ret _ _ _) (by simp) ?_
        cases hk : outB r.kn 1 32768
        · simp -dsimp -implicitDefEqProofs (disch := (first | assumption | omega | (simp only [nats_len, List.length_map, List.length_set, List.length_replicate, List.length_append, List.length_range, upto_len, els_len, List.length_cons, List.length_nil] <;> omega) | (apply isPure_intro <;> simp))) only [go_sem]
          refine callB_of (rout_ret _ _ _) (by simp) ?_
          cases hw : outB r.w 1 100
          · simp -dsimp -implicitDefEqProofs (disch := (first | assumption | omega | (simp only [nats_len, List.length_map, List.length_set, List.length_replicate, List.length_append, List.length_range, upto_len, els_len, List.length_cons, List.length_nil] <;> omega) | (apply isPure_intro <;> simp))) only [go_sem]
            refine W_loop (T := Nat × Nat) (fun t => ⟨E [(1, .int .i64 r.co.length), (2, .pp (RV r)), (5, .int .i64 t.1)], fun _ => none, t.2, t.2⟩) (fun t => t.1 ≤ r.co.length ∧ ∀ x ∈ r.co.take t.1, outB x (-1000) 1000 = false) (fun t => r.co.length - t.1) (0, _) rfl ⟨by dsimp only; omega, by simp⟩ ?_
            rintro ⟨i, nx⟩ ⟨i1, i2⟩
            dsimp only at i1 i2
            by_cases hi : i < r.co.length
            · have hm := getD_mem' 0 hi
              have ht := take_getD 0 hi
              generalize hX : r.co.getD i 0 = x at *
              simp -dsimp -implicitDefEqProofs (disch := (first | assumption | omega | (simp only [nats_len, List.length_map, List.length_set, List.length_replicate, List.length_append, List.length_range, upto_len, els_len, List.length_cons, List.length_nil] <;> omega) | (apply isPure_intro <;> simp))) only [go_sem, hX]
              refine callB_of (rout_ret _ _ _) (by simp) ?_
              cases hb : outB x (-1000) 1000
              · simp -dsimp -implicitDefEqProofs (disch := (first | assumption | omega | (simp only [nats_len, List.length_map, List.length_set, List.length_replicate, List.length_append, List.length_range, upto_len, els_len, List.length_cons, List.length_nil] <;> omega) | (apply isPure_intro <;> simp))) only [go_sem, hX]
                refine ⟨(i + 1, _), rfl, ⟨by dsimp only; omega, fun y hy => ?_⟩, by dsimp only; omega⟩
                dsimp only at hy
                rw [ht] at hy
                rcases List.mem_append.1 hy with hy | hy
                · exact i2 y hy
                · simp at hy; subst hy; exact hb
              · have hall : (r.co.all fun a => !outB a (-1000) 1000) = false := List.all_eq_false.2 ⟨x, hm, by simp [hb]⟩
                rw [hall]
                simp -dsimp -implicitDefEqProofs (disch := (first | assumption | omega | (simp only [nats_len, List.length_map, List.length_set, List.length_replicate, List.length_append, List.length_range, upto_len, els_len, List.length_cons, List.length_nil] <;> omega) | (apply isPure_intro <;> simp))) only [go_sem]
            · rw [List.take_of_length_le (by omega)] at i2
              have hall : (r.co.all fun a => !outB a (-1000) 1000) = true := List.all_eq_true.2 fun x hx => by simp [i2 x hx]
              rw [hall]
              simp -dsimp -implicitDefEqProofs (disch := (first | assumption | omega | (simp only [nats_len, List.length_map, List.length_set, List.length_replicate, List.length_append, List.length_range, upto_len, els_len, List.length_cons, List.length_nil] <;> omega) | (apply isPure_intro <;> simp))) only [go_sem]
          · simp -dsimp -implicitDefEqProofs (disch := (first | assumption | omega | (simp only [nats_len, List.length_map, List.length_set, List.length_replicate, List.length_append, List.length_range, upto_len, els_len, List.length_cons, List.length_nil] <;> omega) | (apply isPure_intro <;> simp))) only [go_sem]
            simp
        · simp -dsimp -implicitDefEqProofs (disch := (first | assumption | omega | (simp only [nats_len, List.length_map, List.length_set, List.length_replicate, List.length_append, List.length_range, upto_len, els_len, List.length_cons, List.length_nil] <;> omega) | (apply isPure_intro <;> simp))) only [go_sem]
          simp
      · simp -dsimp -implicitDefEqProofs (disch := (first | assumption | omega | (simp only [nats_len, List.length_map, List.length_set, List.length_replicate, List.length_append, List.length_range, upto_len, els_len, List.length_cons, List.length_nil] <;> omega) | (apply isPure_intro <;> simp))) only [go_sem]
        simp
    · subst h1
      simp -dsimp -implicitDefEqProofs (disch := (first | assumption | omega | (simp only [nats_len, List.length_map, List.length_set, List.length_replicate, List.length_append, List.length_range, upto_len, els_len, List.length_cons, List.length_nil] <;> omega) | (apply isPure_intro <;> simp))) only [go_sem]
      simp [h2]
  · simp -dsimp -implicitDefEqProofs (disch := (first | assumption | omega | (simp only [nats_len, List.length_map, List.length_set, List.length_replicate, List.length_append, List.length_range, upto_len, els_len, List.length_cons, List.length_nil] <;> omega) | (apply isPure_intro <;> simp))) only [go_sem]
    simp [h1]
def stateB (x : List Int) : Bool := x.all fun v => !outB v (-1000000) 1000000
theorem rstate_ret (x : List Int) (hl : x.length ≤ 9223372036854775807) : Ret pg n_gimbalref16_State [ints x] (.bool (stateB x)) := by
  refine gimbalref16_State.of rfl (W_b ?_)
  unfold gimbalref16_State.k gimbalref16_State.res
  simp -dsimp -implicitDefEqProofs (disch := (first | assumption | omega | (simp only [nats_len, List.length_map, List.length_set, List.length_replicate, List.length_append, List.length_range, upto_len, els_len, List.length_cons, List.length_nil] <;> omega) | (apply isPure_intro <;> simp))) only [go_sem]
  refine W_loop (T := Nat × Nat) (fun t => ⟨E [(0, ints x), (3, .int .i64 t.1)], fun _ => none, t.2, t.2⟩) (fun t => t.1 ≤ x.length ∧ ∀ y ∈ x.take t.1, outB y (-1000000) 1000000 = false) (fun t => x.length - t.1) (0, _) rfl ⟨by dsimp only; omega, by simp⟩ ?_
  rintro ⟨i, nx⟩ ⟨i1, i2⟩
  dsimp only at i1 i2
  by_cases hi : i < x.length
  · have hm := getD_mem' 0 hi
    have ht := take_getD 0 hi
    generalize hX : x.getD i 0 = v at *
    simp -dsimp -implicitDefEqProofs (disch := (first | assumption | omega | (simp only [nats_len, List.length_map, List.length_set, List.length_replicate, List.length_append, List.length_range, upto_len, els_len, List.length_cons, List.length_nil] <;> omega) | (apply isPure_intro <;> simp))) only [go_sem, hX]
    refine callB_of (rout_ret _ _ _) (by simp) ?_
    cases hb : outB v (-1000000) 1000000
    · simp -dsimp -implicitDefEqProofs (disch := (first | assumption | omega | (simp only [nats_len, List.length_map, List.length_set, List.length_replicate, List.length_append, List.length_range, upto_len, els_len, List.length_cons, List.length_nil] <;> omega) | (apply isPure_intro <;> simp))) only [go_sem, hX]
      refine ⟨(i + 1, _), rfl, ⟨by dsimp only; omega, fun y hy => ?_⟩, by dsimp only; omega⟩
      dsimp only at hy
      rw [ht] at hy
      rcases List.mem_append.1 hy with hy | hy
      · exact i2 y hy
      · simp at hy; subst hy; exact hb
    · have hall : stateB x = false := List.all_eq_false.2 ⟨v, hm, by simp [hb]⟩
      rw [hall]
      simp -dsimp -implicitDefEqProofs (disch := (first | assumption | omega | (simp only [nats_len, List.length_map, List.length_set, List.length_replicate, List.length_append, List.length_range, upto_len, els_len, List.length_cons, List.length_nil] <;> omega) | (apply isPure_intro <;> simp))) only [go_sem]
  · rw [List.take_of_length_le (by omega)] at i2
    have hall : stateB x = true := List.all_eq_true.2 fun y hy => by simp [i2 y hy]
    rw [hall]
    simp -dsimp -implicitDefEqProofs (disch := (first | assumption | omega | (simp only [nats_len, List.length_map, List.length_set, List.length_replicate, List.length_append, List.length_range, upto_len, els_len, List.length_cons, List.length_nil] <;> omega) | (apply isPure_intro <;> simp))) only [go_sem]
end Go.Gim
/- The document's graphs: made of rows; how the cost bends. -/
set_option maxRecDepth 100000
set_option maxHeartbeats 4000000
set_option linter.unusedSimpArgs false
set_option linter.unusedVariables false
namespace Go.Gim
open Go.Proofs
theorem r7of_ret (rows : List (List Int)) (hl : rows.length ≤ 1000000) (hr : ∀ r ∈ rows, r.length ≤ 1000000 ∧ ∀ v ∈ r, In64 v) : Ret pg n_gimbalref07_Of [.sl (rows.map ints)] (.sl (rows.map dvl)) := by
  refine gimbalref07_Of.of rfl (W_b ?_)
  unfold gimbalref07_Of.k gimbalref07_Of.res
  have hrow : ∀ k, ∀ x ∈ (rows.take k).map dvl, V.Pure x := fun k => pure_map fun x => by simp
  simp -dsimp -implicitDefEqProofs (disch := (first | assumption | omega | (simp only [nats_len, List.length_map, List.length_set, List.length_replicate, List.length_append, List.length_range, upto_len, els_len, List.length_cons, List.length_nil] <;> omega) | (apply isPure_intro <;> simp))) only [go_sem]
  refine W_loop (T := Nat × V × Hp × Nat) (fun t => ⟨E [(0, .sl (rows.map ints)), (3, t.2.1), (4, .int .i64 t.1)], t.2.2.1, t.2.2.2, t.2.2.2⟩)
    (fun t => t.1 ≤ rows.length ∧ Row 0 t.2.2.1 t.2.2.2 t.2.1 1 ((rows.take t.1).map dvl)) (fun t => rows.length - t.1) (0, .nil, _, _) rfl ⟨by dsimp only; omega, Row.nil _ _ _ _⟩ ?_
  rintro ⟨i, w, H, nx⟩ ⟨i1, i2⟩
  dsimp only at i1 i2
  by_cases hi : i < rows.length
  · have hm := hr _ (getD_mem' [] hi)
    have ht := take_getD [] hi
    generalize hX : rows.getD i [] = xs at *
    simp -dsimp -implicitDefEqProofs (disch := (first | assumption | omega | (simp only [nats_len, List.length_map, List.length_set, List.length_replicate, List.length_append, List.length_range, upto_len, els_len, List.length_cons, List.length_nil] <;> omega) | (apply isPure_intro <;> simp))) only [go_sem]
    refine W_loop (T := Nat × V × Hp × Nat) (fun t => ⟨E [(0, .sl (rows.map ints)), (3, w), (4, .int .i64 i), (5, t.2.1), (6, .int .i64 t.1)], t.2.2.1, t.2.2.2, t.2.2.2⟩)
      (fun t => t.1 ≤ xs.length ∧ nx ≤ t.2.2.2 ∧ (∀ b, b < nx → t.2.2.1 b = H b) ∧ Row nx t.2.2.1 t.2.2.2 t.2.1 2 ((xs.take t.1).map DV)) (fun t => xs.length - t.1) (0, .nil, H, _) rfl ⟨by dsimp only; omega, by dsimp only; omega, fun _ _ => rfl, Row.nil _ _ _ _⟩ ?_
    rintro ⟨j, u, H', nx'⟩ ⟨j1, j2, j3, j4⟩
    dsimp only at j1 j2 j3 j4
    by_cases hj : j < xs.length
    · have hv := hm.2 _ (getD_mem' 0 hj)
      have htj := take_getD 0 hj
      generalize hY : xs.getD j 0 = y at *
      simp -dsimp -implicitDefEqProofs (disch := (first | assumption | omega | (simp only [nats_len, List.length_map, List.length_set, List.length_replicate, List.length_append, List.length_range, upto_len, els_len, List.length_cons, List.length_nil] <;> omega) | (apply isPure_intro <;> simp))) only [go_sem, hX, hY]
      refine callB_of (r_of y hv) (by simp) ?_
      simp -dsimp -implicitDefEqProofs (disch := (first | assumption | omega | (simp only [nats_len, List.length_map, List.length_set, List.length_replicate, List.length_append, List.length_range, upto_len, els_len, List.length_cons, List.length_nil] <;> omega) | (apply isPure_intro <;> simp))) only [go_sem]
      refine effB_row (lo := nx) (nx := nx') (H0 := H') (xs := (xs.take j).map DV) j4 (by omega) rfl (by omega) (by omega) (by simp [rowOk, V.cells, V.cellOk, DV]) (by decide) (by simp; omega) (by simp; omega) fun v2 H2 r1 _ _ r4 => ?_
      rw [map_app, ← htj] at r1
      simp -dsimp -implicitDefEqProofs (disch := (first | assumption | omega | (simp only [nats_len, List.length_map, List.length_set, List.length_replicate, List.length_append, List.length_range, upto_len, els_len, List.length_cons, List.length_nil] <;> omega) | (apply isPure_intro <;> simp))) only [go_sem]
      exact ⟨(j + 1, v2, H2, _), rfl, ⟨by dsimp only; omega, by dsimp only; omega, fun b hb => (r4 b hb).trans (j3 b hb), r1.same (fun _ _ => rfl) (by dsimp only; omega)⟩, by dsimp only; omega⟩
    · have hje : j = xs.length := by omega
      subst hje
      rw [List.take_length] at j4
      have i3 : Row 0 H' nx' w 1 ((rows.take i).map dvl) := i2.same j3 j2
      have i3' : Row 0 H' nx w 1 ((rows.take i).map dvl) := i2.same j3 (Nat.le_refl _)
      simp -dsimp -implicitDefEqProofs (disch := (first | assumption | omega | (simp only [nats_len, List.length_map, List.length_set, List.length_replicate, List.length_append, List.length_range, upto_len, els_len, List.length_cons, List.length_nil] <;> omega) | (apply isPure_intro <;> simp))) only [go_sem, hX]
      refine gh_row (lo := nx) (ys := xs.map DV) 5 rfl (j4.same (fun _ _ => rfl) (by omega)) (pure_map fun x => by simp) (fun p hp hne c hc => ?_) fun H2 hH2 => ?_
      · simp only [List.mem_cons, List.not_mem_nil, or_false] at hp
        rcases hp with rfl | rfl | rfl | rfl | rfl | rfl <;> first | exact absurd rfl hne | (simp [V.sub]; done) | exact i2.sub_ge (by omega)
      · have i4 := i3'.told (Nat.le_refl _) j2 (hrow i) hH2
        have e7 : V.sl (xs.map DV) = dvl xs := rfl
        simp -dsimp -implicitDefEqProofs (disch := (first | assumption | omega | (simp only [nats_len, List.length_map, List.length_set, List.length_replicate, List.length_append, List.length_range, upto_len, els_len, List.length_cons, List.length_nil] <;> omega) | (apply isPure_intro <;> simp))) only [go_sem, e7]
        refine effB_row (lo := 0) (nx := nx') (H0 := H2) (xs := (rows.take i).map dvl) i4 (by omega) rfl (by omega) (by omega) (by simp [rowOk, V.cells, V.cellOk, dvl, V.isJunk]) (by decide) (by simp; omega) (by simp; omega) fun v2 H3 r1 _ _ r4 => ?_
        rw [map_app, ← ht] at r1
        simp -dsimp -implicitDefEqProofs (disch := (first | assumption | omega | (simp only [nats_len, List.length_map, List.length_set, List.length_replicate, List.length_append, List.length_range, upto_len, els_len, List.length_cons, List.length_nil] <;> omega) | (apply isPure_intro <;> simp))) only [go_sem]
        exact ⟨(i + 1, v2, H3, _), rfl, ⟨by dsimp only; omega, r1.same (fun _ _ => rfl) (by dsimp only; omega)⟩, by dsimp only; omega⟩
  · have hie : i = rows.length := by omega
    subst hie
    rw [List.take_length] at i2
    simp -dsimp -implicitDefEqProofs (disch := (first | assumption | omega | (simp only [nats_len, List.length_map, List.length_set, List.length_replicate, List.length_append, List.length_range, upto_len, els_len, List.length_cons, List.length_nil] <;> omega) | (apply isPure_intro <;> simp))) only [go_sem]
    rw [i2.frz (frz_map fun x => rfl)]
    rfl
def DQV (P : List (List Int)) (Q : List Int) (c : Int) : V := .agg [.sl (P.map dvl), dvl Q, .bool (decide (c < 0)), .sl (nats .i64 (digs 10 c.natAbs))]
@[simp] theorem DQV_pure (P Q c) : (DQV P Q c).Pure := by simp [DQV]
theorem sub_DQV (g : Nat → Option (List V)) (P Q c) : V.sub g (DQV P Q c) = DQV P Q c := sub_pure _ (DQV_pure P Q c)
theorem DQV_cells (P Q c) : (DQV P Q c).cells = [.sl (P.map dvl), dvl Q, .bool (decide (c < 0)), .sl (nats .i64 (digs 10 c.natAbs))] := rfl
theorem DQV_isAgg (P Q c) : (DQV P Q c).isAgg = true := rfl
@[simp] theorem DQV_isJunk (P Q c) : (DQV P Q c).isJunk = false := rfl
theorem part_DQV (P Q c) : V.part (DQV P Q c) 0 4 true = some (DQV P Q c) := rfl
theorem frz_DQV (H : Hp) (n : Nat) (P Q c) : frz H (n + 2) (DQV P Q c) = some (DQV P Q c) := rfl
attribute [go_sem] DQV_cells DQV_isAgg DQV_isJunk part_DQV frz_DQV sub_DQV
theorem r8of_ret (rows : List (List Int)) (q : List Int) (c : Int) (hl : rows.length ≤ 1000000) (hr : ∀ r ∈ rows, r.length ≤ 1000000 ∧ ∀ v ∈ r, In64 v) (hq : ∀ v ∈ q, In64 v) (hql : q.length ≤ 1000000) (hc : In64 c) :
    Ret pg n_gimbalref08_Of [.sl (rows.map ints), ints q, .int .i64 c] (DQV rows q c) := by
  refine gimbalref08_Of.of rfl (W_b ?_)
  unfold gimbalref08_Of.k gimbalref08_Of.res
  simp -dsimp -implicitDefEqProofs (disch := (first | assumption | omega | (simp only [nats_len, List.length_map, List.length_set, List.length_replicate, List.length_append, List.length_range, upto_len, els_len, List.length_cons, List.length_nil] <;> omega) | (apply isPure_intro <;> simp))) only [go_sem]
  refine callB_of (r7of_ret rows hl hr) (by simp) ?_
  simp -dsimp -implicitDefEqProofs (disch := (first | assumption | omega | (simp only [nats_len, List.length_map, List.length_set, List.length_replicate, List.length_append, List.length_range, upto_len, els_len, List.length_cons, List.length_nil] <;> omega) | (apply isPure_intro <;> simp))) only [go_sem]
  refine callB_of (r_of c hc) (by simp) ?_
  simp -dsimp -implicitDefEqProofs (disch := (first | assumption | omega | (simp only [nats_len, List.length_map, List.length_set, List.length_replicate, List.length_append, List.length_range, upto_len, els_len, List.length_cons, List.length_nil] <;> omega) | (apply isPure_intro <;> simp))) only [go_sem]
  refine W_loop (T := Nat × V × Hp × Nat) (fun t => ⟨E [(1, ints q), (6, .ptr 0 1 0 0), (7, .ptr 6 1 0 0), (8, .int .i64 t.1)], t.2.2.1, t.2.2.2, t.2.2.2⟩)
    (fun t => t.1 ≤ q.length ∧ 6 < t.2.2.2 ∧ t.2.2.1 0 = some ⟨[.agg [.nil, .nil, .bool false, .sl []]], 4⟩ ∧ t.2.2.1 6 = some ⟨[.agg [.sl (rows.map dvl), t.2.1, .bool (decide (c < 0)), .sl (nats .i64 (digs 10 c.natAbs))]], 4⟩ ∧ Row 7 t.2.2.1 t.2.2.2 t.2.1 2 ((q.take t.1).map DV)) (fun t => q.length - t.1) (0, .nil, _, _) rfl ⟨by dsimp only; omega, by dsimp only; omega, rfl, rfl, Row.nil _ _ _ _⟩ ?_
  rintro ⟨i, w, H, nx⟩ ⟨i1, i2, i3, i4, i5⟩
  dsimp only at i1 i2 i3 i4 i5
  obtain ⟨hwa, hwc, _, _⟩ := i5.flat
  by_cases hi : i < q.length
  · have hv := hq _ (getD_mem' 0 hi)
    have ht := take_getD 0 hi
    generalize hX : q.getD i 0 = x at *
    simp -dsimp -implicitDefEqProofs (disch := (first | assumption | omega | (simp only [nats_len, List.length_map, List.length_set, List.length_replicate, List.length_append, List.length_range, upto_len, els_len, List.length_cons, List.length_nil] <;> omega) | (apply isPure_intro <;> simp))) only [go_sem, hX, i4, hwa]
    refine callP_of (r_of _ hv) (by simp) ?_
    simp -dsimp -implicitDefEqProofs (disch := (first | assumption | omega | (simp only [nats_len, List.length_map, List.length_set, List.length_replicate, List.length_append, List.length_range, upto_len, els_len, List.length_cons, List.length_nil] <;> omega) | (apply isPure_intro <;> simp))) only [go_sem]
    refine effB_row (lo := 7) (nx := nx) (H0 := H) (xs := (q.take i).map DV) i5 (by omega) rfl (by omega) (by omega) (by simp [rowOk, V.cells, V.cellOk, DV]) (by decide) (by simp; omega) (by simp; omega) fun v2 H2 r1 _ _ r4 => ?_
    rw [map_app, ← ht] at r1
    have j3 := (r4 0 (by omega)).trans i3
    have j4 := (r4 6 (by omega)).trans i4
    obtain ⟨b', rfl, c1, c2, c3⟩ := r1.own_of (by simp; omega)
    simp -dsimp -implicitDefEqProofs (disch := (first | assumption | omega | (simp only [nats_len, List.length_map, List.length_set, List.length_replicate, List.length_append, List.length_range, upto_len, els_len, List.length_cons, List.length_nil] <;> omega) | (apply isPure_intro <;> simp))) only [go_sem, j3, j4]
    generalize hH3 : Hp.upd H2 6 _ = H3
    have k0 := upd_at_ne hH3 j3 (by omega)
    have k6 := upd_at_same hH3
    have kb := upd_at_ne hH3 c3 (by omega)
    exact ⟨(i + 1, .own b' (q.take (i + 1)).length, H3, _), rfl, ⟨by dsimp only; omega, by dsimp only; omega, k0, k6, .inr ⟨b', by rw [List.length_map], c1, by dsimp only; omega, kb⟩⟩, by dsimp only; omega⟩
  · have hie : i = q.length := by omega
    subst hie
    rw [List.take_length] at i5
    simp -dsimp -implicitDefEqProofs (disch := (first | assumption | omega | (simp only [nats_len, List.length_map, List.length_set, List.length_replicate, List.length_append, List.length_range, upto_len, els_len, List.length_cons, List.length_nil] <;> omega) | (apply isPure_intro <;> simp))) only [go_sem, i3, i4, hwa, hwc]
    rw [(i5.upd (by omega)).frz (frz_map fun x => frz_DV _ _ _)]
    rfl
def DGV (g : Gr) : V := .agg [.int .i64 g.n, .sl (g.rows.map RV), .sl (g.P.map dvl), dvl g.Q, .bool (decide (g.c < 0)), .sl (nats .i64 (digs 10 g.c.natAbs)), .bool (decide (g.den < 0)), .sl (nats .i64 (digs 10 g.den.natAbs))]
@[simp] theorem DGV_pure (g) : (DGV g).Pure := by simp [DGV]
theorem sub_DGV (g : Nat → Option (List V)) (x : Gr) : V.sub g (DGV x) = DGV x := sub_pure _ (DGV_pure x)
theorem DGV_cells (g) : (DGV g).cells = [.int .i64 g.n, .sl (g.rows.map RV), .sl (g.P.map dvl), dvl g.Q, .bool (decide (g.c < 0)), .sl (nats .i64 (digs 10 g.c.natAbs)), .bool (decide (g.den < 0)), .sl (nats .i64 (digs 10 g.den.natAbs))] := rfl
theorem DGV_isAgg (g) : (DGV g).isAgg = true := rfl
@[simp] theorem DGV_isJunk (g) : (DGV g).isJunk = false := rfl
theorem part_DGV (g) : V.part (DGV g) 0 8 true = some (DGV g) := rfl
theorem frz_DGV (H : Hp) (n : Nat) (g) : frz H (n + 2) (DGV g) = some (DGV g) := rfl
attribute [go_sem] DGV_cells DGV_isAgg DGV_isJunk part_DGV frz_DGV sub_DGV
theorem DGr0_eq : DGV Gr0 = .agg [.int .i64 0, .sl [], .sl [], .sl [], .bool false, .sl [], .bool false, .sl []] := by
  unfold DGV Gr0
  dsimp only
  rw [show (0 : Int).natAbs = 0 from rfl, digs_zero]; rfl
theorem rnew_ret (n : Int) (rows : List Row4) (hl : rows.length ≤ 9223372036854775807) (hr : ∀ r ∈ rows, r.co.length ≤ 9223372036854775807) :
    Ret pg n_gimbalref17_New [.int .i64 n, .sl (rows.map RV)] (.tup [DGV (if gnewE n rows = 0 then ⟨n.toNat, rows, mat n.toNat (fun _ _ => 0), List.replicate n.toNat 0, 0, 1⟩ else Gr0), .int .i64 (gnewE n rows)]) := by
  refine gimbalref17_New.of rfl (W_b ?_)
  unfold gimbalref17_New.k gimbalref17_New.res
  by_cases h1 : n < 1 ∨ 11 < n
  · have e : gnewE n rows = 1 := by unfold gnewE; rw [if_pos h1]
    rw [e, if_neg (by decide), DGr0_eq]
    rcases h1 with h1 | h1
    · simp -dsimp -implicitDefEqProofs (disch := (first | assumption | omega | (simp only [nats_len, List.length_map, List.length_set, List.length_replicate, List.length_append, List.length_range, upto_len, els_len, List.length_cons, List.length_nil] <;> omega) | (apply isPure_intro <;> simp))) only [go_sem]
    · by_cases h2 : n < 1
      · omega
      · simp -dsimp -implicitDefEqProofs (disch := (first | assumption | omega | (simp only [nats_len, List.length_map, List.length_set, List.length_replicate, List.length_append, List.length_range, upto_len, els_len, List.length_cons, List.length_nil] <;> omega) | (apply isPure_intro <;> simp))) only [go_sem]
  · have h2 : 1 ≤ n ∧ n ≤ 11 := by omega
    by_cases h3 : 60 < rows.length
    · have e : gnewE n rows = 3 := by unfold gnewE; rw [if_neg h1, if_pos h3]
      rw [e, if_neg (by decide), DGr0_eq]
      simp -dsimp -implicitDefEqProofs (disch := (first | assumption | omega | (simp only [nats_len, List.length_map, List.length_set, List.length_replicate, List.length_append, List.length_range, upto_len, els_len, List.length_cons, List.length_nil] <;> omega) | (apply isPure_intro <;> simp))) only [go_sem]
    · obtain ⟨m, rfl⟩ : ∃ m : Nat, n = m := ⟨n.toNat, by omega⟩
      have hi64 : m ≤ 11 := by omega
      simp -dsimp -implicitDefEqProofs (disch := (first | assumption | omega | (simp only [nats_len, List.length_map, List.length_set, List.length_replicate, List.length_append, List.length_range, upto_len, els_len, List.length_cons, List.length_nil] <;> omega) | (apply isPure_intro <;> simp))) only [go_sem]
      refine W_loop (T := Nat × Nat) (fun t => ⟨E [(0, .int .i64 m), (1, .sl (rows.map RV)), (4, .ptr 0 1 0 0), (6, .int .i64 t.1)], Hp.upd (fun _ => none) 0 (some ⟨[.agg [.int .i64 0, .nil, .nil, .nil, .bool false, .sl [], .bool false, .sl []]], 8⟩), t.2, t.2⟩) (fun t => t.1 ≤ rows.length ∧ 0 < t.2 ∧ ∀ r ∈ rows.take t.1, rightB r m = true) (fun t => rows.length - t.1) (0, _) rfl ⟨by dsimp only; omega, by dsimp only; omega, by simp⟩ ?_
      rintro ⟨i, nx⟩ ⟨i1, i2, i3⟩
      dsimp only at i1 i2 i3
      by_cases hi : i < rows.length
      · have hm := getD_mem' default hi
        have hrl := hr _ hm
        have ht := take_getD default hi
        generalize hX : rows.getD i default = r at *
        simp -dsimp -implicitDefEqProofs (disch := (first | assumption | omega | (simp only [nats_len, List.length_map, List.length_set, List.length_replicate, List.length_append, List.length_range, upto_len, els_len, List.length_cons, List.length_nil] <;> omega) | (apply isPure_intro <;> simp))) only [go_sem, hX]
        refine callB_of (rright_ret r m (by omega)) (by simp) ?_
        cases hb : rightB r m
        · have e : gnewE m rows = 160 := by
            unfold gnewE
            rw [if_neg h1, if_neg h3, if_pos]
            exact List.any_eq_true.2 ⟨r, hm, by simp [hb]⟩
          rw [e, if_neg (by decide), DGr0_eq]
          simp -dsimp -implicitDefEqProofs (disch := (first | assumption | omega | (simp only [nats_len, List.length_map, List.length_set, List.length_replicate, List.length_append, List.length_range, upto_len, els_len, List.length_cons, List.length_nil] <;> omega) | (apply isPure_intro <;> simp))) only [go_sem]
        · simp -dsimp -implicitDefEqProofs (disch := (first | assumption | omega | (simp only [nats_len, List.length_map, List.length_set, List.length_replicate, List.length_append, List.length_range, upto_len, els_len, List.length_cons, List.length_nil] <;> omega) | (apply isPure_intro <;> simp))) only [go_sem]
          refine ⟨(i + 1, _), rfl, ⟨by dsimp only; omega, by dsimp only; omega, fun y hy => ?_⟩, by dsimp only; omega⟩
          dsimp only at hy
          rw [ht] at hy
          rcases List.mem_append.1 hy with hy | hy
          · exact i3 y hy
          · simp at hy; subst hy; exact hb
      · rw [List.take_of_length_le (by omega)] at i3
        have e : gnewE m rows = 0 := by
          unfold gnewE
          rw [if_neg h1, if_neg h3, if_neg]
          simp only [List.any_eq_true, not_exists, not_and]
          exact fun r hrr => by simp [i3 r hrr]
        rw [e, if_pos rfl]
        simp -dsimp -implicitDefEqProofs (disch := (first | assumption | omega | (simp only [nats_len, List.length_map, List.length_set, List.length_replicate, List.length_append, List.length_range, upto_len, els_len, List.length_cons, List.length_nil] <;> omega) | (apply isPure_intro <;> simp))) only [go_sem]
        refine W_loopG (T := Nat × Nat) (fun t => ⟨E [(0, .int .i64 m), (1, .sl (rows.map RV)), (4, .ptr 0 1 0 0), (8, .own (nx + 5) m), (9, .int .i64 t.1)], (Hp.upd (fun _ => none) 0 (some ⟨[.agg [.int .i64 0, .nil, .nil, .nil, .bool false, .sl [], .bool false, .sl []]], 8⟩)).upd (nx + 5) (some ⟨els m t.1 (fun _ => ints (List.replicate m 0)), 1⟩), t.2, t.2⟩) (fun t => t.1 ≤ m ∧ nx + 5 < t.2) (fun t => m - t.1) (0, _) (by rw [els_zero]; exact Ghost.refl _) ⟨by dsimp only; omega, by dsimp only; omega⟩ ?_
        rintro ⟨k, nx2⟩ ⟨k1, k2⟩
        dsimp only at k1 k2
        by_cases hk : k < m
        · simp -dsimp -implicitDefEqProofs (disch := (first | assumption | omega | (simp only [nats_len, List.length_map, List.length_set, List.length_replicate, List.length_append, List.length_range, upto_len, els_len, List.length_cons, List.length_nil] <;> omega) | (apply isPure_intro <;> simp))) only [go_sem, storeO_elsO hk]
          generalize hHH : Hp.upd (Hp.upd (Hp.upd (Hp.upd _ 0 _) (nx + 5) _) (nx2 + 6) _) (nx + 5) _ = HH
          have q0 : HH 0 = some ⟨[.agg [.int .i64 0, .nil, .nil, .nil, .bool false, .sl [], .bool false, .sl []]], 8⟩ := by rw [← hHH, Hp.upd_ne _ _ (by omega), Hp.upd_ne _ _ (by omega), Hp.upd_ne _ _ (by omega), Hp.upd_same]
          have q1 : HH (nx2 + 6) = some ⟨(List.replicate m 0).map (V.int .i64), 1⟩ := by rw [← hHH, Hp.upd_ne _ _ (by omega), Hp.upd_same]
          have q2 : HH (nx + 5) = some ⟨(els m k fun x => ints (List.replicate m 0)).set k (.own (nx2 + 6) m), 1⟩ := by rw [← hHH, Hp.upd_same]
          have qt := els_told (n := m) (i := k) (c := nx2 + 6) (f := fun x => ints (List.replicate m 0)) (ys := (List.replicate m 0).map (V.int .i64)) hk (fun _ => by simp) rfl
          rw [List.length_map, List.length_replicate] at qt
          clear hHH
          refine ⟨(k + 1, _), ghost_told (fz1 (nx2 + 6) ((List.replicate m 0).map (V.int .i64))) (fz1_ok q1 pure_ints) (by simp -dsimp -implicitDefEqProofs (disch := (first | assumption | omega | (simp only [nats_len, List.length_map, List.length_set, List.length_replicate, List.length_append, List.length_range, upto_len, els_len, List.length_cons, List.length_nil] <;> omega) | (apply isPure_intro <;> simp))) only [go_sem]) (fun b => ?_), ⟨by dsimp only; omega, by dsimp only; omega⟩, by dsimp only; omega⟩
          by_cases b5 : b = nx + 5
          · subst b5
            refine .inr ?_
            rw [sub_at (fz1_ne (by omega)) q2 qt, Hp.upd_same]
          · by_cases b0 : b = 0
            · subst b0
              refine .inr ?_
              rw [sub_at (fz1_ne (by omega)) q0 (by simp -dsimp -implicitDefEqProofs (disch := (first | assumption | omega | (simp only [nats_len, List.length_map, List.length_set, List.length_replicate, List.length_append, List.length_range, upto_len, els_len, List.length_cons, List.length_nil] <;> omega) | (apply isPure_intro <;> simp))) only [go_sem]; rfl), Hp.upd_ne _ _ (by omega), Hp.upd_same]
            · refine .inl ?_
              rw [Hp.upd_ne _ _ b5, Hp.upd_ne _ _ b0]
        · have hke : k = m := by omega
          subst hke
          have hz : (List.replicate k (List.replicate k (0 : Int))) = mat k fun _ _ => 0 := by
            refine List.ext_getElem (by simp [mat]) fun a h1 h2 => ?_
            simp only [mat, List.getElem_replicate, List.getElem_map, List.getElem_range]
            exact List.ext_getElem (by simp) fun b h3 h4 => by simp
          have he : els k k (fun _ => ints (List.replicate k 0)) = (List.replicate k (List.replicate k (0 : Int))).map ints := by
            rw [els_all]
            exact List.ext_getElem (by simp) fun a h1 h2 => by simp
          have h8 := r8of_ret (List.replicate k (List.replicate k 0)) (List.replicate k 0) 0 (by simp; omega) (fun r hr => by obtain ⟨_, rfl⟩ := List.mem_replicate.1 hr; exact ⟨by simp; omega, fun v hv => by obtain ⟨_, rfl⟩ := List.mem_replicate.1 hv; omega⟩) (fun v hv => by obtain ⟨_, rfl⟩ := List.mem_replicate.1 hv; omega) (by simp; omega) (by omega)
          have hA : (nx2 + 7 = nx + 5) = False := by simp; omega
          have hB : (nx + 5 = nx2 + 7) = False := by simp; omega
          have hC : (0 = nx + 5) = False := by simp
          have hD : (0 = nx2 + 7) = False := by simp
          simp -dsimp -implicitDefEqProofs (disch := (first | assumption | omega | (simp only [nats_len, List.length_map, List.length_set, List.length_replicate, List.length_append, List.length_range, upto_len, els_len, List.length_cons, List.length_nil] <;> omega) | (apply isPure_intro <;> simp))) only [go_sem, he]
          refine callB_frE (fzp (nx + 5) ((List.replicate k (List.replicate k 0)).map ints) (nx2 + 7) ((List.replicate k 0).map (V.int .i64))) (fzp_ok (es := 1) (es' := 1) (by rw [Hp.upd_ne _ _ (by omega), Hp.upd_same]) (pure_map fun x => by simp) (by rw [Hp.upd_same]) pure_ints) (by simp -dsimp -implicitDefEqProofs (disch := (first | assumption | omega | (simp only [nats_len, List.length_map, List.length_set, List.length_replicate, List.length_append, List.length_range, upto_len, els_len, List.length_cons, List.length_nil] <;> omega) | (apply isPure_intro <;> simp))) only [go_sem, hA, hB]; rfl) h8 (by simp) ?_
          simp -dsimp -implicitDefEqProofs (disch := (first | assumption | omega | (simp only [nats_len, List.length_map, List.length_set, List.length_replicate, List.length_append, List.length_range, upto_len, els_len, List.length_cons, List.length_nil] <;> omega) | (apply isPure_intro <;> simp))) only [go_sem, hA, hB, hC, hD]
          refine callB_of (r_of 1 (by omega)) (by simp) ?_
          simp -dsimp -implicitDefEqProofs (disch := (first | assumption | omega | (simp only [nats_len, List.length_map, List.length_set, List.length_replicate, List.length_append, List.length_range, upto_len, els_len, List.length_cons, List.length_nil] <;> omega) | (apply isPure_intro <;> simp))) only [go_sem]
          rw [hz]
          rfl
end Go.Gim

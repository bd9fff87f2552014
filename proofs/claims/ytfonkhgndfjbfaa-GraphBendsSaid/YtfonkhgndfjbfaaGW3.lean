/- What the laws on graphs use: a graph, read from their input. -/
import Derived.Test.YtfonkhgndfjbfaaGW2
import Derived.Test.YtfonkhgndfjbfaaRA2
set_option maxRecDepth 100000
set_option maxHeartbeats 4000000
set_option linter.unusedSimpArgs false
set_option linter.unusedVariables false
namespace Go.Gim
open Go.Proofs
theorem mirM_sq (rows n) : Sq (mirM rows n) n := mat_sq _ _
theorem at2_in {rows : List (List Int)} (h : ∀ r ∈ rows, ∀ v ∈ r, In64 v) (i j : Nat) : In64 (at2 rows i j) := by
  unfold at2
  by_cases hi : i < rows.length
  · by_cases hj : j < (rows.getD i []).length
    · exact h _ (getD_mem' [] hi) _ (getD_mem' 0 hj)
    · rw [show (rows.getD i []).getD j 0 = 0 by rw [List.getD_eq_getElem?_getD, List.getElem?_eq_none (by omega)]; rfl]; omega
  · rw [show (rows.getD i []) = [] by rw [List.getD_eq_getElem?_getD, List.getElem?_eq_none (by omega)]; rfl]; simp [In64]
theorem mat_in {n : Nat} {f : Nat → Nat → Int} (h : ∀ i j, In64 (f i j)) : ∀ r ∈ mat n f, ∀ v ∈ r, In64 v := fun r hr v hv => by
  simp only [mat, List.mem_map] at hr
  obtain ⟨i, _, rfl⟩ := hr
  simp only [List.mem_map] at hv
  obtain ⟨j, _, rfl⟩ := hv
  exact h i j
theorem mirM_in {rows : List (List Int)} (h : ∀ r ∈ rows, ∀ v ∈ r, In64 v) (n : Nat) : ∀ r ∈ mirM rows n, ∀ v ∈ r, In64 v := mat_in fun i j => at2_in h _ _
theorem mirM_sym (rows n) : symB (mirM rows n) = true := by
  unfold symB
  refine decide_eq_true ?_
  rw [(mirM_sq rows n).1]
  unfold mirM
  refine mat_congr fun i j hi hj => ?_
  rw [mat_at hj hi, Nat.max_comm, Nat.min_comm]
theorem qofE_mir (rows : List (List Int)) {n : Nat} (hn : n ≤ 12) {q : List Int} (hq : q.length = n) : qofE (mirM rows n) q = 0 := by
  obtain ⟨h1, h2⟩ := mirM_sq rows n
  have hs : sqE (mirM rows n) = 0 := by
    unfold sqE
    rw [if_neg (by omega), if_neg (fun ⟨r, hr, hne⟩ => hne (by rw [h2 r hr, h1]))]
  unfold qofE
  rw [if_neg (by simpa using hs), if_neg (by rw [mirM_sym]; simp [h1, hq])]
/-- Is it read? -/
def rdB (n : Int) (rows : List Row4) (den : Int) (x : List Int) : Bool := decide (gnewE n rows = 0) && decide (0 < den) && decide ((x.length : Int) = n) && stateB x
def newG (n : Int) (rows : List Row4) : Gr := if gnewE n rows = 0 then ⟨n.toNat, rows, mat n.toNat (fun _ _ => 0), List.replicate n.toNat 0, 0, 1⟩ else Gr0
def rdG (n : Int) (rows : List Row4) (prior : List (List Int)) (den : Int) (x : List Int) : Gr := if rdB n rows den x = true then ⟨n.toNat, rows, mirM prior n.toNat, List.replicate n.toNat 0, 0, den⟩ else newG n rows
theorem gnewE_ok {n : Int} {rows : List Row4} (h : gnewE n rows = 0) : (1 ≤ n ∧ n ≤ 11) ∧ rows.length ≤ 60 ∧ ∀ r ∈ rows, rightB r n = true := by
  unfold gnewE at h
  split at h
  · cases h
  · split at h
    · cases h
    · split at h
      · cases h
      · rename_i h1 h2 h3
        refine ⟨by omega, by omega, fun r hr => ?_⟩
        cases hb : rightB r n
        · exact absurd (List.any_eq_true.2 ⟨r, hr, by simp [hb]⟩) h3
        · rfl
theorem read17_ret (n den : Int) (rows : List Row4) (prior : List (List Int)) (x : List Int) (hl : rows.length ≤ 9223372036854775807) (hr : ∀ r ∈ rows, r.co.length ≤ 9223372036854775807) (hpl : prior.length ≤ 9223372036854775807) (hp : ∀ r ∈ prior, r.length ≤ 9223372036854775807 ∧ ∀ v ∈ r, In64 v) (hx : x.length ≤ 9223372036854775807) (hd : In64 den) :
    Ret pg n_gimballaw17_read [.int .i64 n, .sl (rows.map RV), .sl (prior.map ints), .int .i64 den, ints x] (.tup [GV (rdG n rows prior den x), DGV (rdG n rows prior den x), .bool (rdB n rows den x)]) := by
  have g1 := gnew_ret n rows hl hr
  have g2 := rnew_ret n rows hl hr
  refine gimballaw17_read.of rfl (W_b ?_)
  unfold gimballaw17_read.k gimballaw17_read.res
  simp -dsimp -implicitDefEqProofs (disch := (first | assumption | omega | (simp only [nats_len, List.length_map, List.length_set, List.length_replicate, List.length_append, List.length_range, upto_len, els_len, List.length_cons, List.length_nil] <;> omega) | (apply isPure_intro <;> simp))) only [go_sem]
  refine callB_of (rstate_ret x hx) (by simp) ?_
  simp -dsimp -implicitDefEqProofs (disch := (first | assumption | omega | (simp only [nats_len, List.length_map, List.length_set, List.length_replicate, List.length_append, List.length_range, upto_len, els_len, List.length_cons, List.length_nil] <;> omega) | (apply isPure_intro <;> simp))) only [go_sem]
  refine callB_of (r := .tup [GV (newG n rows), .int .i64 (gnewE n rows)]) g1 (by simp) ?_
  simp -dsimp -implicitDefEqProofs (disch := (first | assumption | omega | (simp only [nats_len, List.length_map, List.length_set, List.length_replicate, List.length_append, List.length_range, upto_len, els_len, List.length_cons, List.length_nil] <;> omega) | (apply isPure_intro <;> simp))) only [go_sem]
  refine callB_of (r := .tup [DGV (newG n rows), .int .i64 (gnewE n rows)]) g2 (by simp) ?_
  have no : ∀ {p : Prop}, ¬ p → (rdB n rows den x = true → p) → rdB n rows den x = false := fun h1 h2 => by
    cases h : rdB n rows den x
    · rfl
    · exact absurd (h2 h) h1
  have all : rdB n rows den x = true ↔ gnewE n rows = 0 ∧ 0 < den ∧ (x.length : Int) = n ∧ stateB x = true := by
    unfold rdB; simp only [Bool.and_eq_true, decide_eq_true_eq]; exact ⟨fun ⟨⟨⟨a, b⟩, c⟩, d⟩ => ⟨a, b, c, d⟩, fun ⟨a, b, c, d⟩ => ⟨⟨⟨a, b⟩, c⟩, d⟩⟩
  have nog : rdB n rows den x = false → rdG n rows prior den x = newG n rows := fun h => by unfold rdG; rw [h]; rfl
  by_cases h1 : gnewE n rows = 0
  · by_cases h2 : 0 < den
    · by_cases h3 : (x.length : Int) = n
      · cases h4 : stateB x
        · have hb := no (by simp [h4]) fun h => (all.1 h).2.2.2
          rw [nog hb, hb]
          simp -dsimp -implicitDefEqProofs (disch := (first | assumption | omega | (simp only [nats_len, List.length_map, List.length_set, List.length_replicate, List.length_append, List.length_range, upto_len, els_len, List.length_cons, List.length_nil] <;> omega) | (apply isPure_intro <;> simp))) only [go_sem, h1, h3]
        · have hb := all.2 ⟨h1, h2, h3, h4⟩
          obtain ⟨hn, _, _⟩ := gnewE_ok h1
          obtain ⟨m, rfl⟩ : ∃ m : Nat, n = m := ⟨n.toNat, by omega⟩
          have hG : rdG m rows prior den x = ⟨m, rows, mirM prior m, List.replicate m 0, 0, den⟩ := by unfold rdG; rw [if_pos hb]; rfl
          rw [hb, hG]
          have hm12 : m ≤ 12 := by omega
          have hxl : x.length = m := by omega
          have q0 := qofE_mir prior hm12 (q := List.replicate m 0) (by simp)
          have hsq := mirM_sq prior m
          have hin := mirM_in (rows := prior) (fun r h => (hp r h).2) m
          have hlen : ∀ r ∈ mirM prior m, r.length = m := hsq.2
          have q1 := qof_ret (mirM prior m) (List.replicate m 0) 0 (by rw [hsq.1]; omega) (fun r h => ⟨by rw [hlen r h]; omega, hin r h⟩) (fun v hv => by obtain ⟨_, rfl⟩ := List.mem_replicate.1 hv; omega) (by simp; omega) (by omega)
          rw [q0, if_pos rfl] at q1
          have q2 := r8of_ret (mirM prior m) (List.replicate m 0) 0 (by rw [hsq.1]; omega) (fun r h => ⟨by rw [hlen r h]; omega, hin r h⟩) (fun v hv => by obtain ⟨_, rfl⟩ := List.mem_replicate.1 hv; omega) (by simp; omega) (by omega)
          have hng : newG m rows = ⟨m, rows, mat m (fun _ _ => 0), List.replicate m 0, 0, 1⟩ := by unfold newG; rw [if_pos h1]; rfl
          have q3 := with_ret (newG m rows) (mirM prior m) (List.replicate m 0) 0 den (by rw [hng]; dsimp only; omega) (by rw [hsq.1]; omega) (by simp; omega) (by have := lim_i64 hd; omega)
          rw [if_pos (by rw [hng]; exact ⟨hsq.1, by simp, h2⟩), if_pos (by rw [hng]; exact ⟨hsq.1, by simp, h2⟩)] at q3
          have hGe : GV { newG m rows with P := mirM prior m, Q := List.replicate m 0, c := 0, den := den } = GV ⟨m, rows, mirM prior m, List.replicate m 0, 0, den⟩ := by rw [hng]
          rw [hGe] at q3
          simp -dsimp -implicitDefEqProofs (disch := (first | assumption | omega | (simp only [nats_len, List.length_map, List.length_set, List.length_replicate, List.length_append, List.length_range, upto_len, els_len, List.length_cons, List.length_nil] <;> omega) | (apply isPure_intro <;> simp))) only [go_sem, h1, h3]
          refine callB_of (mirror_ret prior m hm12 hpl fun r h => (hp r h).1) (by simp) ?_
          simp -dsimp -implicitDefEqProofs (disch := (first | assumption | omega | (simp only [nats_len, List.length_map, List.length_set, List.length_replicate, List.length_append, List.length_range, upto_len, els_len, List.length_cons, List.length_nil] <;> omega) | (apply isPure_intro <;> simp))) only [go_sem]
          refine callB_frE (fz1 46 ((List.replicate m 0).map (V.int .i64))) (fz1_ok (es := 1) (by rfl) pure_ints) (by simp -dsimp -implicitDefEqProofs (disch := (first | assumption | omega | (simp only [nats_len, List.length_map, List.length_set, List.length_replicate, List.length_append, List.length_range, upto_len, els_len, List.length_cons, List.length_nil] <;> omega) | (apply isPure_intro <;> simp))) only [go_sem]; rfl) q1 (by simp) ?_
          simp -dsimp -implicitDefEqProofs (disch := (first | assumption | omega | (simp only [nats_len, List.length_map, List.length_set, List.length_replicate, List.length_append, List.length_range, upto_len, els_len, List.length_cons, List.length_nil] <;> omega) | (apply isPure_intro <;> simp))) only [go_sem]
          refine callP_of (of_ret den hd) (by simp) ?_
          simp -dsimp -implicitDefEqProofs (disch := (first | assumption | omega | (simp only [nats_len, List.length_map, List.length_set, List.length_replicate, List.length_append, List.length_range, upto_len, els_len, List.length_cons, List.length_nil] <;> omega) | (apply isPure_intro <;> simp))) only [go_sem]
          refine callP_of q3 (by simp) ?_
          simp -dsimp -implicitDefEqProofs (disch := (first | assumption | omega | (simp only [nats_len, List.length_map, List.length_set, List.length_replicate, List.length_append, List.length_range, upto_len, els_len, List.length_cons, List.length_nil] <;> omega) | (apply isPure_intro <;> simp))) only [go_sem]
          refine callB_frE (fz1 67 ((List.replicate m 0).map (V.int .i64))) (fz1_ok (es := 1) (by rfl) pure_ints) (by simp -dsimp -implicitDefEqProofs (disch := (first | assumption | omega | (simp only [nats_len, List.length_map, List.length_set, List.length_replicate, List.length_append, List.length_range, upto_len, els_len, List.length_cons, List.length_nil] <;> omega) | (apply isPure_intro <;> simp))) only [go_sem]; rfl) q2 (by simp) ?_
          simp -dsimp -implicitDefEqProofs (disch := (first | assumption | omega | (simp only [nats_len, List.length_map, List.length_set, List.length_replicate, List.length_append, List.length_range, upto_len, els_len, List.length_cons, List.length_nil] <;> omega) | (apply isPure_intro <;> simp))) only [go_sem]
          refine callB_of (r_of den hd) (by simp) ?_
          simp -dsimp -implicitDefEqProofs (disch := (first | assumption | omega | (simp only [nats_len, List.length_map, List.length_set, List.length_replicate, List.length_append, List.length_range, upto_len, els_len, List.length_cons, List.length_nil] <;> omega) | (apply isPure_intro <;> simp))) only [go_sem]
          have hd0 : decide (den < 0) = false := decide_eq_false (by omega)
          rw [hng]
          simp only [DGV, hd0]
          rfl
      · have hb := no h3 fun h => (all.1 h).2.2.1
        rw [nog hb, hb]
        simp -dsimp -implicitDefEqProofs (disch := (first | assumption | omega | (simp only [nats_len, List.length_map, List.length_set, List.length_replicate, List.length_append, List.length_range, upto_len, els_len, List.length_cons, List.length_nil] <;> omega) | (apply isPure_intro <;> simp))) only [go_sem, h1]
    · have hb := no h2 fun h => (all.1 h).2.1
      rw [nog hb, hb]
      simp -dsimp -implicitDefEqProofs (disch := (first | assumption | omega | (simp only [nats_len, List.length_map, List.length_set, List.length_replicate, List.length_append, List.length_range, upto_len, els_len, List.length_cons, List.length_nil] <;> omega) | (apply isPure_intro <;> simp))) only [go_sem, h1]
  · have hb := no h1 fun h => (all.1 h).1
    rw [nog hb, hb]
    simp -dsimp -implicitDefEqProofs (disch := (first | assumption | omega | (simp only [nats_len, List.length_map, List.length_set, List.length_replicate, List.length_append, List.length_range, upto_len, els_len, List.length_cons, List.length_nil] <;> omega) | (apply isPure_intro <;> simp))) only [go_sem]
end Go.Gim

/- The chapter's examples; the laws on graphs. -/
import Derived.Test.YtfonkhgndfjbfaaGW3
set_option maxRecDepth 100000
set_option maxHeartbeats 4000000
set_option linter.unusedSimpArgs false
set_option linter.unusedVariables false
namespace Go.Gim
open Go.Proofs
theorem awake17_ret : Ret pg n_gimballaw17_awake [] (.bool true) := by
  have n1 := gnew_ret 1 [⟨[1], 0, 5, 3⟩] (by decide) (by decide)
  rw [show gnewE 1 [⟨[1], 0, 5, 3⟩] = 0 by decide, if_pos rfl] at n1
  have n2 : Ret pg n_graph_New [.int .i64 0, .nil] (.tup [GV Gr0, .int .i64 1]) := (gnew_ret 0 [] (by decide) (by decide)).nn rfl
  have n3 := gnew_ret 1 (List.replicate 61 ⟨[], 0, 0, 0⟩) (by decide) (by decide)
  rw [show gnewE 1 (List.replicate 61 ⟨[], 0, 0, 0⟩) = 3 by decide, if_neg (by decide)] at n3
  have n4 := gnew_ret 1 [⟨[1, 2], 0, 5, 3⟩] (by decide) (by decide)
  rw [show gnewE 1 [⟨[1, 2], 0, 5, 3⟩] = 160 by decide, if_neg (by decide)] at n4
  refine gimballaw17_awake.of rfl (W_b ?_)
  unfold gimballaw17_awake.k gimballaw17_awake.res
  simp -dsimp -implicitDefEqProofs (disch := (first | assumption | omega | (simp only [nats_len, List.length_map, List.length_set, List.length_replicate, List.length_append, List.length_range, upto_len, els_len, List.length_cons, List.length_nil] <;> omega) | (apply isPure_intro <;> simp))) only [go_sem]
  refine callB_frE (fzp 1 [.int .i64 1] 6 [RV ⟨[1], 0, 5, 3⟩]) (fzp_ok' (es := 1) (es' := 4) (by decide) (by rfl) (by simp) (by rfl) (by simp -dsimp -implicitDefEqProofs (disch := (first | assumption | omega | (simp only [nats_len, List.length_map, List.length_set, List.length_replicate, List.length_append, List.length_range, upto_len, els_len, List.length_cons, List.length_nil] <;> omega) | (apply isPure_intro <;> simp))) only [go_sem]; rfl) (by simp)) (by simp -dsimp -implicitDefEqProofs (disch := (first | assumption | omega | (simp only [nats_len, List.length_map, List.length_set, List.length_replicate, List.length_append, List.length_range, upto_len, els_len, List.length_cons, List.length_nil] <;> omega) | (apply isPure_intro <;> simp))) only [go_sem]) n1 (by simp) ?_
  simp -dsimp -implicitDefEqProofs (disch := (first | assumption | omega | (simp only [nats_len, List.length_map, List.length_set, List.length_replicate, List.length_append, List.length_range, upto_len, els_len, List.length_cons, List.length_nil] <;> omega) | (apply isPure_intro <;> simp))) only [go_sem]
  refine callB_of n2 (by simp) ?_
  simp -dsimp -implicitDefEqProofs (disch := (first | assumption | omega | (simp only [nats_len, List.length_map, List.length_set, List.length_replicate, List.length_append, List.length_range, upto_len, els_len, List.length_cons, List.length_nil] <;> omega) | (apply isPure_intro <;> simp))) only [go_sem]
  refine newB_of (n := 61) (blk := ⟨List.replicate 61 (RV ⟨[], 0, 0, 0⟩), 4⟩) (newV_mk (n := 61) (by decide) (by decide) rfl (by decide)) ?_
  simp -dsimp -implicitDefEqProofs (disch := (first | assumption | omega | (simp only [nats_len, List.length_map, List.length_set, List.length_replicate, List.length_append, List.length_range, upto_len, els_len, List.length_cons, List.length_nil] <;> omega) | (apply isPure_intro <;> simp))) only [go_sem]
  have e61 : List.replicate 61 (RV ⟨[], 0, 0, 0⟩) = (List.replicate 61 ⟨[], 0, 0, 0⟩).map RV := by rw [List.map_replicate]
  rw [e61]
  refine callB_frE (fz1 21 ((List.replicate 61 ⟨[], 0, 0, 0⟩).map RV)) (fz1_ok (es := 4) (by rfl) (pure_map fun x => by simp)) (by simp -dsimp -implicitDefEqProofs (disch := (first | assumption | omega | (simp only [nats_len, List.length_map, List.length_set, List.length_replicate, List.length_append, List.length_range, upto_len, els_len, List.length_cons, List.length_nil] <;> omega) | (apply isPure_intro <;> simp))) only [go_sem]) n3 (by simp) ?_
  simp -dsimp -implicitDefEqProofs (disch := (first | assumption | omega | (simp only [nats_len, List.length_map, List.length_set, List.length_replicate, List.length_append, List.length_range, upto_len, els_len, List.length_cons, List.length_nil] <;> omega) | (apply isPure_intro <;> simp))) only [go_sem]
  refine callB_frE (fzp 29 [.int .i64 1, .int .i64 2] 31 [RV ⟨[1, 2], 0, 5, 3⟩]) (fzp_ok' (es := 1) (es' := 4) (by decide) (by rfl) (by simp) (by rfl) (by simp -dsimp -implicitDefEqProofs (disch := (first | assumption | omega | (simp only [nats_len, List.length_map, List.length_set, List.length_replicate, List.length_append, List.length_range, upto_len, els_len, List.length_cons, List.length_nil] <;> omega) | (apply isPure_intro <;> simp))) only [go_sem]; rfl) (by simp)) (by simp -dsimp -implicitDefEqProofs (disch := (first | assumption | omega | (simp only [nats_len, List.length_map, List.length_set, List.length_replicate, List.length_append, List.length_range, upto_len, els_len, List.length_cons, List.length_nil] <;> omega) | (apply isPure_intro <;> simp))) only [go_sem]) n4 (by simp) ?_
  simp -dsimp -implicitDefEqProofs (disch := (first | assumption | omega | (simp only [nats_len, List.length_map, List.length_set, List.length_replicate, List.length_append, List.length_range, upto_len, els_len, List.length_cons, List.length_nil] <;> omega) | (apply isPure_intro <;> simp))) only [go_sem]
  have hst : ∀ v : Int, -1000000 ≤ v → v ≤ 1000000 → State [v] := fun v h1 h2 w hw => by simp at hw; subst hw; exact ⟨h1, h2⟩
  have hr1 : Right4 ⟨[1], 0, 5, 3⟩ 1 := rightB_iff.1 (by decide)
  have g1 : Gr := ⟨1, [⟨[1], 0, 5, 3⟩], mat 1 fun _ _ => 0, List.replicate 1 0, 0, 1⟩
  have c1 := fun v h1 h2 => share_ret ⟨1, [⟨[1], 0, 5, 3⟩], mat 1 fun _ _ => 0, List.replicate 1 0, 0, 1⟩ ⟨[1], 0, 5, 3⟩ [v] hr1 (hst v h1 h2)
  have s1 := c1 4 (by decide) (by decide)
  rw [show shareR ⟨[1], 0, 5, 3⟩ [4] = 1024 by decide] at s1
  have s2 := c1 10 (by decide) (by decide)
  rw [show shareR ⟨[1], 0, 5, 3⟩ [10] = 512 by decide] at s2
  have s3 := c1 1000000 (by decide) (by decide)
  rw [show shareR ⟨[1], 0, 5, 3⟩ [1000000] = 1 by decide] at s3
  refine callB_frE (fz1 49 [.int .i64 4]) (fz1_ok (es := 1) (by rfl) (by simp)) (by simp -dsimp -implicitDefEqProofs (disch := (first | assumption | omega | (simp only [nats_len, List.length_map, List.length_set, List.length_replicate, List.length_append, List.length_range, upto_len, els_len, List.length_cons, List.length_nil] <;> omega) | (apply isPure_intro <;> simp))) only [go_sem]; rfl) s1 (by simp) ?_
  simp -dsimp -implicitDefEqProofs (disch := (first | assumption | omega | (simp only [nats_len, List.length_map, List.length_set, List.length_replicate, List.length_append, List.length_range, upto_len, els_len, List.length_cons, List.length_nil] <;> omega) | (apply isPure_intro <;> simp))) only [go_sem]
  refine callB_frE (fz1 54 [.int .i64 10]) (fz1_ok (es := 1) (by rfl) (by simp)) (by simp -dsimp -implicitDefEqProofs (disch := (first | assumption | omega | (simp only [nats_len, List.length_map, List.length_set, List.length_replicate, List.length_append, List.length_range, upto_len, els_len, List.length_cons, List.length_nil] <;> omega) | (apply isPure_intro <;> simp))) only [go_sem]; rfl) s2 (by simp) ?_
  simp -dsimp -implicitDefEqProofs (disch := (first | assumption | omega | (simp only [nats_len, List.length_map, List.length_set, List.length_replicate, List.length_append, List.length_range, upto_len, els_len, List.length_cons, List.length_nil] <;> omega) | (apply isPure_intro <;> simp))) only [go_sem]
  refine callB_frE (fz1 59 [.int .i64 1000000]) (fz1_ok (es := 1) (by rfl) (by simp)) (by simp -dsimp -implicitDefEqProofs (disch := (first | assumption | omega | (simp only [nats_len, List.length_map, List.length_set, List.length_replicate, List.length_append, List.length_range, upto_len, els_len, List.length_cons, List.length_nil] <;> omega) | (apply isPure_intro <;> simp))) only [go_sem]; rfl) s3 (by simp) ?_
  simp -dsimp -implicitDefEqProofs (disch := (first | assumption | omega | (simp only [nats_len, List.length_map, List.length_set, List.length_replicate, List.length_append, List.length_range, upto_len, els_len, List.length_cons, List.length_nil] <;> omega) | (apply isPure_intro <;> simp))) only [go_sem]
  have sq1 := mat_sq 1 fun _ _ => 0
  have k1 := fun v h1 h2 => curve_ret ⟨1, [⟨[1], 0, 5, 3⟩], mat 1 fun _ _ => 0, List.replicate 1 0, 0, 1⟩ [v] rfl (by decide) (by decide) (fun r hr => by simp at hr; subst hr; exact hr1) (hst v h1 h2) sq1 (lim_at_mat fun i j => by rw [lim_zero]; omega) (by have := lim_i64 (x := 1) (by omega); dsimp only; omega)
  have hcv : ∀ (g : Gr) (x : List Int) (v : Int), g.n = 1 → curveAt g x 0 0 = v → mat g.n (curveAt g x) = [[v]] := fun g x v h1 h2 => by rw [h1]; simp [mat, h2]
  have k4 := k1 4 (by decide) (by decide)
  rw [hcv _ _ 3072 rfl (by decide)] at k4
  have k10 := k1 10 (by decide) (by decide)
  rw [hcv _ _ 1536 rfl (by decide)] at k10
  have hwh : ∀ v : Int, v.natAbs < 100000000000000000 → Ret pg n_gimballaw17_whole [.sl ([[v]].map ivl)] (.str (bst (wholeL [[v]]))) := fun v hv => whole_ret [[v]] 1 (by decide) ⟨rfl, by simp⟩ fun r hr x hx => by
    simp at hr; subst hr; simp at hx; subst hx
    have := lim_i64 (x := x) (by omega); omega
  refine callB_frE (fz1 63 [.int .i64 4]) (fz1_ok (es := 1) (by rfl) (by simp)) (by simp -dsimp -implicitDefEqProofs (disch := (first | assumption | omega | (simp only [nats_len, List.length_map, List.length_set, List.length_replicate, List.length_append, List.length_range, upto_len, els_len, List.length_cons, List.length_nil] <;> omega) | (apply isPure_intro <;> simp))) only [go_sem]; rfl) k4 (by simp) ?_
  simp -dsimp -implicitDefEqProofs (disch := (first | assumption | omega | (simp only [nats_len, List.length_map, List.length_set, List.length_replicate, List.length_append, List.length_range, upto_len, els_len, List.length_cons, List.length_nil] <;> omega) | (apply isPure_intro <;> simp))) only [go_sem]
  refine callB_of (hwh 3072 (by decide)) (by simp) ?_
  simp -dsimp -implicitDefEqProofs (disch := (first | assumption | omega | (simp only [nats_len, List.length_map, List.length_set, List.length_replicate, List.length_append, List.length_range, upto_len, els_len, List.length_cons, List.length_nil] <;> omega) | (apply isPure_intro <;> simp))) only [go_sem]
  refine callB_frE (fz1 68 [.int .i64 10]) (fz1_ok (es := 1) (by rfl) (by simp)) (by simp -dsimp -implicitDefEqProofs (disch := (first | assumption | omega | (simp only [nats_len, List.length_map, List.length_set, List.length_replicate, List.length_append, List.length_range, upto_len, els_len, List.length_cons, List.length_nil] <;> omega) | (apply isPure_intro <;> simp))) only [go_sem]; rfl) k10 (by simp) ?_
  simp -dsimp -implicitDefEqProofs (disch := (first | assumption | omega | (simp only [nats_len, List.length_map, List.length_set, List.length_replicate, List.length_append, List.length_range, upto_len, els_len, List.length_cons, List.length_nil] <;> omega) | (apply isPure_intro <;> simp))) only [go_sem]
  refine callB_of (hwh 1536 (by decide)) (by simp) ?_
  simp -dsimp -implicitDefEqProofs (disch := (first | assumption | omega | (simp only [nats_len, List.length_map, List.length_set, List.length_replicate, List.length_append, List.length_range, upto_len, els_len, List.length_cons, List.length_nil] <;> omega) | (apply isPure_intro <;> simp))) only [go_sem]
  have hrd := read17_ret 1 2 [⟨[1], 0, 5, 3⟩] [[7]] [4] (by decide) (by decide) (by decide) (by decide) (by decide) (by decide)
  have hG : rdG 1 [⟨[1], 0, 5, 3⟩] [[7]] 2 [4] = ⟨1, [⟨[1], 0, 5, 3⟩], mirM [[7]] 1, List.replicate 1 0, 0, 2⟩ := by unfold rdG; rw [if_pos (by decide)]; rfl
  rw [hG, show rdB 1 [⟨[1], 0, 5, 3⟩] 2 [4] = true by decide] at hrd
  refine callB_frE (fzl [(73, [RV ⟨[1], 0, 5, 3⟩]), (74, [.int .i64 7]), (75, [ints [7]]), (76, [.int .i64 4])]) (fzl_ok fun p hp => by
    simp only [List.mem_cons, List.not_mem_nil, or_false] at hp
    rcases hp with rfl | rfl | rfl | rfl <;> exact ⟨⟨_, _, rfl, by simp -dsimp -implicitDefEqProofs (disch := (first | assumption | omega | (simp only [nats_len, List.length_map, List.length_set, List.length_replicate, List.length_append, List.length_range, upto_len, els_len, List.length_cons, List.length_nil] <;> omega) | (apply isPure_intro <;> simp))) only [go_sem] <;> rfl⟩, by simp⟩) (by simp -dsimp -implicitDefEqProofs (disch := (first | assumption | omega | (simp only [nats_len, List.length_map, List.length_set, List.length_replicate, List.length_append, List.length_range, upto_len, els_len, List.length_cons, List.length_nil] <;> omega) | (apply isPure_intro <;> simp))) only [go_sem]; rfl) hrd (by simp) ?_
  simp -dsimp -implicitDefEqProofs (disch := (first | assumption | omega | (simp only [nats_len, List.length_map, List.length_set, List.length_replicate, List.length_append, List.length_range, upto_len, els_len, List.length_cons, List.length_nil] <;> omega) | (apply isPure_intro <;> simp))) only [go_sem]
  have k7 := curve_ret ⟨1, [⟨[1], 0, 5, 3⟩], mirM [[7]] 1, List.replicate 1 0, 0, 2⟩ [4] rfl (by decide) (by decide) (fun r hr => by simp at hr; subst hr; exact hr1) (hst 4 (by decide) (by decide)) (mirM_sq _ _) (lim_at_mat fun i j => by
    have := lim_i64 (x := at2 [[7]] (max i j) (min i j)) (at2_in (by decide) _ _); omega) (by have := lim_i64 (x := 2) (by omega); dsimp only; omega)
  rw [hcv _ _ 13312 rfl (by decide)] at k7
  refine callB_frE (fz1 90 [.int .i64 4]) (fz1_ok (es := 1) (by rfl) (by simp)) (by simp -dsimp -implicitDefEqProofs (disch := (first | assumption | omega | (simp only [nats_len, List.length_map, List.length_set, List.length_replicate, List.length_append, List.length_range, upto_len, els_len, List.length_cons, List.length_nil] <;> omega) | (apply isPure_intro <;> simp))) only [go_sem]; rfl) k7 (by simp) ?_
  simp -dsimp -implicitDefEqProofs (disch := (first | assumption | omega | (simp only [nats_len, List.length_map, List.length_set, List.length_replicate, List.length_append, List.length_range, upto_len, els_len, List.length_cons, List.length_nil] <;> omega) | (apply isPure_intro <;> simp))) only [go_sem]
  refine callB_of (hwh 13312 (by decide)) (by simp) ?_
  have t1 : strV .eql (bst (wholeL [[3072]])) ⟨#[51, 48, 55, 50, 32, 59]⟩ = some (.bool true) := bst_eq (b := [51, 48, 55, 50, 32, 59]) (by rw [wholeL_wholeF (by decide)]; decide)
  have t2 : strV .eql (bst (wholeL [[1536]])) ⟨#[49, 53, 51, 54, 32, 59]⟩ = some (.bool true) := bst_eq (b := [49, 53, 51, 54, 32, 59]) (by rw [wholeL_wholeF (by decide)]; decide)
  have t3 : strV .eql (bst (wholeL [[13312]])) ⟨#[49, 51, 51, 49, 50, 32, 59]⟩ = some (.bool true) := bst_eq (b := [49, 51, 51, 49, 50, 32, 59]) (by rw [wholeL_wholeF (by decide)]; decide)
  simp -dsimp -implicitDefEqProofs (disch := (first | assumption | omega | (simp only [nats_len, List.length_map, List.length_set, List.length_replicate, List.length_append, List.length_range, upto_len, els_len, List.length_cons, List.length_nil] <;> omega) | (apply isPure_intro <;> simp))) only [go_sem, t1, t2, t3]
end Go.Gim

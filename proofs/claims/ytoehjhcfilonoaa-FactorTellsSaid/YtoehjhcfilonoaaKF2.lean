import Derived.Test.YtoehjhcfilonoaaKM4
import Derived.Test.YtoehjhcfilonoaaHR
import Derived.Test.YtoehjhcfilonoaaLI4
/- What a row lacks, costs, how steep that is: the program's answers are the document's. -/
set_option maxRecDepth 100000
set_option maxHeartbeats 4000000
set_option linter.unusedSimpArgs false
set_option linter.unusedVariables false
namespace Go.Gim
open Go.Proofs
theorem neq_str (s : ByteArray) : binV .neq (.str s) (.str s) = some (.bool false) := by simp [binV, strV]
theorem FactorTells_true (r : Row4) (x : List Int) (hl : r.co.length ≤ 9223372036854775807) (hx : x.length ≤ 9223372036854775807) : Ret pg n_gimballaw16_FactorTells [RV r, ints x] (.bool true) := by
  refine gimballaw16_FactorTells.of rfl (W_b ?_)
  unfold gimballaw16_FactorTells.k gimballaw16_FactorTells.res
  simp -dsimp -implicitDefEqProofs (disch := (first | assumption | omega | (simp only [nats_len, List.length_map, List.length_set, List.length_replicate, List.length_append, List.length_range, upto_len, els_len, List.length_cons, List.length_nil] <;> omega) | (apply isPure_intro <;> simp))) only [go_sem]
  first | refine callB_of (awake16_ret) (by simp) ?_ | refine callP_of (awake16_ret) (by simp) ?_
  simp -dsimp -implicitDefEqProofs (disch := (first | assumption | omega | (simp only [nats_len, List.length_map, List.length_set, List.length_replicate, List.length_append, List.length_range, upto_len, els_len, List.length_cons, List.length_nil] <;> omega) | (apply isPure_intro <;> simp))) only [go_sem]
  first | refine callB_of (rright_ret r x.length hl) (by simp) ?_ | refine callP_of (rright_ret r x.length hl) (by simp) ?_
  simp -dsimp -implicitDefEqProofs (disch := (first | assumption | omega | (simp only [nats_len, List.length_map, List.length_set, List.length_replicate, List.length_append, List.length_range, upto_len, els_len, List.length_cons, List.length_nil] <;> omega) | (apply isPure_intro <;> simp))) only [go_sem]
  first | refine callB_of (rstate_ret x hx) (by simp) ?_ | refine callP_of (rstate_ret x hx) (by simp) ?_
  by_cases h1 : rightB r x.length = true
  · by_cases h2 : stateB x = true
    · have hr := rightB_iff.1 h1
      have hs := stateB_iff.1 h2
      have hc := costR_bd (x := x) hr
      have hlc : lim (costR r x) ≤ 2 := lim_i64 (by omega)
      have hdc : dlim (costR r x) ≤ 20 := dlim_i64 (by omega)
      have hsl : (steepR r x).length = r.co.length := by unfold steepR; rw [List.length_map]
      have hrl := hr.len
      have hle := hr.le
      simp -dsimp -implicitDefEqProofs (disch := (first | assumption | omega | (simp only [nats_len, List.length_map, List.length_set, List.length_replicate, List.length_append, List.length_range, upto_len, els_len, List.length_cons, List.length_nil] <;> omega) | (apply isPure_intro <;> simp))) only [go_sem, h1, h2]
      first | refine callB_of (resid_ret r x hr hs) (by simp) ?_ | refine callP_of (resid_ret r x hr hs) (by simp) ?_
      simp -dsimp -implicitDefEqProofs (disch := (first | assumption | omega | (simp only [nats_len, List.length_map, List.length_set, List.length_replicate, List.length_append, List.length_range, upto_len, els_len, List.length_cons, List.length_nil] <;> omega) | (apply isPure_intro <;> simp))) only [go_sem]
      first | refine callB_of (cost_ret r x hr hs) (by simp) ?_ | refine callP_of (cost_ret r x hr hs) (by simp) ?_
      simp -dsimp -implicitDefEqProofs (disch := (first | assumption | omega | (simp only [nats_len, List.length_map, List.length_set, List.length_replicate, List.length_append, List.length_range, upto_len, els_len, List.length_cons, List.length_nil] <;> omega) | (apply isPure_intro <;> simp))) only [go_sem]
      first | refine callB_of (of_ret _ (by omega)) (by simp) ?_ | refine callP_of (of_ret _ (by omega)) (by simp) ?_
      simp -dsimp -implicitDefEqProofs (disch := (first | assumption | omega | (simp only [nats_len, List.length_map, List.length_set, List.length_replicate, List.length_append, List.length_range, upto_len, els_len, List.length_cons, List.length_nil] <;> omega) | (apply isPure_intro <;> simp))) only [go_sem]
      first | refine callB_of (string_ret _ (by omega)) (by simp) ?_ | refine callP_of (string_ret _ (by omega)) (by simp) ?_
      simp -dsimp -implicitDefEqProofs (disch := (first | assumption | omega | (simp only [nats_len, List.length_map, List.length_set, List.length_replicate, List.length_append, List.length_range, upto_len, els_len, List.length_cons, List.length_nil] <;> omega) | (apply isPure_intro <;> simp))) only [go_sem]
      first | refine callB_of (steep_ret r x hr hs) (by simp) ?_ | refine callP_of (steep_ret r x hr hs) (by simp) ?_
      simp -dsimp -implicitDefEqProofs (disch := (first | assumption | omega | (simp only [nats_len, List.length_map, List.length_set, List.length_replicate, List.length_append, List.length_range, upto_len, els_len, List.length_cons, List.length_nil] <;> omega) | (apply isPure_intro <;> simp))) only [go_sem]
      first | refine callB_of (rsteep_ret r x hr hs) (by simp) ?_ | refine callP_of (rsteep_ret r x hr hs) (by simp) ?_
      simp -dsimp -implicitDefEqProofs (disch := (first | assumption | omega | (simp only [nats_len, List.length_map, List.length_set, List.length_replicate, List.length_append, List.length_range, upto_len, els_len, List.length_cons, List.length_nil] <;> omega) | (apply isPure_intro <;> simp))) only [go_sem]
      first | refine callB_of (rresid_ret r x hr hs) (by simp) ?_ | refine callP_of (rresid_ret r x hr hs) (by simp) ?_
      simp -dsimp -implicitDefEqProofs (disch := (first | assumption | omega | (simp only [nats_len, List.length_map, List.length_set, List.length_replicate, List.length_append, List.length_range, upto_len, els_len, List.length_cons, List.length_nil] <;> omega) | (apply isPure_intro <;> simp))) only [go_sem]
      first | refine callB_of (rcost_ret r x hr hs) (by simp) ?_ | refine callP_of (rcost_ret r x hr hs) (by simp) ?_
      simp -dsimp -implicitDefEqProofs (disch := (first | assumption | omega | (simp only [nats_len, List.length_map, List.length_set, List.length_replicate, List.length_append, List.length_range, upto_len, els_len, List.length_cons, List.length_nil] <;> omega) | (apply isPure_intro <;> simp))) only [go_sem]
      first | refine callB_of (r_string _ (by omega)) (by simp) ?_ | refine callP_of (r_string _ (by omega)) (by simp) ?_
      simp -dsimp -implicitDefEqProofs (disch := (first | assumption | omega | (simp only [nats_len, List.length_map, List.length_set, List.length_replicate, List.length_append, List.length_range, upto_len, els_len, List.length_cons, List.length_nil] <;> omega) | (apply isPure_intro <;> simp))) only [go_sem, neq_str]
      generalize steepR r x = S at hsl ⊢
      refine W_loop (T := Nat × Nat) (fun t => ⟨E [(5, .bool true), (10, ints S), (11, ints S), (12, .int .i64 (t.1 : Int))], fun _ => none, t.2, t.2⟩) (fun t => t.1 ≤ S.length) (fun t => S.length - t.1) (0, _) rfl (by dsimp only; omega) ?_
      rintro ⟨j, nx⟩ j1
      dsimp only at j1
      by_cases hj : j < S.length
      · simp -dsimp -implicitDefEqProofs (disch := (first | assumption | omega | (simp only [nats_len, List.length_map, List.length_set, List.length_replicate, List.length_append, List.length_range, upto_len, els_len, List.length_cons, List.length_nil] <;> omega) | (apply isPure_intro <;> simp))) only [go_sem]
        exact ⟨(j + 1, _), rfl, by dsimp only; omega, by dsimp only; omega⟩
      · obtain rfl : j = S.length := by omega
        simp -dsimp -implicitDefEqProofs (disch := (first | assumption | omega | (simp only [nats_len, List.length_map, List.length_set, List.length_replicate, List.length_append, List.length_range, upto_len, els_len, List.length_cons, List.length_nil] <;> omega) | (apply isPure_intro <;> simp))) only [go_sem]
    · have h2 : stateB x = false := by simpa using h2
      simp -dsimp -implicitDefEqProofs (disch := (first | assumption | omega | (simp only [nats_len, List.length_map, List.length_set, List.length_replicate, List.length_append, List.length_range, upto_len, els_len, List.length_cons, List.length_nil] <;> omega) | (apply isPure_intro <;> simp))) only [go_sem, h1, h2]
  · have h1 : rightB r x.length = false := by simpa using h1
    simp -dsimp -implicitDefEqProofs (disch := (first | assumption | omega | (simp only [nats_len, List.length_map, List.length_set, List.length_replicate, List.length_append, List.length_range, upto_len, els_len, List.length_cons, List.length_nil] <;> omega) | (apply isPure_intro <;> simp))) only [go_sem, h1]
end Go.Gim

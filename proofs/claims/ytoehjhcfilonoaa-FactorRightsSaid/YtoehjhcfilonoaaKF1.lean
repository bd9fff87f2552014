import Derived.Test.YtoehjhcfilonoaaKM4
/- Whether a row may be: the program's answer is the document's. -/
set_option maxRecDepth 100000
set_option maxHeartbeats 4000000
set_option linter.unusedSimpArgs false
set_option linter.unusedVariables false
namespace Go.Gim
open Go.Proofs
theorem FactorRights_true (r : Row4) (n : Int) (hl : r.co.length ≤ 9223372036854775807) : Ret pg n_gimballaw16_FactorRights [RV r, .int .i64 n] (.bool true) := by
  refine gimballaw16_FactorRights.of rfl (W_b ?_)
  unfold gimballaw16_FactorRights.k gimballaw16_FactorRights.res
  simp -dsimp -implicitDefEqProofs (disch := (first | assumption | omega | (simp only [nats_len, List.length_map, List.length_set, List.length_replicate, List.length_append, List.length_range, upto_len, els_len, List.length_cons, List.length_nil] <;> omega) | (apply isPure_intro <;> simp))) only [go_sem]
  first | refine callB_of (awake16_ret) (by simp) ?_ | refine callP_of (awake16_ret) (by simp) ?_
  simp -dsimp -implicitDefEqProofs (disch := (first | assumption | omega | (simp only [nats_len, List.length_map, List.length_set, List.length_replicate, List.length_append, List.length_range, upto_len, els_len, List.length_cons, List.length_nil] <;> omega) | (apply isPure_intro <;> simp))) only [go_sem]
  first | refine callB_of (right_ret r n hl) (by simp) ?_ | refine callP_of (right_ret r n hl) (by simp) ?_
  simp -dsimp -implicitDefEqProofs (disch := (first | assumption | omega | (simp only [nats_len, List.length_map, List.length_set, List.length_replicate, List.length_append, List.length_range, upto_len, els_len, List.length_cons, List.length_nil] <;> omega) | (apply isPure_intro <;> simp))) only [go_sem]
  first | refine callB_of (rright_ret r n hl) (by simp) ?_ | refine callP_of (rright_ret r n hl) (by simp) ?_
  simp -dsimp -implicitDefEqProofs (disch := (first | assumption | omega | (simp only [nats_len, List.length_map, List.length_set, List.length_replicate, List.length_append, List.length_range, upto_len, els_len, List.length_cons, List.length_nil] <;> omega) | (apply isPure_intro <;> simp))) only [go_sem]
end Go.Gim

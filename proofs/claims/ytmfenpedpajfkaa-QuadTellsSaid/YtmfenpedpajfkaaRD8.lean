import Derived.Test.YtmfenpedpajfkaaRD1
import Derived.Test.YtmfenpedpajfkaaDT5
import Derived.Test.YtmfenpedpajfkaaLB2
/- The references' matrices: determinants by the first row, equations, products, what is definite. -/
set_option maxRecDepth 100000
set_option maxHeartbeats 4000000
set_option linter.unusedSimpArgs false
set_option linter.unusedVariables false
namespace Go.Gim
open Go.Proofs
attribute [local go_sem] IntWalk.i64_in wu64 wu32 wu8 Nat.mod_eq_of_lt shr32 shr63 shl32 or32 quo64 quo32 quoi64 remk quo32_10 rem32_10 quoi_10 remi_10 nat_48add Nat.add_assoc add_ne_self lt_ne gt_ne add_inj dlt_t dlt_f dle_t dle_f deq_t deq_f idxB_nats idxO_f idxO_t loadO_natf loadO_natt storeO_nat storeO_natn newB_mkn effV_cpy cpyO_nat upd_upd nats_len List.length_set ge_iff_le gt_iff_lt Int.toNat_natCast nat_sub1 nat_sub nat_add1 nat_add nat_mul slc3_pos slc3_zero slc_to nats_take nats_drop boxB_eq
theorem dlim_zero : dlim 0 = 0 := by simp [dlim, digs_zero]
end Go.Gim
/- The references' matrices: turned, products, what is definite. -/
set_option maxRecDepth 100000
set_option maxHeartbeats 4000000
set_option linter.unusedSimpArgs false
set_option linter.unusedVariables false
namespace Go.Gim
open Go.Proofs
theorem rapply0_ret : Ret pg n_gimbalref07_Mat_Apply [.sl [], .sl []] (.sl []) := by
  refine gimbalref07_Mat_Apply.of rfl (W_b ?_)
  unfold gimbalref07_Mat_Apply.k gimbalref07_Mat_Apply.res
  simp -dsimp -implicitDefEqProofs (disch := (first | assumption | omega | (simp only [zE] <;> omega) | (apply isPure_intro <;> simp))) only [go_sem]
  refine W_loop (T := Nat) (fun t => ⟨E [(0, .sl []), (1, .sl []), (5, .nil), (6, .int .i64 0)], fun _ => none, t, t⟩) (fun _ => True) (fun t => 0) _ rfl trivial ?_
  intro nx _
  simp -dsimp -implicitDefEqProofs (disch := (first | assumption | omega | (simp only [zE] <;> omega) | (apply isPure_intro <;> simp))) only [go_sem]
theorem rquad_any (m : List (List Int)) (x : List Int) (n : Nat) (hn : n ≤ 1000) (hm : Sq m n) (hx : x.length = n) (sm : ∀ i j, dlim (at2 m i j) ≤ 900000) (sx : ∀ i, dlim (x.getD i 0) ≤ 900000) : Ret pg n_gimbalref07_Mat_Quad [.sl (m.map dvl), dvl x] (DV (quadV m x n)) := by
  by_cases h : 1 ≤ n
  · exact rquad_ret m x n hn h hm hx sm sx
  · obtain rfl : n = 0 := by omega
    obtain rfl : m = [] := List.eq_nil_of_length_eq_zero hm.1
    obtain rfl : x = [] := List.eq_nil_of_length_eq_zero hx
    have hd := rdot_ret [] [] (by decide) (by decide) (fun i => by simp [dlim_zero]) (fun i => by simp [dlim_zero])
    refine gimbalref07_Mat_Quad.of rfl (W_b ?_)
    unfold gimbalref07_Mat_Quad.k gimbalref07_Mat_Quad.res
    simp -dsimp -implicitDefEqProofs (disch := (first | assumption | omega | (simp only [zE] <;> omega) | (apply isPure_intro <;> simp))) only [go_sem]
    first | refine callB_of (rapply0_ret) (by simp) ?_ | refine callP_of (rapply0_ret) (by simp) ?_
    simp -dsimp -implicitDefEqProofs (disch := (first | assumption | omega | (simp only [zE] <;> omega) | (apply isPure_intro <;> simp))) only [go_sem]
    first | refine callB_of (hd) (by simp) ?_ | refine callP_of (hd) (by simp) ?_
    simp -dsimp -implicitDefEqProofs (disch := (first | assumption | omega | (simp only [zE] <;> omega) | (apply isPure_intro <;> simp))) only [go_sem]
    rfl
end Go.Gim

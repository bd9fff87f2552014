import Derived.Test.YtoehjhcfilonoaaRP
import Derived.Test.YtoehjhcfilonoaaGRH
import Derived.Test.YtoehjhcfilonoaaFA3
/- The references' cost that forgives; what a row costs there. -/
set_option maxRecDepth 100000
set_option maxHeartbeats 4000000
set_option linter.unusedSimpArgs false
set_option linter.unusedVariables false
namespace Go.Gim
open Go.Proofs
theorem w64' (n : Int) : IntKind.i64.wrap n = (n + 9223372036854775808) % 18446744073709551616 - 9223372036854775808 := by rw [IntWalk.i64_left]; unfold RowKit.wrap64; rfl
theorem rcut_ret (r k : Int) : Ret pg n_gimbalref09_cut [.int .i64 r, .int .i64 k] (.tup [.int .i64 (sizeR r), .bool (decide (r < 0)), .int .i64 (clampK k)]) := by
  refine gimbalref09_cut.of rfl (W_b ?_)
  unfold gimbalref09_cut.k gimbalref09_cut.res sizeR clampR clampK
  simp -dsimp -implicitDefEqProofs only [go_sem]
  repeat' (first | (refine gsel_split (fun h' => ?_) (fun h' => ?_) <;> simp -dsimp -implicitDefEqProofs only [go_sem, h']) | (refine csel_dec (fun h' => ?_) (fun h' => ?_) <;> simp -dsimp -implicitDefEqProofs only [go_sem, h']))
  all_goals
    simp only [w64', Option.some.injEq, V.tup.injEq, List.cons.injEq, V.int.injEq, V.bool.injEq, true_and, and_true, decide_eq_true_eq, decide_eq_false_iff_not, Bool.true_eq, Bool.false_eq]
    omega
theorem rslope_ret (r k : Int) : Ret pg n_gimbalref09_Slope [.int .i64 r, .int .i64 k] (.int .i64 (hSlope r k)) := by
  have h1 := clampR_bd r
  have h2 := clampK_bd k
  have h3 := sizeR_bd r
  refine gimbalref09_Slope.of rfl (W_b ?_)
  unfold gimbalref09_Slope.k gimbalref09_Slope.res
  simp -dsimp -implicitDefEqProofs only [go_sem]
  refine callB_of (rcut_ret _ _) (by simp) ?_
  simp -dsimp -implicitDefEqProofs only [go_sem]
  have e : (r < 0 ∧ clampR r = -sizeR r) ∨ (¬ r < 0 ∧ clampR r = sizeR r) := by unfold sizeR clampR; omega
  have w1 := w64 (n := 0 - sizeR r) (by omega)
  have w2 := w64 (n := 0 - clampK k) (by omega)
  unfold hSlope
  by_cases h : sizeR r ≤ clampK k
  · rcases e with ⟨h4, h5⟩ | ⟨h4, h5⟩
    · simp -dsimp -implicitDefEqProofs only [go_sem, show ¬ clampK k < sizeR r by omega, h4, h, w1, h5]
      simp
    · simp -dsimp -implicitDefEqProofs only [go_sem, show ¬ clampK k < sizeR r by omega, h4, h, w1, h5]
  · rcases e with ⟨h4, h5⟩ | ⟨h4, h5⟩
    · simp -dsimp -implicitDefEqProofs only [go_sem, show clampK k < sizeR r by omega, h4, h, w2]
      congr 2; omega
    · simp -dsimp -implicitDefEqProofs only [go_sem, show clampK k < sizeR r by omega, h4, h, w2]
      congr 2; omega
theorem dl (x : Int) (h : -9223372036854775808 ≤ x ∧ x ≤ 9223372036854775807) : dlim x ≤ 20 := dlim_i64 h
theorem rrho_ret (r k : Int) : Ret pg n_gimbalref09_Rho [.int .i64 r, .int .i64 k] (.str (decS (hRho r k))) := by
  have h1 := clampR_bd r
  have h2 := clampK_bd k
  have h3 := sizeR_bd r
  have o1 := r_of (sizeR r) (by omega)
  have o2 := r_of (clampK k) (by omega)
  have e : clampR r * clampR r = sizeR r * sizeR r := by
    have : clampR r = sizeR r ∨ clampR r = -sizeR r := by unfold sizeR; omega
    rcases this with h | h <;> rw [h]
    rw [Int.neg_mul_neg]
  have d1 := dl (sizeR r) (by omega)
  have d2 := dl (clampK k) (by omega)
  have m1 := dlim_mul (sizeR r) (sizeR r)
  have m2 := dlim_mul (clampK k) (sizeR r)
  have m3 := dlim_mul (clampK k) (clampK k)
  have a1 := dlim_add (clampK k * sizeR r) (clampK k * sizeR r)
  have a2 := dlim_sub (clampK k * sizeR r + clampK k * sizeR r) (clampK k * clampK k)
  refine gimbalref09_Rho.of rfl (W_b ?_)
  unfold gimbalref09_Rho.k gimbalref09_Rho.res
  simp -dsimp -implicitDefEqProofs (disch := (first | omega | (simp only [nats_len, List.length_set, List.length_replicate, List.length_append, List.length_take, List.length_drop, List.length_map, List.length_cons, List.length_nil] <;> omega) | (apply isPure_intro <;> simp))) only [go_sem, IntWalk.i64_in, wu64, wu32, wu8, Nat.mod_eq_of_lt, shr32, shr63, shl32, or32, quo64, quo32, quoi64, remk, quo32_10, rem32_10, quoi_10, remi_10, nat_48add, Nat.add_assoc, add_ne_self, lt_ne, gt_ne, add_inj, dlt_t, dlt_f, dle_t, dle_f, deq_t, deq_f, idxB_nats, idxO_f, idxO_t, loadO_natf, loadO_natt, storeO_nat, storeO_natn, newB_mkn, effV_cpy, cpyO_nat, upd_upd, nats_len, List.length_set, ge_iff_le, gt_iff_lt, Int.toNat_natCast, nat_sub1, nat_sub, nat_add1, nat_add, nat_mul, slc3_pos, slc3_zero, slc_to, nats_take, nats_drop, boxB_eq, DV_cells, DV_isAgg, DV_isJunk, frz_DV, part_DV, nats_frz]
  refine callB_of (rcut_ret _ _) (by simp) ?_
  simp -dsimp -implicitDefEqProofs (disch := (first | omega | (simp only [nats_len, List.length_set, List.length_replicate, List.length_append, List.length_take, List.length_drop, List.length_map, List.length_cons, List.length_nil] <;> omega) | (apply isPure_intro <;> simp))) only [go_sem, IntWalk.i64_in, wu64, wu32, wu8, Nat.mod_eq_of_lt, shr32, shr63, shl32, or32, quo64, quo32, quoi64, remk, quo32_10, rem32_10, quoi_10, remi_10, nat_48add, Nat.add_assoc, add_ne_self, lt_ne, gt_ne, add_inj, dlt_t, dlt_f, dle_t, dle_f, deq_t, deq_f, idxB_nats, idxO_f, idxO_t, loadO_natf, loadO_natt, storeO_nat, storeO_natn, newB_mkn, effV_cpy, cpyO_nat, upd_upd, nats_len, List.length_set, ge_iff_le, gt_iff_lt, Int.toNat_natCast, nat_sub1, nat_sub, nat_add1, nat_add, nat_mul, slc3_pos, slc3_zero, slc_to, nats_take, nats_drop, boxB_eq, DV_cells, DV_isAgg, DV_isJunk, frz_DV, part_DV, nats_frz]
  refine callB_of o1 (by simp) ?_
  unfold hRho
  by_cases h : sizeR r ≤ clampK k
  · simp -dsimp -implicitDefEqProofs (disch := (first | omega | (simp only [nats_len, List.length_set, List.length_replicate, List.length_append, List.length_take, List.length_drop, List.length_map, List.length_cons, List.length_nil] <;> omega) | (apply isPure_intro <;> simp))) only [go_sem, IntWalk.i64_in, wu64, wu32, wu8, Nat.mod_eq_of_lt, shr32, shr63, shl32, or32, quo64, quo32, quoi64, remk, quo32_10, rem32_10, quoi_10, remi_10, nat_48add, Nat.add_assoc, add_ne_self, lt_ne, gt_ne, add_inj, dlt_t, dlt_f, dle_t, dle_f, deq_t, deq_f, idxB_nats, idxO_f, idxO_t, loadO_natf, loadO_natt, storeO_nat, storeO_natn, newB_mkn, effV_cpy, cpyO_nat, upd_upd, nats_len, List.length_set, ge_iff_le, gt_iff_lt, Int.toNat_natCast, nat_sub1, nat_sub, nat_add1, nat_add, nat_mul, slc3_pos, slc3_zero, slc_to, nats_take, nats_drop, boxB_eq, DV_cells, DV_isAgg, DV_isJunk, frz_DV, part_DV, nats_frz, h]
    refine callB_of (r_mul _ _ (by omega) (by omega)) (by simp) ?_
    simp -dsimp -implicitDefEqProofs (disch := (first | omega | (simp only [nats_len, List.length_set, List.length_replicate, List.length_append, List.length_take, List.length_drop, List.length_map, List.length_cons, List.length_nil] <;> omega) | (apply isPure_intro <;> simp))) only [go_sem, IntWalk.i64_in, wu64, wu32, wu8, Nat.mod_eq_of_lt, shr32, shr63, shl32, or32, quo64, quo32, quoi64, remk, quo32_10, rem32_10, quoi_10, remi_10, nat_48add, Nat.add_assoc, add_ne_self, lt_ne, gt_ne, add_inj, dlt_t, dlt_f, dle_t, dle_f, deq_t, deq_f, idxB_nats, idxO_f, idxO_t, loadO_natf, loadO_natt, storeO_nat, storeO_natn, newB_mkn, effV_cpy, cpyO_nat, upd_upd, nats_len, List.length_set, ge_iff_le, gt_iff_lt, Int.toNat_natCast, nat_sub1, nat_sub, nat_add1, nat_add, nat_mul, slc3_pos, slc3_zero, slc_to, nats_take, nats_drop, boxB_eq, DV_cells, DV_isAgg, DV_isJunk, frz_DV, part_DV, nats_frz]
    refine callB_of (r_string _ (by omega)) (by simp) ?_
    simp -dsimp -implicitDefEqProofs (disch := (first | omega | (simp only [nats_len, List.length_set, List.length_replicate, List.length_append, List.length_take, List.length_drop, List.length_map, List.length_cons, List.length_nil] <;> omega) | (apply isPure_intro <;> simp))) only [go_sem, IntWalk.i64_in, wu64, wu32, wu8, Nat.mod_eq_of_lt, shr32, shr63, shl32, or32, quo64, quo32, quoi64, remk, quo32_10, rem32_10, quoi_10, remi_10, nat_48add, Nat.add_assoc, add_ne_self, lt_ne, gt_ne, add_inj, dlt_t, dlt_f, dle_t, dle_f, deq_t, deq_f, idxB_nats, idxO_f, idxO_t, loadO_natf, loadO_natt, storeO_nat, storeO_natn, newB_mkn, effV_cpy, cpyO_nat, upd_upd, nats_len, List.length_set, ge_iff_le, gt_iff_lt, Int.toNat_natCast, nat_sub1, nat_sub, nat_add1, nat_add, nat_mul, slc3_pos, slc3_zero, slc_to, nats_take, nats_drop, boxB_eq, DV_cells, DV_isAgg, DV_isJunk, frz_DV, part_DV, nats_frz, h, e]
  · simp -dsimp -implicitDefEqProofs (disch := (first | omega | (simp only [nats_len, List.length_set, List.length_replicate, List.length_append, List.length_take, List.length_drop, List.length_map, List.length_cons, List.length_nil] <;> omega) | (apply isPure_intro <;> simp))) only [go_sem, IntWalk.i64_in, wu64, wu32, wu8, Nat.mod_eq_of_lt, shr32, shr63, shl32, or32, quo64, quo32, quoi64, remk, quo32_10, rem32_10, quoi_10, remi_10, nat_48add, Nat.add_assoc, add_ne_self, lt_ne, gt_ne, add_inj, dlt_t, dlt_f, dle_t, dle_f, deq_t, deq_f, idxB_nats, idxO_f, idxO_t, loadO_natf, loadO_natt, storeO_nat, storeO_natn, newB_mkn, effV_cpy, cpyO_nat, upd_upd, nats_len, List.length_set, ge_iff_le, gt_iff_lt, Int.toNat_natCast, nat_sub1, nat_sub, nat_add1, nat_add, nat_mul, slc3_pos, slc3_zero, slc_to, nats_take, nats_drop, boxB_eq, DV_cells, DV_isAgg, DV_isJunk, frz_DV, part_DV, nats_frz, h]
    refine callB_of o2 (by simp) ?_
    simp -dsimp -implicitDefEqProofs (disch := (first | omega | (simp only [nats_len, List.length_set, List.length_replicate, List.length_append, List.length_take, List.length_drop, List.length_map, List.length_cons, List.length_nil] <;> omega) | (apply isPure_intro <;> simp))) only [go_sem, IntWalk.i64_in, wu64, wu32, wu8, Nat.mod_eq_of_lt, shr32, shr63, shl32, or32, quo64, quo32, quoi64, remk, quo32_10, rem32_10, quoi_10, remi_10, nat_48add, Nat.add_assoc, add_ne_self, lt_ne, gt_ne, add_inj, dlt_t, dlt_f, dle_t, dle_f, deq_t, deq_f, idxB_nats, idxO_f, idxO_t, loadO_natf, loadO_natt, storeO_nat, storeO_natn, newB_mkn, effV_cpy, cpyO_nat, upd_upd, nats_len, List.length_set, ge_iff_le, gt_iff_lt, Int.toNat_natCast, nat_sub1, nat_sub, nat_add1, nat_add, nat_mul, slc3_pos, slc3_zero, slc_to, nats_take, nats_drop, boxB_eq, DV_cells, DV_isAgg, DV_isJunk, frz_DV, part_DV, nats_frz]
    refine callP_of (r_mul _ _ (by omega) (by omega)) (by simp) ?_
    simp -dsimp -implicitDefEqProofs (disch := (first | omega | (simp only [nats_len, List.length_set, List.length_replicate, List.length_append, List.length_take, List.length_drop, List.length_map, List.length_cons, List.length_nil] <;> omega) | (apply isPure_intro <;> simp))) only [go_sem, IntWalk.i64_in, wu64, wu32, wu8, Nat.mod_eq_of_lt, shr32, shr63, shl32, or32, quo64, quo32, quoi64, remk, quo32_10, rem32_10, quoi_10, remi_10, nat_48add, Nat.add_assoc, add_ne_self, lt_ne, gt_ne, add_inj, dlt_t, dlt_f, dle_t, dle_f, deq_t, deq_f, idxB_nats, idxO_f, idxO_t, loadO_natf, loadO_natt, storeO_nat, storeO_natn, newB_mkn, effV_cpy, cpyO_nat, upd_upd, nats_len, List.length_set, ge_iff_le, gt_iff_lt, Int.toNat_natCast, nat_sub1, nat_sub, nat_add1, nat_add, nat_mul, slc3_pos, slc3_zero, slc_to, nats_take, nats_drop, boxB_eq, DV_cells, DV_isAgg, DV_isJunk, frz_DV, part_DV, nats_frz]
    refine callP_of (r_mul _ _ (by omega) (by omega)) (by simp) ?_
    simp -dsimp -implicitDefEqProofs (disch := (first | omega | (simp only [nats_len, List.length_set, List.length_replicate, List.length_append, List.length_take, List.length_drop, List.length_map, List.length_cons, List.length_nil] <;> omega) | (apply isPure_intro <;> simp))) only [go_sem, IntWalk.i64_in, wu64, wu32, wu8, Nat.mod_eq_of_lt, shr32, shr63, shl32, or32, quo64, quo32, quoi64, remk, quo32_10, rem32_10, quoi_10, remi_10, nat_48add, Nat.add_assoc, add_ne_self, lt_ne, gt_ne, add_inj, dlt_t, dlt_f, dle_t, dle_f, deq_t, deq_f, idxB_nats, idxO_f, idxO_t, loadO_natf, loadO_natt, storeO_nat, storeO_natn, newB_mkn, effV_cpy, cpyO_nat, upd_upd, nats_len, List.length_set, ge_iff_le, gt_iff_lt, Int.toNat_natCast, nat_sub1, nat_sub, nat_add1, nat_add, nat_mul, slc3_pos, slc3_zero, slc_to, nats_take, nats_drop, boxB_eq, DV_cells, DV_isAgg, DV_isJunk, frz_DV, part_DV, nats_frz]
    refine callP_of (r_add _ _ (by omega) (by omega)) (by simp) ?_
    simp -dsimp -implicitDefEqProofs (disch := (first | omega | (simp only [nats_len, List.length_set, List.length_replicate, List.length_append, List.length_take, List.length_drop, List.length_map, List.length_cons, List.length_nil] <;> omega) | (apply isPure_intro <;> simp))) only [go_sem, IntWalk.i64_in, wu64, wu32, wu8, Nat.mod_eq_of_lt, shr32, shr63, shl32, or32, quo64, quo32, quoi64, remk, quo32_10, rem32_10, quoi_10, remi_10, nat_48add, Nat.add_assoc, add_ne_self, lt_ne, gt_ne, add_inj, dlt_t, dlt_f, dle_t, dle_f, deq_t, deq_f, idxB_nats, idxO_f, idxO_t, loadO_natf, loadO_natt, storeO_nat, storeO_natn, newB_mkn, effV_cpy, cpyO_nat, upd_upd, nats_len, List.length_set, ge_iff_le, gt_iff_lt, Int.toNat_natCast, nat_sub1, nat_sub, nat_add1, nat_add, nat_mul, slc3_pos, slc3_zero, slc_to, nats_take, nats_drop, boxB_eq, DV_cells, DV_isAgg, DV_isJunk, frz_DV, part_DV, nats_frz]
    refine callP_of (r_mul _ _ (by omega) (by omega)) (by simp) ?_
    simp -dsimp -implicitDefEqProofs (disch := (first | omega | (simp only [nats_len, List.length_set, List.length_replicate, List.length_append, List.length_take, List.length_drop, List.length_map, List.length_cons, List.length_nil] <;> omega) | (apply isPure_intro <;> simp))) only [go_sem, IntWalk.i64_in, wu64, wu32, wu8, Nat.mod_eq_of_lt, shr32, shr63, shl32, or32, quo64, quo32, quoi64, remk, quo32_10, rem32_10, quoi_10, remi_10, nat_48add, Nat.add_assoc, add_ne_self, lt_ne, gt_ne, add_inj, dlt_t, dlt_f, dle_t, dle_f, deq_t, deq_f, idxB_nats, idxO_f, idxO_t, loadO_natf, loadO_natt, storeO_nat, storeO_natn, newB_mkn, effV_cpy, cpyO_nat, upd_upd, nats_len, List.length_set, ge_iff_le, gt_iff_lt, Int.toNat_natCast, nat_sub1, nat_sub, nat_add1, nat_add, nat_mul, slc3_pos, slc3_zero, slc_to, nats_take, nats_drop, boxB_eq, DV_cells, DV_isAgg, DV_isJunk, frz_DV, part_DV, nats_frz]
    refine callP_of (r_sub _ _ (by omega) (by omega)) (by simp) ?_
    simp -dsimp -implicitDefEqProofs (disch := (first | omega | (simp only [nats_len, List.length_set, List.length_replicate, List.length_append, List.length_take, List.length_drop, List.length_map, List.length_cons, List.length_nil] <;> omega) | (apply isPure_intro <;> simp))) only [go_sem, IntWalk.i64_in, wu64, wu32, wu8, Nat.mod_eq_of_lt, shr32, shr63, shl32, or32, quo64, quo32, quoi64, remk, quo32_10, rem32_10, quoi_10, remi_10, nat_48add, Nat.add_assoc, add_ne_self, lt_ne, gt_ne, add_inj, dlt_t, dlt_f, dle_t, dle_f, deq_t, deq_f, idxB_nats, idxO_f, idxO_t, loadO_natf, loadO_natt, storeO_nat, storeO_natn, newB_mkn, effV_cpy, cpyO_nat, upd_upd, nats_len, List.length_set, ge_iff_le, gt_iff_lt, Int.toNat_natCast, nat_sub1, nat_sub, nat_add1, nat_add, nat_mul, slc3_pos, slc3_zero, slc_to, nats_take, nats_drop, boxB_eq, DV_cells, DV_isAgg, DV_isJunk, frz_DV, part_DV, nats_frz]
    refine callP_of (r_string _ (by omega)) (by simp) ?_
    have e2 : clampK k * sizeR r + clampK k * sizeR r = 2 * clampK k * sizeR r := by rw [← Int.two_mul, Int.mul_assoc]
    simp -dsimp -implicitDefEqProofs (disch := (first | omega | (simp only [nats_len, List.length_set, List.length_replicate, List.length_append, List.length_take, List.length_drop, List.length_map, List.length_cons, List.length_nil] <;> omega) | (apply isPure_intro <;> simp))) only [go_sem, IntWalk.i64_in, wu64, wu32, wu8, Nat.mod_eq_of_lt, shr32, shr63, shl32, or32, quo64, quo32, quoi64, remk, quo32_10, rem32_10, quoi_10, remi_10, nat_48add, Nat.add_assoc, add_ne_self, lt_ne, gt_ne, add_inj, dlt_t, dlt_f, dle_t, dle_f, deq_t, deq_f, idxB_nats, idxO_f, idxO_t, loadO_natf, loadO_natt, storeO_nat, storeO_natn, newB_mkn, effV_cpy, cpyO_nat, upd_upd, nats_len, List.length_set, ge_iff_le, gt_iff_lt, Int.toNat_natCast, nat_sub1, nat_sub, nat_add1, nat_add, nat_mul, slc3_pos, slc3_zero, slc_to, nats_take, nats_drop, boxB_eq, DV_cells, DV_isAgg, DV_isJunk, frz_DV, part_DV, nats_frz, h, e2]
theorem dl64 {x : Int} (h : In64 x) : dlim x ≤ 20 := dlim_i64 h
theorem hRho_in {r k : Int} (hr : -1000000000 ≤ r ∧ r ≤ 1000000000) (hk : 1 ≤ k ∧ k ≤ 32768) : In64 (hRho r k) := by
  have h1 := hRho_lo r k
  have h2 := hRho_hi hr hk
  exact ⟨by omega, by omega⟩
theorem rcost_ret (r : Row4) (x : List Int) (hr : Right4 r x.length) (hx : State x) : Ret pg n_gimbalref16_Cost [RV r, ints x] (DV (costR r x)) := by
  have hi := hRho_in (residR_bd r x) hr.kn
  have h0 := hRho_lo (residR r x) r.kn
  have d1 := dl64 hi
  have hw := hr.w
  have d2 := dl64 (x := r.w) ⟨by omega, by omega⟩
  refine gimbalref16_Cost.of rfl (W_b ?_)
  unfold gimbalref16_Cost.k gimbalref16_Cost.res
  simp -dsimp -implicitDefEqProofs (disch := (first | assumption | omega | (simp only [nats_len, List.length_map, List.length_set, List.length_replicate, List.length_append, List.length_range, upto_len, els_len, List.length_cons, List.length_nil] <;> omega) | (apply isPure_intro <;> simp))) only [go_sem, ← DV_zero]
  first | refine callB_of (rresid_ret r x hr hx) (by simp) ?_ | refine callP_of (rresid_ret r x hr hx) (by simp) ?_
  simp -dsimp -implicitDefEqProofs (disch := (first | assumption | omega | (simp only [nats_len, List.length_map, List.length_set, List.length_replicate, List.length_append, List.length_range, upto_len, els_len, List.length_cons, List.length_nil] <;> omega) | (apply isPure_intro <;> simp))) only [go_sem]
  first | refine callB_of (rrho_ret (residR r x) r.kn) (by simp) ?_ | refine callP_of (rrho_ret (residR r x) r.kn) (by simp) ?_
  simp -dsimp -implicitDefEqProofs (disch := (first | assumption | omega | (simp only [nats_len, List.length_map, List.length_set, List.length_replicate, List.length_append, List.length_range, upto_len, els_len, List.length_cons, List.length_nil] <;> omega) | (apply isPure_intro <;> simp))) only [go_sem]
  first | refine callB_of (rparse_ret _ h0 (by omega)) (by simp) ?_ | refine callP_of (rparse_ret _ h0 (by omega)) (by simp) ?_
  simp -dsimp -implicitDefEqProofs (disch := (first | assumption | omega | (simp only [nats_len, List.length_map, List.length_set, List.length_replicate, List.length_append, List.length_range, upto_len, els_len, List.length_cons, List.length_nil] <;> omega) | (apply isPure_intro <;> simp))) only [go_sem]
  first | refine callB_of (r_of r.w (by omega)) (by simp) ?_ | refine callP_of (r_of r.w (by omega)) (by simp) ?_
  simp -dsimp -implicitDefEqProofs (disch := (first | assumption | omega | (simp only [nats_len, List.length_map, List.length_set, List.length_replicate, List.length_append, List.length_range, upto_len, els_len, List.length_cons, List.length_nil] <;> omega) | (apply isPure_intro <;> simp))) only [go_sem]
  first | refine callB_of (r_mul _ _ (by omega) (by omega)) (by simp) ?_ | refine callP_of (r_mul _ _ (by omega) (by omega)) (by simp) ?_
  have e : hRho (residR r x) r.kn * r.w = costR r x := Int.mul_comm _ _
  simp -dsimp -implicitDefEqProofs (disch := (first | assumption | omega | (simp only [nats_len, List.length_map, List.length_set, List.length_replicate, List.length_append, List.length_range, upto_len, els_len, List.length_cons, List.length_nil] <;> omega) | (apply isPure_intro <;> simp))) only [go_sem, e]
theorem rsteep_ret (r : Row4) (x : List Int) (hr : Right4 r x.length) (hx : State x) : Ret pg n_gimbalref16_Steep [RV r, ints x] (ints (steepR r x)) := by
  have hb := slopeR_bd (x := x) hr
  have hl := hr.len
  have hn := hr.le
  have hw := hr.w
  have hs := hSlope_bd (r := residR r x) hr.kn
  have hsl : (steepR r x).length = x.length := by simp [steepR, hl]
  refine gimbalref16_Steep.of rfl (W_b ?_)
  unfold gimbalref16_Steep.k gimbalref16_Steep.res
  simp -dsimp -implicitDefEqProofs (disch := (first | assumption | omega | (simp only [nats_len, List.length_map, List.length_set, List.length_replicate, List.length_append, List.length_range, upto_len, els_len, List.length_cons, List.length_nil] <;> omega) | (apply isPure_intro <;> simp))) only [go_sem]
  refine W_loopG (T := Nat × V × Hp × Nat) (fun t => ⟨E [(1, ints x), (2, .pp (RV r)), (5, t.2.1), (6, .int .i64 t.1)], t.2.2.1, t.2.2.2, t.2.2.2⟩)
    (fun t => t.1 ≤ x.length ∧ Row 0 t.2.2.1 t.2.2.2 t.2.1 1 (((steepR r x).take t.1).map (V.int .i64))) (fun t => x.length - t.1) (0, .nil, _, _) (Ghost.refl _) ⟨by dsimp only; omega, Row.nil _ _ _ _⟩ ?_
  rintro ⟨i, w, H, nx⟩ ⟨i1, i2⟩
  dsimp only at i1 i2
  obtain ⟨w1, w2, w3, w4⟩ := i2.flat
  by_cases hi : i < x.length
  · have hm := hr.get i
    have ht := take_getD (l := steepR r x) (i := i) 0 (by omega)
    have e : (steepR r x).getD i 0 = r.w * r.co.getD i 0 * hSlope (residR r x) r.kn := by
      simp only [steepR, slopeR]
      rw [show (r.co.map fun a => a * (r.w * hSlope (residR r x) r.kn)).getD i 0 = r.co.getD i 0 * (r.w * hSlope (residR r x) r.kn) by simp [List.getD_eq_getElem?_getD, show i < r.co.length by omega]]
      grind
    rw [e] at ht
    have h1 := prod_bd (a := r.w) (b := r.co.getD i 0) (A := 100) (B := 1000) (by omega) (by omega)
    have h2 := prod_bd (a := r.w * r.co.getD i 0) (b := hSlope (residR r x) r.kn) (A := 100000) (B := 32768) (by omega) (by omega)
    have e1 := w64 (show -9223372036854775808 ≤ r.w * r.co.getD i 0 ∧ r.w * r.co.getD i 0 ≤ 9223372036854775807 by omega)
    have e2 := w64 (show -9223372036854775808 ≤ r.w * r.co.getD i 0 * hSlope (residR r x) r.kn ∧ r.w * r.co.getD i 0 * hSlope (residR r x) r.kn ≤ 9223372036854775807 by omega)
    simp -dsimp -implicitDefEqProofs (disch := (first | assumption | omega | (simp only [nats_len, List.length_map, List.length_set, List.length_replicate, List.length_append, List.length_range, upto_len, els_len, List.length_cons, List.length_nil] <;> omega) | (apply isPure_intro <;> simp))) only [go_sem, w1, w2, w3, w4, e1]
    first | refine callB_of (rresid_ret r x hr hx) (by simp) ?_ | refine callP_of (rresid_ret r x hr hx) (by simp) ?_
    simp -dsimp -implicitDefEqProofs (disch := (first | assumption | omega | (simp only [nats_len, List.length_map, List.length_set, List.length_replicate, List.length_append, List.length_range, upto_len, els_len, List.length_cons, List.length_nil] <;> omega) | (apply isPure_intro <;> simp))) only [go_sem]
    first | refine callB_of (rslope_ret (residR r x) r.kn) (by simp) ?_ | refine callP_of (rslope_ret (residR r x) r.kn) (by simp) ?_
    simp -dsimp -implicitDefEqProofs (disch := (first | assumption | omega | (simp only [nats_len, List.length_map, List.length_set, List.length_replicate, List.length_append, List.length_range, upto_len, els_len, List.length_cons, List.length_nil] <;> omega) | (apply isPure_intro <;> simp))) only [go_sem, e2]
    refine effB_row (lo := 0) (nx := nx) (H0 := H) (xs := ((steepR r x).take i).map (V.int .i64)) i2 (by omega) rfl (by omega) (by omega) (by simp [rowOk, V.cells, V.cellOk, V.isJunk]) (by decide) (by simp; omega) (by simp; omega) fun v2 H2 r1 _ _ r4 => ?_
    rw [map_app (V.int .i64), ← ht] at r1
    simp -dsimp -implicitDefEqProofs (disch := (first | assumption | omega | (simp only [nats_len, List.length_map, List.length_set, List.length_replicate, List.length_append, List.length_range, upto_len, els_len, List.length_cons, List.length_nil] <;> omega) | (apply isPure_intro <;> simp))) only [go_sem]
    exact ⟨(i + 1, v2, H2, _), Ghost.refl _, ⟨by dsimp only; omega, r1.same (fun _ _ => rfl) (by dsimp only; omega)⟩, by dsimp only; omega⟩
  · have hie : x.length = i := by omega
    subst hie
    rw [List.take_of_length_le (by omega)] at i2
    simp -dsimp -implicitDefEqProofs (disch := (first | assumption | omega | (simp only [nats_len, List.length_map, List.length_set, List.length_replicate, List.length_append, List.length_range, upto_len, els_len, List.length_cons, List.length_nil] <;> omega) | (apply isPure_intro <;> simp))) only [go_sem]
    rw [i2.frz (frz_map fun x => rfl)]
    rfl
end Go.Gim

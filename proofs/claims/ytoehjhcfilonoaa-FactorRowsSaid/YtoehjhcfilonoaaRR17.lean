import Derived.Test.YtoehjhcfilonoaaKM4
import Derived.Test.YtoehjhcfilonoaaGRC
import Derived.Test.YtoehjhcfilonoaaRA1
import Derived.Test.YtoehjhcfilonoaaRP
/- The document's word on a config. -/
set_option maxRecDepth 100000
set_option maxHeartbeats 4000000
set_option linter.unusedSimpArgs false
set_option linter.unusedVariables false
namespace Go.Gim
open Go.Proofs
theorem r13out_ret (n low top : Int) : Ret pg n_gimbalref13_out [.int .i64 n, .int .i64 low, .int .i64 top] (.bool (outB n low top)) := by
  refine gimbalref13_out.of rfl (W_b ?_)
  unfold gimbalref13_out.k gimbalref13_out.res outB
  by_cases h : n < low
  · simp -dsimp -implicitDefEqProofs (disch := (first | omega | (simp only [nats_len, List.length_set, List.length_replicate, List.length_append, List.length_take, List.length_drop, List.length_map, List.length_cons, List.length_nil] <;> omega) | (apply isPure_intro <;> simp))) only [go_sem, IntWalk.i64_in, wu64, wu32, wu8, Nat.mod_eq_of_lt, shr32, shr63, shl32, or32, quo64, quo32, quoi64, remk, quo32_10, rem32_10, quoi_10, remi_10, nat_48add, Nat.add_assoc, add_ne_self, lt_ne, gt_ne, add_inj, dlt_t, dlt_f, dle_t, dle_f, deq_t, deq_f, idxB_nats, idxO_f, idxO_t, loadO_natf, loadO_natt, storeO_nat, storeO_natn, newB_mkn, effV_cpy, cpyO_nat, upd_upd, nats_len, List.length_set, ge_iff_le, gt_iff_lt, Int.toNat_natCast, nat_sub1, nat_sub, nat_add1, nat_add, nat_mul, slc3_pos, slc3_zero, slc_to, nats_take, nats_drop, boxB_eq, decide_eq_true h, Bool.true_or]
  · simp -dsimp -implicitDefEqProofs (disch := (first | omega | (simp only [nats_len, List.length_set, List.length_replicate, List.length_append, List.length_take, List.length_drop, List.length_map, List.length_cons, List.length_nil] <;> omega) | (apply isPure_intro <;> simp))) only [go_sem, IntWalk.i64_in, wu64, wu32, wu8, Nat.mod_eq_of_lt, shr32, shr63, shl32, or32, quo64, quo32, quoi64, remk, quo32_10, rem32_10, quoi_10, remi_10, nat_48add, Nat.add_assoc, add_ne_self, lt_ne, gt_ne, add_inj, dlt_t, dlt_f, dle_t, dle_f, deq_t, deq_f, idxB_nats, idxO_f, idxO_t, loadO_natf, loadO_natt, storeO_nat, storeO_natn, newB_mkn, effV_cpy, cpyO_nat, upd_upd, nats_len, List.length_set, ge_iff_le, gt_iff_lt, Int.toNat_natCast, nat_sub1, nat_sub, nat_add1, nat_add, nat_mul, slc3_pos, slc3_zero, slc_to, nats_take, nats_drop, boxB_eq, decide_eq_false h, Bool.false_or]
def any4B (a b c d top : Int) : Bool := outB a 1 top || outB b 1 top || outB c 1 top || outB d 1 top
theorem any4_ret (a b c d top : Int) : Ret pg n_gimbalref13_any4 [.agg [.int .i64 a, .int .i64 b, .int .i64 c, .int .i64 d], .int .i64 top] (.bool (any4B a b c d top)) := by
  have h0 : redV (.aptr 4 1 false) [.pp (.agg [.int .i64 a, .int .i64 b, .int .i64 c, .int .i64 d]), .int .i64 0] = some (.pp (.int .i64 a)) := by simp [redV, V.part, V.cells, V.isAgg]
  have h1 : redV (.aptr 4 1 false) [.pp (.agg [.int .i64 a, .int .i64 b, .int .i64 c, .int .i64 d]), .int .i64 1] = some (.pp (.int .i64 b)) := by simp [redV, V.part, V.cells, V.isAgg]
  have h2 : redV (.aptr 4 1 false) [.pp (.agg [.int .i64 a, .int .i64 b, .int .i64 c, .int .i64 d]), .int .i64 2] = some (.pp (.int .i64 c)) := by simp [redV, V.part, V.cells, V.isAgg]
  have h3 : redV (.aptr 4 1 false) [.pp (.agg [.int .i64 a, .int .i64 b, .int .i64 c, .int .i64 d]), .int .i64 3] = some (.pp (.int .i64 d)) := by simp [redV, V.part, V.cells, V.isAgg]
  refine gimbalref13_any4.of rfl (W_b ?_)
  unfold gimbalref13_any4.k gimbalref13_any4.res any4B
  simp -dsimp -implicitDefEqProofs (disch := (first | assumption | omega | (simp only [nats_len, List.length_map, List.length_set, List.length_replicate, List.length_append, List.length_range, upto_len, els_len, List.length_cons, List.length_nil] <;> omega) | (apply isPure_intro <;> simp))) only [go_sem, h0, h1, h2, h3]
  first | refine callB_of (r13out_ret _ _ _) (by simp) ?_ | refine callP_of (r13out_ret _ _ _) (by simp) ?_
  by_cases e0 : outB a 1 top = true
  · simp -dsimp -implicitDefEqProofs (disch := (first | assumption | omega | (simp only [nats_len, List.length_map, List.length_set, List.length_replicate, List.length_append, List.length_range, upto_len, els_len, List.length_cons, List.length_nil] <;> omega) | (apply isPure_intro <;> simp))) only [go_sem, h0, h1, h2, h3, e0, Bool.true_or, Bool.or_true]
  · have e0 : outB a 1 top = false := by simpa using e0
    simp -dsimp -implicitDefEqProofs (disch := (first | assumption | omega | (simp only [nats_len, List.length_map, List.length_set, List.length_replicate, List.length_append, List.length_range, upto_len, els_len, List.length_cons, List.length_nil] <;> omega) | (apply isPure_intro <;> simp))) only [go_sem, h0, h1, h2, h3, e0, Bool.false_or]
    first | refine callB_of (r13out_ret _ _ _) (by simp) ?_ | refine callP_of (r13out_ret _ _ _) (by simp) ?_
    by_cases e1 : outB b 1 top = true
    · simp -dsimp -implicitDefEqProofs (disch := (first | assumption | omega | (simp only [nats_len, List.length_map, List.length_set, List.length_replicate, List.length_append, List.length_range, upto_len, els_len, List.length_cons, List.length_nil] <;> omega) | (apply isPure_intro <;> simp))) only [go_sem, h0, h1, h2, h3, e0, e1, Bool.true_or, Bool.or_true]
    · have e1 : outB b 1 top = false := by simpa using e1
      simp -dsimp -implicitDefEqProofs (disch := (first | assumption | omega | (simp only [nats_len, List.length_map, List.length_set, List.length_replicate, List.length_append, List.length_range, upto_len, els_len, List.length_cons, List.length_nil] <;> omega) | (apply isPure_intro <;> simp))) only [go_sem, h0, h1, h2, h3, e0, e1, Bool.false_or]
      first | refine callB_of (r13out_ret _ _ _) (by simp) ?_ | refine callP_of (r13out_ret _ _ _) (by simp) ?_
      by_cases e2 : outB c 1 top = true
      · simp -dsimp -implicitDefEqProofs (disch := (first | assumption | omega | (simp only [nats_len, List.length_map, List.length_set, List.length_replicate, List.length_append, List.length_range, upto_len, els_len, List.length_cons, List.length_nil] <;> omega) | (apply isPure_intro <;> simp))) only [go_sem, h0, h1, h2, h3, e0, e1, e2, Bool.true_or, Bool.or_true]
      · have e2 : outB c 1 top = false := by simpa using e2
        simp -dsimp -implicitDefEqProofs (disch := (first | assumption | omega | (simp only [nats_len, List.length_map, List.length_set, List.length_replicate, List.length_append, List.length_range, upto_len, els_len, List.length_cons, List.length_nil] <;> omega) | (apply isPure_intro <;> simp))) only [go_sem, h0, h1, h2, h3, e0, e1, e2, Bool.false_or]
        first | refine callB_of (r13out_ret _ _ _) (by simp) ?_ | refine callP_of (r13out_ret _ _ _) (by simp) ?_
        simp -dsimp -implicitDefEqProofs (disch := (first | assumption | omega | (simp only [nats_len, List.length_map, List.length_set, List.length_replicate, List.length_append, List.length_range, upto_len, els_len, List.length_cons, List.length_nil] <;> omega) | (apply isPure_intro <;> simp))) only [go_sem, h0, h1, h2, h3, e0, e1, e2, Bool.false_or]
theorem fine1 (s : ByteArray) (x lo hi : Int) : fineB (s, [x], lo, hi) = !outB x lo hi := by
  unfold fineB outB; simp only [List.all_cons, List.all_nil, Bool.and_true]
  rw [Bool.eq_iff_iff]; simp [Bool.and_eq_true, decide_eq_true_eq]
theorem fine4 (s : ByteArray) (a b c d hi : Int) : fineB (s, [a, b, c, d], 1, hi) = !any4B a b c d hi := by
  unfold fineB any4B outB; simp only [List.all_cons, List.all_nil, Bool.and_true]
  rw [Bool.eq_iff_iff]; simp [Bool.and_eq_true, decide_eq_true_eq]; omega
theorem if1 (b : Bool) (X : ByteArray × Int) (s : ByteArray) : (if b = false then X else (s, 130)).1 = if b = true then s else X.1 := by cases b <;> rfl
theorem chk_name (c : Cfg) : (chk c).1 = if outB c.rate 1 1000 = true then ⟨#[82, 97, 116, 101]⟩ else if outB c.step 1 1000 = true then ⟨#[83, 116, 101, 112]⟩ else if outB c.keys 2 5 = true then ⟨#[75, 101, 121, 115]⟩ else if outB c.gap 1 1000 = true then ⟨#[71, 97, 112]⟩
    else if outB c.turn 1 4194304 = true then ⟨#[84, 117, 114, 110]⟩ else if outB c.pull 1 67108864 = true then ⟨#[80, 117, 108, 108]⟩ else if any4B c.k0 c.k1 c.k2 c.k3 32768 = true then ⟨#[75, 110, 101, 101, 115]⟩ else if any4B c.w0 c.w1 c.w2 c.w3 100 = true then ⟨#[87, 101, 105, 103, 104, 116, 115]⟩
    else if outB c.rounds 1 30 = true then ⟨#[82, 111, 117, 110, 100, 115]⟩ else if outB c.raises 0 12 = true then ⟨#[82, 97, 105, 115, 101, 115]⟩ else if outB c.flat 0 1000000000 = true then ⟨#[70, 108, 97, 116]⟩ else ⟨#[]⟩ := by
  unfold chk fieldT
  simp only [firstBad, fine1, fine4, Bool.not_eq_true', if1]
theorem r13check_ret (c : Cfg) : Ret pg n_gimbalref13_Check [CV c] (.str (chk c).1) := by
  rw [chk_name]
  refine gimbalref13_Check.of rfl (W_b ?_)
  unfold gimbalref13_Check.k gimbalref13_Check.res
  simp -dsimp -implicitDefEqProofs (disch := (first | assumption | omega | (simp only [nats_len, List.length_map, List.length_set, List.length_replicate, List.length_append, List.length_range, upto_len, els_len, List.length_cons, List.length_nil] <;> omega) | (apply isPure_intro <;> simp))) only [go_sem, CV_cells, CV_isAgg, part_CV]
  first | refine callB_of (r13out_ret _ _ _) (by simp) ?_ | refine callP_of (r13out_ret _ _ _) (by simp) ?_
  by_cases e0 : outB c.rate 1 1000 = true
  · rw [if_pos e0]
    simp -dsimp -implicitDefEqProofs (disch := (first | assumption | omega | (simp only [nats_len, List.length_map, List.length_set, List.length_replicate, List.length_append, List.length_range, upto_len, els_len, List.length_cons, List.length_nil] <;> omega) | (apply isPure_intro <;> simp))) only [go_sem, e0]
  · rw [if_neg e0]
    have e0 : outB c.rate 1 1000 = false := by simpa using e0
    simp -dsimp -implicitDefEqProofs (disch := (first | assumption | omega | (simp only [nats_len, List.length_map, List.length_set, List.length_replicate, List.length_append, List.length_range, upto_len, els_len, List.length_cons, List.length_nil] <;> omega) | (apply isPure_intro <;> simp))) only [go_sem, e0, CV_cells, CV_isAgg, part_CV]
    first | refine callB_of (r13out_ret _ _ _) (by simp) ?_ | refine callP_of (r13out_ret _ _ _) (by simp) ?_
    by_cases e1 : outB c.step 1 1000 = true
    · rw [if_pos e1]
      simp -dsimp -implicitDefEqProofs (disch := (first | assumption | omega | (simp only [nats_len, List.length_map, List.length_set, List.length_replicate, List.length_append, List.length_range, upto_len, els_len, List.length_cons, List.length_nil] <;> omega) | (apply isPure_intro <;> simp))) only [go_sem, e1]
    · rw [if_neg e1]
      have e1 : outB c.step 1 1000 = false := by simpa using e1
      simp -dsimp -implicitDefEqProofs (disch := (first | assumption | omega | (simp only [nats_len, List.length_map, List.length_set, List.length_replicate, List.length_append, List.length_range, upto_len, els_len, List.length_cons, List.length_nil] <;> omega) | (apply isPure_intro <;> simp))) only [go_sem, e1, CV_cells, CV_isAgg, part_CV]
      first | refine callB_of (r13out_ret _ _ _) (by simp) ?_ | refine callP_of (r13out_ret _ _ _) (by simp) ?_
      by_cases e2 : outB c.keys 2 5 = true
      · rw [if_pos e2]
        simp -dsimp -implicitDefEqProofs (disch := (first | assumption | omega | (simp only [nats_len, List.length_map, List.length_set, List.length_replicate, List.length_append, List.length_range, upto_len, els_len, List.length_cons, List.length_nil] <;> omega) | (apply isPure_intro <;> simp))) only [go_sem, e2]
      · rw [if_neg e2]
        have e2 : outB c.keys 2 5 = false := by simpa using e2
        simp -dsimp -implicitDefEqProofs (disch := (first | assumption | omega | (simp only [nats_len, List.length_map, List.length_set, List.length_replicate, List.length_append, List.length_range, upto_len, els_len, List.length_cons, List.length_nil] <;> omega) | (apply isPure_intro <;> simp))) only [go_sem, e2, CV_cells, CV_isAgg, part_CV]
        first | refine callB_of (r13out_ret _ _ _) (by simp) ?_ | refine callP_of (r13out_ret _ _ _) (by simp) ?_
        by_cases e3 : outB c.gap 1 1000 = true
        · rw [if_pos e3]
          simp -dsimp -implicitDefEqProofs (disch := (first | assumption | omega | (simp only [nats_len, List.length_map, List.length_set, List.length_replicate, List.length_append, List.length_range, upto_len, els_len, List.length_cons, List.length_nil] <;> omega) | (apply isPure_intro <;> simp))) only [go_sem, e3]
        · rw [if_neg e3]
          have e3 : outB c.gap 1 1000 = false := by simpa using e3
          simp -dsimp -implicitDefEqProofs (disch := (first | assumption | omega | (simp only [nats_len, List.length_map, List.length_set, List.length_replicate, List.length_append, List.length_range, upto_len, els_len, List.length_cons, List.length_nil] <;> omega) | (apply isPure_intro <;> simp))) only [go_sem, e3, CV_cells, CV_isAgg, part_CV]
          first | refine callB_of (r13out_ret _ _ _) (by simp) ?_ | refine callP_of (r13out_ret _ _ _) (by simp) ?_
          by_cases e4 : outB c.turn 1 4194304 = true
          · rw [if_pos e4]
            simp -dsimp -implicitDefEqProofs (disch := (first | assumption | omega | (simp only [nats_len, List.length_map, List.length_set, List.length_replicate, List.length_append, List.length_range, upto_len, els_len, List.length_cons, List.length_nil] <;> omega) | (apply isPure_intro <;> simp))) only [go_sem, e4]
          · rw [if_neg e4]
            have e4 : outB c.turn 1 4194304 = false := by simpa using e4
            simp -dsimp -implicitDefEqProofs (disch := (first | assumption | omega | (simp only [nats_len, List.length_map, List.length_set, List.length_replicate, List.length_append, List.length_range, upto_len, els_len, List.length_cons, List.length_nil] <;> omega) | (apply isPure_intro <;> simp))) only [go_sem, e4, CV_cells, CV_isAgg, part_CV]
            first | refine callB_of (r13out_ret _ _ _) (by simp) ?_ | refine callP_of (r13out_ret _ _ _) (by simp) ?_
            by_cases e5 : outB c.pull 1 67108864 = true
            · rw [if_pos e5]
              simp -dsimp -implicitDefEqProofs (disch := (first | assumption | omega | (simp only [nats_len, List.length_map, List.length_set, List.length_replicate, List.length_append, List.length_range, upto_len, els_len, List.length_cons, List.length_nil] <;> omega) | (apply isPure_intro <;> simp))) only [go_sem, e5]
            · rw [if_neg e5]
              have e5 : outB c.pull 1 67108864 = false := by simpa using e5
              simp -dsimp -implicitDefEqProofs (disch := (first | assumption | omega | (simp only [nats_len, List.length_map, List.length_set, List.length_replicate, List.length_append, List.length_range, upto_len, els_len, List.length_cons, List.length_nil] <;> omega) | (apply isPure_intro <;> simp))) only [go_sem, e5, CV_cells, CV_isAgg, part_CV]
              first | refine callB_of (any4_ret _ _ _ _ _) (by simp) ?_ | refine callP_of (any4_ret _ _ _ _ _) (by simp) ?_
              by_cases e6 : any4B c.k0 c.k1 c.k2 c.k3 32768 = true
              · rw [if_pos e6]
                simp -dsimp -implicitDefEqProofs (disch := (first | assumption | omega | (simp only [nats_len, List.length_map, List.length_set, List.length_replicate, List.length_append, List.length_range, upto_len, els_len, List.length_cons, List.length_nil] <;> omega) | (apply isPure_intro <;> simp))) only [go_sem, e6]
              · rw [if_neg e6]
                have e6 : any4B c.k0 c.k1 c.k2 c.k3 32768 = false := by simpa using e6
                simp -dsimp -implicitDefEqProofs (disch := (first | assumption | omega | (simp only [nats_len, List.length_map, List.length_set, List.length_replicate, List.length_append, List.length_range, upto_len, els_len, List.length_cons, List.length_nil] <;> omega) | (apply isPure_intro <;> simp))) only [go_sem, e6, CV_cells, CV_isAgg, part_CV]
                first | refine callB_of (any4_ret _ _ _ _ _) (by simp) ?_ | refine callP_of (any4_ret _ _ _ _ _) (by simp) ?_
                by_cases e7 : any4B c.w0 c.w1 c.w2 c.w3 100 = true
                · rw [if_pos e7]
                  simp -dsimp -implicitDefEqProofs (disch := (first | assumption | omega | (simp only [nats_len, List.length_map, List.length_set, List.length_replicate, List.length_append, List.length_range, upto_len, els_len, List.length_cons, List.length_nil] <;> omega) | (apply isPure_intro <;> simp))) only [go_sem, e7]
                · rw [if_neg e7]
                  have e7 : any4B c.w0 c.w1 c.w2 c.w3 100 = false := by simpa using e7
                  simp -dsimp -implicitDefEqProofs (disch := (first | assumption | omega | (simp only [nats_len, List.length_map, List.length_set, List.length_replicate, List.length_append, List.length_range, upto_len, els_len, List.length_cons, List.length_nil] <;> omega) | (apply isPure_intro <;> simp))) only [go_sem, e7, CV_cells, CV_isAgg, part_CV]
                  first | refine callB_of (r13out_ret _ _ _) (by simp) ?_ | refine callP_of (r13out_ret _ _ _) (by simp) ?_
                  by_cases e8 : outB c.rounds 1 30 = true
                  · rw [if_pos e8]
                    simp -dsimp -implicitDefEqProofs (disch := (first | assumption | omega | (simp only [nats_len, List.length_map, List.length_set, List.length_replicate, List.length_append, List.length_range, upto_len, els_len, List.length_cons, List.length_nil] <;> omega) | (apply isPure_intro <;> simp))) only [go_sem, e8]
                  · rw [if_neg e8]
                    have e8 : outB c.rounds 1 30 = false := by simpa using e8
                    simp -dsimp -implicitDefEqProofs (disch := (first | assumption | omega | (simp only [nats_len, List.length_map, List.length_set, List.length_replicate, List.length_append, List.length_range, upto_len, els_len, List.length_cons, List.length_nil] <;> omega) | (apply isPure_intro <;> simp))) only [go_sem, e8, CV_cells, CV_isAgg, part_CV]
                    first | refine callB_of (r13out_ret _ _ _) (by simp) ?_ | refine callP_of (r13out_ret _ _ _) (by simp) ?_
                    by_cases e9 : outB c.raises 0 12 = true
                    · rw [if_pos e9]
                      simp -dsimp -implicitDefEqProofs (disch := (first | assumption | omega | (simp only [nats_len, List.length_map, List.length_set, List.length_replicate, List.length_append, List.length_range, upto_len, els_len, List.length_cons, List.length_nil] <;> omega) | (apply isPure_intro <;> simp))) only [go_sem, e9]
                    · rw [if_neg e9]
                      have e9 : outB c.raises 0 12 = false := by simpa using e9
                      simp -dsimp -implicitDefEqProofs (disch := (first | assumption | omega | (simp only [nats_len, List.length_map, List.length_set, List.length_replicate, List.length_append, List.length_range, upto_len, els_len, List.length_cons, List.length_nil] <;> omega) | (apply isPure_intro <;> simp))) only [go_sem, e9, CV_cells, CV_isAgg, part_CV]
                      first | refine callB_of (r13out_ret _ _ _) (by simp) ?_ | refine callP_of (r13out_ret _ _ _) (by simp) ?_
                      by_cases e10 : outB c.flat 0 1000000000 = true
                      · rw [if_pos e10]
                        simp -dsimp -implicitDefEqProofs (disch := (first | assumption | omega | (simp only [nats_len, List.length_map, List.length_set, List.length_replicate, List.length_append, List.length_range, upto_len, els_len, List.length_cons, List.length_nil] <;> omega) | (apply isPure_intro <;> simp))) only [go_sem, e10]
                      · rw [if_neg e10]
                        have e10 : outB c.flat 0 1000000000 = false := by simpa using e10
                        simp -dsimp -implicitDefEqProofs (disch := (first | assumption | omega | (simp only [nats_len, List.length_map, List.length_set, List.length_replicate, List.length_append, List.length_range, upto_len, els_len, List.length_cons, List.length_nil] <;> omega) | (apply isPure_intro <;> simp))) only [go_sem, e10, CV_cells, CV_isAgg, part_CV]
end Go.Gim
/- The document's rows: one row. -/
set_option maxRecDepth 100000
set_option maxHeartbeats 4000000
set_option linter.unusedSimpArgs false
set_option linter.unusedVariables false
namespace Go.Gim
open Go.Proofs
def nz (qs : List (Nat × Int)) : List (Nat × Int) := qs.filter fun q => q.2 ≠ 0
theorem ap3 (a b c : Int) {j : Nat} (hj : j < 3) : redV (.aptr 3 1 false) [.pp (.agg [.int .i64 a, .int .i64 b, .int .i64 c]), .int .i64 (j : Int)] = some (.pp (.int .i64 ([a, b, c].getD j 0))) := by
  match j, hj with
  | 0, _ => simp [redV, V.part, V.cells, V.isAgg]
  | 1, _ => simp [redV, V.part, V.cells, V.isAgg]
  | 2, _ => simp [redV, V.part, V.cells, V.isAgg]
theorem ap4 (a b c d : Int) {s : Int} (h : s = 0 ∨ s = 1 ∨ s = 2 ∨ s = 3) : redV (.aptr 4 1 false) [.pp (.agg [.int .i64 a, .int .i64 b, .int .i64 c, .int .i64 d]), .int .i64 s] = some (.pp (.int .i64 (if s = 0 then a else if s = 1 then b else if s = 2 then c else d))) := by
  rcases h with rfl | rfl | rfl | rfl <;> simp [redV, V.part, V.cells, V.isAgg]
theorem nz_snoc {qs : List (Nat × Int)} {j : Nat} (h : j < qs.length) : nz (qs.take (j + 1)) = nz (qs.take j) ++ (if (qs.getD j (0, 0)).2 ≠ 0 then [qs.getD j (0, 0)] else []) := by
  rw [take_getD (0, 0) h]; unfold nz
  rw [List.filter_append]
  congr 1
  by_cases e : (qs.getD j (0, 0)).2 = 0 <;> simp only [List.filter_cons, List.filter_nil, ne_eq, e, not_true_eq_false, not_false_eq_true, decide_true, decide_false, if_true, if_false, Bool.false_eq_true]
theorem r16row_ret (c : Cfg) (n : Nat) (s z : Int) (q0 q1 q2 : Nat × Int) (hs : s = 0 ∨ s = 1 ∨ s = 2 ∨ s = 3) (hn : n ≤ 11) (hq : ∀ q ∈ [q0, q1, q2], q.2 ≠ 0 → q.1 < n) :
    Ret pg n_gimbalref16_row [CV c, .int .i64 (n : Int), .int .i64 s, .int .i64 z, .agg [.int .i64 (q0.1 : Int), .int .i64 (q1.1 : Int), .int .i64 (q2.1 : Int)], .agg [.int .i64 q0.2, .int .i64 q1.2, .int .i64 q2.2]] (RV (rowF c n s z (nz [q0, q1, q2]))) := by
  refine gimbalref16_row.of rfl (W_b ?_)
  unfold gimbalref16_row.k gimbalref16_row.res
  simp -dsimp -implicitDefEqProofs (disch := (first | assumption | omega | (simp only [nats_len, List.length_map, List.length_set, List.length_replicate, List.length_append, List.length_range, upto_len, els_len, List.length_cons, List.length_nil] <;> omega) | (apply isPure_intro <;> simp))) only [go_sem, CV_cells, CV_isAgg, part_CV, ap4 _ _ _ _ hs, newV_mkI]
  have hk : (if s = 0 then c.k0 else if s = 1 then c.k1 else if s = 2 then c.k2 else c.k3) = kneeC c s := rfl
  have hw : (if s = 0 then c.w0 else if s = 1 then c.w1 else if s = 2 then c.w2 else c.w3) = wtC c s := rfl
  rw [hk, hw]
  generalize hG0 : Hp.upd (Hp.upd (Hp.upd (fun _ => none) 3 _) 5 _) 16 _ = G0
  have m16 : G0 16 = some ⟨[.agg [.own 5 n, .int .i64 z, .int .i64 (kneeC c s), .int .i64 (wtC c s)]], 4⟩ := upd_at_same hG0
  have m5 : G0 5 = some ⟨(List.replicate n 0).map (V.int .i64), 1⟩ := by rw [← hG0, Hp.upd_ne _ _ (by decide), Hp.upd_same]
  have m3 : G0 3 = some ⟨[.agg [.sl [], .int .i64 0, .int .i64 0, .int .i64 0]], 4⟩ := by rw [← hG0, Hp.upd_ne _ _ (by decide), Hp.upd_ne _ _ (by decide), Hp.upd_same]
  clear hG0
  obtain ⟨qs, hqs⟩ : ∃ qs, qs = [q0, q1, q2] := ⟨_, rfl⟩
  have hql : qs.length = 3 := by rw [hqs]; rfl
  rw [← hqs] at hq
  refine W_loop (T := Nat × Hp × Nat) (fun t => ⟨E [(10, .pp (.agg [.int .i64 (q0.1 : Int), .int .i64 (q1.1 : Int), .int .i64 (q2.1 : Int)])), (11, .pp (.agg [.int .i64 q0.2, .int .i64 q1.2, .int .i64 q2.2])), (12, .ptr 3 1 0 0), (13, .ptr 16 1 0 0), (14, .int .i64 (t.1 : Int))], t.2.1, t.2.2, t.2.2⟩)
    (fun t => t.1 ≤ 3 ∧ 19 ≤ t.2.2 ∧ t.2.1 16 = some ⟨[.agg [.own 5 n, .int .i64 z, .int .i64 (kneeC c s), .int .i64 (wtC c s)]], 4⟩ ∧ t.2.1 5 = some ⟨(setAll (List.replicate n 0) (nz (qs.take t.1))).map (V.int .i64), 1⟩ ∧ t.2.1 3 = some ⟨[.agg [.sl [], .int .i64 0, .int .i64 0, .int .i64 0]], 4⟩)
    (fun t => 3 - t.1) (0, G0, _) rfl ⟨by dsimp only; omega, by dsimp only; omega, m16, by simpa [nz, setAll] using m5, m3⟩ ?_
  clear m16 m5 m3
  rintro ⟨j, G, nx⟩ ⟨j1, j2, j3, j4, j5⟩
  dsimp only at j1 j2 j3 j4 j5
  by_cases hj : j < 3
  · have hjq : j < qs.length := by omega
    have hsn := nz_snoc hjq
    have f2 : [q0.2, q1.2, q2.2].getD j 0 = (qs.getD j (0, 0)).2 := by
      rw [hqs]
      have h5 : j = 0 ∨ j = 1 ∨ j = 2 := by omega
      rcases h5 with rfl | rfl | rfl <;> rfl
    have f1 : [(q0.1 : Int), (q1.1 : Int), (q2.1 : Int)].getD j 0 = ((qs.getD j (0, 0)).1 : Int) := by
      rw [hqs]
      have h5 : j = 0 ∨ j = 1 ∨ j = 2 := by omega
      rcases h5 with rfl | rfl | rfl <;> rfl
    have hqm : qs.getD j (0, 0) ∈ qs := by simp [List.getD_eq_getElem?_getD, hjq]
    have hql' := hq _ hqm
    have hsl : (setAll (List.replicate n 0) (nz (qs.take j))).length = n := by rw [setAll_len, List.length_replicate]
    generalize qs.getD j (0, 0) = q at f1 f2 hsn hql'
    by_cases hz : q.2 = 0
    · rw [if_neg (by simp [hz]), List.append_nil] at hsn
      simp -dsimp -implicitDefEqProofs (disch := (first | assumption | omega | (simp only [nats_len, List.length_map, List.length_set, List.length_replicate, List.length_append, List.length_range, upto_len, els_len, List.length_cons, List.length_nil] <;> omega) | (apply isPure_intro <;> simp))) only [go_sem, j3, j4, ap3 _ _ _ hj, f2, hz]
      exact ⟨(j + 1, G, _), rfl, ⟨by dsimp only; omega, by dsimp only; omega, j3, by dsimp only; rw [hsn]; exact j4, j5⟩, by dsimp only; omega⟩
    · rw [if_pos hz] at hsn
      have hqn := hql' hz
      simp -dsimp -implicitDefEqProofs (disch := (first | assumption | omega | (simp only [nats_len, List.length_map, List.length_set, List.length_replicate, List.length_append, List.length_range, upto_len, els_len, List.length_cons, List.length_nil] <;> omega) | (apply isPure_intro <;> simp))) only [go_sem, j3, j4, ap3 _ _ _ hj, f1, f2, hz, hsl, storeO_int, Int.toNat_natCast]
      generalize hG2 : Hp.upd G 5 _ = G2
      exact ⟨(j + 1, G2, _), rfl, ⟨by dsimp only; omega, by dsimp only; omega, upd_at_ne hG2 j3 (by decide), by dsimp only; rw [hsn, setAll_snoc]; exact upd_at_same hG2, upd_at_ne hG2 j5 (by decide)⟩, by dsimp only; omega⟩
  · obtain rfl : j = 3 := by omega
    rw [← hql, List.take_length, hqs] at j4
    simp -dsimp -implicitDefEqProofs (disch := (first | assumption | omega | (simp only [nats_len, List.length_map, List.length_set, List.length_replicate, List.length_append, List.length_range, upto_len, els_len, List.length_cons, List.length_nil] <;> omega) | (apply isPure_intro <;> simp))) only [go_sem, j3, j4, j5]
    have hsl : (setAll (List.replicate n 0) (nz [q0, q1, q2])).length = n := by rw [setAll_len, List.length_replicate]
    generalize Hp.upd G 3 _ = G3
    unfold rowF
    generalize setAll (List.replicate n 0) (nz [q0, q1, q2]) = L at hsl
    have ha : allOf (frz G3 6) (L.map (V.int .i64)) = some (L.map (V.int .i64)) := frz_map fun x => rfl
    simp only [frzO, List.length_map, hsl, if_true, ha, Option.map_some, Option.bind_some, Option.bind]
    rfl
end Go.Gim
/- The document's rows of keys. -/
set_option maxRecDepth 100000
set_option maxHeartbeats 4000000
set_option linter.unusedSimpArgs false
set_option linter.unusedVariables false
namespace Go.Gim
open Go.Proofs
attribute [local go_sem] KV_cells KV_isAgg part_KV idxB_KV
theorem W_hideB {P : Program} {a b c i R0 : K} {n : Nat} {Q : AX → St → Prop} {u : Dep Q} {S : St} (h : ∀ R, R = R0 → Wb P (.seq c (.seq (.block n (.seq a (.seq b R))) i)) Q u S) : Wb P (.seq c (.seq (.block n (.seq a (.seq b R0))) i)) Q u S := h _ rfl
theorem Row.cong {lo nx es : Nat} {H : Hp} {v : V} {xs ys : List V} (h : Row lo H nx v es xs) (e : xs = ys) : Row lo H nx v es ys := e ▸ h
theorem Row.not_box {lo nx es es' b : Nat} {H : Hp} {v : V} {xs ys : List V} (h : Row lo H nx v es xs) (hb : H b = some ⟨ys, es'⟩) (hne : es ≠ es') : ∀ k, v ≠ .own b k := fun k hk => by
  rcases h with ⟨h, _⟩ | ⟨d, h1, h2, h3, h4⟩
  · rw [h] at hk; cases hk
  · rw [h1] at hk; cases hk; rw [hb] at h4; cases h4; exact hne rfl
theorem r16rows_ret (c : Cfg) (keys : List Key9) (hkl : keys.length ≤ 9223372036854775807) : Ret pg n_gimbalref16_Rows [CV c, .sl (keys.map KV)] (.tup [.sl ((rowsF c keys).1.map RV), .int .i64 (rowsF c keys).2]) := by
  refine gimbalref16_Rows.of rfl (W_b ?_)
  unfold gimbalref16_Rows.k gimbalref16_Rows.res
  simp -dsimp -implicitDefEqProofs (disch := (first | assumption | omega | (simp only [nats_len, List.length_map, List.length_set, List.length_replicate, List.length_append, List.length_range, upto_len, els_len, List.length_cons, List.length_nil] <;> omega) | (apply isPure_intro <;> simp))) only [go_sem, part_CV, CV_isAgg, CV_cells]
  first | refine callB_of (r13check_ret c) (by simp) ?_ | refine callP_of (r13check_ret c) (by simp) ?_
  rcases chk_two c with ⟨h1, h2, h3⟩ | ⟨h1, h2, h3⟩
  · have hne : binV .neq (.str (chk c).1) (.str ⟨#[]⟩) = some (.bool false) := by rw [h2]; simp [binV, strV]
    by_cases hl1 : (keys.length : Int) < 1
    · simp -dsimp -implicitDefEqProofs (disch := (first | assumption | omega | (simp only [nats_len, List.length_map, List.length_set, List.length_replicate, List.length_append, List.length_range, upto_len, els_len, List.length_cons, List.length_nil] <;> omega) | (apply isPure_intro <;> simp))) only [go_sem, hne, hl1]
      simp [rowsF, h1, show keys.length < 1 by omega]
    · by_cases hl5 : (5 : Int) < (keys.length : Int)
      · simp -dsimp -implicitDefEqProofs (disch := (first | assumption | omega | (simp only [nats_len, List.length_map, List.length_set, List.length_replicate, List.length_append, List.length_range, upto_len, els_len, List.length_cons, List.length_nil] <;> omega) | (apply isPure_intro <;> simp))) only [go_sem, hne, hl1, hl5]
        simp [rowsF, h1, show 5 < keys.length by omega]
      · have hn5 : keys.length ≤ 5 := by omega
        have e0 : (2 : Int) * (keys.length : Int) = ((2 * keys.length : Nat) : Int) := by omega
        have e1 : ((2 * keys.length : Nat) : Int) + 1 = ((2 * keys.length + 1 : Nat) : Int) := by omega
        simp -dsimp -implicitDefEqProofs (disch := (first | assumption | omega | (simp only [nats_len, List.length_map, List.length_set, List.length_replicate, List.length_append, List.length_range, upto_len, els_len, List.length_cons, List.length_nil] <;> omega) | (apply isPure_intro <;> simp))) only [go_sem, hne, hl1, hl5, e0, e1]
        generalize hn : 2 * keys.length + 1 = n at e1 ⊢
        refine W_loop (T := Nat × Hp × Nat × V) (fun t => ⟨E [(1, .sl (keys.map KV)), (2, .pp (CV c)), (7, .int .i64 (n : Int)), (8, t.2.2.2), (9, .int .i64 (t.1 : Int))], t.2.1, t.2.2.1, t.2.2.1⟩)
          (fun t => t.1 ≤ keys.length ∧ Row 0 t.2.1 t.2.2.1 t.2.2.2 4 ((rowsTo c n keys t.1).map RV) ∧ ∀ m, m < t.1 → KeyOk (keys.getD m k0))
          (fun t => keys.length - t.1) (0, _, _, .nil) rfl ⟨by dsimp only; omega, Row.nil _ _ _ _, fun m hm => absurd hm (Nat.not_lt_zero _)⟩ ?_
        rintro ⟨j, H, nx, rv⟩ ⟨j1, j4, j5⟩
        dsimp only at j1 j4 j5
        have hbad : ∀ j, j < keys.length → keyB (keys.getD j k0) = false → rowsF c keys = ([], 160) := fun j hj hb => by
          have : keys.all keyB = false := by
            rw [List.all_eq_false]
            exact ⟨keys.getD j k0, by simp [List.getD_eq_getElem?_getD, hj], by rw [hb]; decide⟩
          unfold rowsF
          rw [if_neg (by omega), if_neg (by omega), this]; rfl
        have htl := rowsTo_len c n keys j
        by_cases hj : j < keys.length
        · generalize hK : keys.getD j k0 = k
          refine W_hideB fun R hR => ?_
          simp -dsimp -implicitDefEqProofs (disch := (first | assumption | omega | (simp only [nats_len, List.length_map, List.length_set, List.length_replicate, List.length_append, List.length_range, upto_len, els_len, List.length_cons, List.length_nil] <;> omega) | (apply isPure_intro <;> simp))) only [go_sem, hK, Int.toNat_natCast]
          generalize hG : Hp.upd H (nx + 8) _ = G
          have g10 : G (nx + 8) = some ⟨[KV k], 9⟩ := upd_at_same hG
          have gR : Row 0 G (nx + 8) rv 4 ((rowsTo c n keys j).map RV) := by
            rcases j4 with h | ⟨b, b1, b2, b3, b4⟩
            · exact .inl h
            · exact .inr ⟨b, b1, b2, by omega, by rw [← hG, Hp.upd_ne _ _ (by omega)]; exact b4⟩
          clear hG
          first | refine callB_of (rout_ret _ _ _) (by simp) ?_ | refine callP_of (rout_ret _ _ _) (by simp) ?_
          by_cases o0 : outB k.p (-100000) 100000 = true
          · simp -dsimp -implicitDefEqProofs (disch := (first | assumption | omega | (simp only [nats_len, List.length_map, List.length_set, List.length_replicate, List.length_append, List.length_range, upto_len, els_len, List.length_cons, List.length_nil] <;> omega) | (apply isPure_intro <;> simp))) only [go_sem, o0]
            rw [hbad j hj (by rw [hK]; unfold keyB; simp [o0])]
            rfl
          · have o0 : outB k.p (-100000) 100000 = false := by simpa using o0
            simp -dsimp -implicitDefEqProofs (disch := (first | assumption | omega | (simp only [nats_len, List.length_map, List.length_set, List.length_replicate, List.length_append, List.length_range, upto_len, els_len, List.length_cons, List.length_nil] <;> omega) | (apply isPure_intro <;> simp))) only [go_sem, o0, g10]
            first | refine callB_of (rout_ret _ _ _) (by simp) ?_ | refine callP_of (rout_ret _ _ _) (by simp) ?_
            by_cases o1 : outB k.v (-100000) 100000 = true
            · simp -dsimp -implicitDefEqProofs (disch := (first | assumption | omega | (simp only [nats_len, List.length_map, List.length_set, List.length_replicate, List.length_append, List.length_range, upto_len, els_len, List.length_cons, List.length_nil] <;> omega) | (apply isPure_intro <;> simp))) only [go_sem, o1]
              rw [hbad j hj (by rw [hK]; unfold keyB; simp [o1])]
              rfl
            · have o1 : outB k.v (-100000) 100000 = false := by simpa using o1
              simp -dsimp -implicitDefEqProofs (disch := (first | assumption | omega | (simp only [nats_len, List.length_map, List.length_set, List.length_replicate, List.length_append, List.length_range, upto_len, els_len, List.length_cons, List.length_nil] <;> omega) | (apply isPure_intro <;> simp))) only [go_sem, o1, g10]
              first | refine callB_of (rout_ret _ _ _) (by simp) ?_ | refine callP_of (rout_ret _ _ _) (by simp) ?_
              by_cases o2 : outB k.h (-100000) 100000 = true
              · simp -dsimp -implicitDefEqProofs (disch := (first | assumption | omega | (simp only [nats_len, List.length_map, List.length_set, List.length_replicate, List.length_append, List.length_range, upto_len, els_len, List.length_cons, List.length_nil] <;> omega) | (apply isPure_intro <;> simp))) only [go_sem, o2]
                rw [hbad j hj (by rw [hK]; unfold keyB; simp [o2])]
                rfl
              · have o2 : outB k.h (-100000) 100000 = false := by simpa using o2
                simp -dsimp -implicitDefEqProofs (disch := (first | assumption | omega | (simp only [nats_len, List.length_map, List.length_set, List.length_replicate, List.length_append, List.length_range, upto_len, els_len, List.length_cons, List.length_nil] <;> omega) | (apply isPure_intro <;> simp))) only [go_sem, o2, g10]
                first | refine callB_of (rout_ret _ _ _) (by simp) ?_ | refine callP_of (rout_ret _ _ _) (by simp) ?_
                by_cases o3 : outB k.dv (-100000) 100000 = true
                · simp -dsimp -implicitDefEqProofs (disch := (first | assumption | omega | (simp only [nats_len, List.length_map, List.length_set, List.length_replicate, List.length_append, List.length_range, upto_len, els_len, List.length_cons, List.length_nil] <;> omega) | (apply isPure_intro <;> simp))) only [go_sem, o3]
                  rw [hbad j hj (by rw [hK]; unfold keyB; simp [o3])]
                  rfl
                · have o3 : outB k.dv (-100000) 100000 = false := by simpa using o3
                  simp -dsimp -implicitDefEqProofs (disch := (first | assumption | omega | (simp only [nats_len, List.length_map, List.length_set, List.length_replicate, List.length_append, List.length_range, upto_len, els_len, List.length_cons, List.length_nil] <;> omega) | (apply isPure_intro <;> simp))) only [go_sem, o3, g10]
                  first | refine callB_of (rout_ret _ _ _) (by simp) ?_ | refine callP_of (rout_ret _ _ _) (by simp) ?_
                  by_cases o4 : outB k.dp (-100000) 100000 = true
                  · simp -dsimp -implicitDefEqProofs (disch := (first | assumption | omega | (simp only [nats_len, List.length_map, List.length_set, List.length_replicate, List.length_append, List.length_range, upto_len, els_len, List.length_cons, List.length_nil] <;> omega) | (apply isPure_intro <;> simp))) only [go_sem, o4]
                    rw [hbad j hj (by rw [hK]; unfold keyB; simp [o4])]
                    rfl
                  · have o4 : outB k.dp (-100000) 100000 = false := by simpa using o4
                    by_cases ot : 1000 < k.ticks
                    · simp -dsimp -implicitDefEqProofs (disch := (first | assumption | omega | (simp only [nats_len, List.length_map, List.length_set, List.length_replicate, List.length_append, List.length_range, upto_len, els_len, List.length_cons, List.length_nil] <;> omega) | (apply isPure_intro <;> simp))) only [go_sem, o4, g10, ot]
                      rw [hbad j hj (by rw [hK]; unfold keyB; simp; intros; omega)]
                      rfl
                    · have hko : KeyOk k := ⟨outB_f.1 o0, outB_f.1 o1, outB_f.1 o2, outB_f.1 o3, outB_f.1 o4, by omega⟩
                      simp -dsimp -implicitDefEqProofs (disch := (first | assumption | omega | (simp only [nats_len, List.length_map, List.length_set, List.length_replicate, List.length_append, List.length_range, upto_len, els_len, List.length_cons, List.length_nil] <;> omega) | (apply isPure_intro <;> simp))) only [go_sem, o4, g10, ot]
                      subst hR
                      generalize hB : nx + 8 = B at g10 gR ⊢
                      have hBn : B < nx + 38 := by omega
                      have gR : Row 0 G (nx + 38) rv 4 ((rowsTo c n keys j).map RV) := gR.same (fun _ _ => rfl) (by omega)
                      clear hB
                      generalize nx + 38 = n3 at hBn gR ⊢
                      have hrt := h3.rate
                      have hbp : -100000000 ≤ c.rate * k.dp ∧ c.rate * k.dp ≤ 100000000 := by
                        have := prod_bd (a := c.rate) (b := k.dp) (A := 1000) (B := 100000) (by omega) hko.dp
                        omega
                      have f0 : (2 : Int) * (j : Int) = ((2 * j : Nat) : Int) := by omega
                      have f4 : ((2 * j : Nat) : Int) + 1 = ((2 * j + 1 : Nat) : Int) := by omega
                      have f5 : (n : Int) - 1 = ((n - 1 : Nat) : Int) := by omega
                      clear j4 hbad
                      obtain ⟨LA, hLA⟩ : ∃ L, L = rowsTo c n keys j ++ keyA c n j k := ⟨_, rfl⟩
                      refine W_cut (fun S' => ∃ H' nx' rv' e, S' = ⟨E ((1, .sl (keys.map KV)) :: (2, .pp (CV c)) :: (7, .int .i64 (n : Int)) :: (8, rv') :: (9, .int .i64 (j : Int)) :: (10, .ptr B 1 0 0) :: e), H', nx', nx'⟩ ∧ H' B = some ⟨[KV k], 9⟩ ∧ Row 0 H' nx' rv' 4 ((LA).map RV) ∧ B < nx') ?_ ?_
                      · by_cases hj0 : 0 < (j : Int)
                        · by_cases ht0 : 0 < k.ticks
                          · have f2 : ((2 * j : Nat) : Int) - 2 = ((2 * j - 2 : Nat) : Int) := by omega
                            have f3 : ((2 * j : Nat) : Int) - 1 = ((2 * j - 1 : Nat) : Int) := by omega
                            have hnr : ¬ c.rate = 0 := by omega
                            have hnt : ¬ k.ticks = 0 := by omega
                            simp -dsimp -implicitDefEqProofs (disch := (first | assumption | omega | (simp only [nats_len, List.length_map, List.length_set, List.length_replicate, List.length_append, List.length_range, upto_len, els_len, List.length_cons, List.length_nil] <;> omega) | (apply isPure_intro <;> simp))) only [go_sem, g10, hj0, ht0]
                            refine W_gh0 ?_
                            simp -dsimp -implicitDefEqProofs (disch := (first | assumption | omega | (simp only [nats_len, List.length_map, List.length_set, List.length_replicate, List.length_append, List.length_range, upto_len, els_len, List.length_cons, List.length_nil] <;> omega) | (apply isPure_intro <;> simp))) only [go_sem, g10, CV_cells, CV_isAgg, part_CV, f0, f2, f3, Int.zero_sub]
                            have hcA := r16row_ret c n 0 (c.rate * k.dp) (2 * j, c.rate) (2 * j - 2, -c.rate) (2 * j - 1, -k.ticks) (.inl rfl) (by omega) (by simp; omega)
                            rw [show nz [(2 * j, c.rate), (2 * j - 2, -c.rate), (2 * j - 1, -k.ticks)] = [(2 * j, c.rate), (2 * j - 2, -c.rate), (2 * j - 1, -k.ticks)] from by simp [nz, hnr, hnt]] at hcA
                            refine callB_of hcA (by simp) ?_
                            simp -dsimp -implicitDefEqProofs (disch := (first | assumption | omega | (simp only [nats_len, List.length_map, List.length_set, List.length_replicate, List.length_append, List.length_range, upto_len, els_len, List.length_cons, List.length_nil] <;> omega) | (apply isPure_intro <;> simp))) only [go_sem, g10, f0, CV_cells, CV_isAgg, part_CV]
                            refine effB_row gR (Nat.zero_le _) rfl (by omega) (by omega) rfl (by omega) (by simp only [List.length_map, List.length_append, List.length_cons, List.length_nil]; omega) (by simp only [List.length_map, List.length_append, List.length_cons, List.length_nil]; omega) fun vA HA rA1 rA2 rA3 rA4 => ?_
                            have gA := (rA3 B (by omega) (gR.not_box g10 (by decide))).trans g10
                            simp -dsimp -implicitDefEqProofs (disch := (first | assumption | omega | (simp only [nats_len, List.length_map, List.length_set, List.length_replicate, List.length_append, List.length_range, upto_len, els_len, List.length_cons, List.length_nil] <;> omega) | (apply isPure_intro <;> simp))) only [go_sem]
                            refine W_gh0 ?_
                            simp -dsimp -implicitDefEqProofs (disch := (first | assumption | omega | (simp only [nats_len, List.length_map, List.length_set, List.length_replicate, List.length_append, List.length_range, upto_len, els_len, List.length_cons, List.length_nil] <;> omega) | (apply isPure_intro <;> simp))) only [go_sem, gA, CV_cells, CV_isAgg, part_CV, f0, f3, f4]
                            have hcB := r16row_ret c n 0 (k.dv) (2 * j + 1, 1) (2 * j - 1, -1) (0, 0) (.inl rfl) (by omega) (by simp; omega)
                            rw [show nz [(2 * j + 1, 1), (2 * j - 1, -1), (0, 0)] = [(2 * j + 1, 1), (2 * j - 1, -1)] from by simp [nz]] at hcB
                            refine callB_of hcB (by simp) ?_
                            rw [← List.map_singleton, ← List.map_append] at rA1
                            simp -dsimp -implicitDefEqProofs (disch := (first | assumption | omega | (simp only [nats_len, List.length_map, List.length_set, List.length_replicate, List.length_append, List.length_range, upto_len, els_len, List.length_cons, List.length_nil] <;> omega) | (apply isPure_intro <;> simp))) only [go_sem, gA, f0, CV_cells, CV_isAgg, part_CV]
                            refine effB_row rA1 (Nat.zero_le _) rfl (by omega) (by omega) rfl (by omega) (by simp only [List.length_map, List.length_append, List.length_cons, List.length_nil]; omega) (by simp only [List.length_map, List.length_append, List.length_cons, List.length_nil]; omega) fun vB HB rB1 rB2 rB3 rB4 => ?_
                            have gB := (rB3 B (by omega) (rA1.not_box gA (by decide))).trans gA
                            simp -dsimp -implicitDefEqProofs (disch := (first | assumption | omega | (simp only [nats_len, List.length_map, List.length_set, List.length_replicate, List.length_append, List.length_range, upto_len, els_len, List.length_cons, List.length_nil] <;> omega) | (apply isPure_intro <;> simp))) only [go_sem]
                            have hj1 : 0 < j := by omega
                            have ht1 : 1 ≤ k.ticks := by omega
                            have rB5 := rB1.cong (show _ = (LA).map RV from by simp [hLA, keyA, has, hj1, ht1])
                            refine ⟨HB, _, vB, _, rfl, gB, rB5.same (fun _ _ => rfl) ?_, ?_⟩ <;> omega
                          · have ht1 : ¬ 1 ≤ k.ticks := by omega
                            simp -dsimp -implicitDefEqProofs (disch := (first | assumption | omega | (simp only [nats_len, List.length_map, List.length_set, List.length_replicate, List.length_append, List.length_range, upto_len, els_len, List.length_cons, List.length_nil] <;> omega) | (apply isPure_intro <;> simp))) only [go_sem, g10, hj0, ht0]
                            have rB5 := gR.cong (show _ = (LA).map RV from by simp [hLA, keyA, has, ht1])
                            refine ⟨G, _, rv, _, rfl, g10, rB5.same (fun _ _ => rfl) ?_, ?_⟩ <;> omega
                        · have hj1 : ¬ 0 < j := by omega
                          simp -dsimp -implicitDefEqProofs (disch := (first | assumption | omega | (simp only [nats_len, List.length_map, List.length_set, List.length_replicate, List.length_append, List.length_range, upto_len, els_len, List.length_cons, List.length_nil] <;> omega) | (apply isPure_intro <;> simp))) only [go_sem, g10, hj0]
                          have rB5 := gR.cong (show _ = (LA).map RV from by simp [hLA, keyA, has, hj1])
                          refine ⟨G, _, rv, _, rfl, g10, rB5.same (fun _ _ => rfl) ?_, ?_⟩ <;> omega
                      clear gR g10
                      rintro _ ⟨G, n3, rv, e, rfl, g10, gR, hBn⟩
                      have hl1 : (LA).length ≤ 27 := by rw [hLA, List.length_append]; unfold keyA has; split <;> simp <;> omega
                      obtain ⟨LC, hLC⟩ : ∃ L, L = LA ++ has k.place [rowF c n 1 k.p [(2 * j, 1)]] := ⟨_, rfl⟩
                      refine W_cut (fun S' => ∃ H' nx' rv' e, S' = ⟨E ((1, .sl (keys.map KV)) :: (2, .pp (CV c)) :: (7, .int .i64 (n : Int)) :: (8, rv') :: (9, .int .i64 (j : Int)) :: (10, .ptr B 1 0 0) :: e), H', nx', nx'⟩ ∧ H' B = some ⟨[KV k], 9⟩ ∧ Row 0 H' nx' rv' 4 ((LC).map RV) ∧ B < nx') ?_ ?_
                      · by_cases hf : k.place = true
                        · simp -dsimp -implicitDefEqProofs (disch := (first | assumption | omega | (simp only [nats_len, List.length_map, List.length_set, List.length_replicate, List.length_append, List.length_range, upto_len, els_len, List.length_cons, List.length_nil] <;> omega) | (apply isPure_intro <;> simp))) only [go_sem, g10, hf]
                          refine W_gh0 ?_
                          simp -dsimp -implicitDefEqProofs (disch := (first | assumption | omega | (simp only [nats_len, List.length_map, List.length_set, List.length_replicate, List.length_append, List.length_range, upto_len, els_len, List.length_cons, List.length_nil] <;> omega) | (apply isPure_intro <;> simp))) only [go_sem, g10, CV_cells, CV_isAgg, part_CV, f0, f4, f5]
                          have hcC := r16row_ret c n 1 (k.p) (2 * j, 1) (0, 0) (0, 0) (.inr (.inl rfl)) (by omega) (by simp; omega)
                          rw [show nz [(2 * j, 1), (0, 0), (0, 0)] = [(2 * j, 1)] from by simp [nz]] at hcC
                          refine callB_of hcC (by simp) ?_
                          simp -dsimp -implicitDefEqProofs (disch := (first | assumption | omega | (simp only [nats_len, List.length_map, List.length_set, List.length_replicate, List.length_append, List.length_range, upto_len, els_len, List.length_cons, List.length_nil] <;> omega) | (apply isPure_intro <;> simp))) only [go_sem, g10, f0, CV_cells, CV_isAgg, part_CV]
                          refine effB_row gR (Nat.zero_le _) rfl (by omega) (by omega) rfl (by omega) (by simp only [List.length_map]; omega) (by simp only [List.length_map]; omega) fun vC HC rC1 rC2 rC3 rC4 => ?_
                          have gC := (rC3 B (by omega) (gR.not_box g10 (by decide))).trans g10
                          simp -dsimp -implicitDefEqProofs (disch := (first | assumption | omega | (simp only [nats_len, List.length_map, List.length_set, List.length_replicate, List.length_append, List.length_range, upto_len, els_len, List.length_cons, List.length_nil] <;> omega) | (apply isPure_intro <;> simp))) only [go_sem]
                          have rB5 := rC1.cong (show _ = (LC).map RV from by simp [hLC, has, hf])
                          refine ⟨HC, _, vC, _, rfl, gC, rB5.same (fun _ _ => rfl) ?_, ?_⟩ <;> omega
                        · have hf : k.place = false := by simpa using hf
                          simp -dsimp -implicitDefEqProofs (disch := (first | assumption | omega | (simp only [nats_len, List.length_map, List.length_set, List.length_replicate, List.length_append, List.length_range, upto_len, els_len, List.length_cons, List.length_nil] <;> omega) | (apply isPure_intro <;> simp))) only [go_sem, g10, hf]
                          have rB5 := gR.cong (show _ = (LC).map RV from by simp [hLC, has, hf])
                          refine ⟨G, _, rv, _, rfl, g10, rB5.same (fun _ _ => rfl) ?_, ?_⟩ <;> omega
                      clear gR g10
                      rintro _ ⟨G, n3, rv, e, rfl, g10, gR, hBn⟩
                      have hl1 : (LC).length ≤ 28 := by rw [hLC, List.length_append]; unfold has; split <;> simp <;> omega
                      obtain ⟨LD, hLD⟩ : ∃ L, L = LC ++ has k.speed [rowF c n 1 k.v [(2 * j + 1, 1)]] := ⟨_, rfl⟩
                      refine W_cut (fun S' => ∃ H' nx' rv' e, S' = ⟨E ((1, .sl (keys.map KV)) :: (2, .pp (CV c)) :: (7, .int .i64 (n : Int)) :: (8, rv') :: (9, .int .i64 (j : Int)) :: (10, .ptr B 1 0 0) :: e), H', nx', nx'⟩ ∧ H' B = some ⟨[KV k], 9⟩ ∧ Row 0 H' nx' rv' 4 ((LD).map RV) ∧ B < nx') ?_ ?_
                      · by_cases hf : k.speed = true
                        · simp -dsimp -implicitDefEqProofs (disch := (first | assumption | omega | (simp only [nats_len, List.length_map, List.length_set, List.length_replicate, List.length_append, List.length_range, upto_len, els_len, List.length_cons, List.length_nil] <;> omega) | (apply isPure_intro <;> simp))) only [go_sem, g10, hf]
                          refine W_gh0 ?_
                          simp -dsimp -implicitDefEqProofs (disch := (first | assumption | omega | (simp only [nats_len, List.length_map, List.length_set, List.length_replicate, List.length_append, List.length_range, upto_len, els_len, List.length_cons, List.length_nil] <;> omega) | (apply isPure_intro <;> simp))) only [go_sem, g10, CV_cells, CV_isAgg, part_CV, f0, f4, f5]
                          have hcD := r16row_ret c n 1 (k.v) (2 * j + 1, 1) (0, 0) (0, 0) (.inr (.inl rfl)) (by omega) (by simp; omega)
                          rw [show nz [(2 * j + 1, 1), (0, 0), (0, 0)] = [(2 * j + 1, 1)] from by simp [nz]] at hcD
                          refine callB_of hcD (by simp) ?_
                          simp -dsimp -implicitDefEqProofs (disch := (first | assumption | omega | (simp only [nats_len, List.length_map, List.length_set, List.length_replicate, List.length_append, List.length_range, upto_len, els_len, List.length_cons, List.length_nil] <;> omega) | (apply isPure_intro <;> simp))) only [go_sem, g10, f0, CV_cells, CV_isAgg, part_CV]
                          refine effB_row gR (Nat.zero_le _) rfl (by omega) (by omega) rfl (by omega) (by simp only [List.length_map]; omega) (by simp only [List.length_map]; omega) fun vD HD rD1 rD2 rD3 rD4 => ?_
                          have gD := (rD3 B (by omega) (gR.not_box g10 (by decide))).trans g10
                          simp -dsimp -implicitDefEqProofs (disch := (first | assumption | omega | (simp only [nats_len, List.length_map, List.length_set, List.length_replicate, List.length_append, List.length_range, upto_len, els_len, List.length_cons, List.length_nil] <;> omega) | (apply isPure_intro <;> simp))) only [go_sem]
                          have rB5 := rD1.cong (show _ = (LD).map RV from by simp [hLD, has, hf])
                          refine ⟨HD, _, vD, _, rfl, gD, rB5.same (fun _ _ => rfl) ?_, ?_⟩ <;> omega
                        · have hf : k.speed = false := by simpa using hf
                          simp -dsimp -implicitDefEqProofs (disch := (first | assumption | omega | (simp only [nats_len, List.length_map, List.length_set, List.length_replicate, List.length_append, List.length_range, upto_len, els_len, List.length_cons, List.length_nil] <;> omega) | (apply isPure_intro <;> simp))) only [go_sem, g10, hf]
                          have rB5 := gR.cong (show _ = (LD).map RV from by simp [hLD, has, hf])
                          refine ⟨G, _, rv, _, rfl, g10, rB5.same (fun _ _ => rfl) ?_, ?_⟩ <;> omega
                      clear gR g10
                      rintro _ ⟨G, n3, rv, e, rfl, g10, gR, hBn⟩
                      have hl1 : (LD).length ≤ 29 := by rw [hLD, List.length_append]; unfold has; split <;> simp <;> omega
                      have hok : ∀ q, q < j + 1 → KeyOk (keys.getD q k0) := fun q hq => by
                        by_cases hqm : q < j
                        · exact j5 q hqm
                        · obtain rfl : q = j := by omega
                          rw [hK]; exact hko
                      obtain ⟨LE, hLE⟩ : ∃ L, L = LD ++ has k.height [rowF c n 2 k.h [(2 * j, 1), (n - 1, 1)]] := ⟨_, rfl⟩
                      by_cases hf : k.height = true
                      · simp -dsimp -implicitDefEqProofs (disch := (first | assumption | omega | (simp only [nats_len, List.length_map, List.length_set, List.length_replicate, List.length_append, List.length_range, upto_len, els_len, List.length_cons, List.length_nil] <;> omega) | (apply isPure_intro <;> simp))) only [go_sem, g10, hf]
                        refine W_gh0 ?_
                        simp -dsimp -implicitDefEqProofs (disch := (first | assumption | omega | (simp only [nats_len, List.length_map, List.length_set, List.length_replicate, List.length_append, List.length_range, upto_len, els_len, List.length_cons, List.length_nil] <;> omega) | (apply isPure_intro <;> simp))) only [go_sem, g10, CV_cells, CV_isAgg, part_CV, f0, f4, f5]
                        have hcE := r16row_ret c n 2 (k.h) (2 * j, 1) (n - 1, 1) (0, 0) (.inr (.inr (.inl rfl))) (by omega) (by simp; omega)
                        rw [show nz [(2 * j, 1), (n - 1, 1), (0, 0)] = [(2 * j, 1), (n - 1, 1)] from by simp [nz]] at hcE
                        refine callB_of hcE (by simp) ?_
                        simp -dsimp -implicitDefEqProofs (disch := (first | assumption | omega | (simp only [nats_len, List.length_map, List.length_set, List.length_replicate, List.length_append, List.length_range, upto_len, els_len, List.length_cons, List.length_nil] <;> omega) | (apply isPure_intro <;> simp))) only [go_sem, g10, f0, CV_cells, CV_isAgg, part_CV]
                        refine effB_row gR (Nat.zero_le _) rfl (by omega) (by omega) rfl (by omega) (by simp only [List.length_map]; omega) (by simp only [List.length_map]; omega) fun vE HE rE1 rE2 rE3 rE4 => ?_
                        have gE := (rE3 B (by omega) (gR.not_box g10 (by decide))).trans g10
                        simp -dsimp -implicitDefEqProofs (disch := (first | assumption | omega | (simp only [nats_len, List.length_map, List.length_set, List.length_replicate, List.length_append, List.length_range, upto_len, els_len, List.length_cons, List.length_nil] <;> omega) | (apply isPure_intro <;> simp))) only [go_sem]
                        have rB5 := rE1.cong (show _ = (LE).map RV from by simp [hLE, has, hf])
                        exact ⟨(j + 1, HE, _, vE), rfl, ⟨by dsimp only; omega, by dsimp only; rw [rowsTo, hK, keyRows, ← List.append_assoc, ← List.append_assoc, ← List.append_assoc, ← hLA, ← hLC, ← hLD, ← hLE]; exact rB5.same (fun _ _ => rfl) (by first | omega | (dsimp only; omega)), hok⟩, by dsimp only; omega⟩
                      · have hf : k.height = false := by simpa using hf
                        simp -dsimp -implicitDefEqProofs (disch := (first | assumption | omega | (simp only [nats_len, List.length_map, List.length_set, List.length_replicate, List.length_append, List.length_range, upto_len, els_len, List.length_cons, List.length_nil] <;> omega) | (apply isPure_intro <;> simp))) only [go_sem, g10, hf]
                        have rB5 := gR.cong (show _ = (LE).map RV from by simp [hLE, has, hf])
                        exact ⟨(j + 1, G, _, rv), rfl, ⟨by dsimp only; omega, by dsimp only; rw [rowsTo, hK, keyRows, ← List.append_assoc, ← List.append_assoc, ← List.append_assoc, ← hLA, ← hLC, ← hLD, ← hLE]; exact rB5.same (fun _ _ => rfl) (by first | omega | (dsimp only; omega)), hok⟩, by dsimp only; omega⟩
        · obtain rfl : j = keys.length := by omega
          simp -dsimp -implicitDefEqProofs (disch := (first | assumption | omega | (simp only [nats_len, List.length_map, List.length_set, List.length_replicate, List.length_append, List.length_range, upto_len, els_len, List.length_cons, List.length_nil] <;> omega) | (apply isPure_intro <;> simp))) only [go_sem]
          refine W_gh0 ?_
          have f5 : (n : Int) - 1 = ((n - 1 : Nat) : Int) := by omega
          simp -dsimp -implicitDefEqProofs (disch := (first | assumption | omega | (simp only [nats_len, List.length_map, List.length_set, List.length_replicate, List.length_append, List.length_range, upto_len, els_len, List.length_cons, List.length_nil] <;> omega) | (apply isPure_intro <;> simp))) only [go_sem, CV_cells, CV_isAgg, part_CV, f5]
          have hcF := r16row_ret c n 3 0 (n - 1, 1) (0, 0) (0, 0) (.inr (.inr (.inr rfl))) (by omega) (by simp; omega)
          rw [show nz [(n - 1, 1), (0, 0), (0, 0)] = [(n - 1, 1)] from by simp [nz]] at hcF
          refine callB_of hcF (by simp) ?_
          simp -dsimp -implicitDefEqProofs (disch := (first | assumption | omega | (simp only [nats_len, List.length_map, List.length_set, List.length_replicate, List.length_append, List.length_range, upto_len, els_len, List.length_cons, List.length_nil] <;> omega) | (apply isPure_intro <;> simp))) only [go_sem]
          refine effB_row j4 (Nat.zero_le _) rfl (by omega) (by omega) rfl (by omega) (by simp only [List.length_map]; omega) (by simp only [List.length_map]; omega) fun v4 H4 r1 r2 r3 r4 => ?_
          have hall : keys.all keyB = true := by
            rw [List.all_eq_true]
            intro k hk
            obtain ⟨m, hm, rfl⟩ := List.mem_iff_getElem.1 hk
            have := keyB_iff.2 (j5 m hm)
            simpa [List.getD_eq_getElem?_getD, hm] using this
          have hrw : rowsF c keys = (allRows c keys, 0) := by
            unfold rowsF
            rw [if_neg (by omega), if_neg (by omega), if_pos hall]
          have r5 := r1.cong (show _ = (allRows c keys).map RV from by subst hn; simp [allRows])
          simp -dsimp -implicitDefEqProofs (disch := (first | assumption | omega | (simp only [nats_len, List.length_map, List.length_set, List.length_replicate, List.length_append, List.length_range, upto_len, els_len, List.length_cons, List.length_nil] <;> omega) | (apply isPure_intro <;> simp))) only [go_sem]
          rw [hrw, r5.frz (n := 7) (frz_map fun x => rfl)]
          rfl
  · have hne : binV .neq (.str (chk c).1) (.str ⟨#[]⟩) = some (.bool true) := by
      have : ¬ (chk c).1.toList = (⟨#[]⟩ : ByteArray).toList := fun h => h2 (by
        rw [toList_data, toList_data] at h
        generalize (chk c).1 = b at h
        obtain ⟨⟨l⟩⟩ := b
        have h : l = [] := h
        rw [h])
      simp only [binV, strV, this, decide_false, Bool.not_false]
    simp -dsimp -implicitDefEqProofs (disch := (first | assumption | omega | (simp only [nats_len, List.length_map, List.length_set, List.length_replicate, List.length_append, List.length_range, upto_len, els_len, List.length_cons, List.length_nil] <;> omega) | (apply isPure_intro <;> simp))) only [go_sem, hne]
    simp [rowsF, h1]
end Go.Gim

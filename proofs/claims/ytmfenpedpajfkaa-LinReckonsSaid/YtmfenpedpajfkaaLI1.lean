import Derived.Test.YtmfenpedpajfkaaL1
import Derived.Test.YtmfenpedpajfkaaM2
import Derived.Test.YtmfenpedpajfkaaGL
/- Whole numbers of any size: their parts, sums, differences, products. -/
set_option maxRecDepth 100000
set_option linter.unusedSimpArgs false
set_option linter.unusedVariables false
namespace Go.Gim
open Go.Proofs
def IV (x : Int) : V := .agg [.bool (decide (x < 0)), .sl (nats .u32 (digs W32 x.natAbs))]
theorem IV_sg (b : Bool) (n : Nat) : IV (sg b n) = .agg [.bool (b && decide (0 < n)), .sl (nats .u32 (digs W32 n))] := by
  unfold IV
  rw [sg_abs]
  congr 3
  unfold sg
  cases b <;> simp <;> omega
@[simp] theorem IV_pure (x : Int) : (IV x).Pure := by simp [IV]
theorem made_ret (b : Bool) (l : List Nat) (hl : ∀ x ∈ l, x < W32) (hs : l.length ≤ 35184372088832) : Ret pg n_long_made [.bool b, .sl (nats .u32 l)] (IV (sg b (val W32 l))) := by
  refine long_made.of rfl (W_b ?_)
  unfold long_made.k long_made.res
  simp -dsimp -implicitDefEqProofs (disch := (first | omega | (simp only [nats_len, List.length_set, List.length_replicate, List.length_append, List.length_take, List.length_drop, List.length_map, List.length_cons, List.length_nil] <;> omega) | (apply isPure_intro <;> simp))) only [go_sem, IntWalk.i64_in, wu64, wu32, wu8, Nat.mod_eq_of_lt, shr32, shr63, shl32, or32, quo64, quo32, quoi64, remk, quo32_10, rem32_10, quoi_10, remi_10, nat_48add, Nat.add_assoc, add_ne_self, lt_ne, gt_ne, add_inj, dlt_t, dlt_f, dle_t, dle_f, deq_t, deq_f, idxB_nats, idxO_f, idxO_t, loadO_natf, loadO_natt, storeO_nat, storeO_natn, newB_mkn, effV_cpy, cpyO_nat, upd_upd, nats_len, List.length_set, ge_iff_le, gt_iff_lt, Int.toNat_natCast, nat_sub1, nat_sub, nat_add1, nat_add, nat_mul, slc3_pos, slc3_zero, slc_to, nats_take, nats_drop, boxB_eq]
  refine W_loop (T := Nat × Nat) (fun t => ⟨E [(0, .bool b), (1, .sl (nats .u32 l)), (4, .ptr 0 1 0 0), (5, .int .i64 t.1)], Hp.upd (fun _ => none) 0 (some ⟨[.agg [.bool false, .nil]], 2⟩), t.2, t.2⟩) (fun t => 0 < t.2 ∧ t.1 ≤ l.length ∧ ∀ i, t.1 ≤ i → (hi : i < l.length) → l[i] = 0) (fun t => t.1) (l.length, 4) rfl ⟨by omega, by omega, fun i h1 h2 => by omega⟩ ?_
  rintro ⟨n, nx⟩ ⟨h0, h1, h2⟩
  dsimp only at h0 h1 h2
  by_cases hn : 0 < n
  · have hg : ∀ i (hi : i < l.length), l.getD i 0 = l[i] := fun i hi => by simp [List.getD_eq_getElem?_getD, hi]
    by_cases hz : l.getD (n - 1) 0 = 0
    · simp -dsimp -implicitDefEqProofs (disch := (first | omega | (simp only [nats_len, List.length_set, List.length_replicate, List.length_append, List.length_take, List.length_drop, List.length_map, List.length_cons, List.length_nil] <;> omega) | (apply isPure_intro <;> simp))) only [go_sem, IntWalk.i64_in, wu64, wu32, wu8, Nat.mod_eq_of_lt, shr32, shr63, shl32, or32, quo64, quo32, quoi64, remk, quo32_10, rem32_10, quoi_10, remi_10, nat_48add, Nat.add_assoc, add_ne_self, lt_ne, gt_ne, add_inj, dlt_t, dlt_f, dle_t, dle_f, deq_t, deq_f, idxB_nats, idxO_f, idxO_t, loadO_natf, loadO_natt, storeO_nat, storeO_natn, newB_mkn, effV_cpy, cpyO_nat, upd_upd, nats_len, List.length_set, ge_iff_le, gt_iff_lt, Int.toNat_natCast, nat_sub1, nat_sub, nat_add1, nat_add, nat_mul, slc3_pos, slc3_zero, slc_to, nats_take, nats_drop, boxB_eq]
      refine ⟨(n - 1, _), rfl, ⟨by omega, by dsimp only; omega, fun i h3 h4 => ?_⟩, by dsimp only; omega⟩
      dsimp only at h3
      by_cases hi : i = n - 1
      · subst hi; rw [← hg]; exact hz
      · exact h2 i (by omega) h4
    · have hd := made_digs w2 hl h1 h2 (fun _ => by rw [← hg]; exact hz)
      have hp : 0 < val W32 l := by
        rcases Nat.eq_zero_or_pos (val W32 l) with h | h
        · rw [h, digs_zero] at hd
          have := congrArg List.length hd
          rw [List.length_take] at this; simp only [List.length_nil] at this; omega
        · exact h
      cases b <;> simp -dsimp -implicitDefEqProofs (disch := (first | omega | (simp only [nats_len, List.length_set, List.length_replicate, List.length_append, List.length_take, List.length_drop, List.length_map, List.length_cons, List.length_nil] <;> omega) | (apply isPure_intro <;> simp))) only [go_sem, IntWalk.i64_in, wu64, wu32, wu8, Nat.mod_eq_of_lt, shr32, shr63, shl32, or32, quo64, quo32, quoi64, remk, quo32_10, rem32_10, quoi_10, remi_10, nat_48add, Nat.add_assoc, add_ne_self, lt_ne, gt_ne, add_inj, dlt_t, dlt_f, dle_t, dle_f, deq_t, deq_f, idxB_nats, idxO_f, idxO_t, loadO_natf, loadO_natt, storeO_nat, storeO_natn, newB_mkn, effV_cpy, cpyO_nat, upd_upd, nats_len, List.length_set, ge_iff_le, gt_iff_lt, Int.toNat_natCast, nat_sub1, nat_sub, nat_add1, nat_add, nat_mul, slc3_pos, slc3_zero, slc_to, nats_take, nats_drop, boxB_eq, IV_sg, hd] <;> simp [hp]
  · have hd := made_digs w2 hl h1 h2 (fun h => by omega)
    have hn0 : n = 0 := by omega
    subst hn0
    have hv : val W32 l = 0 := by
      refine (digs_nil w2).1 ?_
      rw [← hd]; rfl
    cases b <;> simp -dsimp -implicitDefEqProofs (disch := (first | omega | (simp only [nats_len, List.length_set, List.length_replicate, List.length_append, List.length_take, List.length_drop, List.length_map, List.length_cons, List.length_nil] <;> omega) | (apply isPure_intro <;> simp))) only [go_sem, IntWalk.i64_in, wu64, wu32, wu8, Nat.mod_eq_of_lt, shr32, shr63, shl32, or32, quo64, quo32, quoi64, remk, quo32_10, rem32_10, quoi_10, remi_10, nat_48add, Nat.add_assoc, add_ne_self, lt_ne, gt_ne, add_inj, dlt_t, dlt_f, dle_t, dle_f, deq_t, deq_f, idxB_nats, idxO_f, idxO_t, loadO_natf, loadO_natt, storeO_nat, storeO_natn, newB_mkn, effV_cpy, cpyO_nat, upd_upd, nats_len, List.length_set, ge_iff_le, gt_iff_lt, Int.toNat_natCast, nat_sub1, nat_sub, nat_add1, nat_add, nat_mul, slc3_pos, slc3_zero, slc_to, nats_take, nats_drop, boxB_eq, IV_sg, hv, digs_zero] <;> simp [nats]
theorem IV_cells (x : Int) : (IV x).cells = [.bool (decide (x < 0)), .sl (nats .u32 (digs W32 x.natAbs))] := rfl
theorem IV_isAgg (x : Int) : (IV x).isAgg = true := rfl
@[simp] theorem IV_isJunk (x : Int) : (IV x).isJunk = false := rfl
theorem frz_IV (H : Hp) (n : Nat) (x : Int) : frz H (n + 2) (IV x) = some (IV x) := rfl
theorem part_IV (x : Int) : V.part (IV x) 0 2 true = some (IV x) := rfl
theorem sub_IV (g) (x : Int) : V.sub g (IV x) = IV x := sub_pure g (IV_pure x)
theorem of_ret (n : Int) (h : -9223372036854775808 ≤ n ∧ n ≤ 9223372036854775807) : Ret pg n_long_Of [.int .i64 n] (IV n) := by
  refine long_Of.of rfl (W_b ?_)
  unfold long_Of.k long_Of.res
  have key : (val W32 [n.natAbs % 4294967296, n.natAbs / 4294967296]) = n.natAbs := by
    have h2 : n.natAbs < 18446744073709551616 := by omega
    show n.natAbs % 4294967296 + 4294967296 * (n.natAbs / 4294967296 + 4294967296 * 0) = n.natAbs
    omega
  have sgn : sg (decide (n < 0)) n.natAbs = n := by unfold sg; split <;> simp_all <;> omega
  have p1 : (2 : Int) ^ min 32 64 = 4294967296 := by decide
  have hm := made_ret (decide (n < 0)) [n.natAbs % 4294967296, n.natAbs / 4294967296] (by
    intro x hx
    show x < 4294967296
    simp at hx
    rcases hx with rfl | rfl
    · exact Nat.mod_lt _ (by decide)
    · omega) (by simp)
  rw [key, sgn] at hm
  by_cases hn : n < 0
  · have e1 : IntKind.u64.wrap n = n + 18446744073709551616 := by simp [IntKind.wrap, IntKind.bits, IntKind.signed]; omega
    have e2 : IntKind.u64.wrap (0 - (n + 18446744073709551616)) = -n := by simp [IntKind.wrap, IntKind.bits, IntKind.signed]; omega
    have e3 : IntKind.u32.wrap (-n) = ((n.natAbs % 4294967296 : Nat) : Int) := by rw [IntKind.wrap_u32]; omega
    have e4 : IntKind.u32.wrap ((-n).fdiv 4294967296) = ((n.natAbs / 4294967296 : Nat) : Int) := by rw [IntKind.wrap_u32, Int.fdiv_eq_ediv_of_nonneg _ (by omega)]; omega
    rw [dlt_t hn] at hm
    simp -dsimp -implicitDefEqProofs (disch := (first | omega | (simp only [nats_len, List.length_set, List.length_replicate, List.length_append, List.length_take, List.length_drop, List.length_map, List.length_cons, List.length_nil] <;> omega) | (apply isPure_intro <;> simp))) only [go_sem, IntWalk.i64_in, wu64, wu32, wu8, Nat.mod_eq_of_lt, shr32, shr63, shl32, or32, quo64, quo32, quoi64, remk, quo32_10, rem32_10, quoi_10, remi_10, nat_48add, Nat.add_assoc, add_ne_self, lt_ne, gt_ne, add_inj, dlt_t, dlt_f, dle_t, dle_f, deq_t, deq_f, idxB_nats, idxO_f, idxO_t, loadO_natf, loadO_natt, storeO_nat, storeO_natn, newB_mkn, effV_cpy, cpyO_nat, upd_upd, nats_len, List.length_set, ge_iff_le, gt_iff_lt, Int.toNat_natCast, nat_sub1, nat_sub, nat_add1, nat_add, nat_mul, slc3_pos, slc3_zero, slc_to, nats_take, nats_drop, boxB_eq, IV_cells, IV_isAgg, IV_isJunk, frz_IV, part_IV, nats_frz, e1, e2, p1, e3, e4, shiftV]
    refine callB_fr1 16 (nats .u32 [n.natAbs % 4294967296, n.natAbs / 4294967296]) rfl nats_pure (by simp [V.sub, fz1, nats_len, sub_IV, sub_agg]) hm (by simp) ?_
    simp -dsimp -implicitDefEqProofs (disch := (first | omega | (simp only [nats_len, List.length_set, List.length_replicate, List.length_append, List.length_take, List.length_drop, List.length_map, List.length_cons, List.length_nil] <;> omega) | (apply isPure_intro <;> simp))) only [go_sem, IntWalk.i64_in, wu64, wu32, wu8, Nat.mod_eq_of_lt, shr32, shr63, shl32, or32, quo64, quo32, quoi64, remk, quo32_10, rem32_10, quoi_10, remi_10, nat_48add, Nat.add_assoc, add_ne_self, lt_ne, gt_ne, add_inj, dlt_t, dlt_f, dle_t, dle_f, deq_t, deq_f, idxB_nats, idxO_f, idxO_t, loadO_natf, loadO_natt, storeO_nat, storeO_natn, newB_mkn, effV_cpy, cpyO_nat, upd_upd, nats_len, List.length_set, ge_iff_le, gt_iff_lt, Int.toNat_natCast, nat_sub1, nat_sub, nat_add1, nat_add, nat_mul, slc3_pos, slc3_zero, slc_to, nats_take, nats_drop, boxB_eq, IV_cells, IV_isAgg, IV_isJunk, frz_IV, part_IV, nats_frz]
  · have e1 : IntKind.u64.wrap n = n := by simp [IntKind.wrap, IntKind.bits, IntKind.signed]; omega
    have e3 : IntKind.u32.wrap n = ((n.natAbs % 4294967296 : Nat) : Int) := by rw [IntKind.wrap_u32]; omega
    have e4 : IntKind.u32.wrap (n.fdiv 4294967296) = ((n.natAbs / 4294967296 : Nat) : Int) := by rw [IntKind.wrap_u32, Int.fdiv_eq_ediv_of_nonneg _ (by omega)]; omega
    rw [dlt_f (by omega)] at hm
    simp -dsimp -implicitDefEqProofs (disch := (first | omega | (simp only [nats_len, List.length_set, List.length_replicate, List.length_append, List.length_take, List.length_drop, List.length_map, List.length_cons, List.length_nil] <;> omega) | (apply isPure_intro <;> simp))) only [go_sem, IntWalk.i64_in, wu64, wu32, wu8, Nat.mod_eq_of_lt, shr32, shr63, shl32, or32, quo64, quo32, quoi64, remk, quo32_10, rem32_10, quoi_10, remi_10, nat_48add, Nat.add_assoc, add_ne_self, lt_ne, gt_ne, add_inj, dlt_t, dlt_f, dle_t, dle_f, deq_t, deq_f, idxB_nats, idxO_f, idxO_t, loadO_natf, loadO_natt, storeO_nat, storeO_natn, newB_mkn, effV_cpy, cpyO_nat, upd_upd, nats_len, List.length_set, ge_iff_le, gt_iff_lt, Int.toNat_natCast, nat_sub1, nat_sub, nat_add1, nat_add, nat_mul, slc3_pos, slc3_zero, slc_to, nats_take, nats_drop, boxB_eq, IV_cells, IV_isAgg, IV_isJunk, frz_IV, part_IV, nats_frz, e1, p1, e3, e4, shiftV]
    refine callB_fr1 13 (nats .u32 [n.natAbs % 4294967296, n.natAbs / 4294967296]) rfl nats_pure (by simp [V.sub, fz1, nats_len, sub_IV, sub_agg]) hm (by simp) ?_
    simp -dsimp -implicitDefEqProofs (disch := (first | omega | (simp only [nats_len, List.length_set, List.length_replicate, List.length_append, List.length_take, List.length_drop, List.length_map, List.length_cons, List.length_nil] <;> omega) | (apply isPure_intro <;> simp))) only [go_sem, IntWalk.i64_in, wu64, wu32, wu8, Nat.mod_eq_of_lt, shr32, shr63, shl32, or32, quo64, quo32, quoi64, remk, quo32_10, rem32_10, quoi_10, remi_10, nat_48add, Nat.add_assoc, add_ne_self, lt_ne, gt_ne, add_inj, dlt_t, dlt_f, dle_t, dle_f, deq_t, deq_f, idxB_nats, idxO_f, idxO_t, loadO_natf, loadO_natt, storeO_nat, storeO_natn, newB_mkn, effV_cpy, cpyO_nat, upd_upd, nats_len, List.length_set, ge_iff_le, gt_iff_lt, Int.toNat_natCast, nat_sub1, nat_sub, nat_add1, nat_add, nat_mul, slc3_pos, slc3_zero, slc_to, nats_take, nats_drop, boxB_eq, IV_cells, IV_isAgg, IV_isJunk, frz_IV, part_IV, nats_frz]
theorem sign_ret (x : Int) (hs : lim x ≤ 35184372088832) : Ret pg n_long_Int_Sign [IV x] (.int .i64 x.sign) := by
  refine long_Int_Sign.of rfl (W_b ?_)
  unfold long_Int_Sign.k long_Int_Sign.res
  simp -dsimp -implicitDefEqProofs (disch := (first | omega | (simp only [nats_len, List.length_set, List.length_replicate, List.length_append, List.length_take, List.length_drop, List.length_map, List.length_cons, List.length_nil] <;> omega) | (apply isPure_intro <;> simp))) only [go_sem, IntWalk.i64_in, wu64, wu32, wu8, Nat.mod_eq_of_lt, shr32, shr63, shl32, or32, quo64, quo32, quoi64, remk, quo32_10, rem32_10, quoi_10, remi_10, nat_48add, Nat.add_assoc, add_ne_self, lt_ne, gt_ne, add_inj, dlt_t, dlt_f, dle_t, dle_f, deq_t, deq_f, idxB_nats, idxO_f, idxO_t, loadO_natf, loadO_natt, storeO_nat, storeO_natn, newB_mkn, effV_cpy, cpyO_nat, upd_upd, nats_len, List.length_set, ge_iff_le, gt_iff_lt, Int.toNat_natCast, nat_sub1, nat_sub, nat_add1, nat_add, nat_mul, slc3_pos, slc3_zero, slc_to, nats_take, nats_drop, boxB_eq, IV_cells, IV_isAgg, IV_isJunk, frz_IV, part_IV, nats_frz]
  unfold lim at hs
  by_cases h0 : x = 0
  · subst h0
    simp -dsimp -implicitDefEqProofs (disch := (first | omega | (simp only [nats_len, List.length_set, List.length_replicate, List.length_append, List.length_take, List.length_drop, List.length_map, List.length_cons, List.length_nil] <;> omega) | (apply isPure_intro <;> simp))) only [go_sem, IntWalk.i64_in, wu64, wu32, wu8, Nat.mod_eq_of_lt, shr32, shr63, shl32, or32, quo64, quo32, quoi64, remk, quo32_10, rem32_10, quoi_10, remi_10, nat_48add, Nat.add_assoc, add_ne_self, lt_ne, gt_ne, add_inj, dlt_t, dlt_f, dle_t, dle_f, deq_t, deq_f, idxB_nats, idxO_f, idxO_t, loadO_natf, loadO_natt, storeO_nat, storeO_natn, newB_mkn, effV_cpy, cpyO_nat, upd_upd, nats_len, List.length_set, ge_iff_le, gt_iff_lt, Int.toNat_natCast, nat_sub1, nat_sub, nat_add1, nat_add, nat_mul, slc3_pos, slc3_zero, slc_to, nats_take, nats_drop, boxB_eq, IV_cells, IV_isAgg, IV_isJunk, frz_IV, part_IV, nats_frz, Int.natAbs_zero, digs_zero, Int.sign_zero]
  · have : (digs W32 x.natAbs).length ≠ 0 := by rw [digs_pos w2 (by omega)]; simp
    by_cases hn : x < 0
    · simp -dsimp -implicitDefEqProofs (disch := (first | omega | (simp only [nats_len, List.length_set, List.length_replicate, List.length_append, List.length_take, List.length_drop, List.length_map, List.length_cons, List.length_nil] <;> omega) | (apply isPure_intro <;> simp))) only [go_sem, IntWalk.i64_in, wu64, wu32, wu8, Nat.mod_eq_of_lt, shr32, shr63, shl32, or32, quo64, quo32, quoi64, remk, quo32_10, rem32_10, quoi_10, remi_10, nat_48add, Nat.add_assoc, add_ne_self, lt_ne, gt_ne, add_inj, dlt_t, dlt_f, dle_t, dle_f, deq_t, deq_f, idxB_nats, idxO_f, idxO_t, loadO_natf, loadO_natt, storeO_nat, storeO_natn, newB_mkn, effV_cpy, cpyO_nat, upd_upd, nats_len, List.length_set, ge_iff_le, gt_iff_lt, Int.toNat_natCast, nat_sub1, nat_sub, nat_add1, nat_add, nat_mul, slc3_pos, slc3_zero, slc_to, nats_take, nats_drop, boxB_eq, IV_cells, IV_isAgg, IV_isJunk, frz_IV, part_IV, nats_frz, Int.sign_eq_neg_one_of_neg hn]
    · simp -dsimp -implicitDefEqProofs (disch := (first | omega | (simp only [nats_len, List.length_set, List.length_replicate, List.length_append, List.length_take, List.length_drop, List.length_map, List.length_cons, List.length_nil] <;> omega) | (apply isPure_intro <;> simp))) only [go_sem, IntWalk.i64_in, wu64, wu32, wu8, Nat.mod_eq_of_lt, shr32, shr63, shl32, or32, quo64, quo32, quoi64, remk, quo32_10, rem32_10, quoi_10, remi_10, nat_48add, Nat.add_assoc, add_ne_self, lt_ne, gt_ne, add_inj, dlt_t, dlt_f, dle_t, dle_f, deq_t, deq_f, idxB_nats, idxO_f, idxO_t, loadO_natf, loadO_natt, storeO_nat, storeO_natn, newB_mkn, effV_cpy, cpyO_nat, upd_upd, nats_len, List.length_set, ge_iff_le, gt_iff_lt, Int.toNat_natCast, nat_sub1, nat_sub, nat_add1, nat_add, nat_mul, slc3_pos, slc3_zero, slc_to, nats_take, nats_drop, boxB_eq, IV_cells, IV_isAgg, IV_isJunk, frz_IV, part_IV, nats_frz, Int.sign_eq_one_of_pos (show 0 < x by omega)]
theorem neg_ret (x : Int) (hs : lim x ≤ 35184372088832) : Ret pg n_long_Int_Neg [IV x] (IV (-x)) := by
  refine long_Int_Neg.of rfl (W_b ?_)
  unfold long_Int_Neg.k long_Int_Neg.res
  simp -dsimp -implicitDefEqProofs (disch := (first | omega | (simp only [nats_len, List.length_set, List.length_replicate, List.length_append, List.length_take, List.length_drop, List.length_map, List.length_cons, List.length_nil] <;> omega) | (apply isPure_intro <;> simp))) only [go_sem, IntWalk.i64_in, wu64, wu32, wu8, Nat.mod_eq_of_lt, shr32, shr63, shl32, or32, quo64, quo32, quoi64, remk, quo32_10, rem32_10, quoi_10, remi_10, nat_48add, Nat.add_assoc, add_ne_self, lt_ne, gt_ne, add_inj, dlt_t, dlt_f, dle_t, dle_f, deq_t, deq_f, idxB_nats, idxO_f, idxO_t, loadO_natf, loadO_natt, storeO_nat, storeO_natn, newB_mkn, effV_cpy, cpyO_nat, upd_upd, nats_len, List.length_set, ge_iff_le, gt_iff_lt, Int.toNat_natCast, nat_sub1, nat_sub, nat_add1, nat_add, nat_mul, slc3_pos, slc3_zero, slc_to, nats_take, nats_drop, boxB_eq, IV_cells, IV_isAgg, IV_isJunk, frz_IV, part_IV, nats_frz]
  have hm := made_ret (!decide (x < 0)) (digs W32 x.natAbs) (digs_lt w2 _) hs
  rw [val_digs w2, show sg (!decide (x < 0)) x.natAbs = -x by unfold sg; split <;> simp_all <;> omega] at hm
  refine callB_of hm (by simp) ?_
  simp -dsimp -implicitDefEqProofs (disch := (first | omega | (simp only [nats_len, List.length_set, List.length_replicate, List.length_append, List.length_take, List.length_drop, List.length_map, List.length_cons, List.length_nil] <;> omega) | (apply isPure_intro <;> simp))) only [go_sem, IntWalk.i64_in, wu64, wu32, wu8, Nat.mod_eq_of_lt, shr32, shr63, shl32, or32, quo64, quo32, quoi64, remk, quo32_10, rem32_10, quoi_10, remi_10, nat_48add, Nat.add_assoc, add_ne_self, lt_ne, gt_ne, add_inj, dlt_t, dlt_f, dle_t, dle_f, deq_t, deq_f, idxB_nats, idxO_f, idxO_t, loadO_natf, loadO_natt, storeO_nat, storeO_natn, newB_mkn, effV_cpy, cpyO_nat, upd_upd, nats_len, List.length_set, ge_iff_le, gt_iff_lt, Int.toNat_natCast, nat_sub1, nat_sub, nat_add1, nat_add, nat_mul, slc3_pos, slc3_zero, slc_to, nats_take, nats_drop, boxB_eq, IV_cells, IV_isAgg, IV_isJunk, frz_IV, part_IV, nats_frz]
theorem cmp_ret (x y : Nat) (hx : (digs W32 x).length ≤ 35184372088832) (hy : (digs W32 y).length ≤ 35184372088832) : Ret pg n_long_cmp [.sl (nats .u32 (digs W32 x)), .sl (nats .u32 (digs W32 y))] (.int .i64 (ncmp x y)) := by
  refine long_cmp.of rfl (W_b ?_)
  unfold long_cmp.k long_cmp.res
  have lx := digs_lt w2 x
  have ly := digs_lt w2 y
  by_cases hl : (digs W32 x).length = (digs W32 y).length
  · simp -dsimp -implicitDefEqProofs (disch := (first | omega | (simp only [nats_len, List.length_set, List.length_replicate, List.length_append, List.length_take, List.length_drop, List.length_map, List.length_cons, List.length_nil] <;> omega) | (apply isPure_intro <;> simp))) only [go_sem, IntWalk.i64_in, wu64, wu32, wu8, Nat.mod_eq_of_lt, shr32, shr63, shl32, or32, quo64, quo32, quoi64, remk, quo32_10, rem32_10, quoi_10, remi_10, nat_48add, Nat.add_assoc, add_ne_self, lt_ne, gt_ne, add_inj, dlt_t, dlt_f, dle_t, dle_f, deq_t, deq_f, idxB_nats, idxO_f, idxO_t, loadO_natf, loadO_natt, storeO_nat, storeO_natn, newB_mkn, effV_cpy, cpyO_nat, upd_upd, nats_len, List.length_set, ge_iff_le, gt_iff_lt, Int.toNat_natCast, nat_sub1, nat_sub, nat_add1, nat_add, nat_mul, slc3_pos, slc3_zero, slc_to, nats_take, nats_drop, boxB_eq, IV_cells, IV_isAgg, IV_isJunk, frz_IV, part_IV, nats_frz]
    refine W_loop (T := Nat × Nat) (fun t => ⟨E [(0, .sl (nats .u32 (digs W32 x))), (1, .sl (nats .u32 (digs W32 y))), (5, .int .i64 ((t.1 : Int) - 1))], fun _ => none, t.2, t.2⟩) (fun t => t.1 ≤ (digs W32 x).length ∧ (digs W32 x).drop t.1 = (digs W32 y).drop t.1) (fun t => t.1) ((digs W32 x).length, _) rfl ⟨by omega, by rw [hl, List.drop_length, ← hl, List.drop_length]⟩ ?_
    rintro ⟨n, nx⟩ ⟨h1, h2⟩
    dsimp only at h1 h2
    by_cases hn : n = 0
    · subst hn
      have e : x = y := digs_inj w2 (by simpa using h2)
      simp -dsimp -implicitDefEqProofs (disch := (first | omega | (simp only [nats_len, List.length_set, List.length_replicate, List.length_append, List.length_take, List.length_drop, List.length_map, List.length_cons, List.length_nil] <;> omega) | (apply isPure_intro <;> simp))) only [go_sem, IntWalk.i64_in, wu64, wu32, wu8, Nat.mod_eq_of_lt, shr32, shr63, shl32, or32, quo64, quo32, quoi64, remk, quo32_10, rem32_10, quoi_10, remi_10, nat_48add, Nat.add_assoc, add_ne_self, lt_ne, gt_ne, add_inj, dlt_t, dlt_f, dle_t, dle_f, deq_t, deq_f, idxB_nats, idxO_f, idxO_t, loadO_natf, loadO_natt, storeO_nat, storeO_natn, newB_mkn, effV_cpy, cpyO_nat, upd_upd, nats_len, List.length_set, ge_iff_le, gt_iff_lt, Int.toNat_natCast, nat_sub1, nat_sub, nat_add1, nat_add, nat_mul, slc3_pos, slc3_zero, slc_to, nats_take, nats_drop, boxB_eq, IV_cells, IV_isAgg, IV_isJunk, frz_IV, part_IV, nats_frz, ncmp, e, Nat.lt_irrefl]
    · have hd : (digs W32 x).drop (n - 1 + 1) = (digs W32 y).drop (n - 1 + 1) := by rw [show n - 1 + 1 = n by omega]; exact h2
      have g1 := getD_get (l := digs W32 x) (i := n - 1) (by omega)
      have g2 := getD_get (l := digs W32 y) (i := n - 1) (by omega)
      rcases Nat.lt_trichotomy ((digs W32 x).getD (n - 1) 0) ((digs W32 y).getD (n - 1) 0) with h | h | h
      · have := val_take_lt w2 hl (i := n - 1) (by omega) lx ly hd (by rw [← g1, ← g2]; exact h)
        rw [val_digs w2, val_digs w2] at this
        simp -dsimp -implicitDefEqProofs (disch := (first | omega | (simp only [nats_len, List.length_set, List.length_replicate, List.length_append, List.length_take, List.length_drop, List.length_map, List.length_cons, List.length_nil] <;> omega) | (apply isPure_intro <;> simp))) only [go_sem, IntWalk.i64_in, wu64, wu32, wu8, Nat.mod_eq_of_lt, shr32, shr63, shl32, or32, quo64, quo32, quoi64, remk, quo32_10, rem32_10, quoi_10, remi_10, nat_48add, Nat.add_assoc, add_ne_self, lt_ne, gt_ne, add_inj, dlt_t, dlt_f, dle_t, dle_f, deq_t, deq_f, idxB_nats, idxO_f, idxO_t, loadO_natf, loadO_natt, storeO_nat, storeO_natn, newB_mkn, effV_cpy, cpyO_nat, upd_upd, nats_len, List.length_set, ge_iff_le, gt_iff_lt, Int.toNat_natCast, nat_sub1, nat_sub, nat_add1, nat_add, nat_mul, slc3_pos, slc3_zero, slc_to, nats_take, nats_drop, boxB_eq, IV_cells, IV_isAgg, IV_isJunk, frz_IV, part_IV, nats_frz, ncmp, this]
      · simp -dsimp -implicitDefEqProofs (disch := (first | omega | (simp only [nats_len, List.length_set, List.length_replicate, List.length_append, List.length_take, List.length_drop, List.length_map, List.length_cons, List.length_nil] <;> omega) | (apply isPure_intro <;> simp))) only [go_sem, IntWalk.i64_in, wu64, wu32, wu8, Nat.mod_eq_of_lt, shr32, shr63, shl32, or32, quo64, quo32, quoi64, remk, quo32_10, rem32_10, quoi_10, remi_10, nat_48add, Nat.add_assoc, add_ne_self, lt_ne, gt_ne, add_inj, dlt_t, dlt_f, dle_t, dle_f, deq_t, deq_f, idxB_nats, idxO_f, idxO_t, loadO_natf, loadO_natt, storeO_nat, storeO_natn, newB_mkn, effV_cpy, cpyO_nat, upd_upd, nats_len, List.length_set, ge_iff_le, gt_iff_lt, Int.toNat_natCast, nat_sub1, nat_sub, nat_add1, nat_add, nat_mul, slc3_pos, slc3_zero, slc_to, nats_take, nats_drop, boxB_eq, IV_cells, IV_isAgg, IV_isJunk, frz_IV, part_IV, nats_frz]
        refine ⟨(n - 1, _), rfl, ⟨by dsimp only; omega, ?_⟩, by dsimp only; omega⟩
        dsimp only
        rw [List.drop_eq_getElem_cons (show n - 1 < (digs W32 x).length by omega), List.drop_eq_getElem_cons (show n - 1 < (digs W32 y).length by omega), hd, ← g1, ← g2, h]
      · have := val_take_lt w2 hl.symm (i := n - 1) (by omega) ly lx hd.symm (by rw [← g1, ← g2]; exact h)
        rw [val_digs w2, val_digs w2] at this
        simp -dsimp -implicitDefEqProofs (disch := (first | omega | (simp only [nats_len, List.length_set, List.length_replicate, List.length_append, List.length_take, List.length_drop, List.length_map, List.length_cons, List.length_nil] <;> omega) | (apply isPure_intro <;> simp))) only [go_sem, IntWalk.i64_in, wu64, wu32, wu8, Nat.mod_eq_of_lt, shr32, shr63, shl32, or32, quo64, quo32, quoi64, remk, quo32_10, rem32_10, quoi_10, remi_10, nat_48add, Nat.add_assoc, add_ne_self, lt_ne, gt_ne, add_inj, dlt_t, dlt_f, dle_t, dle_f, deq_t, deq_f, idxB_nats, idxO_f, idxO_t, loadO_natf, loadO_natt, storeO_nat, storeO_natn, newB_mkn, effV_cpy, cpyO_nat, upd_upd, nats_len, List.length_set, ge_iff_le, gt_iff_lt, Int.toNat_natCast, nat_sub1, nat_sub, nat_add1, nat_add, nat_mul, slc3_pos, slc3_zero, slc_to, nats_take, nats_drop, boxB_eq, IV_cells, IV_isAgg, IV_isJunk, frz_IV, part_IV, nats_frz, ncmp, show ¬ x < y by omega, show ¬ x = y by omega]
  · by_cases hlt : (digs W32 x).length < (digs W32 y).length
    · have := val_len_lt w2 hlt
      simp -dsimp -implicitDefEqProofs (disch := (first | omega | (simp only [nats_len, List.length_set, List.length_replicate, List.length_append, List.length_take, List.length_drop, List.length_map, List.length_cons, List.length_nil] <;> omega) | (apply isPure_intro <;> simp))) only [go_sem, IntWalk.i64_in, wu64, wu32, wu8, Nat.mod_eq_of_lt, shr32, shr63, shl32, or32, quo64, quo32, quoi64, remk, quo32_10, rem32_10, quoi_10, remi_10, nat_48add, Nat.add_assoc, add_ne_self, lt_ne, gt_ne, add_inj, dlt_t, dlt_f, dle_t, dle_f, deq_t, deq_f, idxB_nats, idxO_f, idxO_t, loadO_natf, loadO_natt, storeO_nat, storeO_natn, newB_mkn, effV_cpy, cpyO_nat, upd_upd, nats_len, List.length_set, ge_iff_le, gt_iff_lt, Int.toNat_natCast, nat_sub1, nat_sub, nat_add1, nat_add, nat_mul, slc3_pos, slc3_zero, slc_to, nats_take, nats_drop, boxB_eq, IV_cells, IV_isAgg, IV_isJunk, frz_IV, part_IV, nats_frz, ncmp, this]
    · have := val_len_lt w2 (x := y) (y := x) (by omega)
      simp -dsimp -implicitDefEqProofs (disch := (first | omega | (simp only [nats_len, List.length_set, List.length_replicate, List.length_append, List.length_take, List.length_drop, List.length_map, List.length_cons, List.length_nil] <;> omega) | (apply isPure_intro <;> simp))) only [go_sem, IntWalk.i64_in, wu64, wu32, wu8, Nat.mod_eq_of_lt, shr32, shr63, shl32, or32, quo64, quo32, quoi64, remk, quo32_10, rem32_10, quoi_10, remi_10, nat_48add, Nat.add_assoc, add_ne_self, lt_ne, gt_ne, add_inj, dlt_t, dlt_f, dle_t, dle_f, deq_t, deq_f, idxB_nats, idxO_f, idxO_t, loadO_natf, loadO_natt, storeO_nat, storeO_natn, newB_mkn, effV_cpy, cpyO_nat, upd_upd, nats_len, List.length_set, ge_iff_le, gt_iff_lt, Int.toNat_natCast, nat_sub1, nat_sub, nat_add1, nat_add, nat_mul, slc3_pos, slc3_zero, slc_to, nats_take, nats_drop, boxB_eq, IV_cells, IV_isAgg, IV_isJunk, frz_IV, part_IV, nats_frz, ncmp, show ¬ x < y by omega, show ¬ x = y by omega]
theorem plus_ret (a b : List Nat) (ha : ∀ x ∈ a, x < W32) (hb : ∀ x ∈ b, x < W32) (hla : a.length ≤ 17592186044416) (hlb : b.length ≤ 17592186044416) :
    ∃ l : List Nat, (∀ x ∈ l, x < W32) ∧ l.length ≤ max a.length b.length + 1 ∧ val W32 l = val W32 a + val W32 b ∧ Ret pg n_long_plus [.sl (nats .u32 a), .sl (nats .u32 b)] (.sl (nats .u32 l)) := by
  have key : ∀ a b : List Nat, (∀ x ∈ a, x < W32) → (∀ x ∈ b, x < W32) → b.length ≤ a.length → val W32 (addL W32 (a ++ [0]) b 0) = val W32 a + val W32 b := fun a b ha hb h => by
    rw [addL_val w2 _ _ _ (by simp; omega), val_append]
    have h1 := val_lt w2 ha
    have h2 := val_lt w2 hb
    have h3 : W32 ^ b.length ≤ W32 ^ a.length := Nat.pow_le_pow_right (by decide) h
    simp only [val, Nat.mul_zero, Nat.add_zero, List.length_append, List.length_cons, List.length_nil, Nat.zero_add]
    rw [Nat.mod_eq_of_lt]
    rw [Nat.pow_succ]
    generalize W32 ^ a.length = p at *
    show _ < p * 4294967296
    omega
  refine ⟨if a.length < b.length then addL W32 (b ++ [0]) a 0 else addL W32 (a ++ [0]) b 0, ?_, ?_, ?_, ?_⟩
  · split <;> exact addL_lt w2 _ _ _
  · split <;> simp [addL_len] <;> omega
  · split
    · rw [key b a hb ha (by omega)]; omega
    · rw [key a b ha hb (by omega)]
  · refine long_plus.of rfl (W_b ?_)
    unfold long_plus.k long_plus.res
    by_cases hl : a.length < b.length
    · simp -dsimp -implicitDefEqProofs (disch := (first | omega | (simp only [nats_len, List.length_set, List.length_replicate, List.length_append, List.length_take, List.length_drop, List.length_map, List.length_cons, List.length_nil] <;> omega) | (apply isPure_intro <;> simp))) only [go_sem, IntWalk.i64_in, wu64, wu32, wu8, Nat.mod_eq_of_lt, shr32, shr63, shl32, or32, quo64, quo32, quoi64, remk, quo32_10, rem32_10, quoi_10, remi_10, nat_48add, Nat.add_assoc, add_ne_self, lt_ne, gt_ne, add_inj, dlt_t, dlt_f, dle_t, dle_f, deq_t, deq_f, idxB_nats, idxO_f, idxO_t, loadO_natf, loadO_natt, storeO_nat, storeO_natn, newB_mkn, effV_cpy, cpyO_nat, upd_upd, nats_len, List.length_set, ge_iff_le, gt_iff_lt, Int.toNat_natCast, nat_sub1, nat_sub, nat_add1, nat_add, nat_mul, slc3_pos, slc3_zero, slc_to, nats_take, nats_drop, boxB_eq, IV_cells, IV_isAgg, IV_isJunk, frz_IV, part_IV, nats_frz]
      have e0 : List.take (min b.length (b.length + 1)) b ++ List.drop (min b.length (b.length + 1)) (List.replicate (b.length + 1) 0) = b ++ [0] := by
        rw [Nat.min_eq_left (by omega), List.take_length, List.drop_replicate, Nat.add_sub_cancel_left]; rfl
      refine W_loop (T := Nat × Nat × Nat × List Nat) (fun t => ⟨E [(1, .sl (nats .u32 a)), (5, .own 13 (b.length + 1)), (6, .int .u64 t.2.1), (23, .int .i64 (b.length + 1 : Nat)), (24, .int .i64 t.1)], Hp.upd (fun _ => none) 13 (some ⟨nats .u32 t.2.2.2, 1⟩), t.2.2.1, t.2.2.1⟩)
        (fun t => t.2.2.2.length = b.length + 1 ∧ t.1 ≤ b.length + 1 ∧ t.2.1 ≤ 1 ∧ (∀ x ∈ t.2.2.2, x < W32) ∧ t.2.2.2.take t.1 ++ addL W32 (t.2.2.2.drop t.1) (a.drop t.1) t.2.1 = addL W32 (b ++ [0]) a 0) (fun t => b.length + 1 - t.1) (0, 0, _, b ++ [0]) (by rw [e0]; rfl) ⟨by simp, by dsimp only; omega, by dsimp only; omega, by intro x hx; simp at hx; rcases hx with hx | rfl; exact hb x hx; decide, by simp⟩ ?_
      rintro ⟨i, o, nx, out⟩ ⟨h1, h2, h3, h4, h5⟩
      dsimp only at h1 h2 h3 h4 h5
      have g1 := getD_lt (i := i) h4 (by decide)
      have g2 := getD_lt (i := i) ha (by decide)
      by_cases hi : i < b.length + 1
      · have fin : ∀ s, s = out.getD i 0 + a.getD i 0 + o → (out.set i (s % 4294967296)).length = b.length + 1 ∧ i + 1 ≤ b.length + 1 ∧ s / 4294967296 ≤ 1 ∧ (∀ x ∈ out.set i (s % 4294967296), x < W32) ∧ (out.set i (s % 4294967296)).take (i + 1) ++ addL W32 ((out.set i (s % 4294967296)).drop (i + 1)) (a.drop (i + 1)) (s / 4294967296) = addL W32 (b ++ [0]) a 0 := fun s hs => by
          have g3 : s < 8589934592 := by
            have k1 : out.getD i 0 < 4294967296 := g1
            have k2 : a.getD i 0 < 4294967296 := g2
            omega
          refine ⟨by simp [h1], by omega, by omega, fun x hx => ?_, ?_⟩
          · rcases List.mem_or_eq_of_mem_set hx with hx | rfl
            · exact h4 x hx
            · exact Nat.mod_lt _ (by decide)
          · rw [set_take (by omega), set_drop, ← h5, drop_cons (show i < out.length by omega), addL, drop_head, drop_tail, List.append_assoc, ← hs]; rfl
        have k1 : out.getD i 0 < 4294967296 := g1
        have k2 : a.getD i 0 < 4294967296 := g2
        by_cases hq : i < a.length
        · simp -dsimp -implicitDefEqProofs (disch := (first | omega | (simp only [nats_len, List.length_set, List.length_replicate, List.length_append, List.length_take, List.length_drop, List.length_map, List.length_cons, List.length_nil] <;> omega) | (apply isPure_intro <;> simp))) only [go_sem, IntWalk.i64_in, wu64, wu32, wu8, Nat.mod_eq_of_lt, shr32, shr63, shl32, or32, quo64, quo32, quoi64, remk, quo32_10, rem32_10, quoi_10, remi_10, nat_48add, Nat.add_assoc, add_ne_self, lt_ne, gt_ne, add_inj, dlt_t, dlt_f, dle_t, dle_f, deq_t, deq_f, idxB_nats, idxO_f, idxO_t, loadO_natf, loadO_natt, storeO_nat, storeO_natn, newB_mkn, effV_cpy, cpyO_nat, upd_upd, nats_len, List.length_set, ge_iff_le, gt_iff_lt, Int.toNat_natCast, nat_sub1, nat_sub, nat_add1, nat_add, nat_mul, slc3_pos, slc3_zero, slc_to, nats_take, nats_drop, boxB_eq, IV_cells, IV_isAgg, IV_isJunk, frz_IV, part_IV, nats_frz]
          exact ⟨(i + 1, (o + (out.getD i 0 + a.getD i 0)) / 4294967296, _, out.set i ((o + (out.getD i 0 + a.getD i 0)) % 4294967296)), rfl, fin _ (by omega), by dsimp only; omega⟩
        · have hq0 : a.getD i 0 = 0 := by simp [List.getD_eq_getElem?_getD, List.getElem?_eq_none (Nat.le_of_not_lt hq)]
          simp -dsimp -implicitDefEqProofs (disch := (first | omega | (simp only [nats_len, List.length_set, List.length_replicate, List.length_append, List.length_take, List.length_drop, List.length_map, List.length_cons, List.length_nil] <;> omega) | (apply isPure_intro <;> simp))) only [go_sem, IntWalk.i64_in, wu64, wu32, wu8, Nat.mod_eq_of_lt, shr32, shr63, shl32, or32, quo64, quo32, quoi64, remk, quo32_10, rem32_10, quoi_10, remi_10, nat_48add, Nat.add_assoc, add_ne_self, lt_ne, gt_ne, add_inj, dlt_t, dlt_f, dle_t, dle_f, deq_t, deq_f, idxB_nats, idxO_f, idxO_t, loadO_natf, loadO_natt, storeO_nat, storeO_natn, newB_mkn, effV_cpy, cpyO_nat, upd_upd, nats_len, List.length_set, ge_iff_le, gt_iff_lt, Int.toNat_natCast, nat_sub1, nat_sub, nat_add1, nat_add, nat_mul, slc3_pos, slc3_zero, slc_to, nats_take, nats_drop, boxB_eq, IV_cells, IV_isAgg, IV_isJunk, frz_IV, part_IV, nats_frz]
          exact ⟨(i + 1, (o + out.getD i 0) / 4294967296, _, out.set i ((o + out.getD i 0) % 4294967296)), rfl, fin _ (by omega), by dsimp only; omega⟩
      · have he : i = out.length := by omega
        rw [he, List.take_length, List.drop_length] at h5
        simp only [addL, List.append_nil] at h5
        simp -dsimp -implicitDefEqProofs (disch := (first | omega | (simp only [nats_len, List.length_set, List.length_replicate, List.length_append, List.length_take, List.length_drop, List.length_map, List.length_cons, List.length_nil] <;> omega) | (apply isPure_intro <;> simp))) only [go_sem, IntWalk.i64_in, wu64, wu32, wu8, Nat.mod_eq_of_lt, shr32, shr63, shl32, or32, quo64, quo32, quoi64, remk, quo32_10, rem32_10, quoi_10, remi_10, nat_48add, Nat.add_assoc, add_ne_self, lt_ne, gt_ne, add_inj, dlt_t, dlt_f, dle_t, dle_f, deq_t, deq_f, idxB_nats, idxO_f, idxO_t, loadO_natf, loadO_natt, storeO_nat, storeO_natn, newB_mkn, effV_cpy, cpyO_nat, upd_upd, nats_len, List.length_set, ge_iff_le, gt_iff_lt, Int.toNat_natCast, nat_sub1, nat_sub, nat_add1, nat_add, nat_mul, slc3_pos, slc3_zero, slc_to, nats_take, nats_drop, boxB_eq, IV_cells, IV_isAgg, IV_isJunk, frz_IV, part_IV, nats_frz]
        simp [h5, hl]
    · simp -dsimp -implicitDefEqProofs (disch := (first | omega | (simp only [nats_len, List.length_set, List.length_replicate, List.length_append, List.length_take, List.length_drop, List.length_map, List.length_cons, List.length_nil] <;> omega) | (apply isPure_intro <;> simp))) only [go_sem, IntWalk.i64_in, wu64, wu32, wu8, Nat.mod_eq_of_lt, shr32, shr63, shl32, or32, quo64, quo32, quoi64, remk, quo32_10, rem32_10, quoi_10, remi_10, nat_48add, Nat.add_assoc, add_ne_self, lt_ne, gt_ne, add_inj, dlt_t, dlt_f, dle_t, dle_f, deq_t, deq_f, idxB_nats, idxO_f, idxO_t, loadO_natf, loadO_natt, storeO_nat, storeO_natn, newB_mkn, effV_cpy, cpyO_nat, upd_upd, nats_len, List.length_set, ge_iff_le, gt_iff_lt, Int.toNat_natCast, nat_sub1, nat_sub, nat_add1, nat_add, nat_mul, slc3_pos, slc3_zero, slc_to, nats_take, nats_drop, boxB_eq, IV_cells, IV_isAgg, IV_isJunk, frz_IV, part_IV, nats_frz]
      have e0 : List.take (min a.length (a.length + 1)) a ++ List.drop (min a.length (a.length + 1)) (List.replicate (a.length + 1) 0) = a ++ [0] := by
        rw [Nat.min_eq_left (by omega), List.take_length, List.drop_replicate, Nat.add_sub_cancel_left]; rfl
      refine W_loop (T := Nat × Nat × Nat × List Nat) (fun t => ⟨E [(1, .sl (nats .u32 b)), (5, .own 9 (a.length + 1)), (6, .int .u64 t.2.1), (23, .int .i64 (a.length + 1 : Nat)), (24, .int .i64 t.1)], Hp.upd (fun _ => none) 9 (some ⟨nats .u32 t.2.2.2, 1⟩), t.2.2.1, t.2.2.1⟩)
        (fun t => t.2.2.2.length = a.length + 1 ∧ t.1 ≤ a.length + 1 ∧ t.2.1 ≤ 1 ∧ (∀ x ∈ t.2.2.2, x < W32) ∧ t.2.2.2.take t.1 ++ addL W32 (t.2.2.2.drop t.1) (b.drop t.1) t.2.1 = addL W32 (a ++ [0]) b 0) (fun t => a.length + 1 - t.1) (0, 0, _, a ++ [0]) (by rw [e0]; rfl) ⟨by simp, by dsimp only; omega, by dsimp only; omega, by intro x hx; simp at hx; rcases hx with hx | rfl; exact ha x hx; decide, by simp⟩ ?_
      rintro ⟨i, o, nx, out⟩ ⟨h1, h2, h3, h4, h5⟩
      dsimp only at h1 h2 h3 h4 h5
      have g1 := getD_lt (i := i) h4 (by decide)
      have g2 := getD_lt (i := i) hb (by decide)
      by_cases hi : i < a.length + 1
      · have fin : ∀ s, s = out.getD i 0 + b.getD i 0 + o → (out.set i (s % 4294967296)).length = a.length + 1 ∧ i + 1 ≤ a.length + 1 ∧ s / 4294967296 ≤ 1 ∧ (∀ x ∈ out.set i (s % 4294967296), x < W32) ∧ (out.set i (s % 4294967296)).take (i + 1) ++ addL W32 ((out.set i (s % 4294967296)).drop (i + 1)) (b.drop (i + 1)) (s / 4294967296) = addL W32 (a ++ [0]) b 0 := fun s hs => by
          have g3 : s < 8589934592 := by
            have k1 : out.getD i 0 < 4294967296 := g1
            have k2 : b.getD i 0 < 4294967296 := g2
            omega
          refine ⟨by simp [h1], by omega, by omega, fun x hx => ?_, ?_⟩
          · rcases List.mem_or_eq_of_mem_set hx with hx | rfl
            · exact h4 x hx
            · exact Nat.mod_lt _ (by decide)
          · rw [set_take (by omega), set_drop, ← h5, drop_cons (show i < out.length by omega), addL, drop_head, drop_tail, List.append_assoc, ← hs]; rfl
        have k1 : out.getD i 0 < 4294967296 := g1
        have k2 : b.getD i 0 < 4294967296 := g2
        by_cases hq : i < b.length
        · simp -dsimp -implicitDefEqProofs (disch := (first | omega | (simp only [nats_len, List.length_set, List.length_replicate, List.length_append, List.length_take, List.length_drop, List.length_map, List.length_cons, List.length_nil] <;> omega) | (apply isPure_intro <;> simp))) only [go_sem, IntWalk.i64_in, wu64, wu32, wu8, Nat.mod_eq_of_lt, shr32, shr63, shl32, or32, quo64, quo32, quoi64, remk, quo32_10, rem32_10, quoi_10, remi_10, nat_48add, Nat.add_assoc, add_ne_self, lt_ne, gt_ne, add_inj, dlt_t, dlt_f, dle_t, dle_f, deq_t, deq_f, idxB_nats, idxO_f, idxO_t, loadO_natf, loadO_natt, storeO_nat, storeO_natn, newB_mkn, effV_cpy, cpyO_nat, upd_upd, nats_len, List.length_set, ge_iff_le, gt_iff_lt, Int.toNat_natCast, nat_sub1, nat_sub, nat_add1, nat_add, nat_mul, slc3_pos, slc3_zero, slc_to, nats_take, nats_drop, boxB_eq, IV_cells, IV_isAgg, IV_isJunk, frz_IV, part_IV, nats_frz]
          exact ⟨(i + 1, (o + (out.getD i 0 + b.getD i 0)) / 4294967296, _, out.set i ((o + (out.getD i 0 + b.getD i 0)) % 4294967296)), rfl, fin _ (by omega), by dsimp only; omega⟩
        · have hq0 : b.getD i 0 = 0 := by simp [List.getD_eq_getElem?_getD, List.getElem?_eq_none (Nat.le_of_not_lt hq)]
          simp -dsimp -implicitDefEqProofs (disch := (first | omega | (simp only [nats_len, List.length_set, List.length_replicate, List.length_append, List.length_take, List.length_drop, List.length_map, List.length_cons, List.length_nil] <;> omega) | (apply isPure_intro <;> simp))) only [go_sem, IntWalk.i64_in, wu64, wu32, wu8, Nat.mod_eq_of_lt, shr32, shr63, shl32, or32, quo64, quo32, quoi64, remk, quo32_10, rem32_10, quoi_10, remi_10, nat_48add, Nat.add_assoc, add_ne_self, lt_ne, gt_ne, add_inj, dlt_t, dlt_f, dle_t, dle_f, deq_t, deq_f, idxB_nats, idxO_f, idxO_t, loadO_natf, loadO_natt, storeO_nat, storeO_natn, newB_mkn, effV_cpy, cpyO_nat, upd_upd, nats_len, List.length_set, ge_iff_le, gt_iff_lt, Int.toNat_natCast, nat_sub1, nat_sub, nat_add1, nat_add, nat_mul, slc3_pos, slc3_zero, slc_to, nats_take, nats_drop, boxB_eq, IV_cells, IV_isAgg, IV_isJunk, frz_IV, part_IV, nats_frz]
          exact ⟨(i + 1, (o + out.getD i 0) / 4294967296, _, out.set i ((o + out.getD i 0) % 4294967296)), rfl, fin _ (by omega), by dsimp only; omega⟩
      · have he : i = out.length := by omega
        rw [he, List.take_length, List.drop_length] at h5
        simp only [addL, List.append_nil] at h5
        simp -dsimp -implicitDefEqProofs (disch := (first | omega | (simp only [nats_len, List.length_set, List.length_replicate, List.length_append, List.length_take, List.length_drop, List.length_map, List.length_cons, List.length_nil] <;> omega) | (apply isPure_intro <;> simp))) only [go_sem, IntWalk.i64_in, wu64, wu32, wu8, Nat.mod_eq_of_lt, shr32, shr63, shl32, or32, quo64, quo32, quoi64, remk, quo32_10, rem32_10, quoi_10, remi_10, nat_48add, Nat.add_assoc, add_ne_self, lt_ne, gt_ne, add_inj, dlt_t, dlt_f, dle_t, dle_f, deq_t, deq_f, idxB_nats, idxO_f, idxO_t, loadO_natf, loadO_natt, storeO_nat, storeO_natn, newB_mkn, effV_cpy, cpyO_nat, upd_upd, nats_len, List.length_set, ge_iff_le, gt_iff_lt, Int.toNat_natCast, nat_sub1, nat_sub, nat_add1, nat_add, nat_mul, slc3_pos, slc3_zero, slc_to, nats_take, nats_drop, boxB_eq, IV_cells, IV_isAgg, IV_isJunk, frz_IV, part_IV, nats_frz]
        simp [h5, hl]
end Go.Gim

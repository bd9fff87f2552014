import Derived.Test.YtoehjhcfilonoaaL1
import Derived.Test.YtoehjhcfilonoaaM2
import Derived.Test.YtoehjhcfilonoaaGL
/- Whole numbers of any size: their parts, sums, differences, products. -/
set_option maxRecDepth 100000
set_option linter.unusedSimpArgs false
set_option linter.unusedVariables false
namespace Go.Gim
open Go.Proofs
def IV (x : Int) : V := .agg [.bool (decide (x < 0)), .sl (nats .u32 (digs W32 x.natAbs))]
theorem IV_sg (b : Bool) (n : Nat) : IV (sg b n) = .agg [.bool (b && decide (0 < n)), .sl (nats .u32 (digs W32 n))] := by
  unfold IV
  rw [sg_abs]
  congr 3
  unfold sg
  cases b <;> simp <;> omega
@[simp] theorem IV_pure (x : Int) : (IV x).Pure := by simp [IV]
theorem made_ret (b : Bool) (l : List Nat) (hl : ∀ x ∈ l, x < W32) (hs : l.length ≤ 35184372088832) : Ret pg n_long_made [.bool b, .sl (nats .u32 l)] (IV (sg b (val W32 l))) := by
  refine long_made.of rfl (W_b ?_)
  unfold long_made.k long_made.res
  simp -dsimp -implicitDefEqProofs (disch := (first | omega | (simp only [nats_len, List.length_set, List.length_replicate, List.length_append, List.length_take, List.length_drop, List.length_map, List.length_cons, List.length_nil] <;> omega) | (apply isPure_intro <;> simp))) only [go_sem, IntWalk.i64_in, wu64, wu32, wu8, Nat.mod_eq_of_lt, shr32, shr63, shl32, or32, quo64, quo32, quoi64, remk, quo32_10, rem32_10, quoi_10, remi_10, nat_48add, Nat.add_assoc, add_ne_self, lt_ne, gt_ne, add_inj, dlt_t, dlt_f, dle_t, dle_f, deq_t, deq_f, idxB_nats, idxO_f, idxO_t, loadO_natf, loadO_natt, storeO_nat, storeO_natn, newB_mkn, effV_cpy, cpyO_nat, upd_upd, nats_len, List.length_set, ge_iff_le, gt_iff_lt, Int.toNat_natCast, nat_sub1, nat_sub, nat_add1, nat_add, nat_mul, slc3_pos, slc3_zero, slc_to, nats_take, nats_drop, boxB_eq]
  refine W_loop (T := Nat × Nat) (fun t => ⟨E [(0, .bool b), (1, .sl (nats .u32 l)), (4, .ptr 0 1 0 0), (5, .int .i64 t.1)], Hp.upd (fun _ => none) 0 (some ⟨[.agg [.bool false, .nil]], 2⟩), t.2, t.2⟩) (fun t => 0 < t.2 ∧ t.1 ≤ l.length ∧ ∀ i, t.1 ≤ i → (hi : i < l.length) → l[i] = 0) (fun t => t.1) (l.length, 4) rfl ⟨by omega, by omega, fun i h1 h2 => by omega⟩ ?_
  rintro ⟨n, nx⟩ ⟨h0, h1, h2⟩
  dsimp only at h0 h1 h2
  by_cases hn : 0 < n
  · have hg : ∀ i (hi : i < l.length), l.getD i 0 = l[i] := fun i hi => by simp [List.getD_eq_getElem?_getD, hi]
    by_cases hz : l.getD (n - 1) 0 = 0
    · simp -dsimp -implicitDefEqProofs (disch := (first | omega | (simp only [nats_len, List.length_set, List.length_replicate, List.length_append, List.length_take, List.length_drop, List.length_map, List.length_cons, List.length_nil] <;> omega) | (apply isPure_intro <;> simp))) only [go_sem, IntWalk.i64_in, wu64, wu32, wu8, Nat.mod_eq_of_lt, shr32, shr63, shl32, or32, quo64, quo32, quoi64, remk, quo32_10, rem32_10, quoi_10, remi_10, nat_48add, Nat.add_assoc, add_ne_self, lt_ne, gt_ne, add_inj, dlt_t, dlt_f, dle_t, dle_f, deq_t, deq_f, idxB_nats, idxO_f, idxO_t, loadO_natf, loadO_natt, storeO_nat, storeO_natn, newB_mkn, effV_cpy, cpyO_nat, upd_upd, nats_len, List.length_set, ge_iff_le, gt_iff_lt, Int.toNat_natCast, nat_sub1, nat_sub, nat_add1, nat_add, nat_mul, slc3_pos, slc3_zero, slc_to, nats_take, nats_drop, boxB_eq]
      refine ⟨(n - 1, _), rfl, ⟨by omega, by dsimp only; omega, fun i h3 h4 => ?_⟩, by dsimp only; omega⟩
      dsimp only at h3
      by_cases hi : i = n - 1
      · subst hi; rw [← hg]; exact hz
      · exact h2 i (by omega) h4
    · have hd := made_digs w2 hl h1 h2 (fun _ => by rw [← hg]; exact hz)
      have hp : 0 < val W32 l := by
        rcases Nat.eq_zero_or_pos (val W32 l) with h | h
        · rw [h, digs_zero] at hd
          have := congrArg List.length hd
          rw [List.length_take] at this; simp only [List.length_nil] at this; omega
        · exact h
      cases b <;> simp -dsimp -implicitDefEqProofs (disch := (first | omega | (simp only [nats_len, List.length_set, List.length_replicate, List.length_append, List.length_take, List.length_drop, List.length_map, List.length_cons, List.length_nil] <;> omega) | (apply isPure_intro <;> simp))) only [go_sem, IntWalk.i64_in, wu64, wu32, wu8, Nat.mod_eq_of_lt, shr32, shr63, shl32, or32, quo64, quo32, quoi64, remk, quo32_10, rem32_10, quoi_10, remi_10, nat_48add, Nat.add_assoc, add_ne_self, lt_ne, gt_ne, add_inj, dlt_t, dlt_f, dle_t, dle_f, deq_t, deq_f, idxB_nats, idxO_f, idxO_t, loadO_natf, loadO_natt, storeO_nat, storeO_natn, newB_mkn, effV_cpy, cpyO_nat, upd_upd, nats_len, List.length_set, ge_iff_le, gt_iff_lt, Int.toNat_natCast, nat_sub1, nat_sub, nat_add1, nat_add, nat_mul, slc3_pos, slc3_zero, slc_to, nats_take, nats_drop, boxB_eq, IV_sg, hd] <;> simp [hp]
  · have hd := made_digs w2 hl h1 h2 (fun h => by omega)
    have hn0 : n = 0 := by omega
    subst hn0
    have hv : val W32 l = 0 := by
      refine (digs_nil w2).1 ?_
      rw [← hd]; rfl
    cases b <;> simp -dsimp -implicitDefEqProofs (disch := (first | omega | (simp only [nats_len, List.length_set, List.length_replicate, List.length_append, List.length_take, List.length_drop, List.length_map, List.length_cons, List.length_nil] <;> omega) | (apply isPure_intro <;> simp))) only [go_sem, IntWalk.i64_in, wu64, wu32, wu8, Nat.mod_eq_of_lt, shr32, shr63, shl32, or32, quo64, quo32, quoi64, remk, quo32_10, rem32_10, quoi_10, remi_10, nat_48add, Nat.add_assoc, add_ne_self, lt_ne, gt_ne, add_inj, dlt_t, dlt_f, dle_t, dle_f, deq_t, deq_f, idxB_nats, idxO_f, idxO_t, loadO_natf, loadO_natt, storeO_nat, storeO_natn, newB_mkn, effV_cpy, cpyO_nat, upd_upd, nats_len, List.length_set, ge_iff_le, gt_iff_lt, Int.toNat_natCast, nat_sub1, nat_sub, nat_add1, nat_add, nat_mul, slc3_pos, slc3_zero, slc_to, nats_take, nats_drop, boxB_eq, IV_sg, hv, digs_zero] <;> simp [nats]
theorem IV_cells (x : Int) : (IV x).cells = [.bool (decide (x < 0)), .sl (nats .u32 (digs W32 x.natAbs))] := rfl
theorem IV_isAgg (x : Int) : (IV x).isAgg = true := rfl
@[simp] theorem IV_isJunk (x : Int) : (IV x).isJunk = false := rfl
theorem frz_IV (H : Hp) (n : Nat) (x : Int) : frz H (n + 2) (IV x) = some (IV x) := rfl
theorem part_IV (x : Int) : V.part (IV x) 0 2 true = some (IV x) := rfl
theorem sub_IV (g) (x : Int) : V.sub g (IV x) = IV x := sub_pure g (IV_pure x)
theorem of_ret (n : Int) (h : -9223372036854775808 ≤ n ∧ n ≤ 9223372036854775807) : Ret pg n_long_Of [.int .i64 n] (IV n) := by
  refine long_Of.of rfl (W_b ?_)
  unfold long_Of.k long_Of.res
  have key : (val W32 [n.natAbs % 4294967296, n.natAbs / 4294967296]) = n.natAbs := by
    have h2 : n.natAbs < 18446744073709551616 := by omega
    show n.natAbs % 4294967296 + 4294967296 * (n.natAbs / 4294967296 + 4294967296 * 0) = n.natAbs
    omega
  have sgn : sg (decide (n < 0)) n.natAbs = n := by unfold sg; split <;> simp_all <;> omega
  have p1 : (2 : Int) ^ min 32 64 = 4294967296 := by decide
  have hm := made_ret (decide (n < 0)) [n.natAbs % 4294967296, n.natAbs / 4294967296] (by
    intro x hx
    show x < 4294967296
    simp at hx
    rcases hx with rfl | rfl
    · exact Nat.mod_lt _ (by decide)
    · omega) (by simp)
  rw [key, sgn] at hm
  by_cases hn : n < 0
  · have e1 : IntKind.u64.wrap n = n + 18446744073709551616 := by simp [IntKind.wrap, IntKind.bits, IntKind.signed]; omega
    have e2 : IntKind.u64.wrap (0 - (n + 18446744073709551616)) = -n := by simp [IntKind.wrap, IntKind.bits, IntKind.signed]; omega
    have e3 : IntKind.u32.wrap (-n) = ((n.natAbs % 4294967296 : Nat) : Int) := by rw [IntKind.wrap_u32]; omega
    have e4 : IntKind.u32.wrap ((-n).fdiv 4294967296) = ((n.natAbs / 4294967296 : Nat) : Int) := by rw [IntKind.wrap_u32, Int.fdiv_eq_ediv_of_nonneg _ (by omega)]; omega
    rw [dlt_t hn] at hm
    simp -dsimp -implicitDefEqProofs (disch := (first | omega | (simp only [nats_len, List.length_set, List.length_replicate, List.length_append, List.length_take, List.length_drop, List.length_map, List.length_cons, List.length_nil] <;> omega) | (apply isPure_intro <;> simp))) only [go_sem, IntWalk.i64_in, wu64, wu32, wu8, Nat.mod_eq_of_lt, shr32, shr63, shl32, or32, quo64, quo32, quoi64, remk, quo32_10, rem32_10, quoi_10, remi_10, nat_48add, Nat.add_assoc, add_ne_self, lt_ne, gt_ne, add_inj, dlt_t, dlt_f, dle_t, dle_f, deq_t, deq_f, idxB_nats, idxO_f, idxO_t, loadO_natf, loadO_natt, storeO_nat, storeO_natn, newB_mkn, effV_cpy, cpyO_nat, upd_upd, nats_len, List.length_set, ge_iff_le, gt_iff_lt, Int.toNat_natCast, nat_sub1, nat_sub, nat_add1, nat_add, nat_mul, slc3_pos, slc3_zero, slc_to, nats_take, nats_drop, boxB_eq, IV_cells, IV_isAgg, IV_isJunk, frz_IV, part_IV, nats_frz, e1, e2, p1, e3, e4, shiftV]
    refine callB_fr1 16 (nats .u32 [n.natAbs % 4294967296, n.natAbs / 4294967296]) rfl nats_pure (by simp [V.sub, fz1, nats_len, sub_IV, sub_agg]) hm (by simp) ?_
    simp -dsimp -implicitDefEqProofs (disch := (first | omega | (simp only [nats_len, List.length_set, List.length_replicate, List.length_append, List.length_take, List.length_drop, List.length_map, List.length_cons, List.length_nil] <;> omega) | (apply isPure_intro <;> simp))) only [go_sem, IntWalk.i64_in, wu64, wu32, wu8, Nat.mod_eq_of_lt, shr32, shr63, shl32, or32, quo64, quo32, quoi64, remk, quo32_10, rem32_10, quoi_10, remi_10, nat_48add, Nat.add_assoc, add_ne_self, lt_ne, gt_ne, add_inj, dlt_t, dlt_f, dle_t, dle_f, deq_t, deq_f, idxB_nats, idxO_f, idxO_t, loadO_natf, loadO_natt, storeO_nat, storeO_natn, newB_mkn, effV_cpy, cpyO_nat, upd_upd, nats_len, List.length_set, ge_iff_le, gt_iff_lt, Int.toNat_natCast, nat_sub1, nat_sub, nat_add1, nat_add, nat_mul, slc3_pos, slc3_zero, slc_to, nats_take, nats_drop, boxB_eq, IV_cells, IV_isAgg, IV_isJunk, frz_IV, part_IV, nats_frz]
  · have e1 : IntKind.u64.wrap n = n := by simp [IntKind.wrap, IntKind.bits, IntKind.signed]; omega
    have e3 : IntKind.u32.wrap n = ((n.natAbs % 4294967296 : Nat) : Int) := by rw [IntKind.wrap_u32]; omega
    have e4 : IntKind.u32.wrap (n.fdiv 4294967296) = ((n.natAbs / 4294967296 : Nat) : Int) := by rw [IntKind.wrap_u32, Int.fdiv_eq_ediv_of_nonneg _ (by omega)]; omega
    rw [dlt_f (by omega)] at hm
    simp -dsimp -implicitDefEqProofs (disch := (first | omega | (simp only [nats_len, List.length_set, List.length_replicate, List.length_append, List.length_take, List.length_drop, List.length_map, List.length_cons, List.length_nil] <;> omega) | (apply isPure_intro <;> simp))) only [go_sem, IntWalk.i64_in, wu64, wu32, wu8, Nat.mod_eq_of_lt, shr32, shr63, shl32, or32, quo64, quo32, quoi64, remk, quo32_10, rem32_10, quoi_10, remi_10, nat_48add, Nat.add_assoc, add_ne_self, lt_ne, gt_ne, add_inj, dlt_t, dlt_f, dle_t, dle_f, deq_t, deq_f, idxB_nats, idxO_f, idxO_t, loadO_natf, loadO_natt, storeO_nat, storeO_natn, newB_mkn, effV_cpy, cpyO_nat, upd_upd, nats_len, List.length_set, ge_iff_le, gt_iff_lt, Int.toNat_natCast, nat_sub1, nat_sub, nat_add1, nat_add, nat_mul, slc3_pos, slc3_zero, slc_to, nats_take, nats_drop, boxB_eq, IV_cells, IV_isAgg, IV_isJunk, frz_IV, part_IV, nats_frz, e1, p1, e3, e4, shiftV]
    refine callB_fr1 13 (nats .u32 [n.natAbs % 4294967296, n.natAbs / 4294967296]) rfl nats_pure (by simp [V.sub, fz1, nats_len, sub_IV, sub_agg]) hm (by simp) ?_
    simp -dsimp -implicitDefEqProofs (disch := (first | omega | (simp only [nats_len, List.length_set, List.length_replicate, List.length_append, List.length_take, List.length_drop, List.length_map, List.length_cons, List.length_nil] <;> omega) | (apply isPure_intro <;> simp))) only [go_sem, IntWalk.i64_in, wu64, wu32, wu8, Nat.mod_eq_of_lt, shr32, shr63, shl32, or32, quo64, quo32, quoi64, remk, quo32_10, rem32_10, quoi_10, remi_10, nat_48add, Nat.add_assoc, add_ne_self, lt_ne, gt_ne, add_inj, dlt_t, dlt_f, dle_t, dle_f, deq_t, deq_f, idxB_nats, idxO_f, idxO_t, loadO_natf, loadO_natt, storeO_nat, storeO_natn, newB_mkn, effV_cpy, cpyO_nat, upd_upd, nats_len, List.length_set, ge_iff_le, gt_iff_lt, Int.toNat_natCast, nat_sub1, nat_sub, nat_add1, nat_add, nat_mul, slc3_pos, slc3_zero, slc_to, nats_take, nats_drop, boxB_eq, IV_cells, IV_isAgg, IV_isJunk, frz_IV, part_IV, nats_frz]
end Go.Gim

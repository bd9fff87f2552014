/- The codec: a measurement's bytes. -/
import Derived.Test.YtnaclocpmkldnaaDoorC2
set_option maxRecDepth 100000
set_option linter.unusedSimpArgs false
set_option linter.unusedVariables false
namespace Go.Gim
open Go.Proofs
def bstr (l : List Nat) : ByteArray := ⟨(l.map UInt8.ofNat).toArray⟩
def encL (a s : Int) (v : List Int) : List Nat := bytL a 4 ++ bytL s 2 ++ (v.map (bytL · 4)).flatten
def encV (k a s : Int) (v : List Int) : V := if rightE k a s v = 0 then .tup [.int .u8 k, .str (bstr (encL a s v)), .int .i64 0] else .tup [.int .u8 0, .str ⟨#[]⟩, .int .i64 (rightE k a s v)]
theorem right_ok {k a s : Int} {v : List Int} (h : rightE k a s v = 0) : (1 ≤ k ∧ k ≤ 4) ∧ v.length = cnt k ∧ v.length ≤ 6 ∧ (0 ≤ a ∧ a < 4294967296) ∧ (0 ≤ s ∧ s < 65536) ∧ ∀ x ∈ v, ¬ bad x := by
  unfold rightE at h
  split at h
  · cases h
  · rename_i h0
    split at h
    · cases h
    · rename_i h1
      split at h
      · cases h
      · rename_i h2
        split at h
        · cases h
        · rename_i h3
          have h1 : v.length = cnt k := by simpa using h1
          refine ⟨?_, h1, ?_, by omega, by omega, fun x hx hb => h3 ⟨x, hx, hb⟩⟩
          · have hk := h0
            unfold cnt at hk
            by_cases a1 : k = 1 ∨ k = 2
            · omega
            · by_cases a3 : k = 3
              · omega
              · by_cases a4 : k = 4
                · omega
                · simp [a1, a3, a4] at hk
          · rw [h1]; unfold cnt; repeat' split
            all_goals omega
theorem faP0 (k a s v) : redV (.faP 0 1 false) [.pp (MV k a s v)] = some (.pp (.int .i64 k)) := rfl
theorem faP1 (k a s v) : redV (.faP 1 1 false) [.pp (MV k a s v)] = some (.pp (.int .i64 a)) := rfl
theorem faP2 (k a s v) : redV (.faP 2 1 false) [.pp (MV k a s v)] = some (.pp (.int .i64 s)) := rfl
theorem ldPi (k n) : redV (.ldP 1 false) [.pp (.int k n)] = some (.int k n) := rfl
theorem encode_ret (k a s : Int) (v : List Int) (hl : v.length ≤ 9223372036854775807) : Ret pg n_codec_Encode [MV k a s v] (encV k a s v) := by
  refine codec_Encode.of rfl (W_b ?_)
  unfold codec_Encode.k codec_Encode.res encV
  have hr := right_ret k a s v hl
  simp -dsimp -implicitDefEqProofs (disch := (first | omega | (simp only [nats_len, List.length_set, List.length_replicate, List.length_append, List.length_take, List.length_drop, List.length_map, List.length_cons, List.length_nil] <;> omega) | (apply isPure_intro <;> simp))) only [go_sem, reduceIte, reduceCtorEq, Nat.reduceEqDiff, Nat.reduceAdd, Nat.reduceLeDiff, Nat.reduceMul, Nat.reduceSub, Nat.reduceLT, Nat.reduceBEq, Int.reduceToNat, Int.reduceNeg, Int.reduceEq, Int.reduceLT, Int.reduceLE, Bool.and_true, Bool.true_and, Bool.and_self, Bool.not_false, Bool.not_true, and_true, true_and, IntWalk.i64_in, wu64, wu32, wu8, Nat.mod_eq_of_lt, shr32, shr63, shl32, or32, quo64, quo32, quoi64, remk, quo32_10, rem32_10, quoi_10, remi_10, nat_48add, Nat.add_assoc, add_ne_self, lt_ne, gt_ne, add_inj, dlt_t, dlt_f, dle_t, dle_f, deq_t, deq_f, idxB_nats, idxO_f, idxO_t, loadO_natf, loadO_natt, storeO_nat, storeO_natn, newB_mkn, effV_cpy, cpyO_nat, upd_upd, nats_len, List.length_set, ge_iff_le, gt_iff_lt, Int.toNat_natCast, nat_sub1, nat_sub, nat_add1, nat_add, nat_mul, slc3_pos, slc3_zero, slc_to, nats_take, nats_drop, boxB_eq, MV_cells, MV_isAgg, MV_isJunk, part_MV, ints_len, idxB_ints]
  refine callB_of hr (by simp) ?_
  by_cases h0 : rightE k a s v = 0
  · rw [if_pos h0]
    obtain ⟨g1, g2, g3, g4, g5, g6⟩ := right_ok h0
    simp -dsimp -implicitDefEqProofs (disch := (first | omega | (simp only [nats_len, List.length_set, List.length_replicate, List.length_append, List.length_take, List.length_drop, List.length_map, List.length_cons, List.length_nil] <;> omega) | (apply isPure_intro <;> simp))) only [go_sem, reduceIte, reduceCtorEq, Nat.reduceEqDiff, Nat.reduceAdd, Nat.reduceLeDiff, Nat.reduceMul, Nat.reduceSub, Nat.reduceLT, Nat.reduceBEq, Int.reduceToNat, Int.reduceNeg, Int.reduceEq, Int.reduceLT, Int.reduceLE, Bool.and_true, Bool.true_and, Bool.and_self, Bool.not_false, Bool.not_true, and_true, true_and, IntWalk.i64_in, wu64, wu32, wu8, Nat.mod_eq_of_lt, shr32, shr63, shl32, or32, quo64, quo32, quoi64, remk, quo32_10, rem32_10, quoi_10, remi_10, nat_48add, Nat.add_assoc, add_ne_self, lt_ne, gt_ne, add_inj, dlt_t, dlt_f, dle_t, dle_f, deq_t, deq_f, idxB_nats, idxO_f, idxO_t, loadO_natf, loadO_natt, storeO_nat, storeO_natn, newB_mkn, effV_cpy, cpyO_nat, upd_upd, nats_len, List.length_set, ge_iff_le, gt_iff_lt, Int.toNat_natCast, nat_sub1, nat_sub, nat_add1, nat_add, nat_mul, slc3_pos, slc3_zero, slc_to, nats_take, nats_drop, boxB_eq, MV_cells, MV_isAgg, MV_isJunk, part_MV, ints_len, idxB_ints, h0, faP0, faP1, faP2, ldPi]
    refine Exists.elim (bytes_G .nil [] a 4 (fun _ => none) _ (Row.nil _ _ _ _) (by simp) (by omega)) fun r1 hr => Exists.elim hr fun H1 hr => Exists.elim hr fun n1 hr => callB_G hr.2 ?_
    obtain ⟨⟨p1, p2, _⟩, _⟩ := hr
    clear hr
    simp -dsimp -implicitDefEqProofs (disch := (first | omega | (simp only [nats_len, List.length_set, List.length_replicate, List.length_append, List.length_take, List.length_drop, List.length_map, List.length_cons, List.length_nil] <;> omega) | (apply isPure_intro <;> simp))) only [go_sem, reduceIte, reduceCtorEq, Nat.reduceEqDiff, Nat.reduceAdd, Nat.reduceLeDiff, Nat.reduceMul, Nat.reduceSub, Nat.reduceLT, Nat.reduceBEq, Int.reduceToNat, Int.reduceNeg, Int.reduceEq, Int.reduceLT, Int.reduceLE, Bool.and_true, Bool.true_and, Bool.and_self, Bool.not_false, Bool.not_true, and_true, true_and, IntWalk.i64_in, wu64, wu32, wu8, Nat.mod_eq_of_lt, shr32, shr63, shl32, or32, quo64, quo32, quoi64, remk, quo32_10, rem32_10, quoi_10, remi_10, nat_48add, Nat.add_assoc, add_ne_self, lt_ne, gt_ne, add_inj, dlt_t, dlt_f, dle_t, dle_f, deq_t, deq_f, idxB_nats, idxO_f, idxO_t, loadO_natf, loadO_natt, storeO_nat, storeO_natn, newB_mkn, effV_cpy, cpyO_nat, upd_upd, nats_len, List.length_set, ge_iff_le, gt_iff_lt, Int.toNat_natCast, nat_sub1, nat_sub, nat_add1, nat_add, nat_mul, slc3_pos, slc3_zero, slc_to, nats_take, nats_drop, boxB_eq, MV_cells, MV_isAgg, MV_isJunk, part_MV, ints_len, idxB_ints, h0, faP0, faP1, faP2, ldPi]
    refine Exists.elim (bytes_G r1 _ s 2 H1 _ (p1.same (fun _ _ => rfl) (by omega)) (by simp [bytL_len]) (by omega)) fun r2 hr => Exists.elim hr fun H2 hr => Exists.elim hr fun n2 hr => callB_G hr.2 ?_
    obtain ⟨⟨p3, p4, _⟩, _⟩ := hr
    clear hr
    simp -dsimp -implicitDefEqProofs (disch := (first | omega | (simp only [nats_len, List.length_set, List.length_replicate, List.length_append, List.length_take, List.length_drop, List.length_map, List.length_cons, List.length_nil] <;> omega) | (apply isPure_intro <;> simp))) only [go_sem, reduceIte, reduceCtorEq, Nat.reduceEqDiff, Nat.reduceAdd, Nat.reduceLeDiff, Nat.reduceMul, Nat.reduceSub, Nat.reduceLT, Nat.reduceBEq, Int.reduceToNat, Int.reduceNeg, Int.reduceEq, Int.reduceLT, Int.reduceLE, Bool.and_true, Bool.true_and, Bool.and_self, Bool.not_false, Bool.not_true, and_true, true_and, IntWalk.i64_in, wu64, wu32, wu8, Nat.mod_eq_of_lt, shr32, shr63, shl32, or32, quo64, quo32, quoi64, remk, quo32_10, rem32_10, quoi_10, remi_10, nat_48add, Nat.add_assoc, add_ne_self, lt_ne, gt_ne, add_inj, dlt_t, dlt_f, dle_t, dle_f, deq_t, deq_f, idxB_nats, idxO_f, idxO_t, loadO_natf, loadO_natt, storeO_nat, storeO_natn, newB_mkn, effV_cpy, cpyO_nat, upd_upd, nats_len, List.length_set, ge_iff_le, gt_iff_lt, Int.toNat_natCast, nat_sub1, nat_sub, nat_add1, nat_add, nat_mul, slc3_pos, slc3_zero, slc_to, nats_take, nats_drop, boxB_eq, MV_cells, MV_isAgg, MV_isJunk, part_MV, ints_len, idxB_ints, h0, faP0, faP1, faP2, ldPi]
    refine W_loop (T := Nat × V × Hp × Nat) (fun t => ⟨E [(1, .pp (MV k a s v)), (6, t.2.1), (21, .sl (ints v)), (22, .int .i64 v.length), (23, .int .i64 t.1)], t.2.2.1, t.2.2.2, t.2.2.2⟩)
      (fun t => t.1 ≤ v.length ∧ Row 0 t.2.2.1 t.2.2.2 t.2.1 1 (nats .u8 (bytL a 4 ++ bytL s 2 ++ ((v.take t.1).map (bytL · 4)).flatten))) (fun t => v.length - t.1) (0, r2, H2, _) rfl ⟨by dsimp only; omega, by simpa using p3.same (fun _ _ => rfl) (by omega)⟩ ?_
    rintro ⟨i, w, H, nx⟩ ⟨i1, i2⟩
    dsimp only at i1 i2
    have hlen : ∀ u : List Int, ((u.map (bytL · 4)).flatten).length = 4 * u.length := fun u => by
      induction u with
      | nil => rfl
      | cons x u ih => simp [bytL_len, ih]; omega
    have hlt : (v.take i).length ≤ v.length := by simp; omega
    by_cases hi : i < v.length
    · have ht := take_getD hi
      generalize hX : v.getD i 0 = x at *
      simp -dsimp -implicitDefEqProofs (disch := (first | omega | (simp only [nats_len, List.length_set, List.length_replicate, List.length_append, List.length_take, List.length_drop, List.length_map, List.length_cons, List.length_nil] <;> omega) | (apply isPure_intro <;> simp))) only [go_sem, reduceIte, reduceCtorEq, Nat.reduceEqDiff, Nat.reduceAdd, Nat.reduceLeDiff, Nat.reduceMul, Nat.reduceSub, Nat.reduceLT, Nat.reduceBEq, Int.reduceToNat, Int.reduceNeg, Int.reduceEq, Int.reduceLT, Int.reduceLE, Bool.and_true, Bool.true_and, Bool.and_self, Bool.not_false, Bool.not_true, and_true, true_and, IntWalk.i64_in, wu64, wu32, wu8, Nat.mod_eq_of_lt, shr32, shr63, shl32, or32, quo64, quo32, quoi64, remk, quo32_10, rem32_10, quoi_10, remi_10, nat_48add, Nat.add_assoc, add_ne_self, lt_ne, gt_ne, add_inj, dlt_t, dlt_f, dle_t, dle_f, deq_t, deq_f, idxB_nats, idxO_f, idxO_t, loadO_natf, loadO_natt, storeO_nat, storeO_natn, newB_mkn, effV_cpy, cpyO_nat, upd_upd, nats_len, List.length_set, ge_iff_le, gt_iff_lt, Int.toNat_natCast, nat_sub1, nat_sub, nat_add1, nat_add, nat_mul, slc3_pos, slc3_zero, slc_to, nats_take, nats_drop, boxB_eq, MV_cells, MV_isAgg, MV_isJunk, part_MV, ints_len, idxB_ints, hX]
      refine Exists.elim (bytes_G w _ x 4 H _ (i2.same (fun _ _ => rfl) (by omega)) (by simp only [List.length_append, bytL_len, hlen]; omega) (by omega)) fun r3 hr => Exists.elim hr fun H3 hr => Exists.elim hr fun n3 hr => callB_G hr.2 ?_
      obtain ⟨⟨p5, p6, _⟩, _⟩ := hr
      clear hr
      simp -dsimp -implicitDefEqProofs (disch := (first | omega | (simp only [nats_len, List.length_set, List.length_replicate, List.length_append, List.length_take, List.length_drop, List.length_map, List.length_cons, List.length_nil] <;> omega) | (apply isPure_intro <;> simp))) only [go_sem, reduceIte, reduceCtorEq, Nat.reduceEqDiff, Nat.reduceAdd, Nat.reduceLeDiff, Nat.reduceMul, Nat.reduceSub, Nat.reduceLT, Nat.reduceBEq, Int.reduceToNat, Int.reduceNeg, Int.reduceEq, Int.reduceLT, Int.reduceLE, Bool.and_true, Bool.true_and, Bool.and_self, Bool.not_false, Bool.not_true, and_true, true_and, IntWalk.i64_in, wu64, wu32, wu8, Nat.mod_eq_of_lt, shr32, shr63, shl32, or32, quo64, quo32, quoi64, remk, quo32_10, rem32_10, quoi_10, remi_10, nat_48add, Nat.add_assoc, add_ne_self, lt_ne, gt_ne, add_inj, dlt_t, dlt_f, dle_t, dle_f, deq_t, deq_f, idxB_nats, idxO_f, idxO_t, loadO_natf, loadO_natt, storeO_nat, storeO_natn, newB_mkn, effV_cpy, cpyO_nat, upd_upd, nats_len, List.length_set, ge_iff_le, gt_iff_lt, Int.toNat_natCast, nat_sub1, nat_sub, nat_add1, nat_add, nat_mul, slc3_pos, slc3_zero, slc_to, nats_take, nats_drop, boxB_eq, MV_cells, MV_isAgg, MV_isJunk, part_MV, ints_len, idxB_ints, hX]
      refine ⟨(i + 1, r3, H3, _), rfl, ⟨by dsimp only; omega, ?_⟩, by dsimp only; omega⟩
      dsimp only
      rw [ht, List.map_append, List.flatten_append, ← List.append_assoc]
      simpa using p5.same (fun _ _ => rfl) (by omega)
    · rw [List.take_of_length_le (by omega)] at i2
      have e8 : IntKind.u8.wrap k = k := by rw [IntKind.wrap_u8]; omega
      simp -dsimp -implicitDefEqProofs (disch := (first | omega | (simp only [nats_len, List.length_set, List.length_replicate, List.length_append, List.length_take, List.length_drop, List.length_map, List.length_cons, List.length_nil] <;> omega) | (apply isPure_intro <;> simp))) only [go_sem, reduceIte, reduceCtorEq, Nat.reduceEqDiff, Nat.reduceAdd, Nat.reduceLeDiff, Nat.reduceMul, Nat.reduceSub, Nat.reduceLT, Nat.reduceBEq, Int.reduceToNat, Int.reduceNeg, Int.reduceEq, Int.reduceLT, Int.reduceLE, Bool.and_true, Bool.true_and, Bool.and_self, Bool.not_false, Bool.not_true, and_true, true_and, IntWalk.i64_in, wu64, wu32, wu8, Nat.mod_eq_of_lt, shr32, shr63, shl32, or32, quo64, quo32, quoi64, remk, quo32_10, rem32_10, quoi_10, remi_10, nat_48add, Nat.add_assoc, add_ne_self, lt_ne, gt_ne, add_inj, dlt_t, dlt_f, dle_t, dle_f, deq_t, deq_f, idxB_nats, idxO_f, idxO_t, loadO_natf, loadO_natt, storeO_nat, storeO_natn, newB_mkn, effV_cpy, cpyO_nat, upd_upd, nats_len, List.length_set, ge_iff_le, gt_iff_lt, Int.toNat_natCast, nat_sub1, nat_sub, nat_add1, nat_add, nat_mul, slc3_pos, slc3_zero, slc_to, nats_take, nats_drop, boxB_eq, MV_cells, MV_isAgg, MV_isJunk, part_MV, ints_len, idxB_ints, faP0, ldPi, e8]
      refine effB_of (effV_b2s i2.slOf) ?_
      simp -dsimp -implicitDefEqProofs (disch := (first | omega | (simp only [nats_len, List.length_set, List.length_replicate, List.length_append, List.length_take, List.length_drop, List.length_map, List.length_cons, List.length_nil] <;> omega) | (apply isPure_intro <;> simp))) only [go_sem, reduceIte, reduceCtorEq, Nat.reduceEqDiff, Nat.reduceAdd, Nat.reduceLeDiff, Nat.reduceMul, Nat.reduceSub, Nat.reduceLT, Nat.reduceBEq, Int.reduceToNat, Int.reduceNeg, Int.reduceEq, Int.reduceLT, Int.reduceLE, Bool.and_true, Bool.true_and, Bool.and_self, Bool.not_false, Bool.not_true, and_true, true_and, IntWalk.i64_in, wu64, wu32, wu8, Nat.mod_eq_of_lt, shr32, shr63, shl32, or32, quo64, quo32, quoi64, remk, quo32_10, rem32_10, quoi_10, remi_10, nat_48add, Nat.add_assoc, add_ne_self, lt_ne, gt_ne, add_inj, dlt_t, dlt_f, dle_t, dle_f, deq_t, deq_f, idxB_nats, idxO_f, idxO_t, loadO_natf, loadO_natt, storeO_nat, storeO_natn, newB_mkn, effV_cpy, cpyO_nat, upd_upd, nats_len, List.length_set, ge_iff_le, gt_iff_lt, Int.toNat_natCast, nat_sub1, nat_sub, nat_add1, nat_add, nat_mul, slc3_pos, slc3_zero, slc_to, nats_take, nats_drop, boxB_eq, MV_cells, MV_isAgg, MV_isJunk, part_MV, ints_len, idxB_ints, e8]
      rfl
  · rw [if_neg h0]
    simp -dsimp -implicitDefEqProofs (disch := (first | omega | (simp only [nats_len, List.length_set, List.length_replicate, List.length_append, List.length_take, List.length_drop, List.length_map, List.length_cons, List.length_nil] <;> omega) | (apply isPure_intro <;> simp))) only [go_sem, reduceIte, reduceCtorEq, Nat.reduceEqDiff, Nat.reduceAdd, Nat.reduceLeDiff, Nat.reduceMul, Nat.reduceSub, Nat.reduceLT, Nat.reduceBEq, Int.reduceToNat, Int.reduceNeg, Int.reduceEq, Int.reduceLT, Int.reduceLE, Bool.and_true, Bool.true_and, Bool.and_self, Bool.not_false, Bool.not_true, and_true, true_and, IntWalk.i64_in, wu64, wu32, wu8, Nat.mod_eq_of_lt, shr32, shr63, shl32, or32, quo64, quo32, quoi64, remk, quo32_10, rem32_10, quoi_10, remi_10, nat_48add, Nat.add_assoc, add_ne_self, lt_ne, gt_ne, add_inj, dlt_t, dlt_f, dle_t, dle_f, deq_t, deq_f, idxB_nats, idxO_f, idxO_t, loadO_natf, loadO_natt, storeO_nat, storeO_natn, newB_mkn, effV_cpy, cpyO_nat, upd_upd, nats_len, List.length_set, ge_iff_le, gt_iff_lt, Int.toNat_natCast, nat_sub1, nat_sub, nat_add1, nat_add, nat_mul, slc3_pos, slc3_zero, slc_to, nats_take, nats_drop, boxB_eq, MV_cells, MV_isAgg, MV_isJunk, part_MV, ints_len, idxB_ints, h0]
end Go.Gim

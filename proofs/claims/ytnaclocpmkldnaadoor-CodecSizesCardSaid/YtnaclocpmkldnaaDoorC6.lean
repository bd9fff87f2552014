/- The codec: numbers of bytes. -/
import Derived.Test.YtnaclocpmkldnaaDoorC5
import Derived.Test.YtnaclocpmkldnaaDoorM2
set_option maxRecDepth 100000
set_option linter.unusedSimpArgs false
set_option linter.unusedVariables false
namespace Go.Gim
open Go.Proofs
/-- The number of bytes. -/
def numL (l : List Nat) : Nat := l.foldl (fun n c => n * 256 + c) 0
theorem numL_app (l : List Nat) (x : Nat) : numL (l ++ [x]) = numL l * 256 + x := by simp [numL]
theorem fold_lt : ∀ (l : List Nat) (n k : Nat), (∀ x ∈ l, x < 256) → n < 256 ^ k → l.foldl (fun n c => n * 256 + c) n < 256 ^ (k + l.length)
  | [], n, k, _, h => h
  | x :: l, n, k, hx, h => by
    have h1 := hx x (by simp)
    have := fold_lt l (n * 256 + x) (k + 1) (fun y hy => hx y (by simp [hy])) (by rw [Nat.pow_succ]; omega)
    rw [List.foldl_cons, List.length_cons, show k + (l.length + 1) = k + 1 + l.length by omega]
    exact this
theorem numL_lt {l : List Nat} (h : ∀ x ∈ l, x < 256) : numL l < 256 ^ l.length := by
  have := fold_lt l 0 0 h (by decide)
  rwa [Nat.zero_add] at this
theorem u8_nat {x : Nat} (h : x < 256) : (UInt8.ofNat x).toNat = x := by rw [UInt8.toNat_ofNat']; omega
theorem s2b_bstr {l : List Nat} (h : ∀ x ∈ l, x < 256) : redV .s2b [.str (bstr l)] = some (.sl (nats .u8 l)) := by
  simp only [redV, bstr, List.toList_toArray, List.map_map]
  congr 2
  refine List.map_congr_left fun x hx => ?_
  simp only [Function.comp_apply, u8_nat (h x hx)]
theorem idxS_bstr {l : List Nat} {i : Nat} (h : ∀ x ∈ l, x < 256) (hi : i < l.length) : redV .idxS [.str (bstr l), .int .i64 (i : Int)] = some (.int .u8 (l.getD i 0)) := by
  have e : l.getD i 0 = l[i] := by simp [List.getD_eq_getElem?_getD, hi]
  have hx := h l[i] (List.getElem_mem hi)
  simp only [redV, bstr, List.toList_toArray, Int.toNat_natCast]
  rw [if_pos (by omega), List.getElem?_map, List.getElem?_eq_getElem hi, e]
  simp only [Option.map_some, u8_nat hx]
theorem bstr_of (s : ByteArray) : ∃ l : List Nat, (∀ x ∈ l, x < 256) ∧ s = bstr l := by
  refine ⟨s.data.toList.map UInt8.toNat, fun x hx => ?_, ?_⟩
  · obtain ⟨y, _, rfl⟩ := List.mem_map.1 hx
    exact y.toNat_lt
  · apply ByteArray.ext
    simp [bstr, Function.comp_def]
theorem or8 {a b : Nat} (ha : a < 1099511627776) (hb : b < 256) : intV .or .i64 ((a * 256 : Nat) : Int) (b : Int) = some (.int .i64 (a * 256 + b : Nat)) := by
  have e : a * 256 ||| b = a * 256 + b := by
    have := Nat.shiftLeft_add_eq_or_of_lt (i := 8) (b := b) (by simpa using hb) a
    rw [Nat.shiftLeft_eq] at this
    exact this.symm
  have h1 : (a * 256) % 18446744073709551616 = a * 256 := Nat.mod_eq_of_lt (by omega)
  have h2 : b % 18446744073709551616 = b := Nat.mod_eq_of_lt (by omega)
  simp only [intV, bitsV]
  congr 2
  have : (BitVec.ofInt IntKind.i64.bits ((a * 256 : Nat) : Int) ||| BitVec.ofInt IntKind.i64.bits (b : Int)).toNat = a * 256 + b := by
    rw [BitVec.toNat_or, BitVec.ofInt_natCast, BitVec.ofInt_natCast, BitVec.toNat_ofNat, BitVec.toNat_ofNat]
    show (a * 256 % 18446744073709551616 ||| b % 18446744073709551616) = _
    rw [h1, h2, e]
  rw [this, IntWalk.i64_in _ (by omega)]
theorem shl8 {n : Nat} (h : n < 1099511627776) : shiftV .shl .i64 (n : Int) 8 = some (.int .i64 (n * 256 : Nat)) := by
  have p : (2 : Int) ^ 8 = 256 := by decide
  show some (V.int .i64 (IntKind.i64.wrap ((n : Int) * (2 ^ 8)))) = _
  rw [p, show (n : Int) * 256 = ((n * 256 : Nat) : Int) by omega, IntWalk.i64_in _ (by omega)]
theorem pow256 {k : Nat} (h : k ≤ 5) : 256 ^ k ≤ 1099511627776 := Nat.pow_le_pow_right (n := 256) (by decide) h
theorem number_ret (l : List Nat) (hb : ∀ x ∈ l, x < 256) (hl : l.length ≤ 4) : Ret pg n_codec_number [.str (bstr l)] (.int .i64 (numL l)) := by
  refine codec_number.of rfl (W_b ?_)
  unfold codec_number.k codec_number.res
  have s1 : redV .s2b [.str (bstr l)] = some (.sl (nats .u8 l)) := s2b_bstr hb
  simp -dsimp -implicitDefEqProofs (disch := (first | omega | (simp only [nats_len, List.length_set, List.length_replicate, List.length_append, List.length_take, List.length_drop, List.length_map, List.length_cons, List.length_nil] <;> omega) | (apply isPure_intro <;> simp))) only [go_sem, reduceIte, reduceCtorEq, Nat.reduceEqDiff, Nat.reduceAdd, Nat.reduceLeDiff, Nat.reduceMul, Nat.reduceSub, Nat.reduceLT, Nat.reduceBEq, Int.reduceToNat, Int.reduceNeg, Int.reduceEq, Int.reduceLT, Int.reduceLE, Bool.and_true, Bool.true_and, Bool.and_self, Bool.not_false, Bool.not_true, and_true, true_and, IntWalk.i64_in, wu64, wu32, wu8, Nat.mod_eq_of_lt, shr32, shr63, shl32, or32, quo64, quo32, quoi64, remk, quo32_10, rem32_10, quoi_10, remi_10, nat_48add, Nat.add_assoc, add_ne_self, lt_ne, gt_ne, add_inj, dlt_t, dlt_f, dle_t, dle_f, deq_t, deq_f, idxB_nats, idxO_f, idxO_t, loadO_natf, loadO_natt, storeO_nat, storeO_natn, newB_mkn, effV_cpy, cpyO_nat, upd_upd, nats_len, List.length_set, ge_iff_le, gt_iff_lt, Int.toNat_natCast, nat_sub1, nat_sub, nat_add1, nat_add, nat_mul, slc3_pos, slc3_zero, slc_to, nats_take, nats_drop, boxB_eq, s1]
  refine W_loop (T := Nat × Nat) (fun t => ⟨E [(3, .int .i64 (numL (l.take t.1))), (7, .sl (nats .u8 l)), (8, .int .i64 l.length), (9, .int .i64 t.1)], fun _ => none, t.2, t.2⟩) (fun t => t.1 ≤ l.length) (fun t => l.length - t.1) (0, _) rfl (by dsimp only; omega) ?_
  rintro ⟨i, nx⟩ i1
  dsimp only at i1
  by_cases hi : i < l.length
  · have ht : l.take (i + 1) = l.take i ++ [l.getD i 0] := by rw [List.take_add_one]; simp [List.getD_eq_getElem?_getD, hi]
    have hx : l.getD i 0 < 256 := getD_lt hb (by decide)
    have hn := numL_lt (l := l.take i) fun y hy => hb y (List.mem_of_mem_take hy)
    have hp := pow256 (k := (l.take i).length) (by simp; omega)
    have hnx := numL_app (l.take i) (l.getD i 0)
    rw [← ht] at hnx
    generalize hX : l.getD i 0 = x at *
    generalize hN : numL (l.take i) = n at *
    simp -dsimp -implicitDefEqProofs (disch := (first | omega | (simp only [nats_len, List.length_set, List.length_replicate, List.length_append, List.length_take, List.length_drop, List.length_map, List.length_cons, List.length_nil] <;> omega) | (apply isPure_intro <;> simp))) only [go_sem, reduceIte, reduceCtorEq, Nat.reduceEqDiff, Nat.reduceAdd, Nat.reduceLeDiff, Nat.reduceMul, Nat.reduceSub, Nat.reduceLT, Nat.reduceBEq, Int.reduceToNat, Int.reduceNeg, Int.reduceEq, Int.reduceLT, Int.reduceLE, Bool.and_true, Bool.true_and, Bool.and_self, Bool.not_false, Bool.not_true, and_true, true_and, IntWalk.i64_in, wu64, wu32, wu8, Nat.mod_eq_of_lt, shr32, shr63, shl32, or32, quo64, quo32, quoi64, remk, quo32_10, rem32_10, quoi_10, remi_10, nat_48add, Nat.add_assoc, add_ne_self, lt_ne, gt_ne, add_inj, dlt_t, dlt_f, dle_t, dle_f, deq_t, deq_f, idxB_nats, idxO_f, idxO_t, loadO_natf, loadO_natt, storeO_nat, storeO_natn, newB_mkn, effV_cpy, cpyO_nat, upd_upd, nats_len, List.length_set, ge_iff_le, gt_iff_lt, Int.toNat_natCast, nat_sub1, nat_sub, nat_add1, nat_add, nat_mul, slc3_pos, slc3_zero, slc_to, nats_take, nats_drop, boxB_eq, hX, hN, shl8, or8]
    exact ⟨(i + 1, _), by rw [hnx], by dsimp only; omega, by dsimp only; omega⟩
  · rw [List.take_of_length_le (by omega)]
    simp -dsimp -implicitDefEqProofs (disch := (first | omega | (simp only [nats_len, List.length_set, List.length_replicate, List.length_append, List.length_take, List.length_drop, List.length_map, List.length_cons, List.length_nil] <;> omega) | (apply isPure_intro <;> simp))) only [go_sem, reduceIte, reduceCtorEq, Nat.reduceEqDiff, Nat.reduceAdd, Nat.reduceLeDiff, Nat.reduceMul, Nat.reduceSub, Nat.reduceLT, Nat.reduceBEq, Int.reduceToNat, Int.reduceNeg, Int.reduceEq, Int.reduceLT, Int.reduceLE, Bool.and_true, Bool.true_and, Bool.and_self, Bool.not_false, Bool.not_true, and_true, true_and, IntWalk.i64_in, wu64, wu32, wu8, Nat.mod_eq_of_lt, shr32, shr63, shl32, or32, quo64, quo32, quoi64, remk, quo32_10, rem32_10, quoi_10, remi_10, nat_48add, Nat.add_assoc, add_ne_self, lt_ne, gt_ne, add_inj, dlt_t, dlt_f, dle_t, dle_f, deq_t, deq_f, idxB_nats, idxO_f, idxO_t, loadO_natf, loadO_natt, storeO_nat, storeO_natn, newB_mkn, effV_cpy, cpyO_nat, upd_upd, nats_len, List.length_set, ge_iff_le, gt_iff_lt, Int.toNat_natCast, nat_sub1, nat_sub, nat_add1, nat_add, nat_mul, slc3_pos, slc3_zero, slc_to, nats_take, nats_drop, boxB_eq]
theorem rnumber_ret (l : List Nat) (hb : ∀ x ∈ l, x < 256) (hl : l.length ≤ 4) : Ret pg n_gimbalref12_number [.str (bstr l)] (.int .i64 (numL l)) := by
  refine gimbalref12_number.of rfl (W_b ?_)
  unfold gimbalref12_number.k gimbalref12_number.res
  simp -dsimp -implicitDefEqProofs (disch := (first | omega | (simp only [nats_len, List.length_set, List.length_replicate, List.length_append, List.length_take, List.length_drop, List.length_map, List.length_cons, List.length_nil] <;> omega) | (apply isPure_intro <;> simp))) only [go_sem, reduceIte, reduceCtorEq, Nat.reduceEqDiff, Nat.reduceAdd, Nat.reduceLeDiff, Nat.reduceMul, Nat.reduceSub, Nat.reduceLT, Nat.reduceBEq, Int.reduceToNat, Int.reduceNeg, Int.reduceEq, Int.reduceLT, Int.reduceLE, Bool.and_true, Bool.true_and, Bool.and_self, Bool.not_false, Bool.not_true, and_true, true_and, IntWalk.i64_in, wu64, wu32, wu8, Nat.mod_eq_of_lt, shr32, shr63, shl32, or32, quo64, quo32, quoi64, remk, quo32_10, rem32_10, quoi_10, remi_10, nat_48add, Nat.add_assoc, add_ne_self, lt_ne, gt_ne, add_inj, dlt_t, dlt_f, dle_t, dle_f, deq_t, deq_f, idxB_nats, idxO_f, idxO_t, loadO_natf, loadO_natt, storeO_nat, storeO_natn, newB_mkn, effV_cpy, cpyO_nat, upd_upd, nats_len, List.length_set, ge_iff_le, gt_iff_lt, Int.toNat_natCast, nat_sub1, nat_sub, nat_add1, nat_add, nat_mul, slc3_pos, slc3_zero, slc_to, nats_take, nats_drop, boxB_eq]
  refine W_loop (T := Nat × Nat) (fun t => ⟨E [(0, .str (bstr l)), (3, .int .i64 (numL (l.take t.1))), (4, .int .i64 t.1)], fun _ => none, t.2, t.2⟩) (fun t => t.1 ≤ l.length) (fun t => l.length - t.1) (0, _) rfl (by dsimp only; omega) ?_
  rintro ⟨i, nx⟩ i1
  dsimp only at i1
  by_cases hi : i < l.length
  · have ht : l.take (i + 1) = l.take i ++ [l.getD i 0] := by rw [List.take_add_one]; simp [List.getD_eq_getElem?_getD, hi]
    have hx : l.getD i 0 < 256 := getD_lt hb (by decide)
    have hn := numL_lt (l := l.take i) fun y hy => hb y (List.mem_of_mem_take hy)
    have hp := pow256 (k := (l.take i).length) (by simp; omega)
    have hnx := numL_app (l.take i) (l.getD i 0)
    rw [← ht] at hnx
    have s1 : redV .idxS [.str (bstr l), .int .i64 (i : Int)] = some (.int .u8 (l.getD i 0)) := idxS_bstr hb hi
    generalize hX : l.getD i 0 = x at *
    generalize hN : numL (l.take i) = n at *
    simp -dsimp -implicitDefEqProofs (disch := (first | omega | (simp only [nats_len, List.length_set, List.length_replicate, List.length_append, List.length_take, List.length_drop, List.length_map, List.length_cons, List.length_nil] <;> omega) | (apply isPure_intro <;> simp))) only [go_sem, reduceIte, reduceCtorEq, Nat.reduceEqDiff, Nat.reduceAdd, Nat.reduceLeDiff, Nat.reduceMul, Nat.reduceSub, Nat.reduceLT, Nat.reduceBEq, Int.reduceToNat, Int.reduceNeg, Int.reduceEq, Int.reduceLT, Int.reduceLE, Bool.and_true, Bool.true_and, Bool.and_self, Bool.not_false, Bool.not_true, and_true, true_and, IntWalk.i64_in, wu64, wu32, wu8, Nat.mod_eq_of_lt, shr32, shr63, shl32, or32, quo64, quo32, quoi64, remk, quo32_10, rem32_10, quoi_10, remi_10, nat_48add, Nat.add_assoc, add_ne_self, lt_ne, gt_ne, add_inj, dlt_t, dlt_f, dle_t, dle_f, deq_t, deq_f, idxB_nats, idxO_f, idxO_t, loadO_natf, loadO_natt, storeO_nat, storeO_natn, newB_mkn, effV_cpy, cpyO_nat, upd_upd, nats_len, List.length_set, ge_iff_le, gt_iff_lt, Int.toNat_natCast, nat_sub1, nat_sub, nat_add1, nat_add, nat_mul, slc3_pos, slc3_zero, slc_to, nats_take, nats_drop, boxB_eq, hX, hN, s1, bstr_size]
    exact ⟨(i + 1, _), by dsimp only; rw [hnx, show ((n * 256 + x : Nat) : Int) = 256 * (n : Int) + (x : Int) by omega], by dsimp only; omega, by dsimp only; omega⟩
  · rw [List.take_of_length_le (by omega)]
    simp -dsimp -implicitDefEqProofs (disch := (first | omega | (simp only [nats_len, List.length_set, List.length_replicate, List.length_append, List.length_take, List.length_drop, List.length_map, List.length_cons, List.length_nil] <;> omega) | (apply isPure_intro <;> simp))) only [go_sem, reduceIte, reduceCtorEq, Nat.reduceEqDiff, Nat.reduceAdd, Nat.reduceLeDiff, Nat.reduceMul, Nat.reduceSub, Nat.reduceLT, Nat.reduceBEq, Int.reduceToNat, Int.reduceNeg, Int.reduceEq, Int.reduceLT, Int.reduceLE, Bool.and_true, Bool.true_and, Bool.and_self, Bool.not_false, Bool.not_true, and_true, true_and, IntWalk.i64_in, wu64, wu32, wu8, Nat.mod_eq_of_lt, shr32, shr63, shl32, or32, quo64, quo32, quoi64, remk, quo32_10, rem32_10, quoi_10, remi_10, nat_48add, Nat.add_assoc, add_ne_self, lt_ne, gt_ne, add_inj, dlt_t, dlt_f, dle_t, dle_f, deq_t, deq_f, idxB_nats, idxO_f, idxO_t, loadO_natf, loadO_natt, storeO_nat, storeO_natn, newB_mkn, effV_cpy, cpyO_nat, upd_upd, nats_len, List.length_set, ge_iff_le, gt_iff_lt, Int.toNat_natCast, nat_sub1, nat_sub, nat_add1, nat_add, nat_mul, slc3_pos, slc3_zero, slc_to, nats_take, nats_drop, boxB_eq, bstr_size]
end Go.Gim

/- The chapter's examples. -/
import Derived.Test.YtnaclocpmkldnaaDoorC8
set_option maxRecDepth 100000
set_option linter.unusedSimpArgs false
set_option linter.unusedVariables false
namespace Go.Gim
open Go.Proofs
theorem Ret.weaken {P : Program} {f : Nat} {args args' : List V} {r : V} (h : Ret P f args' r) (hl : args.length = args'.length) (hp : ∀ M w k x, Pur M w (args.getD k .junk) x → Pur M w (args'.getD k .junk) x) : Ret P f args r := by
  refine ⟨h.1, fun M w vals Mb hg hs ha => h.2 M w vals Mb hg (by rw [hs, hl]) fun k hk => hp _ _ _ _ (ha k (by omega))⟩
theorem pur_nil {M : Nat → Prop} {w : World} {x : Value} (h : Pur M w .nil x) : Pur M w (.sl []) x := by cases h; exact .sl0 _ _
theorem encode_nil (k a s : Int) : Ret pg n_codec_Encode [.agg [.int .i64 k, .int .i64 a, .int .i64 s, .nil]] (encV k a s []) := by
  refine (encode_ret k a s [] (by simp)).weaken rfl fun M w i x h => ?_
  match i with
  | 0 =>
    simp only [List.getD_cons_zero] at h ⊢
    cases h with
    | agg cs arr hn hc =>
      refine .agg _ _ hn fun j hj => ?_
      have := hc j (by simpa [ints] using hj)
      match j with
      | 0 => exact this
      | 1 => exact this
      | 2 => exact this
      | 3 => exact pur_nil this
      | j + 4 => simp [ints] at hj; omega
  | i + 1 => simpa using h
theorem upd_sub (g : Nat → Option (List V)) (f : Nat → V) (k : Nat) (v : V) : (fun s => (upd f k v s).sub g) = upd (fun s => (f s).sub g) k (v.sub g) := by
  funext s; simp only [upd]; split <;> rfl
theorem E_sub' (g : Nat → Option (List V)) (l : List (Nat × V)) : (fun s => (E l s).sub g) = E (l.map fun p => (p.1, p.2.sub g)) := by
  funext s
  induction l with
  | nil => simp [E, V.sub]
  | cons p l ih =>
    obtain ⟨a, v⟩ := p
    simp only [List.map_cons, E]
    split
    · rfl
    · exact ih
theorem Hsub_upd (g : Nat → Option (List V)) (H : Hp) (b : Nat) (blk : Blk) : Hp.sub g (H.upd b (some blk)) = (Hp.sub g H).upd b (if (g b).isSome then none else some ⟨blk.elems.map (V.sub g), blk.size⟩) := by
  funext c
  simp only [Hp.sub, Hp.upd]
  by_cases h : c = b
  · subst h; simp
  · simp [h]
theorem Hsub_none (g : Nat → Option (List V)) : Hp.sub g (fun _ => none) = fun _ => none := by funext c; simp [Hp.sub]
theorem awake12_ret : Ret pg n_gimballaw12_awake [] (.bool true) := by
  have c1 : encV 3 258 3 [-1] = .tup [.int .u8 3, .str (bstr [0, 0, 1, 2, 0, 3, 255, 255, 255, 255]), .int .i64 0] := by
    have h : rightE 3 258 3 [-1] = 0 := by decide
    unfold encV; rw [if_pos h]
    have e : encL 258 3 [-1] = [0, 0, 1, 2, 0, 3, 255, 255, 255, 255] := by decide
    rw [e]
  have d1 : decV 3 [0, 0, 1, 2, 0, 3, 255, 255, 255, 255] = .tup [MV 3 258 3 [-1], .int .i64 0] := by
    unfold decV; rw [if_neg (by decide), if_neg (by decide), if_neg (by decide)]; rfl
  have d2 : decV 5 [0, 0, 1, 2, 0, 3, 255, 255, 255, 255] = .tup [MV 0 0 0 [], .int .i64 120] := by
    unfold decV; rw [if_pos (by decide)]
  have d3 : decV 3 [49, 50, 51, 52, 53, 54, 55, 56, 57] = .tup [MV 0 0 0 [], .int .i64 121] := by
    unfold decV; rw [if_neg (by decide), if_pos (by decide)]
  have d4 : decV 3 [0, 0, 0, 0, 0, 0, 128, 0, 0, 0] = .tup [MV 0 0 0 [], .int .i64 122] := by
    unfold decV; rw [if_neg (by decide), if_neg (by decide), if_pos (by decide)]
  have c2 : encV 3 0 0 [] = .tup [.int .u8 0, .str ⟨#[]⟩, .int .i64 121] := by
    have h : rightE 3 0 0 [] = 121 := by decide
    unfold encV; rw [h, if_neg (by decide)]
  have c3 : encV 3 0 0 [2147483648] = .tup [.int .u8 0, .str ⟨#[]⟩, .int .i64 122] := by
    have h : rightE 3 0 0 [2147483648] = 122 := by decide
    unfold encV; rw [h, if_neg (by decide)]
  have c4 : encV 3 4294967296 0 [0] = .tup [.int .u8 0, .str ⟨#[]⟩, .int .i64 122] := by
    have h : rightE 3 4294967296 0 [0] = 122 := by decide
    unfold encV; rw [h, if_neg (by decide)]
  have k1 : (cnt 1 : Nat) = 6 := by decide
  have k9 : (cnt 9 : Nat) = 0 := by decide
  have r1 := encode_ret 3 258 3 [-1] (by simp)
  have r2 := decode_ret 3 [0, 0, 1, 2, 0, 3, 255, 255, 255, 255] (by decide) (by decide) (by decide)
  have r3 := decode_ret 5 [0, 0, 1, 2, 0, 3, 255, 255, 255, 255] (by decide) (by decide) (by decide)
  have r4 := decode_ret 3 [49, 50, 51, 52, 53, 54, 55, 56, 57] (by decide) (by decide) (by decide)
  have r5 := decode_ret 3 [0, 0, 0, 0, 0, 0, 128, 0, 0, 0] (by decide) (by decide) (by decide)
  have r6 := encode_nil 3 0 0
  have r7 := encode_ret 3 0 0 [2147483648] (by simp)
  have r8 := encode_ret 3 4294967296 0 [0] (by simp)
  have r9 := same_ret 3 258 3 [-1] 3 258 3 [-1] (by simp) (by simp)
  have r10 := count_ret 1
  have r11 := count_ret 9
  rw [c1] at r1
  rw [d1] at r2
  rw [d2] at r3
  rw [d3] at r4
  rw [d4] at r5
  rw [c2] at r6
  rw [c3] at r7
  rw [c4] at r8
  rw [k1] at r10
  rw [k9] at r11
  rw [show decide ((3 : Int) = 3 ∧ (258 : Int) = 258 ∧ (3 : Int) = 3 ∧ [-1] = [(-1 : Int)]) = true by decide] at r9
  refine gimballaw12_awake.of rfl (W_b ?_)
  unfold gimballaw12_awake.k gimballaw12_awake.res
  have pi : ∀ l : List Int, ∀ x ∈ ints l, V.Pure x := fun l x hx => by obtain ⟨a, _, rfl⟩ := List.mem_map.1 hx; exact .int _ _
  simp -dsimp -implicitDefEqProofs (disch := (first | omega | (simp only [nats_len, List.length_set, List.length_replicate, List.length_append, List.length_take, List.length_drop, List.length_map, List.length_cons, List.length_nil] <;> omega) | (apply isPure_intro <;> simp))) only [go_sem, reduceIte, reduceCtorEq, Nat.reduceEqDiff, Nat.reduceAdd, Nat.reduceLeDiff, Nat.reduceMul, Nat.reduceSub, Nat.reduceLT, Nat.reduceBEq, Int.reduceToNat, Int.reduceNeg, Int.reduceEq, Int.reduceLT, Int.reduceLE, Bool.and_true, Bool.true_and, Bool.and_self, Bool.not_false, Bool.not_true, and_true, true_and, IntWalk.i64_in, wu64, wu32, wu8, Nat.mod_eq_of_lt, shr32, shr63, shl32, or32, quo64, quo32, quoi64, remk, quo32_10, rem32_10, quoi_10, remi_10, nat_48add, Nat.add_assoc, add_ne_self, lt_ne, gt_ne, add_inj, dlt_t, dlt_f, dle_t, dle_f, deq_t, deq_f, idxB_nats, idxO_f, idxO_t, loadO_natf, loadO_natt, storeO_nat, storeO_natn, newB_mkn, effV_cpy, cpyO_nat, upd_upd, nats_len, List.length_set, ge_iff_le, gt_iff_lt, Int.toNat_natCast, nat_sub1, nat_sub, nat_add1, nat_add, nat_mul, slc3_pos, slc3_zero, slc_to, nats_take, nats_drop, boxB_eq, MV_cells, MV_isAgg, MV_isJunk, part_MV, ints_len, idxB_ints]
  refine callB_fr (fz1 1 (ints [-1])) (fz1_ok (es := 1) rfl (pi _)) (by simp [V.sub, fz1, sub_agg, ints_len]; rfl) r1 (by simp) ?_
  rw [upd_sub, E_sub', Hsub_upd, Hsub_upd, Hsub_none]
  simp only [List.map_cons, List.map_nil, sub_agg, V.sub, fz1, Nat.reduceEqDiff, if_true, if_false, ints_len, List.length_cons, List.length_nil, Nat.zero_add, Option.isSome_some, Option.isSome_none, Bool.false_eq_true]
  simp -dsimp -implicitDefEqProofs (disch := (first | omega | (simp only [nats_len, List.length_set, List.length_replicate, List.length_append, List.length_take, List.length_drop, List.length_map, List.length_cons, List.length_nil] <;> omega) | (apply isPure_intro <;> simp))) only [go_sem, reduceIte, reduceCtorEq, Nat.reduceEqDiff, Nat.reduceAdd, Nat.reduceLeDiff, Nat.reduceMul, Nat.reduceSub, Nat.reduceLT, Nat.reduceBEq, Int.reduceToNat, Int.reduceNeg, Int.reduceEq, Int.reduceLT, Int.reduceLE, Bool.and_true, Bool.true_and, Bool.and_self, Bool.not_false, Bool.not_true, and_true, true_and, IntWalk.i64_in, wu64, wu32, wu8, Nat.mod_eq_of_lt, shr32, shr63, shl32, or32, quo64, quo32, quoi64, remk, quo32_10, rem32_10, quoi_10, remi_10, nat_48add, Nat.add_assoc, add_ne_self, lt_ne, gt_ne, add_inj, dlt_t, dlt_f, dle_t, dle_f, deq_t, deq_f, idxB_nats, idxO_f, idxO_t, loadO_natf, loadO_natt, storeO_nat, storeO_natn, newB_mkn, effV_cpy, cpyO_nat, upd_upd, nats_len, List.length_set, ge_iff_le, gt_iff_lt, Int.toNat_natCast, nat_sub1, nat_sub, nat_add1, nat_add, nat_mul, slc3_pos, slc3_zero, slc_to, nats_take, nats_drop, boxB_eq, MV_cells, MV_isAgg, MV_isJunk, part_MV, ints_len, idxB_ints]
  refine callB_of r2 (by simp) ?_
  simp -dsimp -implicitDefEqProofs (disch := (first | omega | (simp only [nats_len, List.length_set, List.length_replicate, List.length_append, List.length_take, List.length_drop, List.length_map, List.length_cons, List.length_nil] <;> omega) | (apply isPure_intro <;> simp))) only [go_sem, reduceIte, reduceCtorEq, Nat.reduceEqDiff, Nat.reduceAdd, Nat.reduceLeDiff, Nat.reduceMul, Nat.reduceSub, Nat.reduceLT, Nat.reduceBEq, Int.reduceToNat, Int.reduceNeg, Int.reduceEq, Int.reduceLT, Int.reduceLE, Bool.and_true, Bool.true_and, Bool.and_self, Bool.not_false, Bool.not_true, and_true, true_and, IntWalk.i64_in, wu64, wu32, wu8, Nat.mod_eq_of_lt, shr32, shr63, shl32, or32, quo64, quo32, quoi64, remk, quo32_10, rem32_10, quoi_10, remi_10, nat_48add, Nat.add_assoc, add_ne_self, lt_ne, gt_ne, add_inj, dlt_t, dlt_f, dle_t, dle_f, deq_t, deq_f, idxB_nats, idxO_f, idxO_t, loadO_natf, loadO_natt, storeO_nat, storeO_natn, newB_mkn, effV_cpy, cpyO_nat, upd_upd, nats_len, List.length_set, ge_iff_le, gt_iff_lt, Int.toNat_natCast, nat_sub1, nat_sub, nat_add1, nat_add, nat_mul, slc3_pos, slc3_zero, slc_to, nats_take, nats_drop, boxB_eq, MV_cells, MV_isAgg, MV_isJunk, part_MV, ints_len, idxB_ints]
  refine callB_of r3 (by simp) ?_
  simp -dsimp -implicitDefEqProofs (disch := (first | omega | (simp only [nats_len, List.length_set, List.length_replicate, List.length_append, List.length_take, List.length_drop, List.length_map, List.length_cons, List.length_nil] <;> omega) | (apply isPure_intro <;> simp))) only [go_sem, reduceIte, reduceCtorEq, Nat.reduceEqDiff, Nat.reduceAdd, Nat.reduceLeDiff, Nat.reduceMul, Nat.reduceSub, Nat.reduceLT, Nat.reduceBEq, Int.reduceToNat, Int.reduceNeg, Int.reduceEq, Int.reduceLT, Int.reduceLE, Bool.and_true, Bool.true_and, Bool.and_self, Bool.not_false, Bool.not_true, and_true, true_and, IntWalk.i64_in, wu64, wu32, wu8, Nat.mod_eq_of_lt, shr32, shr63, shl32, or32, quo64, quo32, quoi64, remk, quo32_10, rem32_10, quoi_10, remi_10, nat_48add, Nat.add_assoc, add_ne_self, lt_ne, gt_ne, add_inj, dlt_t, dlt_f, dle_t, dle_f, deq_t, deq_f, idxB_nats, idxO_f, idxO_t, loadO_natf, loadO_natt, storeO_nat, storeO_natn, newB_mkn, effV_cpy, cpyO_nat, upd_upd, nats_len, List.length_set, ge_iff_le, gt_iff_lt, Int.toNat_natCast, nat_sub1, nat_sub, nat_add1, nat_add, nat_mul, slc3_pos, slc3_zero, slc_to, nats_take, nats_drop, boxB_eq, MV_cells, MV_isAgg, MV_isJunk, part_MV, ints_len, idxB_ints]
  refine callB_of r4 (by simp) ?_
  simp -dsimp -implicitDefEqProofs (disch := (first | omega | (simp only [nats_len, List.length_set, List.length_replicate, List.length_append, List.length_take, List.length_drop, List.length_map, List.length_cons, List.length_nil] <;> omega) | (apply isPure_intro <;> simp))) only [go_sem, reduceIte, reduceCtorEq, Nat.reduceEqDiff, Nat.reduceAdd, Nat.reduceLeDiff, Nat.reduceMul, Nat.reduceSub, Nat.reduceLT, Nat.reduceBEq, Int.reduceToNat, Int.reduceNeg, Int.reduceEq, Int.reduceLT, Int.reduceLE, Bool.and_true, Bool.true_and, Bool.and_self, Bool.not_false, Bool.not_true, and_true, true_and, IntWalk.i64_in, wu64, wu32, wu8, Nat.mod_eq_of_lt, shr32, shr63, shl32, or32, quo64, quo32, quoi64, remk, quo32_10, rem32_10, quoi_10, remi_10, nat_48add, Nat.add_assoc, add_ne_self, lt_ne, gt_ne, add_inj, dlt_t, dlt_f, dle_t, dle_f, deq_t, deq_f, idxB_nats, idxO_f, idxO_t, loadO_natf, loadO_natt, storeO_nat, storeO_natn, newB_mkn, effV_cpy, cpyO_nat, upd_upd, nats_len, List.length_set, ge_iff_le, gt_iff_lt, Int.toNat_natCast, nat_sub1, nat_sub, nat_add1, nat_add, nat_mul, slc3_pos, slc3_zero, slc_to, nats_take, nats_drop, boxB_eq, MV_cells, MV_isAgg, MV_isJunk, part_MV, ints_len, idxB_ints]
  refine callB_of r5 (by simp) ?_
  simp -dsimp -implicitDefEqProofs (disch := (first | omega | (simp only [nats_len, List.length_set, List.length_replicate, List.length_append, List.length_take, List.length_drop, List.length_map, List.length_cons, List.length_nil] <;> omega) | (apply isPure_intro <;> simp))) only [go_sem, reduceIte, reduceCtorEq, Nat.reduceEqDiff, Nat.reduceAdd, Nat.reduceLeDiff, Nat.reduceMul, Nat.reduceSub, Nat.reduceLT, Nat.reduceBEq, Int.reduceToNat, Int.reduceNeg, Int.reduceEq, Int.reduceLT, Int.reduceLE, Bool.and_true, Bool.true_and, Bool.and_self, Bool.not_false, Bool.not_true, and_true, true_and, IntWalk.i64_in, wu64, wu32, wu8, Nat.mod_eq_of_lt, shr32, shr63, shl32, or32, quo64, quo32, quoi64, remk, quo32_10, rem32_10, quoi_10, remi_10, nat_48add, Nat.add_assoc, add_ne_self, lt_ne, gt_ne, add_inj, dlt_t, dlt_f, dle_t, dle_f, deq_t, deq_f, idxB_nats, idxO_f, idxO_t, loadO_natf, loadO_natt, storeO_nat, storeO_natn, newB_mkn, effV_cpy, cpyO_nat, upd_upd, nats_len, List.length_set, ge_iff_le, gt_iff_lt, Int.toNat_natCast, nat_sub1, nat_sub, nat_add1, nat_add, nat_mul, slc3_pos, slc3_zero, slc_to, nats_take, nats_drop, boxB_eq, MV_cells, MV_isAgg, MV_isJunk, part_MV, ints_len, idxB_ints]
  refine callB_of r6 (by simp) ?_
  simp -dsimp -implicitDefEqProofs (disch := (first | omega | (simp only [nats_len, List.length_set, List.length_replicate, List.length_append, List.length_take, List.length_drop, List.length_map, List.length_cons, List.length_nil] <;> omega) | (apply isPure_intro <;> simp))) only [go_sem, reduceIte, reduceCtorEq, Nat.reduceEqDiff, Nat.reduceAdd, Nat.reduceLeDiff, Nat.reduceMul, Nat.reduceSub, Nat.reduceLT, Nat.reduceBEq, Int.reduceToNat, Int.reduceNeg, Int.reduceEq, Int.reduceLT, Int.reduceLE, Bool.and_true, Bool.true_and, Bool.and_self, Bool.not_false, Bool.not_true, and_true, true_and, IntWalk.i64_in, wu64, wu32, wu8, Nat.mod_eq_of_lt, shr32, shr63, shl32, or32, quo64, quo32, quoi64, remk, quo32_10, rem32_10, quoi_10, remi_10, nat_48add, Nat.add_assoc, add_ne_self, lt_ne, gt_ne, add_inj, dlt_t, dlt_f, dle_t, dle_f, deq_t, deq_f, idxB_nats, idxO_f, idxO_t, loadO_natf, loadO_natt, storeO_nat, storeO_natn, newB_mkn, effV_cpy, cpyO_nat, upd_upd, nats_len, List.length_set, ge_iff_le, gt_iff_lt, Int.toNat_natCast, nat_sub1, nat_sub, nat_add1, nat_add, nat_mul, slc3_pos, slc3_zero, slc_to, nats_take, nats_drop, boxB_eq, MV_cells, MV_isAgg, MV_isJunk, part_MV, ints_len, idxB_ints]
  refine callB_fr1 52 (ints [2147483648]) (es := 1) rfl (pi _) (by simp [V.sub, fz1, sub_agg, ints_len]; rfl) r7 (by simp) ?_
  simp -dsimp -implicitDefEqProofs (disch := (first | omega | (simp only [nats_len, List.length_set, List.length_replicate, List.length_append, List.length_take, List.length_drop, List.length_map, List.length_cons, List.length_nil] <;> omega) | (apply isPure_intro <;> simp))) only [go_sem, reduceIte, reduceCtorEq, Nat.reduceEqDiff, Nat.reduceAdd, Nat.reduceLeDiff, Nat.reduceMul, Nat.reduceSub, Nat.reduceLT, Nat.reduceBEq, Int.reduceToNat, Int.reduceNeg, Int.reduceEq, Int.reduceLT, Int.reduceLE, Bool.and_true, Bool.true_and, Bool.and_self, Bool.not_false, Bool.not_true, and_true, true_and, IntWalk.i64_in, wu64, wu32, wu8, Nat.mod_eq_of_lt, shr32, shr63, shl32, or32, quo64, quo32, quoi64, remk, quo32_10, rem32_10, quoi_10, remi_10, nat_48add, Nat.add_assoc, add_ne_self, lt_ne, gt_ne, add_inj, dlt_t, dlt_f, dle_t, dle_f, deq_t, deq_f, idxB_nats, idxO_f, idxO_t, loadO_natf, loadO_natt, storeO_nat, storeO_natn, newB_mkn, effV_cpy, cpyO_nat, upd_upd, nats_len, List.length_set, ge_iff_le, gt_iff_lt, Int.toNat_natCast, nat_sub1, nat_sub, nat_add1, nat_add, nat_mul, slc3_pos, slc3_zero, slc_to, nats_take, nats_drop, boxB_eq, MV_cells, MV_isAgg, MV_isJunk, part_MV, ints_len, idxB_ints]
  refine callB_fr1 62 (ints [0]) (es := 1) rfl (pi _) (by simp [V.sub, fz1, sub_agg, ints_len]; rfl) r8 (by simp) ?_
  simp -dsimp -implicitDefEqProofs (disch := (first | omega | (simp only [nats_len, List.length_set, List.length_replicate, List.length_append, List.length_take, List.length_drop, List.length_map, List.length_cons, List.length_nil] <;> omega) | (apply isPure_intro <;> simp))) only [go_sem, reduceIte, reduceCtorEq, Nat.reduceEqDiff, Nat.reduceAdd, Nat.reduceLeDiff, Nat.reduceMul, Nat.reduceSub, Nat.reduceLT, Nat.reduceBEq, Int.reduceToNat, Int.reduceNeg, Int.reduceEq, Int.reduceLT, Int.reduceLE, Bool.and_true, Bool.true_and, Bool.and_self, Bool.not_false, Bool.not_true, and_true, true_and, IntWalk.i64_in, wu64, wu32, wu8, Nat.mod_eq_of_lt, shr32, shr63, shl32, or32, quo64, quo32, quoi64, remk, quo32_10, rem32_10, quoi_10, remi_10, nat_48add, Nat.add_assoc, add_ne_self, lt_ne, gt_ne, add_inj, dlt_t, dlt_f, dle_t, dle_f, deq_t, deq_f, idxB_nats, idxO_f, idxO_t, loadO_natf, loadO_natt, storeO_nat, storeO_natn, newB_mkn, effV_cpy, cpyO_nat, upd_upd, nats_len, List.length_set, ge_iff_le, gt_iff_lt, Int.toNat_natCast, nat_sub1, nat_sub, nat_add1, nat_add, nat_mul, slc3_pos, slc3_zero, slc_to, nats_take, nats_drop, boxB_eq, MV_cells, MV_isAgg, MV_isJunk, part_MV, ints_len, idxB_ints]
  refine callB_of r10 (by simp) ?_
  simp -dsimp -implicitDefEqProofs (disch := (first | omega | (simp only [nats_len, List.length_set, List.length_replicate, List.length_append, List.length_take, List.length_drop, List.length_map, List.length_cons, List.length_nil] <;> omega) | (apply isPure_intro <;> simp))) only [go_sem, reduceIte, reduceCtorEq, Nat.reduceEqDiff, Nat.reduceAdd, Nat.reduceLeDiff, Nat.reduceMul, Nat.reduceSub, Nat.reduceLT, Nat.reduceBEq, Int.reduceToNat, Int.reduceNeg, Int.reduceEq, Int.reduceLT, Int.reduceLE, Bool.and_true, Bool.true_and, Bool.and_self, Bool.not_false, Bool.not_true, and_true, true_and, IntWalk.i64_in, wu64, wu32, wu8, Nat.mod_eq_of_lt, shr32, shr63, shl32, or32, quo64, quo32, quoi64, remk, quo32_10, rem32_10, quoi_10, remi_10, nat_48add, Nat.add_assoc, add_ne_self, lt_ne, gt_ne, add_inj, dlt_t, dlt_f, dle_t, dle_f, deq_t, deq_f, idxB_nats, idxO_f, idxO_t, loadO_natf, loadO_natt, storeO_nat, storeO_natn, newB_mkn, effV_cpy, cpyO_nat, upd_upd, nats_len, List.length_set, ge_iff_le, gt_iff_lt, Int.toNat_natCast, nat_sub1, nat_sub, nat_add1, nat_add, nat_mul, slc3_pos, slc3_zero, slc_to, nats_take, nats_drop, boxB_eq, MV_cells, MV_isAgg, MV_isJunk, part_MV, ints_len, idxB_ints]
  refine callB_of r11 (by simp) ?_
  have eqs : strV .eql (bstr [0, 0, 1, 2, 0, 3, 255, 255, 255, 255]) ⟨#[0, 0, 1, 2, 0, 3, 255, 255, 255, 255]⟩ = some (.bool true) := by
    have e : (⟨#[0, 0, 1, 2, 0, 3, 255, 255, 255, 255]⟩ : ByteArray) = bstr [0, 0, 1, 2, 0, 3, 255, 255, 255, 255] := rfl
    rw [e]; simp [strV]
  simp -dsimp -implicitDefEqProofs (disch := (first | omega | (simp only [nats_len, List.length_set, List.length_replicate, List.length_append, List.length_take, List.length_drop, List.length_map, List.length_cons, List.length_nil] <;> omega) | (apply isPure_intro <;> simp))) only [go_sem, reduceIte, reduceCtorEq, Nat.reduceEqDiff, Nat.reduceAdd, Nat.reduceLeDiff, Nat.reduceMul, Nat.reduceSub, Nat.reduceLT, Nat.reduceBEq, Int.reduceToNat, Int.reduceNeg, Int.reduceEq, Int.reduceLT, Int.reduceLE, Bool.and_true, Bool.true_and, Bool.and_self, Bool.not_false, Bool.not_true, and_true, true_and, IntWalk.i64_in, wu64, wu32, wu8, Nat.mod_eq_of_lt, shr32, shr63, shl32, or32, quo64, quo32, quoi64, remk, quo32_10, rem32_10, quoi_10, remi_10, nat_48add, Nat.add_assoc, add_ne_self, lt_ne, gt_ne, add_inj, dlt_t, dlt_f, dle_t, dle_f, deq_t, deq_f, idxB_nats, idxO_f, idxO_t, loadO_natf, loadO_natt, storeO_nat, storeO_natn, newB_mkn, effV_cpy, cpyO_nat, upd_upd, nats_len, List.length_set, ge_iff_le, gt_iff_lt, Int.toNat_natCast, nat_sub1, nat_sub, nat_add1, nat_add, nat_mul, slc3_pos, slc3_zero, slc_to, nats_take, nats_drop, boxB_eq, MV_cells, MV_isAgg, MV_isJunk, part_MV, ints_len, idxB_ints, eqs]
  refine callB_of r9 (by simp) ?_
  simp -dsimp -implicitDefEqProofs (disch := (first | omega | (simp only [nats_len, List.length_set, List.length_replicate, List.length_append, List.length_take, List.length_drop, List.length_map, List.length_cons, List.length_nil] <;> omega) | (apply isPure_intro <;> simp))) only [go_sem, reduceIte, reduceCtorEq, Nat.reduceEqDiff, Nat.reduceAdd, Nat.reduceLeDiff, Nat.reduceMul, Nat.reduceSub, Nat.reduceLT, Nat.reduceBEq, Int.reduceToNat, Int.reduceNeg, Int.reduceEq, Int.reduceLT, Int.reduceLE, Bool.and_true, Bool.true_and, Bool.and_self, Bool.not_false, Bool.not_true, and_true, true_and, IntWalk.i64_in, wu64, wu32, wu8, Nat.mod_eq_of_lt, shr32, shr63, shl32, or32, quo64, quo32, quoi64, remk, quo32_10, rem32_10, quoi_10, remi_10, nat_48add, Nat.add_assoc, add_ne_self, lt_ne, gt_ne, add_inj, dlt_t, dlt_f, dle_t, dle_f, deq_t, deq_f, idxB_nats, idxO_f, idxO_t, loadO_natf, loadO_natt, storeO_nat, storeO_natn, newB_mkn, effV_cpy, cpyO_nat, upd_upd, nats_len, List.length_set, ge_iff_le, gt_iff_lt, Int.toNat_natCast, nat_sub1, nat_sub, nat_add1, nat_add, nat_mul, slc3_pos, slc3_zero, slc_to, nats_take, nats_drop, boxB_eq, MV_cells, MV_isAgg, MV_isJunk, part_MV, ints_len, idxB_ints, eqs]
end Go.Gim

/- The codec: the measurement of bytes. -/
import Derived.Test.YtnaclocpmkldnaaDoorC6
set_option maxRecDepth 100000
set_option linter.unusedSimpArgs false
set_option linter.unusedVariables false
namespace Go.Gim
open Go.Proofs
def i32 (n : Nat) : Int := if n < 2147483648 then n else (n : Int) - 4294967296
def vals : Nat → List Nat → List Int
  | 0, _ => []
  | n + 1, l => i32 (numL (l.take 4)) :: vals n (l.drop 4)
theorem vals_len (n l) : (vals n l).length = n := by induction n generalizing l with | zero => rfl | succ n ih => simp [vals, ih]
theorem vals_succ : ∀ (n : Nat) (l : List Nat), vals (n + 1) l = vals n l ++ [i32 (numL ((l.drop (4 * n)).take 4))]
  | 0, l => by simp [vals]
  | n + 1, l => by
    rw [vals, vals_succ n (l.drop 4), vals, List.cons_append, List.drop_drop, show 4 + 4 * n = 4 * (n + 1) by omega]
def decV (k : Int) (l : List Nat) : V := if cnt k = 0 then .tup [MV 0 0 0 [], .int .i64 120] else if l.length ≠ 6 + 4 * cnt k then .tup [MV 0 0 0 [], .int .i64 121] else if ∃ x ∈ vals (cnt k) (l.drop 6), bad x then .tup [MV 0 0 0 [], .int .i64 122] else .tup [MV k (numL (l.take 4)) (numL ((l.drop 4).take 2)) (vals (cnt k) (l.drop 6)), .int .i64 0]
theorem slc_to_str (l : List Nat) (n : Nat) (h : n ≤ l.length) : redV (.slc 0 false true false) [.str (bstr l), .int .i64 (n : Int)] = some (.str (bstr (l.take n))) := by
  have e := bstr_ext l 0 n h
  rw [List.drop_zero] at e
  simp only [redV, slcArgs, Option.bind_some, slcV, Option.getD_none, Option.getD_some, bstr_size]
  rw [if_pos ⟨trivial, trivial, by omega, by omega, by omega⟩]
  simp [e]
theorem slc_str (l : List Nat) (i j : Nat) (hi : i ≤ j) (h : j ≤ l.length) : redV (.slc 0 true true false) [.str (bstr l), .int .i64 (i : Int), .int .i64 (j : Int)] = some (.str (bstr ((l.take j).drop i))) := by
  have e := bstr_ext l i j h
  simp only [redV, slcArgs, Option.bind_some, slcV, Option.getD_none, Option.getD_some, bstr_size]
  rw [if_pos ⟨trivial, trivial, by omega, by omega, by omega⟩]
  simp [e]
theorem toList_loop (b : ByteArray) : ∀ (n i : Nat) (r : List UInt8), b.size - i = n → ByteArray.toList.loop b i r = r.reverse ++ b.data.toList.drop i
  | 0, i, r, h => by
    rw [ByteArray.toList.loop]
    have hs : b.size = b.data.toList.length := by simp
    rw [if_neg (by omega), List.drop_eq_nil_of_le (by omega), List.append_nil]
  | n + 1, i, r, h => by
    rw [ByteArray.toList.loop]
    have hs : b.size = b.data.toList.length := by simp
    rw [if_pos (by omega), toList_loop b n (i + 1) _ (by omega), List.drop_eq_getElem_cons (show i < b.data.toList.length by omega), List.reverse_cons, List.append_assoc]
    congr 1
    simp only [List.singleton_append]
    congr 1
    have hi : i < b.data.size := by simpa using (show i < b.data.toList.length by omega)
    show b.get! i = _
    simp only [ByteArray.get!]
    rw [getElem!_pos b.data i hi]; simp
theorem toList_data (b : ByteArray) : b.toList = b.data.toList := by
  have := toList_loop b _ 0 [] rfl
  simpa [ByteArray.toList] using this
theorem bstr_inj {a b : List Nat} (ha : ∀ x ∈ a, x < 256) (hb : ∀ x ∈ b, x < 256) : (bstr a).toList = (bstr b).toList ↔ a = b := by
  rw [toList_data, toList_data]
  refine ⟨fun h => ?_, fun h => by rw [h]⟩
  have h2 := congrArg (List.map UInt8.toNat) h
  simp only [bstr, List.toList_toArray, List.map_map] at h2
  have e : ∀ l : List Nat, (∀ x ∈ l, x < 256) → l.map (UInt8.toNat ∘ UInt8.ofNat) = l := fun l hl => by
    have : l.map (UInt8.toNat ∘ UInt8.ofNat) = l.map id := List.map_congr_left fun x hx => u8_nat (hl x hx)
    rw [this, List.map_id]
  rwa [e a ha, e b hb] at h2
theorem neq_nil {l : List Nat} (h : ∀ x ∈ l, x < 256) : strV .neq (bstr l) ⟨#[]⟩ = some (.bool (decide (l ≠ []))) := by
  have e : (⟨#[]⟩ : ByteArray) = bstr [] := rfl
  rw [e]
  simp only [strV]
  congr 2
  by_cases hl : l = []
  · subst hl; simp
  · have : ¬ (bstr l).toList = (bstr []).toList := fun h' => hl ((bstr_inj h (by simp)).1 h')
    simp [this, hl]
theorem cnt_le (k : Int) : cnt k ≤ 6 := by
  unfold cnt
  repeat' split
  all_goals omega
theorem take6_drop4 (l : List Nat) : (l.take 6).drop 4 = (l.drop 4).take 2 := by rw [List.drop_take]
theorem E_sub (g : Nat → Option (List V)) : ∀ (l : List (Nat × V)), (∀ p ∈ l, p.2.sub g = p.2) → (fun s => (E l s).sub g) = E l := by
  intro l h
  funext s
  induction l with
  | nil => simp [E, V.sub]
  | cons p l ih =>
    have h1 := h p (by simp)
    have h2 := ih fun q hq => h q (by simp [hq])
    obtain ⟨a, v⟩ := p
    simp only [E]
    split
    · exact h1
    · exact h2
theorem ghost_fz {l : List (Nat × V)} {H : Hp} {nx : Nat} {g : Nat → Option (List V)} (hg : Fz H g) (h : ∀ p ∈ l, p.2.sub g = p.2) : Ghost ⟨E l, H, nx, nx⟩ ⟨E l, H.sub g, nx, nx⟩ := by
  have := Ghost.fz ⟨E l, H, nx, nx⟩ g hg
  unfold St.fz at this
  rwa [E_sub g l h] at this
theorem wrap32 {n : Nat} (h : n < 4294967296) : IntKind.i32.wrap (n : Int) = i32 n := by
  unfold i32
  simp [IntKind.wrap, IntKind.bits, IntKind.signed]
  split <;> omega
theorem decode_ret (k : Int) (l : List Nat) (hk : 0 ≤ k ∧ k ≤ 255) (hb : ∀ x ∈ l, x < 256) (hl : l.length ≤ 9223372036854775807) : Ret pg n_codec_Decode [.int .u8 k, .str (bstr l)] (decV k l) := by
  refine codec_Decode.of rfl (W_b ?_)
  unfold codec_Decode.k codec_Decode.res decV
  have hc := count_ret k
  have hcb := cnt_le k
  simp -dsimp -implicitDefEqProofs (disch := (first | omega | (simp only [nats_len, List.length_set, List.length_replicate, List.length_append, List.length_take, List.length_drop, List.length_map, List.length_cons, List.length_nil] <;> omega) | (apply isPure_intro <;> simp))) only [go_sem, reduceIte, reduceCtorEq, Nat.reduceEqDiff, Nat.reduceAdd, Nat.reduceLeDiff, Nat.reduceMul, Nat.reduceSub, Nat.reduceLT, Nat.reduceBEq, Int.reduceToNat, Int.reduceNeg, Int.reduceEq, Int.reduceLT, Int.reduceLE, Bool.and_true, Bool.true_and, Bool.and_self, Bool.not_false, Bool.not_true, and_true, true_and, IntWalk.i64_in, wu64, wu32, wu8, Nat.mod_eq_of_lt, shr32, shr63, shl32, or32, quo64, quo32, quoi64, remk, quo32_10, rem32_10, quoi_10, remi_10, nat_48add, Nat.add_assoc, add_ne_self, lt_ne, gt_ne, add_inj, dlt_t, dlt_f, dle_t, dle_f, deq_t, deq_f, idxB_nats, idxO_f, idxO_t, loadO_natf, loadO_natt, storeO_nat, storeO_natn, newB_mkn, effV_cpy, cpyO_nat, upd_upd, nats_len, List.length_set, ge_iff_le, gt_iff_lt, Int.toNat_natCast, nat_sub1, nat_sub, nat_add1, nat_add, nat_mul, slc3_pos, slc3_zero, slc_to, nats_take, nats_drop, boxB_eq, MV_cells, MV_isAgg, MV_isJunk, part_MV, ints_len, idxB_ints]
  refine callB_of hc (by simp) ?_
  by_cases h0 : cnt k = 0
  · rw [if_pos h0]
    simp -dsimp -implicitDefEqProofs (disch := (first | omega | (simp only [nats_len, List.length_set, List.length_replicate, List.length_append, List.length_take, List.length_drop, List.length_map, List.length_cons, List.length_nil] <;> omega) | (apply isPure_intro <;> simp))) only [go_sem, reduceIte, reduceCtorEq, Nat.reduceEqDiff, Nat.reduceAdd, Nat.reduceLeDiff, Nat.reduceMul, Nat.reduceSub, Nat.reduceLT, Nat.reduceBEq, Int.reduceToNat, Int.reduceNeg, Int.reduceEq, Int.reduceLT, Int.reduceLE, Bool.and_true, Bool.true_and, Bool.and_self, Bool.not_false, Bool.not_true, and_true, true_and, IntWalk.i64_in, wu64, wu32, wu8, Nat.mod_eq_of_lt, shr32, shr63, shl32, or32, quo64, quo32, quoi64, remk, quo32_10, rem32_10, quoi_10, remi_10, nat_48add, Nat.add_assoc, add_ne_self, lt_ne, gt_ne, add_inj, dlt_t, dlt_f, dle_t, dle_f, deq_t, deq_f, idxB_nats, idxO_f, idxO_t, loadO_natf, loadO_natt, storeO_nat, storeO_natn, newB_mkn, effV_cpy, cpyO_nat, upd_upd, nats_len, List.length_set, ge_iff_le, gt_iff_lt, Int.toNat_natCast, nat_sub1, nat_sub, nat_add1, nat_add, nat_mul, slc3_pos, slc3_zero, slc_to, nats_take, nats_drop, boxB_eq, MV_cells, MV_isAgg, MV_isJunk, part_MV, ints_len, idxB_ints, h0]
    rfl
  · rw [if_neg h0]
    by_cases h1 : l.length = 6 + 4 * cnt k
    · rw [if_neg (by simpa using h1)]
      have s1 : redV (.slc 0 false true false) [.str (bstr l), .int .i64 4] = some (.str (bstr (l.take 4))) := slc_to_str l 4 (by omega)
      have s2 : redV (.slc 0 true true false) [.str (bstr l), .int .i64 4, .int .i64 6] = some (.str (bstr ((l.drop 4).take 2))) := by rw [← take6_drop4]; exact slc_str l 4 6 (by omega) (by omega)
      have s3 : redV (.slc 0 true false false) [.str (bstr l), .int .i64 6] = some (.str (bstr (l.drop 6))) := slc_from_str l 6 (by omega)
      have n1 := number_ret (l.take 4) (fun x hx => hb x (List.mem_of_mem_take hx)) (by simp; omega)
      have n2 := number_ret ((l.drop 4).take 2) (fun x hx => hb x (List.mem_of_mem_drop (List.mem_of_mem_take hx))) (by simp; omega)
      simp -dsimp -implicitDefEqProofs (disch := (first | omega | (simp only [nats_len, List.length_set, List.length_replicate, List.length_append, List.length_take, List.length_drop, List.length_map, List.length_cons, List.length_nil] <;> omega) | (apply isPure_intro <;> simp))) only [go_sem, reduceIte, reduceCtorEq, Nat.reduceEqDiff, Nat.reduceAdd, Nat.reduceLeDiff, Nat.reduceMul, Nat.reduceSub, Nat.reduceLT, Nat.reduceBEq, Int.reduceToNat, Int.reduceNeg, Int.reduceEq, Int.reduceLT, Int.reduceLE, Bool.and_true, Bool.true_and, Bool.and_self, Bool.not_false, Bool.not_true, and_true, true_and, IntWalk.i64_in, wu64, wu32, wu8, Nat.mod_eq_of_lt, shr32, shr63, shl32, or32, quo64, quo32, quoi64, remk, quo32_10, rem32_10, quoi_10, remi_10, nat_48add, Nat.add_assoc, add_ne_self, lt_ne, gt_ne, add_inj, dlt_t, dlt_f, dle_t, dle_f, deq_t, deq_f, idxB_nats, idxO_f, idxO_t, loadO_natf, loadO_natt, storeO_nat, storeO_natn, newB_mkn, effV_cpy, cpyO_nat, upd_upd, nats_len, List.length_set, ge_iff_le, gt_iff_lt, Int.toNat_natCast, nat_sub1, nat_sub, nat_add1, nat_add, nat_mul, slc3_pos, slc3_zero, slc_to, nats_take, nats_drop, boxB_eq, MV_cells, MV_isAgg, MV_isJunk, part_MV, ints_len, idxB_ints, h0, bstr_size, s1]
      refine callP_of n1 (by simp) ?_
      simp -dsimp -implicitDefEqProofs (disch := (first | omega | (simp only [nats_len, List.length_set, List.length_replicate, List.length_append, List.length_take, List.length_drop, List.length_map, List.length_cons, List.length_nil] <;> omega) | (apply isPure_intro <;> simp))) only [go_sem, reduceIte, reduceCtorEq, Nat.reduceEqDiff, Nat.reduceAdd, Nat.reduceLeDiff, Nat.reduceMul, Nat.reduceSub, Nat.reduceLT, Nat.reduceBEq, Int.reduceToNat, Int.reduceNeg, Int.reduceEq, Int.reduceLT, Int.reduceLE, Bool.and_true, Bool.true_and, Bool.and_self, Bool.not_false, Bool.not_true, and_true, true_and, IntWalk.i64_in, wu64, wu32, wu8, Nat.mod_eq_of_lt, shr32, shr63, shl32, or32, quo64, quo32, quoi64, remk, quo32_10, rem32_10, quoi_10, remi_10, nat_48add, Nat.add_assoc, add_ne_self, lt_ne, gt_ne, add_inj, dlt_t, dlt_f, dle_t, dle_f, deq_t, deq_f, idxB_nats, idxO_f, idxO_t, loadO_natf, loadO_natt, storeO_nat, storeO_natn, newB_mkn, effV_cpy, cpyO_nat, upd_upd, nats_len, List.length_set, ge_iff_le, gt_iff_lt, Int.toNat_natCast, nat_sub1, nat_sub, nat_add1, nat_add, nat_mul, slc3_pos, slc3_zero, slc_to, nats_take, nats_drop, boxB_eq, MV_cells, MV_isAgg, MV_isJunk, part_MV, ints_len, idxB_ints, s2]
      refine callP_of n2 (by simp) ?_
      simp -dsimp -implicitDefEqProofs (disch := (first | omega | (simp only [nats_len, List.length_set, List.length_replicate, List.length_append, List.length_take, List.length_drop, List.length_map, List.length_cons, List.length_nil] <;> omega) | (apply isPure_intro <;> simp))) only [go_sem, reduceIte, reduceCtorEq, Nat.reduceEqDiff, Nat.reduceAdd, Nat.reduceLeDiff, Nat.reduceMul, Nat.reduceSub, Nat.reduceLT, Nat.reduceBEq, Int.reduceToNat, Int.reduceNeg, Int.reduceEq, Int.reduceLT, Int.reduceLE, Bool.and_true, Bool.true_and, Bool.and_self, Bool.not_false, Bool.not_true, and_true, true_and, IntWalk.i64_in, wu64, wu32, wu8, Nat.mod_eq_of_lt, shr32, shr63, shl32, or32, quo64, quo32, quoi64, remk, quo32_10, rem32_10, quoi_10, remi_10, nat_48add, Nat.add_assoc, add_ne_self, lt_ne, gt_ne, add_inj, dlt_t, dlt_f, dle_t, dle_f, deq_t, deq_f, idxB_nats, idxO_f, idxO_t, loadO_natf, loadO_natt, storeO_nat, storeO_natn, newB_mkn, effV_cpy, cpyO_nat, upd_upd, nats_len, List.length_set, ge_iff_le, gt_iff_lt, Int.toNat_natCast, nat_sub1, nat_sub, nat_add1, nat_add, nat_mul, slc3_pos, slc3_zero, slc_to, nats_take, nats_drop, boxB_eq, MV_cells, MV_isAgg, MV_isJunk, part_MV, ints_len, idxB_ints, s3]
      refine W_loopG (T := Nat × V × Hp × Nat) (fun t => ⟨E [(4, .ptr 0 1 0 0), (6, .ptr 5 1 0 0), (8, .str (bstr (l.drop (6 + 4 * t.1))))], t.2.2.1, t.2.2.2, t.2.2.2⟩)
        (fun t => t.1 ≤ cnt k ∧ 5 < t.2.2.2 ∧ t.2.2.1 0 = some ⟨[.agg [.int .i64 0, .int .i64 0, .int .i64 0, .nil]], 4⟩ ∧ t.2.2.1 5 = some ⟨[.agg [.int .i64 k, .int .i64 (numL (l.take 4)), .int .i64 (numL ((l.drop 4).take 2)), t.2.1]], 4⟩ ∧ (t.1 < cnt k → Row 6 t.2.2.1 t.2.2.2 t.2.1 1 (ints (vals t.1 (l.drop 6)))) ∧ (¬ t.1 < cnt k → t.2.1 = .sl (ints (vals (cnt k) (l.drop 6))))) (fun t => cnt k - t.1) (0, .nil, _, 34) (Ghost.refl _) ⟨by dsimp only; omega, by dsimp only; omega, rfl, rfl, fun _ => Row.nil _ _ _ _, fun h => absurd (Nat.pos_of_ne_zero h0) h⟩ ?_
      rintro ⟨i, w, H, nx⟩ ⟨i1, i2, i3, i4, i5, i6⟩
      dsimp only at i1 i2 i3 i4 i5 i6
      have hbd : ∀ x ∈ l.drop (6 + 4 * i), x < 256 := fun x hx => hb x (List.mem_of_mem_drop hx)
      by_cases hi : i < cnt k
      · have i5 := i5 hi
        have hwa : w.isAgg = false := by rcases i5 with ⟨rfl, _⟩ | ⟨b, rfl, _⟩ <;> rfl
        have hne : strV .neq (bstr (l.drop (6 + 4 * i))) ⟨#[]⟩ = some (.bool true) := by
          rw [neq_nil hbd]
          have : l.drop (6 + 4 * i) ≠ [] := fun h => by
            have := congrArg List.length h
            simp at this; omega
          simp [this]
        have s4 : redV (.slc 0 false true false) [.str (bstr (l.drop (6 + 4 * i))), .int .i64 4] = some (.str (bstr ((l.drop (6 + 4 * i)).take 4))) := slc_to_str _ 4 (by simp; omega)
        have n3 := number_ret ((l.drop (6 + 4 * i)).take 4) (fun x hx => hbd x (List.mem_of_mem_take hx)) (by simp; omega)
        have hvs := vals_succ i (l.drop 6)
        rw [List.drop_drop] at hvs
        have h32 : numL ((l.drop (6 + 4 * i)).take 4) < 4294967296 := by
          have := numL_lt (l := (l.drop (6 + 4 * i)).take 4) fun x hx => hbd x (List.mem_of_mem_take hx)
          rwa [show ((l.drop (6 + 4 * i)).take 4).length = 4 by simp; omega] at this
        have hw32 := wrap32 h32
        generalize hn : numL ((l.drop (6 + 4 * i)).take 4) = n at *
        have hr32 : -2147483648 ≤ i32 n ∧ i32 n ≤ 2147483647 := by unfold i32; split <;> omega
        generalize i32 n = z at *
        simp -dsimp -implicitDefEqProofs (disch := (first | omega | (simp only [nats_len, List.length_set, List.length_replicate, List.length_append, List.length_take, List.length_drop, List.length_map, List.length_cons, List.length_nil] <;> omega) | (apply isPure_intro <;> simp))) only [go_sem, reduceIte, reduceCtorEq, Nat.reduceEqDiff, Nat.reduceAdd, Nat.reduceLeDiff, Nat.reduceMul, Nat.reduceSub, Nat.reduceLT, Nat.reduceBEq, Int.reduceToNat, Int.reduceNeg, Int.reduceEq, Int.reduceLT, Int.reduceLE, Bool.and_true, Bool.true_and, Bool.and_self, Bool.not_false, Bool.not_true, and_true, true_and, IntWalk.i64_in, wu64, wu32, wu8, Nat.mod_eq_of_lt, shr32, shr63, shl32, or32, quo64, quo32, quoi64, remk, quo32_10, rem32_10, quoi_10, remi_10, nat_48add, Nat.add_assoc, add_ne_self, lt_ne, gt_ne, add_inj, dlt_t, dlt_f, dle_t, dle_f, deq_t, deq_f, idxB_nats, idxO_f, idxO_t, loadO_natf, loadO_natt, storeO_nat, storeO_natn, newB_mkn, effV_cpy, cpyO_nat, upd_upd, nats_len, List.length_set, ge_iff_le, gt_iff_lt, Int.toNat_natCast, nat_sub1, nat_sub, nat_add1, nat_add, nat_mul, slc3_pos, slc3_zero, slc_to, nats_take, nats_drop, boxB_eq, MV_cells, MV_isAgg, MV_isJunk, part_MV, ints_len, idxB_ints, hne, i3, i4, hwa, s4]
        refine callP_of n3 (by simp) ?_
        simp -dsimp -implicitDefEqProofs (disch := (first | omega | (simp only [nats_len, List.length_set, List.length_replicate, List.length_append, List.length_take, List.length_drop, List.length_map, List.length_cons, List.length_nil] <;> omega) | (apply isPure_intro <;> simp))) only [go_sem, reduceIte, reduceCtorEq, Nat.reduceEqDiff, Nat.reduceAdd, Nat.reduceLeDiff, Nat.reduceMul, Nat.reduceSub, Nat.reduceLT, Nat.reduceBEq, Int.reduceToNat, Int.reduceNeg, Int.reduceEq, Int.reduceLT, Int.reduceLE, Bool.and_true, Bool.true_and, Bool.and_self, Bool.not_false, Bool.not_true, and_true, true_and, IntWalk.i64_in, wu64, wu32, wu8, Nat.mod_eq_of_lt, shr32, shr63, shl32, or32, quo64, quo32, quoi64, remk, quo32_10, rem32_10, quoi_10, remi_10, nat_48add, Nat.add_assoc, add_ne_self, lt_ne, gt_ne, add_inj, dlt_t, dlt_f, dle_t, dle_f, deq_t, deq_f, idxB_nats, idxO_f, idxO_t, loadO_natf, loadO_natt, storeO_nat, storeO_natn, newB_mkn, effV_cpy, cpyO_nat, upd_upd, nats_len, List.length_set, ge_iff_le, gt_iff_lt, Int.toNat_natCast, nat_sub1, nat_sub, nat_add1, nat_add, nat_mul, slc3_pos, slc3_zero, slc_to, nats_take, nats_drop, boxB_eq, MV_cells, MV_isAgg, MV_isJunk, part_MV, ints_len, idxB_ints, hw32, i3, i4, hwa]
        have hvl := vals_len i (l.drop 6)
        have s5 : redV (.slc 0 true false false) [.str (bstr (l.drop (6 + 4 * i))), .int .i64 4] = some (.str (bstr ((l.drop (6 + 4 * i)).drop 4))) := slc_from_str _ 4 (by simp; omega)
        rw [List.drop_drop, show 6 + 4 * i + 4 = 6 + 4 * (i + 1) by omega] at s5
        refine effB_row (lo := 6) (nx := nx) (H0 := H) (xs := ints (vals i (l.drop 6))) i5 (by omega) rfl (by omega) (by omega) (by simp [rowOk, V.isJunk, V.cells, V.cellOk]) (by decide) (by rw [ints_len]; omega) (by rw [ints_len]; omega) fun v2 H2 r1 _ _ r4 => ?_
        have e1 : ints (vals i (l.drop 6)) ++ [.int .i64 z] = ints (vals (i + 1) (l.drop 6)) := by rw [hvs]; simp [ints]
        rw [e1] at r1
        have j3 := (r4 0 (by omega)).trans i3
        have j4 := (r4 5 (by omega)).trans i4
        rcases r1 with ⟨_, h⟩ | ⟨b', rfl, c1, c2, c3⟩
        · have := congrArg List.length h
          rw [ints_len, vals_len] at this; simp at this
        · simp -dsimp -implicitDefEqProofs (disch := (first | omega | (simp only [nats_len, List.length_set, List.length_replicate, List.length_append, List.length_take, List.length_drop, List.length_map, List.length_cons, List.length_nil] <;> omega) | (apply isPure_intro <;> simp))) only [go_sem, reduceIte, reduceCtorEq, Nat.reduceEqDiff, Nat.reduceAdd, Nat.reduceLeDiff, Nat.reduceMul, Nat.reduceSub, Nat.reduceLT, Nat.reduceBEq, Int.reduceToNat, Int.reduceNeg, Int.reduceEq, Int.reduceLT, Int.reduceLE, Bool.and_true, Bool.true_and, Bool.and_self, Bool.not_false, Bool.not_true, and_true, true_and, IntWalk.i64_in, wu64, wu32, wu8, Nat.mod_eq_of_lt, shr32, shr63, shl32, or32, quo64, quo32, quoi64, remk, quo32_10, rem32_10, quoi_10, remi_10, nat_48add, Nat.add_assoc, add_ne_self, lt_ne, gt_ne, add_inj, dlt_t, dlt_f, dle_t, dle_f, deq_t, deq_f, idxB_nats, idxO_f, idxO_t, loadO_natf, loadO_natt, storeO_nat, storeO_natn, newB_mkn, effV_cpy, cpyO_nat, upd_upd, nats_len, List.length_set, ge_iff_le, gt_iff_lt, Int.toNat_natCast, nat_sub1, nat_sub, nat_add1, nat_add, nat_mul, slc3_pos, slc3_zero, slc_to, nats_take, nats_drop, boxB_eq, MV_cells, MV_isAgg, MV_isJunk, part_MV, ints_len, idxB_ints, j3, j4, hwa, s5]
          generalize hH3 : Hp.upd H2 5 _ = H3
          have k0 : H3 0 = some ⟨[.agg [.int .i64 0, .int .i64 0, .int .i64 0, .nil]], 4⟩ := by rw [← hH3, Hp.upd_ne _ _ (by omega)]; exact j3
          have k5 : H3 5 = some ⟨[.agg [.int .i64 k, .int .i64 (numL (l.take 4)), .int .i64 (numL ((l.drop 4).take 2)), .own b' (vals (i + 1) (l.drop 6)).length]], 4⟩ := by rw [← hH3, Hp.upd_same]
          have kb : H3 b' = some ⟨ints (vals (i + 1) (l.drop 6)), 1⟩ := by rw [← hH3, Hp.upd_ne _ _ (by omega)]; exact c3
          clear hH3 j3 j4 c3
          by_cases hi2 : i + 1 < cnt k
          · exact ⟨(i + 1, .own b' (vals (i + 1) (l.drop 6)).length, H3, _), Ghost.refl _, ⟨by dsimp only; omega, by dsimp only; omega, k0, k5, fun _ => .inr ⟨b', by rw [ints_len], c1, by dsimp only; omega, kb⟩, fun h => absurd hi2 h⟩, by dsimp only; omega⟩
          · have hie : i + 1 = cnt k := by omega
            have hpure : ∀ x ∈ ints (vals (i + 1) (l.drop 6)), V.Pure x := fun x hx => by obtain ⟨a, _, rfl⟩ := List.mem_map.1 hx; exact .int _ _
            have q0 : ¬ (0 = b') := by omega
            have q5 : ¬ (5 = b') := by omega
            refine ⟨(i + 1, .sl (ints (vals (i + 1) (l.drop 6))), Hp.sub (fz1 b' (ints (vals (i + 1) (l.drop 6)))) H3, _), ghost_fz (fz1_ok kb hpure) (by
              intro p hp
              simp at hp
              rcases hp with rfl | rfl | rfl <;> simp [V.sub, fz1, q0, q5]), ⟨by dsimp only; omega, by dsimp only; omega, ?_, ?_, fun h => absurd h hi2, fun _ => by dsimp only; rw [hie]⟩, by dsimp only; omega⟩
            · dsimp only
              simp only [Hp.sub, fz1, q0, if_false, Option.isSome_none, k0, Bool.false_eq_true, Option.map_some, List.map_cons, List.map_nil, sub_agg, V.sub]
            · dsimp only
              simp only [Hp.sub, fz1, q5, if_false, Option.isSome_none, k5, Bool.false_eq_true, Option.map_some, List.map_cons, List.map_nil, sub_agg, V.sub, if_true, ints_len]
      · have hie : i = cnt k := by omega
        have hw := i6 hi
        subst hw
        have hne : strV .neq (bstr (l.drop (6 + 4 * i))) ⟨#[]⟩ = some (.bool false) := by
          rw [neq_nil hbd]
          have : l.drop (6 + 4 * i) = [] := List.drop_eq_nil_of_le (by omega)
          simp [this]
        have b1 := numL_lt (l := l.take 4) (fun x hx => hb x (List.mem_of_mem_take hx))
        rw [show (l.take 4).length = 4 by simp; omega] at b1
        have b2 := numL_lt (l := (l.drop 4).take 2) (fun x hx => hb x (List.mem_of_mem_drop (List.mem_of_mem_take hx)))
        rw [show ((l.drop 4).take 2).length = 2 by simp; omega] at b2
        have hvl := vals_len (cnt k) (l.drop 6)
        generalize vals (cnt k) (l.drop 6) = v at *
        generalize numL (l.take 4) = a at *
        generalize numL ((l.drop 4).take 2) = s at *
        have hE : rightE k a s v = if ∃ x ∈ v, bad x then 122 else 0 := by
          unfold rightE
          rw [if_neg h0, if_neg (by omega), if_neg (by omega)]
        have hr := right_ret k a s v (by omega)
        simp -dsimp -implicitDefEqProofs (disch := (first | omega | (simp only [nats_len, List.length_set, List.length_replicate, List.length_append, List.length_take, List.length_drop, List.length_map, List.length_cons, List.length_nil] <;> omega) | (apply isPure_intro <;> simp))) only [go_sem, reduceIte, reduceCtorEq, Nat.reduceEqDiff, Nat.reduceAdd, Nat.reduceLeDiff, Nat.reduceMul, Nat.reduceSub, Nat.reduceLT, Nat.reduceBEq, Int.reduceToNat, Int.reduceNeg, Int.reduceEq, Int.reduceLT, Int.reduceLE, Bool.and_true, Bool.true_and, Bool.and_self, Bool.not_false, Bool.not_true, and_true, true_and, IntWalk.i64_in, wu64, wu32, wu8, Nat.mod_eq_of_lt, shr32, shr63, shl32, or32, quo64, quo32, quoi64, remk, quo32_10, rem32_10, quoi_10, remi_10, nat_48add, Nat.add_assoc, add_ne_self, lt_ne, gt_ne, add_inj, dlt_t, dlt_f, dle_t, dle_f, deq_t, deq_f, idxB_nats, idxO_f, idxO_t, loadO_natf, loadO_natt, storeO_nat, storeO_natn, newB_mkn, effV_cpy, cpyO_nat, upd_upd, nats_len, List.length_set, ge_iff_le, gt_iff_lt, Int.toNat_natCast, nat_sub1, nat_sub, nat_add1, nat_add, nat_mul, slc3_pos, slc3_zero, slc_to, nats_take, nats_drop, boxB_eq, MV_cells, MV_isAgg, MV_isJunk, part_MV, ints_len, idxB_ints, hne, i3, i4]
        refine callB_of (r := .int .i64 (rightE k a s v)) hr (by simp) ?_
        rw [hE]
        by_cases hbad : ∃ x ∈ v, bad x
        · rw [if_pos hbad, if_pos hbad]
          simp -dsimp -implicitDefEqProofs (disch := (first | omega | (simp only [nats_len, List.length_set, List.length_replicate, List.length_append, List.length_take, List.length_drop, List.length_map, List.length_cons, List.length_nil] <;> omega) | (apply isPure_intro <;> simp))) only [go_sem, reduceIte, reduceCtorEq, Nat.reduceEqDiff, Nat.reduceAdd, Nat.reduceLeDiff, Nat.reduceMul, Nat.reduceSub, Nat.reduceLT, Nat.reduceBEq, Int.reduceToNat, Int.reduceNeg, Int.reduceEq, Int.reduceLT, Int.reduceLE, Bool.and_true, Bool.true_and, Bool.and_self, Bool.not_false, Bool.not_true, and_true, true_and, IntWalk.i64_in, wu64, wu32, wu8, Nat.mod_eq_of_lt, shr32, shr63, shl32, or32, quo64, quo32, quoi64, remk, quo32_10, rem32_10, quoi_10, remi_10, nat_48add, Nat.add_assoc, add_ne_self, lt_ne, gt_ne, add_inj, dlt_t, dlt_f, dle_t, dle_f, deq_t, deq_f, idxB_nats, idxO_f, idxO_t, loadO_natf, loadO_natt, storeO_nat, storeO_natn, newB_mkn, effV_cpy, cpyO_nat, upd_upd, nats_len, List.length_set, ge_iff_le, gt_iff_lt, Int.toNat_natCast, nat_sub1, nat_sub, nat_add1, nat_add, nat_mul, slc3_pos, slc3_zero, slc_to, nats_take, nats_drop, boxB_eq, MV_cells, MV_isAgg, MV_isJunk, part_MV, ints_len, idxB_ints, i3, i4]
          rfl
        · rw [if_neg hbad, if_neg hbad]
          simp -dsimp -implicitDefEqProofs (disch := (first | omega | (simp only [nats_len, List.length_set, List.length_replicate, List.length_append, List.length_take, List.length_drop, List.length_map, List.length_cons, List.length_nil] <;> omega) | (apply isPure_intro <;> simp))) only [go_sem, reduceIte, reduceCtorEq, Nat.reduceEqDiff, Nat.reduceAdd, Nat.reduceLeDiff, Nat.reduceMul, Nat.reduceSub, Nat.reduceLT, Nat.reduceBEq, Int.reduceToNat, Int.reduceNeg, Int.reduceEq, Int.reduceLT, Int.reduceLE, Bool.and_true, Bool.true_and, Bool.and_self, Bool.not_false, Bool.not_true, and_true, true_and, IntWalk.i64_in, wu64, wu32, wu8, Nat.mod_eq_of_lt, shr32, shr63, shl32, or32, quo64, quo32, quoi64, remk, quo32_10, rem32_10, quoi_10, remi_10, nat_48add, Nat.add_assoc, add_ne_self, lt_ne, gt_ne, add_inj, dlt_t, dlt_f, dle_t, dle_f, deq_t, deq_f, idxB_nats, idxO_f, idxO_t, loadO_natf, loadO_natt, storeO_nat, storeO_natn, newB_mkn, effV_cpy, cpyO_nat, upd_upd, nats_len, List.length_set, ge_iff_le, gt_iff_lt, Int.toNat_natCast, nat_sub1, nat_sub, nat_add1, nat_add, nat_mul, slc3_pos, slc3_zero, slc_to, nats_take, nats_drop, boxB_eq, MV_cells, MV_isAgg, MV_isJunk, part_MV, ints_len, idxB_ints, i3, i4]
          rfl
    · rw [if_pos h1]
      simp -dsimp -implicitDefEqProofs (disch := (first | omega | (simp only [nats_len, List.length_set, List.length_replicate, List.length_append, List.length_take, List.length_drop, List.length_map, List.length_cons, List.length_nil] <;> omega) | (apply isPure_intro <;> simp))) only [go_sem, reduceIte, reduceCtorEq, Nat.reduceEqDiff, Nat.reduceAdd, Nat.reduceLeDiff, Nat.reduceMul, Nat.reduceSub, Nat.reduceLT, Nat.reduceBEq, Int.reduceToNat, Int.reduceNeg, Int.reduceEq, Int.reduceLT, Int.reduceLE, Bool.and_true, Bool.true_and, Bool.and_self, Bool.not_false, Bool.not_true, and_true, true_and, IntWalk.i64_in, wu64, wu32, wu8, Nat.mod_eq_of_lt, shr32, shr63, shl32, or32, quo64, quo32, quoi64, remk, quo32_10, rem32_10, quoi_10, remi_10, nat_48add, Nat.add_assoc, add_ne_self, lt_ne, gt_ne, add_inj, dlt_t, dlt_f, dle_t, dle_f, deq_t, deq_f, idxB_nats, idxO_f, idxO_t, loadO_natf, loadO_natt, storeO_nat, storeO_natn, newB_mkn, effV_cpy, cpyO_nat, upd_upd, nats_len, List.length_set, ge_iff_le, gt_iff_lt, Int.toNat_natCast, nat_sub1, nat_sub, nat_add1, nat_add, nat_mul, slc3_pos, slc3_zero, slc_to, nats_take, nats_drop, boxB_eq, MV_cells, MV_isAgg, MV_isJunk, part_MV, ints_len, idxB_ints, h0, bstr_size]
      rfl
end Go.Gim

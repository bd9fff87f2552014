import Derived.Test.YtmfenpedpajfkaaLI1
/- Products of whole numbers of any size, and parts of them. -/
set_option maxRecDepth 100000
set_option linter.unusedSimpArgs false
set_option linter.unusedVariables false
namespace Go.Gim
open Go.Proofs
theorem mul_ret (x y : Int) (hx : lim x ≤ 8796093022208) (hy : lim y ≤ 8796093022208) : Ret pg n_long_Int_Mul [IV x, IV y] (IV (x * y)) := by
  unfold lim at hx hy
  generalize hX : digs W32 x.natAbs = xs at hx
  generalize hY : digs W32 y.natAbs = ys at hy
  have lx : ∀ z ∈ xs, z < W32 := by rw [← hX]; exact digs_lt w2 _
  have ly : ∀ z ∈ ys, z < W32 := by rw [← hY]; exact digs_lt w2 _
  refine long_Int_Mul.of rfl (W_b ?_)
  unfold long_Int_Mul.k long_Int_Mul.res
  simp -dsimp -implicitDefEqProofs (disch := (first | omega | (simp only [nats_len, List.length_set, List.length_replicate, List.length_append, List.length_take, List.length_drop, List.length_map, List.length_cons, List.length_nil] <;> omega) | (apply isPure_intro <;> simp))) only [go_sem, IntWalk.i64_in, wu64, wu32, wu8, Nat.mod_eq_of_lt, shr32, shr63, shl32, or32, quo64, quo32, quoi64, remk, quo32_10, rem32_10, quoi_10, remi_10, nat_48add, Nat.add_assoc, add_ne_self, lt_ne, gt_ne, add_inj, dlt_t, dlt_f, dle_t, dle_f, deq_t, deq_f, idxB_nats, idxO_f, idxO_t, loadO_natf, loadO_natt, storeO_nat, storeO_natn, newB_mkn, effV_cpy, cpyO_nat, upd_upd, nats_len, List.length_set, ge_iff_le, gt_iff_lt, Int.toNat_natCast, nat_sub1, nat_sub, nat_add1, nat_add, nat_mul, slc3_pos, slc3_zero, slc_to, nats_take, nats_drop, boxB_eq, IV_cells, IV_isAgg, IV_isJunk, frz_IV, part_IV, nats_frz, hX, hY]
  refine W_loop (T := Nat × Nat × List Nat) (fun t => ⟨E [(2, .pp (IV x)), (3, .pp (IV y)), (4, .ptr 2 1 0 0), (5, .own 11 (xs.length + (ys.length + 1))), (21, .sl (nats .u32 xs)), (22, .int .i64 xs.length), (23, .int .i64 t.1)], (Hp.upd (fun _ => none) 2 (some ⟨[.agg [.bool false, .nil]], 2⟩)).upd 11 (some ⟨nats .u32 t.2.2, 1⟩), t.2.1, t.2.1⟩)
    (fun t => 11 < t.2.1 ∧ t.2.2.length = xs.length + (ys.length + 1) ∧ t.1 ≤ xs.length ∧ (∀ z ∈ t.2.2, z < W32) ∧ val W32 t.2.2 = val W32 (xs.take t.1) * val W32 ys ∧ ∀ j, t.1 + ys.length ≤ j → t.2.2.getD j 0 = 0) (fun t => xs.length - t.1) (0, _, List.replicate (xs.length + (ys.length + 1)) 0) rfl
    ⟨by dsimp only; omega, by simp, by simp, by intro z hz; rw [List.eq_of_mem_replicate hz]; decide, by simp [val]; exact val_zeros _ (fun z hz => List.eq_of_mem_replicate hz), fun j _ => by simp [List.getD_eq_getElem?_getD, List.getElem?_replicate]; split <;> rfl⟩ ?_
  rintro ⟨i, nx, out⟩ ⟨h0, h1, h2, h3, h4, h5⟩
  dsimp only at h0 h1 h2 h3 h4 h5
  by_cases hi : i < xs.length
  · generalize hxi : xs.getD i 0 = m
    have hm : m < W32 := by rw [← hxi]; exact getD_lt lx (by decide)
    have hm' : m < 4294967296 := hm
    simp -dsimp -implicitDefEqProofs (disch := (first | omega | (simp only [nats_len, List.length_set, List.length_replicate, List.length_append, List.length_take, List.length_drop, List.length_map, List.length_cons, List.length_nil] <;> omega) | (apply isPure_intro <;> simp))) only [go_sem, IntWalk.i64_in, wu64, wu32, wu8, Nat.mod_eq_of_lt, shr32, shr63, shl32, or32, quo64, quo32, quoi64, remk, quo32_10, rem32_10, quoi_10, remi_10, nat_48add, Nat.add_assoc, add_ne_self, lt_ne, gt_ne, add_inj, dlt_t, dlt_f, dle_t, dle_f, deq_t, deq_f, idxB_nats, idxO_f, idxO_t, loadO_natf, loadO_natt, storeO_nat, storeO_natn, newB_mkn, effV_cpy, cpyO_nat, upd_upd, nats_len, List.length_set, ge_iff_le, gt_iff_lt, Int.toNat_natCast, nat_sub1, nat_sub, nat_add1, nat_add, nat_mul, slc3_pos, slc3_zero, slc_to, nats_take, nats_drop, boxB_eq, IV_cells, IV_isAgg, IV_isJunk, frz_IV, part_IV, nats_frz, hX, hY, hxi]
    refine W_loop (T := Nat × Nat × Nat × List Nat) (fun t => ⟨E [(2, .pp (IV x)), (3, .pp (IV y)), (4, .ptr 2 1 0 0), (5, .own 11 (xs.length + (ys.length + 1))), (6, .int .i64 i), (7, .int .u32 m), (8, .int .u64 t.2.1), (21, .sl (nats .u32 xs)), (22, .int .i64 xs.length), (23, .int .i64 i), (29, .sl (nats .u32 ys)), (30, .int .i64 ys.length), (31, .int .i64 t.1)], (Hp.upd (fun _ => none) 2 (some ⟨[.agg [.bool false, .nil]], 2⟩)).upd 11 (some ⟨nats .u32 t.2.2.2, 1⟩), t.2.2.1, t.2.2.1⟩)
      (fun t => 11 < t.2.2.1 ∧ t.2.2.2.length = xs.length + (ys.length + 1) ∧ t.1 ≤ ys.length ∧ t.2.1 < W32 ∧ (∀ z ∈ t.2.2.2, z < W32) ∧ t.2.2.2.take (i + t.1) ++ mulL W32 m (ys.drop t.1) (t.2.2.2.drop (i + t.1)) t.2.1 = out.take i ++ mulL W32 m ys (out.drop i) 0) (fun t => ys.length - t.1) (0, 0, _, out) rfl ⟨by dsimp only; omega, h1, by dsimp only; omega, by show 0 < 4294967296; decide, h3, by simp⟩ ?_
    rintro ⟨k, o, nx', out'⟩ ⟨k0, k1, k2, k3, k4, k5⟩
    dsimp only at k0 k1 k2 k3 k4 k5
    by_cases hk : k < ys.length
    · generalize hyk : ys.getD k 0 = b
      have hb : b < W32 := by rw [← hyk]; exact getD_lt ly (by decide)
      have hb' : b < 4294967296 := hb
      generalize hok : out'.getD (i + k) 0 = c
      have hc : c < W32 := by rw [← hok]; exact getD_lt k4 (by decide)
      have hc' : c < 4294967296 := hc
      have hov : m * b + c + o < 18446744073709551616 := mulL_over w2 hm hb hc k3
      simp -dsimp -implicitDefEqProofs (disch := (first | omega | (simp only [nats_len, List.length_set, List.length_replicate, List.length_append, List.length_take, List.length_drop, List.length_map, List.length_cons, List.length_nil] <;> omega) | (apply isPure_intro <;> simp))) only [go_sem, IntWalk.i64_in, wu64, wu32, wu8, Nat.mod_eq_of_lt, shr32, shr63, shl32, or32, quo64, quo32, quoi64, remk, quo32_10, rem32_10, quoi_10, remi_10, nat_48add, Nat.add_assoc, add_ne_self, lt_ne, gt_ne, add_inj, dlt_t, dlt_f, dle_t, dle_f, deq_t, deq_f, idxB_nats, idxO_f, idxO_t, loadO_natf, loadO_natt, storeO_nat, storeO_natn, newB_mkn, effV_cpy, cpyO_nat, upd_upd, nats_len, List.length_set, ge_iff_le, gt_iff_lt, Int.toNat_natCast, nat_sub1, nat_sub, nat_add1, nat_add, nat_mul, slc3_pos, slc3_zero, slc_to, nats_take, nats_drop, boxB_eq, IV_cells, IV_isAgg, IV_isJunk, frz_IV, part_IV, nats_frz, hX, hY, hyk, hok]
      refine ⟨(k + 1, (o + (m * b + c)) / 4294967296, _, out'.set (i + k) ((o + (m * b + c)) % 4294967296)), rfl, ⟨by dsimp only; omega, by simp [k1], by dsimp only; omega, by show (o + (m * b + c)) / 4294967296 < 4294967296; omega, fun z hz => ?_, ?_⟩, by dsimp only; omega⟩
      · rcases List.mem_or_eq_of_mem_set hz with hz | rfl
        · exact k4 z hz
        · exact Nat.mod_lt _ (by decide)
      · dsimp only
        rw [← Nat.add_assoc, set_take (by omega), set_drop, ← k5, drop_cons hk, mulL, drop_head, drop_tail, hok, hyk, List.append_assoc, show o + (m * b + c) = m * b + c + o by omega]; rfl
    · have he : k = ys.length := by omega
      subst he
      rw [List.drop_length, mulL, drop_tail] at k5
      simp -dsimp -implicitDefEqProofs (disch := (first | omega | (simp only [nats_len, List.length_set, List.length_replicate, List.length_append, List.length_take, List.length_drop, List.length_map, List.length_cons, List.length_nil] <;> omega) | (apply isPure_intro <;> simp))) only [go_sem, IntWalk.i64_in, wu64, wu32, wu8, Nat.mod_eq_of_lt, shr32, shr63, shl32, or32, quo64, quo32, quoi64, remk, quo32_10, rem32_10, quoi_10, remi_10, nat_48add, Nat.add_assoc, add_ne_self, lt_ne, gt_ne, add_inj, dlt_t, dlt_f, dle_t, dle_f, deq_t, deq_f, idxB_nats, idxO_f, idxO_t, loadO_natf, loadO_natt, storeO_nat, storeO_natn, newB_mkn, effV_cpy, cpyO_nat, upd_upd, nats_len, List.length_set, ge_iff_le, gt_iff_lt, Int.toNat_natCast, nat_sub1, nat_sub, nat_add1, nat_add, nat_mul, slc3_pos, slc3_zero, slc_to, nats_take, nats_drop, boxB_eq, IV_cells, IV_isAgg, IV_isJunk, frz_IV, part_IV, nats_frz, hX, hY]
      have e1 : ((o : Int).toNat) = o := by simp
      have key : out'.set (i + ys.length) o = out.take i ++ mulL W32 m ys (out.drop i) 0 := by
        rw [← k5, List.set_eq_take_append_cons_drop, if_pos (by omega)]
      have hml := mulL_val w2 (m := m) ys (out.drop i) 0 (by simp; omega) (by rw [getD_drop']; exact h5 _ (Nat.le_refl _))
      refine ⟨(i + 1, _, out'.set (i + ys.length) o), rfl, ⟨by dsimp only; omega, by simp [k1], by dsimp only; omega, fun z hz => ?_, ?_, fun j hj => ?_⟩, by dsimp only; omega⟩
      · rcases List.mem_or_eq_of_mem_set hz with hz | rfl
        · exact k4 z hz
        · exact k3
      · dsimp only
        rw [key, val_append, hml, show (out.take i).length = i by simp; omega, val_take_succ hi, hxi, Nat.add_mul, ← h4, val_split (l := out) (i := i) (by omega)]
        simp only [Nat.mul_add, Nat.add_zero, Nat.mul_zero]
        rw [Nat.mul_assoc]; omega
      · dsimp only at hj ⊢
        rw [key, getD_append_take (by omega) (by omega), mulL_high (by omega), getD_drop']
        exact h5 _ (by omega)
  · have he : i = xs.length := by omega
    subst he
    rw [List.take_length, ← hX, ← hY, val_digs w2, val_digs w2] at h4
    have hmr := made_ret (!decide (decide (x < 0) = decide (y < 0))) out h3 (by omega)
    rw [h4] at hmr
    have hsg : IV (sg (!decide (decide (x < 0) = decide (y < 0))) (x.natAbs * y.natAbs)) = IV (x * y) := by
      congr 1
      rw [← Int.natAbs_mul]
      unfold sg
      by_cases h1 : x < 0 <;> by_cases h2 : y < 0
      · have := Int.mul_nonneg_of_nonpos_of_nonpos (show x ≤ 0 by omega) (show y ≤ 0 by omega)
        simp [h1, h2]; omega
      · have := Int.mul_nonpos_of_nonpos_of_nonneg (show x ≤ 0 by omega) (show 0 ≤ y by omega)
        simp [h1, h2]; omega
      · have := Int.mul_nonpos_of_nonneg_of_nonpos (show 0 ≤ x by omega) (show y ≤ 0 by omega)
        simp [h1, h2]; omega
      · have := Int.mul_nonneg (show 0 ≤ x by omega) (show 0 ≤ y by omega)
        simp [h1, h2]; omega
    rw [hsg] at hmr
    simp -dsimp -implicitDefEqProofs (disch := (first | omega | (simp only [nats_len, List.length_set, List.length_replicate, List.length_append, List.length_take, List.length_drop, List.length_map, List.length_cons, List.length_nil] <;> omega) | (apply isPure_intro <;> simp))) only [go_sem, IntWalk.i64_in, wu64, wu32, wu8, Nat.mod_eq_of_lt, shr32, shr63, shl32, or32, quo64, quo32, quoi64, remk, quo32_10, rem32_10, quoi_10, remi_10, nat_48add, Nat.add_assoc, add_ne_self, lt_ne, gt_ne, add_inj, dlt_t, dlt_f, dle_t, dle_f, deq_t, deq_f, idxB_nats, idxO_f, idxO_t, loadO_natf, loadO_natt, storeO_nat, storeO_natn, newB_mkn, effV_cpy, cpyO_nat, upd_upd, nats_len, List.length_set, ge_iff_le, gt_iff_lt, Int.toNat_natCast, nat_sub1, nat_sub, nat_add1, nat_add, nat_mul, slc3_pos, slc3_zero, slc_to, nats_take, nats_drop, boxB_eq, IV_cells, IV_isAgg, IV_isJunk, frz_IV, part_IV, nats_frz, hX, hY]
    refine callB_fr1 11 (nats .u32 out) rfl nats_pure (by simp [V.sub, fz1, nats_len, h1]) hmr (by simp) ?_
    simp -dsimp -implicitDefEqProofs (disch := (first | omega | (simp only [nats_len, List.length_set, List.length_replicate, List.length_append, List.length_take, List.length_drop, List.length_map, List.length_cons, List.length_nil] <;> omega) | (apply isPure_intro <;> simp))) only [go_sem, IntWalk.i64_in, wu64, wu32, wu8, Nat.mod_eq_of_lt, shr32, shr63, shl32, or32, quo64, quo32, quoi64, remk, quo32_10, rem32_10, quoi_10, remi_10, nat_48add, Nat.add_assoc, add_ne_self, lt_ne, gt_ne, add_inj, dlt_t, dlt_f, dle_t, dle_f, deq_t, deq_f, idxB_nats, idxO_f, idxO_t, loadO_natf, loadO_natt, storeO_nat, storeO_natn, newB_mkn, effV_cpy, cpyO_nat, upd_upd, nats_len, List.length_set, ge_iff_le, gt_iff_lt, Int.toNat_natCast, nat_sub1, nat_sub, nat_add1, nat_add, nat_mul, slc3_pos, slc3_zero, slc_to, nats_take, nats_drop, boxB_eq, IV_cells, IV_isAgg, IV_isJunk, frz_IV, part_IV, nats_frz]
end Go.Gim

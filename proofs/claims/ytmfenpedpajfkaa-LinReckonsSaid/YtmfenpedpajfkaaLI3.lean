import Derived.Test.YtmfenpedpajfkaaLI2
import Derived.Test.YtmfenpedpajfkaaM3
/- Numbers as texts. -/
set_option maxRecDepth 100000
set_option linter.unusedSimpArgs false
set_option linter.unusedVariables false
namespace Go.Gim
open Go.Proofs
theorem by_ret (a : List Nat) (b : Nat) (ha : ∀ x ∈ a, x < W32) (hb : 0 < b) (hb2 : b < W32) (hl : a.length ≤ 35184372088832) : Ret pg n_long_by [.sl (nats .u32 a), .int .u32 b] (.tup [.sl (nats .u32 (divL W32 b a).1), .int .u32 (divL W32 b a).2]) := by
  have hb2' : b < 4294967296 := hb2
  refine long_by.of rfl (W_b ?_)
  unfold long_by.k long_by.res
  simp -dsimp -implicitDefEqProofs (disch := (first | omega | (simp only [nats_len, List.length_set, List.length_replicate, List.length_append, List.length_take, List.length_drop, List.length_map, List.length_cons, List.length_nil] <;> omega) | (apply isPure_intro <;> simp))) only [go_sem, IntWalk.i64_in, wu64, wu32, wu8, Nat.mod_eq_of_lt, shr32, shr63, shl32, or32, quo64, quo32, quoi64, remk, quo32_10, rem32_10, quoi_10, remi_10, nat_48add, Nat.add_assoc, add_ne_self, lt_ne, gt_ne, add_inj, dlt_t, dlt_f, dle_t, dle_f, deq_t, deq_f, idxB_nats, idxO_f, idxO_t, loadO_natf, loadO_natt, storeO_nat, storeO_natn, newB_mkn, effV_cpy, cpyO_nat, upd_upd, nats_len, List.length_set, ge_iff_le, gt_iff_lt, Int.toNat_natCast, nat_sub1, nat_sub, nat_add1, nat_add, nat_mul, slc3_pos, slc3_zero, slc_to, nats_take, nats_drop, boxB_eq, IV_cells, IV_isAgg, IV_isJunk, frz_IV, part_IV, nats_frz]
  refine W_loop (T := Nat × Nat × Nat × List Nat) (fun t => ⟨E [(0, .sl (nats .u32 a)), (1, .int .u32 b), (6, .own 4 a.length), (7, .int .u64 t.2.1), (8, .int .i64 ((t.1 : Int) - 1))], Hp.upd (fun _ => none) 4 (some ⟨nats .u32 t.2.2.2, 1⟩), t.2.2.1, t.2.2.1⟩)
    (fun t => t.1 ≤ a.length ∧ t.2.2.2.length = a.length ∧ t.2.1 = (divL W32 b (a.drop t.1)).2 ∧ t.2.2.2.drop t.1 = (divL W32 b (a.drop t.1)).1) (fun t => t.1) (a.length, 0, _, List.replicate a.length 0) rfl ⟨by simp, by simp, by simp [divL], by simp [divL]⟩ ?_
  rintro ⟨j, r, nx, out⟩ ⟨h1, h2, hr, h3⟩
  dsimp only at h1 h2 h3 hr
  have hrb : r < b := by rw [hr]; exact divL_rest hb _
  by_cases hj : j = 0
  · subst hj
    simp only [List.drop_zero] at h3 hr
    simp -dsimp -implicitDefEqProofs (disch := (first | omega | (simp only [nats_len, List.length_set, List.length_replicate, List.length_append, List.length_take, List.length_drop, List.length_map, List.length_cons, List.length_nil] <;> omega) | (apply isPure_intro <;> simp))) only [go_sem, IntWalk.i64_in, wu64, wu32, wu8, Nat.mod_eq_of_lt, shr32, shr63, shl32, or32, quo64, quo32, quoi64, remk, quo32_10, rem32_10, quoi_10, remi_10, nat_48add, Nat.add_assoc, add_ne_self, lt_ne, gt_ne, add_inj, dlt_t, dlt_f, dle_t, dle_f, deq_t, deq_f, idxB_nats, idxO_f, idxO_t, loadO_natf, loadO_natt, storeO_nat, storeO_natn, newB_mkn, effV_cpy, cpyO_nat, upd_upd, nats_len, List.length_set, ge_iff_le, gt_iff_lt, Int.toNat_natCast, nat_sub1, nat_sub, nat_add1, nat_add, nat_mul, slc3_pos, slc3_zero, slc_to, nats_take, nats_drop, boxB_eq, IV_cells, IV_isAgg, IV_isJunk, frz_IV, part_IV, nats_frz]
    simp [h3, hr]
  · have hd := drop_cons (l := a) (i := j - 1) (by omega)
    rw [show j - 1 + 1 = j by omega] at hd
    have hx : a.getD (j - 1) 0 < 4294967296 := getD_lt ha (by decide)
    generalize hX : a.getD (j - 1) 0 = x at hx hd
    have hq : (r * 4294967296 + x) / b < 4294967296 := by
      rw [Nat.div_lt_iff_lt_mul hb]; omega
    simp -dsimp -implicitDefEqProofs (disch := (first | omega | (simp only [nats_len, List.length_set, List.length_replicate, List.length_append, List.length_take, List.length_drop, List.length_map, List.length_cons, List.length_nil] <;> omega) | (apply isPure_intro <;> simp))) only [go_sem, IntWalk.i64_in, wu64, wu32, wu8, Nat.mod_eq_of_lt, shr32, shr63, shl32, or32, quo64, quo32, quoi64, remk, quo32_10, rem32_10, quoi_10, remi_10, nat_48add, Nat.add_assoc, add_ne_self, lt_ne, gt_ne, add_inj, dlt_t, dlt_f, dle_t, dle_f, deq_t, deq_f, idxB_nats, idxO_f, idxO_t, loadO_natf, loadO_natt, storeO_nat, storeO_natn, newB_mkn, effV_cpy, cpyO_nat, upd_upd, nats_len, List.length_set, ge_iff_le, gt_iff_lt, Int.toNat_natCast, nat_sub1, nat_sub, nat_add1, nat_add, nat_mul, slc3_pos, slc3_zero, slc_to, nats_take, nats_drop, boxB_eq, IV_cells, IV_isAgg, IV_isJunk, frz_IV, part_IV, nats_frz, hX]
    refine ⟨(j - 1, (r * 4294967296 + x) % b, _, out.set (j - 1) ((r * 4294967296 + x) / b)), rfl, ⟨by dsimp only; omega, by simp [h2], ?_, ?_⟩, by dsimp only; omega⟩
    · dsimp only; rw [hd, divL, ← hr]
    · dsimp only
      rw [hd, divL, ← hr, ← h3, drop_cons (l := out.set _ _) (i := j - 1) (by simp; omega), set_drop, show j - 1 + 1 = j by omega]
      congr 1
      simp [List.getD_eq_getElem?_getD, show j - 1 < out.length by omega]
theorem ext_getD {l m : List Nat} (hl : l.length = m.length) (h : ∀ i, i < l.length → l.getD i 0 = m.getD i 0) : l = m := by
  refine List.ext_getElem hl fun i h1 h2 => ?_
  have := h i h1
  simpa [List.getD_eq_getElem?_getD, h1, h2] using this
theorem set_getD {l : List Nat} {i j v : Nat} (hi : i < l.length) : (l.set i v).getD j 0 = if j = i then v else l.getD j 0 := by
  simp only [List.getD_eq_getElem?_getD, List.getElem?_set]
  by_cases h : i = j
  · subst h; simp [hi]
  · rw [if_neg h, if_neg (by omega)]
theorem rev_getD {l : List Nat} {j : Nat} (hj : j < l.length) : l.reverse.getD j 0 = l.getD (l.length - 1 - j) 0 := by
  simp [List.getD_eq_getElem?_getD, List.getElem?_reverse hj]
theorem reverse_G (b n0 : Nat) (xs : List Nat) (H : Hp) (hb : H b = some ⟨nats .u8 xs, 1⟩) (hlt : b < n0) (hl : xs.length ≤ 35184372088832) :
    ∃ n', RetG pg n_slices_Reverse_Lbyte_byte [.own b xs.length] H n0 (.tup []) (H.upd b (some ⟨nats .u8 xs.reverse, 1⟩)) n' := by
  suffices h : ∃ r H' n', (r = .tup [] ∧ H' = H.upd b (some ⟨nats .u8 xs.reverse, 1⟩)) ∧ RetG pg n_slices_Reverse_Lbyte_byte [.own b xs.length] H n0 r H' n' by
    obtain ⟨_, _, n', ⟨rfl, rfl⟩, h⟩ := h
    exact ⟨n', h⟩
  refine slices_Reverse_Lbyte_byte.ofG rfl (W_b ?_)
  unfold slices_Reverse_Lbyte_byte.k slices_Reverse_Lbyte_byte.res
  simp -dsimp -implicitDefEqProofs (disch := (first | omega | (simp only [nats_len, List.length_set, List.length_replicate, List.length_append, List.length_take, List.length_drop, List.length_map, List.length_cons, List.length_nil] <;> omega) | (apply isPure_intro <;> simp))) only [go_sem, IntWalk.i64_in, wu64, wu32, wu8, Nat.mod_eq_of_lt, shr32, shr63, shl32, or32, quo64, quo32, quoi64, remk, quo32_10, rem32_10, quoi_10, remi_10, nat_48add, Nat.add_assoc, add_ne_self, lt_ne, gt_ne, add_inj, dlt_t, dlt_f, dle_t, dle_f, deq_t, deq_f, idxB_nats, idxO_f, idxO_t, loadO_natf, loadO_natt, storeO_nat, storeO_natn, newB_mkn, effV_cpy, cpyO_nat, upd_upd, nats_len, List.length_set, ge_iff_le, gt_iff_lt, Int.toNat_natCast, nat_sub1, nat_sub, nat_add1, nat_add, nat_mul, slc3_pos, slc3_zero, slc_to, nats_take, nats_drop, boxB_eq, IV_cells, IV_isAgg, IV_isJunk, frz_IV, part_IV, nats_frz, hb]
  refine W_loop (T := Nat × Nat × List Nat) (fun t => ⟨E [(0, .own b xs.length), (2, .int .i64 t.1), (3, .int .i64 ((xs.length : Int) - 1 - t.1))], H.upd b (some ⟨nats .u8 t.2.2, 1⟩), t.2.1, t.2.1⟩)
    (fun t => n0 < t.2.1 ∧ t.2.2.length = xs.length ∧ 2 * t.1 ≤ xs.length + 1 ∧ ∀ k, k < xs.length → t.2.2.getD k 0 = if k < t.1 ∨ xs.length - t.1 ≤ k then xs.getD (xs.length - 1 - k) 0 else xs.getD k 0) (fun t => xs.length - t.1) (0, _, xs) (by rw [upd_self hb]; simp; rfl) ⟨by dsimp only; omega, rfl, by simp, fun k hk => by simp; omega⟩ ?_
  rintro ⟨i, nx, m⟩ ⟨h0, h1, h2, h3⟩
  dsimp only at h0 h1 h2 h3
  by_cases hi : 2 * i + 1 < xs.length
  · have e1 : (xs.length : Int) - 1 - (i : Int) = ((xs.length - 1 - i : Nat) : Int) := by omega
    simp -dsimp -implicitDefEqProofs (disch := (first | omega | (simp only [nats_len, List.length_set, List.length_replicate, List.length_append, List.length_take, List.length_drop, List.length_map, List.length_cons, List.length_nil] <;> omega) | (apply isPure_intro <;> simp))) only [go_sem, IntWalk.i64_in, wu64, wu32, wu8, Nat.mod_eq_of_lt, shr32, shr63, shl32, or32, quo64, quo32, quoi64, remk, quo32_10, rem32_10, quoi_10, remi_10, nat_48add, Nat.add_assoc, add_ne_self, lt_ne, gt_ne, add_inj, dlt_t, dlt_f, dle_t, dle_f, deq_t, deq_f, idxB_nats, idxO_f, idxO_t, loadO_natf, loadO_natt, storeO_nat, storeO_natn, newB_mkn, effV_cpy, cpyO_nat, upd_upd, nats_len, List.length_set, ge_iff_le, gt_iff_lt, Int.toNat_natCast, nat_sub1, nat_sub, nat_add1, nat_add, nat_mul, slc3_pos, slc3_zero, slc_to, nats_take, nats_drop, boxB_eq, IV_cells, IV_isAgg, IV_isJunk, frz_IV, part_IV, nats_frz, e1]
    refine ⟨(i + 1, _, (m.set i (m.getD (xs.length - 1 - i) 0)).set (xs.length - 1 - i) (m.getD i 0)), (by dsimp only; rw [show ((xs.length - 1 : Nat) : Int) - ((i + 1 : Nat) : Int) = ((xs.length - 1 - i - 1 : Nat) : Int) by omega]), ⟨by dsimp only; omega, by simp [h1], by dsimp only; omega, fun k hk => ?_⟩, by dsimp only; omega⟩
    · dsimp only
      rw [set_getD (by simp; omega), set_getD (by omega), h3 k hk, h3 i (by omega), h3 (xs.length - 1 - i) (by omega)]
      by_cases k1 : k = xs.length - 1 - i
      · subst k1
        rw [if_pos rfl, if_neg (by omega), if_pos (by omega)]
        congr 1; omega
      · rw [if_neg k1]
        by_cases k2 : k = i
        · subst k2
          rw [if_pos rfl, if_neg (by omega), if_pos (by omega)]
        · rw [if_neg k2]
          by_cases k3 : k < i ∨ xs.length - i ≤ k
          · rw [if_pos k3, if_pos (by omega)]
          · rw [if_neg k3, if_neg (by omega)]
  · have hm : m = xs.reverse := by
      refine ext_getD (by simp [h1]) fun k hk => ?_
      rw [h3 k (by omega), rev_getD (by omega)]
      by_cases k3 : k < i ∨ xs.length - i ≤ k
      · rw [if_pos k3]
      · rw [if_neg k3]; congr 1; omega
    simp -dsimp -implicitDefEqProofs (disch := (first | omega | (simp only [nats_len, List.length_set, List.length_replicate, List.length_append, List.length_take, List.length_drop, List.length_map, List.length_cons, List.length_nil] <;> omega) | (apply isPure_intro <;> simp))) only [go_sem, IntWalk.i64_in, wu64, wu32, wu8, Nat.mod_eq_of_lt, shr32, shr63, shl32, or32, quo64, quo32, quoi64, remk, quo32_10, rem32_10, quoi_10, remi_10, nat_48add, Nat.add_assoc, add_ne_self, lt_ne, gt_ne, add_inj, dlt_t, dlt_f, dle_t, dle_f, deq_t, deq_f, idxB_nats, idxO_f, idxO_t, loadO_natf, loadO_natt, storeO_nat, storeO_natn, newB_mkn, effV_cpy, cpyO_nat, upd_upd, nats_len, List.length_set, ge_iff_le, gt_iff_lt, Int.toNat_natCast, nat_sub1, nat_sub, nat_add1, nat_add, nat_mul, slc3_pos, slc3_zero, slc_to, nats_take, nats_drop, boxB_eq, IV_cells, IV_isAgg, IV_isJunk, frz_IV, part_IV, nats_frz, hm]
    exact ⟨[], rfl, by dsimp only; omega, rfl, rfl⟩
theorem nats_app' {k : IntKind} {l : List Nat} {m : Nat} {e : V} (h : e = .int k (m : Int)) : nats k l ++ [e] = nats k (l ++ [m]) := by subst h; simp [nats]
theorem string_ret (x : Int) (hs : lim x ≤ 1099511627776) : Ret pg n_long_Int_String [IV x] (.str (decS x)) := by
  refine long_Int_String.of rfl (W_b ?_)
  unfold long_Int_String.k long_Int_String.res
  by_cases h0 : x = 0
  · subst h0
    have e : digs W32 (Int.natAbs 0) = [] := digs_zero _
    simp -dsimp -implicitDefEqProofs (disch := (first | omega | (simp only [nats_len, List.length_set, List.length_replicate, List.length_append, List.length_take, List.length_drop, List.length_map, List.length_cons, List.length_nil] <;> omega) | (apply isPure_intro <;> simp))) only [go_sem, IntWalk.i64_in, wu64, wu32, wu8, Nat.mod_eq_of_lt, shr32, shr63, shl32, or32, quo64, quo32, quoi64, remk, quo32_10, rem32_10, quoi_10, remi_10, nat_48add, Nat.add_assoc, add_ne_self, lt_ne, gt_ne, add_inj, dlt_t, dlt_f, dle_t, dle_f, deq_t, deq_f, idxB_nats, idxO_f, idxO_t, loadO_natf, loadO_natt, storeO_nat, storeO_natn, newB_mkn, effV_cpy, cpyO_nat, upd_upd, nats_len, List.length_set, ge_iff_le, gt_iff_lt, Int.toNat_natCast, nat_sub1, nat_sub, nat_add1, nat_add, nat_mul, slc3_pos, slc3_zero, slc_to, nats_take, nats_drop, boxB_eq, IV_cells, IV_isAgg, IV_isJunk, frz_IV, part_IV, nats_frz, e, List.length_nil]
    rfl
  · have hne : (digs W32 x.natAbs).length ≠ 0 := by rw [digs_pos w2 (by omega)]; simp
    have hlen : (digs W32 x.natAbs).length ≤ 1099511627776 := hs
    have hdig : (digs 10 x.natAbs).length ≤ 10995116277760 := by
      refine Nat.le_trans (digs_len (k := 10 * (digs W32 x.natAbs).length) (by decide) ?_) (by omega)
      refine Nat.lt_of_lt_of_le (lt_pow_digs w2 _) ?_
      rw [Nat.pow_mul]
      exact Nat.pow_le_pow_left (by decide) _
    simp -dsimp -implicitDefEqProofs (disch := (first | omega | (simp only [nats_len, List.length_set, List.length_replicate, List.length_append, List.length_take, List.length_drop, List.length_map, List.length_cons, List.length_nil] <;> omega) | (apply isPure_intro <;> simp))) only [go_sem, IntWalk.i64_in, wu64, wu32, wu8, Nat.mod_eq_of_lt, shr32, shr63, shl32, or32, quo64, quo32, quoi64, remk, quo32_10, rem32_10, quoi_10, remi_10, nat_48add, Nat.add_assoc, add_ne_self, lt_ne, gt_ne, add_inj, dlt_t, dlt_f, dle_t, dle_f, deq_t, deq_f, idxB_nats, idxO_f, idxO_t, loadO_natf, loadO_natt, storeO_nat, storeO_natn, newB_mkn, effV_cpy, cpyO_nat, upd_upd, nats_len, List.length_set, ge_iff_le, gt_iff_lt, Int.toNat_natCast, nat_sub1, nat_sub, nat_add1, nat_add, nat_mul, slc3_pos, slc3_zero, slc_to, nats_take, nats_drop, boxB_eq, IV_cells, IV_isAgg, IV_isJunk, frz_IV, part_IV, nats_frz]
    refine W_loop (T := Nat × V × Hp × Nat × List Nat) (fun t => ⟨E [(1, .pp (IV x)), (3, t.2.1), (4, .sl (nats .u32 (digs W32 t.1)))], t.2.2.1, t.2.2.2.1, t.2.2.2.1⟩)
      (fun t => 0 < t.2.2.2.1 ∧ t.1 ≤ x.natAbs ∧ Row 0 t.2.2.1 t.2.2.2.1 t.2.1 1 (nats .u8 (t.2.2.2.2.map (48 + ·))) ∧ t.2.2.2.2 ++ digs 10 t.1 = digs 10 x.natAbs) (fun t => t.1) (x.natAbs, .nil, _, _, []) rfl ⟨by dsimp only; omega, Nat.le_refl _, Row.nil _ _ _ _, by simp⟩ ?_
    rintro ⟨m, v, H, nx, ds⟩ ⟨i0, i1, i2, i3⟩
    dsimp only at i0 i1 i2 i3
    have hml : (digs W32 m).length ≤ 1099511627776 := Nat.le_trans (digs_mono w2 i1) hlen
    by_cases hm : m = 0
    · subst hm
      rw [digs_zero, List.append_nil] at i3
      subst i3
      rcases i2 with ⟨_, h⟩ | ⟨b, rfl, _, hb1, hb2⟩
      · exact absurd (congrArg List.length h) (by rw [nats_len]; have := digs_ne (n := x.natAbs) (by omega); simpa using this)
      · by_cases hx : x < 0
        · simp -dsimp -implicitDefEqProofs (disch := (first | omega | (simp only [nats_len, List.length_set, List.length_replicate, List.length_append, List.length_take, List.length_drop, List.length_map, List.length_cons, List.length_nil] <;> omega) | (apply isPure_intro <;> simp))) only [go_sem, IntWalk.i64_in, wu64, wu32, wu8, Nat.mod_eq_of_lt, shr32, shr63, shl32, or32, quo64, quo32, quoi64, remk, quo32_10, rem32_10, quoi_10, remi_10, nat_48add, Nat.add_assoc, add_ne_self, lt_ne, gt_ne, add_inj, dlt_t, dlt_f, dle_t, dle_f, deq_t, deq_f, idxB_nats, idxO_f, idxO_t, loadO_natf, loadO_natt, storeO_nat, storeO_natn, newB_mkn, effV_cpy, cpyO_nat, upd_upd, nats_len, List.length_set, ge_iff_le, gt_iff_lt, Int.toNat_natCast, nat_sub1, nat_sub, nat_add1, nat_add, nat_mul, slc3_pos, slc3_zero, slc_to, nats_take, nats_drop, boxB_eq, IV_cells, IV_isAgg, IV_isJunk, frz_IV, part_IV, nats_frz, digs_zero, List.length_nil]
          refine effB_row (lo := 0) (nx := nx) (H0 := H) (xs := nats .u8 ((digs 10 x.natAbs).map (48 + ·))) (e := .int .u8 45) (.inr ⟨b, by rw [nats_len], by omega, hb1, hb2⟩) (by omega) rfl (by omega) (by omega) (by decide) (by decide) (by simp [nats_len]; omega) (by simp [nats_len]; omega) fun v' H' r1 _ _ _ => ?_
          rw [nats_app' (by rfl)] at r1
          rcases r1 with ⟨_, h⟩ | ⟨b', rfl, _, hb3, hb4⟩
          · exact absurd (congrArg List.length h) (by simp [nats_len])
          · have hd : ((digs 10 x.natAbs).map (48 + ·) ++ [45]).reverse = decL x := by rw [decL, if_neg h0, if_pos hx]; simp
            rw [nats_len]
            simp -dsimp -implicitDefEqProofs (disch := (first | omega | (simp only [nats_len, List.length_set, List.length_replicate, List.length_append, List.length_take, List.length_drop, List.length_map, List.length_cons, List.length_nil] <;> omega) | (apply isPure_intro <;> simp))) only [go_sem, IntWalk.i64_in, wu64, wu32, wu8, Nat.mod_eq_of_lt, shr32, shr63, shl32, or32, quo64, quo32, quoi64, remk, quo32_10, rem32_10, quoi_10, remi_10, nat_48add, Nat.add_assoc, add_ne_self, lt_ne, gt_ne, add_inj, dlt_t, dlt_f, dle_t, dle_f, deq_t, deq_f, idxB_nats, idxO_f, idxO_t, loadO_natf, loadO_natt, storeO_nat, storeO_natn, newB_mkn, effV_cpy, cpyO_nat, upd_upd, nats_len, List.length_set, ge_iff_le, gt_iff_lt, Int.toNat_natCast, nat_sub1, nat_sub, nat_add1, nat_add, nat_mul, slc3_pos, slc3_zero, slc_to, nats_take, nats_drop, boxB_eq, IV_cells, IV_isAgg, IV_isJunk, frz_IV, part_IV, nats_frz]
            refine Exists.elim (reverse_G b' _ ((digs 10 x.natAbs).map (48 + ·) ++ [45]) H' hb4 (by omega) (by simp; omega)) fun n2 hr => callB_G hr ?_
            simp -dsimp -implicitDefEqProofs (disch := (first | omega | (simp only [nats_len, List.length_set, List.length_replicate, List.length_append, List.length_take, List.length_drop, List.length_map, List.length_cons, List.length_nil] <;> omega) | (apply isPure_intro <;> simp))) only [go_sem, IntWalk.i64_in, wu64, wu32, wu8, Nat.mod_eq_of_lt, shr32, shr63, shl32, or32, quo64, quo32, quoi64, remk, quo32_10, rem32_10, quoi_10, remi_10, nat_48add, Nat.add_assoc, add_ne_self, lt_ne, gt_ne, add_inj, dlt_t, dlt_f, dle_t, dle_f, deq_t, deq_f, idxB_nats, idxO_f, idxO_t, loadO_natf, loadO_natt, storeO_nat, storeO_natn, newB_mkn, effV_cpy, cpyO_nat, upd_upd, nats_len, List.length_set, ge_iff_le, gt_iff_lt, Int.toNat_natCast, nat_sub1, nat_sub, nat_add1, nat_add, nat_mul, slc3_pos, slc3_zero, slc_to, nats_take, nats_drop, boxB_eq, IV_cells, IV_isAgg, IV_isJunk, frz_IV, part_IV, nats_frz, hd]
            refine effB_of (effV_b2s (slOf_own (Hp.upd_same _ _ _) (by rw [nats_len, ← hd, List.length_reverse]))) ?_
            simp -dsimp -implicitDefEqProofs (disch := (first | omega | (simp only [nats_len, List.length_set, List.length_replicate, List.length_append, List.length_take, List.length_drop, List.length_map, List.length_cons, List.length_nil] <;> omega) | (apply isPure_intro <;> simp))) only [go_sem, IntWalk.i64_in, wu64, wu32, wu8, Nat.mod_eq_of_lt, shr32, shr63, shl32, or32, quo64, quo32, quoi64, remk, quo32_10, rem32_10, quoi_10, remi_10, nat_48add, Nat.add_assoc, add_ne_self, lt_ne, gt_ne, add_inj, dlt_t, dlt_f, dle_t, dle_f, deq_t, deq_f, idxB_nats, idxO_f, idxO_t, loadO_natf, loadO_natt, storeO_nat, storeO_natn, newB_mkn, effV_cpy, cpyO_nat, upd_upd, nats_len, List.length_set, ge_iff_le, gt_iff_lt, Int.toNat_natCast, nat_sub1, nat_sub, nat_add1, nat_add, nat_mul, slc3_pos, slc3_zero, slc_to, nats_take, nats_drop, boxB_eq, IV_cells, IV_isAgg, IV_isJunk, frz_IV, part_IV, nats_frz]
            rfl
        · simp -dsimp -implicitDefEqProofs (disch := (first | omega | (simp only [nats_len, List.length_set, List.length_replicate, List.length_append, List.length_take, List.length_drop, List.length_map, List.length_cons, List.length_nil] <;> omega) | (apply isPure_intro <;> simp))) only [go_sem, IntWalk.i64_in, wu64, wu32, wu8, Nat.mod_eq_of_lt, shr32, shr63, shl32, or32, quo64, quo32, quoi64, remk, quo32_10, rem32_10, quoi_10, remi_10, nat_48add, Nat.add_assoc, add_ne_self, lt_ne, gt_ne, add_inj, dlt_t, dlt_f, dle_t, dle_f, deq_t, deq_f, idxB_nats, idxO_f, idxO_t, loadO_natf, loadO_natt, storeO_nat, storeO_natn, newB_mkn, effV_cpy, cpyO_nat, upd_upd, nats_len, List.length_set, ge_iff_le, gt_iff_lt, Int.toNat_natCast, nat_sub1, nat_sub, nat_add1, nat_add, nat_mul, slc3_pos, slc3_zero, slc_to, nats_take, nats_drop, boxB_eq, IV_cells, IV_isAgg, IV_isJunk, frz_IV, part_IV, nats_frz, digs_zero, List.length_nil]
          have hd : ((digs 10 x.natAbs).map (48 + ·)).reverse = decL x := by rw [decL, if_neg h0, if_neg hx]; simp
          refine Exists.elim (reverse_G b _ ((digs 10 x.natAbs).map (48 + ·)) H hb2 (by omega) (by simp; omega)) fun n2 hr => callB_G hr ?_
          simp -dsimp -implicitDefEqProofs (disch := (first | omega | (simp only [nats_len, List.length_set, List.length_replicate, List.length_append, List.length_take, List.length_drop, List.length_map, List.length_cons, List.length_nil] <;> omega) | (apply isPure_intro <;> simp))) only [go_sem, IntWalk.i64_in, wu64, wu32, wu8, Nat.mod_eq_of_lt, shr32, shr63, shl32, or32, quo64, quo32, quoi64, remk, quo32_10, rem32_10, quoi_10, remi_10, nat_48add, Nat.add_assoc, add_ne_self, lt_ne, gt_ne, add_inj, dlt_t, dlt_f, dle_t, dle_f, deq_t, deq_f, idxB_nats, idxO_f, idxO_t, loadO_natf, loadO_natt, storeO_nat, storeO_natn, newB_mkn, effV_cpy, cpyO_nat, upd_upd, nats_len, List.length_set, ge_iff_le, gt_iff_lt, Int.toNat_natCast, nat_sub1, nat_sub, nat_add1, nat_add, nat_mul, slc3_pos, slc3_zero, slc_to, nats_take, nats_drop, boxB_eq, IV_cells, IV_isAgg, IV_isJunk, frz_IV, part_IV, nats_frz, hd]
          refine effB_of (effV_b2s (slOf_own (Hp.upd_same _ _ _) (by rw [nats_len, ← hd, List.length_reverse]))) ?_
          simp -dsimp -implicitDefEqProofs (disch := (first | omega | (simp only [nats_len, List.length_set, List.length_replicate, List.length_append, List.length_take, List.length_drop, List.length_map, List.length_cons, List.length_nil] <;> omega) | (apply isPure_intro <;> simp))) only [go_sem, IntWalk.i64_in, wu64, wu32, wu8, Nat.mod_eq_of_lt, shr32, shr63, shl32, or32, quo64, quo32, quoi64, remk, quo32_10, rem32_10, quoi_10, remi_10, nat_48add, Nat.add_assoc, add_ne_self, lt_ne, gt_ne, add_inj, dlt_t, dlt_f, dle_t, dle_f, deq_t, deq_f, idxB_nats, idxO_f, idxO_t, loadO_natf, loadO_natt, storeO_nat, storeO_natn, newB_mkn, effV_cpy, cpyO_nat, upd_upd, nats_len, List.length_set, ge_iff_le, gt_iff_lt, Int.toNat_natCast, nat_sub1, nat_sub, nat_add1, nat_add, nat_mul, slc3_pos, slc3_zero, slc_to, nats_take, nats_drop, boxB_eq, IV_cells, IV_isAgg, IV_isJunk, frz_IV, part_IV, nats_frz]
          rfl
    · have hq := divL_quo (B := W32) (b := 1000000000) (by decide) (digs W32 m)
      rw [val_digs w2] at hq
      have hby := by_ret (digs W32 m) 1000000000 (digs_lt w2 m) (by decide) (by decide) (by omega)
      have hmd := made_ret false (divL W32 1000000000 (digs W32 m)).1 (divL_lt (by decide) _ (digs_lt w2 m)) (by rw [divL_len]; omega)
      rw [hq.1] at hmd
      rw [hq.2] at hby
      have hm0 : (digs W32 m).length ≠ 0 := by rw [digs_pos w2 hm]; simp
      have hml2 : (digs W32 (m / 1000000000)).length ≤ 1099511627776 := Nat.le_trans (digs_mono w2 (Nat.div_le_self _ _)) hml
      have hmod := Nat.mod_add_div m 1000000000
      have hml3 : m % 1000000000 < 1000000000 := Nat.mod_lt _ (by decide)
      have hmq : m / 1000000000 < m := Nat.div_lt_self (by omega) (by decide)
      generalize m / 1000000000 = q at *
      generalize m % 1000000000 = r at *
      simp -dsimp -implicitDefEqProofs (disch := (first | omega | (simp only [nats_len, List.length_set, List.length_replicate, List.length_append, List.length_take, List.length_drop, List.length_map, List.length_cons, List.length_nil] <;> omega) | (apply isPure_intro <;> simp))) only [go_sem, IntWalk.i64_in, wu64, wu32, wu8, Nat.mod_eq_of_lt, shr32, shr63, shl32, or32, quo64, quo32, quoi64, remk, quo32_10, rem32_10, quoi_10, remi_10, nat_48add, Nat.add_assoc, add_ne_self, lt_ne, gt_ne, add_inj, dlt_t, dlt_f, dle_t, dle_f, deq_t, deq_f, idxB_nats, idxO_f, idxO_t, loadO_natf, loadO_natt, storeO_nat, storeO_natn, newB_mkn, effV_cpy, cpyO_nat, upd_upd, nats_len, List.length_set, ge_iff_le, gt_iff_lt, Int.toNat_natCast, nat_sub1, nat_sub, nat_add1, nat_add, nat_mul, slc3_pos, slc3_zero, slc_to, nats_take, nats_drop, boxB_eq, IV_cells, IV_isAgg, IV_isJunk, frz_IV, part_IV, nats_frz]
      refine callB_of hby (by simp) ?_
      simp -dsimp -implicitDefEqProofs (disch := (first | omega | (simp only [nats_len, List.length_set, List.length_replicate, List.length_append, List.length_take, List.length_drop, List.length_map, List.length_cons, List.length_nil] <;> omega) | (apply isPure_intro <;> simp))) only [go_sem, IntWalk.i64_in, wu64, wu32, wu8, Nat.mod_eq_of_lt, shr32, shr63, shl32, or32, quo64, quo32, quoi64, remk, quo32_10, rem32_10, quoi_10, remi_10, nat_48add, Nat.add_assoc, add_ne_self, lt_ne, gt_ne, add_inj, dlt_t, dlt_f, dle_t, dle_f, deq_t, deq_f, idxB_nats, idxO_f, idxO_t, loadO_natf, loadO_natt, storeO_nat, storeO_natn, newB_mkn, effV_cpy, cpyO_nat, upd_upd, nats_len, List.length_set, ge_iff_le, gt_iff_lt, Int.toNat_natCast, nat_sub1, nat_sub, nat_add1, nat_add, nat_mul, slc3_pos, slc3_zero, slc_to, nats_take, nats_drop, boxB_eq, IV_cells, IV_isAgg, IV_isJunk, frz_IV, part_IV, nats_frz]
      refine callB_of hmd (by simp) ?_
      simp -dsimp -implicitDefEqProofs (disch := (first | omega | (simp only [nats_len, List.length_set, List.length_replicate, List.length_append, List.length_take, List.length_drop, List.length_map, List.length_cons, List.length_nil] <;> omega) | (apply isPure_intro <;> simp))) only [go_sem, IntWalk.i64_in, wu64, wu32, wu8, Nat.mod_eq_of_lt, shr32, shr63, shl32, or32, quo64, quo32, quoi64, remk, quo32_10, rem32_10, quoi_10, remi_10, nat_48add, Nat.add_assoc, add_ne_self, lt_ne, gt_ne, add_inj, dlt_t, dlt_f, dle_t, dle_f, deq_t, deq_f, idxB_nats, idxO_f, idxO_t, loadO_natf, loadO_natt, storeO_nat, storeO_natn, newB_mkn, effV_cpy, cpyO_nat, upd_upd, nats_len, List.length_set, ge_iff_le, gt_iff_lt, Int.toNat_natCast, nat_sub1, nat_sub, nat_add1, nat_add, nat_mul, slc3_pos, slc3_zero, slc_to, nats_take, nats_drop, boxB_eq, IV_cells, IV_isAgg, IV_isJunk, frz_IV, part_IV, nats_frz, IV_sg, Bool.false_and]
      refine W_loop (T := Nat × Nat × V × Hp × Nat × List Nat) (fun t => ⟨E [(1, .pp (IV x)), (3, t.2.2.1), (4, .sl (nats .u32 (digs W32 q))), (6, .int .u32 t.2.1), (24, .int .i64 t.1)], t.2.2.2.1, t.2.2.2.2.1, t.2.2.2.2.1⟩)
        (fun t => 0 < t.2.2.2.2.1 ∧ t.1 ≤ 9 ∧ t.2.1 < 10 ^ (9 - t.1) ∧ Row 0 t.2.2.2.1 t.2.2.2.2.1 t.2.2.1 1 (nats .u8 (t.2.2.2.2.2.map (48 + ·))) ∧ t.2.2.2.2.2 ++ digs 10 (q * 10 ^ (9 - t.1) + t.2.1) = digs 10 x.natAbs) (fun t => 9 - t.1) (0, r, v, H, _, ds) rfl ⟨by dsimp only; omega, by dsimp only; omega, by dsimp only; omega, i2.same (fun _ _ => rfl) (by dsimp only; omega), by dsimp only; rw [← i3, ← hmod]; congr 2; omega⟩ ?_
      rintro ⟨k, r', v', H', nx', ds'⟩ ⟨j0, j1, j2, j3, j4⟩
      dsimp only at j0 j1 j2 j3 j4
      have hlen' : ds'.length ≤ 10995116277760 := by rw [← j4, List.length_append] at hdig; omega
      by_cases hk : k < 9
      · obtain ⟨p, hp⟩ : ∃ p, 9 - k = p + 1 := ⟨8 - k, by omega⟩
        rw [hp, Nat.pow_succ] at j2 j4
        have hpp : 10 ^ p ≤ 100000000 := Nat.pow_le_pow_right (n := 10) (by decide) (show p ≤ 8 by omega)
        have hp1 : 0 < 10 ^ p := Nat.pow_pos (by decide)
        have hp' : 10 ^ (9 - (k + 1)) = 10 ^ p := by congr 1; omega
        generalize 10 ^ p = P at *
        have hr' : r' < 4294967296 := by omega
        have ha : r' % 10 < 10 := Nat.mod_lt _ (by decide)
        have e1 : (48 + r' % 10) % 256 = 48 + r' % 10 := by omega
        by_cases hz : r' = 0 ∧ q = 0
        · obtain ⟨rfl, rfl⟩ := hz
          simp -dsimp -implicitDefEqProofs (disch := (first | omega | (simp only [nats_len, List.length_set, List.length_replicate, List.length_append, List.length_take, List.length_drop, List.length_map, List.length_cons, List.length_nil] <;> omega) | (apply isPure_intro <;> simp))) only [go_sem, IntWalk.i64_in, wu64, wu32, wu8, Nat.mod_eq_of_lt, shr32, shr63, shl32, or32, quo64, quo32, quoi64, remk, quo32_10, rem32_10, quoi_10, remi_10, nat_48add, Nat.add_assoc, add_ne_self, lt_ne, gt_ne, add_inj, dlt_t, dlt_f, dle_t, dle_f, deq_t, deq_f, idxB_nats, idxO_f, idxO_t, loadO_natf, loadO_natt, storeO_nat, storeO_natn, newB_mkn, effV_cpy, cpyO_nat, upd_upd, nats_len, List.length_set, ge_iff_le, gt_iff_lt, Int.toNat_natCast, nat_sub1, nat_sub, nat_add1, nat_add, nat_mul, slc3_pos, slc3_zero, slc_to, nats_take, nats_drop, boxB_eq, IV_cells, IV_isAgg, IV_isJunk, frz_IV, part_IV, nats_frz, digs_zero, List.length_nil]
          refine ⟨(k + 1, 0, v', H', _, ds'), rfl, ⟨by dsimp only; omega, by dsimp only; omega, by dsimp only; rw [hp']; exact hp1, j3.same (fun _ _ => rfl) (by dsimp only; omega), by dsimp only; rw [← j4]; simp⟩, by dsimp only; omega⟩
        · have step : digs 10 (q * (P * 10) + r') = r' % 10 :: digs 10 (q * P + r' / 10) := by
            have e : q * (P * 10) = q * P * 10 := by rw [Nat.mul_assoc]
            have hne' : q * (P * 10) + r' ≠ 0 := by
              rw [e]
              by_cases hq0 : q = 0
              · subst hq0; omega
              · have := Nat.mul_pos (show 0 < q by omega) hp1; omega
            rw [digs_pos d2 hne', e]
            congr 1
            · omega
            · congr 1; omega
          rw [step] at j4
          have hd0 : r' = 0 → (digs W32 q).length ≠ 0 := fun h => by rw [digs_pos w2 (by omega)]; simp
          by_cases hr0 : r' = 0
          · have hd1 := hd0 hr0
            simp -dsimp -implicitDefEqProofs (disch := (first | omega | (simp only [nats_len, List.length_set, List.length_replicate, List.length_append, List.length_take, List.length_drop, List.length_map, List.length_cons, List.length_nil] <;> omega) | (apply isPure_intro <;> simp))) only [go_sem, IntWalk.i64_in, wu64, wu32, wu8, Nat.mod_eq_of_lt, shr32, shr63, shl32, or32, quo64, quo32, quoi64, remk, quo32_10, rem32_10, quoi_10, remi_10, nat_48add, Nat.add_assoc, add_ne_self, lt_ne, gt_ne, add_inj, dlt_t, dlt_f, dle_t, dle_f, deq_t, deq_f, idxB_nats, idxO_f, idxO_t, loadO_natf, loadO_natt, storeO_nat, storeO_natn, newB_mkn, effV_cpy, cpyO_nat, upd_upd, nats_len, List.length_set, ge_iff_le, gt_iff_lt, Int.toNat_natCast, nat_sub1, nat_sub, nat_add1, nat_add, nat_mul, slc3_pos, slc3_zero, slc_to, nats_take, nats_drop, boxB_eq, IV_cells, IV_isAgg, IV_isJunk, frz_IV, part_IV, nats_frz, e1]
            refine effB_row (lo := 0) (nx := nx') (H0 := H') (xs := nats .u8 (ds'.map (48 + ·))) j3 (by omega) rfl (by omega) (by omega) (by simp [rowOk, V.isJunk, V.cells, V.cellOk]) (by decide) (by simp [nats_len]; omega) (by simp [nats_len]; omega) fun v2 H2 r1 _ _ _ => ?_
            simp -dsimp -implicitDefEqProofs (disch := (first | omega | (simp only [nats_len, List.length_set, List.length_replicate, List.length_append, List.length_take, List.length_drop, List.length_map, List.length_cons, List.length_nil] <;> omega) | (apply isPure_intro <;> simp))) only [go_sem, IntWalk.i64_in, wu64, wu32, wu8, Nat.mod_eq_of_lt, shr32, shr63, shl32, or32, quo64, quo32, quoi64, remk, quo32_10, rem32_10, quoi_10, remi_10, nat_48add, Nat.add_assoc, add_ne_self, lt_ne, gt_ne, add_inj, dlt_t, dlt_f, dle_t, dle_f, deq_t, deq_f, idxB_nats, idxO_f, idxO_t, loadO_natf, loadO_natt, storeO_nat, storeO_natn, newB_mkn, effV_cpy, cpyO_nat, upd_upd, nats_len, List.length_set, ge_iff_le, gt_iff_lt, Int.toNat_natCast, nat_sub1, nat_sub, nat_add1, nat_add, nat_mul, slc3_pos, slc3_zero, slc_to, nats_take, nats_drop, boxB_eq, IV_cells, IV_isAgg, IV_isJunk, frz_IV, part_IV, nats_frz]
            rw [nats_app' rfl] at r1
            refine ⟨(k + 1, _, v2, H2, _, ds' ++ [r' % 10]), rfl, ⟨by dsimp only; omega, by dsimp only; omega, by dsimp only; rw [hp']; omega, ?_, by dsimp only; rw [hp', List.append_assoc]; exact j4⟩, by dsimp only; omega⟩
            dsimp only
            simpa [show r' % 10 = r' by omega] using r1.same (fun _ _ => rfl) (by omega)
          · simp -dsimp -implicitDefEqProofs (disch := (first | omega | (simp only [nats_len, List.length_set, List.length_replicate, List.length_append, List.length_take, List.length_drop, List.length_map, List.length_cons, List.length_nil] <;> omega) | (apply isPure_intro <;> simp))) only [go_sem, IntWalk.i64_in, wu64, wu32, wu8, Nat.mod_eq_of_lt, shr32, shr63, shl32, or32, quo64, quo32, quoi64, remk, quo32_10, rem32_10, quoi_10, remi_10, nat_48add, Nat.add_assoc, add_ne_self, lt_ne, gt_ne, add_inj, dlt_t, dlt_f, dle_t, dle_f, deq_t, deq_f, idxB_nats, idxO_f, idxO_t, loadO_natf, loadO_natt, storeO_nat, storeO_natn, newB_mkn, effV_cpy, cpyO_nat, upd_upd, nats_len, List.length_set, ge_iff_le, gt_iff_lt, Int.toNat_natCast, nat_sub1, nat_sub, nat_add1, nat_add, nat_mul, slc3_pos, slc3_zero, slc_to, nats_take, nats_drop, boxB_eq, IV_cells, IV_isAgg, IV_isJunk, frz_IV, part_IV, nats_frz, e1]
            refine effB_row (lo := 0) (nx := nx') (H0 := H') (xs := nats .u8 (ds'.map (48 + ·))) j3 (by omega) rfl (by omega) (by omega) (by simp [rowOk, V.isJunk, V.cells, V.cellOk]) (by decide) (by simp [nats_len]; omega) (by simp [nats_len]; omega) fun v2 H2 r1 _ _ _ => ?_
            simp -dsimp -implicitDefEqProofs (disch := (first | omega | (simp only [nats_len, List.length_set, List.length_replicate, List.length_append, List.length_take, List.length_drop, List.length_map, List.length_cons, List.length_nil] <;> omega) | (apply isPure_intro <;> simp))) only [go_sem, IntWalk.i64_in, wu64, wu32, wu8, Nat.mod_eq_of_lt, shr32, shr63, shl32, or32, quo64, quo32, quoi64, remk, quo32_10, rem32_10, quoi_10, remi_10, nat_48add, Nat.add_assoc, add_ne_self, lt_ne, gt_ne, add_inj, dlt_t, dlt_f, dle_t, dle_f, deq_t, deq_f, idxB_nats, idxO_f, idxO_t, loadO_natf, loadO_natt, storeO_nat, storeO_natn, newB_mkn, effV_cpy, cpyO_nat, upd_upd, nats_len, List.length_set, ge_iff_le, gt_iff_lt, Int.toNat_natCast, nat_sub1, nat_sub, nat_add1, nat_add, nat_mul, slc3_pos, slc3_zero, slc_to, nats_take, nats_drop, boxB_eq, IV_cells, IV_isAgg, IV_isJunk, frz_IV, part_IV, nats_frz]
            rw [nats_app' rfl] at r1
            refine ⟨(k + 1, _, v2, H2, _, ds' ++ [r' % 10]), rfl, ⟨by dsimp only; omega, by dsimp only; omega, by dsimp only; rw [hp']; omega, ?_, by dsimp only; rw [hp', List.append_assoc]; exact j4⟩, by dsimp only; omega⟩
            dsimp only
            simpa  using r1.same (fun _ _ => rfl) (by omega)
      · have : k = 9 := by omega
        subst this
        have hr0 : r' = 0 := by simpa using j2
        subst hr0
        simp -dsimp -implicitDefEqProofs (disch := (first | omega | (simp only [nats_len, List.length_set, List.length_replicate, List.length_append, List.length_take, List.length_drop, List.length_map, List.length_cons, List.length_nil] <;> omega) | (apply isPure_intro <;> simp))) only [go_sem, IntWalk.i64_in, wu64, wu32, wu8, Nat.mod_eq_of_lt, shr32, shr63, shl32, or32, quo64, quo32, quoi64, remk, quo32_10, rem32_10, quoi_10, remi_10, nat_48add, Nat.add_assoc, add_ne_self, lt_ne, gt_ne, add_inj, dlt_t, dlt_f, dle_t, dle_f, deq_t, deq_f, idxB_nats, idxO_f, idxO_t, loadO_natf, loadO_natt, storeO_nat, storeO_natn, newB_mkn, effV_cpy, cpyO_nat, upd_upd, nats_len, List.length_set, ge_iff_le, gt_iff_lt, Int.toNat_natCast, nat_sub1, nat_sub, nat_add1, nat_add, nat_mul, slc3_pos, slc3_zero, slc_to, nats_take, nats_drop, boxB_eq, IV_cells, IV_isAgg, IV_isJunk, frz_IV, part_IV, nats_frz]
        exact ⟨(q, v', H', nx' + 1, ds'), rfl, ⟨by dsimp only; omega, by dsimp only; omega, j3.same (fun _ _ => rfl) (by dsimp only; omega), by simpa using j4⟩, hmq⟩
end Go.Gim

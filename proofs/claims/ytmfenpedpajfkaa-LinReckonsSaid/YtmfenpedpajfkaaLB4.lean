import Derived.Test.YtmfenpedpajfkaaRL0
import Derived.Test.YtmfenpedpajfkaaGA4
import Derived.Test.YtmfenpedpajfkaaDT5
import Derived.Test.YtmfenpedpajfkaaLC1
/- The references' products and quadratic functions. -/
set_option maxRecDepth 100000
set_option maxHeartbeats 4000000
set_option linter.unusedSimpArgs false
set_option linter.unusedVariables false
namespace Go.Gim
open Go.Proofs
theorem sumN_dlim {f p : Nat → Int} {L : Nat} (h : ∀ i, dlim (f i) + dlim (p i) ≤ L) : ∀ n, dlim (sumN f p n) ≤ L + n
  | 0 => by have h0 : dlim 0 = 0 := (by simp [dlim, digs_zero]); simp only [sumN]; omega
  | n + 1 => by
    have h1 := sumN_dlim h n
    have h2 := dlim_mul (f n) (p n)
    have h3 := dlim_add (sumN f p n) (f n * p n)
    have h4 := h n
    rw [sumN]
    omega
theorem sumN_congr {f f' p p' : Nat → Int} : ∀ n, (∀ k, k < n → f k * p k = f' k * p' k) → sumN f p n = sumN f' p' n
  | 0, _ => rfl
  | n + 1, h => by rw [sumN, sumN, sumN_congr n fun k hk => h k (by omega), h n (by omega)]
theorem rdot_ret (x y : List Int) (hl : x.length ≤ 1000) (hy : x.length ≤ y.length) (sx : ∀ i, dlim (x.getD i 0) ≤ 2000000) (sy : ∀ i, dlim (y.getD i 0) ≤ 2000000) : Ret pg n_gimbalref07_Dot [dvl x, dvl y] (DV (sumN (fun k => x.getD k 0) (fun k => y.getD k 0) x.length)) := by
  refine gimbalref07_Dot.of rfl (W_b ?_)
  unfold gimbalref07_Dot.k gimbalref07_Dot.res
  simp -dsimp -implicitDefEqProofs (disch := (first | assumption | omega | (simp only [nats_len, List.length_map, List.length_set, List.length_replicate, List.length_append, List.length_range, upto_len, els_len, List.length_cons, List.length_nil] <;> omega) | (apply isPure_intro <;> simp))) only [go_sem, ← DV_zero]
  refine callB_of (r_of 0 (by omega)) (by simp) ?_
  simp -dsimp -implicitDefEqProofs (disch := (first | assumption | omega | (simp only [nats_len, List.length_map, List.length_set, List.length_replicate, List.length_append, List.length_range, upto_len, els_len, List.length_cons, List.length_nil] <;> omega) | (apply isPure_intro <;> simp))) only [go_sem]
  refine W_loopG (T := Nat × Nat) (fun t => ⟨E [(0, dvl x), (1, dvl y), (4, .ptr 0 1 0 0), (5, .ptr 2 1 0 0), (6, .int .i64 t.1)], (Hp.upd (fun _ => none) 0 (some ⟨[DV 0], 2⟩)).upd 2 (some ⟨[DV (sumN (fun k => x.getD k 0) (fun k => y.getD k 0) t.1)], 2⟩), t.2, t.2⟩) (fun t => t.1 ≤ x.length ∧ 2 < t.2) (fun t => x.length - t.1) (0, 5) (Ghost.refl _) ⟨by dsimp only; omega, by dsimp only; omega⟩ ?_
  rintro ⟨i, nx⟩ ⟨i1, i2⟩
  dsimp only at i1 i2
  have b0 := sumN_dlim (f := fun k => x.getD k 0) (p := fun k => y.getD k 0) (L := 4000000) (fun k => by have := sx k; have := sy k; omega) i
  by_cases hi : i < x.length
  · have b1 := sx i
    have b2 := sy i
    have b3 := dlim_mul (x.getD i 0) (y.getD i 0)
    simp -dsimp -implicitDefEqProofs (disch := (first | assumption | omega | (simp only [nats_len, List.length_map, List.length_set, List.length_replicate, List.length_append, List.length_range, upto_len, els_len, List.length_cons, List.length_nil] <;> omega) | (apply isPure_intro <;> simp))) only [go_sem]
    first | refine callB_of (r_mul _ _ (by omega) (by omega)) (by simp) ?_ | refine callP_of (r_mul _ _ (by omega) (by omega)) (by simp) ?_
    simp -dsimp -implicitDefEqProofs (disch := (first | assumption | omega | (simp only [nats_len, List.length_map, List.length_set, List.length_replicate, List.length_append, List.length_range, upto_len, els_len, List.length_cons, List.length_nil] <;> omega) | (apply isPure_intro <;> simp))) only [go_sem]
    first | refine callB_of (r_add _ _ (by omega) (by omega)) (by simp) ?_ | refine callP_of (r_add _ _ (by omega) (by omega)) (by simp) ?_
    simp -dsimp -implicitDefEqProofs (disch := (first | assumption | omega | (simp only [nats_len, List.length_map, List.length_set, List.length_replicate, List.length_append, List.length_range, upto_len, els_len, List.length_cons, List.length_nil] <;> omega) | (apply isPure_intro <;> simp))) only [go_sem]
    exact ⟨(i + 1, _), Ghost.refl _, ⟨by dsimp only; omega, by dsimp only; omega⟩, by dsimp only; omega⟩
  · have hie : x.length = i := by omega
    subst hie
    simp -dsimp -implicitDefEqProofs (disch := (first | assumption | omega | (simp only [nats_len, List.length_map, List.length_set, List.length_replicate, List.length_append, List.length_range, upto_len, els_len, List.length_cons, List.length_nil] <;> omega) | (apply isPure_intro <;> simp))) only [go_sem]
theorem rapply_G (m : List (List Int)) (x : List Int) (n : Nat) (H : Hp) (n0 : Nat) (hn : n ≤ 1000) (hn1 : 1 ≤ n) (hm : Sq m n) (hx : x.length = n) (sm : ∀ i j, dlim (at2 m i j) ≤ 2000000) (sx : ∀ i, dlim (x.getD i 0) ≤ 2000000) :
    ∃ H' n' id, (n0 ≤ id ∧ id < n' ∧ H' id = some ⟨((List.range n).map (applyAt m x n)).map DV, 2⟩ ∧ ∀ b, b < n0 → H' b = H b) ∧ RetG pg n_gimbalref07_Mat_Apply [.sl (m.map dvl), dvl x] H n0 (.own id n) H' n' := by
  suffices h : ∃ r H' n', (∃ id, r = .own id n ∧ n0 ≤ id ∧ id < n' ∧ H' id = some ⟨((List.range n).map (applyAt m x n)).map DV, 2⟩ ∧ ∀ b, b < n0 → H' b = H b) ∧ RetG pg n_gimbalref07_Mat_Apply [.sl (m.map dvl), dvl x] H n0 r H' n' by
    obtain ⟨_, H', n', ⟨id, rfl, h1⟩, h⟩ := h
    exact ⟨H', n', id, h1, h⟩
  have hml := hm.1
  refine gimbalref07_Mat_Apply.ofG rfl (W_b ?_)
  unfold gimbalref07_Mat_Apply.k gimbalref07_Mat_Apply.res
  simp -dsimp -implicitDefEqProofs (disch := (first | assumption | omega | (simp only [nats_len, List.length_map, List.length_set, List.length_replicate, List.length_append, List.length_range, upto_len, els_len, List.length_cons, List.length_nil] <;> omega) | (apply isPure_intro <;> simp))) only [go_sem]
  refine W_loop (T := Nat × V × Hp × Nat) (fun t => ⟨E [(0, .sl (m.map dvl)), (1, dvl x), (5, t.2.1), (6, .int .i64 t.1)], t.2.2.1, t.2.2.2, t.2.2.2⟩)
    (fun t => t.1 ≤ n ∧ n0 ≤ t.2.2.2 ∧ Row n0 t.2.2.1 t.2.2.2 t.2.1 2 (((List.range t.1).map (applyAt m x n)).map DV) ∧ ∀ b, b < n0 → t.2.2.1 b = H b) (fun t => n - t.1) (0, .nil, H, _) rfl ⟨by dsimp only; omega, by dsimp only; omega, Row.nil _ _ _ _, fun _ _ => rfl⟩ ?_
  rintro ⟨i, w, H1, nx⟩ ⟨i1, i2, i3, i4⟩
  dsimp only at i1 i2 i3 i4
  by_cases hi : i < n
  · have hr := hm.row hi
    have hd := rdot_ret (m.getD i []) x (by omega) (by omega) (fun j => by have := sm i j; unfold at2 at this; omega) sx
    have e : sumN (fun k => (m.getD i []).getD k 0) (fun k => x.getD k 0) (m.getD i []).length = applyAt m x n i := by rw [hr]; rfl
    rw [e] at hd
    simp -dsimp -implicitDefEqProofs (disch := (first | assumption | omega | (simp only [nats_len, List.length_map, List.length_set, List.length_replicate, List.length_append, List.length_range, upto_len, els_len, List.length_cons, List.length_nil] <;> omega) | (apply isPure_intro <;> simp))) only [go_sem]
    first | refine callB_of (hd) (by simp) ?_ | refine callP_of (hd) (by simp) ?_
    simp -dsimp -implicitDefEqProofs (disch := (first | assumption | omega | (simp only [nats_len, List.length_map, List.length_set, List.length_replicate, List.length_append, List.length_range, upto_len, els_len, List.length_cons, List.length_nil] <;> omega) | (apply isPure_intro <;> simp))) only [go_sem]
    refine effB_row (lo := n0) (nx := nx) (H0 := H1) (xs := ((List.range i).map (applyAt m x n)).map DV) i3 (by omega) rfl (by omega) (by omega) (by simp [rowOk, V.cells, V.cellOk, DV]) (by decide) (by simp; omega) (by simp; omega) fun v2 H2 r1 _ _ r4 => ?_
    rw [map_app, range_snoc] at r1
    simp -dsimp -implicitDefEqProofs (disch := (first | assumption | omega | (simp only [nats_len, List.length_map, List.length_set, List.length_replicate, List.length_append, List.length_range, upto_len, els_len, List.length_cons, List.length_nil] <;> omega) | (apply isPure_intro <;> simp))) only [go_sem]
    exact ⟨(i + 1, v2, H2, _), rfl, ⟨by dsimp only; omega, by dsimp only; omega, r1.same (fun _ _ => rfl) (by dsimp only; omega), fun b hb => (r4 b hb).trans (i4 b hb)⟩, by dsimp only; omega⟩
  · have hie : n = i := by omega
    subst hie
    obtain ⟨c, rfl, c1, c2, c3⟩ := i3.own_of (by simp; omega)
    rw [List.length_map, List.length_map, List.length_range]
    simp -dsimp -implicitDefEqProofs (disch := (first | assumption | omega | (simp only [nats_len, List.length_map, List.length_set, List.length_replicate, List.length_append, List.length_range, upto_len, els_len, List.length_cons, List.length_nil] <;> omega) | (apply isPure_intro <;> simp))) only [go_sem]
    exact ⟨_, rfl, by dsimp only; omega, _, rfl, by omega, by dsimp only; omega, c3, fun b hb => i4 b hb⟩
theorem rapply_ret (m : List (List Int)) (x : List Int) (n : Nat) (hn : n ≤ 1000) (hn1 : 1 ≤ n) (hm : Sq m n) (hx : x.length = n) (sm : ∀ i j, dlim (at2 m i j) ≤ 2000000) (sx : ∀ i, dlim (x.getD i 0) ≤ 2000000) :
    Ret pg n_gimbalref07_Mat_Apply [.sl (m.map dvl), dvl x] (dvl ((List.range n).map (applyAt m x n))) := by
  obtain ⟨H', n', id, ⟨_, _, h3, _⟩, h⟩ := rapply_G m x n (fun _ => none) 0 hn hn1 hm hx sm sx
  refine h.toRet ?_
  rw [frz_own, h3, frzO_some (by simp), frz_map fun x => rfl]
  rfl
theorem rquad_ret (m : List (List Int)) (x : List Int) (n : Nat) (hn : n ≤ 1000) (hn1 : 1 ≤ n) (hm : Sq m n) (hx : x.length = n) (sm : ∀ i j, dlim (at2 m i j) ≤ 900000) (sx : ∀ i, dlim (x.getD i 0) ≤ 900000) :
    Ret pg n_gimbalref07_Mat_Quad [.sl (m.map dvl), dvl x] (DV (quadV m x n)) := by
  have ha := rapply_ret m x n hn hn1 hm hx (fun i j => by have := sm i j; omega) (fun i => by have := sx i; omega)
  have hd := rdot_ret x ((List.range n).map (applyAt m x n)) (by omega) (by simp; omega) (fun i => by have := sx i; omega) (fun i => by
    rw [range_getD']; split
    · have := sumN_dlim (f := at2 m i) (p := fun k => x.getD k 0) (L := 1800000) (fun k => by have := sm i k; have := sx k; omega) n
      unfold applyAt; omega
    · have := dlim_i64 (x := 0) (by omega); omega)
  have e : sumN (fun k => x.getD k 0) (fun k => ((List.range n).map (applyAt m x n)).getD k 0) x.length = quadV m x n := by
    rw [hx]; unfold quadV; exact sumN_congr n fun k hk => by rw [range_getD 0 hk]
  rw [e] at hd
  refine gimbalref07_Mat_Quad.of rfl (W_b ?_)
  unfold gimbalref07_Mat_Quad.k gimbalref07_Mat_Quad.res
  simp -dsimp -implicitDefEqProofs (disch := (first | assumption | omega | (simp only [nats_len, List.length_map, List.length_set, List.length_replicate, List.length_append, List.length_range, upto_len, els_len, List.length_cons, List.length_nil] <;> omega) | (apply isPure_intro <;> simp))) only [go_sem]
  first | refine callB_of (ha) (by simp) ?_ | refine callP_of (ha) (by simp) ?_
  simp -dsimp -implicitDefEqProofs (disch := (first | assumption | omega | (simp only [nats_len, List.length_map, List.length_set, List.length_replicate, List.length_append, List.length_range, upto_len, els_len, List.length_cons, List.length_nil] <;> omega) | (apply isPure_intro <;> simp))) only [go_sem]
  first | refine callB_of (hd) (by simp) ?_ | refine callP_of (hd) (by simp) ?_
  simp -dsimp -implicitDefEqProofs (disch := (first | assumption | omega | (simp only [nats_len, List.length_map, List.length_set, List.length_replicate, List.length_append, List.length_range, upto_len, els_len, List.length_cons, List.length_nil] <;> omega) | (apply isPure_intro <;> simp))) only [go_sem]
end Go.Gim
/- The references' matrices: determinants by the first row, equations, products, what is definite. -/
set_option maxRecDepth 100000
set_option maxHeartbeats 4000000
set_option linter.unusedSimpArgs false
set_option linter.unusedVariables false
namespace Go.Gim
open Go.Proofs
theorem dlim_zero : dlim 0 = 0 := by simp [dlim, digs_zero]
theorem r_sign (x : Int) (hx : dlim x ≤ 1099511627776) : Ret pg n_gimbalref01_Int_Sign [DV x] (.int .i64 x.sign) := by
  unfold dlim at hx
  refine gimbalref01_Int_Sign.of rfl (W_b ?_)
  unfold gimbalref01_Int_Sign.k gimbalref01_Int_Sign.res
  by_cases h0 : x = 0
  · subst h0
    simp -dsimp -implicitDefEqProofs (disch := (first | omega | (simp only [nats_len, List.length_set, List.length_replicate, List.length_append, List.length_take, List.length_drop, List.length_map, List.length_cons, List.length_nil] <;> omega) | (apply isPure_intro <;> simp))) only [go_sem, IntWalk.i64_in, wu64, wu32, wu8, Nat.mod_eq_of_lt, shr32, shr63, shl32, or32, quo64, quo32, quoi64, remk, quo32_10, rem32_10, quoi_10, remi_10, nat_48add, Nat.add_assoc, add_ne_self, lt_ne, gt_ne, add_inj, dlt_t, dlt_f, dle_t, dle_f, deq_t, deq_f, idxB_nats, idxO_f, idxO_t, loadO_natf, loadO_natt, storeO_nat, storeO_natn, newB_mkn, effV_cpy, cpyO_nat, upd_upd, nats_len, List.length_set, ge_iff_le, gt_iff_lt, Int.toNat_natCast, nat_sub1, nat_sub, nat_add1, nat_add, nat_mul, slc3_pos, slc3_zero, slc_to, nats_take, nats_drop, boxB_eq, DV_cells, DV_isAgg, DV_isJunk, frz_DV, part_DV, nats_frz, Int.natAbs_zero, digs_zero, Int.sign_zero]
  · have : (digs 10 x.natAbs).length ≠ 0 := by rw [digs_pos (by decide) (by omega)]; simp
    by_cases hn : x < 0
    · simp -dsimp -implicitDefEqProofs (disch := (first | omega | (simp only [nats_len, List.length_set, List.length_replicate, List.length_append, List.length_take, List.length_drop, List.length_map, List.length_cons, List.length_nil] <;> omega) | (apply isPure_intro <;> simp))) only [go_sem, IntWalk.i64_in, wu64, wu32, wu8, Nat.mod_eq_of_lt, shr32, shr63, shl32, or32, quo64, quo32, quoi64, remk, quo32_10, rem32_10, quoi_10, remi_10, nat_48add, Nat.add_assoc, add_ne_self, lt_ne, gt_ne, add_inj, dlt_t, dlt_f, dle_t, dle_f, deq_t, deq_f, idxB_nats, idxO_f, idxO_t, loadO_natf, loadO_natt, storeO_nat, storeO_natn, newB_mkn, effV_cpy, cpyO_nat, upd_upd, nats_len, List.length_set, ge_iff_le, gt_iff_lt, Int.toNat_natCast, nat_sub1, nat_sub, nat_add1, nat_add, nat_mul, slc3_pos, slc3_zero, slc_to, nats_take, nats_drop, boxB_eq, DV_cells, DV_isAgg, DV_isJunk, frz_DV, part_DV, nats_frz, Int.sign_eq_neg_one_of_neg hn]
    · simp -dsimp -implicitDefEqProofs (disch := (first | omega | (simp only [nats_len, List.length_set, List.length_replicate, List.length_append, List.length_take, List.length_drop, List.length_map, List.length_cons, List.length_nil] <;> omega) | (apply isPure_intro <;> simp))) only [go_sem, IntWalk.i64_in, wu64, wu32, wu8, Nat.mod_eq_of_lt, shr32, shr63, shl32, or32, quo64, quo32, quoi64, remk, quo32_10, rem32_10, quoi_10, remi_10, nat_48add, Nat.add_assoc, add_ne_self, lt_ne, gt_ne, add_inj, dlt_t, dlt_f, dle_t, dle_f, deq_t, deq_f, idxB_nats, idxO_f, idxO_t, loadO_natf, loadO_natt, storeO_nat, storeO_natn, newB_mkn, effV_cpy, cpyO_nat, upd_upd, nats_len, List.length_set, ge_iff_le, gt_iff_lt, Int.toNat_natCast, nat_sub1, nat_sub, nat_add1, nat_add, nat_mul, slc3_pos, slc3_zero, slc_to, nats_take, nats_drop, boxB_eq, DV_cells, DV_isAgg, DV_isJunk, frz_DV, part_DV, nats_frz, Int.sign_eq_one_of_pos (show 0 < x by omega)]
def dropK (f : Nat → Int) (k j : Nat) : List Int := (List.range (if j ≤ k then j else j - 1)).map fun q => f (skip k q)
theorem dropK_in {f : Nat → Int} {k j : Nat} (h : j ≠ k) : dropK f k j ++ [f j] = dropK f k (j + 1) := by
  unfold dropK
  by_cases h1 : j < k
  · rw [if_pos (by omega), if_pos (by omega), ← range_snoc]
    have : skip k j = j := by have := skip_or k j; omega
    rw [this]
  · rw [if_neg (by omega), if_neg (by omega)]
    obtain ⟨m, rfl⟩ : ∃ m, j = m + 1 := ⟨j - 1, by omega⟩
    have : skip k m = m + 1 := by have := skip_or k m; omega
    rw [show m + 1 + 1 - 1 = m + 1 by omega, show m + 1 - 1 = m by omega, ← range_snoc, this]
theorem dropK_out {f : Nat → Int} {k : Nat} : dropK f k k = dropK f k (k + 1) := by
  unfold dropK; rw [if_pos (Nat.le_refl _), if_neg (by omega)]; rfl
theorem dropK_all {f : Nat → Int} {k n : Nat} (h : k < n + 1) : dropK f k (n + 1) = rowF n fun q => f (skip k q) := by
  unfold dropK rowF; rw [if_neg (by omega)]; rfl
theorem dropK_len (f : Nat → Int) (k j : Nat) : (dropK f k j).length ≤ j := by unfold dropK; rw [List.length_map, List.length_range]; split <;> omega
theorem rwithout_ret (A : List (List Int)) (n k : Nat) (hn : n ≤ 1000) (hA : Sq A (n + 1)) (hk : k < n + 1) : Ret pg n_gimbalref07_without [.sl (A.map dvl), .int .i64 k] (.sl ((mat n (minor (at2 A) k)).map dvl)) := by
  have hl := hA.1
  have hrow : ∀ i, ∀ x ∈ (List.range i).map fun q => dvl (rowF n (minor (at2 A) k q)), V.Pure x := fun i => pure_map fun x => by simp
  refine gimbalref07_without.of rfl (W_b ?_)
  unfold gimbalref07_without.k gimbalref07_without.res
  simp -dsimp -implicitDefEqProofs (disch := (first | assumption | omega | (simp only [nats_len, List.length_map, List.length_set, List.length_replicate, List.length_append, List.length_range, upto_len, els_len, List.length_cons, List.length_nil] <;> omega) | (apply isPure_intro <;> simp))) only [go_sem]
  refine W_loop (T := Nat × V × Hp × Nat) (fun t => ⟨E [(0, .sl (A.map dvl)), (1, .int .i64 k), (5, t.2.1), (6, .int .i64 ((t.1 + 1 : Nat) : Int))], t.2.2.1, t.2.2.2, t.2.2.2⟩)
    (fun t => t.1 ≤ n ∧ Row 0 t.2.2.1 t.2.2.2 t.2.1 1 ((List.range t.1).map fun q => dvl (rowF n (minor (at2 A) k q)))) (fun t => n - t.1) (0, .nil, _, _) rfl ⟨by dsimp only; omega, Row.nil _ _ _ _⟩ ?_
  rintro ⟨i, w, H, nx⟩ ⟨i1, i2⟩
  dsimp only at i1 i2
  by_cases hi : i < n
  · have hr := hA.row (show i + 1 < n + 1 by omega)
    have hg : ∀ j, (A.getD (i + 1) []).getD j 0 = at2 A (i + 1) j := fun j => rfl
    simp -dsimp -implicitDefEqProofs (disch := (first | assumption | omega | (simp only [nats_len, List.length_map, List.length_set, List.length_replicate, List.length_append, List.length_range, upto_len, els_len, List.length_cons, List.length_nil] <;> omega) | (apply isPure_intro <;> simp))) only [go_sem, hl]
    refine W_loop (T := Nat × V × Hp × Nat) (fun t => ⟨E [(0, .sl (A.map dvl)), (1, .int .i64 k), (5, w), (6, .int .i64 ((i + 1 : Nat) : Int)), (7, t.2.1), (8, .int .i64 t.1)], t.2.2.1, t.2.2.2, t.2.2.2⟩)
      (fun t => t.1 ≤ n + 1 ∧ nx ≤ t.2.2.2 ∧ (∀ b, b < nx → t.2.2.1 b = H b) ∧ Row nx t.2.2.1 t.2.2.2 t.2.1 2 ((dropK (at2 A (i + 1)) k t.1).map DV)) (fun t => n + 1 - t.1) (0, .nil, H, _) rfl ⟨by dsimp only; omega, by dsimp only; omega, fun _ _ => rfl, by dsimp only; unfold dropK; rw [if_pos (by omega)]; exact Row.nil _ _ _ _⟩ ?_
    rintro ⟨j, u, H', nx'⟩ ⟨j1, j2, j3, j4⟩
    dsimp only at j1 j2 j3 j4
    have hdl := dropK_len (at2 A (i + 1)) k j
    by_cases hj : j < n + 1
    · by_cases hjk : j = k
      · subst hjk
        simp -dsimp -implicitDefEqProofs (disch := (first | assumption | omega | (simp only [nats_len, List.length_map, List.length_set, List.length_replicate, List.length_append, List.length_range, upto_len, els_len, List.length_cons, List.length_nil] <;> omega) | (apply isPure_intro <;> simp))) only [go_sem, hl, hr]
        exact ⟨(j + 1, u, H', _), rfl, ⟨by dsimp only; omega, by dsimp only; omega, j3, by dsimp only; rw [← dropK_out]; exact j4.same (fun _ _ => rfl) (by omega)⟩, by dsimp only; omega⟩
      · have hdi := dropK_in (f := at2 A (i + 1)) hjk
        simp -dsimp -implicitDefEqProofs (disch := (first | assumption | omega | (simp only [nats_len, List.length_map, List.length_set, List.length_replicate, List.length_append, List.length_range, upto_len, els_len, List.length_cons, List.length_nil] <;> omega) | (apply isPure_intro <;> simp))) only [go_sem, hl, hr, hg]
        refine effB_row (lo := nx) (nx := nx') (H0 := H') (xs := (dropK (at2 A (i + 1)) k j).map DV) j4 (by omega) rfl (by omega) (by omega) (by simp [rowOk, V.cells, V.cellOk, DV]) (by decide) (by simp; omega) (by simp; omega) fun v2 H2 r1 _ _ r4 => ?_
        rw [map_app, hdi] at r1
        simp -dsimp -implicitDefEqProofs (disch := (first | assumption | omega | (simp only [nats_len, List.length_map, List.length_set, List.length_replicate, List.length_append, List.length_range, upto_len, els_len, List.length_cons, List.length_nil] <;> omega) | (apply isPure_intro <;> simp))) only [go_sem]
        exact ⟨(j + 1, v2, H2, _), rfl, ⟨by dsimp only; omega, by dsimp only; omega, fun b hb => (r4 b hb).trans (j3 b hb), r1.same (fun _ _ => rfl) (by dsimp only; omega)⟩, by dsimp only; omega⟩
    · have hje : j = n + 1 := by omega
      subst hje
      rw [dropK_all hk] at j4
      have e7 : (rowF n fun q => at2 A (i + 1) (skip k q)) = rowF n (minor (at2 A) k i) := rfl
      rw [e7] at j4
      have i3 : Row 0 H' nx w 1 ((List.range i).map fun q => dvl (rowF n (minor (at2 A) k q))) := i2.same j3 (Nat.le_refl _)
      simp -dsimp -implicitDefEqProofs (disch := (first | assumption | omega | (simp only [nats_len, List.length_map, List.length_set, List.length_replicate, List.length_append, List.length_range, upto_len, els_len, List.length_cons, List.length_nil] <;> omega) | (apply isPure_intro <;> simp))) only [go_sem, hl, hr]
      refine gh_row (lo := nx) (ys := (rowF n (minor (at2 A) k i)).map DV) 7 rfl (j4.same (fun _ _ => rfl) (by omega)) (pure_map fun x => by simp) (fun p hp hne c hc => ?_) fun H2 hH2 => ?_
      · simp only [List.mem_cons, List.not_mem_nil, or_false] at hp
        rcases hp with rfl | rfl | rfl | rfl | rfl | rfl | rfl <;> first | exact absurd rfl hne | (simp [V.sub]; done) | exact i2.sub_ge (by omega)
      · have i4 := i3.told (nx := nx') (Nat.le_refl _) j2 (hrow i) hH2
        have e8 : V.sl ((rowF n (minor (at2 A) k i)).map DV) = dvl (rowF n (minor (at2 A) k i)) := rfl
        simp -dsimp -implicitDefEqProofs (disch := (first | assumption | omega | (simp only [nats_len, List.length_map, List.length_set, List.length_replicate, List.length_append, List.length_range, upto_len, els_len, List.length_cons, List.length_nil] <;> omega) | (apply isPure_intro <;> simp))) only [go_sem, e8]
        refine effB_row (lo := 0) (nx := nx') (H0 := H2) (xs := (List.range i).map fun q => dvl (rowF n (minor (at2 A) k q))) i4 (by omega) rfl (by omega) (by omega) (by simp [rowOk, V.cells, V.cellOk, dvl, V.isJunk]) (by decide) (by simp; omega) (by simp; omega) fun v2 H3 r1 _ _ r4 => ?_
        rw [range_snoc (fun q => dvl (rowF n (minor (at2 A) k q)))] at r1
        simp -dsimp -implicitDefEqProofs (disch := (first | assumption | omega | (simp only [nats_len, List.length_map, List.length_set, List.length_replicate, List.length_append, List.length_range, upto_len, els_len, List.length_cons, List.length_nil] <;> omega) | (apply isPure_intro <;> simp))) only [go_sem]
        exact ⟨(i + 1, v2, H3, _), rfl, ⟨by dsimp only; omega, r1.same (fun _ _ => rfl) (by dsimp only; omega)⟩, by dsimp only; omega⟩
  · have hie : i = n := by omega
    subst hie
    simp -dsimp -implicitDefEqProofs (disch := (first | assumption | omega | (simp only [nats_len, List.length_map, List.length_set, List.length_replicate, List.length_append, List.length_range, upto_len, els_len, List.length_cons, List.length_nil] <;> omega) | (apply isPure_intro <;> simp))) only [go_sem, hl]
    rw [i2.frz (allOf_self fun x hx => by obtain ⟨q, _, rfl⟩ := List.mem_map.1 hx; rfl)]
    unfold mat
    rw [List.map_map]
    rfl
theorem sgn_dlim (k : Nat) (x : Int) : dlim (sgn k * x) = dlim x := by
  unfold sgn; split
  · rw [Int.one_mul]
  · rw [Int.neg_mul, Int.one_mul, dlim_neg]
theorem sumZ_dlim {f : Nat → Int} {B : Nat} : ∀ {n}, (∀ k, k < n → dlim (f k) ≤ B) → dlim (sumZ f n) ≤ B + n
  | 0, _ => by rw [sumZ, dlim_zero]; omega
  | n + 1, h => by
    have h1 := sumZ_dlim (f := f) (n := n) fun k hk => h k (by omega)
    have h2 := h n (by omega)
    have h3 := dlim_add (sumZ f n) (f n)
    rw [sumZ]; omega
theorem det_dlim {L : Nat} : ∀ {n : Nat} {M : Mx}, (∀ i j, i < n → j < n → dlim (M i j) ≤ L) → dlim (det n M) ≤ n * (L + n) + 1
  | 0, M, _ => by have : dlim 1 ≤ 1 := dlim_of (by decide); simp only [det]; omega
  | n + 1, M, h => by
    rw [det]
    have h1 : ∀ k, k < n + 1 → dlim (sgn k * (M 0 k * det n (minor M k))) ≤ L + (n * (L + n) + 1) := fun k hk => by
      have h2 := det_dlim (n := n) (M := minor M k) (L := L) fun i j hi hj => h _ _ (by omega) (skip_lt hj)
      have h3 := dlim_mul (M 0 k) (det n (minor M k))
      have h4 := h 0 k (by omega) hk
      rw [sgn_dlim]; omega
    have h2 := sumZ_dlim h1
    have e : (n + 1) * (L + (n + 1)) = n * (L + n) + n + L + (n + 1) := by
      rw [Nat.add_mul, Nat.mul_add n L (n + 1), Nat.mul_add n L n, Nat.mul_add n n 1]; omega
    omega
theorem sgn_rem (i : Nat) : ((i : Int).tmod 2 = 1 ∧ sgn i = -1) ∨ ((i : Int).tmod 2 = 0 ∧ sgn i = 1) := by
  have h : (i : Int).tmod 2 = ((i % 2 : Nat) : Int) := by rw [Int.ofNat_tmod]; rfl
  rw [h]
  unfold sgn
  by_cases h2 : i % 2 = 0
  · rw [if_pos h2, h2]; exact .inr ⟨rfl, rfl⟩
  · rw [if_neg h2, show i % 2 = 1 by omega]; exact .inl ⟨rfl, rfl⟩
theorem rdet_ret {L : Nat} (hL : L ≤ 1000000) : ∀ (n : Nat) (A : List (List Int)), n ≤ 12 → Sq A n → (∀ i j, i < n → j < n → dlim (at2 A i j) ≤ L) → Ret pg n_gimbalref07_Mat_Det [.sl (A.map dvl)] (DV (det n (at2 A)))
  | 0, A, hn, hA, hs => by
    have hl := hA.1
    refine gimbalref07_Mat_Det.of rfl (W_b ?_)
    unfold gimbalref07_Mat_Det.k gimbalref07_Mat_Det.res
    simp -dsimp -implicitDefEqProofs (disch := (first | assumption | omega | (simp only [nats_len, List.length_map, List.length_set, List.length_replicate, List.length_append, List.length_range, upto_len, els_len, List.length_cons, List.length_nil] <;> omega) | (apply isPure_intro <;> simp))) only [go_sem, hl]
    first | refine callB_of (r_of 1 (by decide)) (by simp) ?_ | refine callP_of (r_of 1 (by decide)) (by simp) ?_
    simp -dsimp -implicitDefEqProofs (disch := (first | assumption | omega | (simp only [nats_len, List.length_map, List.length_set, List.length_replicate, List.length_append, List.length_range, upto_len, els_len, List.length_cons, List.length_nil] <;> omega) | (apply isPure_intro <;> simp))) only [go_sem]
    rfl
  | n + 1, A, hn, hA, hs => by
    have hl := hA.1
    have hr := hA.row (show 0 < n + 1 by omega)
    have hg : ∀ j, (A.getD 0 []).getD j 0 = at2 A 0 j := fun j => rfl
    have hd : ∀ k, k < n + 1 → dlim (det n (minor (at2 A) k)) ≤ n * (L + n) + 1 := fun k hk => det_dlim fun i j hi hj => hs _ _ (by omega) (skip_lt hj)
    have hnl : n * (L + n) ≤ 12 * 1000012 := Nat.mul_le_mul (by omega) (by omega)
    have hp : ∀ i, i ≤ n + 1 → dlim (sumZ (fun k => sgn k * (at2 A 0 k * det n (minor (at2 A) k))) i) ≤ 13000200 := fun i hi => by
      have := sumZ_dlim (f := fun k => sgn k * (at2 A 0 k * det n (minor (at2 A) k))) (n := i) (B := 13000146) fun k hk => by
        have h3 := dlim_mul (at2 A 0 k) (det n (minor (at2 A) k))
        have h4 := hs 0 k (by omega) (by omega)
        have h5 := hd k (by omega)
        rw [sgn_dlim]; omega
      omega
    refine gimbalref07_Mat_Det.of rfl (W_b ?_)
    unfold gimbalref07_Mat_Det.k gimbalref07_Mat_Det.res
    simp -dsimp -implicitDefEqProofs (disch := (first | assumption | omega | (simp only [nats_len, List.length_map, List.length_set, List.length_replicate, List.length_append, List.length_range, upto_len, els_len, List.length_cons, List.length_nil] <;> omega) | (apply isPure_intro <;> simp))) only [go_sem, hl]
    first | refine callB_of (r_of 0 (by decide)) (by simp) ?_ | refine callP_of (r_of 0 (by decide)) (by simp) ?_
    simp -dsimp -implicitDefEqProofs (disch := (first | assumption | omega | (simp only [nats_len, List.length_map, List.length_set, List.length_replicate, List.length_append, List.length_range, upto_len, els_len, List.length_cons, List.length_nil] <;> omega) | (apply isPure_intro <;> simp))) only [go_sem]
    refine W_loop (T := Nat × Hp × Nat) (fun t => ⟨E [(0, .sl (A.map dvl)), (2, .ptr 0 1 0 0), (3, .ptr 5 1 0 0), (4, .int .i64 t.1)], t.2.1, t.2.2, t.2.2⟩)
      (fun t => t.1 ≤ n + 1 ∧ 6 ≤ t.2.2 ∧ t.2.1 0 = some ⟨[.agg [.bool false, .sl []]], 2⟩ ∧ t.2.1 5 = some ⟨[DV (sumZ (fun k => sgn k * (at2 A 0 k * det n (minor (at2 A) k))) t.1)], 2⟩) (fun t => n + 1 - t.1) (0, _, _) rfl ⟨by dsimp only; omega, by dsimp only; omega, rfl, rfl⟩ ?_
    rintro ⟨i, H, nx⟩ ⟨i1, i2, i3, i4⟩
    dsimp only at i1 i2 i3 i4
    by_cases hi : i < n + 1
    · have hw := rwithout_ret A n i (by omega) hA hi
      have hdt := rdet_ret hL n (mat n (minor (at2 A) i)) (by omega) (mat_sq _ _) fun p q hp hq => by rw [mat_at hp hq]; exact hs _ _ (by omega) (skip_lt hq)
      have e1 : det n (at2 (mat n (minor (at2 A) i))) = det n (minor (at2 A) i) := det_congr fun p q hp hq => mat_at hp hq
      rw [e1] at hdt
      have d1 := hd i hi
      have d2 := hs 0 i (by omega) hi
      have d3 := hp i (by omega)
      have d4 := dlim_mul (at2 A 0 i) (det n (minor (at2 A) i))
      have d5 := dlim_neg (at2 A 0 i * det n (minor (at2 A) i))
      have hrem : binV .rem (.int .i64 (i : Int)) (.int .i64 2) = some (.int .i64 ((i : Int).tmod 2)) := by
        rw [binV_rem, if_neg (by decide)]
      simp -dsimp -implicitDefEqProofs (disch := (first | assumption | omega | (simp only [nats_len, List.length_map, List.length_set, List.length_replicate, List.length_append, List.length_range, upto_len, els_len, List.length_cons, List.length_nil] <;> omega) | (apply isPure_intro <;> simp))) only [go_sem, hl, hr, hg]
      first | refine callB_of (hw) (by simp) ?_ | refine callP_of (hw) (by simp) ?_
      simp -dsimp -implicitDefEqProofs (disch := (first | assumption | omega | (simp only [nats_len, List.length_map, List.length_set, List.length_replicate, List.length_append, List.length_range, upto_len, els_len, List.length_cons, List.length_nil] <;> omega) | (apply isPure_intro <;> simp))) only [go_sem]
      first | refine callB_of (hdt) (by simp) ?_ | refine callP_of (hdt) (by simp) ?_
      simp -dsimp -implicitDefEqProofs (disch := (first | assumption | omega | (simp only [nats_len, List.length_map, List.length_set, List.length_replicate, List.length_append, List.length_range, upto_len, els_len, List.length_cons, List.length_nil] <;> omega) | (apply isPure_intro <;> simp))) only [go_sem, hl, hr, hg]
      first | refine callB_of (r_mul _ _ (by omega) (by omega)) (by simp) ?_ | refine callP_of (r_mul _ _ (by omega) (by omega)) (by simp) ?_
      rcases sgn_rem i with ⟨h1, h2⟩ | ⟨h1, h2⟩
      · simp -dsimp -implicitDefEqProofs (disch := (first | assumption | omega | (simp only [nats_len, List.length_map, List.length_set, List.length_replicate, List.length_append, List.length_range, upto_len, els_len, List.length_cons, List.length_nil] <;> omega) | (apply isPure_intro <;> simp))) only [go_sem, hrem, h1]
        first | refine callB_of (r_minus _ (by omega)) (by simp) ?_ | refine callP_of (r_minus _ (by omega)) (by simp) ?_
        simp -dsimp -implicitDefEqProofs (disch := (first | assumption | omega | (simp only [nats_len, List.length_map, List.length_set, List.length_replicate, List.length_append, List.length_range, upto_len, els_len, List.length_cons, List.length_nil] <;> omega) | (apply isPure_intro <;> simp))) only [go_sem, i4, i3]
        first | refine callB_of (r_add _ _ (by omega) (by omega)) (by simp) ?_ | refine callP_of (r_add _ _ (by omega) (by omega)) (by simp) ?_
        simp -dsimp -implicitDefEqProofs (disch := (first | assumption | omega | (simp only [nats_len, List.length_map, List.length_set, List.length_replicate, List.length_append, List.length_range, upto_len, els_len, List.length_cons, List.length_nil] <;> omega) | (apply isPure_intro <;> simp))) only [go_sem, i4, i3]
        generalize hG : Hp.upd _ 5 _ = G
        exact ⟨(i + 1, G, _), rfl, ⟨by dsimp only; omega, by dsimp only; omega, by dsimp only; rw [← hG, Hp.upd_ne _ _ (by omega), Hp.upd_ne _ _ (by omega)]; exact i3, by dsimp only; rw [← hG, Hp.upd_same, sumZ, h2, Int.neg_mul, Int.one_mul]⟩, by dsimp only; omega⟩
      · simp -dsimp -implicitDefEqProofs (disch := (first | assumption | omega | (simp only [nats_len, List.length_map, List.length_set, List.length_replicate, List.length_append, List.length_range, upto_len, els_len, List.length_cons, List.length_nil] <;> omega) | (apply isPure_intro <;> simp))) only [go_sem, hrem, h1, i4, i3]
        first | refine callB_of (r_add _ _ (by omega) (by omega)) (by simp) ?_ | refine callP_of (r_add _ _ (by omega) (by omega)) (by simp) ?_
        simp -dsimp -implicitDefEqProofs (disch := (first | assumption | omega | (simp only [nats_len, List.length_map, List.length_set, List.length_replicate, List.length_append, List.length_range, upto_len, els_len, List.length_cons, List.length_nil] <;> omega) | (apply isPure_intro <;> simp))) only [go_sem, i4, i3]
        generalize hG : Hp.upd _ 5 _ = G
        exact ⟨(i + 1, G, _), rfl, ⟨by dsimp only; omega, by dsimp only; omega, by dsimp only; rw [← hG, Hp.upd_ne _ _ (by omega), Hp.upd_ne _ _ (by omega)]; exact i3, by dsimp only; rw [← hG, Hp.upd_same, sumZ, h2, Int.one_mul]⟩, by dsimp only; omega⟩
    · obtain rfl : i = n + 1 := by omega
      simp -dsimp -implicitDefEqProofs (disch := (first | assumption | omega | (simp only [nats_len, List.length_map, List.length_set, List.length_replicate, List.length_append, List.length_range, upto_len, els_len, List.length_cons, List.length_nil] <;> omega) | (apply isPure_intro <;> simp))) only [go_sem, hl, i3, i4]
      rfl
end Go.Gim
/- The references' matrices: turned, products, what is definite. -/
set_option maxRecDepth 100000
set_option maxHeartbeats 4000000
set_option linter.unusedSimpArgs false
set_option linter.unusedVariables false
namespace Go.Gim
open Go.Proofs
theorem dlim_at_mat {n : Nat} {f : Mx} {A : Nat} (h : ∀ i j, dlim (f i j) ≤ A) (i j : Nat) : dlim (at2 (mat n f) i j) ≤ A := by
  by_cases hi : i < n
  · by_cases hj : j < n
    · rw [mat_at hi hj]; exact h i j
    · unfold at2 mat; rw [range_getD [] hi, range_getD', if_neg hj, dlim_zero]; omega
  · unfold at2 mat
    rw [show ((List.range n).map fun i => (List.range n).map (f i)).getD i [] = [] by rw [List.getD_eq_getElem?_getD, List.getElem?_eq_none (by simp; omega)]; rfl]
    simp [dlim_zero]
theorem rturned_ret (A : List (List Int)) (n : Nat) (hn : n ≤ 1000) (hA : Sq A n) : Ret pg n_gimbalref07_Mat_Turned [.sl (A.map dvl)] (.sl ((mat n fun i j => at2 A j i).map dvl)) := by
  have hl := hA.1
  have hrow : ∀ i, ∀ x ∈ (List.range i).map fun q => dvl (rowF n fun j => at2 A j q), V.Pure x := fun i => pure_map fun x => by simp
  refine gimbalref07_Mat_Turned.of rfl (W_b ?_)
  unfold gimbalref07_Mat_Turned.k gimbalref07_Mat_Turned.res
  simp -dsimp -implicitDefEqProofs (disch := (first | assumption | omega | (simp only [nats_len, List.length_map, List.length_set, List.length_replicate, List.length_append, List.length_range, upto_len, els_len, List.length_cons, List.length_nil] <;> omega) | (apply isPure_intro <;> simp))) only [go_sem]
  refine W_loop (T := Nat × V × Hp × Nat) (fun t => ⟨E [(0, .sl (A.map dvl)), (3, t.2.1), (4, .int .i64 t.1)], t.2.2.1, t.2.2.2, t.2.2.2⟩)
    (fun t => t.1 ≤ n ∧ Row 0 t.2.2.1 t.2.2.2 t.2.1 1 ((List.range t.1).map fun q => dvl (rowF n fun j => at2 A j q))) (fun t => n - t.1) (0, .nil, _, _) rfl ⟨by dsimp only; omega, Row.nil _ _ _ _⟩ ?_
  rintro ⟨i, w, H, nx⟩ ⟨i1, i2⟩
  dsimp only at i1 i2
  by_cases hi : i < n
  · simp -dsimp -implicitDefEqProofs (disch := (first | assumption | omega | (simp only [nats_len, List.length_map, List.length_set, List.length_replicate, List.length_append, List.length_range, upto_len, els_len, List.length_cons, List.length_nil] <;> omega) | (apply isPure_intro <;> simp))) only [go_sem, hl]
    refine W_loop (T := Nat × V × Hp × Nat) (fun t => ⟨E [(0, .sl (A.map dvl)), (3, w), (4, .int .i64 i), (5, t.2.1), (6, .int .i64 t.1)], t.2.2.1, t.2.2.2, t.2.2.2⟩)
      (fun t => t.1 ≤ n ∧ nx ≤ t.2.2.2 ∧ (∀ b, b < nx → t.2.2.1 b = H b) ∧ Row nx t.2.2.1 t.2.2.2 t.2.1 2 ((rowF t.1 fun j => at2 A j i).map DV)) (fun t => n - t.1) (0, .nil, H, _) rfl ⟨by dsimp only; omega, by dsimp only; omega, fun _ _ => rfl, Row.nil _ _ _ _⟩ ?_
    rintro ⟨j, u, H', nx'⟩ ⟨j1, j2, j3, j4⟩
    dsimp only at j1 j2 j3 j4
    by_cases hj : j < n
    · have hr := hA.row hj
      have hg : (A.getD j []).getD i 0 = at2 A j i := rfl
      simp -dsimp -implicitDefEqProofs (disch := (first | assumption | omega | (simp only [nats_len, List.length_map, List.length_set, List.length_replicate, List.length_append, List.length_range, upto_len, els_len, List.length_cons, List.length_nil] <;> omega) | (apply isPure_intro <;> simp))) only [go_sem, hl, hr, hg]
      refine effB_row (lo := nx) (nx := nx') (H0 := H') (xs := (rowF j fun j => at2 A j i).map DV) j4 (by omega) rfl (by omega) (by omega) (by simp [rowOk, V.cells, V.cellOk, DV]) (by decide) (by simp [rowF]; omega) (by simp [rowF]; omega) fun v2 H2 r1 _ _ r4 => ?_
      rw [map_app, show (rowF j fun j => at2 A j i) ++ [at2 A j i] = rowF (j + 1) fun j => at2 A j i from range_snoc _ _] at r1
      simp -dsimp -implicitDefEqProofs (disch := (first | assumption | omega | (simp only [nats_len, List.length_map, List.length_set, List.length_replicate, List.length_append, List.length_range, upto_len, els_len, List.length_cons, List.length_nil] <;> omega) | (apply isPure_intro <;> simp))) only [go_sem]
      exact ⟨(j + 1, v2, H2, _), rfl, ⟨by dsimp only; omega, by dsimp only; omega, fun b hb => (r4 b hb).trans (j3 b hb), r1.same (fun _ _ => rfl) (by dsimp only; omega)⟩, by dsimp only; omega⟩
    · have hje : j = n := by omega
      subst hje
      have i3 : Row 0 H' nx w 1 ((List.range i).map fun q => dvl (rowF j fun p => at2 A p q)) := i2.same j3 (Nat.le_refl _)
      simp -dsimp -implicitDefEqProofs (disch := (first | assumption | omega | (simp only [nats_len, List.length_map, List.length_set, List.length_replicate, List.length_append, List.length_range, upto_len, els_len, List.length_cons, List.length_nil] <;> omega) | (apply isPure_intro <;> simp))) only [go_sem, hl]
      refine gh_row (lo := nx) (ys := (rowF j fun p => at2 A p i).map DV) 5 rfl (j4.same (fun _ _ => rfl) (by omega)) (pure_map fun x => by simp) (fun p hp hne c hc => ?_) fun H2 hH2 => ?_
      · simp only [List.mem_cons, List.not_mem_nil, or_false] at hp
        rcases hp with rfl | rfl | rfl | rfl | rfl | rfl | rfl <;> first | exact absurd rfl hne | (simp [V.sub]; done) | exact i2.sub_ge (by omega)
      · have i4 := i3.told (nx := nx') (Nat.le_refl _) j2 (hrow i) hH2
        have e8 : V.sl ((rowF j fun p => at2 A p i).map DV) = dvl (rowF j fun p => at2 A p i) := rfl
        simp -dsimp -implicitDefEqProofs (disch := (first | assumption | omega | (simp only [nats_len, List.length_map, List.length_set, List.length_replicate, List.length_append, List.length_range, upto_len, els_len, List.length_cons, List.length_nil] <;> omega) | (apply isPure_intro <;> simp))) only [go_sem, e8]
        refine effB_row (lo := 0) (nx := nx') (H0 := H2) (xs := (List.range i).map fun q => dvl (rowF j fun p => at2 A p q)) i4 (by omega) rfl (by omega) (by omega) (by simp [rowOk, V.cells, V.cellOk, dvl, V.isJunk]) (by decide) (by simp; omega) (by simp; omega) fun v2 H3 r1 _ _ r4 => ?_
        rw [range_snoc (fun q => dvl (rowF j fun p => at2 A p q))] at r1
        simp -dsimp -implicitDefEqProofs (disch := (first | assumption | omega | (simp only [nats_len, List.length_map, List.length_set, List.length_replicate, List.length_append, List.length_range, upto_len, els_len, List.length_cons, List.length_nil] <;> omega) | (apply isPure_intro <;> simp))) only [go_sem]
        exact ⟨(i + 1, v2, H3, _), rfl, ⟨by dsimp only; omega, r1.same (fun _ _ => rfl) (by dsimp only; omega)⟩, by dsimp only; omega⟩
  · have hie : i = n := by omega
    subst hie
    simp -dsimp -implicitDefEqProofs (disch := (first | assumption | omega | (simp only [nats_len, List.length_map, List.length_set, List.length_replicate, List.length_append, List.length_range, upto_len, els_len, List.length_cons, List.length_nil] <;> omega) | (apply isPure_intro <;> simp))) only [go_sem, hl]
    rw [i2.frz (allOf_self fun x hx => by obtain ⟨q, _, rfl⟩ := List.mem_map.1 hx; rfl)]
    unfold mat
    rw [List.map_map]
    rfl
theorem rmul_ret (A B : List (List Int)) (n : Nat) (hn : n ≤ 1000) (hA : Sq A n) (hB : Sq B n) (sA : ∀ i j, dlim (at2 A i j) ≤ 2000000) (sB : ∀ i j, dlim (at2 B i j) ≤ 2000000) : Ret pg n_gimbalref07_Mat_Mul [.sl (A.map dvl), .sl (B.map dvl)] (.sl ((mat n (mulS n (at2 A) (at2 B))).map dvl)) := by
  have hl := hA.1
  have hT := rturned_ret B n hn hB
  have hrow : ∀ i, ∀ x ∈ (List.range i).map fun q => dvl (rowF n (mulS n (at2 A) (at2 B) q)), V.Pure x := fun i => pure_map fun x => by simp
  refine gimbalref07_Mat_Mul.of rfl (W_b ?_)
  unfold gimbalref07_Mat_Mul.k gimbalref07_Mat_Mul.res
  simp -dsimp -implicitDefEqProofs (disch := (first | assumption | omega | (simp only [nats_len, List.length_map, List.length_set, List.length_replicate, List.length_append, List.length_range, upto_len, els_len, List.length_cons, List.length_nil] <;> omega) | (apply isPure_intro <;> simp))) only [go_sem]
  first | refine callB_of (hT) (by simp) ?_ | refine callP_of (hT) (by simp) ?_
  generalize hTT : (mat n fun i j => at2 B j i) = T at *
  have hTq : Sq T n := by rw [← hTT]; exact mat_sq _ _
  simp -dsimp -implicitDefEqProofs (disch := (first | assumption | omega | (simp only [nats_len, List.length_map, List.length_set, List.length_replicate, List.length_append, List.length_range, upto_len, els_len, List.length_cons, List.length_nil] <;> omega) | (apply isPure_intro <;> simp))) only [go_sem]
  refine W_loop (T := Nat × V × Hp × Nat) (fun t => ⟨E [(0, .sl (A.map dvl)), (5, t.2.1), (6, .sl (T.map dvl)), (7, .int .i64 t.1)], t.2.2.1, t.2.2.2, t.2.2.2⟩)
    (fun t => t.1 ≤ n ∧ Row 0 t.2.2.1 t.2.2.2 t.2.1 1 ((List.range t.1).map fun q => dvl (rowF n (mulS n (at2 A) (at2 B) q)))) (fun t => n - t.1) (0, .nil, _, _) rfl ⟨by dsimp only; omega, Row.nil _ _ _ _⟩ ?_
  rintro ⟨i, w, H, nx⟩ ⟨i1, i2⟩
  dsimp only at i1 i2
  by_cases hi : i < n
  · have hr := hA.row hi
    have sT : ∀ i j, dlim (at2 T i j) ≤ 2000000 := by rw [← hTT]; exact dlim_at_mat fun i j => sB j i
    have ha := rapply_ret T (A.getD i []) n hn (by omega) hTq hr sT fun j => sA i j
    have he : (List.range n).map (applyAt T (A.getD i []) n) = rowF n (mulS n (at2 A) (at2 B) i) := List.map_congr_left fun j hj => by
      rw [applyAt_eq, mulS_eq]
      refine sumZ_congr fun k hk => ?_
      rw [← hTT, mat_at (List.mem_range.1 hj) hk, Int.mul_comm]; rfl
    rw [he] at ha
    simp -dsimp -implicitDefEqProofs (disch := (first | assumption | omega | (simp only [nats_len, List.length_map, List.length_set, List.length_replicate, List.length_append, List.length_range, upto_len, els_len, List.length_cons, List.length_nil] <;> omega) | (apply isPure_intro <;> simp))) only [go_sem, hl]
    refine W_gh0 ?_
    simp -dsimp -implicitDefEqProofs (disch := (first | assumption | omega | (simp only [nats_len, List.length_map, List.length_set, List.length_replicate, List.length_append, List.length_range, upto_len, els_len, List.length_cons, List.length_nil] <;> omega) | (apply isPure_intro <;> simp))) only [go_sem, hl]
    first | refine callB_of (ha) (by simp) ?_ | refine callP_of (ha) (by simp) ?_
    simp -dsimp -implicitDefEqProofs (disch := (first | assumption | omega | (simp only [nats_len, List.length_map, List.length_set, List.length_replicate, List.length_append, List.length_range, upto_len, els_len, List.length_cons, List.length_nil] <;> omega) | (apply isPure_intro <;> simp))) only [go_sem]
    refine effB_row (lo := 0) (nx := nx) (H0 := H) (xs := (List.range i).map fun q => dvl (rowF n (mulS n (at2 A) (at2 B) q))) i2 (by omega) rfl (by omega) (by omega) (by simp [rowOk, V.cells, V.cellOk, dvl, V.isJunk]) (by decide) (by simp; omega) (by simp; omega) fun v2 H3 r1 _ _ r4 => ?_
    rw [range_snoc (fun q => dvl (rowF n (mulS n (at2 A) (at2 B) q)))] at r1
    simp -dsimp -implicitDefEqProofs (disch := (first | assumption | omega | (simp only [nats_len, List.length_map, List.length_set, List.length_replicate, List.length_append, List.length_range, upto_len, els_len, List.length_cons, List.length_nil] <;> omega) | (apply isPure_intro <;> simp))) only [go_sem]
    exact ⟨(i + 1, v2, H3, _), rfl, ⟨by dsimp only; omega, r1.same (fun _ _ => rfl) (by dsimp only; omega)⟩, by dsimp only; omega⟩
  · have hie : i = n := by omega
    subst hie
    simp -dsimp -implicitDefEqProofs (disch := (first | assumption | omega | (simp only [nats_len, List.length_map, List.length_set, List.length_replicate, List.length_append, List.length_range, upto_len, els_len, List.length_cons, List.length_nil] <;> omega) | (apply isPure_intro <;> simp))) only [go_sem, hl]
    rw [i2.frz (allOf_self fun x hx => by obtain ⟨q, _, rfl⟩ := List.mem_map.1 hx; rfl)]
    unfold mat
    rw [List.map_map]
    rfl
theorem rapply0_ret : Ret pg n_gimbalref07_Mat_Apply [.sl [], .sl []] (.sl []) := by
  refine gimbalref07_Mat_Apply.of rfl (W_b ?_)
  unfold gimbalref07_Mat_Apply.k gimbalref07_Mat_Apply.res
  simp -dsimp -implicitDefEqProofs (disch := (first | assumption | omega | (simp only [nats_len, List.length_map, List.length_set, List.length_replicate, List.length_append, List.length_range, upto_len, els_len, List.length_cons, List.length_nil] <;> omega) | (apply isPure_intro <;> simp))) only [go_sem]
  refine W_loop (T := Nat) (fun t => ⟨E [(0, .sl []), (1, .sl []), (5, .nil), (6, .int .i64 0)], fun _ => none, t, t⟩) (fun _ => True) (fun t => 0) _ rfl trivial ?_
  intro nx _
  simp -dsimp -implicitDefEqProofs (disch := (first | assumption | omega | (simp only [nats_len, List.length_map, List.length_set, List.length_replicate, List.length_append, List.length_range, upto_len, els_len, List.length_cons, List.length_nil] <;> omega) | (apply isPure_intro <;> simp))) only [go_sem]
theorem rapply_any (m : List (List Int)) (x : List Int) (n : Nat) (hn : n ≤ 1000) (hm : Sq m n) (hx : x.length = n) (sm : ∀ i j, dlim (at2 m i j) ≤ 2000000) (sx : ∀ i, dlim (x.getD i 0) ≤ 2000000) : Ret pg n_gimbalref07_Mat_Apply [.sl (m.map dvl), dvl x] (dvl ((List.range n).map (applyAt m x n))) := by
  by_cases h : 1 ≤ n
  · exact rapply_ret m x n hn h hm hx sm sx
  · obtain rfl : n = 0 := by omega
    obtain rfl : m = [] := List.eq_nil_of_length_eq_zero hm.1
    obtain rfl : x = [] := List.eq_nil_of_length_eq_zero hx
    exact rapply0_ret
theorem rquad_any (m : List (List Int)) (x : List Int) (n : Nat) (hn : n ≤ 1000) (hm : Sq m n) (hx : x.length = n) (sm : ∀ i j, dlim (at2 m i j) ≤ 900000) (sx : ∀ i, dlim (x.getD i 0) ≤ 900000) : Ret pg n_gimbalref07_Mat_Quad [.sl (m.map dvl), dvl x] (DV (quadV m x n)) := by
  by_cases h : 1 ≤ n
  · exact rquad_ret m x n hn h hm hx sm sx
  · obtain rfl : n = 0 := by omega
    obtain rfl : m = [] := List.eq_nil_of_length_eq_zero hm.1
    obtain rfl : x = [] := List.eq_nil_of_length_eq_zero hx
    have hd := rdot_ret [] [] (by decide) (by decide) (fun i => by simp [dlim_zero]) (fun i => by simp [dlim_zero])
    refine gimbalref07_Mat_Quad.of rfl (W_b ?_)
    unfold gimbalref07_Mat_Quad.k gimbalref07_Mat_Quad.res
    simp -dsimp -implicitDefEqProofs (disch := (first | assumption | omega | (simp only [nats_len, List.length_map, List.length_set, List.length_replicate, List.length_append, List.length_range, upto_len, els_len, List.length_cons, List.length_nil] <;> omega) | (apply isPure_intro <;> simp))) only [go_sem]
    first | refine callB_of (rapply0_ret) (by simp) ?_ | refine callP_of (rapply0_ret) (by simp) ?_
    simp -dsimp -implicitDefEqProofs (disch := (first | assumption | omega | (simp only [nats_len, List.length_map, List.length_set, List.length_replicate, List.length_append, List.length_range, upto_len, els_len, List.length_cons, List.length_nil] <;> omega) | (apply isPure_intro <;> simp))) only [go_sem]
    first | refine callB_of (hd) (by simp) ?_ | refine callP_of (hd) (by simp) ?_
    simp -dsimp -implicitDefEqProofs (disch := (first | assumption | omega | (simp only [nats_len, List.length_map, List.length_set, List.length_replicate, List.length_append, List.length_range, upto_len, els_len, List.length_cons, List.length_nil] <;> omega) | (apply isPure_intro <;> simp))) only [go_sem]
    rfl
theorem get_getD (l : List Int) (j : Nat) (h : j < l.length) : l[j] = l.getD j 0 := by simp [List.getD_eq_getElem?_getD, h]
def leadR (A : List (List Int)) (k i : Nat) : List Int := (A.getD i []).take k
theorem leadR_F {A : List (List Int)} {n k i : Nat} (hA : Sq A n) (hk : k ≤ n) (hi : i < n) : leadR A k i = rowF k (at2 A i) := by
  have hr := hA.row hi
  unfold leadR
  refine List.ext_getElem (by rw [List.length_take, hr, rowF_len]; omega) fun j h1 h2 => ?_
  have := rowF_get (w := k) (f := at2 A i) (i := j) (by rw [rowF_len] at h2; exact h2)
  simp only [List.getD_eq_getElem?_getD, List.getElem?_eq_getElem h2, Option.getD_some] at this
  rw [this]
  rw [List.length_take, hr] at h1
  have hj : j < (A.getD i []).length := by omega
  rw [List.getElem_take]
  exact get_getD _ _ hj
theorem rdefinite_ret {L : Nat} (hL : L ≤ 1000000) (A : List (List Int)) (n : Nat) (hn : n ≤ 12) (hA : Sq A n) (hs : ∀ i j, dlim (at2 A i j) ≤ L) : Ret pg n_gimbalref07_Mat_Definite [.sl (A.map dvl)] (.bool (defS n (at2 A))) := by
  have hl := hA.1
  refine gimbalref07_Mat_Definite.of rfl (W_b ?_)
  unfold gimbalref07_Mat_Definite.k gimbalref07_Mat_Definite.res
  simp -dsimp -implicitDefEqProofs (disch := (first | assumption | omega | (simp only [nats_len, List.length_map, List.length_set, List.length_replicate, List.length_append, List.length_range, upto_len, els_len, List.length_cons, List.length_nil] <;> omega) | (apply isPure_intro <;> simp))) only [go_sem]
  refine W_loop (T := Nat × Hp × Nat) (fun t => ⟨E [(0, .sl (A.map dvl)), (3, .int .i64 t.1)], t.2.1, t.2.2, t.2.2⟩) (fun t => t.1 ≤ n ∧ ∀ i, i < t.1 → (∀ j, j < i → at2 A i j = at2 A j i) ∧ 0 < detS (i + 1) (lead (at2 A) (i + 1))) (fun t => n - t.1) (0, _, _) rfl ⟨by dsimp only; omega, fun i h => by dsimp only at h; omega⟩ ?_
  rintro ⟨i, H, nx⟩ ⟨i1, i2⟩
  dsimp only at i1 i2
  by_cases hi : i < n
  · have hri := hA.row hi
    simp -dsimp -implicitDefEqProofs (disch := (first | assumption | omega | (simp only [nats_len, List.length_map, List.length_set, List.length_replicate, List.length_append, List.length_range, upto_len, els_len, List.length_cons, List.length_nil] <;> omega) | (apply isPure_intro <;> simp))) only [go_sem, hl]
    refine W_loop (T := Nat × V × Hp × Nat) (fun t => ⟨E [(0, .sl (A.map dvl)), (3, .int .i64 i), (4, t.2.1), (5, .int .i64 t.1)], t.2.2.1, t.2.2.2, t.2.2.2⟩)
      (fun t => t.1 ≤ i + 1 ∧ nx ≤ t.2.2.2 ∧ Row nx t.2.2.1 t.2.2.2 t.2.1 1 ((List.range t.1).map fun q => dvl (rowF (i + 1) (at2 A q))) ∧ ∀ j, j < t.1 → at2 A i j = at2 A j i) (fun t => i + 1 - t.1) (0, .nil, H, _) rfl ⟨by dsimp only; omega, by dsimp only; omega, Row.nil _ _ _ _, fun j h => by dsimp only at h; omega⟩ ?_
    rintro ⟨j, u, H', nx'⟩ ⟨j1, j2, j3, j4⟩
    dsimp only at j1 j2 j3 j4
    by_cases hj : j < i + 1
    · have hrj := hA.row (show j < n by omega)
      have hc1 : ((i : Int) + 1) = ((i + 1 : Nat) : Int) := by omega
      have hg1 : (A.getD i []).getD j 0 = at2 A i j := rfl
      have hg2 : (A.getD j []).getD i 0 = at2 A j i := rfl
      have hsl : redV (.slc 2 false true false) [dvl (A.getD j []), .int .i64 ((i + 1 : Nat) : Int)] = some (dvl (rowF (i + 1) (at2 A j))) := by
        rw [dvl_eq, slc_to (by omega) (by rw [List.length_map, hrj]; omega) (by decide), ← leadR_F hA (show i + 1 ≤ n by omega) (show j < n by omega)]
        unfold leadR dvl
        rw [List.map_take, Int.toNat_natCast]
      have s1 := hs i j
      have s2 := hs j i
      simp -dsimp -implicitDefEqProofs (disch := (first | assumption | omega | (simp only [nats_len, List.length_map, List.length_set, List.length_replicate, List.length_append, List.length_range, upto_len, els_len, List.length_cons, List.length_nil] <;> omega) | (apply isPure_intro <;> simp))) only [go_sem, hl, hri, hrj]
      refine W_gh0 ?_
      simp -dsimp -implicitDefEqProofs (disch := (first | assumption | omega | (simp only [nats_len, List.length_map, List.length_set, List.length_replicate, List.length_append, List.length_range, upto_len, els_len, List.length_cons, List.length_nil] <;> omega) | (apply isPure_intro <;> simp))) only [go_sem, hl, hri, hrj, hsl]
      refine effB_row (lo := nx) (nx := nx') (H0 := H') (xs := (List.range j).map fun q => dvl (rowF (i + 1) (at2 A q))) j3 (by omega) rfl (by omega) (by omega) (by simp [rowOk, V.cells, V.cellOk, dvl, V.isJunk]) (by decide) (by simp; omega) (by simp; omega) fun v2 H3 r1 _ _ r4 => ?_
      rw [range_snoc (fun q => dvl (rowF (i + 1) (at2 A q)))] at r1
      simp -dsimp -implicitDefEqProofs (disch := (first | assumption | omega | (simp only [nats_len, List.length_map, List.length_set, List.length_replicate, List.length_append, List.length_range, upto_len, els_len, List.length_cons, List.length_nil] <;> omega) | (apply isPure_intro <;> simp))) only [go_sem, hl, hri, hrj, hg1, hg2]
      first | refine callB_of (r_cmp _ _ (by omega) (by omega)) (by simp) ?_ | refine callP_of (r_cmp _ _ (by omega) (by omega)) (by simp) ?_
      by_cases h : at2 A i j = at2 A j i
      · have hsg : (at2 A i j - at2 A j i).sign = 0 := by rw [h]; simp
        simp -dsimp -implicitDefEqProofs (disch := (first | assumption | omega | (simp only [nats_len, List.length_map, List.length_set, List.length_replicate, List.length_append, List.length_range, upto_len, els_len, List.length_cons, List.length_nil] <;> omega) | (apply isPure_intro <;> simp))) only [go_sem, hsg]
        exact ⟨(j + 1, v2, H3, _), rfl, ⟨by dsimp only; omega, by dsimp only; omega, r1.same (fun _ _ => rfl) (by dsimp only; omega), fun k hk => by dsimp only at hk; by_cases hkj : k = j; (subst hkj; exact h); exact j4 k (by omega)⟩, by dsimp only; omega⟩
      · have hsg : (at2 A i j - at2 A j i).sign ≠ 0 := by rw [Ne, Int.sign_eq_zero_iff_zero]; omega
        have hne : defS n (at2 A) = false := decide_eq_false fun e => h ((e i hi).1 j (by
          rcases Nat.lt_or_ge j i with h' | h'
          · exact h'
          · have : j = i := by omega
            subst this; exact absurd rfl h))
        rw [hne]
        simp -dsimp -implicitDefEqProofs (disch := (first | assumption | omega | (simp only [nats_len, List.length_map, List.length_set, List.length_replicate, List.length_append, List.length_range, upto_len, els_len, List.length_cons, List.length_nil] <;> omega) | (apply isPure_intro <;> simp))) only [go_sem, hsg]
    · have hje : j = i + 1 := by omega
      subst hje
      obtain ⟨c, hu, c1, c2, c3⟩ := j3.own_of (by simp)
      rw [List.length_map, List.length_range] at hu
      subst hu
      have hdt := rdet_ret hL (i + 1) (mat (i + 1) (at2 A)) (by omega) (mat_sq _ _) fun p q hp hq => by rw [mat_at hp hq]; exact hs p q
      have hdl := det_dlim (n := i + 1) (M := at2 (mat (i + 1) (at2 A))) (L := L) fun p q hp hq => by rw [mat_at hp hq]; exact hs p q
      have hdm : (i + 1) * (L + (i + 1)) ≤ 12 * 1000012 := Nat.mul_le_mul (by omega) (by omega)
      rw [← detS_eq] at hdt hdl
      have e3 : at2 (mat (i + 1) (at2 A)) = lead (at2 A) (i + 1) := rfl
      rw [e3] at hdt hdl
      have e2 : (List.range (i + 1)).map (fun q => dvl (rowF (i + 1) (at2 A q))) = (mat (i + 1) (at2 A)).map dvl := by unfold mat; rw [List.map_map]; rfl
      rw [e2] at c3
      have hlm : ((mat (i + 1) (at2 A)).map dvl).length = i + 1 := by rw [List.length_map]; exact (mat_sq _ _).1
      simp -dsimp -implicitDefEqProofs (disch := (first | assumption | omega | (simp only [nats_len, List.length_map, List.length_set, List.length_replicate, List.length_append, List.length_range, upto_len, els_len, List.length_cons, List.length_nil] <;> omega) | (apply isPure_intro <;> simp))) only [go_sem, hl]
      refine callB_fr1 c ((mat (i + 1) (at2 A)).map dvl) c3 (pure_map fun x => by simp) (by simp only [List.map_cons, List.map_nil, V.sub, fz1, if_true, hlm]) hdt (by simp) ?_
      simp -dsimp -implicitDefEqProofs (disch := (first | assumption | omega | (simp only [nats_len, List.length_map, List.length_set, List.length_replicate, List.length_append, List.length_range, upto_len, els_len, List.length_cons, List.length_nil] <;> omega) | (apply isPure_intro <;> simp))) only [go_sem]
      first | refine callB_of (r_sign _ (by omega)) (by simp) ?_ | refine callP_of (r_sign _ (by omega)) (by simp) ?_
      by_cases hpos : 0 < detS (i + 1) (lead (at2 A) (i + 1))
      · have hsg : (detS (i + 1) (lead (at2 A) (i + 1))).sign = 1 := Int.sign_eq_one_of_pos hpos
        simp -dsimp -implicitDefEqProofs (disch := (first | assumption | omega | (simp only [nats_len, List.length_map, List.length_set, List.length_replicate, List.length_append, List.length_range, upto_len, els_len, List.length_cons, List.length_nil] <;> omega) | (apply isPure_intro <;> simp))) only [go_sem, hsg]
        exact ⟨(i + 1, _, _), rfl, ⟨by dsimp only; omega, fun k hk => by dsimp only at hk; by_cases hki : k = i; (subst hki; exact ⟨fun q hq => j4 q (by omega), hpos⟩); exact i2 k (by omega)⟩, by dsimp only; omega⟩
      · have hsg : (detS (i + 1) (lead (at2 A) (i + 1))).sign ≤ 0 := by
          rcases Int.lt_trichotomy (detS (i + 1) (lead (at2 A) (i + 1))) 0 with h | h | h
          · rw [Int.sign_eq_neg_one_of_neg h]; decide
          · rw [h]; decide
          · exact absurd h hpos
        have hne : defS n (at2 A) = false := decide_eq_false fun e => hpos (e i hi).2
        rw [hne]
        simp -dsimp -implicitDefEqProofs (disch := (first | assumption | omega | (simp only [nats_len, List.length_map, List.length_set, List.length_replicate, List.length_append, List.length_range, upto_len, els_len, List.length_cons, List.length_nil] <;> omega) | (apply isPure_intro <;> simp))) only [go_sem, hsg]
  · have hie : i = n := by omega
    subst hie
    have : defS i (at2 A) = true := decide_eq_true i2
    rw [this]
    simp -dsimp -implicitDefEqProofs (disch := (first | assumption | omega | (simp only [nats_len, List.length_map, List.length_set, List.length_replicate, List.length_append, List.length_range, upto_len, els_len, List.length_cons, List.length_nil] <;> omega) | (apply isPure_intro <;> simp))) only [go_sem, hl]
end Go.Gim
/- Determinants, equations and products are as the document says. -/
set_option maxRecDepth 100000
set_option maxHeartbeats 4000000
set_option linter.unusedSimpArgs false
set_option linter.unusedVariables false
namespace Go.Gim
open Go.Proofs
theorem getD_dlim {l : List Int} {L : Nat} (h : ∀ v ∈ l, dlim v ≤ L) (i : Nat) : dlim (l.getD i 0) ≤ L := by
  by_cases hi : i < l.length
  · exact h _ (getD_mem' 0 hi)
  · rw [List.getD_eq_getElem?_getD, List.getElem?_eq_none (Nat.le_of_not_lt hi)]; simp [dlim_zero]
theorem at2_dlim {A : List (List Int)} {L : Nat} (h : ∀ r ∈ A, ∀ v ∈ r, dlim v ≤ L) (i j : Nat) : dlim (at2 A i j) ≤ L := by
  unfold at2
  by_cases hi : i < A.length
  · exact getD_dlim (h _ (getD_mem' [] hi)) j
  · rw [show A.getD i [] = [] by rw [List.getD_eq_getElem?_getD, List.getElem?_eq_none (Nat.le_of_not_lt hi)]; rfl]; simp [dlim_zero]
theorem pad_dlim {l : List Int} (h : ∀ v ∈ l, In64 v) (n i : Nat) : dlim ((padL l n).getD i 0) ≤ 20 := getD_dlim (fun v hv => by
  unfold padL at hv
  obtain ⟨k, _, rfl⟩ := List.mem_map.1 hv
  exact dlim_i64 (getD_in h k)) i
theorem LinReckons_true (rows others : List (List Int)) (l : List Int) (hl : rows.length ≤ 9223372036854775807) (hr : ∀ r ∈ rows, r.length ≤ 9223372036854775807 ∧ ∀ v ∈ r, In64 v) (hl2 : others.length ≤ 9223372036854775807) (hr2 : ∀ r ∈ others, r.length ≤ 9223372036854775807 ∧ ∀ v ∈ r, In64 v)
    (hll : l.length ≤ 9223372036854775807) (hlv : ∀ v ∈ l, In64 v) : Ret pg n_gimballaw07_LinReckons [.sl (rows.map ints), .sl (others.map ints), ints l] (.bool true) := by
  have g1 := read_ret rows 5 (by decide) hl hr
  have g2 := read_ret others 5 (by decide) hl2 hr2
  obtain ⟨n, hn⟩ : ∃ n, rows.length = n := ⟨_, rfl⟩
  refine gimballaw07_LinReckons.of rfl (W_b ?_)
  unfold gimballaw07_LinReckons.k gimballaw07_LinReckons.res
  simp -dsimp -implicitDefEqProofs (disch := (first | assumption | omega | (simp only [nats_len, List.length_map, List.length_set, List.length_replicate, List.length_append, List.length_range, upto_len, els_len, List.length_cons, List.length_nil] <;> omega) | (apply isPure_intro <;> simp))) only [go_sem]
  first | refine callB_of (awake07_ret) (by simp) ?_ | refine callP_of (awake07_ret) (by simp) ?_
  simp -dsimp -implicitDefEqProofs (disch := (first | assumption | omega | (simp only [nats_len, List.length_map, List.length_set, List.length_replicate, List.length_append, List.length_range, upto_len, els_len, List.length_cons, List.length_nil] <;> omega) | (apply isPure_intro <;> simp))) only [go_sem]
  first | refine callB_of (g1) (by simp) ?_ | refine callP_of (g1) (by simp) ?_
  simp -dsimp -implicitDefEqProofs (disch := (first | assumption | omega | (simp only [nats_len, List.length_map, List.length_set, List.length_replicate, List.length_append, List.length_range, upto_len, els_len, List.length_cons, List.length_nil] <;> omega) | (apply isPure_intro <;> simp))) only [go_sem]
  first | refine callB_of (g2) (by simp) ?_ | refine callP_of (g2) (by simp) ?_
  by_cases h1 : sqB rows 5 = true
  · by_cases h2 : sqB others 5 = true
    · rw [h1, h2]
      by_cases e1 : others.length = n
      · simp -dsimp -implicitDefEqProofs (disch := (first | assumption | omega | (simp only [nats_len, List.length_map, List.length_set, List.length_replicate, List.length_append, List.length_range, upto_len, els_len, List.length_cons, List.length_nil] <;> omega) | (apply isPure_intro <;> simp))) only [go_sem, hn, e1]
        have q1 := (sqB_sq h1).1
        have q2 := (sqB_sq h2).1
        have hn5 := (sqB_sq h1).2
        rw [hn] at q1 hn5
        rw [e1] at q2
        have hn5 : n ≤ 5 := by omega
        have sA : ∀ i j, lim (at2 rows i j) ≤ 2 := Sq.sm fun r h v hv => (hr r h).2 v hv
        have sB : ∀ i j, lim (at2 others i j) ≤ 2 := Sq.sm fun r h v hv => (hr2 r h).2 v hv
        have dA : ∀ i j, dlim (at2 rows i j) ≤ 20 := at2_dlim fun r h v hv => dlim_i64 ((hr r h).2 v hv)
        have dB : ∀ i j, dlim (at2 others i j) ≤ 20 := at2_dlim fun r h v hv => dlim_i64 ((hr2 r h).2 v hv)
        have sX := pad_lim hlv n
        have dX := pad_dlim hlv n
        have hxl := padL_len l n
        have sAB : ∀ i j, lim (mulS n (at2 rows) (at2 others) i j) ≤ 9 := fun i j => by have := mulS_lim (n := n) sA sB i j; omega
        have dof : ∀ {x : Int} {k : Nat}, lim x ≤ k → dlim x ≤ 10 * k := fun {x k} h => by have := dlim_lim x; omega
        have c1 := lmul_ret rows others n (by omega) q1 q2 (fun i j => by have := sA i j; omega) (fun i j => by have := sB i j; omega)
        have c2 := turned_ret rows n (by omega) q1
        have c3 := apply_ret rows (padL l n) n (by omega) q1 hxl (fun i j => by have := sA i j; omega) (fun i => by have := sX i; omega)
        have c4 := lquad_ret rows (padL l n) n (by omega) q1 hxl (fun i j => by have := sA i j; omega) (fun i => by have := sX i; omega)
        have c5 := ldefinite_ret rows n 2 (by omega) (by omega) q1 sA
        have d1 := rmul_ret rows others n (by omega) q1 q2 (fun i j => by have := dA i j; omega) (fun i j => by have := dB i j; omega)
        have d2 := rturned_ret rows n (by omega) q1
        have d3 := rapply_any rows (padL l n) n (by omega) q1 hxl (fun i j => by have := dA i j; omega) (fun i => by have := dX i; omega)
        have d4 := rquad_any rows (padL l n) n (by omega) q1 hxl (fun i j => by have := dA i j; omega) (fun i => by have := dX i; omega)
        have d5 := rdefinite_ret (L := 20) (by omega) rows n (by omega) q1 dA
        have m1 := whole7_ret (mat n (mulS n (at2 rows) (at2 others))) (by rw [(mat_sq n _).1]; omega) (fun r h => by rw [(mat_sq n _).2 r h]; omega) (mat_lim fun i j => by have := sAB i j; omega)
        have m2 := whole7_ret (mat n fun i j => at2 rows j i) (by rw [(mat_sq n _).1]; omega) (fun r h => by rw [(mat_sq n _).2 r h]; omega) (mat_lim fun i j => by have := sA j i; omega)
        have w1 := wholes7_ret (mat n (mulS n (at2 rows) (at2 others))) (by rw [(mat_sq n _).1]; omega) (fun r h => by rw [(mat_sq n _).2 r h]; omega) (fun r h x hx => by have := dof (mat_lim sAB r h x hx); omega)
        have w2 := wholes7_ret (mat n fun i j => at2 rows j i) (by rw [(mat_sq n _).1]; omega) (fun r h => by rw [(mat_sq n _).2 r h]; omega) (fun r h x hx => by have := dof (mat_lim (f := fun i j => at2 rows j i) (fun i j => sA j i) r h x hx); omega)
        have sAp : ∀ i, lim (applyAt rows (padL l n) n i) ≤ 9 := fun i => by have := applyAt_lim (n := n) (i := i) sA sX; omega
        have t1 := text7_ret ((List.range n).map (applyAt rows (padL l n) n)) (by simp; omega) (row_lim fun i => by have := sAp i; omega)
        have t2 := texts7_ret ((List.range n).map (applyAt rows (padL l n) n)) (by simp; omega) (fun x hx => by have := dof (row_lim sAp x hx); omega)
        have sQ : lim (quadV rows (padL l n) n) ≤ 16 := by
          have := sumN_lim (f := fun k => (padL l n).getD k 0) (p := applyAt rows (padL l n) n) (L := 11) (fun k => by have := sX k; have := sAp k; omega) n
          unfold quadV; omega
        have st := string_ret (quadV rows (padL l n) n) (by omega)
        have st2 := r_string (quadV rows (padL l n) n) (by have := dof sQ; omega)
        first | refine callB_of (llist_ret l n (by omega) hll hlv) (by simp) ?_ | refine callP_of (llist_ret l n (by omega) hll hlv) (by simp) ?_
        simp -dsimp -implicitDefEqProofs (disch := (first | assumption | omega | (simp only [nats_len, List.length_map, List.length_set, List.length_replicate, List.length_append, List.length_range, upto_len, els_len, List.length_cons, List.length_nil] <;> omega) | (apply isPure_intro <;> simp))) only [go_sem]
        first | refine callB_of (c1) (by simp) ?_ | refine callP_of (c1) (by simp) ?_
        simp -dsimp -implicitDefEqProofs (disch := (first | assumption | omega | (simp only [nats_len, List.length_map, List.length_set, List.length_replicate, List.length_append, List.length_range, upto_len, els_len, List.length_cons, List.length_nil] <;> omega) | (apply isPure_intro <;> simp))) only [go_sem]
        first | refine callB_of (m1) (by simp) ?_ | refine callP_of (m1) (by simp) ?_
        simp -dsimp -implicitDefEqProofs (disch := (first | assumption | omega | (simp only [nats_len, List.length_map, List.length_set, List.length_replicate, List.length_append, List.length_range, upto_len, els_len, List.length_cons, List.length_nil] <;> omega) | (apply isPure_intro <;> simp))) only [go_sem]
        first | refine callB_of (c2) (by simp) ?_ | refine callP_of (c2) (by simp) ?_
        simp -dsimp -implicitDefEqProofs (disch := (first | assumption | omega | (simp only [nats_len, List.length_map, List.length_set, List.length_replicate, List.length_append, List.length_range, upto_len, els_len, List.length_cons, List.length_nil] <;> omega) | (apply isPure_intro <;> simp))) only [go_sem]
        first | refine callB_of (m2) (by simp) ?_ | refine callP_of (m2) (by simp) ?_
        simp -dsimp -implicitDefEqProofs (disch := (first | assumption | omega | (simp only [nats_len, List.length_map, List.length_set, List.length_replicate, List.length_append, List.length_range, upto_len, els_len, List.length_cons, List.length_nil] <;> omega) | (apply isPure_intro <;> simp))) only [go_sem]
        first | refine callB_of (c3) (by simp) ?_ | refine callP_of (c3) (by simp) ?_
        simp -dsimp -implicitDefEqProofs (disch := (first | assumption | omega | (simp only [nats_len, List.length_map, List.length_set, List.length_replicate, List.length_append, List.length_range, upto_len, els_len, List.length_cons, List.length_nil] <;> omega) | (apply isPure_intro <;> simp))) only [go_sem]
        first | refine callB_of (t1) (by simp) ?_ | refine callP_of (t1) (by simp) ?_
        simp -dsimp -implicitDefEqProofs (disch := (first | assumption | omega | (simp only [nats_len, List.length_map, List.length_set, List.length_replicate, List.length_append, List.length_range, upto_len, els_len, List.length_cons, List.length_nil] <;> omega) | (apply isPure_intro <;> simp))) only [go_sem]
        first | refine callB_of (c4) (by simp) ?_ | refine callP_of (c4) (by simp) ?_
        simp -dsimp -implicitDefEqProofs (disch := (first | assumption | omega | (simp only [nats_len, List.length_map, List.length_set, List.length_replicate, List.length_append, List.length_range, upto_len, els_len, List.length_cons, List.length_nil] <;> omega) | (apply isPure_intro <;> simp))) only [go_sem]
        first | refine callB_of (st) (by simp) ?_ | refine callP_of (st) (by simp) ?_
        simp -dsimp -implicitDefEqProofs (disch := (first | assumption | omega | (simp only [nats_len, List.length_map, List.length_set, List.length_replicate, List.length_append, List.length_range, upto_len, els_len, List.length_cons, List.length_nil] <;> omega) | (apply isPure_intro <;> simp))) only [go_sem]
        first | refine callB_of (c5) (by simp) ?_ | refine callP_of (c5) (by simp) ?_
        simp -dsimp -implicitDefEqProofs (disch := (first | assumption | omega | (simp only [nats_len, List.length_map, List.length_set, List.length_replicate, List.length_append, List.length_range, upto_len, els_len, List.length_cons, List.length_nil] <;> omega) | (apply isPure_intro <;> simp))) only [go_sem]
        first | refine callB_of (d1) (by simp) ?_ | refine callP_of (d1) (by simp) ?_
        simp -dsimp -implicitDefEqProofs (disch := (first | assumption | omega | (simp only [nats_len, List.length_map, List.length_set, List.length_replicate, List.length_append, List.length_range, upto_len, els_len, List.length_cons, List.length_nil] <;> omega) | (apply isPure_intro <;> simp))) only [go_sem]
        first | refine callB_of (w1) (by simp) ?_ | refine callP_of (w1) (by simp) ?_
        simp -dsimp -implicitDefEqProofs (disch := (first | assumption | omega | (simp only [nats_len, List.length_map, List.length_set, List.length_replicate, List.length_append, List.length_range, upto_len, els_len, List.length_cons, List.length_nil] <;> omega) | (apply isPure_intro <;> simp))) only [go_sem, strV_same]
        first | refine callB_of (d2) (by simp) ?_ | refine callP_of (d2) (by simp) ?_
        simp -dsimp -implicitDefEqProofs (disch := (first | assumption | omega | (simp only [nats_len, List.length_map, List.length_set, List.length_replicate, List.length_append, List.length_range, upto_len, els_len, List.length_cons, List.length_nil] <;> omega) | (apply isPure_intro <;> simp))) only [go_sem]
        first | refine callB_of (w2) (by simp) ?_ | refine callP_of (w2) (by simp) ?_
        simp -dsimp -implicitDefEqProofs (disch := (first | assumption | omega | (simp only [nats_len, List.length_map, List.length_set, List.length_replicate, List.length_append, List.length_range, upto_len, els_len, List.length_cons, List.length_nil] <;> omega) | (apply isPure_intro <;> simp))) only [go_sem, strV_same]
        first | refine callB_of (d3) (by simp) ?_ | refine callP_of (d3) (by simp) ?_
        simp -dsimp -implicitDefEqProofs (disch := (first | assumption | omega | (simp only [nats_len, List.length_map, List.length_set, List.length_replicate, List.length_append, List.length_range, upto_len, els_len, List.length_cons, List.length_nil] <;> omega) | (apply isPure_intro <;> simp))) only [go_sem]
        first | refine callB_of (t2) (by simp) ?_ | refine callP_of (t2) (by simp) ?_
        simp -dsimp -implicitDefEqProofs (disch := (first | assumption | omega | (simp only [nats_len, List.length_map, List.length_set, List.length_replicate, List.length_append, List.length_range, upto_len, els_len, List.length_cons, List.length_nil] <;> omega) | (apply isPure_intro <;> simp))) only [go_sem, strV_same]
        first | refine callB_of (d4) (by simp) ?_ | refine callP_of (d4) (by simp) ?_
        simp -dsimp -implicitDefEqProofs (disch := (first | assumption | omega | (simp only [nats_len, List.length_map, List.length_set, List.length_replicate, List.length_append, List.length_range, upto_len, els_len, List.length_cons, List.length_nil] <;> omega) | (apply isPure_intro <;> simp))) only [go_sem]
        first | refine callB_of (st2) (by simp) ?_ | refine callP_of (st2) (by simp) ?_
        simp -dsimp -implicitDefEqProofs (disch := (first | assumption | omega | (simp only [nats_len, List.length_map, List.length_set, List.length_replicate, List.length_append, List.length_range, upto_len, els_len, List.length_cons, List.length_nil] <;> omega) | (apply isPure_intro <;> simp))) only [go_sem, decS_bst, strV_same]
        first | refine callB_of (d5) (by simp) ?_ | refine callP_of (d5) (by simp) ?_
        simp -dsimp -implicitDefEqProofs (disch := (first | assumption | omega | (simp only [nats_len, List.length_map, List.length_set, List.length_replicate, List.length_append, List.length_range, upto_len, els_len, List.length_cons, List.length_nil] <;> omega) | (apply isPure_intro <;> simp))) only [go_sem]
      · simp -dsimp -implicitDefEqProofs (disch := (first | assumption | omega | (simp only [nats_len, List.length_map, List.length_set, List.length_replicate, List.length_append, List.length_range, upto_len, els_len, List.length_cons, List.length_nil] <;> omega) | (apply isPure_intro <;> simp))) only [go_sem, hn, e1]
    · rw [h1, show sqB others 5 = false by simpa using h2]
      simp -dsimp -implicitDefEqProofs (disch := (first | assumption | omega | (simp only [nats_len, List.length_map, List.length_set, List.length_replicate, List.length_append, List.length_range, upto_len, els_len, List.length_cons, List.length_nil] <;> omega) | (apply isPure_intro <;> simp))) only [go_sem]
  · rw [show sqB rows 5 = false by simpa using h1]
    simp -dsimp -implicitDefEqProofs (disch := (first | assumption | omega | (simp only [nats_len, List.length_map, List.length_set, List.length_replicate, List.length_append, List.length_range, upto_len, els_len, List.length_cons, List.length_nil] <;> omega) | (apply isPure_intro <;> simp))) only [go_sem]
end Go.Gim

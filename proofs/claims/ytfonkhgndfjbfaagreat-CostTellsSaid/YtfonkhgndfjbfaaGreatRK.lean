import Derived.Test.YtfonkhgndfjbfaaGreatRA2
import Derived.Test.YtfonkhgndfjbfaaGreatGA5
import Derived.Test.YtfonkhgndfjbfaaGreatSB
import Derived.Test.YtfonkhgndfjbfaaGreatHB
import Derived.Test.YtfonkhgndfjbfaaGreatGRH
import Derived.Test.YtfonkhgndfjbfaaGreatFA3
import Derived.Test.YtfonkhgndfjbfaaGreatCF
/- The references' products and quadratic functions. -/
set_option maxRecDepth 100000
set_option maxHeartbeats 4000000
set_option linter.unusedSimpArgs false
set_option linter.unusedVariables false
namespace Go.Gim
open Go.Proofs
theorem sumN_dlim {f p : Nat → Int} {L : Nat} (h : ∀ i, dlim (f i) + dlim (p i) ≤ L) : ∀ n, dlim (sumN f p n) ≤ L + n
  | 0 => by have h0 : dlim 0 = 0 := (by simp [dlim, digs_zero]); simp only [sumN]; omega
  | n + 1 => by
    have h1 := sumN_dlim h n
    have h2 := dlim_mul (f n) (p n)
    have h3 := dlim_add (sumN f p n) (f n * p n)
    have h4 := h n
    rw [sumN]
    omega
theorem sumN_congr {f f' p p' : Nat → Int} : ∀ n, (∀ k, k < n → f k * p k = f' k * p' k) → sumN f p n = sumN f' p' n
  | 0, _ => rfl
  | n + 1, h => by rw [sumN, sumN, sumN_congr n fun k hk => h k (by omega), h n (by omega)]
theorem rdot_ret (x y : List Int) (hl : x.length ≤ 1000) (hy : x.length ≤ y.length) (sx : ∀ i, dlim (x.getD i 0) ≤ 2000000) (sy : ∀ i, dlim (y.getD i 0) ≤ 2000000) : Ret pg n_gimbalref07_Dot [dvl x, dvl y] (DV (sumN (fun k => x.getD k 0) (fun k => y.getD k 0) x.length)) := by
  refine gimbalref07_Dot.of rfl (W_b ?_)
  unfold gimbalref07_Dot.k gimbalref07_Dot.res
  simp -dsimp -implicitDefEqProofs (disch := (first | assumption | omega | (simp only [nats_len, List.length_map, List.length_set, List.length_replicate, List.length_append, List.length_range, upto_len, els_len, List.length_cons, List.length_nil] <;> omega) | (apply isPure_intro <;> simp))) only [go_sem, ← DV_zero]
  refine callB_of (r_of 0 (by omega)) (by simp) ?_
  simp -dsimp -implicitDefEqProofs (disch := (first | assumption | omega | (simp only [nats_len, List.length_map, List.length_set, List.length_replicate, List.length_append, List.length_range, upto_len, els_len, List.length_cons, List.length_nil] <;> omega) | (apply isPure_intro <;> simp))) only [go_sem]
  refine W_loopG (T := Nat × Nat) (fun t => ⟨E [(0, dvl x), (1, dvl y), (4, .ptr 0 1 0 0), (5, .ptr 2 1 0 0), (6, .int .i64 t.1)], (Hp.upd (fun _ => none) 0 (some ⟨[DV 0], 2⟩)).upd 2 (some ⟨[DV (sumN (fun k => x.getD k 0) (fun k => y.getD k 0) t.1)], 2⟩), t.2, t.2⟩) (fun t => t.1 ≤ x.length ∧ 2 < t.2) (fun t => x.length - t.1) (0, 5) (Ghost.refl _) ⟨by dsimp only; omega, by dsimp only; omega⟩ ?_
  rintro ⟨i, nx⟩ ⟨i1, i2⟩
  dsimp only at i1 i2
  have b0 := sumN_dlim (f := fun k => x.getD k 0) (p := fun k => y.getD k 0) (L := 4000000) (fun k => by have := sx k; have := sy k; omega) i
  by_cases hi : i < x.length
  · have b1 := sx i
    have b2 := sy i
    have b3 := dlim_mul (x.getD i 0) (y.getD i 0)
    simp -dsimp -implicitDefEqProofs (disch := (first | assumption | omega | (simp only [nats_len, List.length_map, List.length_set, List.length_replicate, List.length_append, List.length_range, upto_len, els_len, List.length_cons, List.length_nil] <;> omega) | (apply isPure_intro <;> simp))) only [go_sem]
    first | refine callB_of (r_mul _ _ (by omega) (by omega)) (by simp) ?_ | refine callP_of (r_mul _ _ (by omega) (by omega)) (by simp) ?_
    simp -dsimp -implicitDefEqProofs (disch := (first | assumption | omega | (simp only [nats_len, List.length_map, List.length_set, List.length_replicate, List.length_append, List.length_range, upto_len, els_len, List.length_cons, List.length_nil] <;> omega) | (apply isPure_intro <;> simp))) only [go_sem]
    first | refine callB_of (r_add _ _ (by omega) (by omega)) (by simp) ?_ | refine callP_of (r_add _ _ (by omega) (by omega)) (by simp) ?_
    simp -dsimp -implicitDefEqProofs (disch := (first | assumption | omega | (simp only [nats_len, List.length_map, List.length_set, List.length_replicate, List.length_append, List.length_range, upto_len, els_len, List.length_cons, List.length_nil] <;> omega) | (apply isPure_intro <;> simp))) only [go_sem]
    exact ⟨(i + 1, _), Ghost.refl _, ⟨by dsimp only; omega, by dsimp only; omega⟩, by dsimp only; omega⟩
  · have hie : x.length = i := by omega
    subst hie
    simp -dsimp -implicitDefEqProofs (disch := (first | assumption | omega | (simp only [nats_len, List.length_map, List.length_set, List.length_replicate, List.length_append, List.length_range, upto_len, els_len, List.length_cons, List.length_nil] <;> omega) | (apply isPure_intro <;> simp))) only [go_sem]
theorem rapply_G (m : List (List Int)) (x : List Int) (n : Nat) (H : Hp) (n0 : Nat) (hn : n ≤ 1000) (hn1 : 1 ≤ n) (hm : Sq m n) (hx : x.length = n) (sm : ∀ i j, dlim (at2 m i j) ≤ 2000000) (sx : ∀ i, dlim (x.getD i 0) ≤ 2000000) :
    ∃ H' n' id, (n0 ≤ id ∧ id < n' ∧ H' id = some ⟨((List.range n).map (applyAt m x n)).map DV, 2⟩ ∧ ∀ b, b < n0 → H' b = H b) ∧ RetG pg n_gimbalref07_Mat_Apply [.sl (m.map dvl), dvl x] H n0 (.own id n) H' n' := by
  suffices h : ∃ r H' n', (∃ id, r = .own id n ∧ n0 ≤ id ∧ id < n' ∧ H' id = some ⟨((List.range n).map (applyAt m x n)).map DV, 2⟩ ∧ ∀ b, b < n0 → H' b = H b) ∧ RetG pg n_gimbalref07_Mat_Apply [.sl (m.map dvl), dvl x] H n0 r H' n' by
    obtain ⟨_, H', n', ⟨id, rfl, h1⟩, h⟩ := h
    exact ⟨H', n', id, h1, h⟩
  have hml := hm.1
  refine gimbalref07_Mat_Apply.ofG rfl (W_b ?_)
  unfold gimbalref07_Mat_Apply.k gimbalref07_Mat_Apply.res
  simp -dsimp -implicitDefEqProofs (disch := (first | assumption | omega | (simp only [nats_len, List.length_map, List.length_set, List.length_replicate, List.length_append, List.length_range, upto_len, els_len, List.length_cons, List.length_nil] <;> omega) | (apply isPure_intro <;> simp))) only [go_sem]
  refine W_loop (T := Nat × V × Hp × Nat) (fun t => ⟨E [(0, .sl (m.map dvl)), (1, dvl x), (5, t.2.1), (6, .int .i64 t.1)], t.2.2.1, t.2.2.2, t.2.2.2⟩)
    (fun t => t.1 ≤ n ∧ n0 ≤ t.2.2.2 ∧ Row n0 t.2.2.1 t.2.2.2 t.2.1 2 (((List.range t.1).map (applyAt m x n)).map DV) ∧ ∀ b, b < n0 → t.2.2.1 b = H b) (fun t => n - t.1) (0, .nil, H, _) rfl ⟨by dsimp only; omega, by dsimp only; omega, Row.nil _ _ _ _, fun _ _ => rfl⟩ ?_
  rintro ⟨i, w, H1, nx⟩ ⟨i1, i2, i3, i4⟩
  dsimp only at i1 i2 i3 i4
  by_cases hi : i < n
  · have hr := hm.row hi
    have hd := rdot_ret (m.getD i []) x (by omega) (by omega) (fun j => by have := sm i j; unfold at2 at this; omega) sx
    have e : sumN (fun k => (m.getD i []).getD k 0) (fun k => x.getD k 0) (m.getD i []).length = applyAt m x n i := by rw [hr]; rfl
    rw [e] at hd
    simp -dsimp -implicitDefEqProofs (disch := (first | assumption | omega | (simp only [nats_len, List.length_map, List.length_set, List.length_replicate, List.length_append, List.length_range, upto_len, els_len, List.length_cons, List.length_nil] <;> omega) | (apply isPure_intro <;> simp))) only [go_sem]
    first | refine callB_of (hd) (by simp) ?_ | refine callP_of (hd) (by simp) ?_
    simp -dsimp -implicitDefEqProofs (disch := (first | assumption | omega | (simp only [nats_len, List.length_map, List.length_set, List.length_replicate, List.length_append, List.length_range, upto_len, els_len, List.length_cons, List.length_nil] <;> omega) | (apply isPure_intro <;> simp))) only [go_sem]
    refine effB_row (lo := n0) (nx := nx) (H0 := H1) (xs := ((List.range i).map (applyAt m x n)).map DV) i3 (by omega) rfl (by omega) (by omega) (by simp [rowOk, V.cells, V.cellOk, DV]) (by decide) (by simp; omega) (by simp; omega) fun v2 H2 r1 _ _ r4 => ?_
    rw [map_app, range_snoc] at r1
    simp -dsimp -implicitDefEqProofs (disch := (first | assumption | omega | (simp only [nats_len, List.length_map, List.length_set, List.length_replicate, List.length_append, List.length_range, upto_len, els_len, List.length_cons, List.length_nil] <;> omega) | (apply isPure_intro <;> simp))) only [go_sem]
    exact ⟨(i + 1, v2, H2, _), rfl, ⟨by dsimp only; omega, by dsimp only; omega, r1.same (fun _ _ => rfl) (by dsimp only; omega), fun b hb => (r4 b hb).trans (i4 b hb)⟩, by dsimp only; omega⟩
  · have hie : n = i := by omega
    subst hie
    obtain ⟨c, rfl, c1, c2, c3⟩ := i3.own_of (by simp; omega)
    rw [List.length_map, List.length_map, List.length_range]
    simp -dsimp -implicitDefEqProofs (disch := (first | assumption | omega | (simp only [nats_len, List.length_map, List.length_set, List.length_replicate, List.length_append, List.length_range, upto_len, els_len, List.length_cons, List.length_nil] <;> omega) | (apply isPure_intro <;> simp))) only [go_sem]
    exact ⟨_, rfl, by dsimp only; omega, _, rfl, by omega, by dsimp only; omega, c3, fun b hb => i4 b hb⟩
theorem rapply_ret (m : List (List Int)) (x : List Int) (n : Nat) (hn : n ≤ 1000) (hn1 : 1 ≤ n) (hm : Sq m n) (hx : x.length = n) (sm : ∀ i j, dlim (at2 m i j) ≤ 2000000) (sx : ∀ i, dlim (x.getD i 0) ≤ 2000000) :
    Ret pg n_gimbalref07_Mat_Apply [.sl (m.map dvl), dvl x] (dvl ((List.range n).map (applyAt m x n))) := by
  obtain ⟨H', n', id, ⟨_, _, h3, _⟩, h⟩ := rapply_G m x n (fun _ => none) 0 hn hn1 hm hx sm sx
  refine h.toRet ?_
  rw [frz_own, h3, frzO_some (by simp), frz_map fun x => rfl]
  rfl
theorem rquad_ret (m : List (List Int)) (x : List Int) (n : Nat) (hn : n ≤ 1000) (hn1 : 1 ≤ n) (hm : Sq m n) (hx : x.length = n) (sm : ∀ i j, dlim (at2 m i j) ≤ 900000) (sx : ∀ i, dlim (x.getD i 0) ≤ 900000) :
    Ret pg n_gimbalref07_Mat_Quad [.sl (m.map dvl), dvl x] (DV (quadV m x n)) := by
  have ha := rapply_ret m x n hn hn1 hm hx (fun i j => by have := sm i j; omega) (fun i => by have := sx i; omega)
  have hd := rdot_ret x ((List.range n).map (applyAt m x n)) (by omega) (by simp; omega) (fun i => by have := sx i; omega) (fun i => by
    rw [range_getD']; split
    · have := sumN_dlim (f := at2 m i) (p := fun k => x.getD k 0) (L := 1800000) (fun k => by have := sm i k; have := sx k; omega) n
      unfold applyAt; omega
    · have := dlim_i64 (x := 0) (by omega); omega)
  have e : sumN (fun k => x.getD k 0) (fun k => ((List.range n).map (applyAt m x n)).getD k 0) x.length = quadV m x n := by
    rw [hx]; unfold quadV; exact sumN_congr n fun k hk => by rw [range_getD 0 hk]
  rw [e] at hd
  refine gimbalref07_Mat_Quad.of rfl (W_b ?_)
  unfold gimbalref07_Mat_Quad.k gimbalref07_Mat_Quad.res
  simp -dsimp -implicitDefEqProofs (disch := (first | assumption | omega | (simp only [nats_len, List.length_map, List.length_set, List.length_replicate, List.length_append, List.length_range, upto_len, els_len, List.length_cons, List.length_nil] <;> omega) | (apply isPure_intro <;> simp))) only [go_sem]
  first | refine callB_of (ha) (by simp) ?_ | refine callP_of (ha) (by simp) ?_
  simp -dsimp -implicitDefEqProofs (disch := (first | assumption | omega | (simp only [nats_len, List.length_map, List.length_set, List.length_replicate, List.length_append, List.length_range, upto_len, els_len, List.length_cons, List.length_nil] <;> omega) | (apply isPure_intro <;> simp))) only [go_sem]
  first | refine callB_of (hd) (by simp) ?_ | refine callP_of (hd) (by simp) ?_
  simp -dsimp -implicitDefEqProofs (disch := (first | assumption | omega | (simp only [nats_len, List.length_map, List.length_set, List.length_replicate, List.length_append, List.length_range, upto_len, els_len, List.length_cons, List.length_nil] <;> omega) | (apply isPure_intro <;> simp))) only [go_sem]
theorem rvalue_ret (P : List (List Int)) (Q x : List Int) (c : Int) (n : Nat) (hn : n ≤ 1000) (hn1 : 1 ≤ n) (hP : Sq P n) (hQ : Q.length = n) (hx : x.length = n) (sP : ∀ i j, dlim (at2 P i j) ≤ 900000) (sQ : ∀ i, dlim (Q.getD i 0) ≤ 900000) (sc : dlim c ≤ 900000) (sx : ∀ i, dlim (x.getD i 0) ≤ 900000) :
    Ret pg n_gimbalref08_Quad_Value [DQV P Q c, dvl x] (DV (qval P Q c x)) := by
  have hd := rdot_ret Q x (by omega) (by omega) (fun i => by have := sQ i; omega) (fun i => by have := sx i; omega)
  have hq := rquad_ret P x n hn hn1 hP hx sP sx
  have l1 := sumN_dlim (f := fun k => Q.getD k 0) (p := fun k => x.getD k 0) (L := 1800000) (fun k => by have := sx k; have := sQ k; omega) Q.length
  have l2 : ∀ i, dlim (applyAt P x n i) ≤ 1801000 := fun i => by
    have := sumN_dlim (f := at2 P i) (p := fun k => x.getD k 0) (L := 1800000) (fun k => by have := sP i k; have := sx k; omega) n
    unfold applyAt; omega
  have l3 := sumN_dlim (f := fun k => x.getD k 0) (p := applyAt P x n) (L := 2701000) (fun k => by have := sx k; have := l2 k; omega) n
  have hPl := hP.1
  unfold qval quadV at *
  rw [hPl]
  generalize sumN (fun k => Q.getD k 0) (fun k => x.getD k 0) Q.length = s at *
  generalize sumN (fun k => x.getD k 0) (applyAt P x n) n = q at *
  have l4 := dlim_add s s
  have l5 := dlim_sub q (s + s)
  have e : q - s * 2 + c = q - (s + s) + c := by omega
  rw [e]
  refine gimbalref08_Quad_Value.of rfl (W_b ?_)
  unfold gimbalref08_Quad_Value.k gimbalref08_Quad_Value.res
  simp -dsimp -implicitDefEqProofs (disch := (first | assumption | omega | (simp only [nats_len, List.length_map, List.length_set, List.length_replicate, List.length_append, List.length_range, upto_len, els_len, List.length_cons, List.length_nil] <;> omega) | (apply isPure_intro <;> simp))) only [go_sem]
  first | refine callB_of (hd) (by simp) ?_ | refine callP_of (hd) (by simp) ?_
  simp -dsimp -implicitDefEqProofs (disch := (first | assumption | omega | (simp only [nats_len, List.length_map, List.length_set, List.length_replicate, List.length_append, List.length_range, upto_len, els_len, List.length_cons, List.length_nil] <;> omega) | (apply isPure_intro <;> simp))) only [go_sem]
  first | refine callB_of (hd) (by simp) ?_ | refine callP_of (hd) (by simp) ?_
  simp -dsimp -implicitDefEqProofs (disch := (first | assumption | omega | (simp only [nats_len, List.length_map, List.length_set, List.length_replicate, List.length_append, List.length_range, upto_len, els_len, List.length_cons, List.length_nil] <;> omega) | (apply isPure_intro <;> simp))) only [go_sem]
  first | refine callB_of (r_add _ _ (by omega) (by omega)) (by simp) ?_ | refine callP_of (r_add _ _ (by omega) (by omega)) (by simp) ?_
  simp -dsimp -implicitDefEqProofs (disch := (first | assumption | omega | (simp only [nats_len, List.length_map, List.length_set, List.length_replicate, List.length_append, List.length_range, upto_len, els_len, List.length_cons, List.length_nil] <;> omega) | (apply isPure_intro <;> simp))) only [go_sem]
  first | refine callB_of (hq) (by simp) ?_ | refine callP_of (hq) (by simp) ?_
  simp -dsimp -implicitDefEqProofs (disch := (first | assumption | omega | (simp only [nats_len, List.length_map, List.length_set, List.length_replicate, List.length_append, List.length_range, upto_len, els_len, List.length_cons, List.length_nil] <;> omega) | (apply isPure_intro <;> simp))) only [go_sem]
  first | refine callB_of (r_sub _ _ (by omega) (by omega)) (by simp) ?_ | refine callP_of (r_sub _ _ (by omega) (by omega)) (by simp) ?_
  simp -dsimp -implicitDefEqProofs (disch := (first | assumption | omega | (simp only [nats_len, List.length_map, List.length_set, List.length_replicate, List.length_append, List.length_range, upto_len, els_len, List.length_cons, List.length_nil] <;> omega) | (apply isPure_intro <;> simp))) only [go_sem]
  first | refine callB_of (r_add _ _ (by omega) (by omega)) (by simp) ?_ | refine callP_of (r_add _ _ (by omega) (by omega)) (by simp) ?_
  simp -dsimp -implicitDefEqProofs (disch := (first | assumption | omega | (simp only [nats_len, List.length_map, List.length_set, List.length_replicate, List.length_append, List.length_range, upto_len, els_len, List.length_cons, List.length_nil] <;> omega) | (apply isPure_intro <;> simp))) only [go_sem]
def slpS (P : List (List Int)) (Q x : List Int) (n j k : Nat) : Int := if k < j then applyAt P x n k - Q.getD k 0 else applyAt P x n k
theorem slpS_set (P : List (List Int)) (Q x : List Int) (n j : Nat) : ((List.range n).map (slpS P Q x n j)).set j (applyAt P x n j - Q.getD j 0) = (List.range n).map (slpS P Q x n (j + 1)) := by
  rw [range_set]
  refine List.map_congr_left fun k _ => ?_
  unfold slpS
  by_cases h : k = j
  · subst h
    rw [if_pos rfl, if_pos (by omega)]
  · rw [if_neg h]
    by_cases h2 : k < j
    · rw [if_pos h2, if_pos (by omega)]
    · rw [if_neg h2, if_neg (by omega)]
theorem slpS_zero (P : List (List Int)) (Q x : List Int) (n : Nat) : (List.range n).map (applyAt P x n) = (List.range n).map (slpS P Q x n 0) := List.map_congr_left fun k _ => by unfold slpS; rw [if_neg (by omega)]
theorem slpS_all (P : List (List Int)) (Q x : List Int) (n : Nat) : (List.range n).map (slpS P Q x n n) = (List.range n).map fun k => applyAt P x n k - Q.getD k 0 := List.map_congr_left fun k hk => by unfold slpS; rw [if_pos (List.mem_range.1 hk)]
theorem rslope_G (P : List (List Int)) (Q x : List Int) (c : Int) (n : Nat) (H : Hp) (n0 : Nat) (hn : n ≤ 1000) (hn1 : 1 ≤ n) (hP : Sq P n) (hQ : Q.length = n) (hx : x.length = n) (sP : ∀ i j, dlim (at2 P i j) ≤ 900000) (sQ : ∀ i, dlim (Q.getD i 0) ≤ 900000) (sx : ∀ i, dlim (x.getD i 0) ≤ 900000) :
    ∃ H' n' id, (n0 ≤ id ∧ id < n' ∧ H' id = some ⟨((List.range n).map fun k => applyAt P x n k - Q.getD k 0).map DV, 2⟩ ∧ ∀ b, b < n0 → H' b = H b) ∧ RetG pg n_gimbalref08_Quad_Slope [DQV P Q c, dvl x] H n0 (.own id n) H' n' := by
  suffices h : ∃ r H' n', (∃ id, r = .own id n ∧ n0 ≤ id ∧ id < n' ∧ H' id = some ⟨((List.range n).map fun k => applyAt P x n k - Q.getD k 0).map DV, 2⟩ ∧ ∀ b, b < n0 → H' b = H b) ∧ RetG pg n_gimbalref08_Quad_Slope [DQV P Q c, dvl x] H n0 r H' n' by
    obtain ⟨_, H', n', ⟨id, rfl, h1⟩, h⟩ := h
    exact ⟨H', n', id, h1, h⟩
  have l2 : ∀ i, dlim (applyAt P x n i) ≤ 1801000 := fun i => by
    have := sumN_dlim (f := at2 P i) (p := fun k => x.getD k 0) (L := 1800000) (fun k => by have := sP i k; have := sx k; omega) n
    unfold applyAt; omega
  refine gimbalref08_Quad_Slope.ofG rfl (W_b ?_)
  unfold gimbalref08_Quad_Slope.k gimbalref08_Quad_Slope.res
  simp -dsimp -implicitDefEqProofs (disch := (first | assumption | omega | (simp only [nats_len, List.length_map, List.length_set, List.length_replicate, List.length_append, List.length_range, upto_len, els_len, List.length_cons, List.length_nil] <;> omega) | (apply isPure_intro <;> simp))) only [go_sem]
  obtain ⟨H1, n1, id, ⟨c1, c2, c3, c4⟩, hc⟩ := rapply_G P x n H (n0 + 7) hn hn1 hP hx (fun i j => by have := sP i j; omega) (fun i => by have := sx i; omega)
  refine callB_G hc ?_
  simp -dsimp -implicitDefEqProofs (disch := (first | assumption | omega | (simp only [nats_len, List.length_map, List.length_set, List.length_replicate, List.length_append, List.length_range, upto_len, els_len, List.length_cons, List.length_nil] <;> omega) | (apply isPure_intro <;> simp))) only [go_sem]
  rw [slpS_zero] at c3
  refine W_loop (T := Nat × Hp × Nat) (fun t => ⟨E [(2, .pp (DQV P Q c)), (5, .own id n), (6, .int .i64 t.1)], t.2.1, t.2.2, t.2.2⟩)
    (fun t => t.1 ≤ n ∧ id < t.2.2 ∧ t.2.1 id = some ⟨((List.range n).map (slpS P Q x n t.1)).map DV, 2⟩ ∧ ∀ b, b < n0 → t.2.1 b = H b) (fun t => n - t.1) (0, H1, _) rfl ⟨by dsimp only; omega, by dsimp only; omega, c3, fun b hb => c4 b (by omega)⟩ ?_
  clear c3 c4 c2
  rintro ⟨j, H2, nx⟩ ⟨j1, j2, j3, j4⟩
  dsimp only at j1 j2 j3 j4
  by_cases hj : j < n
  · have b1 := l2 j
    have b2 := sQ j
    have hget : ((List.range n).map (slpS P Q x n j)).getD j 0 = applyAt P x n j := by rw [range_getD 0 hj]; unfold slpS; rw [if_neg (by omega)]
    have hset := slpS_set P Q x n j
    simp -dsimp -implicitDefEqProofs (disch := (first | assumption | omega | (simp only [nats_len, List.length_map, List.length_set, List.length_replicate, List.length_append, List.length_range, upto_len, els_len, List.length_cons, List.length_nil] <;> omega) | (apply isPure_intro <;> simp))) only [go_sem, j3, hget]
    first | refine callB_of (r_sub _ _ (by omega) (by omega)) (by simp) ?_ | refine callP_of (r_sub _ _ (by omega) (by omega)) (by simp) ?_
    simp -dsimp -implicitDefEqProofs (disch := (first | assumption | omega | (simp only [nats_len, List.length_map, List.length_set, List.length_replicate, List.length_append, List.length_range, upto_len, els_len, List.length_cons, List.length_nil] <;> omega) | (apply isPure_intro <;> simp))) only [go_sem, j3, hset]
    generalize hG : Hp.upd H2 id _ = G
    exact ⟨(j + 1, G, _), rfl, ⟨by dsimp only; omega, by dsimp only; omega, upd_at_same hG, fun b hb => by dsimp only; rw [← hG, Hp.upd_ne _ _ (by omega)]; exact j4 b hb⟩, by dsimp only; omega⟩
  · have hje : j = n := by omega
    subst hje
    simp -dsimp -implicitDefEqProofs (disch := (first | assumption | omega | (simp only [nats_len, List.length_map, List.length_set, List.length_replicate, List.length_append, List.length_range, upto_len, els_len, List.length_cons, List.length_nil] <;> omega) | (apply isPure_intro <;> simp))) only [go_sem, j3]
    rw [slpS_all] at j3
    exact ⟨_, rfl, by dsimp only; omega, _, rfl, by omega, by dsimp only; omega, j3, fun b hb => j4 b hb⟩
end Go.Gim
/- The reference reads a told number back. -/
set_option maxRecDepth 100000
set_option maxHeartbeats 4000000
set_option linter.unusedSimpArgs false
set_option linter.unusedVariables false
namespace Go.Gim
open Go.Proofs
theorem u8_nat {x : Nat} (h : x < 256) : (UInt8.ofNat x).toNat = x := by rw [UInt8.toNat_ofNat']; omega
theorem idxS_bst {l : List Nat} {i : Nat} (h : ∀ x ∈ l, x < 256) (hi : i < l.length) : redV .idxS [.str (bst l), .int .i64 (i : Int)] = some (.int .u8 (l.getD i 0)) := by
  have e : l.getD i 0 = l[i] := by simp [List.getD_eq_getElem?_getD, hi]
  have hx := h l[i] (List.getElem_mem hi)
  simp only [redV, bst, List.toList_toArray, Int.toNat_natCast]
  rw [if_pos (by omega), List.getElem?_map, List.getElem?_eq_getElem hi, e]
  simp only [Option.map_some, u8_nat hx]
theorem toList_loop (b : ByteArray) : ∀ (n i : Nat) (r : List UInt8), b.size - i = n → ByteArray.toList.loop b i r = r.reverse ++ b.data.toList.drop i
  | 0, i, r, h => by
    rw [ByteArray.toList.loop]
    have hs : b.size = b.data.toList.length := by simp
    rw [if_neg (by omega), List.drop_eq_nil_of_le (by omega), List.append_nil]
  | n + 1, i, r, h => by
    rw [ByteArray.toList.loop]
    have hs : b.size = b.data.toList.length := by simp
    rw [if_pos (by omega), toList_loop b n (i + 1) _ (by omega), List.drop_eq_getElem_cons (show i < b.data.toList.length by omega), List.reverse_cons, List.append_assoc]
    congr 1
    simp only [List.singleton_append]
    congr 1
    have hi : i < b.data.size := by simpa using (show i < b.data.toList.length by omega)
    show b.get! i = _
    simp only [ByteArray.get!]
    rw [getElem!_pos b.data i hi]; simp
theorem toList_data (b : ByteArray) : b.toList = b.data.toList := by
  have := toList_loop b _ 0 [] rfl
  simpa [ByteArray.toList] using this
theorem bst_list (l : List Nat) : (bst l).toList = l.map UInt8.ofNat := by rw [toList_data]; rfl
theorem bst_ne {a b : List Nat} (ha : ∀ x ∈ a, x < 256) (hb : ∀ x ∈ b, x < 256) (h : a ≠ b) : strV .eql (bst a) (bst b) = some (.bool false) := by
  unfold strV
  simp only [bst_list, Option.some.injEq, V.bool.injEq, decide_eq_false_iff_not]
  intro e
  refine h ?_
  have k : ∀ l : List Nat, (∀ x ∈ l, x < 256) → (l.map UInt8.ofNat).map UInt8.toNat = l := fun l hl => by
    rw [List.map_map]
    refine (List.map_congr_left fun x hx => ?_).trans (List.map_id l)
    exact u8_nat (hl x hx)
  rw [← k a ha, ← k b hb, e]
theorem digs_top {n : Nat} (h : n ≠ 0) : (digs 10 n).getD ((digs 10 n).length - 1) 0 ≠ 0 := by
  intro e
  have hl : 0 < (digs 10 n).length := List.length_pos_iff.2 fun h' => h ((digs_nil d2).1 h')
  have h1 : val 10 ((digs 10 n).take ((digs 10 n).length - 1)) = val 10 (digs 10 n) := val_take fun i hi hi' => by
    have : i = (digs 10 n).length - 1 := by omega
    subst this
    rw [List.getD_eq_getElem?_getD, List.getElem?_eq_getElem hi'] at e
    exact e
  have h2 := val_lt d2 (l := (digs 10 n).take ((digs 10 n).length - 1)) fun x hx => digs_lt d2 n x (List.mem_of_mem_take hx)
  have h3 := digs_ge d2 h
  rw [h1, val_digs d2, List.length_take, Nat.min_eq_left (by omega)] at h2
  omega
theorem decL_at {d : List Nat} {i : Nat} (h : i < d.length) : ((d.map (48 + ·)).reverse).getD i 0 = 48 + d.getD (d.length - 1 - i) 0 := by
  simp [List.getD_eq_getElem?_getD, List.getElem?_reverse, h, show d.length - 1 - i < d.length by omega]
theorem rparse_ret (v : Int) (hv : 0 ≤ v) (hd : dlim v ≤ 2000) : Ret pg n_gimbalref01_Parse [.str (decS v)] (.tup [DV v, .int .i64 0]) := by
  refine gimbalref01_Parse.of rfl (W_b ?_)
  unfold gimbalref01_Parse.k gimbalref01_Parse.res
  rw [decS_bst]
  have hlen := decL_len v
  by_cases h0 : v = 0
  · subst h0
    have e : decL 0 = [48] := rfl
    have s1 : strV .eql (bst [48]) ⟨#[48]⟩ = some (.bool true) := bst_eq (a := [48]) (b := [48]) rfl
    have s2 : (bst [48]).size = 1 := rfl
    rw [e]
    simp -dsimp -implicitDefEqProofs (disch := (first | assumption | omega | (simp only [nats_len, List.length_map, List.length_set, List.length_replicate, List.length_append, List.length_range, upto_len, els_len, List.length_cons, List.length_nil] <;> omega) | (apply isPure_intro <;> simp))) only [go_sem, s1, s2]
    rw [DV_zero]
  · have hn : v.natAbs ≠ 0 := by omega
    have hneg : ¬ v < 0 := by omega
    have hT : decL v = ((digs 10 v.natAbs).map (48 + ·)).reverse := by unfold decL; rw [if_neg h0, if_neg hneg]; rfl
    have hdl := digs_lt d2 v.natAbs
    have htop := digs_top hn
    have hval := val_digs d2 v.natAbs
    have hl0 : 0 < (digs 10 v.natAbs).length := List.length_pos_iff.2 fun h' => hn ((digs_nil d2).1 h')
    have hd' : (digs 10 v.natAbs).length ≤ 2000 := hd
    rw [hT]
    generalize digs 10 v.natAbs = d at *
    have hTl : ((d.map (48 + ·)).reverse).length = d.length := by simp
    have hTb : ∀ x ∈ (d.map (48 + ·)).reverse, x < 256 := fun x hx => by
      rw [List.mem_reverse] at hx
      obtain ⟨y, hy, rfl⟩ := List.mem_map.1 hx
      have := hdl y hy; omega
    have hTa := fun i (h : i < d.length) => decL_at (d := d) h
    generalize hTT : (d.map (48 + ·)).reverse = T at *
    have hix := fun i (h : i < d.length) => idxS_bst (l := T) (i := i) hTb (by omega)
    have hsz := bst_size T
    have hx0 : redV .idxS [.str (bst T), .int .i64 0] = some (.int .u8 (T.getD 0 0)) := hix 0 hl0
    have t0 := hTa 0 hl0
    rw [Nat.sub_zero] at t0
    have ht10 := hdl _ (getD_mem' 0 (show d.length - 1 < d.length by omega))
    have s1 : strV .eql (bst T) ⟨#[48]⟩ = some (.bool false) := bst_ne (b := [48]) hTb (by simp) fun e => by
      rw [e] at t0
      have : ([48] : List Nat).getD 0 0 = 48 := rfl
      omega
    rw [t0] at hx0
    generalize d.getD (d.length - 1) 0 = top at *
    have q1 : (((48 + top : Nat) : Int) = 45) = False := by simp; omega
    have q2 : (((48 + top : Nat) : Int) = 48) = False := by simp; omega
    simp -dsimp -implicitDefEqProofs (disch := (first | assumption | omega | (simp only [nats_len, List.length_map, List.length_set, List.length_replicate, List.length_append, List.length_range, upto_len, els_len, List.length_cons, List.length_nil] <;> omega) | (apply isPure_intro <;> simp))) only [go_sem, s1, hsz, hTl, hx0, q1, q2]
    refine W_loop (T := Nat × V × Hp × Nat) (fun t => ⟨E [(0, .str (bst T)), (2, .ptr 0 1 0 0), (4, .int .i64 0), (5, .bool false), (6, t.2.1), (7, .int .i64 ((d.length : Int) - 1 - t.1))], t.2.2.1, t.2.2.2, t.2.2.2⟩)
      (fun t => t.1 ≤ d.length ∧ 0 < t.2.2.2 ∧ t.2.2.1 0 = some ⟨[.agg [.bool false, .nil]], 2⟩ ∧ Row 1 t.2.2.1 t.2.2.2 t.2.1 1 (nats .i64 (d.take t.1))) (fun t => d.length - t.1) (0, .nil, _, _) (by dsimp only; rw [show ((d.length - 1 : Nat) : Int) = (d.length : Int) - 1 - ((0 : Nat) : Int) by omega]) ⟨by dsimp only; omega, by dsimp only; omega, rfl, Row.nil _ _ _ _⟩ ?_
    rintro ⟨k, w, H, nx⟩ ⟨k1, k2, k3, k4⟩
    dsimp only at k1 k2 k3 k4
    by_cases hk : k < d.length
    · have e1 : (d.length : Int) - 1 - (k : Int) = ((d.length - 1 - k : Nat) : Int) := by omega
      have hxk := hix (d.length - 1 - k) (by omega)
      rw [hTa _ (by omega), show d.length - 1 - (d.length - 1 - k) = k by omega] at hxk
      have hx10 := hdl _ (getD_mem' 0 hk)
      have ht := take_getD (l := d) (i := k) 0 hk
      generalize d.getD k 0 = x at *
      have q3 : decide (((48 + x : Nat) : Int) < 48) = false := decide_eq_false (by omega)
      have q4 : decide ((57 : Int) < ((48 + x : Nat) : Int)) = false := decide_eq_false (by omega)
      have q5 : IntKind.u8.wrap (((48 + x : Nat) : Int) - 48) = (x : Int) := by rw [show ((48 + x : Nat) : Int) - 48 = (x : Int) by omega, wu8]; omega
      have q6 : IntKind.i64.wrap (x : Int) = (x : Int) := w64 (by omega)
      rw [e1]
      simp -dsimp -implicitDefEqProofs (disch := (first | assumption | omega | (simp only [nats_len, List.length_map, List.length_set, List.length_replicate, List.length_append, List.length_range, upto_len, els_len, List.length_cons, List.length_nil] <;> omega) | (apply isPure_intro <;> simp))) only [go_sem, hxk, q3, q4, q5, q6]
      refine effB_row (lo := 1) (nx := nx) (H0 := H) (xs := nats .i64 (d.take k)) k4 (by omega) rfl (by omega) (by omega) (by simp [rowOk, V.cells, V.cellOk, V.isJunk]) (by decide) (by simp [nats]; omega) (by simp [nats]; omega) fun v2 H2 r1 _ _ r4 => ?_
      have hna : nats .i64 (d.take k) ++ [.int .i64 (x : Int)] = nats .i64 (d.take (k + 1)) := by rw [ht]; simp [nats]
      rw [hna] at r1
      simp -dsimp -implicitDefEqProofs (disch := (first | assumption | omega | (simp only [nats_len, List.length_map, List.length_set, List.length_replicate, List.length_append, List.length_range, upto_len, els_len, List.length_cons, List.length_nil] <;> omega) | (apply isPure_intro <;> simp))) only [go_sem]
      exact ⟨(k + 1, v2, H2, _), by dsimp only; rw [show (((d.length - 1 - k : Nat) : Int) - 1) = ((d.length - 1 : Nat) : Int) - ((k + 1 : Nat) : Int) by omega], ⟨by dsimp only; omega, by dsimp only; omega, (r4 0 (by omega)).trans k3, r1.same (fun _ _ => rfl) (by dsimp only; omega)⟩, by dsimp only; omega⟩
    · have hke : d.length = k := by omega
      subst hke
      rw [List.take_length] at k4
      have e1 : (d.length : Int) - 1 - (d.length : Int) = -1 := by omega
      obtain ⟨c, rfl, c1, c2, c3⟩ := k4.own_of (by rw [nats_len]; exact hl0)
      have hmd := r_made false d hdl (by omega)
      have hsg : sg false (val 10 d) = v := by rw [hval]; simp [sg]; omega
      rw [hsg] at hmd
      rw [e1]
      simp -dsimp -implicitDefEqProofs (disch := (first | assumption | omega | (simp only [nats_len, List.length_map, List.length_set, List.length_replicate, List.length_append, List.length_range, upto_len, els_len, List.length_cons, List.length_nil] <;> omega) | (apply isPure_intro <;> simp))) only [go_sem]
      refine callB_frE (fz1 c (nats .i64 d)) (fz1_ok c3 (pure_map fun x => by simp)) (by simp -dsimp -implicitDefEqProofs (disch := (first | assumption | omega | (simp only [nats_len, List.length_map, List.length_set, List.length_replicate, List.length_append, List.length_range, upto_len, els_len, List.length_cons, List.length_nil] <;> omega) | (apply isPure_intro <;> simp))) only [go_sem]) hmd (by simp) ?_
      have h0c : (0 = c) = False := by simp; omega
      have p0 : Hp.sub (fz1 c (nats .i64 d)) H 0 = some ⟨[.agg [.bool false, .nil]], 2⟩ := sub_at (fz1_ne (by omega)) k3 (by simp -dsimp -implicitDefEqProofs (disch := (first | assumption | omega | (simp only [nats_len, List.length_map, List.length_set, List.length_replicate, List.length_append, List.length_range, upto_len, els_len, List.length_cons, List.length_nil] <;> omega) | (apply isPure_intro <;> simp))) only [go_sem] <;> rfl)
      simp -dsimp -implicitDefEqProofs (disch := (first | assumption | omega | (simp only [nats_len, List.length_map, List.length_set, List.length_replicate, List.length_append, List.length_range, upto_len, els_len, List.length_cons, List.length_nil] <;> omega) | (apply isPure_intro <;> simp))) only [go_sem, p0, h0c]
end Go.Gim
/- The references' cost that forgives; what a row costs there. -/
set_option maxRecDepth 100000
set_option maxHeartbeats 4000000
set_option linter.unusedSimpArgs false
set_option linter.unusedVariables false
namespace Go.Gim
open Go.Proofs
theorem w64' (n : Int) : IntKind.i64.wrap n = (n + 9223372036854775808) % 18446744073709551616 - 9223372036854775808 := by rw [IntWalk.i64_left]; unfold RowKit.wrap64; rfl
theorem rcut_ret (r k : Int) : Ret pg n_gimbalref09_cut [.int .i64 r, .int .i64 k] (.tup [.int .i64 (sizeR r), .bool (decide (r < 0)), .int .i64 (clampK k)]) := by
  refine gimbalref09_cut.of rfl (W_b ?_)
  unfold gimbalref09_cut.k gimbalref09_cut.res sizeR clampR clampK
  simp -dsimp -implicitDefEqProofs only [go_sem]
  repeat' (first | (refine gsel_split (fun h' => ?_) (fun h' => ?_) <;> simp -dsimp -implicitDefEqProofs only [go_sem, h']) | (refine csel_dec (fun h' => ?_) (fun h' => ?_) <;> simp -dsimp -implicitDefEqProofs only [go_sem, h']))
  all_goals
    simp only [w64', Option.some.injEq, V.tup.injEq, List.cons.injEq, V.int.injEq, V.bool.injEq, true_and, and_true, decide_eq_true_eq, decide_eq_false_iff_not, Bool.true_eq, Bool.false_eq]
    omega
theorem rslope_ret (r k : Int) : Ret pg n_gimbalref09_Slope [.int .i64 r, .int .i64 k] (.int .i64 (hSlope r k)) := by
  have h1 := clampR_bd r
  have h2 := clampK_bd k
  have h3 := sizeR_bd r
  refine gimbalref09_Slope.of rfl (W_b ?_)
  unfold gimbalref09_Slope.k gimbalref09_Slope.res
  simp -dsimp -implicitDefEqProofs only [go_sem]
  refine callB_of (rcut_ret _ _) (by simp) ?_
  simp -dsimp -implicitDefEqProofs only [go_sem]
  have e : (r < 0 ∧ clampR r = -sizeR r) ∨ (¬ r < 0 ∧ clampR r = sizeR r) := by unfold sizeR clampR; omega
  have w1 := w64 (n := 0 - sizeR r) (by omega)
  have w2 := w64 (n := 0 - clampK k) (by omega)
  unfold hSlope
  by_cases h : sizeR r ≤ clampK k
  · rcases e with ⟨h4, h5⟩ | ⟨h4, h5⟩
    · simp -dsimp -implicitDefEqProofs only [go_sem, show ¬ clampK k < sizeR r by omega, h4, h, w1, h5]
      simp
    · simp -dsimp -implicitDefEqProofs only [go_sem, show ¬ clampK k < sizeR r by omega, h4, h, w1, h5]
  · rcases e with ⟨h4, h5⟩ | ⟨h4, h5⟩
    · simp -dsimp -implicitDefEqProofs only [go_sem, show clampK k < sizeR r by omega, h4, h, w2]
      congr 2; omega
    · simp -dsimp -implicitDefEqProofs only [go_sem, show clampK k < sizeR r by omega, h4, h, w2]
      congr 2; omega
theorem dl (x : Int) (h : -9223372036854775808 ≤ x ∧ x ≤ 9223372036854775807) : dlim x ≤ 20 := dlim_i64 h
theorem rrho_ret (r k : Int) : Ret pg n_gimbalref09_Rho [.int .i64 r, .int .i64 k] (.str (decS (hRho r k))) := by
  have h1 := clampR_bd r
  have h2 := clampK_bd k
  have h3 := sizeR_bd r
  have o1 := r_of (sizeR r) (by omega)
  have o2 := r_of (clampK k) (by omega)
  have e : clampR r * clampR r = sizeR r * sizeR r := by
    have : clampR r = sizeR r ∨ clampR r = -sizeR r := by unfold sizeR; omega
    rcases this with h | h <;> rw [h]
    rw [Int.neg_mul_neg]
  have d1 := dl (sizeR r) (by omega)
  have d2 := dl (clampK k) (by omega)
  have m1 := dlim_mul (sizeR r) (sizeR r)
  have m2 := dlim_mul (clampK k) (sizeR r)
  have m3 := dlim_mul (clampK k) (clampK k)
  have a1 := dlim_add (clampK k * sizeR r) (clampK k * sizeR r)
  have a2 := dlim_sub (clampK k * sizeR r + clampK k * sizeR r) (clampK k * clampK k)
  refine gimbalref09_Rho.of rfl (W_b ?_)
  unfold gimbalref09_Rho.k gimbalref09_Rho.res
  simp -dsimp -implicitDefEqProofs (disch := (first | omega | (simp only [nats_len, List.length_set, List.length_replicate, List.length_append, List.length_take, List.length_drop, List.length_map, List.length_cons, List.length_nil] <;> omega) | (apply isPure_intro <;> simp))) only [go_sem, IntWalk.i64_in, wu64, wu32, wu8, Nat.mod_eq_of_lt, shr32, shr63, shl32, or32, quo64, quo32, quoi64, remk, quo32_10, rem32_10, quoi_10, remi_10, nat_48add, Nat.add_assoc, add_ne_self, lt_ne, gt_ne, add_inj, dlt_t, dlt_f, dle_t, dle_f, deq_t, deq_f, idxB_nats, idxO_f, idxO_t, loadO_natf, loadO_natt, storeO_nat, storeO_natn, newB_mkn, effV_cpy, cpyO_nat, upd_upd, nats_len, List.length_set, ge_iff_le, gt_iff_lt, Int.toNat_natCast, nat_sub1, nat_sub, nat_add1, nat_add, nat_mul, slc3_pos, slc3_zero, slc_to, nats_take, nats_drop, boxB_eq, DV_cells, DV_isAgg, DV_isJunk, frz_DV, part_DV, nats_frz]
  refine callB_of (rcut_ret _ _) (by simp) ?_
  simp -dsimp -implicitDefEqProofs (disch := (first | omega | (simp only [nats_len, List.length_set, List.length_replicate, List.length_append, List.length_take, List.length_drop, List.length_map, List.length_cons, List.length_nil] <;> omega) | (apply isPure_intro <;> simp))) only [go_sem, IntWalk.i64_in, wu64, wu32, wu8, Nat.mod_eq_of_lt, shr32, shr63, shl32, or32, quo64, quo32, quoi64, remk, quo32_10, rem32_10, quoi_10, remi_10, nat_48add, Nat.add_assoc, add_ne_self, lt_ne, gt_ne, add_inj, dlt_t, dlt_f, dle_t, dle_f, deq_t, deq_f, idxB_nats, idxO_f, idxO_t, loadO_natf, loadO_natt, storeO_nat, storeO_natn, newB_mkn, effV_cpy, cpyO_nat, upd_upd, nats_len, List.length_set, ge_iff_le, gt_iff_lt, Int.toNat_natCast, nat_sub1, nat_sub, nat_add1, nat_add, nat_mul, slc3_pos, slc3_zero, slc_to, nats_take, nats_drop, boxB_eq, DV_cells, DV_isAgg, DV_isJunk, frz_DV, part_DV, nats_frz]
  refine callB_of o1 (by simp) ?_
  unfold hRho
  by_cases h : sizeR r ≤ clampK k
  · simp -dsimp -implicitDefEqProofs (disch := (first | omega | (simp only [nats_len, List.length_set, List.length_replicate, List.length_append, List.length_take, List.length_drop, List.length_map, List.length_cons, List.length_nil] <;> omega) | (apply isPure_intro <;> simp))) only [go_sem, IntWalk.i64_in, wu64, wu32, wu8, Nat.mod_eq_of_lt, shr32, shr63, shl32, or32, quo64, quo32, quoi64, remk, quo32_10, rem32_10, quoi_10, remi_10, nat_48add, Nat.add_assoc, add_ne_self, lt_ne, gt_ne, add_inj, dlt_t, dlt_f, dle_t, dle_f, deq_t, deq_f, idxB_nats, idxO_f, idxO_t, loadO_natf, loadO_natt, storeO_nat, storeO_natn, newB_mkn, effV_cpy, cpyO_nat, upd_upd, nats_len, List.length_set, ge_iff_le, gt_iff_lt, Int.toNat_natCast, nat_sub1, nat_sub, nat_add1, nat_add, nat_mul, slc3_pos, slc3_zero, slc_to, nats_take, nats_drop, boxB_eq, DV_cells, DV_isAgg, DV_isJunk, frz_DV, part_DV, nats_frz, h]
    refine callB_of (r_mul _ _ (by omega) (by omega)) (by simp) ?_
    simp -dsimp -implicitDefEqProofs (disch := (first | omega | (simp only [nats_len, List.length_set, List.length_replicate, List.length_append, List.length_take, List.length_drop, List.length_map, List.length_cons, List.length_nil] <;> omega) | (apply isPure_intro <;> simp))) only [go_sem, IntWalk.i64_in, wu64, wu32, wu8, Nat.mod_eq_of_lt, shr32, shr63, shl32, or32, quo64, quo32, quoi64, remk, quo32_10, rem32_10, quoi_10, remi_10, nat_48add, Nat.add_assoc, add_ne_self, lt_ne, gt_ne, add_inj, dlt_t, dlt_f, dle_t, dle_f, deq_t, deq_f, idxB_nats, idxO_f, idxO_t, loadO_natf, loadO_natt, storeO_nat, storeO_natn, newB_mkn, effV_cpy, cpyO_nat, upd_upd, nats_len, List.length_set, ge_iff_le, gt_iff_lt, Int.toNat_natCast, nat_sub1, nat_sub, nat_add1, nat_add, nat_mul, slc3_pos, slc3_zero, slc_to, nats_take, nats_drop, boxB_eq, DV_cells, DV_isAgg, DV_isJunk, frz_DV, part_DV, nats_frz]
    refine callB_of (r_string _ (by omega)) (by simp) ?_
    simp -dsimp -implicitDefEqProofs (disch := (first | omega | (simp only [nats_len, List.length_set, List.length_replicate, List.length_append, List.length_take, List.length_drop, List.length_map, List.length_cons, List.length_nil] <;> omega) | (apply isPure_intro <;> simp))) only [go_sem, IntWalk.i64_in, wu64, wu32, wu8, Nat.mod_eq_of_lt, shr32, shr63, shl32, or32, quo64, quo32, quoi64, remk, quo32_10, rem32_10, quoi_10, remi_10, nat_48add, Nat.add_assoc, add_ne_self, lt_ne, gt_ne, add_inj, dlt_t, dlt_f, dle_t, dle_f, deq_t, deq_f, idxB_nats, idxO_f, idxO_t, loadO_natf, loadO_natt, storeO_nat, storeO_natn, newB_mkn, effV_cpy, cpyO_nat, upd_upd, nats_len, List.length_set, ge_iff_le, gt_iff_lt, Int.toNat_natCast, nat_sub1, nat_sub, nat_add1, nat_add, nat_mul, slc3_pos, slc3_zero, slc_to, nats_take, nats_drop, boxB_eq, DV_cells, DV_isAgg, DV_isJunk, frz_DV, part_DV, nats_frz, h, e]
  · simp -dsimp -implicitDefEqProofs (disch := (first | omega | (simp only [nats_len, List.length_set, List.length_replicate, List.length_append, List.length_take, List.length_drop, List.length_map, List.length_cons, List.length_nil] <;> omega) | (apply isPure_intro <;> simp))) only [go_sem, IntWalk.i64_in, wu64, wu32, wu8, Nat.mod_eq_of_lt, shr32, shr63, shl32, or32, quo64, quo32, quoi64, remk, quo32_10, rem32_10, quoi_10, remi_10, nat_48add, Nat.add_assoc, add_ne_self, lt_ne, gt_ne, add_inj, dlt_t, dlt_f, dle_t, dle_f, deq_t, deq_f, idxB_nats, idxO_f, idxO_t, loadO_natf, loadO_natt, storeO_nat, storeO_natn, newB_mkn, effV_cpy, cpyO_nat, upd_upd, nats_len, List.length_set, ge_iff_le, gt_iff_lt, Int.toNat_natCast, nat_sub1, nat_sub, nat_add1, nat_add, nat_mul, slc3_pos, slc3_zero, slc_to, nats_take, nats_drop, boxB_eq, DV_cells, DV_isAgg, DV_isJunk, frz_DV, part_DV, nats_frz, h]
    refine callB_of o2 (by simp) ?_
    simp -dsimp -implicitDefEqProofs (disch := (first | omega | (simp only [nats_len, List.length_set, List.length_replicate, List.length_append, List.length_take, List.length_drop, List.length_map, List.length_cons, List.length_nil] <;> omega) | (apply isPure_intro <;> simp))) only [go_sem, IntWalk.i64_in, wu64, wu32, wu8, Nat.mod_eq_of_lt, shr32, shr63, shl32, or32, quo64, quo32, quoi64, remk, quo32_10, rem32_10, quoi_10, remi_10, nat_48add, Nat.add_assoc, add_ne_self, lt_ne, gt_ne, add_inj, dlt_t, dlt_f, dle_t, dle_f, deq_t, deq_f, idxB_nats, idxO_f, idxO_t, loadO_natf, loadO_natt, storeO_nat, storeO_natn, newB_mkn, effV_cpy, cpyO_nat, upd_upd, nats_len, List.length_set, ge_iff_le, gt_iff_lt, Int.toNat_natCast, nat_sub1, nat_sub, nat_add1, nat_add, nat_mul, slc3_pos, slc3_zero, slc_to, nats_take, nats_drop, boxB_eq, DV_cells, DV_isAgg, DV_isJunk, frz_DV, part_DV, nats_frz]
    refine callP_of (r_mul _ _ (by omega) (by omega)) (by simp) ?_
    simp -dsimp -implicitDefEqProofs (disch := (first | omega | (simp only [nats_len, List.length_set, List.length_replicate, List.length_append, List.length_take, List.length_drop, List.length_map, List.length_cons, List.length_nil] <;> omega) | (apply isPure_intro <;> simp))) only [go_sem, IntWalk.i64_in, wu64, wu32, wu8, Nat.mod_eq_of_lt, shr32, shr63, shl32, or32, quo64, quo32, quoi64, remk, quo32_10, rem32_10, quoi_10, remi_10, nat_48add, Nat.add_assoc, add_ne_self, lt_ne, gt_ne, add_inj, dlt_t, dlt_f, dle_t, dle_f, deq_t, deq_f, idxB_nats, idxO_f, idxO_t, loadO_natf, loadO_natt, storeO_nat, storeO_natn, newB_mkn, effV_cpy, cpyO_nat, upd_upd, nats_len, List.length_set, ge_iff_le, gt_iff_lt, Int.toNat_natCast, nat_sub1, nat_sub, nat_add1, nat_add, nat_mul, slc3_pos, slc3_zero, slc_to, nats_take, nats_drop, boxB_eq, DV_cells, DV_isAgg, DV_isJunk, frz_DV, part_DV, nats_frz]
    refine callP_of (r_mul _ _ (by omega) (by omega)) (by simp) ?_
    simp -dsimp -implicitDefEqProofs (disch := (first | omega | (simp only [nats_len, List.length_set, List.length_replicate, List.length_append, List.length_take, List.length_drop, List.length_map, List.length_cons, List.length_nil] <;> omega) | (apply isPure_intro <;> simp))) only [go_sem, IntWalk.i64_in, wu64, wu32, wu8, Nat.mod_eq_of_lt, shr32, shr63, shl32, or32, quo64, quo32, quoi64, remk, quo32_10, rem32_10, quoi_10, remi_10, nat_48add, Nat.add_assoc, add_ne_self, lt_ne, gt_ne, add_inj, dlt_t, dlt_f, dle_t, dle_f, deq_t, deq_f, idxB_nats, idxO_f, idxO_t, loadO_natf, loadO_natt, storeO_nat, storeO_natn, newB_mkn, effV_cpy, cpyO_nat, upd_upd, nats_len, List.length_set, ge_iff_le, gt_iff_lt, Int.toNat_natCast, nat_sub1, nat_sub, nat_add1, nat_add, nat_mul, slc3_pos, slc3_zero, slc_to, nats_take, nats_drop, boxB_eq, DV_cells, DV_isAgg, DV_isJunk, frz_DV, part_DV, nats_frz]
    refine callP_of (r_add _ _ (by omega) (by omega)) (by simp) ?_
    simp -dsimp -implicitDefEqProofs (disch := (first | omega | (simp only [nats_len, List.length_set, List.length_replicate, List.length_append, List.length_take, List.length_drop, List.length_map, List.length_cons, List.length_nil] <;> omega) | (apply isPure_intro <;> simp))) only [go_sem, IntWalk.i64_in, wu64, wu32, wu8, Nat.mod_eq_of_lt, shr32, shr63, shl32, or32, quo64, quo32, quoi64, remk, quo32_10, rem32_10, quoi_10, remi_10, nat_48add, Nat.add_assoc, add_ne_self, lt_ne, gt_ne, add_inj, dlt_t, dlt_f, dle_t, dle_f, deq_t, deq_f, idxB_nats, idxO_f, idxO_t, loadO_natf, loadO_natt, storeO_nat, storeO_natn, newB_mkn, effV_cpy, cpyO_nat, upd_upd, nats_len, List.length_set, ge_iff_le, gt_iff_lt, Int.toNat_natCast, nat_sub1, nat_sub, nat_add1, nat_add, nat_mul, slc3_pos, slc3_zero, slc_to, nats_take, nats_drop, boxB_eq, DV_cells, DV_isAgg, DV_isJunk, frz_DV, part_DV, nats_frz]
    refine callP_of (r_mul _ _ (by omega) (by omega)) (by simp) ?_
    simp -dsimp -implicitDefEqProofs (disch := (first | omega | (simp only [nats_len, List.length_set, List.length_replicate, List.length_append, List.length_take, List.length_drop, List.length_map, List.length_cons, List.length_nil] <;> omega) | (apply isPure_intro <;> simp))) only [go_sem, IntWalk.i64_in, wu64, wu32, wu8, Nat.mod_eq_of_lt, shr32, shr63, shl32, or32, quo64, quo32, quoi64, remk, quo32_10, rem32_10, quoi_10, remi_10, nat_48add, Nat.add_assoc, add_ne_self, lt_ne, gt_ne, add_inj, dlt_t, dlt_f, dle_t, dle_f, deq_t, deq_f, idxB_nats, idxO_f, idxO_t, loadO_natf, loadO_natt, storeO_nat, storeO_natn, newB_mkn, effV_cpy, cpyO_nat, upd_upd, nats_len, List.length_set, ge_iff_le, gt_iff_lt, Int.toNat_natCast, nat_sub1, nat_sub, nat_add1, nat_add, nat_mul, slc3_pos, slc3_zero, slc_to, nats_take, nats_drop, boxB_eq, DV_cells, DV_isAgg, DV_isJunk, frz_DV, part_DV, nats_frz]
    refine callP_of (r_sub _ _ (by omega) (by omega)) (by simp) ?_
    simp -dsimp -implicitDefEqProofs (disch := (first | omega | (simp only [nats_len, List.length_set, List.length_replicate, List.length_append, List.length_take, List.length_drop, List.length_map, List.length_cons, List.length_nil] <;> omega) | (apply isPure_intro <;> simp))) only [go_sem, IntWalk.i64_in, wu64, wu32, wu8, Nat.mod_eq_of_lt, shr32, shr63, shl32, or32, quo64, quo32, quoi64, remk, quo32_10, rem32_10, quoi_10, remi_10, nat_48add, Nat.add_assoc, add_ne_self, lt_ne, gt_ne, add_inj, dlt_t, dlt_f, dle_t, dle_f, deq_t, deq_f, idxB_nats, idxO_f, idxO_t, loadO_natf, loadO_natt, storeO_nat, storeO_natn, newB_mkn, effV_cpy, cpyO_nat, upd_upd, nats_len, List.length_set, ge_iff_le, gt_iff_lt, Int.toNat_natCast, nat_sub1, nat_sub, nat_add1, nat_add, nat_mul, slc3_pos, slc3_zero, slc_to, nats_take, nats_drop, boxB_eq, DV_cells, DV_isAgg, DV_isJunk, frz_DV, part_DV, nats_frz]
    refine callP_of (r_string _ (by omega)) (by simp) ?_
    have e2 : clampK k * sizeR r + clampK k * sizeR r = 2 * clampK k * sizeR r := by rw [← Int.two_mul, Int.mul_assoc]
    simp -dsimp -implicitDefEqProofs (disch := (first | omega | (simp only [nats_len, List.length_set, List.length_replicate, List.length_append, List.length_take, List.length_drop, List.length_map, List.length_cons, List.length_nil] <;> omega) | (apply isPure_intro <;> simp))) only [go_sem, IntWalk.i64_in, wu64, wu32, wu8, Nat.mod_eq_of_lt, shr32, shr63, shl32, or32, quo64, quo32, quoi64, remk, quo32_10, rem32_10, quoi_10, remi_10, nat_48add, Nat.add_assoc, add_ne_self, lt_ne, gt_ne, add_inj, dlt_t, dlt_f, dle_t, dle_f, deq_t, deq_f, idxB_nats, idxO_f, idxO_t, loadO_natf, loadO_natt, storeO_nat, storeO_natn, newB_mkn, effV_cpy, cpyO_nat, upd_upd, nats_len, List.length_set, ge_iff_le, gt_iff_lt, Int.toNat_natCast, nat_sub1, nat_sub, nat_add1, nat_add, nat_mul, slc3_pos, slc3_zero, slc_to, nats_take, nats_drop, boxB_eq, DV_cells, DV_isAgg, DV_isJunk, frz_DV, part_DV, nats_frz, h, e2]
theorem dl64 {x : Int} (h : In64 x) : dlim x ≤ 20 := dlim_i64 h
theorem hRho_in {r k : Int} (hr : -1000000000 ≤ r ∧ r ≤ 1000000000) (hk : 1 ≤ k ∧ k ≤ 32768) : In64 (hRho r k) := by
  have h1 := hRho_lo r k
  have h2 := hRho_hi hr hk
  exact ⟨by omega, by omega⟩
theorem rcost_ret (r : Row4) (x : List Int) (hr : Right4 r x.length) (hx : State x) : Ret pg n_gimbalref16_Cost [RV r, ints x] (DV (costR r x)) := by
  have hi := hRho_in (residR_bd r x) hr.kn
  have h0 := hRho_lo (residR r x) r.kn
  have d1 := dl64 hi
  have hw := hr.w
  have d2 := dl64 (x := r.w) ⟨by omega, by omega⟩
  refine gimbalref16_Cost.of rfl (W_b ?_)
  unfold gimbalref16_Cost.k gimbalref16_Cost.res
  simp -dsimp -implicitDefEqProofs (disch := (first | assumption | omega | (simp only [nats_len, List.length_map, List.length_set, List.length_replicate, List.length_append, List.length_range, upto_len, els_len, List.length_cons, List.length_nil] <;> omega) | (apply isPure_intro <;> simp))) only [go_sem, ← DV_zero]
  first | refine callB_of (rresid_ret r x hr hx) (by simp) ?_ | refine callP_of (rresid_ret r x hr hx) (by simp) ?_
  simp -dsimp -implicitDefEqProofs (disch := (first | assumption | omega | (simp only [nats_len, List.length_map, List.length_set, List.length_replicate, List.length_append, List.length_range, upto_len, els_len, List.length_cons, List.length_nil] <;> omega) | (apply isPure_intro <;> simp))) only [go_sem]
  first | refine callB_of (rrho_ret (residR r x) r.kn) (by simp) ?_ | refine callP_of (rrho_ret (residR r x) r.kn) (by simp) ?_
  simp -dsimp -implicitDefEqProofs (disch := (first | assumption | omega | (simp only [nats_len, List.length_map, List.length_set, List.length_replicate, List.length_append, List.length_range, upto_len, els_len, List.length_cons, List.length_nil] <;> omega) | (apply isPure_intro <;> simp))) only [go_sem]
  first | refine callB_of (rparse_ret _ h0 (by omega)) (by simp) ?_ | refine callP_of (rparse_ret _ h0 (by omega)) (by simp) ?_
  simp -dsimp -implicitDefEqProofs (disch := (first | assumption | omega | (simp only [nats_len, List.length_map, List.length_set, List.length_replicate, List.length_append, List.length_range, upto_len, els_len, List.length_cons, List.length_nil] <;> omega) | (apply isPure_intro <;> simp))) only [go_sem]
  first | refine callB_of (r_of r.w (by omega)) (by simp) ?_ | refine callP_of (r_of r.w (by omega)) (by simp) ?_
  simp -dsimp -implicitDefEqProofs (disch := (first | assumption | omega | (simp only [nats_len, List.length_map, List.length_set, List.length_replicate, List.length_append, List.length_range, upto_len, els_len, List.length_cons, List.length_nil] <;> omega) | (apply isPure_intro <;> simp))) only [go_sem]
  first | refine callB_of (r_mul _ _ (by omega) (by omega)) (by simp) ?_ | refine callP_of (r_mul _ _ (by omega) (by omega)) (by simp) ?_
  have e : hRho (residR r x) r.kn * r.w = costR r x := Int.mul_comm _ _
  simp -dsimp -implicitDefEqProofs (disch := (first | assumption | omega | (simp only [nats_len, List.length_map, List.length_set, List.length_replicate, List.length_append, List.length_range, upto_len, els_len, List.length_cons, List.length_nil] <;> omega) | (apply isPure_intro <;> simp))) only [go_sem, e]
theorem rsteep_ret (r : Row4) (x : List Int) (hr : Right4 r x.length) (hx : State x) : Ret pg n_gimbalref16_Steep [RV r, ints x] (ints (steepR r x)) := by
  have hb := slopeR_bd (x := x) hr
  have hl := hr.len
  have hn := hr.le
  have hw := hr.w
  have hs := hSlope_bd (r := residR r x) hr.kn
  have hsl : (steepR r x).length = x.length := by simp [steepR, hl]
  refine gimbalref16_Steep.of rfl (W_b ?_)
  unfold gimbalref16_Steep.k gimbalref16_Steep.res
  simp -dsimp -implicitDefEqProofs (disch := (first | assumption | omega | (simp only [nats_len, List.length_map, List.length_set, List.length_replicate, List.length_append, List.length_range, upto_len, els_len, List.length_cons, List.length_nil] <;> omega) | (apply isPure_intro <;> simp))) only [go_sem]
  refine W_loopG (T := Nat × V × Hp × Nat) (fun t => ⟨E [(1, ints x), (2, .pp (RV r)), (5, t.2.1), (6, .int .i64 t.1)], t.2.2.1, t.2.2.2, t.2.2.2⟩)
    (fun t => t.1 ≤ x.length ∧ Row 0 t.2.2.1 t.2.2.2 t.2.1 1 (((steepR r x).take t.1).map (V.int .i64))) (fun t => x.length - t.1) (0, .nil, _, _) (Ghost.refl _) ⟨by dsimp only; omega, Row.nil _ _ _ _⟩ ?_
  rintro ⟨i, w, H, nx⟩ ⟨i1, i2⟩
  dsimp only at i1 i2
  obtain ⟨w1, w2, w3, w4⟩ := i2.flat
  by_cases hi : i < x.length
  · have hm := hr.get i
    have ht := take_getD (l := steepR r x) (i := i) 0 (by omega)
    have e : (steepR r x).getD i 0 = r.w * r.co.getD i 0 * hSlope (residR r x) r.kn := by
      simp only [steepR, slopeR]
      rw [show (r.co.map fun a => a * (r.w * hSlope (residR r x) r.kn)).getD i 0 = r.co.getD i 0 * (r.w * hSlope (residR r x) r.kn) by simp [List.getD_eq_getElem?_getD, show i < r.co.length by omega]]
      grind
    rw [e] at ht
    have h1 := prod_bd (a := r.w) (b := r.co.getD i 0) (A := 100) (B := 1000) (by omega) (by omega)
    have h2 := prod_bd (a := r.w * r.co.getD i 0) (b := hSlope (residR r x) r.kn) (A := 100000) (B := 32768) (by omega) (by omega)
    have e1 := w64 (show -9223372036854775808 ≤ r.w * r.co.getD i 0 ∧ r.w * r.co.getD i 0 ≤ 9223372036854775807 by omega)
    have e2 := w64 (show -9223372036854775808 ≤ r.w * r.co.getD i 0 * hSlope (residR r x) r.kn ∧ r.w * r.co.getD i 0 * hSlope (residR r x) r.kn ≤ 9223372036854775807 by omega)
    simp -dsimp -implicitDefEqProofs (disch := (first | assumption | omega | (simp only [nats_len, List.length_map, List.length_set, List.length_replicate, List.length_append, List.length_range, upto_len, els_len, List.length_cons, List.length_nil] <;> omega) | (apply isPure_intro <;> simp))) only [go_sem, w1, w2, w3, w4, e1]
    first | refine callB_of (rresid_ret r x hr hx) (by simp) ?_ | refine callP_of (rresid_ret r x hr hx) (by simp) ?_
    simp -dsimp -implicitDefEqProofs (disch := (first | assumption | omega | (simp only [nats_len, List.length_map, List.length_set, List.length_replicate, List.length_append, List.length_range, upto_len, els_len, List.length_cons, List.length_nil] <;> omega) | (apply isPure_intro <;> simp))) only [go_sem]
    first | refine callB_of (rslope_ret (residR r x) r.kn) (by simp) ?_ | refine callP_of (rslope_ret (residR r x) r.kn) (by simp) ?_
    simp -dsimp -implicitDefEqProofs (disch := (first | assumption | omega | (simp only [nats_len, List.length_map, List.length_set, List.length_replicate, List.length_append, List.length_range, upto_len, els_len, List.length_cons, List.length_nil] <;> omega) | (apply isPure_intro <;> simp))) only [go_sem, e2]
    refine effB_row (lo := 0) (nx := nx) (H0 := H) (xs := ((steepR r x).take i).map (V.int .i64)) i2 (by omega) rfl (by omega) (by omega) (by simp [rowOk, V.cells, V.cellOk, V.isJunk]) (by decide) (by simp; omega) (by simp; omega) fun v2 H2 r1 _ _ r4 => ?_
    rw [map_app (V.int .i64), ← ht] at r1
    simp -dsimp -implicitDefEqProofs (disch := (first | assumption | omega | (simp only [nats_len, List.length_map, List.length_set, List.length_replicate, List.length_append, List.length_range, upto_len, els_len, List.length_cons, List.length_nil] <;> omega) | (apply isPure_intro <;> simp))) only [go_sem]
    exact ⟨(i + 1, v2, H2, _), Ghost.refl _, ⟨by dsimp only; omega, r1.same (fun _ _ => rfl) (by dsimp only; omega)⟩, by dsimp only; omega⟩
  · have hie : x.length = i := by omega
    subst hie
    rw [List.take_of_length_le (by omega)] at i2
    simp -dsimp -implicitDefEqProofs (disch := (first | assumption | omega | (simp only [nats_len, List.length_map, List.length_set, List.length_replicate, List.length_append, List.length_range, upto_len, els_len, List.length_cons, List.length_nil] <;> omega) | (apply isPure_intro <;> simp))) only [go_sem]
    rw [i2.frz (frz_map fun x => rfl)]
    rfl
end Go.Gim
/- The references' costs of graphs. -/
set_option maxRecDepth 100000
set_option maxHeartbeats 4000000
set_option linter.unusedSimpArgs false
set_option linter.unusedVariables false
namespace Go.Gim
open Go.Proofs
theorem numbers_ret (x : List Int) (hl : x.length ≤ 1000000) (h : ∀ v ∈ x, In64 v) : Ret pg n_gimbalref18_Numbers [ints x] (dvl x) := by
  refine gimbalref18_Numbers.of rfl (W_b ?_)
  unfold gimbalref18_Numbers.k gimbalref18_Numbers.res
  simp -dsimp -implicitDefEqProofs (disch := (first | assumption | omega | (simp only [nats_len, List.length_map, List.length_set, List.length_replicate, List.length_append, List.length_range, upto_len, els_len, List.length_cons, List.length_nil] <;> omega) | (apply isPure_intro <;> simp))) only [go_sem]
  refine W_loop (T := Nat × V × Hp × Nat) (fun t => ⟨E [(0, ints x), (3, t.2.1), (4, .int .i64 t.1)], t.2.2.1, t.2.2.2, t.2.2.2⟩)
    (fun t => t.1 ≤ x.length ∧ Row 0 t.2.2.1 t.2.2.2 t.2.1 2 ((x.take t.1).map DV)) (fun t => x.length - t.1) (0, .nil, _, _) rfl ⟨by dsimp only; omega, Row.nil _ _ _ _⟩ ?_
  rintro ⟨i, w, H, nx⟩ ⟨i1, i2⟩
  dsimp only at i1 i2
  by_cases hi : i < x.length
  · have hm := h _ (getD_mem' 0 hi)
    have ht := take_getD (l := x) (i := i) 0 hi
    generalize hZ : x.getD i 0 = z at *
    simp -dsimp -implicitDefEqProofs (disch := (first | assumption | omega | (simp only [nats_len, List.length_map, List.length_set, List.length_replicate, List.length_append, List.length_range, upto_len, els_len, List.length_cons, List.length_nil] <;> omega) | (apply isPure_intro <;> simp))) only [go_sem, hZ]
    first | refine callB_of (r_of z hm) (by simp) ?_ | refine callP_of (r_of z hm) (by simp) ?_
    simp -dsimp -implicitDefEqProofs (disch := (first | assumption | omega | (simp only [nats_len, List.length_map, List.length_set, List.length_replicate, List.length_append, List.length_range, upto_len, els_len, List.length_cons, List.length_nil] <;> omega) | (apply isPure_intro <;> simp))) only [go_sem]
    refine effB_row (lo := 0) (nx := nx) (H0 := H) (xs := (x.take i).map DV) i2 (by omega) rfl (by omega) (by omega) (by simp [rowOk, V.cells, V.cellOk, DV]) (by decide) (by simp; omega) (by simp; omega) fun v2 H2 r1 _ _ r4 => ?_
    rw [map_app, ← ht] at r1
    simp -dsimp -implicitDefEqProofs (disch := (first | assumption | omega | (simp only [nats_len, List.length_map, List.length_set, List.length_replicate, List.length_append, List.length_range, upto_len, els_len, List.length_cons, List.length_nil] <;> omega) | (apply isPure_intro <;> simp))) only [go_sem]
    exact ⟨(i + 1, v2, H2, _), rfl, ⟨by dsimp only; omega, r1.same (fun _ _ => rfl) (by dsimp only; omega)⟩, by dsimp only; omega⟩
  · have hie : x.length = i := by omega
    subst hie
    rw [List.take_length] at i2
    simp -dsimp -implicitDefEqProofs (disch := (first | assumption | omega | (simp only [nats_len, List.length_map, List.length_set, List.length_replicate, List.length_append, List.length_range, upto_len, els_len, List.length_cons, List.length_nil] <;> omega) | (apply isPure_intro <;> simp))) only [go_sem]
    rw [i2.frz (frz_map fun x => rfl)]
    rfl
theorem dl_of {x : Int} {L : Nat} (h : lim x ≤ L) : dlim x ≤ 10 * L := by have := dlim_lim x; omega
theorem costs_in {g : Gr} {x : List Int} (hr : ∀ r ∈ g.rows, Right4 r x.length) : ∀ v ∈ costs g x, In64 v := fun v hv => by
  obtain ⟨r, hr', rfl⟩ := List.mem_map.1 hv
  have := costR_bd (x := x) (hr r hr')
  exact ⟨by omega, by omega⟩
theorem rvalue18_ret (g : Gr) (x : List Int) (h : GOkay g x) (h1 : 1 ≤ g.n) : Ret pg n_gimbalref18_Value [DGV g, ints x] (DV (valC g x)) := by
  obtain ⟨hn, h11, h60, hr, hx, hsq, hq, sP, sQ, sc, sd⟩ := h
  have hcb := costs_in hr
  have hcl : (costs g x).length = g.rows.length := by simp [costs]
  have e1 := numbers_ret x (by omega) hx.in64
  have e2 := rvalue_ret g.P g.Q x g.c g.n (by omega) h1 hsq hq hn (fun i j => by have := dl_of (sP i j); omega) (fun i => by have := dl_of (sQ i); omega) (by have := dl_of sc; omega) (fun i => by have := dl_of (hx.lim i); omega)
  have l3 := qval_lim hsq hq h11 sP sQ sc hx
  refine gimbalref18_Value.of rfl (W_b ?_)
  unfold gimbalref18_Value.k gimbalref18_Value.res
  simp -dsimp -implicitDefEqProofs (disch := (first | assumption | omega | (simp only [nats_len, List.length_map, List.length_set, List.length_replicate, List.length_append, List.length_range, upto_len, els_len, List.length_cons, List.length_nil] <;> omega) | (apply isPure_intro <;> simp))) only [go_sem, ← DV_zero]
  first | refine callB_of (e1) (by simp) ?_ | refine callP_of (e1) (by simp) ?_
  simp -dsimp -implicitDefEqProofs (disch := (first | assumption | omega | (simp only [nats_len, List.length_map, List.length_set, List.length_replicate, List.length_append, List.length_range, upto_len, els_len, List.length_cons, List.length_nil] <;> omega) | (apply isPure_intro <;> simp))) only [go_sem]
  first | refine callB_of (e2) (by simp) ?_ | refine callP_of (e2) (by simp) ?_
  simp -dsimp -implicitDefEqProofs (disch := (first | assumption | omega | (simp only [nats_len, List.length_map, List.length_set, List.length_replicate, List.length_append, List.length_range, upto_len, els_len, List.length_cons, List.length_nil] <;> omega) | (apply isPure_intro <;> simp))) only [go_sem, ← DV_zero]
  refine W_loopG (T := Nat × Nat) (fun t => ⟨E [(1, ints x), (2, .pp (DGV g)), (4, .ptr 1 1 0 0), (5, .ptr 7 1 0 0), (6, .int .i64 t.1)], (Hp.upd (fun _ => none) 1 (some ⟨[DV 0], 2⟩)).upd 7 (some ⟨[DV (qval g.P g.Q g.c x + sumL ((costs g x).take t.1) * g.den)], 2⟩), t.2, t.2⟩) (fun t => t.1 ≤ g.rows.length ∧ 7 < t.2) (fun t => g.rows.length - t.1) (0, 10) (by
    rw [show qval g.P g.Q g.c x + sumL ((costs g x).take 0) * g.den = qval g.P g.Q g.c x by rw [List.take_zero]; simp [sumL]]
    exact Ghost.refl _) ⟨by dsimp only; omega, by dsimp only; omega⟩ ?_
  rintro ⟨i, nx⟩ ⟨i1, i2⟩
  dsimp only at i1 i2
  by_cases hi : i < g.rows.length
  · have hri := hr _ (getD_mem' default hi)
    have hv := getD_in hcb i
    have hgc : (costs g x).getD i 0 = costR (g.rows.getD i default) x := by simp [costs, List.getD_eq_getElem?_getD, hi]
    have ht := sumL_take (l := costs g x) (i := i) (by omega)
    rw [hgc] at hv ht
    generalize hX : g.rows.getD i default = r at *
    have l2 := sumL_lim (l := (costs g x).take i) (L := 2) fun v h => lim_i64 (hcb v (List.mem_of_mem_take h))
    have l4 : ((costs g x).take i).length ≤ 60 := by rw [List.length_take]; omega
    have l5 := lim_mul (sumL ((costs g x).take i)) g.den
    have l6 := lim_add (qval g.P g.Q g.c x) (sumL ((costs g x).take i) * g.den)
    have l7 := lim_i64 hv
    have l8 := lim_mul (costR r x) g.den
    have e3 : qval g.P g.Q g.c x + sumL ((costs g x).take i) * g.den + costR r x * g.den = qval g.P g.Q g.c x + sumL ((costs g x).take (i + 1)) * g.den := by rw [ht]; grind
    have d1 := dlim_lim (qval g.P g.Q g.c x + sumL ((costs g x).take i) * g.den)
    have d2 := dlim_lim (costR r x)
    have d3 := dlim_lim g.den
    have d4 := dlim_lim (costR r x * g.den)
    simp -dsimp -implicitDefEqProofs (disch := (first | assumption | omega | (simp only [nats_len, List.length_map, List.length_set, List.length_replicate, List.length_append, List.length_range, upto_len, els_len, List.length_cons, List.length_nil] <;> omega) | (apply isPure_intro <;> simp))) only [go_sem, hX]
    first | refine callB_of (rcost_ret r x hri hx) (by simp) ?_ | refine callP_of (rcost_ret r x hri hx) (by simp) ?_
    simp -dsimp -implicitDefEqProofs (disch := (first | assumption | omega | (simp only [nats_len, List.length_map, List.length_set, List.length_replicate, List.length_append, List.length_range, upto_len, els_len, List.length_cons, List.length_nil] <;> omega) | (apply isPure_intro <;> simp))) only [go_sem]
    first | refine callB_of (r_mul _ _ (by omega) (by omega)) (by simp) ?_ | refine callP_of (r_mul _ _ (by omega) (by omega)) (by simp) ?_
    simp -dsimp -implicitDefEqProofs (disch := (first | assumption | omega | (simp only [nats_len, List.length_map, List.length_set, List.length_replicate, List.length_append, List.length_range, upto_len, els_len, List.length_cons, List.length_nil] <;> omega) | (apply isPure_intro <;> simp))) only [go_sem]
    first | refine callB_of (r_add _ _ (by omega) (by omega)) (by simp) ?_ | refine callP_of (r_add _ _ (by omega) (by omega)) (by simp) ?_
    simp -dsimp -implicitDefEqProofs (disch := (first | assumption | omega | (simp only [nats_len, List.length_map, List.length_set, List.length_replicate, List.length_append, List.length_range, upto_len, els_len, List.length_cons, List.length_nil] <;> omega) | (apply isPure_intro <;> simp))) only [go_sem, e3]
    exact ⟨(i + 1, _), Ghost.refl _, ⟨by dsimp only; omega, by dsimp only; omega⟩, by dsimp only; omega⟩
  · have hie : g.rows.length = i := by omega
    subst hie
    rw [List.take_of_length_le (by omega)]
    have e3 : qval g.P g.Q g.c x + sumL (costs g x) * g.den = valC g x := Int.add_comm _ _
    simp -dsimp -implicitDefEqProofs (disch := (first | assumption | omega | (simp only [nats_len, List.length_map, List.length_set, List.length_replicate, List.length_append, List.length_range, upto_len, els_len, List.length_cons, List.length_nil] <;> omega) | (apply isPure_intro <;> simp))) only [go_sem, e3]
def midF (f g : Nat → Int) (j k : Nat) : Int := if k < j then g k else f k
theorem midF_set (f g : Nat → Int) (n j : Nat) : ((List.range n).map (midF f g j)).set j (g j) = (List.range n).map (midF f g (j + 1)) := by
  rw [range_set]
  refine List.map_congr_left fun k _ => ?_
  unfold midF
  by_cases h : k = j
  · subst h
    rw [if_pos rfl, if_pos (by omega)]
  · rw [if_neg h]
    by_cases h2 : k < j
    · rw [if_pos h2, if_pos (by omega)]
    · rw [if_neg h2, if_neg (by omega)]
theorem midF_zero (f g : Nat → Int) (n : Nat) : (List.range n).map f = (List.range n).map (midF f g 0) := List.map_congr_left fun k _ => by unfold midF; rw [if_neg (by omega)]
theorem midF_all (f g : Nat → Int) (n : Nat) : (List.range n).map (midF f g n) = (List.range n).map g := List.map_congr_left fun k hk => by unfold midF; rw [if_pos (List.mem_range.1 hk)]
theorem midF_get {f g : Nat → Int} {n j : Nat} (h : j < n) : ((List.range n).map (midF f g j)).getD j 0 = f j := by rw [range_getD 0 h]; unfold midF; rw [if_neg (by omega)]
def stS (g : Gr) (x : List Int) (i k : Nat) : Int := applyAt g.P x g.n k - g.Q.getD k 0 + colS (steeps g x) i k * g.den
theorem rsteep18_ret (g : Gr) (x : List Int) (h : GOkay g x) (h1 : 1 ≤ g.n) : Ret pg n_gimbalref18_Steep [DGV g, ints x] (dvl (steepC g x)) := by
  obtain ⟨hn, h11, h60, hr, hx, hsq, hq, sP, sQ, sc, sd⟩ := h
  have hcl : (steeps g x).length = g.rows.length := by simp [steeps]
  have hcr : ∀ l ∈ steeps g x, l.length = g.n ∧ ∀ v ∈ l, In64 v := fun l hl => by
    obtain ⟨r, hr', rfl⟩ := List.mem_map.1 hl
    have h1 := (hr r hr').len
    exact ⟨by simp [steepR]; omega, fun v hv => by have := steepR_bd (x := x) (hr r hr') v hv; exact ⟨by omega, by omega⟩⟩
  have hcin := fun l hl => (hcr l hl).2
  have hsl : (steepC g x).length = g.n := by simp [steepC]
  have e1 := numbers_ret x (by omega) hx.in64
  have hS0 : ∀ k, stS g x 0 k = applyAt g.P x g.n k - g.Q.getD k 0 := fun k => by unfold stS colS; rw [List.take_zero]; simp [sumL]
  have hSl : ∀ i k, lim (stS g x i k) ≤ 1000 := fun i k => by
    have l2 := colS_lim hcin i k
    have l3 := applyAt_lim' h11 sP hx k
    have l4 := sQ k
    have l5 := lim_sub (applyAt g.P x g.n k) (g.Q.getD k 0)
    have l6 := lim_mul (colS (steeps g x) i k) g.den
    have l7 := lim_add (applyAt g.P x g.n k - g.Q.getD k 0) (colS (steeps g x) i k * g.den)
    unfold stS; omega
  refine gimbalref18_Steep.of rfl (W_b ?_)
  unfold gimbalref18_Steep.k gimbalref18_Steep.res
  simp -dsimp -implicitDefEqProofs (disch := (first | assumption | omega | (simp only [nats_len, List.length_map, List.length_set, List.length_replicate, List.length_append, List.length_range, upto_len, els_len, List.length_cons, List.length_nil] <;> omega) | (apply isPure_intro <;> simp))) only [go_sem]
  first | refine callB_of (e1) (by simp) ?_ | refine callP_of (e1) (by simp) ?_
  simp -dsimp -implicitDefEqProofs (disch := (first | assumption | omega | (simp only [nats_len, List.length_map, List.length_set, List.length_replicate, List.length_append, List.length_range, upto_len, els_len, List.length_cons, List.length_nil] <;> omega) | (apply isPure_intro <;> simp))) only [go_sem]
  obtain ⟨H1, n1, id, ⟨c1, c2, c3, _⟩, hc⟩ := rslope_G g.P g.Q x g.c g.n (fun _ => none) 8 (by omega) h1 hsq hq hn (fun i j => by have := dl_of (sP i j); omega) (fun i => by have := dl_of (sQ i); omega) (fun i => by have := dl_of (hx.lim i); omega)
  refine callB_G hc ?_
  simp -dsimp -implicitDefEqProofs (disch := (first | assumption | omega | (simp only [nats_len, List.length_map, List.length_set, List.length_replicate, List.length_append, List.length_range, upto_len, els_len, List.length_cons, List.length_nil] <;> omega) | (apply isPure_intro <;> simp))) only [go_sem]
  rw [show (List.range g.n).map (fun k => applyAt g.P x g.n k - g.Q.getD k 0) = (List.range g.n).map (stS g x 0) from List.map_congr_left fun k _ => (hS0 k).symm] at c3
  refine W_loop (T := Nat × Hp × Nat) (fun t => ⟨E [(1, ints x), (2, .pp (DGV g)), (5, .own id g.n), (6, .int .i64 t.1)], t.2.1, t.2.2, t.2.2⟩)
    (fun t => t.1 ≤ g.rows.length ∧ id < t.2.2 ∧ t.2.1 id = some ⟨((List.range g.n).map (stS g x t.1)).map DV, 2⟩) (fun t => g.rows.length - t.1) (0, H1, _) rfl ⟨by dsimp only; omega, by dsimp only; omega, c3⟩ ?_
  clear c3 c2
  rintro ⟨i, H, nx⟩ ⟨i1, i2, i3⟩
  dsimp only at i1 i2 i3
  by_cases hi : i < g.rows.length
  · have hri := hr _ (getD_mem' default hi)
    have hml := hcr _ (getD_mem' [] (show i < (steeps g x).length by omega))
    have hgs : (steeps g x).getD i [] = steepR (g.rows.getD i default) x := by simp [steeps, List.getD_eq_getElem?_getD, hi]
    have hst := fun k => colS_step (ls := steeps g x) (i := i) (by omega) k
    rw [hgs] at hml hst
    obtain ⟨hl1, hl2⟩ := hml
    generalize hX : g.rows.getD i default = r at *
    simp -dsimp -implicitDefEqProofs (disch := (first | assumption | omega | (simp only [nats_len, List.length_map, List.length_set, List.length_replicate, List.length_append, List.length_range, upto_len, els_len, List.length_cons, List.length_nil] <;> omega) | (apply isPure_intro <;> simp))) only [go_sem, hX]
    first | refine callB_of (rsteep_ret r x hri hx) (by simp) ?_ | refine callP_of (rsteep_ret r x hri hx) (by simp) ?_
    rw [midF_zero (stS g x i) (stS g x (i + 1))] at i3
    simp -dsimp -implicitDefEqProofs (disch := (first | assumption | omega | (simp only [nats_len, List.length_map, List.length_set, List.length_replicate, List.length_append, List.length_range, upto_len, els_len, List.length_cons, List.length_nil] <;> omega) | (apply isPure_intro <;> simp))) only [go_sem]
    refine W_loop (T := Nat × Hp × Nat) (fun t => ⟨E [(1, ints x), (2, .pp (DGV g)), (5, .own id g.n), (6, .int .i64 i), (7, ints (steepR r x)), (8, .int .i64 t.1)], t.2.1, t.2.2, t.2.2⟩)
      (fun t => t.1 ≤ g.n ∧ id < t.2.2 ∧ t.2.1 id = some ⟨((List.range g.n).map (midF (stS g x i) (stS g x (i + 1)) t.1)).map DV, 2⟩) (fun t => g.n - t.1) (0, H, _) rfl ⟨by dsimp only; omega, by dsimp only; omega, i3⟩ ?_
    clear i3 i2
    rintro ⟨j, H2, nx2⟩ ⟨j1, j2, j3⟩
    dsimp only at j1 j2 j3
    by_cases hj : j < g.n
    · have hv := getD_in hl2 j
      have hget := midF_get (f := stS g x i) (g := stS g x (i + 1)) hj
      have hset := midF_set (stS g x i) (stS g x (i + 1)) g.n j
      have e3 : stS g x i j + (steepR r x).getD j 0 * g.den = stS g x (i + 1) j := by unfold stS; rw [hst j]; grind
      have l1 := hSl i j
      have l7 := lim_i64 hv
      have l8 := lim_mul ((steepR r x).getD j 0) g.den
      have d1 := dlim_lim (stS g x i j)
      have d2 := dlim_lim ((steepR r x).getD j 0)
      have d3 := dlim_lim g.den
      have d4 := dlim_lim ((steepR r x).getD j 0 * g.den)
      simp -dsimp -implicitDefEqProofs (disch := (first | assumption | omega | (simp only [nats_len, List.length_map, List.length_set, List.length_replicate, List.length_append, List.length_range, upto_len, els_len, List.length_cons, List.length_nil] <;> omega) | (apply isPure_intro <;> simp))) only [go_sem, j3, hget]
      first | refine callB_of (r_of _ hv) (by simp) ?_ | refine callP_of (r_of _ hv) (by simp) ?_
      simp -dsimp -implicitDefEqProofs (disch := (first | assumption | omega | (simp only [nats_len, List.length_map, List.length_set, List.length_replicate, List.length_append, List.length_range, upto_len, els_len, List.length_cons, List.length_nil] <;> omega) | (apply isPure_intro <;> simp))) only [go_sem]
      first | refine callB_of (r_mul _ _ (by omega) (by omega)) (by simp) ?_ | refine callP_of (r_mul _ _ (by omega) (by omega)) (by simp) ?_
      simp -dsimp -implicitDefEqProofs (disch := (first | assumption | omega | (simp only [nats_len, List.length_map, List.length_set, List.length_replicate, List.length_append, List.length_range, upto_len, els_len, List.length_cons, List.length_nil] <;> omega) | (apply isPure_intro <;> simp))) only [go_sem]
      first | refine callB_of (r_add _ _ (by omega) (by omega)) (by simp) ?_ | refine callP_of (r_add _ _ (by omega) (by omega)) (by simp) ?_
      simp -dsimp -implicitDefEqProofs (disch := (first | assumption | omega | (simp only [nats_len, List.length_map, List.length_set, List.length_replicate, List.length_append, List.length_range, upto_len, els_len, List.length_cons, List.length_nil] <;> omega) | (apply isPure_intro <;> simp))) only [go_sem, j3, e3, hset]
      generalize hG : Hp.upd H2 id _ = G
      exact ⟨(j + 1, G, _), rfl, ⟨by dsimp only; omega, by dsimp only; omega, upd_at_same hG⟩, by dsimp only; omega⟩
    · have hje : g.n = j := by omega
      subst hje
      rw [midF_all] at j3
      simp -dsimp -implicitDefEqProofs (disch := (first | assumption | omega | (simp only [nats_len, List.length_map, List.length_set, List.length_replicate, List.length_append, List.length_range, upto_len, els_len, List.length_cons, List.length_nil] <;> omega) | (apply isPure_intro <;> simp))) only [go_sem]
      exact ⟨(i + 1, H2, _), rfl, ⟨by dsimp only; omega, by dsimp only; omega, j3⟩, by dsimp only; omega⟩
  · have hie : g.rows.length = i := by omega
    subst hie
    rw [show (List.range g.n).map (stS g x g.rows.length) = steepC g x from List.map_congr_left fun k _ => Int.add_comm _ _] at i3
    simp -dsimp -implicitDefEqProofs (disch := (first | assumption | omega | (simp only [nats_len, List.length_map, List.length_set, List.length_replicate, List.length_append, List.length_range, upto_len, els_len, List.length_cons, List.length_nil] <;> omega) | (apply isPure_intro <;> simp))) only [go_sem, i3]
    rw [frz_map fun x => frz_DV _ _ _]
    rfl
end Go.Gim

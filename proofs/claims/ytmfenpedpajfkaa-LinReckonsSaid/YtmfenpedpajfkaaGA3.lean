import Derived.Test.YtmfenpedpajfkaaGA2
/- Matrices: their products with lists, quadratic forms; whether two are the same. -/
set_option maxRecDepth 100000
set_option linter.unusedSimpArgs false
set_option linter.unusedVariables false
namespace Go.Gim
open Go.Proofs
def Sm (x : Int) : Prop := lim x ≤ 1000000
def SmL (l : List Int) : Prop := ∀ x ∈ l, Sm x
def SmM (m : List (List Int)) : Prop := ∀ r ∈ m, SmL r
theorem SmL.get {l : List Int} (h : SmL l) (i : Nat) : lim (l.getD i 0) ≤ 1000000 := by
  by_cases hi : i < l.length
  · exact h _ (getD_mem' 0 hi)
  · simp [List.getD_eq_getElem?_getD, List.getElem?_eq_none (Nat.le_of_not_lt hi), lim_zero]
theorem SmM.get {m : List (List Int)} (h : SmM m) (i j : Nat) : lim (at2 m i j) ≤ 1000000 := by
  unfold at2
  by_cases hi : i < m.length
  · exact SmL.get (h _ (getD_mem' [] hi)) j
  · simp [List.getD_eq_getElem?_getD, List.getElem?_eq_none (Nat.le_of_not_lt hi), lim_zero]
def applyAt (m : List (List Int)) (x : List Int) (n i : Nat) : Int := sumN (at2 m i) (fun k => x.getD k 0) n
theorem apply_ret (m : List (List Int)) (x : List Int) (n : Nat) (hn : n ≤ 1000) (hm : Sq m n) (hx : x.length = n) (sm : ∀ i j, lim (at2 m i j) ≤ 2000000) (sx : ∀ i, lim (x.getD i 0) ≤ 2000000) :
    Ret pg n_lin_Mat_Apply [.sl (m.map ivl), ivl x] (ivl ((List.range n).map (applyAt m x n))) := by
  have hl := hm.1
  have r0 : ∀ i k : Nat, i < n → k < n → Ret pg n_lin_Mat_Apply_1_1 [.int .i64 k, .pp (.sl (m.map ivl)), .pp (.int .i64 i), .pp (ivl x)] (.tup [IV (at2 m i k), IV (x.getD k 0)]) := fun i k hi hk => by
    have hr := hm.row hi
    refine lin_Mat_Apply_1_1.of rfl (W_b ?_)
    unfold lin_Mat_Apply_1_1.k lin_Mat_Apply_1_1.res
    simp -dsimp -implicitDefEqProofs (disch := (first | assumption | omega | (simp only [nats_len, List.length_map, List.length_set, List.length_replicate, List.length_append, List.length_range, upto_len, els_len, List.length_cons, List.length_nil] <;> omega) | (apply isPure_intro <;> simp))) only [go_sem]
    rfl
  have r1 : ∀ i : Nat, i < n → Ret pg n_lin_Mat_Apply_1 [.int .i64 i, .pp (.sl (m.map ivl)), .pp (ivl x)] (IV (applyAt m x n i)) := fun i hi => by
    refine lin_Mat_Apply_1.of rfl (W_b ?_)
    unfold lin_Mat_Apply_1.k lin_Mat_Apply_1.res
    simp -dsimp -implicitDefEqProofs (disch := (first | assumption | omega | (simp only [nats_len, List.length_map, List.length_set, List.length_replicate, List.length_append, List.length_range, upto_len, els_len, List.length_cons, List.length_nil] <;> omega) | (apply isPure_intro <;> simp))) only [go_sem, hl]
    refine callB_of (sum_ret n n_lin_Mat_Apply_1_1 _ (at2 m i) (fun k => x.getD k 0) (by omega) (by simp) (fun k => by have := sm i k; have := sx k; omega) fun k hk => r0 i k hi hk) (by simp) ?_
    simp -dsimp -implicitDefEqProofs (disch := (first | assumption | omega | (simp only [nats_len, List.length_map, List.length_set, List.length_replicate, List.length_append, List.length_range, upto_len, els_len, List.length_cons, List.length_nil] <;> omega) | (apply isPure_intro <;> simp))) only [go_sem]
    rfl
  refine lin_Mat_Apply.of rfl (W_b ?_)
  unfold lin_Mat_Apply.k lin_Mat_Apply.res
  simp -dsimp -implicitDefEqProofs (disch := (first | assumption | omega | (simp only [nats_len, List.length_map, List.length_set, List.length_replicate, List.length_append, List.length_range, upto_len, els_len, List.length_cons, List.length_nil] <;> omega) | (apply isPure_intro <;> simp))) only [go_sem, hl]
  refine callB_of (list_ret n n_lin_Mat_Apply_1 _ (applyAt m x n) (by omega) (by simp) r1) (by simp) ?_
  simp -dsimp -implicitDefEqProofs (disch := (first | assumption | omega | (simp only [nats_len, List.length_map, List.length_set, List.length_replicate, List.length_append, List.length_range, upto_len, els_len, List.length_cons, List.length_nil] <;> omega) | (apply isPure_intro <;> simp))) only [go_sem]
theorem applyAt_lim {m : List (List Int)} {x : List Int} {n i : Nat} {A B : Nat} (sm : ∀ i j, lim (at2 m i j) ≤ A) (sx : ∀ i, lim (x.getD i 0) ≤ B) : lim (applyAt m x n i) ≤ A + B + n :=
  sumN_lim (L := A + B) (fun k => by have := sm i k; have := sx k; omega) n
def quadV (m : List (List Int)) (x : List Int) (n : Nat) : Int := sumN (fun k => x.getD k 0) (applyAt m x n) n
theorem range_getD' {f : Nat → Int} {n : Nat} (i : Nat) : ((List.range n).map f).getD i 0 = if i < n then f i else 0 := by
  by_cases h : i < n
  · rw [if_pos h, range_getD 0 h]
  · rw [if_neg h]; simp [List.getD_eq_getElem?_getD, h]
theorem lquad_ret (m : List (List Int)) (x : List Int) (n : Nat) (hn : n ≤ 1000) (hm : Sq m n) (hx : x.length = n) (sm : ∀ i j, lim (at2 m i j) ≤ 1000000) (sx : ∀ i, lim (x.getD i 0) ≤ 1000000) :
    Ret pg n_lin_Mat_Quad [.sl (m.map ivl), ivl x] (IV (quadV m x n)) := by
  have hl := hm.1
  have r0 : ∀ k : Nat, k < n → Ret pg n_lin_Mat_Quad_1 [.int .i64 k, .pp (ivl x), .pp (ivl ((List.range n).map (applyAt m x n)))] (.tup [IV (x.getD k 0), IV (applyAt m x n k)]) := fun k hk => by
    have e := range_getD (f := applyAt m x n) 0 hk
    refine lin_Mat_Quad_1.of rfl (W_b ?_)
    unfold lin_Mat_Quad_1.k lin_Mat_Quad_1.res
    simp -dsimp -implicitDefEqProofs (disch := (first | assumption | omega | (simp only [nats_len, List.length_map, List.length_set, List.length_replicate, List.length_append, List.length_range, upto_len, els_len, List.length_cons, List.length_nil] <;> omega) | (apply isPure_intro <;> simp))) only [go_sem, e]
  refine lin_Mat_Quad.of rfl (W_b ?_)
  unfold lin_Mat_Quad.k lin_Mat_Quad.res
  simp -dsimp -implicitDefEqProofs (disch := (first | assumption | omega | (simp only [nats_len, List.length_map, List.length_set, List.length_replicate, List.length_append, List.length_range, upto_len, els_len, List.length_cons, List.length_nil] <;> omega) | (apply isPure_intro <;> simp))) only [go_sem]
  refine callB_of (apply_ret m x n hn hm hx (fun i j => by have := sm i j; omega) (fun i => by have := sx i; omega)) (by simp) ?_
  simp -dsimp -implicitDefEqProofs (disch := (first | assumption | omega | (simp only [nats_len, List.length_map, List.length_set, List.length_replicate, List.length_append, List.length_range, upto_len, els_len, List.length_cons, List.length_nil] <;> omega) | (apply isPure_intro <;> simp))) only [go_sem, hl]
  refine callB_fr1 5 [ivl ((List.range n).map (applyAt m x n))] (es := 1) rfl (by simp) (by simp [V.sub, fz1, sub_fn]) (sum_ret n n_lin_Mat_Quad_1 _ (fun k => x.getD k 0) (applyAt m x n) (by omega) (by simp) (fun k => by have := sx k; have := applyAt_lim (n := n) (i := k) sm sx; omega) r0) (by simp) ?_
  simp -dsimp -implicitDefEqProofs (disch := (first | assumption | omega | (simp only [nats_len, List.length_map, List.length_set, List.length_replicate, List.length_append, List.length_range, upto_len, els_len, List.length_cons, List.length_nil] <;> omega) | (apply isPure_intro <;> simp))) only [go_sem]
  rfl
end Go.Gim

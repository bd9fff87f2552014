/- The laws on graphs. -/
import Derived.Test.YtfonkhgndfjbfaaGW4
set_option maxRecDepth 100000
set_option maxHeartbeats 4000000
set_option linter.unusedSimpArgs false
set_option linter.unusedVariables false
namespace Go.Gim
open Go.Proofs
/-- What is known of a graph that was read. -/
structure Rd (n : Int) (rows : List Row4) (den : Int) (x : List Int) (m : Nat) : Prop where
  nm : n = m
  len : x.length = m
  lo : 1 ≤ m
  hi : m ≤ 11
  sixty : rows.length ≤ 60
  right : ∀ r ∈ rows, Right4 r x.length
  pos : 0 < den
  state : State x
  new : gnewE n rows = 0
  gr : ∀ prior, rdG n rows prior den x = ⟨m, rows, mirM prior m, List.replicate m 0, 0, den⟩
theorem rdB_ok {n : Int} {rows : List Row4} {den : Int} {x : List Int} (h : rdB n rows den x = true) : ∃ m : Nat, Rd n rows den x m := by
  have h' := h
  unfold rdB at h
  simp only [Bool.and_eq_true, decide_eq_true_eq] at h
  obtain ⟨⟨⟨h1, h2⟩, h3⟩, h4⟩ := h
  obtain ⟨hn, h60, hrt⟩ := gnewE_ok h1
  obtain ⟨m, rfl⟩ : ∃ m : Nat, n = m := ⟨n.toNat, by omega⟩
  refine ⟨m, rfl, by omega, by omega, by omega, h60, fun r hr => ?_, h2, stateB_iff.1 h4, h1, fun prior => by unfold rdG; rw [if_pos h', Int.toNat_natCast]⟩
  have := rightB_iff.1 (hrt r hr)
  rwa [show x.length = m by omega]
theorem mirM_lim {prior : List (List Int)} (hp : ∀ r ∈ prior, ∀ v ∈ r, In64 v) (m i j : Nat) : lim (at2 (mirM prior m) i j) ≤ 2 := lim_at_mat (fun i j => lim_i64 (at2_in hp _ _)) i j
theorem mirM_dlim {prior : List (List Int)} (hp : ∀ r ∈ prior, ∀ v ∈ r, In64 v) (m i j : Nat) : dlim (at2 (mirM prior m) i j) ≤ 20 := dlim_i64 (at2_in (mirM_in hp m) _ _)
/-- A graph with a prior of small numbers. -/
abbrev gOf (m : Nat) (rows : List Row4) (P : List (List Int)) (den : Int) : Gr := ⟨m, rows, P, List.replicate m 0, 0, den⟩
theorem gcurve {m : Nat} {rows : List Row4} {P : List (List Int)} {den : Int} {x : List Int} (hx : x.length = m) (hm : m ≤ 11) (h60 : rows.length ≤ 60) (hr : ∀ r ∈ rows, Right4 r x.length) (hs : State x) (hsq : Sq P m) (hP : ∀ i j, lim (at2 P i j) ≤ 2) (hd : lim den ≤ 2) :
    Ret pg n_graph_Graph_Curve [GV (gOf m rows P den), ints x] (.sl ((mat m (curveAt (gOf m rows P den) x)).map ivl)) :=
  curve_ret (gOf m rows P den) x hx.symm hm h60 hr hs hsq (fun i j => by have := hP i j; dsimp only; omega) (by dsimp only; omega)
theorem gcurve_lim {m : Nat} {rows : List Row4} {P : List (List Int)} {den : Int} {x : List Int} (h60 : rows.length ≤ 60) (hr : ∀ r ∈ rows, Right4 r x.length) (hP : ∀ i j, lim (at2 P i j) ≤ 2) (hd : lim den ≤ 2) (i j : Nat) : lim (curveAt (gOf m rows P den) x i j) ≤ 6 := by
  have hb := bendSum_bd (rows := rows) (sh := shares (gOf m rows P den) x) hr (shares_bd hr) i j rows.length
  have l1 := lim_i64 (x := bendSum rows (shares (gOf m rows P den) x) i j rows.length) (by omega)
  have l2 := lim_mul (bendSum rows (shares (gOf m rows P den) x) i j rows.length) den
  have l3 := lim_i64 (x := 1024) (by omega)
  have l4 := lim_mul (at2 P i j) 1024
  have l5 := lim_add (bendSum rows (shares (gOf m rows P den) x) i j rows.length * den) (at2 P i j * 1024)
  have l6 := hP i j
  show lim (bendSum rows (shares (gOf m rows P den) x) i j rows.length * den + at2 P i j * 1024) ≤ 6
  omega
theorem mat_mem {n : Nat} {f : Nat → Nat → Int} {r : List Int} (hr : r ∈ mat n f) {v : Int} (hv : v ∈ r) : ∃ i j, v = f i j := by
  simp only [mat, List.mem_map] at hr
  obtain ⟨i, _, rfl⟩ := hr
  simp only [List.mem_map] at hv
  obtain ⟨j, _, rfl⟩ := hv
  exact ⟨i, j, rfl⟩
theorem whole_mat {n : Nat} {f : Nat → Nat → Int} (hn : n ≤ 12) (h : ∀ i j, lim (f i j) ≤ 1000000) : Ret pg n_gimballaw17_whole [.sl ((mat n f).map ivl)] (.str (bst (wholeL (mat n f)))) :=
  whole_ret (mat n f) n hn (mat_sq n f) fun r hr v hv => by obtain ⟨i, j, rfl⟩ := mat_mem hr hv; exact h i j
theorem wholes_mat {n : Nat} {f : Nat → Nat → Int} (hn : n ≤ 12) (h : ∀ i j, lim (f i j) ≤ 100000) : Ret pg n_gimballaw17_wholes [.sl ((mat n f).map dvl)] (.str (bst (wholeL (mat n f)))) :=
  wholes_ret (mat n f) n hn (mat_sq n f) fun r hr v hv => by obtain ⟨i, j, rfl⟩ := mat_mem hr hv; have := h i j; have := dlim_lim (f i j); omega
/-- The parts of all rows. -/
def bendL (rows : List Row4) (x : List Int) (i j : Nat) : Int := rows.foldr (fun r s => bendAt r (r.w * shareR r x) i j + s) 0
theorem bendSum_take (m : Nat) (rows : List Row4) (P : List (List Int)) (den : Int) (x : List Int) (i j : Nat) : ∀ k, k ≤ rows.length → bendSum rows (shares (gOf m rows P den) x) i j k = bendL (rows.take k) x i j
  | 0, _ => by simp [bendSum, sumZ, bendL]
  | k + 1, hk => by
    have hlt : k < rows.length := by omega
    have ih := bendSum_take m rows P den x i j k (by omega)
    unfold bendSum at ih ⊢
    have happ : ∀ (l : List Row4) (r : Row4), bendL (l ++ [r]) x i j = bendL l x i j + bendAt r (r.w * shareR r x) i j := fun l r => by
      induction l with
      | nil => simp [bendL]
      | cons a l ih => simp only [bendL, List.cons_append, List.foldr_cons] at ih ⊢; rw [ih]; omega
    rw [sumZ, if_pos hlt, ih, take_getD default hlt, happ]
    congr 2
    simp [shares, List.getD_eq_getElem?_getD, hlt]
theorem bendL_app (a b : List Row4) (x : List Int) (i j : Nat) : bendL (a ++ b) x i j = bendL a x i j + bendL b x i j := by
  induction a with
  | nil => simp [bendL]
  | cons r a ih => simp only [bendL, List.cons_append, List.foldr_cons] at ih ⊢; rw [ih]; omega
theorem bendL_rev (rows : List Row4) (x : List Int) (i j : Nat) : bendL rows.reverse x i j = bendL rows x i j := by
  induction rows with
  | nil => rfl
  | cons r a ih => rw [List.reverse_cons, bendL_app, ih]; simp only [bendL, List.foldr_cons, List.foldr_nil]; omega
theorem bendSum_all (m : Nat) (rows : List Row4) (P : List (List Int)) (den : Int) (x : List Int) (i j : Nat) : bendSum rows (shares (gOf m rows P den) x) i j rows.length = bendL rows x i j := by
  rw [bendSum_take m rows P den x i j rows.length (Nat.le_refl _), List.take_length]
theorem GraphMakes_true (n : Int) (rows : List Row4) (hl : rows.length ≤ 9223372036854775807) (hr : ∀ r ∈ rows, r.co.length ≤ 9223372036854775807) : Ret pg n_gimballaw17_GraphMakes [.int .i64 n, .sl (rows.map RV)] (.bool true) := by
  refine gimballaw17_GraphMakes.of rfl (W_b ?_)
  unfold gimballaw17_GraphMakes.k gimballaw17_GraphMakes.res
  simp -dsimp -implicitDefEqProofs (disch := (first | assumption | omega | (simp only [nats_len, List.length_map, List.length_set, List.length_replicate, List.length_append, List.length_range, upto_len, els_len, List.length_cons, List.length_nil] <;> omega) | (apply isPure_intro <;> simp))) only [go_sem]
  refine callB_of awake17_ret (by simp) ?_
  simp -dsimp -implicitDefEqProofs (disch := (first | assumption | omega | (simp only [nats_len, List.length_map, List.length_set, List.length_replicate, List.length_append, List.length_range, upto_len, els_len, List.length_cons, List.length_nil] <;> omega) | (apply isPure_intro <;> simp))) only [go_sem]
  refine callB_of (gnew_ret n rows hl hr) (by simp) ?_
  simp -dsimp -implicitDefEqProofs (disch := (first | assumption | omega | (simp only [nats_len, List.length_map, List.length_set, List.length_replicate, List.length_append, List.length_range, upto_len, els_len, List.length_cons, List.length_nil] <;> omega) | (apply isPure_intro <;> simp))) only [go_sem]
  refine callB_of (rnew_ret n rows hl hr) (by simp) ?_
  by_cases h0 : gnewE n rows = 0
  · obtain ⟨hn, h60, _⟩ := gnewE_ok h0
    obtain ⟨m, rfl⟩ : ∃ m : Nat, n = m := ⟨n.toNat, by omega⟩
    have hmat := mat_sq m fun _ _ => 0
    have hml := hmat.1
    simp -dsimp -implicitDefEqProofs (disch := (first | assumption | omega | (simp only [nats_len, List.length_map, List.length_set, List.length_replicate, List.length_append, List.length_range, upto_len, els_len, List.length_cons, List.length_nil] <;> omega) | (apply isPure_intro <;> simp))) only [go_sem, h0, hml]
    refine W_loopG (T := Nat × Hp × Nat) (fun t => ⟨E [(0, .int .i64 m), (1, .sl (rows.map RV)), (5, .bool true), (6, .ptr 9 1 0 0), (10, .int .i64 t.1)], t.2.1, t.2.2, t.2.2⟩)
      (fun t => t.1 ≤ rows.length ∧ 9 < t.2.2 ∧ t.2.1 9 = some ⟨[GV ⟨m, rows, mat m fun _ _ => 0, List.replicate m 0, 0, 1⟩], 8⟩) (fun t => rows.length - t.1) (0, _, _) (Ghost.refl _) ⟨by dsimp only; omega, by dsimp only; omega, rfl⟩ ?_
    rintro ⟨i, H, nx⟩ ⟨i1, i2, i3⟩
    dsimp only at i1 i2 i3
    by_cases hi : i < rows.length
    · have hm := getD_mem' default hi
      have hrl := hr _ hm
      generalize hX : rows.getD i default = r at *
      simp -dsimp -implicitDefEqProofs (disch := (first | assumption | omega | (simp only [nats_len, List.length_map, List.length_set, List.length_replicate, List.length_append, List.length_range, upto_len, els_len, List.length_cons, List.length_nil] <;> omega) | (apply isPure_intro <;> simp))) only [go_sem, i3, hX]
      first | refine callB_of (rsame_ret r r hrl hrl) (by simp) ?_ | refine callP_of (rsame_ret r r hrl hrl) (by simp) ?_
      simp -dsimp -implicitDefEqProofs (disch := (first | assumption | omega | (simp only [nats_len, List.length_map, List.length_set, List.length_replicate, List.length_append, List.length_range, upto_len, els_len, List.length_cons, List.length_nil] <;> omega) | (apply isPure_intro <;> simp))) only [go_sem]
      exact ⟨(i + 1, H, _), Ghost.refl _, ⟨by dsimp only; omega, by dsimp only; omega, i3⟩, by dsimp only; omega⟩
    · simp -dsimp -implicitDefEqProofs (disch := (first | assumption | omega | (simp only [nats_len, List.length_map, List.length_set, List.length_replicate, List.length_append, List.length_range, upto_len, els_len, List.length_cons, List.length_nil] <;> omega) | (apply isPure_intro <;> simp))) only [go_sem, i3]
      first | refine callB_of (of_ret 1 (by omega)) (by simp) ?_ | refine callP_of (of_ret 1 (by omega)) (by simp) ?_
      simp -dsimp -implicitDefEqProofs (disch := (first | assumption | omega | (simp only [nats_len, List.length_map, List.length_set, List.length_replicate, List.length_append, List.length_range, upto_len, els_len, List.length_cons, List.length_nil] <;> omega) | (apply isPure_intro <;> simp))) only [go_sem]
      have l1 := lim_i64 (x := 1) (by omega)
      have l0 := lim_zero
      first | refine callB_of (icmp_ret 1 1 (by omega) (by omega)) (by simp) ?_ | refine callP_of (icmp_ret 1 1 (by omega) (by omega)) (by simp) ?_
      simp -dsimp -implicitDefEqProofs (disch := (first | assumption | omega | (simp only [nats_len, List.length_map, List.length_set, List.length_replicate, List.length_append, List.length_range, upto_len, els_len, List.length_cons, List.length_nil] <;> omega) | (apply isPure_intro <;> simp))) only [go_sem, i3]
      first | refine callB_of (sign_ret 0 (by omega)) (by simp) ?_ | refine callP_of (sign_ret 0 (by omega)) (by simp) ?_
      have hs0 : Int.sign 0 = 0 := rfl
      have hs1 : (1 - 1 : Int).sign = 0 := by decide
      simp -dsimp -implicitDefEqProofs (disch := (first | assumption | omega | (simp only [nats_len, List.length_map, List.length_set, List.length_replicate, List.length_append, List.length_range, upto_len, els_len, List.length_cons, List.length_nil] <;> omega) | (apply isPure_intro <;> simp))) only [go_sem, hs0, hs1]
      refine W_loop (T := Nat × Nat) (fun t => ⟨E [(0, .int .i64 m), (5, .bool true), (6, .ptr 9 1 0 0), (12, .int .i64 0), (13, .int .i64 0), (14, .int .i64 t.1)], H, t.2, t.2⟩) (fun t => t.1 ≤ m ∧ 9 < t.2) (fun t => m - t.1) (0, _) rfl ⟨by dsimp only; omega, by dsimp only; omega⟩ ?_
      rintro ⟨k, nx2⟩ ⟨k1, k2⟩
      dsimp only at k1 k2
      by_cases hk : k < m
      · have hq0 : (List.replicate m (0 : Int)).getD k 0 = 0 := by rw [List.getD_eq_getElem?_getD, List.getElem?_replicate, if_pos hk]; rfl
        have hPr := hmat.row hk
        simp -dsimp -implicitDefEqProofs (disch := (first | assumption | omega | (simp only [nats_len, List.length_map, List.length_set, List.length_replicate, List.length_append, List.length_range, upto_len, els_len, List.length_cons, List.length_nil] <;> omega) | (apply isPure_intro <;> simp))) only [go_sem, i3, hq0]
        first | refine callB_of (sign_ret 0 (by omega)) (by simp) ?_ | refine callP_of (sign_ret 0 (by omega)) (by simp) ?_
        simp -dsimp -implicitDefEqProofs (disch := (first | assumption | omega | (simp only [nats_len, List.length_map, List.length_set, List.length_replicate, List.length_append, List.length_range, upto_len, els_len, List.length_cons, List.length_nil] <;> omega) | (apply isPure_intro <;> simp))) only [go_sem, i3, hs0, hPr]
        refine W_loop (T := Nat × Nat) (fun t => ⟨E [(0, .int .i64 m), (5, .bool true), (6, .ptr 9 1 0 0), (12, .int .i64 0), (13, .int .i64 0), (14, .int .i64 k), (16, .int .i64 t.1)], H, t.2, t.2⟩) (fun t => t.1 ≤ m ∧ 9 < t.2) (fun t => m - t.1) (0, _) rfl ⟨by dsimp only; omega, by dsimp only; omega⟩ ?_
        rintro ⟨j, nx3⟩ ⟨j1, j2⟩
        dsimp only at j1 j2
        by_cases hj : j < m
        · have hp0 : ((mat m fun _ _ => (0 : Int)).getD k []).getD j 0 = 0 := mat_at hk hj
          simp -dsimp -implicitDefEqProofs (disch := (first | assumption | omega | (simp only [nats_len, List.length_map, List.length_set, List.length_replicate, List.length_append, List.length_range, upto_len, els_len, List.length_cons, List.length_nil] <;> omega) | (apply isPure_intro <;> simp))) only [go_sem, i3, hp0, hPr]
          first | refine callB_of (sign_ret 0 (by omega)) (by simp) ?_ | refine callP_of (sign_ret 0 (by omega)) (by simp) ?_
          simp -dsimp -implicitDefEqProofs (disch := (first | assumption | omega | (simp only [nats_len, List.length_map, List.length_set, List.length_replicate, List.length_append, List.length_range, upto_len, els_len, List.length_cons, List.length_nil] <;> omega) | (apply isPure_intro <;> simp))) only [go_sem, hs0]
          exact ⟨(j + 1, _), rfl, ⟨by dsimp only; omega, by dsimp only; omega⟩, by dsimp only; omega⟩
        · simp -dsimp -implicitDefEqProofs (disch := (first | assumption | omega | (simp only [nats_len, List.length_map, List.length_set, List.length_replicate, List.length_append, List.length_range, upto_len, els_len, List.length_cons, List.length_nil] <;> omega) | (apply isPure_intro <;> simp))) only [go_sem]
          exact ⟨(k + 1, _), rfl, ⟨by dsimp only; omega, by dsimp only; omega⟩, by dsimp only; omega⟩
      · simp -dsimp -implicitDefEqProofs (disch := (first | assumption | omega | (simp only [nats_len, List.length_map, List.length_set, List.length_replicate, List.length_append, List.length_range, upto_len, els_len, List.length_cons, List.length_nil] <;> omega) | (apply isPure_intro <;> simp))) only [go_sem, i3]
  · rw [if_neg h0, Gr0_eq, DGr0_eq]
    simp -dsimp -implicitDefEqProofs (disch := (first | assumption | omega | (simp only [nats_len, List.length_map, List.length_set, List.length_replicate, List.length_append, List.length_range, upto_len, els_len, List.length_cons, List.length_nil] <;> omega) | (apply isPure_intro <;> simp))) only [go_sem]
theorem GraphCurves_true (n den : Int) (rows : List Row4) (prior : List (List Int)) (x : List Int) (hl : rows.length ≤ 9223372036854775807) (hr : ∀ r ∈ rows, r.co.length ≤ 9223372036854775807) (hpl : prior.length ≤ 9223372036854775807) (hp : ∀ r ∈ prior, r.length ≤ 9223372036854775807 ∧ ∀ v ∈ r, In64 v) (hx : x.length ≤ 9223372036854775807) (hd : In64 den) :
    Ret pg n_gimballaw17_GraphCurves [.int .i64 n, .sl (rows.map RV), .sl (prior.map ints), .int .i64 den, ints x] (.bool true) := by
  refine gimballaw17_GraphCurves.of rfl (W_b ?_)
  unfold gimballaw17_GraphCurves.k gimballaw17_GraphCurves.res
  simp -dsimp -implicitDefEqProofs (disch := (first | assumption | omega | (simp only [nats_len, List.length_map, List.length_set, List.length_replicate, List.length_append, List.length_range, upto_len, els_len, List.length_cons, List.length_nil] <;> omega) | (apply isPure_intro <;> simp))) only [go_sem]
  refine callB_of awake17_ret (by simp) ?_
  simp -dsimp -implicitDefEqProofs (disch := (first | assumption | omega | (simp only [nats_len, List.length_map, List.length_set, List.length_replicate, List.length_append, List.length_range, upto_len, els_len, List.length_cons, List.length_nil] <;> omega) | (apply isPure_intro <;> simp))) only [go_sem]
  refine callB_of (read17_ret n den rows prior x hl hr hpl hp hx hd) (by simp) ?_
  cases hb : rdB n rows den x
  · simp -dsimp -implicitDefEqProofs (disch := (first | assumption | omega | (simp only [nats_len, List.length_map, List.length_set, List.length_replicate, List.length_append, List.length_range, upto_len, els_len, List.length_cons, List.length_nil] <;> omega) | (apply isPure_intro <;> simp))) only [go_sem]
  · obtain ⟨m, hm⟩ := rdB_ok hb
    obtain ⟨rfl, hxm, hlo, hhi, h60, hrt, hdp, hst, hnew, hg⟩ := hm
    have hpp := fun r h => (hp r h).2
    have hdl := lim_i64 hd
    have hddl := dlim_i64 hd
    rw [hg]
    simp -dsimp -implicitDefEqProofs (disch := (first | assumption | omega | (simp only [nats_len, List.length_map, List.length_set, List.length_replicate, List.length_append, List.length_range, upto_len, els_len, List.length_cons, List.length_nil] <;> omega) | (apply isPure_intro <;> simp))) only [go_sem]
    refine W_loopG (T := Nat × Hp × Nat) (fun t => ⟨E [(1, .sl (rows.map RV)), (4, ints x), (11, .bool true), (12, .ptr 13 1 0 0), (13, .ptr 14 1 0 0), (15, .int .i64 t.1)], t.2.1, t.2.2, t.2.2⟩)
      (fun t => t.1 ≤ rows.length ∧ 14 < t.2.2 ∧ t.2.1 13 = some ⟨[GV (gOf m rows (mirM prior m) den)], 8⟩ ∧ t.2.1 14 = some ⟨[DGV (gOf m rows (mirM prior m) den)], 8⟩) (fun t => rows.length - t.1) (0, _, _) (Ghost.refl _) ⟨by dsimp only; omega, by dsimp only; omega, rfl, rfl⟩ ?_
    rintro ⟨i, H, nx⟩ ⟨i1, i2, i3, i4⟩
    dsimp only at i1 i2 i3 i4
    by_cases hi : i < rows.length
    · have hri := hrt _ (getD_mem' default hi)
      simp -dsimp -implicitDefEqProofs (disch := (first | assumption | omega | (simp only [nats_len, List.length_map, List.length_set, List.length_replicate, List.length_append, List.length_range, upto_len, els_len, List.length_cons, List.length_nil] <;> omega) | (apply isPure_intro <;> simp))) only [go_sem, i3]
      first | refine callB_of (share_ret _ _ x hri hst) (by simp) ?_ | refine callP_of (share_ret _ _ x hri hst) (by simp) ?_
      simp -dsimp -implicitDefEqProofs (disch := (first | assumption | omega | (simp only [nats_len, List.length_map, List.length_set, List.length_replicate, List.length_append, List.length_range, upto_len, els_len, List.length_cons, List.length_nil] <;> omega) | (apply isPure_intro <;> simp))) only [go_sem]
      first | refine callB_of (rshare_ret _ x hri hst) (by simp) ?_ | refine callP_of (rshare_ret _ x hri hst) (by simp) ?_
      simp -dsimp -implicitDefEqProofs (disch := (first | assumption | omega | (simp only [nats_len, List.length_map, List.length_set, List.length_replicate, List.length_append, List.length_range, upto_len, els_len, List.length_cons, List.length_nil] <;> omega) | (apply isPure_intro <;> simp))) only [go_sem]
      exact ⟨(i + 1, H, _), Ghost.refl _, ⟨by dsimp only; omega, by dsimp only; omega, i3, i4⟩, by dsimp only; omega⟩
    · simp -dsimp -implicitDefEqProofs (disch := (first | assumption | omega | (simp only [nats_len, List.length_map, List.length_set, List.length_replicate, List.length_append, List.length_range, upto_len, els_len, List.length_cons, List.length_nil] <;> omega) | (apply isPure_intro <;> simp))) only [go_sem, i3]
      refine callB_of (gcurve hxm hhi h60 hrt hst (mirM_sq _ _) (mirM_lim hpp m) hdl) (by simp) ?_
      simp -dsimp -implicitDefEqProofs (disch := (first | assumption | omega | (simp only [nats_len, List.length_map, List.length_set, List.length_replicate, List.length_append, List.length_range, upto_len, els_len, List.length_cons, List.length_nil] <;> omega) | (apply isPure_intro <;> simp))) only [go_sem]
      have hcl := gcurve_lim (m := m) h60 hrt (mirM_lim hpp m) hdl
      refine callB_of (whole_mat (by omega) fun i j => by have := hcl i j; omega) (by simp) ?_
      simp -dsimp -implicitDefEqProofs (disch := (first | assumption | omega | (simp only [nats_len, List.length_map, List.length_set, List.length_replicate, List.length_append, List.length_range, upto_len, els_len, List.length_cons, List.length_nil] <;> omega) | (apply isPure_intro <;> simp))) only [go_sem, i4]
      refine callB_of (rcurve_ret (gOf m rows (mirM prior m) den) x hxm.symm hhi h60 hrt hst (mirM_sq _ _) (fun i j => by have := mirM_dlim hpp m i j; dsimp only; omega) (by dsimp only; omega)) (by simp) ?_
      simp -dsimp -implicitDefEqProofs (disch := (first | assumption | omega | (simp only [nats_len, List.length_map, List.length_set, List.length_replicate, List.length_append, List.length_range, upto_len, els_len, List.length_cons, List.length_nil] <;> omega) | (apply isPure_intro <;> simp))) only [go_sem]
      refine callB_of (wholes_mat (by omega) fun i j => by have := hcl i j; omega) (by simp) ?_
      simp -dsimp -implicitDefEqProofs (disch := (first | assumption | omega | (simp only [nats_len, List.length_map, List.length_set, List.length_replicate, List.length_append, List.length_range, upto_len, els_len, List.length_cons, List.length_nil] <;> omega) | (apply isPure_intro <;> simp))) only [go_sem, strV_same]
theorem GraphOrder_true (n : Int) (rows : List Row4) (x : List Int) (hl : rows.length ≤ 9223372036854775807) (hr : ∀ r ∈ rows, r.co.length ≤ 9223372036854775807) (hx : x.length ≤ 9223372036854775807) :
    Ret pg n_gimballaw17_GraphOrder [.int .i64 n, .sl (rows.map RV), ints x] (.bool true) := by
  refine gimballaw17_GraphOrder.of rfl (W_b ?_)
  unfold gimballaw17_GraphOrder.k gimballaw17_GraphOrder.res
  simp -dsimp -implicitDefEqProofs (disch := (first | assumption | omega | (simp only [nats_len, List.length_map, List.length_set, List.length_replicate, List.length_append, List.length_range, upto_len, els_len, List.length_cons, List.length_nil] <;> omega) | (apply isPure_intro <;> simp))) only [go_sem]
  refine callB_of awake17_ret (by simp) ?_
  simp -dsimp -implicitDefEqProofs (disch := (first | assumption | omega | (simp only [nats_len, List.length_map, List.length_set, List.length_replicate, List.length_append, List.length_range, upto_len, els_len, List.length_cons, List.length_nil] <;> omega) | (apply isPure_intro <;> simp))) only [go_sem]
  have hrd := (read17_ret n 1 rows [] x hl hr (by decide) (by decide) hx (by decide)).nn (args := [.int .i64 n, .sl (rows.map RV), .nil, .int .i64 1, ints x]) rfl
  refine callB_of hrd (by simp) ?_
  cases hb : rdB n rows 1 x
  · simp -dsimp -implicitDefEqProofs (disch := (first | assumption | omega | (simp only [nats_len, List.length_map, List.length_set, List.length_replicate, List.length_append, List.length_range, upto_len, els_len, List.length_cons, List.length_nil] <;> omega) | (apply isPure_intro <;> simp))) only [go_sem]
  · obtain ⟨m, hm⟩ := rdB_ok hb
    obtain ⟨rfl, hxm, hlo, hhi, h60, hrt, hdp, hst, hnew, hg⟩ := hm
    rw [hg]
    simp -dsimp -implicitDefEqProofs (disch := (first | assumption | omega | (simp only [nats_len, List.length_map, List.length_set, List.length_replicate, List.length_append, List.length_range, upto_len, els_len, List.length_cons, List.length_nil] <;> omega) | (apply isPure_intro <;> simp))) only [go_sem]
    refine W_loop (T := Nat × V × Hp × Nat) (fun t => ⟨E [(0, .int .i64 m), (1, .sl (rows.map RV)), (2, ints x), (7, .bool true), (8, .ptr 11 1 0 0), (11, t.2.1), (12, .int .i64 ((rows.length : Int) - 1 - t.1))], t.2.2.1, t.2.2.2, t.2.2.2⟩)
      (fun t => t.1 ≤ rows.length ∧ 12 < t.2.2.2 ∧ t.2.2.1 11 = some ⟨[GV (gOf m rows (mirM [] m) 1)], 8⟩ ∧ Row 13 t.2.2.1 t.2.2.2 t.2.1 4 ((rows.reverse.take t.1).map RV)) (fun t => rows.length - t.1) (0, .nil, _, _) (by simp <;> exact ⟨rfl, rfl⟩) ⟨by dsimp only; omega, by dsimp only; omega, rfl, Row.nil _ _ _ _⟩ ?_
    rintro ⟨i, w, H, nx⟩ ⟨i1, i2, i3, i4⟩
    dsimp only at i1 i2 i3 i4
    by_cases hi : i < rows.length
    · have e1 : (rows.length : Int) - 1 - (i : Int) = ((rows.length - 1 - i : Nat) : Int) := by omega
      have hrev : rows.getD (rows.length - 1 - i) default = rows.reverse.getD i default := by simp [List.getD_eq_getElem?_getD, List.getElem?_reverse hi]
      have ht := take_getD (l := rows.reverse) (i := i) default (by simpa using hi)
      rw [← hrev] at ht
      generalize hX : rows.getD (rows.length - 1 - i) default = r at *
      simp -dsimp -implicitDefEqProofs (disch := (first | assumption | omega | (simp only [nats_len, List.length_map, List.length_set, List.length_replicate, List.length_append, List.length_range, upto_len, els_len, List.length_cons, List.length_nil] <;> omega) | (apply isPure_intro <;> simp))) only [go_sem, e1]
      refine W_gh0 ?_
      simp -dsimp -implicitDefEqProofs (disch := (first | assumption | omega | (simp only [nats_len, List.length_map, List.length_set, List.length_replicate, List.length_append, List.length_range, upto_len, els_len, List.length_cons, List.length_nil] <;> omega) | (apply isPure_intro <;> simp))) only [go_sem, hX]
      refine effB_row (lo := 13) (nx := nx) (H0 := H) (xs := (rows.reverse.take i).map RV) i4 (by omega) rfl (by omega) (by omega) (by simp [rowOk, V.cells, V.cellOk, RV, ints]) (by decide) (by simp; omega) (by simp; omega) fun v2 H2 r1 _ _ r4 => ?_
      rw [map_app, ← ht] at r1
      simp -dsimp -implicitDefEqProofs (disch := (first | assumption | omega | (simp only [nats_len, List.length_map, List.length_set, List.length_replicate, List.length_append, List.length_range, upto_len, els_len, List.length_cons, List.length_nil] <;> omega) | (apply isPure_intro <;> simp))) only [go_sem]
      exact ⟨(i + 1, v2, H2, _), by dsimp only; rw [show (((rows.length - 1 - i : Nat) : Int) - 1) = ((rows.length - 1 : Nat) : Int) - ((i + 1 : Nat) : Int) by omega], ⟨by dsimp only; omega, by dsimp only; omega, (r4 11 (by omega)).trans i3, r1.same (fun _ _ => rfl) (by dsimp only; omega)⟩, by dsimp only; omega⟩
    · have hie : i = rows.length := by omega
      subst hie
      have e1 : (rows.length : Int) - 1 - (rows.length : Int) = -1 := by omega
      rw [List.take_of_length_le (by simp)] at i4
      have hrl : ∀ r ∈ rows.reverse, r.co.length ≤ 9223372036854775807 := fun r h => hr r (List.mem_reverse.1 h)
      have hn2 := gnew_ret m rows.reverse (by rw [List.length_reverse]; exact hl) hrl
      have he0 : gnewE m rows.reverse = 0 := by
        obtain ⟨_, _, h3⟩ := gnewE_ok hnew
        unfold gnewE
        rw [if_neg (by omega), if_neg (by rw [List.length_reverse]; omega), if_neg]
        simp only [List.any_eq_true, not_exists, not_and]
        exact fun r h => by simp [h3 r (List.mem_reverse.1 h)]
      rw [he0, if_pos rfl, Int.toNat_natCast] at hn2
      have hrt2 : ∀ r ∈ rows.reverse, Right4 r x.length := fun r h => hrt r (List.mem_reverse.1 h)
      have hl1 := lim_i64 (x := 1) (by omega)
      have hmm : mirM [] m = mat m fun _ _ => 0 := mat_congr fun i j _ _ => by simp [at2]
      have hc1 := gcurve (P := mirM [] m) (den := 1) hxm hhi h60 hrt hst (mirM_sq _ _) (mirM_lim (by simp) m) hl1
      have hc2 := gcurve (P := mat m fun _ _ => 0) (den := 1) hxm hhi (by rw [List.length_reverse]; exact h60) hrt2 hst (mat_sq _ _) (lim_at_mat fun i j => by rw [lim_zero]; omega) hl1
      have hcl := gcurve_lim (m := m) h60 hrt (mirM_lim (prior := []) (by simp) m) hl1
      have hcl2 := gcurve_lim (m := m) (P := mat m fun _ _ => 0) (den := 1) (by rw [List.length_reverse]; exact h60) hrt2 (lim_at_mat fun i j => by rw [lim_zero]; omega) hl1
      have heq : mat m (curveAt (gOf m rows.reverse (mat m fun _ _ => 0) 1) x) = mat m (curveAt (gOf m rows (mirM [] m) 1) x) := by
        rw [hmm]
        exact mat_congr fun i j _ _ => by
          unfold curveAt
          dsimp only
          rw [bendSum_all, bendSum_all, bendL_rev]
      rcases i4 with ⟨rfl, h0⟩ | ⟨c, rfl, c1, c2, c3⟩
      · have h0 : rows.reverse = [] := List.map_eq_nil_iff.1 h0
        rw [h0] at hn2 hc2 hcl2 heq
        simp -dsimp -implicitDefEqProofs (disch := (first | assumption | omega | (simp only [nats_len, List.length_map, List.length_set, List.length_replicate, List.length_append, List.length_range, upto_len, els_len, List.length_cons, List.length_nil] <;> omega) | (apply isPure_intro <;> simp))) only [go_sem, e1]
        refine callB_of (hn2.nn rfl) (by simp) ?_
        simp -dsimp -implicitDefEqProofs (disch := (first | assumption | omega | (simp only [nats_len, List.length_map, List.length_set, List.length_replicate, List.length_append, List.length_range, upto_len, els_len, List.length_cons, List.length_nil] <;> omega) | (apply isPure_intro <;> simp))) only [go_sem, i3]
        first | refine callB_of (hc1) (by simp) ?_ | refine callP_of (hc1) (by simp) ?_
        simp -dsimp -implicitDefEqProofs (disch := (first | assumption | omega | (simp only [nats_len, List.length_map, List.length_set, List.length_replicate, List.length_append, List.length_range, upto_len, els_len, List.length_cons, List.length_nil] <;> omega) | (apply isPure_intro <;> simp))) only [go_sem]
        first | refine callB_of (whole_mat (by omega) fun i j => by have := hcl i j; omega) (by simp) ?_ | refine callP_of (whole_mat (by omega) fun i j => by have := hcl i j; omega) (by simp) ?_
        simp -dsimp -implicitDefEqProofs (disch := (first | assumption | omega | (simp only [nats_len, List.length_map, List.length_set, List.length_replicate, List.length_append, List.length_range, upto_len, els_len, List.length_cons, List.length_nil] <;> omega) | (apply isPure_intro <;> simp))) only [go_sem]
        first | refine callB_of (hc2) (by simp) ?_ | refine callP_of (hc2) (by simp) ?_
        simp -dsimp -implicitDefEqProofs (disch := (first | assumption | omega | (simp only [nats_len, List.length_map, List.length_set, List.length_replicate, List.length_append, List.length_range, upto_len, els_len, List.length_cons, List.length_nil] <;> omega) | (apply isPure_intro <;> simp))) only [go_sem]
        first | refine callB_of (whole_mat (by omega) fun i j => by have := hcl2 i j; omega) (by simp) ?_ | refine callP_of (whole_mat (by omega) fun i j => by have := hcl2 i j; omega) (by simp) ?_
        rw [heq]
        simp -dsimp -implicitDefEqProofs (disch := (first | assumption | omega | (simp only [nats_len, List.length_map, List.length_set, List.length_replicate, List.length_append, List.length_range, upto_len, els_len, List.length_cons, List.length_nil] <;> omega) | (apply isPure_intro <;> simp))) only [go_sem, strV_same]
      · simp -dsimp -implicitDefEqProofs (disch := (first | assumption | omega | (simp only [nats_len, List.length_map, List.length_set, List.length_replicate, List.length_append, List.length_range, upto_len, els_len, List.length_cons, List.length_nil] <;> omega) | (apply isPure_intro <;> simp))) only [go_sem, e1]
        have hc11 : (11 : Nat) ≠ c := by omega
        have i3' : Hp.sub (fz1 c (rows.reverse.map RV)) H 11 = some ⟨[GV (gOf m rows (mirM [] m) 1)], 8⟩ := sub_at (fz1_ne hc11) i3 (by simp -dsimp -implicitDefEqProofs (disch := (first | assumption | omega | (simp only [nats_len, List.length_map, List.length_set, List.length_replicate, List.length_append, List.length_range, upto_len, els_len, List.length_cons, List.length_nil] <;> omega) | (apply isPure_intro <;> simp))) only [go_sem] <;> rfl)
        refine callB_frE (fz1 c (rows.reverse.map RV)) (fz1_ok c3 (pure_map fun x => by simp)) (by simp -dsimp -implicitDefEqProofs (disch := (first | assumption | omega | (simp only [nats_len, List.length_map, List.length_set, List.length_replicate, List.length_append, List.length_range, upto_len, els_len, List.length_cons, List.length_nil] <;> omega) | (apply isPure_intro <;> simp))) only [go_sem]) hn2 (by simp) ?_
        have h11c : (11 = c) = False := by simp; omega
        simp -dsimp -implicitDefEqProofs (disch := (first | assumption | omega | (simp only [nats_len, List.length_map, List.length_set, List.length_replicate, List.length_append, List.length_range, upto_len, els_len, List.length_cons, List.length_nil] <;> omega) | (apply isPure_intro <;> simp))) only [go_sem, i3', h11c]
        first | refine callB_of (hc1) (by simp) ?_ | refine callP_of (hc1) (by simp) ?_
        simp -dsimp -implicitDefEqProofs (disch := (first | assumption | omega | (simp only [nats_len, List.length_map, List.length_set, List.length_replicate, List.length_append, List.length_range, upto_len, els_len, List.length_cons, List.length_nil] <;> omega) | (apply isPure_intro <;> simp))) only [go_sem]
        first | refine callB_of (whole_mat (by omega) fun i j => by have := hcl i j; omega) (by simp) ?_ | refine callP_of (whole_mat (by omega) fun i j => by have := hcl i j; omega) (by simp) ?_
        simp -dsimp -implicitDefEqProofs (disch := (first | assumption | omega | (simp only [nats_len, List.length_map, List.length_set, List.length_replicate, List.length_append, List.length_range, upto_len, els_len, List.length_cons, List.length_nil] <;> omega) | (apply isPure_intro <;> simp))) only [go_sem]
        first | refine callB_of (hc2) (by simp) ?_ | refine callP_of (hc2) (by simp) ?_
        simp -dsimp -implicitDefEqProofs (disch := (first | assumption | omega | (simp only [nats_len, List.length_map, List.length_set, List.length_replicate, List.length_append, List.length_range, upto_len, els_len, List.length_cons, List.length_nil] <;> omega) | (apply isPure_intro <;> simp))) only [go_sem]
        first | refine callB_of (whole_mat (by omega) fun i j => by have := hcl2 i j; omega) (by simp) ?_ | refine callP_of (whole_mat (by omega) fun i j => by have := hcl2 i j; omega) (by simp) ?_
        rw [heq]
        simp -dsimp -implicitDefEqProofs (disch := (first | assumption | omega | (simp only [nats_len, List.length_map, List.length_set, List.length_replicate, List.length_append, List.length_range, upto_len, els_len, List.length_cons, List.length_nil] <;> omega) | (apply isPure_intro <;> simp))) only [go_sem, strV_same]
theorem GraphPrior_true (n den : Int) (rows : List Row4) (prior : List (List Int)) (x : List Int) (hl : rows.length ≤ 9223372036854775807) (hr : ∀ r ∈ rows, r.co.length ≤ 9223372036854775807) (hpl : prior.length ≤ 9223372036854775807) (hp : ∀ r ∈ prior, r.length ≤ 9223372036854775807 ∧ ∀ v ∈ r, In64 v) (hx : x.length ≤ 9223372036854775807) (hd : In64 den) :
    Ret pg n_gimballaw17_GraphPrior [.int .i64 n, .sl (rows.map RV), .sl (prior.map ints), .int .i64 den, ints x] (.bool true) := by
  refine gimballaw17_GraphPrior.of rfl (W_b ?_)
  unfold gimballaw17_GraphPrior.k gimballaw17_GraphPrior.res
  simp -dsimp -implicitDefEqProofs (disch := (first | assumption | omega | (simp only [nats_len, List.length_map, List.length_set, List.length_replicate, List.length_append, List.length_range, upto_len, els_len, List.length_cons, List.length_nil] <;> omega) | (apply isPure_intro <;> simp))) only [go_sem]
  refine callB_of awake17_ret (by simp) ?_
  simp -dsimp -implicitDefEqProofs (disch := (first | assumption | omega | (simp only [nats_len, List.length_map, List.length_set, List.length_replicate, List.length_append, List.length_range, upto_len, els_len, List.length_cons, List.length_nil] <;> omega) | (apply isPure_intro <;> simp))) only [go_sem]
  refine callB_of (read17_ret n den rows prior x hl hr hpl hp hx hd) (by simp) ?_
  simp -dsimp -implicitDefEqProofs (disch := (first | assumption | omega | (simp only [nats_len, List.length_map, List.length_set, List.length_replicate, List.length_append, List.length_range, upto_len, els_len, List.length_cons, List.length_nil] <;> omega) | (apply isPure_intro <;> simp))) only [go_sem]
  refine callB_of (gnew_ret n rows hl hr) (by simp) ?_
  cases hb : rdB n rows den x
  · simp -dsimp -implicitDefEqProofs (disch := (first | assumption | omega | (simp only [nats_len, List.length_map, List.length_set, List.length_replicate, List.length_append, List.length_range, upto_len, els_len, List.length_cons, List.length_nil] <;> omega) | (apply isPure_intro <;> simp))) only [go_sem]
  · obtain ⟨m, hm⟩ := rdB_ok hb
    obtain ⟨rfl, hxm, hlo, hhi, h60, hrt, hdp, hst, hnew, hg⟩ := hm
    have hpp := fun r h => (hp r h).2
    have hdl := lim_i64 hd
    have hl1 := lim_i64 (x := 1) (by omega)
    have hc1 := gcurve hxm hhi h60 hrt hst (mirM_sq prior _) (mirM_lim hpp m) hdl
    have hc2 := gcurve (P := mat m fun _ _ => 0) (den := 1) hxm hhi h60 hrt hst (mat_sq _ _) (lim_at_mat fun i j => by rw [lim_zero]; omega) hl1
    have hcl := gcurve_lim (m := m) h60 hrt (mirM_lim hpp m) hdl
    have hcl2 := gcurve_lim (m := m) (P := mat m fun _ _ => 0) (den := 1) h60 hrt (lim_at_mat fun i j => by rw [lim_zero]; omega) hl1
    have ml1 := (mirM_sq prior m).1
    have ml2 := (mat_sq m (curveAt (gOf m rows (mirM prior m) den) x)).1
    have ml3 := (mat_sq m (curveAt (gOf m rows (mat m fun _ _ => 0) 1) x)).1
    rw [hg]
    simp -dsimp -implicitDefEqProofs (disch := (first | assumption | omega | (simp only [nats_len, List.length_map, List.length_set, List.length_replicate, List.length_append, List.length_range, upto_len, els_len, List.length_cons, List.length_nil] <;> omega) | (apply isPure_intro <;> simp))) only [go_sem, hnew]
    first | refine callB_of (hc1) (by simp) ?_ | refine callP_of (hc1) (by simp) ?_
    simp -dsimp -implicitDefEqProofs (disch := (first | assumption | omega | (simp only [nats_len, List.length_map, List.length_set, List.length_replicate, List.length_append, List.length_range, upto_len, els_len, List.length_cons, List.length_nil] <;> omega) | (apply isPure_intro <;> simp))) only [go_sem]
    first | refine callB_of (hc2) (by simp) ?_ | refine callP_of (hc2) (by simp) ?_
    simp -dsimp -implicitDefEqProofs (disch := (first | assumption | omega | (simp only [nats_len, List.length_map, List.length_set, List.length_replicate, List.length_append, List.length_range, upto_len, els_len, List.length_cons, List.length_nil] <;> omega) | (apply isPure_intro <;> simp))) only [go_sem, ml1, ml2, ml3]
    generalize hHH : Hp.upd _ 24 _ = HH
    have q13 : HH 13 = some ⟨[GV (gOf m rows (mirM prior m) den)], 8⟩ := by rw [← hHH]; rfl
    clear hHH
    refine W_loop (T := Nat × Nat) (fun t => ⟨E [(0, .int .i64 m), (3, .int .i64 den), (11, .bool true), (12, .ptr 13 1 0 0), (17, .sl ((mat m (curveAt (gOf m rows (mirM prior m) den) x)).map ivl)), (18, .sl ((mat m (curveAt (gOf m rows (mat m fun _ _ => 0) 1) x)).map ivl)), (19, .int .i64 t.1)], HH, t.2, t.2⟩) (fun t => t.1 ≤ m ∧ 24 < t.2) (fun t => m - t.1) (0, _) rfl ⟨by dsimp only; omega, by dsimp only; omega⟩ ?_
    rintro ⟨i, nx⟩ ⟨i1, i2⟩
    dsimp only at i1 i2
    by_cases hi : i < m
    · have mr1 := (mirM_sq prior m).row hi
      have mr2 := (mat_sq m (curveAt (gOf m rows (mirM prior m) den) x)).row hi
      have mr3 := (mat_sq m (curveAt (gOf m rows (mat m fun _ _ => 0) 1) x)).row hi
      simp -dsimp -implicitDefEqProofs (disch := (first | assumption | omega | (simp only [nats_len, List.length_map, List.length_set, List.length_replicate, List.length_append, List.length_range, upto_len, els_len, List.length_cons, List.length_nil] <;> omega) | (apply isPure_intro <;> simp))) only [go_sem, q13, ml1, ml2, ml3, mr1, mr2, mr3]
      refine W_loop (T := Nat × Nat) (fun t => ⟨E [(0, .int .i64 m), (3, .int .i64 den), (11, .bool true), (12, .ptr 13 1 0 0), (17, .sl ((mat m (curveAt (gOf m rows (mirM prior m) den) x)).map ivl)), (18, .sl ((mat m (curveAt (gOf m rows (mat m fun _ _ => 0) 1) x)).map ivl)), (19, .int .i64 i), (20, .int .i64 t.1)], HH, t.2, t.2⟩) (fun t => t.1 ≤ m ∧ 24 < t.2) (fun t => m - t.1) (0, _) rfl ⟨by dsimp only; omega, by dsimp only; omega⟩ ?_
      rintro ⟨j, nx'⟩ ⟨j1, j2⟩
      dsimp only at j1 j2
      by_cases hj : j < m
      · have e1 : ((mirM prior m).getD i []).getD j 0 = at2 (mirM prior m) i j := rfl
        have e2 : ((mat m (curveAt (gOf m rows (mirM prior m) den) x)).getD i []).getD j 0 = curveAt (gOf m rows (mirM prior m) den) x i j := mat_at hi hj
        have e3 : ((mat m (curveAt (gOf m rows (mat m fun _ _ => 0) 1) x)).getD i []).getD j 0 = curveAt (gOf m rows (mat m fun _ _ => 0) 1) x i j := mat_at hi hj
        have b1 := hcl i j
        have b2 := hcl2 i j
        have b3 := mirM_lim hpp m i j
        have z0 : at2 (mat m fun _ _ => 0) i j = 0 := mat_at hi hj
        have f2 : curveAt (gOf m rows (mirM prior m) den) x i j = bendL rows x i j * den + at2 (mirM prior m) i j * 1024 := by unfold curveAt; dsimp only; rw [bendSum_all]
        have f3 : curveAt (gOf m rows (mat m fun _ _ => 0) 1) x i j = bendL rows x i j := by unfold curveAt; dsimp only; rw [bendSum_all, z0]; omega
        have l3 := lim_mul (curveAt (gOf m rows (mat m fun _ _ => 0) 1) x i j) den
        have l4 := lim_i64 (x := 1024) (by omega)
        have l5 := lim_mul (at2 (mirM prior m) i j) 1024
        have l6 := lim_add (curveAt (gOf m rows (mat m fun _ _ => 0) 1) x i j * den) (at2 (mirM prior m) i j * 1024)
        simp -dsimp -implicitDefEqProofs (disch := (first | assumption | omega | (simp only [nats_len, List.length_map, List.length_set, List.length_replicate, List.length_append, List.length_range, upto_len, els_len, List.length_cons, List.length_nil] <;> omega) | (apply isPure_intro <;> simp))) only [go_sem, e1, e2, e3]
        first | refine callB_of (of_ret den hd) (by simp) ?_ | refine callP_of (of_ret den hd) (by simp) ?_
        simp -dsimp -implicitDefEqProofs (disch := (first | assumption | omega | (simp only [nats_len, List.length_map, List.length_set, List.length_replicate, List.length_append, List.length_range, upto_len, els_len, List.length_cons, List.length_nil] <;> omega) | (apply isPure_intro <;> simp))) only [go_sem]
        first | refine callB_of (mul_ret _ _ (by omega) (by omega)) (by simp) ?_ | refine callP_of (mul_ret _ _ (by omega) (by omega)) (by simp) ?_
        simp -dsimp -implicitDefEqProofs (disch := (first | assumption | omega | (simp only [nats_len, List.length_map, List.length_set, List.length_replicate, List.length_append, List.length_range, upto_len, els_len, List.length_cons, List.length_nil] <;> omega) | (apply isPure_intro <;> simp))) only [go_sem, q13, ml1, mr1, e1]
        first | refine callB_of (of_ret 1024 (by omega)) (by simp) ?_ | refine callP_of (of_ret 1024 (by omega)) (by simp) ?_
        simp -dsimp -implicitDefEqProofs (disch := (first | assumption | omega | (simp only [nats_len, List.length_map, List.length_set, List.length_replicate, List.length_append, List.length_range, upto_len, els_len, List.length_cons, List.length_nil] <;> omega) | (apply isPure_intro <;> simp))) only [go_sem]
        first | refine callB_of (mul_ret _ _ (by omega) (by omega)) (by simp) ?_ | refine callP_of (mul_ret _ _ (by omega) (by omega)) (by simp) ?_
        simp -dsimp -implicitDefEqProofs (disch := (first | assumption | omega | (simp only [nats_len, List.length_map, List.length_set, List.length_replicate, List.length_append, List.length_range, upto_len, els_len, List.length_cons, List.length_nil] <;> omega) | (apply isPure_intro <;> simp))) only [go_sem]
        first | refine callB_of (add_ret _ _ (by omega) (by omega)) (by simp) ?_ | refine callP_of (add_ret _ _ (by omega) (by omega)) (by simp) ?_
        simp -dsimp -implicitDefEqProofs (disch := (first | assumption | omega | (simp only [nats_len, List.length_map, List.length_set, List.length_replicate, List.length_append, List.length_range, upto_len, els_len, List.length_cons, List.length_nil] <;> omega) | (apply isPure_intro <;> simp))) only [go_sem, ml2, mr2, e2]
        first | refine callB_of (icmp_ret _ _ (by omega) (by omega)) (by simp) ?_ | refine callP_of (icmp_ret _ _ (by omega) (by omega)) (by simp) ?_
        have hs : (curveAt (gOf m rows (mat m fun _ _ => 0) 1) x i j * den + at2 (mirM prior m) i j * 1024 - curveAt (gOf m rows (mirM prior m) den) x i j).sign = 0 := by rw [f2, f3, Int.sub_self]; rfl
        simp -dsimp -implicitDefEqProofs (disch := (first | assumption | omega | (simp only [nats_len, List.length_map, List.length_set, List.length_replicate, List.length_append, List.length_range, upto_len, els_len, List.length_cons, List.length_nil] <;> omega) | (apply isPure_intro <;> simp))) only [go_sem, hs]
        exact ⟨(j + 1, _), rfl, ⟨by dsimp only; omega, by dsimp only; omega⟩, by dsimp only; omega⟩
      · simp -dsimp -implicitDefEqProofs (disch := (first | assumption | omega | (simp only [nats_len, List.length_map, List.length_set, List.length_replicate, List.length_append, List.length_range, upto_len, els_len, List.length_cons, List.length_nil] <;> omega) | (apply isPure_intro <;> simp))) only [go_sem]
        exact ⟨(i + 1, _), rfl, ⟨by dsimp only; omega, by dsimp only; omega⟩, by dsimp only; omega⟩
    · simp -dsimp -implicitDefEqProofs (disch := (first | assumption | omega | (simp only [nats_len, List.length_map, List.length_set, List.length_replicate, List.length_append, List.length_range, upto_len, els_len, List.length_cons, List.length_nil] <;> omega) | (apply isPure_intro <;> simp))) only [go_sem]
end Go.Gim

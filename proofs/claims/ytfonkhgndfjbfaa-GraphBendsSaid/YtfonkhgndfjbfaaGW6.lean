/- The law that costs bend upward. -/
import Derived.Test.YtfonkhgndfjbfaaGW5
set_option maxRecDepth 100000
set_option maxHeartbeats 4000000
set_option linter.unusedSimpArgs false
set_option linter.unusedVariables false
namespace Go.Gim
open Go.Proofs
theorem sumZ_add (f g : Nat → Int) : ∀ n, sumZ (fun k => f k + g k) n = sumZ f n + sumZ g n
  | 0 => rfl
  | n + 1 => by rw [sumZ, sumZ, sumZ, sumZ_add f g n]; omega
theorem sumZ_mul (f : Nat → Int) (c : Int) : ∀ n, sumZ (fun k => c * f k) n = c * sumZ f n
  | 0 => by simp [sumZ]
  | n + 1 => by rw [sumZ, sumZ, sumZ_mul f c n, Int.mul_add]
theorem sumZ_mulr (f : Nat → Int) (c : Int) (n : Nat) : sumZ (fun k => f k * c) n = sumZ f n * c := by
  rw [Int.mul_comm, ← sumZ_mul]; exact sumZ_congr fun k _ => Int.mul_comm _ _
theorem sumN_Z (f p : Nat → Int) : ∀ n, sumN f p n = sumZ (fun k => f k * p k) n
  | 0 => rfl
  | n + 1 => by rw [sumN, sumZ, sumN_Z f p n]
theorem dotN_Z (a x : List Int) : ∀ n, dotN a x n = sumZ (fun k => a.getD k 0 * x.getD k 0) n
  | 0 => rfl
  | n + 1 => by rw [dotN, sumZ, dotN_Z a x n]
/-- The quadratic form of a matrix by its places. -/
def qf (f : Nat → Nat → Int) (y : List Int) (n : Nat) : Int := sumZ (fun i => y.getD i 0 * sumZ (fun j => f i j * y.getD j 0) n) n
theorem qf_congr {f g : Nat → Nat → Int} {y : List Int} {n : Nat} (h : ∀ i j, i < n → j < n → f i j = g i j) : qf f y n = qf g y n :=
  sumZ_congr fun i hi => by rw [sumZ_congr fun j hj => by rw [h i j hi hj]]
theorem quadV_qf (P : List (List Int)) (y : List Int) (n : Nat) : quadV P y n = qf (at2 P) y n := by
  unfold quadV qf applyAt
  rw [sumN_Z]
  exact sumZ_congr fun i _ => by rw [sumN_Z]
theorem quadV_mat (f : Nat → Nat → Int) (y : List Int) (n : Nat) : quadV (mat n f) y n = qf f y n := by
  rw [quadV_qf]; exact qf_congr fun i j hi hj => mat_at hi hj
theorem qf_add (f g : Nat → Nat → Int) (y : List Int) (n : Nat) : qf (fun i j => f i j + g i j) y n = qf f y n + qf g y n := by
  unfold qf
  rw [← sumZ_add]
  refine sumZ_congr fun i _ => ?_
  rw [← Int.mul_add, ← sumZ_add]
  congr 1
  exact sumZ_congr fun j _ => Int.add_mul _ _ _
theorem qf_mul (f : Nat → Nat → Int) (c : Int) (y : List Int) (n : Nat) : qf (fun i j => f i j * c) y n = qf f y n * c := by
  unfold qf
  rw [← sumZ_mulr]
  refine sumZ_congr fun i _ => ?_
  rw [Int.mul_assoc, ← sumZ_mulr]
  congr 1
  exact sumZ_congr fun j _ => by rw [Int.mul_assoc, Int.mul_comm c, Int.mul_assoc]
theorem qf_zero (y : List Int) (n : Nat) : qf (fun _ _ => 0) y n = 0 := by
  have h : ∀ n, sumZ (fun _ => 0) n = 0 := fun n => by induction n with | zero => rfl | succ n ih => rw [sumZ, ih]; rfl
  unfold qf
  have e : (fun i => y.getD i 0 * sumZ (fun j => 0 * y.getD j 0) n) = fun _ => 0 := by
    funext i
    have : (fun j => 0 * y.getD j 0) = fun _ => (0 : Int) := by funext j; simp
    rw [this, h]; simp
  rw [e, h]
theorem qf_bend (r : Row4) (s : Int) (y : List Int) (n : Nat) : qf (bendAt r s) y n = dotN r.co y n * dotN r.co y n * s := by
  have h1 : ∀ i, sumZ (fun j => bendAt r s i j * y.getD j 0) n = s * r.co.getD i 0 * dotN r.co y n := fun i => by
    rw [dotN_Z, ← sumZ_mul]
    exact sumZ_congr fun j _ => by unfold bendAt; rw [Int.mul_assoc]
  unfold qf
  have e : ∀ i, y.getD i 0 * sumZ (fun j => bendAt r s i j * y.getD j 0) n = (dotN r.co y n * s) * (r.co.getD i 0 * y.getD i 0) := fun i => by
    rw [h1]
    generalize y.getD i 0 = a
    generalize r.co.getD i 0 = b
    generalize dotN r.co y n = c
    rw [show a * (s * b * c) = c * s * (b * a) by rw [Int.mul_comm a, Int.mul_comm s b, Int.mul_assoc b, Int.mul_comm b, Int.mul_assoc, Int.mul_comm s c]]
  rw [sumZ_congr fun i _ => e i, sumZ_mul, ← dotN_Z, Int.mul_assoc, Int.mul_comm s]
  rw [Int.mul_assoc]
/-- The squares of all rows. -/
def enL (rows : List Row4) (x y : List Int) (n : Nat) : Int := rows.foldr (fun r s => dotN r.co y n * dotN r.co y n * (r.w * shareR r x) + s) 0
theorem qf_bendL (rows : List Row4) (x y : List Int) (n : Nat) : qf (bendL rows x) y n = enL rows x y n := by
  induction rows with
  | nil => exact qf_zero y n
  | cons r a ih =>
    have e : bendL (r :: a) x = fun i j => bendAt r (r.w * shareR r x) i j + bendL a x i j := rfl
    rw [e, qf_add, qf_bend, ih]
    rfl
theorem enL_app (a b : List Row4) (x y : List Int) (n : Nat) : enL (a ++ b) x y n = enL a x y n + enL b x y n := by
  induction a with
  | nil => simp [enL]
  | cons r a ih => simp only [enL, List.cons_append, List.foldr_cons] at ih ⊢; rw [ih]; omega
theorem enL_pos {rows : List Row4} {x y : List Int} {n : Nat} (hr : ∀ r ∈ rows, Right4 r x.length) : 0 ≤ enL rows x y n := by
  induction rows with
  | nil => simp [enL]
  | cons r a ih =>
    have h1 := ih fun r h => hr r (List.mem_cons_of_mem _ h)
    have h2 := hr r List.mem_cons_self
    have h3 := shareR_bd (x := x) h2.kn
    have h4 : 0 ≤ dotN r.co y n * dotN r.co y n := by rcases Int.le_total 0 (dotN r.co y n) with h | h; exact Int.mul_nonneg h h; exact Int.mul_nonneg_of_nonpos_of_nonpos h h
    have h5 := Int.mul_nonneg h4 (Int.mul_nonneg (show 0 ≤ r.w by have := h2.w; omega) (show 0 ≤ shareR r x by omega))
    simp only [enL, List.foldr_cons] at h1 ⊢
    omega
theorem bend_eq {m : Nat} {rows : List Row4} {P : List (List Int)} {den : Int} {x y : List Int} : quadV (mat m (curveAt (gOf m rows P den) x)) y m = enL rows x y m * den + quadV P y m * 1024 := by
  rw [quadV_mat]
  have e : curveAt (gOf m rows P den) x = fun i j => bendL rows x i j * den + at2 P i j * 1024 := by
    funext i j; unfold curveAt; dsimp only; rw [bendSum_all]
  rw [e, qf_add, qf_mul, qf_mul, qf_bendL, ← quadV_qf]
theorem getD_in {l : List Int} (h : ∀ v ∈ l, In64 v) (n : Nat) : In64 (l.getD n 0) := by
  by_cases hn : n < l.length
  · exact h _ (getD_mem' 0 hn)
  · rw [List.getD_eq_getElem?_getD, List.getElem?_eq_none (by omega)]; decide
theorem co_in {r : Row4} {n : Nat} (h : Right4 r n) : ∀ v ∈ r.co, In64 v := fun v hv => by have := h.co v hv; exact ⟨by omega, by omega⟩
theorem ws_in {r : Row4} {x : List Int} (h : Right4 r x.length) : In64 (r.w * shareR r x) := by
  have h1 := shareR_bd (x := x) h.kn
  have h2 := h.w
  have h3 := prod_bd (a := r.w) (b := shareR r x) (A := 100) (B := 1024) (by omega) (by omega)
  exact ⟨by omega, by omega⟩
theorem dot_lim {co y : List Int} (hc : ∀ v ∈ co, In64 v) (hy : ∀ v ∈ y, In64 v) : ∀ n, lim (dotN co y n) ≤ 4 + n
  | 0 => by have := lim_zero; simp only [dotN]; omega
  | n + 1 => by
    have h1 := dot_lim hc hy n
    have h2 := lim_i64 (getD_in hc n)
    have h3 := lim_i64 (getD_in hy n)
    have h4 := lim_mul (co.getD n 0) (y.getD n 0)
    have h5 := lim_add (dotN co y n) (co.getD n 0 * y.getD n 0)
    simp only [dotN]
    omega
theorem en_lim {r : Row4} {x y : List Int} {m : Nat} (hm : m ≤ 11) (hr : Right4 r x.length) (hy : ∀ v ∈ y, In64 v) : lim (dotN r.co y m * dotN r.co y m * (r.w * shareR r x)) ≤ 40 := by
  have h1 := dot_lim (co_in hr) hy m
  have h2 := shareR_bd (x := x) hr.kn
  have h3 := lim_i64 (x := r.w * shareR r x) (ws_in hr)
  have h4 := lim_mul (dotN r.co y m) (dotN r.co y m)
  have h5 := lim_mul (dotN r.co y m * dotN r.co y m) (r.w * shareR r x)
  omega
theorem enL_lim {rows : List Row4} {x y : List Int} {m : Nat} (hm : m ≤ 11) (hr : ∀ r ∈ rows, Right4 r x.length) (hy : ∀ v ∈ y, In64 v) : lim (enL rows x y m) ≤ 40 + rows.length := by
  induction rows with
  | nil => have := lim_zero; simp only [enL, List.foldr_nil]; omega
  | cons r a ih =>
    have h1 := ih fun r h => hr r (List.mem_cons_of_mem _ h)
    have h2 := en_lim hm (hr r List.mem_cons_self) hy
    have h3 := lim_add (dotN r.co y m * dotN r.co y m * (r.w * shareR r x)) (enL a x y m)
    simp only [enL, List.foldr_cons, List.length_cons] at h1 h3 ⊢
    omega
theorem quad_lim {P : List (List Int)} {y : List Int} {n : Nat} (hP : ∀ i j, lim (at2 P i j) ≤ 2) (hy : ∀ v ∈ y, In64 v) : lim (quadV P y n) ≤ 10 + 2 * n := by
  have hyl := fun i => lim_i64 (getD_in hy i)
  have h1 : ∀ i, lim (applyAt P y n i) ≤ 4 + n := fun i => sumN_lim (fun k => by have := hP i k; have := hyl k; omega) n
  have := sumN_lim (f := fun k => y.getD k 0) (p := applyAt P y n) (L := 6 + n) (fun k => by have := h1 k; have := hyl k; omega) n
  unfold quadV
  omega
theorem bendL_sym (rows : List Row4) (x : List Int) (i j : Nat) : bendL rows x i j = bendL rows x j i := by
  induction rows with
  | nil => rfl
  | cons r a ih =>
    have e : bendAt r (r.w * shareR r x) i j = bendAt r (r.w * shareR r x) j i := by unfold bendAt; generalize r.w * shareR r x = s; rw [Int.mul_assoc, Int.mul_comm (r.co.getD i 0), ← Int.mul_assoc]
    simp only [bendL, List.foldr_cons] at ih ⊢
    rw [ih, e]
theorem curve_sym {m : Nat} {rows : List Row4} {prior : List (List Int)} {den : Int} {x : List Int} {a b : Nat} (ha : a < m) (hb : b < m) : curveAt (gOf m rows (mirM prior m) den) x a b = curveAt (gOf m rows (mirM prior m) den) x b a := by
  have e1 : at2 (mirM prior m) a b = at2 (mirM prior m) b a := by
    rw [show at2 (mirM prior m) a b = _ from mat_at ha hb, show at2 (mirM prior m) b a = _ from mat_at hb ha, Nat.max_comm, Nat.min_comm]
  unfold curveAt
  dsimp only
  rw [bendSum_all, bendSum_all, bendL_sym, e1]
theorem GraphBends_true (n den : Int) (rows : List Row4) (prior : List (List Int)) (x y : List Int) (hl : rows.length ≤ 9223372036854775807) (hr : ∀ r ∈ rows, r.co.length ≤ 9223372036854775807) (hpl : prior.length ≤ 9223372036854775807) (hp : ∀ r ∈ prior, r.length ≤ 9223372036854775807 ∧ ∀ v ∈ r, In64 v) (hx : x.length ≤ 9223372036854775807) (hd : In64 den) (hy : y.length ≤ 9223372036854775807) (hyv : ∀ v ∈ y, In64 v) :
    Ret pg n_gimballaw17_GraphBends [.int .i64 n, .sl (rows.map RV), .sl (prior.map ints), .int .i64 den, ints x, ints y] (.bool true) := by
  refine gimballaw17_GraphBends.of rfl (W_b ?_)
  unfold gimballaw17_GraphBends.k gimballaw17_GraphBends.res
  simp -dsimp -implicitDefEqProofs (disch := (first | assumption | omega | (simp only [nats_len, List.length_map, List.length_set, List.length_replicate, List.length_append, List.length_range, upto_len, els_len, List.length_cons, List.length_nil] <;> omega) | (apply isPure_intro <;> simp))) only [go_sem]
  refine callB_of awake17_ret (by simp) ?_
  simp -dsimp -implicitDefEqProofs (disch := (first | assumption | omega | (simp only [nats_len, List.length_map, List.length_set, List.length_replicate, List.length_append, List.length_range, upto_len, els_len, List.length_cons, List.length_nil] <;> omega) | (apply isPure_intro <;> simp))) only [go_sem]
  refine callB_of (read17_ret n den rows prior x hl hr hpl hp hx hd) (by simp) ?_
  cases hb : rdB n rows den x
  · simp -dsimp -implicitDefEqProofs (disch := (first | assumption | omega | (simp only [nats_len, List.length_map, List.length_set, List.length_replicate, List.length_append, List.length_range, upto_len, els_len, List.length_cons, List.length_nil] <;> omega) | (apply isPure_intro <;> simp))) only [go_sem]
  · obtain ⟨m, hm⟩ := rdB_ok hb
    obtain ⟨rfl, hxm, hlo, hhi, h60, hrt, hdp, hst, hnew, hg⟩ := hm
    have hpp := fun r h => (hp r h).2
    have hdl := lim_i64 hd
    rw [hg]
    by_cases hym : y.length = m
    · have hc1 := gcurve hxm hhi h60 hrt hst (mirM_sq prior _) (mirM_lim hpp m) hdl
      have hcl := gcurve_lim (m := m) h60 hrt (mirM_lim hpp m) hdl
      simp -dsimp -implicitDefEqProofs (disch := (first | assumption | omega | (simp only [nats_len, List.length_map, List.length_set, List.length_replicate, List.length_append, List.length_range, upto_len, els_len, List.length_cons, List.length_nil] <;> omega) | (apply isPure_intro <;> simp))) only [go_sem, hym]
      refine W_loop (T := Nat × V × Hp × Nat) (fun t => ⟨E [(0, .int .i64 m), (1, .sl (rows.map RV)), (3, .int .i64 den), (4, ints x), (5, ints y), (13, .bool true), (14, .ptr 13 1 0 0), (17, t.2.1), (18, .int .i64 t.1)], t.2.2.1, t.2.2.2, t.2.2.2⟩)
        (fun t => t.1 ≤ m ∧ 14 < t.2.2.2 ∧ t.2.2.1 13 = some ⟨[GV (gOf m rows (mirM prior m) den)], 8⟩ ∧ Row 15 t.2.2.1 t.2.2.2 t.2.1 2 ((y.take t.1).map IV)) (fun t => m - t.1) (0, .nil, _, _) rfl ⟨by dsimp only; omega, by dsimp only; omega, rfl, Row.nil _ _ _ _⟩ ?_
      rintro ⟨i, w, H, nx⟩ ⟨i1, i2, i3, i4⟩
      dsimp only at i1 i2 i3 i4
      by_cases hi : i < m
      · have hyi := hyv _ (getD_mem' 0 (show i < y.length by omega))
        have ht := take_getD (l := y) (i := i) 0 (by omega)
        generalize hX : y.getD i 0 = e at *
        simp -dsimp -implicitDefEqProofs (disch := (first | assumption | omega | (simp only [nats_len, List.length_map, List.length_set, List.length_replicate, List.length_append, List.length_range, upto_len, els_len, List.length_cons, List.length_nil] <;> omega) | (apply isPure_intro <;> simp))) only [go_sem, hX]
        first | refine callB_of (of_ret e hyi) (by simp) ?_ | refine callP_of (of_ret e hyi) (by simp) ?_
        simp -dsimp -implicitDefEqProofs (disch := (first | assumption | omega | (simp only [nats_len, List.length_map, List.length_set, List.length_replicate, List.length_append, List.length_range, upto_len, els_len, List.length_cons, List.length_nil] <;> omega) | (apply isPure_intro <;> simp))) only [go_sem]
        refine effB_row (lo := 15) (nx := nx) (H0 := H) (xs := (y.take i).map IV) i4 (by omega) rfl (by omega) (by omega) (by simp [rowOk, V.cells, V.cellOk, IV]) (by decide) (by simp; omega) (by simp; omega) fun v2 H2 r1 _ _ r4 => ?_
        rw [map_app, ← ht] at r1
        simp -dsimp -implicitDefEqProofs (disch := (first | assumption | omega | (simp only [nats_len, List.length_map, List.length_set, List.length_replicate, List.length_append, List.length_range, upto_len, els_len, List.length_cons, List.length_nil] <;> omega) | (apply isPure_intro <;> simp))) only [go_sem]
        exact ⟨(i + 1, v2, H2, _), rfl, ⟨by dsimp only; omega, by dsimp only; omega, (r4 13 (by omega)).trans i3, r1.same (fun _ _ => rfl) (by dsimp only; omega)⟩, by dsimp only; omega⟩
      · have hie : i = m := by omega
        subst hie
        rw [List.take_of_length_le (by omega)] at i4
        have hsym : mat i (fun a b => at2 (mat i (curveAt (gOf i rows (mirM prior i) den) x)) b a) = mat i (curveAt (gOf i rows (mirM prior i) den) x) := mat_congr fun a b ha hb => by
          rw [mat_at hb ha]; exact curve_sym hb ha
        obtain ⟨c, rfl, c1, c2, c3⟩ := i4.own_of (by simp; omega)
        have hc13 : (13 : Nat) ≠ c := by omega
        have hyl : (y.map IV).length = i := by simp [hym]
        rw [hyl]
        clear i4
        simp -dsimp -implicitDefEqProofs (disch := (first | assumption | omega | (simp only [nats_len, List.length_map, List.length_set, List.length_replicate, List.length_append, List.length_range, upto_len, els_len, List.length_cons, List.length_nil] <;> omega) | (apply isPure_intro <;> simp))) only [go_sem, i3]
        first | refine callB_of (hc1) (by simp) ?_ | refine callP_of (hc1) (by simp) ?_
        simp -dsimp -implicitDefEqProofs (disch := (first | assumption | omega | (simp only [nats_len, List.length_map, List.length_set, List.length_replicate, List.length_append, List.length_range, upto_len, els_len, List.length_cons, List.length_nil] <;> omega) | (apply isPure_intro <;> simp))) only [go_sem]
        first | refine callB_of (turned_ret _ i (by omega) (mat_sq _ _)) (by simp) ?_ | refine callP_of (turned_ret _ i (by omega) (mat_sq _ _)) (by simp) ?_
        rw [hsym]
        simp -dsimp -implicitDefEqProofs (disch := (first | assumption | omega | (simp only [nats_len, List.length_map, List.length_set, List.length_replicate, List.length_append, List.length_range, upto_len, els_len, List.length_cons, List.length_nil] <;> omega) | (apply isPure_intro <;> simp))) only [go_sem]
        first | refine callB_of (whole_mat (by omega) fun i j => by have := hcl i j; omega) (by simp) ?_ | refine callP_of (whole_mat (by omega) fun i j => by have := hcl i j; omega) (by simp) ?_
        simp -dsimp -implicitDefEqProofs (disch := (first | assumption | omega | (simp only [nats_len, List.length_map, List.length_set, List.length_replicate, List.length_append, List.length_range, upto_len, els_len, List.length_cons, List.length_nil] <;> omega) | (apply isPure_intro <;> simp))) only [go_sem]
        generalize hG : Hp.upd H (nx + 12) _ = G
        have g13 : G 13 = some ⟨[GV (gOf i rows (mirM prior i) den)], 8⟩ := by rw [← hG, Hp.upd_ne _ _ (by omega)]; exact i3
        have gc : G c = some ⟨y.map IV, 2⟩ := by rw [← hG, Hp.upd_ne _ _ (by omega)]; exact c3
        have gb : G (nx + 12) = some ⟨[IV 0], 2⟩ := by rw [← hG, Hp.upd_same, IV_zero]
        clear hG
        have h13c : (13 = c) = False := by simp; omega
        have t13 : Hp.sub (fz1 c (y.map IV)) G 13 = some ⟨[GV (gOf i rows (mirM prior i) den)], 8⟩ := sub_at (fz1_ne hc13) g13 (by simp -dsimp -implicitDefEqProofs (disch := (first | assumption | omega | (simp only [nats_len, List.length_map, List.length_set, List.length_replicate, List.length_append, List.length_range, upto_len, els_len, List.length_cons, List.length_nil] <;> omega) | (apply isPure_intro <;> simp))) only [go_sem] <;> rfl)
        have tb : Hp.sub (fz1 c (y.map IV)) G (nx + 12) = some ⟨[IV 0], 2⟩ := sub_at (fz1_ne (by omega)) gb (by simp -dsimp -implicitDefEqProofs (disch := (first | assumption | omega | (simp only [nats_len, List.length_map, List.length_set, List.length_replicate, List.length_append, List.length_range, upto_len, els_len, List.length_cons, List.length_nil] <;> omega) | (apply isPure_intro <;> simp))) only [go_sem] <;> rfl)
        refine W_loopG (T := Nat × Hp × Nat) (fun t => ⟨E [(0, .int .i64 i), (1, .sl (rows.map RV)), (3, .int .i64 den), (4, ints x), (13, .bool true), (14, .ptr 13 1 0 0), (17, ivl y), (19, .sl ((mat i (curveAt (gOf i rows (mirM prior i) den) x)).map ivl)), (20, .str (bst (wholeL (mat i (curveAt (gOf i rows (mirM prior i) den) x))))), (21, .ptr (nx + 12) 1 0 0), (22, .int .i64 t.1)], t.2.1, t.2.2, t.2.2⟩)
          (fun t => t.1 ≤ rows.length ∧ nx + 12 < t.2.2 ∧ t.2.1 13 = some ⟨[GV (gOf i rows (mirM prior i) den)], 8⟩ ∧ t.2.1 (nx + 12) = some ⟨[IV (enL (rows.take t.1) x y i)], 2⟩) (fun t => rows.length - t.1) (0, Hp.sub (fz1 c (y.map IV)) G, _) (ghost_told (fz1 c (y.map IV)) (fz1_ok gc (pure_map fun x => by simp)) (by simp -dsimp -implicitDefEqProofs (disch := (first | assumption | omega | (simp only [nats_len, List.length_map, List.length_set, List.length_replicate, List.length_append, List.length_range, upto_len, els_len, List.length_cons, List.length_nil] <;> omega) | (apply isPure_intro <;> simp))) only [go_sem, V.sub, fz1, h13c, hym] <;> rfl) (fun _ => .inr rfl)) ⟨by dsimp only; omega, by dsimp only; omega, t13, tb⟩ ?_
        clear t13 tb gc g13 gb G c1 c2 c3
        rintro ⟨k, H2, nx2⟩ ⟨k1, k2, k3, k4⟩
        dsimp only at k1 k2 k3 k4
        by_cases hk : k < rows.length
        · have hrk := hrt _ (getD_mem' default hk)
          have ht := take_getD (l := rows) (i := k) default hk
          generalize hX : rows.getD k default = r at *
          simp -dsimp -implicitDefEqProofs (disch := (first | assumption | omega | (simp only [nats_len, List.length_map, List.length_set, List.length_replicate, List.length_append, List.length_range, upto_len, els_len, List.length_cons, List.length_nil] <;> omega) | (apply isPure_intro <;> simp))) only [go_sem, hX]
          generalize hG2 : Hp.upd H2 (nx2 + 5) _ = G2
          have p13 : G2 13 = some ⟨[GV (gOf i rows (mirM prior i) den)], 8⟩ := by rw [← hG2, Hp.upd_ne _ _ (by omega)]; exact k3
          have pb : G2 (nx + 12) = some ⟨[IV (enL (rows.take k) x y i)], 2⟩ := by rw [← hG2, Hp.upd_ne _ _ (by omega)]; exact k4
          have pd : G2 (nx2 + 5) = some ⟨[IV 0], 2⟩ := by rw [← hG2, Hp.upd_same, IV_zero]
          clear hG2 k3 k4
          have hcl2 : r.co.length = i := by have := hrk.len; omega
          have hco := co_in hrk
          refine W_loop (T := Nat × Hp × Nat) (fun t => ⟨E [(0, .int .i64 i), (1, .sl (rows.map RV)), (3, .int .i64 den), (4, ints x), (13, .bool true), (14, .ptr 13 1 0 0), (17, ivl y), (19, .sl ((mat i (curveAt (gOf i rows (mirM prior i) den) x)).map ivl)), (20, .str (bst (wholeL (mat i (curveAt (gOf i rows (mirM prior i) den) x))))), (21, .ptr (nx + 12) 1 0 0), (22, .int .i64 k), (23, .ptr (nx2 + 5) 1 0 0), (24, .int .i64 t.1)], t.2.1, t.2.2, t.2.2⟩)
            (fun t => t.1 ≤ i ∧ nx2 + 5 < t.2.2 ∧ t.2.1 13 = some ⟨[GV (gOf i rows (mirM prior i) den)], 8⟩ ∧ t.2.1 (nx + 12) = some ⟨[IV (enL (rows.take k) x y i)], 2⟩ ∧ t.2.1 (nx2 + 5) = some ⟨[IV (dotN r.co y t.1)], 2⟩) (fun t => i - t.1) (0, G2, _) rfl ⟨by dsimp only; omega, by dsimp only; omega, p13, pb, pd⟩ ?_
          clear p13 pb pd
          rintro ⟨j, H3, nx3⟩ ⟨j1, j2, j3, j4, j5⟩
          dsimp only at j1 j2 j3 j4 j5
          by_cases hj : j < i
          · have l1 := dot_lim hco hyv j
            have l2 := lim_i64 (getD_in hco j)
            have l3 := lim_i64 (getD_in hyv j)
            have l4 := lim_mul (r.co.getD j 0) (y.getD j 0)
            have hcj := getD_in hco j
            simp -dsimp -implicitDefEqProofs (disch := (first | assumption | omega | (simp only [nats_len, List.length_map, List.length_set, List.length_replicate, List.length_append, List.length_range, upto_len, els_len, List.length_cons, List.length_nil] <;> omega) | (apply isPure_intro <;> simp))) only [go_sem, hX, j5]
            first | refine callB_of (of_ret _ hcj) (by simp) ?_ | refine callP_of (of_ret _ hcj) (by simp) ?_
            simp -dsimp -implicitDefEqProofs (disch := (first | assumption | omega | (simp only [nats_len, List.length_map, List.length_set, List.length_replicate, List.length_append, List.length_range, upto_len, els_len, List.length_cons, List.length_nil] <;> omega) | (apply isPure_intro <;> simp))) only [go_sem]
            first | refine callB_of (mul_ret _ _ (by omega) (by omega)) (by simp) ?_ | refine callP_of (mul_ret _ _ (by omega) (by omega)) (by simp) ?_
            simp -dsimp -implicitDefEqProofs (disch := (first | assumption | omega | (simp only [nats_len, List.length_map, List.length_set, List.length_replicate, List.length_append, List.length_range, upto_len, els_len, List.length_cons, List.length_nil] <;> omega) | (apply isPure_intro <;> simp))) only [go_sem]
            first | refine callB_of (add_ret _ _ (by omega) (by omega)) (by simp) ?_ | refine callP_of (add_ret _ _ (by omega) (by omega)) (by simp) ?_
            simp -dsimp -implicitDefEqProofs (disch := (first | assumption | omega | (simp only [nats_len, List.length_map, List.length_set, List.length_replicate, List.length_append, List.length_range, upto_len, els_len, List.length_cons, List.length_nil] <;> omega) | (apply isPure_intro <;> simp))) only [go_sem, j5]
            generalize hH4 : Hp.upd H3 (nx2 + 5) _ = H4
            exact ⟨(j + 1, H4, _), rfl, ⟨by dsimp only; omega, by dsimp only; omega, upd_at_ne hH4 j3 (by omega), upd_at_ne hH4 j4 (by omega), upd_at_same hH4⟩, by dsimp only; omega⟩
          · have hje : i = j := by omega
            subst hje
            have hws := ws_in (x := x) hrk
            have e2 := IntWalk.i64_in _ hws
            have l1 := dot_lim hco hyv i
            have l2 := lim_i64 hws
            have l3 := lim_mul (dotN r.co y i) (dotN r.co y i)
            have l4 := enL_lim (rows := rows.take k) hhi (fun r h => hrt r (List.mem_of_mem_take h)) hyv
            have l5 : (rows.take k).length ≤ rows.length := by rw [List.length_take]; omega
            have l6 := lim_mul (dotN r.co y i * dotN r.co y i) (r.w * shareR r x)
            have hen : enL (rows.take (k + 1)) x y i = enL (rows.take k) x y i + dotN r.co y i * dotN r.co y i * (r.w * shareR r x) := by rw [ht, enL_app]; simp [enL]
            simp -dsimp -implicitDefEqProofs (disch := (first | assumption | omega | (simp only [nats_len, List.length_map, List.length_set, List.length_replicate, List.length_append, List.length_range, upto_len, els_len, List.length_cons, List.length_nil] <;> omega) | (apply isPure_intro <;> simp))) only [go_sem, hX, j3]
            first | refine callB_of (share_ret _ _ x hrk hst) (by simp) ?_ | refine callP_of (share_ret _ _ x hrk hst) (by simp) ?_
            simp -dsimp -implicitDefEqProofs (disch := (first | assumption | omega | (simp only [nats_len, List.length_map, List.length_set, List.length_replicate, List.length_append, List.length_range, upto_len, els_len, List.length_cons, List.length_nil] <;> omega) | (apply isPure_intro <;> simp))) only [go_sem, j4, j5]
            first | refine callB_of (mul_ret _ _ (by omega) (by omega)) (by simp) ?_ | refine callP_of (mul_ret _ _ (by omega) (by omega)) (by simp) ?_
            simp -dsimp -implicitDefEqProofs (disch := (first | assumption | omega | (simp only [nats_len, List.length_map, List.length_set, List.length_replicate, List.length_append, List.length_range, upto_len, els_len, List.length_cons, List.length_nil] <;> omega) | (apply isPure_intro <;> simp))) only [go_sem, hX, e2]
            first | refine callB_of (of_ret _ hws) (by simp) ?_ | refine callP_of (of_ret _ hws) (by simp) ?_
            simp -dsimp -implicitDefEqProofs (disch := (first | assumption | omega | (simp only [nats_len, List.length_map, List.length_set, List.length_replicate, List.length_append, List.length_range, upto_len, els_len, List.length_cons, List.length_nil] <;> omega) | (apply isPure_intro <;> simp))) only [go_sem]
            first | refine callB_of (mul_ret _ _ (by omega) (by omega)) (by simp) ?_ | refine callP_of (mul_ret _ _ (by omega) (by omega)) (by simp) ?_
            simp -dsimp -implicitDefEqProofs (disch := (first | assumption | omega | (simp only [nats_len, List.length_map, List.length_set, List.length_replicate, List.length_append, List.length_range, upto_len, els_len, List.length_cons, List.length_nil] <;> omega) | (apply isPure_intro <;> simp))) only [go_sem]
            first | refine callB_of (add_ret _ _ (by omega) (by omega)) (by simp) ?_ | refine callP_of (add_ret _ _ (by omega) (by omega)) (by simp) ?_
            simp -dsimp -implicitDefEqProofs (disch := (first | assumption | omega | (simp only [nats_len, List.length_map, List.length_set, List.length_replicate, List.length_append, List.length_range, upto_len, els_len, List.length_cons, List.length_nil] <;> omega) | (apply isPure_intro <;> simp))) only [go_sem, j4, ← hen]
            generalize hH4 : Hp.upd H3 (nx + 12) _ = H4
            exact ⟨(k + 1, H4, _), Ghost.refl _, ⟨by dsimp only; omega, by dsimp only; omega, upd_at_ne hH4 j3 (by omega), upd_at_same hH4⟩, by dsimp only; omega⟩
        · have hke : rows.length = k := by omega
          subst hke
          rw [List.take_length] at k4
          have hbe := bend_eq (m := i) (rows := rows) (P := mirM prior i) (den := den) (x := x) (y := y)
          have l1 := enL_lim hhi hrt hyv
          have l2 := quad_lim (n := i) (mirM_lim hpp i) hyv
          have l3 := lim_mul (enL rows x y i) den
          have l4 := lim_i64 (x := 1024) (by omega)
          have l5 := lim_mul (quadV (mirM prior i) y i) 1024
          have l6 := lim_add (enL rows x y i * den) (quadV (mirM prior i) y i * 1024)
          simp -dsimp -implicitDefEqProofs (disch := (first | assumption | omega | (simp only [nats_len, List.length_map, List.length_set, List.length_replicate, List.length_append, List.length_range, upto_len, els_len, List.length_cons, List.length_nil] <;> omega) | (apply isPure_intro <;> simp))) only [go_sem, k4]
          first | refine callB_of (of_ret den hd) (by simp) ?_ | refine callP_of (of_ret den hd) (by simp) ?_
          simp -dsimp -implicitDefEqProofs (disch := (first | assumption | omega | (simp only [nats_len, List.length_map, List.length_set, List.length_replicate, List.length_append, List.length_range, upto_len, els_len, List.length_cons, List.length_nil] <;> omega) | (apply isPure_intro <;> simp))) only [go_sem]
          first | refine callB_of (mul_ret _ _ (by omega) (by omega)) (by simp) ?_ | refine callP_of (mul_ret _ _ (by omega) (by omega)) (by simp) ?_
          simp -dsimp -implicitDefEqProofs (disch := (first | assumption | omega | (simp only [nats_len, List.length_map, List.length_set, List.length_replicate, List.length_append, List.length_range, upto_len, els_len, List.length_cons, List.length_nil] <;> omega) | (apply isPure_intro <;> simp))) only [go_sem, k3]
          first | refine callB_of (lquad_ret (mirM prior i) y i (by omega) (mirM_sq prior i) hym (fun a b => by have := mirM_lim hpp i a b; omega) (fun a => by have := lim_i64 (getD_in hyv a); omega)) (by simp) ?_ | refine callP_of (lquad_ret (mirM prior i) y i (by omega) (mirM_sq prior i) hym (fun a b => by have := mirM_lim hpp i a b; omega) (fun a => by have := lim_i64 (getD_in hyv a); omega)) (by simp) ?_
          simp -dsimp -implicitDefEqProofs (disch := (first | assumption | omega | (simp only [nats_len, List.length_map, List.length_set, List.length_replicate, List.length_append, List.length_range, upto_len, els_len, List.length_cons, List.length_nil] <;> omega) | (apply isPure_intro <;> simp))) only [go_sem]
          first | refine callB_of (of_ret 1024 (by omega)) (by simp) ?_ | refine callP_of (of_ret 1024 (by omega)) (by simp) ?_
          simp -dsimp -implicitDefEqProofs (disch := (first | assumption | omega | (simp only [nats_len, List.length_map, List.length_set, List.length_replicate, List.length_append, List.length_range, upto_len, els_len, List.length_cons, List.length_nil] <;> omega) | (apply isPure_intro <;> simp))) only [go_sem]
          first | refine callB_of (mul_ret _ _ (by omega) (by omega)) (by simp) ?_ | refine callP_of (mul_ret _ _ (by omega) (by omega)) (by simp) ?_
          simp -dsimp -implicitDefEqProofs (disch := (first | assumption | omega | (simp only [nats_len, List.length_map, List.length_set, List.length_replicate, List.length_append, List.length_range, upto_len, els_len, List.length_cons, List.length_nil] <;> omega) | (apply isPure_intro <;> simp))) only [go_sem]
          first | refine callB_of (add_ret _ _ (by omega) (by omega)) (by simp) ?_ | refine callP_of (add_ret _ _ (by omega) (by omega)) (by simp) ?_
          simp -dsimp -implicitDefEqProofs (disch := (first | assumption | omega | (simp only [nats_len, List.length_map, List.length_set, List.length_replicate, List.length_append, List.length_range, upto_len, els_len, List.length_cons, List.length_nil] <;> omega) | (apply isPure_intro <;> simp))) only [go_sem]
          first | refine callB_of (lquad_ret _ y i (by omega) (mat_sq i _) hym (fun a b => lim_at_mat (fun a b => by have := hcl a b; omega) a b) (fun a => by have := lim_i64 (getD_in hyv a); omega)) (by simp) ?_ | refine callP_of (lquad_ret _ y i (by omega) (mat_sq i _) hym (fun a b => lim_at_mat (fun a b => by have := hcl a b; omega) a b) (fun a => by have := lim_i64 (getD_in hyv a); omega)) (by simp) ?_
          rw [hbe]
          simp -dsimp -implicitDefEqProofs (disch := (first | assumption | omega | (simp only [nats_len, List.length_map, List.length_set, List.length_replicate, List.length_append, List.length_range, upto_len, els_len, List.length_cons, List.length_nil] <;> omega) | (apply isPure_intro <;> simp))) only [go_sem]
          first | refine callB_of (icmp_ret _ _ (by omega) (by omega)) (by simp) ?_ | refine callP_of (icmp_ret _ _ (by omega) (by omega)) (by simp) ?_
          have hs0 : (enL rows x y i * den + quadV (mirM prior i) y i * 1024 - (enL rows x y i * den + quadV (mirM prior i) y i * 1024)).sign = 0 := by rw [Int.sub_self]; rfl
          simp -dsimp -implicitDefEqProofs (disch := (first | assumption | omega | (simp only [nats_len, List.length_map, List.length_set, List.length_replicate, List.length_append, List.length_range, upto_len, els_len, List.length_cons, List.length_nil] <;> omega) | (apply isPure_intro <;> simp))) only [go_sem, k4, hs0]
          first | refine callB_of (sign_ret _ (by omega)) (by simp) ?_ | refine callP_of (sign_ret _ (by omega)) (by simp) ?_
          have hsg : 0 ≤ (enL rows x y i).sign := by have := enL_pos (y := y) (n := i) hrt; rcases Int.le_iff_eq_or_lt.1 this with h | h; rw [← h]; decide; rw [Int.sign_eq_one_of_pos h]; decide
          simp -dsimp -implicitDefEqProofs (disch := (first | assumption | omega | (simp only [nats_len, List.length_map, List.length_set, List.length_replicate, List.length_append, List.length_range, upto_len, els_len, List.length_cons, List.length_nil] <;> omega) | (apply isPure_intro <;> simp))) only [go_sem]
          first | refine callB_of (whole_mat (by omega) fun i j => by have := hcl i j; omega) (by simp) ?_ | refine callP_of (whole_mat (by omega) fun i j => by have := hcl i j; omega) (by simp) ?_
          simp -dsimp -implicitDefEqProofs (disch := (first | assumption | omega | (simp only [nats_len, List.length_map, List.length_set, List.length_replicate, List.length_append, List.length_range, upto_len, els_len, List.length_cons, List.length_nil] <;> omega) | (apply isPure_intro <;> simp))) only [go_sem, strV_same, hsg]
          done
    · simp -dsimp -implicitDefEqProofs (disch := (first | assumption | omega | (simp only [nats_len, List.length_map, List.length_set, List.length_replicate, List.length_append, List.length_range, upto_len, els_len, List.length_cons, List.length_nil] <;> omega) | (apply isPure_intro <;> simp))) only [go_sem]

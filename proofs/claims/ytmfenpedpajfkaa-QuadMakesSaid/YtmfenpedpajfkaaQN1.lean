import Derived.Test.YtmfenpedpajfkaaRD7
import Derived.Test.YtmfenpedpajfkaaQL3
import Derived.Test.YtmfenpedpajfkaaQP1
import Derived.Test.YtmfenpedpajfkaaGA5
import Derived.Test.YtmfenpedpajfkaaLB2
/- Whether rows and numbers make a quadratic function is as the document says. -/
set_option maxRecDepth 100000
set_option maxHeartbeats 4000000
set_option linter.unusedSimpArgs false
set_option linter.unusedVariables false
namespace Go.Gim
open Go.Proofs
theorem qof_retL (rows : List (List Int)) (q : List Int) (c : Int) (hl : rows.length ≤ 9223372036854775807) (hr : ∀ r ∈ rows, r.length ≤ 9223372036854775807 ∧ ∀ v ∈ r, In64 v) (hq : ∀ v ∈ q, In64 v) (hql : q.length ≤ 9223372036854775807) (hc : In64 c) :
    Ret pg n_quad_Of [.sl (rows.map ints), ints q, .int .i64 c] (.tup [if qofE rows q = 0 then QV rows q c else QV [] [] 0, .int .i64 (qofE rows q)]) := by
  have hlo := linof_retL rows hl hr
  refine quad_Of.of rfl (W_b ?_)
  unfold quad_Of.k quad_Of.res
  simp -dsimp -implicitDefEqProofs (disch := (first | assumption | omega | (simp only [zE] <;> omega) | (apply isPure_intro <;> simp))) only [go_sem]
  refine callB_of hlo (by simp) ?_
  by_cases h0 : sqE rows = 0
  · obtain ⟨hsq, h12⟩ := sqE_ok h0
    rw [if_pos h0]
    have hl12 : rows.length ≤ 12 := h12
    by_cases hqr : q.length = rows.length
    · simp -dsimp -implicitDefEqProofs (disch := (first | assumption | omega | (simp only [zE] <;> omega) | (apply isPure_intro <;> simp))) only [go_sem, h0]
      refine callB_of (turned_ret rows rows.length (by omega) hsq) (by simp) ?_
      simp -dsimp -implicitDefEqProofs (disch := (first | assumption | omega | (simp only [zE] <;> omega) | (apply isPure_intro <;> simp))) only [go_sem]
      have sm := Sq.sm fun r h1 => (hr r h1).2
      refine callB_of (same_go rows _ rows.length (by omega) hsq (mat_sq _ _) (fun i j => by have := sm i j; omega) (lim_at_mat fun i j => by have := sm j i; omega)) (by simp) ?_
      cases hsy : symB rows
      · have hsy' : decide (rows = mat rows.length fun i j => at2 rows j i) = false := hsy
        have e : qofE rows q = 1 := by unfold qofE; rw [if_neg (by simpa using h0), if_pos (.inr hsy)]
        rw [hsy', e, if_neg (by decide), QV_zero]
        simp -dsimp -implicitDefEqProofs (disch := (first | assumption | omega | (simp only [zE] <;> omega) | (apply isPure_intro <;> simp))) only [go_sem]
      · have hsy' : decide (rows = mat rows.length fun i j => at2 rows j i) = true := hsy
        have e : qofE rows q = 0 := by unfold qofE; rw [if_neg (by simpa using h0), if_neg (by simp [hqr, hsy])]
        rw [hsy', e]
        simp -dsimp -implicitDefEqProofs (disch := (first | assumption | omega | (simp only [zE] <;> omega) | (apply isPure_intro <;> simp))) only [go_sem]
        refine callB_of (of_ret _ hc) (by simp) ?_
        simp -dsimp -implicitDefEqProofs (disch := (first | assumption | omega | (simp only [zE] <;> omega) | (apply isPure_intro <;> simp))) only [go_sem]
        refine W_loop (T := Nat × V × Hp × Nat) (fun t => ⟨E [(6, .ptr 0 1 0 0), (10, .ptr 29 1 0 0), (41, ints q), (42, .int .i64 q.length), (43, .int .i64 t.1)], t.2.2.1, t.2.2.2, t.2.2.2⟩)
          (fun t => t.1 ≤ q.length ∧ 29 < t.2.2.2 ∧ t.2.2.1 0 = some ⟨[.agg [.nil, .nil, .bool false, .sl []]], 4⟩ ∧ t.2.2.1 29 = some ⟨[.agg [.sl (rows.map ivl), t.2.1, .bool (decide (c < 0)), .sl (nats .u32 (digs W32 c.natAbs))]], 4⟩ ∧ Row 30 t.2.2.1 t.2.2.2 t.2.1 2 ((q.take t.1).map IV)) (fun t => q.length - t.1) (0, .nil, _, _) rfl ⟨by dsimp only; omega, by dsimp only; omega, rfl, rfl, Row.nil _ _ _ _⟩ ?_
        rintro ⟨i, w, H, nx⟩ ⟨i1, i2, i3, i4, i5⟩
        dsimp only at i1 i2 i3 i4 i5
        have hwa : w.isAgg = false := by rcases i5 with ⟨rfl, _⟩ | ⟨b, rfl, _⟩ <;> rfl
        have hwc : w.cellOk = true := by rcases i5 with ⟨rfl, _⟩ | ⟨b, rfl, _⟩ <;> rfl
        by_cases hi : i < q.length
        · have hv := hq _ (getD_mem' 0 hi)
          have ht := take_getD 0 hi
          generalize hX : q.getD i 0 = x at *
          simp -dsimp -implicitDefEqProofs (disch := (first | assumption | omega | (simp only [zE] <;> omega) | (apply isPure_intro <;> simp))) only [go_sem, hX, i4, hwa]
          refine callP_of (of_ret _ hv) (by simp) ?_
          simp -dsimp -implicitDefEqProofs (disch := (first | assumption | omega | (simp only [zE] <;> omega) | (apply isPure_intro <;> simp))) only [go_sem]
          refine effB_row (lo := 30) (nx := nx) (H0 := H) (xs := (q.take i).map IV) i5 (by omega) rfl (by omega) (by omega) (by simp [rowOk, V.cells, V.cellOk, IV]) (by decide) (by simp; omega) (by simp; omega) fun v2 H2 r1 _ _ r4 => ?_
          rw [map_app, ← ht] at r1
          have j3 := (r4 0 (by omega)).trans i3
          have j4 := (r4 29 (by omega)).trans i4
          rcases r1 with ⟨_, h⟩ | ⟨b', rfl, c1, c2, c3⟩
          · have := congrArg List.length h
            simp only [List.length_map, List.length_take, List.length_nil] at this; omega
          · simp -dsimp -implicitDefEqProofs (disch := (first | assumption | omega | (simp only [zE] <;> omega) | (apply isPure_intro <;> simp))) only [go_sem, j3, j4]
            generalize hH3 : Hp.upd H2 29 _ = H3
            have k0 := upd_at_ne hH3 j3 (by omega)
            have k29 := upd_at_same hH3
            have kb := upd_at_ne hH3 c3 (by omega)
            exact ⟨(i + 1, .own b' (q.take (i + 1)).length, H3, _), rfl, ⟨by dsimp only; omega, by dsimp only; omega, k0, k29, .inr ⟨b', by rw [List.length_map], c1, by dsimp only; omega, kb⟩⟩, by dsimp only; omega⟩
        · have hie : i = q.length := by omega
          subst hie
          rw [List.take_length] at i5
          simp -dsimp -implicitDefEqProofs (disch := (first | assumption | omega | (simp only [zE] <;> omega) | (apply isPure_intro <;> simp))) only [go_sem, i3, i4, hwa, hwc]
          rw [(i5.upd (by omega)).frz (frz_map fun x => frz_IV _ _ _)]
          rfl
    · have e : qofE rows q = 1 := by unfold qofE; rw [if_neg (by simpa using h0), if_pos (.inl hqr)]
      rw [e, if_neg (by decide), QV_zero]
      simp -dsimp -implicitDefEqProofs (disch := (first | assumption | omega | (simp only [zE] <;> omega) | (apply isPure_intro <;> simp))) only [go_sem, h0]
  · have e : qofE rows q = sqE rows := by unfold qofE; rw [if_pos h0]
    rw [e, if_neg h0, if_neg h0, QV_zero]
    simp -dsimp -implicitDefEqProofs (disch := (first | assumption | omega | (simp only [zE] <;> omega) | (apply isPure_intro <;> simp))) only [go_sem]
open Classical in
def fit1 (rows : List (List Int)) (q : List Int) (i : Nat) : Bool := decide (q.length = rows.length ∧ ∀ j, j < i → (rows.getD j []).length = rows.length)
open Classical in
def fit2 (rows : List (List Int)) (q : List Int) (i : Nat) : Bool := decide (fit1 rows q rows.length = true ∧ ∀ a, a < i → ∀ b, b < a → at2 rows a b = at2 rows b a)
open Classical in
def fit3 (rows : List (List Int)) (q : List Int) (i j : Nat) : Bool := decide (fit2 rows q i = true ∧ ∀ b, b < j → at2 rows i b = at2 rows b i)
theorem fit1_zero (rows q) : fit1 rows q 0 = decide ((q.length : Int) = rows.length) := by
  unfold fit1; exact decide_eq_decide.2 ⟨fun h => by omega, fun h => ⟨by omega, fun j hj => by omega⟩⟩
theorem fit1_t {rows q i} (h : fit1 rows q i = true) : fit1 rows q (i + 1) = decide (((rows.getD i []).length : Int) = rows.length) := by
  unfold fit1 at *
  have h := of_decide_eq_true h
  refine decide_eq_decide.2 ⟨fun g => by have := g.2 i (by omega); omega, fun g => ⟨h.1, fun j hj => ?_⟩⟩
  rcases Nat.lt_or_ge j i with hji | hji
  · exact h.2 j hji
  · rw [show j = i by omega]; omega
theorem fit1_f {rows q i} (h : fit1 rows q i = false) : fit1 rows q (i + 1) = false := by
  unfold fit1 at *
  exact decide_eq_false fun g => of_decide_eq_false h ⟨g.1, fun j hj => g.2 j (by omega)⟩
theorem fit2_zero (rows q) : fit2 rows q 0 = fit1 rows q rows.length := by
  unfold fit2
  cases h : fit1 rows q rows.length
  · exact decide_eq_false fun g => by simp at g
  · exact decide_eq_true ⟨rfl, fun a ha => by omega⟩
theorem fit3_zero (rows q i) : fit3 rows q i 0 = fit2 rows q i := by
  unfold fit3
  cases h : fit2 rows q i
  · exact decide_eq_false fun g => by simp at g
  · exact decide_eq_true ⟨rfl, fun a ha => by omega⟩
theorem fit3_t {rows q i j} (h : fit3 rows q i j = true) : fit3 rows q i (j + 1) = decide (at2 rows i j = at2 rows j i) := by
  unfold fit3 at *
  have h := of_decide_eq_true h
  refine decide_eq_decide.2 ⟨fun g => g.2 j (by omega), fun g => ⟨h.1, fun b hb => ?_⟩⟩
  rcases Nat.lt_or_ge b j with hji | hji
  · exact h.2 b hji
  · rw [show b = j by omega]; exact g
theorem fit3_f {rows q i j} (h : fit3 rows q i j = false) : fit3 rows q i (j + 1) = false := by
  unfold fit3 at *
  exact decide_eq_false fun g => of_decide_eq_false h ⟨g.1, fun b hb => g.2 b (by omega)⟩
theorem fit3_all (rows q i) : fit3 rows q i i = fit2 rows q (i + 1) := by
  unfold fit3 fit2
  refine decide_eq_decide.2 ⟨fun g => ?_, fun g => ⟨decide_eq_true ⟨g.1, fun a ha b hb => g.2 a (by omega) b hb⟩, fun b hb => g.2 i (by omega) b hb⟩⟩
  have g1 := of_decide_eq_true g.1
  refine ⟨g1.1, fun a ha b hb => ?_⟩
  rcases Nat.lt_or_ge a i with hai | hai
  · exact g1.2 a hai b hb
  · have e : a = i := by omega
    subst e; exact g.2 b hb
theorem fit3_sq {rows q i j} (h : fit3 rows q i j = true) : Sq rows rows.length := by
  unfold fit3 fit2 fit1 at h
  have h := of_decide_eq_true (of_decide_eq_true (of_decide_eq_true h).1).1
  refine ⟨rfl, fun r hr => ?_⟩
  obtain ⟨j, hj, e⟩ := List.getElem_of_mem hr
  have := h.2 j hj
  rw [List.getD_eq_getElem?_getD, List.getElem?_eq_getElem hj] at this
  rw [← e]; exact this
theorem fit_e {rows : List (List Int)} {q : List Int} (h12 : rows.length ≤ 12) : qofE rows q = if fit2 rows q rows.length = true then 0 else 1 := by
  by_cases h : fit2 rows q rows.length = true
  · rw [if_pos h]
    have hs := fit3_sq (i := rows.length) (j := 0) (by rw [fit3_zero]; exact h)
    unfold fit2 fit1 at h
    have h := of_decide_eq_true h
    have hq := (of_decide_eq_true h.1).1
    have h0 : sqE rows = 0 := by unfold sqE; rw [if_neg (by omega), if_neg (fun ⟨r, hr, hn⟩ => hn (hs.2 r hr))]
    have hsy : symB rows = true := by
      unfold symB
      refine decide_eq_true ?_
      have e := mat_self hs
      rw [← e]
      unfold mat
      rw [List.length_map, List.length_range]
      refine List.map_congr_left fun i hi => List.map_congr_left fun j hj => ?_
      have hi := List.mem_range.1 hi
      have hj := List.mem_range.1 hj
      have e2 : ∀ a b, at2 ((List.range rows.length).map fun i => (List.range rows.length).map (at2 rows i)) a b = at2 rows a b := fun a b => by
        have := congrArg (fun m => at2 m a b) e; exact this
      refine Eq.trans ?_ (e2 j i).symm
      rcases Nat.lt_trichotomy i j with hij | hij | hij
      · exact (h.2 j hj i hij).symm
      · rw [hij]
      · exact h.2 i hi j hij
    unfold qofE
    rw [if_neg (by simpa using h0), if_neg (by simp [hq, hsy])]
  · rw [if_neg h]
    unfold qofE
    by_cases h0 : sqE rows = 0
    · rw [if_neg (by simpa using h0)]
      obtain ⟨hs, _⟩ := sqE_ok h0
      refine if_pos ?_
      by_cases hq : q.length = rows.length
      · right
        refine decide_eq_false fun g => h ?_
        have e : ∀ a b, a < rows.length → b < rows.length → at2 rows a b = at2 rows b a := fun a b ha hb => by
          have := congrArg (fun m => at2 m a b) g
          rw [mat_at ha hb] at this
          exact this
        exact decide_eq_true ⟨decide_eq_true ⟨hq, fun j hj => hs.row hj⟩, fun a ha b hb => e a b ha (by omega)⟩
      · exact .inl hq
    · rw [if_pos h0]
      unfold sqE at *
      rw [if_neg (by omega)] at h0 ⊢
      split at h0
      · rename_i g; rw [if_pos g]
      · exact absurd rfl h0
theorem QuadMakes_true (rows : List (List Int)) (q : List Int) (c : Int) (hl : rows.length ≤ 9223372036854775807) (hr : ∀ r ∈ rows, r.length ≤ 9223372036854775807 ∧ ∀ v ∈ r, In64 v) (hql : q.length ≤ 9223372036854775807) (hq : ∀ v ∈ q, In64 v) (hc : In64 c) :
    Ret pg n_gimballaw08_QuadMakes [.sl (rows.map ints), ints q, .int .i64 c] (.bool true) := by
  have g1 := qof_retL rows q c hl hr hq hql hc
  refine gimballaw08_QuadMakes.of rfl (W_b ?_)
  unfold gimballaw08_QuadMakes.k gimballaw08_QuadMakes.res
  simp -dsimp -implicitDefEqProofs (disch := (first | assumption | omega | (simp only [zE] <;> omega) | (apply isPure_intro <;> simp))) only [go_sem]
  first | refine callB_of (awake08_ret) (by simp) ?_ | refine callP_of (awake08_ret) (by simp) ?_
  simp -dsimp -implicitDefEqProofs (disch := (first | assumption | omega | (simp only [zE] <;> omega) | (apply isPure_intro <;> simp))) only [go_sem]
  by_cases h12 : 12 < rows.length
  · have e : qofE rows q = 2 := by unfold qofE sqE; rw [if_pos h12, if_pos (by decide)]
    rw [e, if_neg (by decide)] at g1
    first | refine callB_of (g1) (by simp) ?_ | refine callP_of (g1) (by simp) ?_
    simp -dsimp -implicitDefEqProofs (disch := (first | assumption | omega | (simp only [zE] <;> omega) | (apply isPure_intro <;> simp))) only [go_sem]
    done
  · have e := fit_e (rows := rows) (q := q) (by omega)
    have hn12 : rows.length ≤ 12 := by omega
    have hrl : ∀ i, i < rows.length → (rows.getD i []).length ≤ 9223372036854775807 := fun i hi => (hr _ (getD_mem' [] hi)).1
    generalize hee : qofE rows q = er at *
    obtain ⟨Pw, Qw, cw, hw, hw0, hw1⟩ : ∃ Pw Qw cw, (if er = 0 then QV rows q c else QV [] [] 0) = QV Pw Qw cw ∧ (er = 0 → Pw = rows ∧ Qw = q ∧ cw = c) ∧ (er ≠ 0 → Pw = [] ∧ Qw = []) := by
      by_cases h : er = 0
      · exact ⟨rows, q, c, if_pos h, fun _ => ⟨rfl, rfl, rfl⟩, fun g => absurd h g⟩
      · exact ⟨[], [], 0, if_neg h, fun g => absurd g h, fun _ => ⟨rfl, rfl⟩⟩
    rw [hw] at g1
    clear hw
    first | refine callB_of (g1) (by simp) ?_ | refine callP_of (g1) (by simp) ?_
    simp -dsimp -implicitDefEqProofs (disch := (first | assumption | omega | (simp only [zE] <;> omega) | (apply isPure_intro <;> simp))) only [go_sem]
    rw [← fit1_zero]
    generalize hH : Hp.upd _ 10 _ = H0
    have b1 : H0 10 = some ⟨[QV Pw Qw cw], 4⟩ := by rw [← hH]; rfl
    clear hH g1
    refine W_loop (T := Nat × Nat) (fun t => ⟨E [(0, .sl (rows.map ints)), (1, ints q), (2, .int .i64 c), (7, .bool true), (8, .ptr 10 1 0 0), (9, .int .i64 er), (10, .bool (fit1 rows q t.1)), (11, .int .i64 t.1)], H0, t.2, t.2⟩) (fun t => t.1 ≤ rows.length) (fun t => rows.length - t.1) (0, _) rfl (by dsimp only; omega) ?_
    rintro ⟨i, nx⟩ i1
    dsimp only at i1
    by_cases hi : i < rows.length
    · have hri := hrl i hi
      by_cases hf : fit1 rows q i = true
      · simp -dsimp -implicitDefEqProofs (disch := (first | assumption | omega | (simp only [zE] <;> omega) | (apply isPure_intro <;> simp))) only [go_sem, hf]
        exact ⟨(i + 1, _), by rw [fit1_t hf], by dsimp only; omega, by dsimp only; omega⟩
      · have hf' : fit1 rows q i = false := by simpa using hf
        simp -dsimp -implicitDefEqProofs (disch := (first | assumption | omega | (simp only [zE] <;> omega) | (apply isPure_intro <;> simp))) only [go_sem, hf']
        exact ⟨(i + 1, _), by rw [fit1_f hf'], by dsimp only; omega, by dsimp only; omega⟩
    · have hin : i = rows.length := by omega
      rw [hin]
      clear hin hi i1 i
      simp -dsimp -implicitDefEqProofs (disch := (first | assumption | omega | (simp only [zE] <;> omega) | (apply isPure_intro <;> simp))) only [go_sem]
      rw [← fit2_zero]
      refine W_loop (T := Nat × Nat) (fun t => ⟨E [(0, .sl (rows.map ints)), (1, ints q), (2, .int .i64 c), (7, .bool true), (8, .ptr 10 1 0 0), (9, .int .i64 er), (10, .bool (fit2 rows q t.1)), (12, .int .i64 t.1)], H0, t.2, t.2⟩) (fun t => t.1 ≤ rows.length) (fun t => rows.length - t.1) (0, _) rfl (by dsimp only; omega) ?_
      clear nx
      rintro ⟨i, nx⟩ i1
      dsimp only at i1
      by_cases hf : fit2 rows q i = true
      · by_cases hi : i < rows.length
        · simp -dsimp -implicitDefEqProofs (disch := (first | assumption | omega | (simp only [zE] <;> omega) | (apply isPure_intro <;> simp))) only [go_sem, hf]
          have e3 : fit3 rows q i 0 = true := by rw [fit3_zero]; exact hf
          refine W_loop (T := Nat × Nat) (fun t => ⟨E [(0, .sl (rows.map ints)), (1, ints q), (2, .int .i64 c), (7, .bool true), (8, .ptr 10 1 0 0), (9, .int .i64 er), (10, .bool (fit3 rows q i t.1)), (12, .int .i64 i), (13, .int .i64 t.1)], H0, t.2, t.2⟩) (fun t => t.1 ≤ i) (fun t => i - t.1) (0, _) (by dsimp only; rw [e3]; rfl) (by dsimp only; omega) ?_
          rintro ⟨j, nx2⟩ j1
          dsimp only at j1
          by_cases hj : j < i
          · by_cases hg : fit3 rows q i j = true
            · have hs := fit3_sq hg
              have r1 := hs.row hi
              have r2 := hs.row (show j < rows.length by omega)
              have k1 : (rows.getD i []).getD j 0 = at2 rows i j := rfl
              have k2 : (rows.getD j []).getD i 0 = at2 rows j i := rfl
              simp -dsimp -implicitDefEqProofs (disch := (first | assumption | omega | (simp only [zE] <;> omega) | (apply isPure_intro <;> simp))) only [go_sem, hg, r1, r2, k1, k2]
              exact ⟨(j + 1, _), by rw [fit3_t hg], by dsimp only; omega, by dsimp only; omega⟩
            · have hg' : fit3 rows q i j = false := by simpa using hg
              simp -dsimp -implicitDefEqProofs (disch := (first | assumption | omega | (simp only [zE] <;> omega) | (apply isPure_intro <;> simp))) only [go_sem, hg']
              exact ⟨(j + 1, _), by rw [fit3_f hg'], by dsimp only; omega, by dsimp only; omega⟩
          · have hji : j = i := by omega
            rw [hji]
            simp -dsimp -implicitDefEqProofs (disch := (first | assumption | omega | (simp only [zE] <;> omega) | (apply isPure_intro <;> simp))) only [go_sem]
            exact ⟨(i + 1, _), by rw [fit3_all], by dsimp only; omega, by dsimp only; omega⟩
        · have hin : i = rows.length := by omega
          rw [hin] at hf ⊢
          have e0 : er = 0 := by rw [e, if_pos hf]
          obtain ⟨h1, h2, h3⟩ := hw0 e0
          rw [h1, h2, h3] at b1
          have hs := fit3_sq (i := rows.length) (j := 0) (by rw [fit3_zero]; exact hf)
          have hqn : q.length = rows.length := by
            unfold fit2 fit1 at hf
            exact (of_decide_eq_true (of_decide_eq_true hf).1).1
          have hrr : ∀ r ∈ rows, r.length ≤ 12 := fun r hr => by rw [hs.2 r hr]; omega
          have t1 := whole8_ret rows q c hn12 hrr (by omega) (fun r h v hv => by have := lim_i64 ((hr r h).2 v hv); omega) (fun v hv => by have := lim_i64 (hq v hv); omega) (by have := lim_i64 hc; omega)
          have t2 := wholes8_ret rows q c hn12 hrr (by omega) (fun r h v hv => by have := dlim_i64 ((hr r h).2 v hv); omega) (fun v hv => by have := dlim_i64 (hq v hv); omega) (by have := dlim_i64 hc; omega)
          have t3 := r8of_ret rows q c (by omega) (fun r h => ⟨by have := hrr r h; omega, (hr r h).2⟩) hq (by omega) hc
          simp -dsimp -implicitDefEqProofs (disch := (first | assumption | omega | (simp only [zE] <;> omega) | (apply isPure_intro <;> simp))) only [go_sem, hf, e0, b1]
          first | refine callB_of (t1) (by simp) ?_ | refine callP_of (t1) (by simp) ?_
          simp -dsimp -implicitDefEqProofs (disch := (first | assumption | omega | (simp only [zE] <;> omega) | (apply isPure_intro <;> simp))) only [go_sem]
          first | refine callB_of (t3) (by simp) ?_ | refine callP_of (t3) (by simp) ?_
          simp -dsimp -implicitDefEqProofs (disch := (first | assumption | omega | (simp only [zE] <;> omega) | (apply isPure_intro <;> simp))) only [go_sem]
          first | refine callB_of (t2) (by simp) ?_ | refine callP_of (t2) (by simp) ?_
          simp -dsimp -implicitDefEqProofs (disch := (first | assumption | omega | (simp only [zE] <;> omega) | (apply isPure_intro <;> simp))) only [go_sem, strV_same]
      · have hf' : fit2 rows q i = false := by simpa using hf
        have e1 : er = 1 := by
          rw [e, if_neg]
          intro g
          apply hf
          unfold fit2 at *
          have g := of_decide_eq_true g
          exact decide_eq_true ⟨g.1, fun a ha => g.2 a (by omega)⟩
        obtain ⟨h1, h2⟩ := hw1 (by omega)
        rw [h1, h2] at b1
        simp -dsimp -implicitDefEqProofs (disch := (first | assumption | omega | (simp only [zE] <;> omega) | (apply isPure_intro <;> simp))) only [go_sem, hf', e1, b1]
end Go.Gim

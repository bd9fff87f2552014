import Derived.Test.YtoehjhcfilonoaaKM4
import Derived.Test.YtoehjhcfilonoaaRR17
/- The rows of keys: the program's are the document's, and each may be. -/
set_option maxRecDepth 100000
set_option maxHeartbeats 4000000
set_option linter.unusedSimpArgs false
set_option linter.unusedVariables false
namespace Go.Gim
open Go.Proofs
theorem setAll_bd {B : Int} : ∀ (qs : List (Nat × Int)) (l : List Int), (∀ a ∈ l, -B ≤ a ∧ a ≤ B) → (∀ q ∈ qs, -B ≤ q.2 ∧ q.2 ≤ B) → ∀ a ∈ setAll l qs, -B ≤ a ∧ a ≤ B
  | [], l, h, _ => h
  | (i, t) :: qs, l, h, hq => setAll_bd qs (l.set i t) (fun a ha => by
      rcases List.mem_or_eq_of_mem_set ha with ha | rfl
      · exact h a ha
      · exact hq (i, a) (by simp)) fun q hm => hq q (by simp [hm])
theorem rowF_right {c : Cfg} {n : Nat} {s z : Int} {qs : List (Nat × Int)} (hc : FineC c) (hn : n ≤ 11) (hz : -1000000000 ≤ z ∧ z ≤ 1000000000) (hq : ∀ q ∈ qs, -1000 ≤ q.2 ∧ q.2 ≤ 1000) : Right4 (rowF c n s z qs) n where
  len := by unfold rowF; rw [setAll_len, List.length_replicate]
  le := hn
  z := hz
  kn := by
    have := hc.k0; have := hc.k1; have := hc.k2; have := hc.k3
    show 1 ≤ kneeC c s ∧ kneeC c s ≤ 32768
    unfold kneeC; (repeat' split) <;> omega
  w := by
    have := hc.w0; have := hc.w1; have := hc.w2; have := hc.w3
    show 1 ≤ wtC c s ∧ wtC c s ≤ 100
    unfold wtC; (repeat' split) <;> omega
  co := setAll_bd qs _ (fun a ha => by
    have := List.eq_of_mem_replicate ha; subst this; omega) hq
theorem mem_has {b : Bool} {l : List Row4} {r : Row4} (h : r ∈ has b l) : b = true ∧ r ∈ l := by
  unfold has at h; split at h
  · rename_i hb; exact ⟨hb, h⟩
  · cases h
theorem keyRows_right {c : Cfg} {n i : Nat} {k : Key9} (hc : FineC c) (hn : n ≤ 11) (hk : KeyOk k) : ∀ r ∈ keyRows c n i k, Right4 r n := by
  have hr := hc.rate
  have hp := prod_bd (a := c.rate) (b := k.dp) (A := 1000) (B := 100000) (by omega) hk.dp
  have h1 := hk.p; have h2 := hk.v; have h3 := hk.h; have h4 := hk.dv; have h5 := hk.t
  intro r hm
  unfold keyRows keyA at hm
  simp only [List.mem_append] at hm
  rcases hm with ((hm | hm) | hm) | hm
  · obtain ⟨hb, hm⟩ := mem_has hm
    simp only [Bool.and_eq_true, decide_eq_true_eq] at hb
    simp only [List.mem_cons, List.not_mem_nil, or_false] at hm
    rcases hm with rfl | rfl
    · exact rowF_right hc hn (by omega) (by simp; omega)
    · exact rowF_right hc hn (by omega) (by simp)
  · obtain ⟨hb, hm⟩ := mem_has hm
    simp only [List.mem_cons, List.not_mem_nil, or_false] at hm
    subst hm
    exact rowF_right hc hn (by omega) (by simp)
  · obtain ⟨hb, hm⟩ := mem_has hm
    simp only [List.mem_cons, List.not_mem_nil, or_false] at hm
    subst hm
    exact rowF_right hc hn (by omega) (by simp)
  · obtain ⟨hb, hm⟩ := mem_has hm
    simp only [List.mem_cons, List.not_mem_nil, or_false] at hm
    subst hm
    exact rowF_right hc hn (by omega) (by simp)
theorem rowsTo_right {c : Cfg} {n : Nat} {keys : List Key9} (hc : FineC c) (hn : n ≤ 11) (hk : ∀ j, j < keys.length → KeyOk (keys.getD j k0)) : ∀ j, j ≤ keys.length → ∀ r ∈ rowsTo c n keys j, Right4 r n
  | 0, _, r, h => by cases h
  | j + 1, hj, r, h => by
    rw [rowsTo, List.mem_append] at h
    rcases h with h | h
    · exact rowsTo_right hc hn hk j (by omega) r h
    · exact keyRows_right hc hn (hk j (by omega)) r h
theorem rowsF_right {c : Cfg} {keys : List Key9} : ∀ r ∈ (rowsF c keys).1, Right4 r (2 * keys.length + 1) ∧ keys.length ≤ 5 := by
  intro r hr
  unfold rowsF at hr
  split at hr
  · cases hr
  · rename_i h0
    split at hr
    · cases hr
    · rename_i h1
      split at hr
      · rename_i h2
        have hc : FineC c := chk_fine.1 (by omega)
        have hk : ∀ j, j < keys.length → KeyOk (keys.getD j k0) := fun j hj => keyB_iff.1 (by
          have := List.all_eq_true.1 h2 (keys.getD j k0) (by simp [List.getD_eq_getElem?_getD, hj])
          exact this)
        refine ⟨?_, by omega⟩
        simp only [allRows, List.mem_append, List.mem_cons, List.not_mem_nil, or_false] at hr
        rcases hr with hr | rfl
        · exact rowsTo_right hc (by omega) hk keys.length (Nat.le_refl _) r hr
        · exact rowF_right hc (by omega) (by omega) (by simp)
      · cases hr
theorem rowsF_len (c : Cfg) (keys : List Key9) : (rowsF c keys).1.length ≤ 26 := by
  unfold rowsF
  split
  · simp
  · split
    · simp
    · split
      · have := rowsTo_len c (2 * keys.length + 1) keys keys.length
        unfold allRows; simp; omega
      · simp
theorem FactorRows_true (c : Cfg) (keys : List Key9) (hkl : keys.length ≤ 9223372036854775807) : Ret pg n_gimballaw16_FactorRows [CV c, .sl (keys.map KV)] (.bool true) := by
  refine gimballaw16_FactorRows.of rfl (W_b ?_)
  unfold gimballaw16_FactorRows.k gimballaw16_FactorRows.res
  have hr := rows_ret c keys hkl
  have hr2 := r16rows_ret c keys hkl
  have hrt := rowsF_right (c := c) (keys := keys)
  have hrl := rowsF_len c keys
  generalize rowsF c keys = L at hr hr2 hrt hrl
  obtain ⟨L, e⟩ := L
  dsimp only at hr hr2 hrt hrl
  simp -dsimp -implicitDefEqProofs (disch := (first | assumption | omega | (simp only [nats_len, List.length_map, List.length_set, List.length_replicate, List.length_append, List.length_range, upto_len, els_len, List.length_cons, List.length_nil] <;> omega) | (apply isPure_intro <;> simp))) only [go_sem, part_CV, CV_isAgg, CV_cells]
  first | refine callB_of (awake16_ret) (by simp) ?_ | refine callP_of (awake16_ret) (by simp) ?_
  simp -dsimp -implicitDefEqProofs (disch := (first | assumption | omega | (simp only [nats_len, List.length_map, List.length_set, List.length_replicate, List.length_append, List.length_range, upto_len, els_len, List.length_cons, List.length_nil] <;> omega) | (apply isPure_intro <;> simp))) only [go_sem, part_CV, CV_isAgg, CV_cells]
  first | refine callB_of (hr) (by simp) ?_ | refine callP_of (hr) (by simp) ?_
  simp -dsimp -implicitDefEqProofs (disch := (first | assumption | omega | (simp only [nats_len, List.length_map, List.length_set, List.length_replicate, List.length_append, List.length_range, upto_len, els_len, List.length_cons, List.length_nil] <;> omega) | (apply isPure_intro <;> simp))) only [go_sem, part_CV, CV_isAgg, CV_cells]
  first | refine callB_of (hr2) (by simp) ?_ | refine callP_of (hr2) (by simp) ?_
  simp -dsimp -implicitDefEqProofs (disch := (first | assumption | omega | (simp only [nats_len, List.length_map, List.length_set, List.length_replicate, List.length_append, List.length_range, upto_len, els_len, List.length_cons, List.length_nil] <;> omega) | (apply isPure_intro <;> simp))) only [go_sem]
  refine W_loop (T := Nat × Nat) (fun t => ⟨E [(1, .sl (keys.map KV)), (5, .bool true), (6, .sl (L.map RV)), (8, .sl (L.map RV)), (10, .int .i64 (t.1 : Int))], fun _ => none, t.2, t.2⟩) (fun t => t.1 ≤ L.length) (fun t => L.length - t.1) (0, _) rfl (by dsimp only; omega) ?_
  rintro ⟨j, nx⟩ j1
  dsimp only at j1
  by_cases hj : j < L.length
  · obtain ⟨h1, h2⟩ := hrt (L.getD j default) (by simp [List.getD_eq_getElem?_getD, hj])
    have hl := h1.len
    have h3 : rightB (L.getD j default) ((2 * keys.length + 1 : Nat) : Int) = true := rightB_iff.2 h1
    have e0 : (2 : Int) * (keys.length : Int) = ((2 * keys.length : Nat) : Int) := by omega
    have e1 : ((2 * keys.length : Nat) : Int) + 1 = ((2 * keys.length + 1 : Nat) : Int) := by omega
    simp -dsimp -implicitDefEqProofs (disch := (first | assumption | omega | (simp only [nats_len, List.length_map, List.length_set, List.length_replicate, List.length_append, List.length_range, upto_len, els_len, List.length_cons, List.length_nil] <;> omega) | (apply isPure_intro <;> simp))) only [go_sem]
    first | refine callB_of (rsame_ret _ _ (by omega) (by omega)) (by simp) ?_ | refine callP_of (rsame_ret _ _ (by omega) (by omega)) (by simp) ?_
    simp -dsimp -implicitDefEqProofs (disch := (first | assumption | omega | (simp only [nats_len, List.length_map, List.length_set, List.length_replicate, List.length_append, List.length_range, upto_len, els_len, List.length_cons, List.length_nil] <;> omega) | (apply isPure_intro <;> simp))) only [go_sem, e0, e1]
    first | refine callB_of (right_ret _ _ (by omega)) (by simp) ?_ | refine callP_of (right_ret _ _ (by omega)) (by simp) ?_
    simp -dsimp -implicitDefEqProofs (disch := (first | assumption | omega | (simp only [nats_len, List.length_map, List.length_set, List.length_replicate, List.length_append, List.length_range, upto_len, els_len, List.length_cons, List.length_nil] <;> omega) | (apply isPure_intro <;> simp))) only [go_sem, h3]
    exact ⟨(j + 1, _), rfl, by dsimp only; omega, by dsimp only; omega⟩
  · obtain rfl : j = L.length := by omega
    simp -dsimp -implicitDefEqProofs (disch := (first | assumption | omega | (simp only [nats_len, List.length_map, List.length_set, List.length_replicate, List.length_append, List.length_range, upto_len, els_len, List.length_cons, List.length_nil] <;> omega) | (apply isPure_intro <;> simp))) only [go_sem]
end Go.Gim

import Derived.Test.YtoehjhcfilonoaaKM4
import Derived.Test.YtoehjhcfilonoaaRR17
/- The rows of keys: the program's are the document's, and each may be. -/
set_option maxRecDepth 100000
set_option maxHeartbeats 4000000
set_option linter.unusedSimpArgs false
set_option linter.unusedVariables false
namespace Go.Gim
open Go.Proofs
theorem setAll_bd {B : Int} : ∀ (qs : List (Nat × Int)) (l : List Int), (∀ a ∈ l, -B ≤ a ∧ a ≤ B) → (∀ q ∈ qs, -B ≤ q.2 ∧ q.2 ≤ B) → ∀ a ∈ setAll l qs, -B ≤ a ∧ a ≤ B
  | [], l, h, _ => h
  | (i, t) :: qs, l, h, hq => setAll_bd qs (l.set i t) (fun a ha => by
      rcases List.mem_or_eq_of_mem_set ha with ha | rfl
      · exact h a ha
      · exact hq (i, a) (by simp)) fun q hm => hq q (by simp [hm])
theorem rowF_right {c : Cfg} {n : Nat} {s z : Int} {qs : List (Nat × Int)} (hc : FineC c) (hn : n ≤ 11) (hz : -1000000000 ≤ z ∧ z ≤ 1000000000) (hq : ∀ q ∈ qs, -1000 ≤ q.2 ∧ q.2 ≤ 1000) : Right4 (rowF c n s z qs) n where
  len := by unfold rowF; rw [setAll_len, List.length_replicate]
  le := hn
  z := hz
  kn := by
    have := hc.k0; have := hc.k1; have := hc.k2; have := hc.k3
    show 1 ≤ kneeC c s ∧ kneeC c s ≤ 32768
    unfold kneeC; (repeat' split) <;> omega
  w := by
    have := hc.w0; have := hc.w1; have := hc.w2; have := hc.w3
    show 1 ≤ wtC c s ∧ wtC c s ≤ 100
    unfold wtC; (repeat' split) <;> omega
  co := setAll_bd qs _ (fun a ha => by
    have := List.eq_of_mem_replicate ha; subst this; omega) hq
theorem mem_has {b : Bool} {l : List Row4} {r : Row4} (h : r ∈ has b l) : b = true ∧ r ∈ l := by
  unfold has at h; split at h
  · rename_i hb; exact ⟨hb, h⟩
  · cases h
theorem keyRows_right {c : Cfg} {n i : Nat} {k : Key9} (hc : FineC c) (hn : n ≤ 11) (hk : KeyOk k) : ∀ r ∈ keyRows c n i k, Right4 r n := by
  have hr := hc.rate
  have hp := prod_bd (a := c.rate) (b := k.dp) (A := 1000) (B := 100000) (by omega) hk.dp
  have h1 := hk.p; have h2 := hk.v; have h3 := hk.h; have h4 := hk.dv; have h5 := hk.t
  intro r hm
  unfold keyRows keyA at hm
  simp only [List.mem_append] at hm
  rcases hm with ((hm | hm) | hm) | hm
  · obtain ⟨hb, hm⟩ := mem_has hm
    simp only [Bool.and_eq_true, decide_eq_true_eq] at hb
    simp only [List.mem_cons, List.not_mem_nil, or_false] at hm
    rcases hm with rfl | rfl
    · exact rowF_right hc hn (by omega) (by simp; omega)
    · exact rowF_right hc hn (by omega) (by simp)
  · obtain ⟨hb, hm⟩ := mem_has hm
    simp only [List.mem_cons, List.not_mem_nil, or_false] at hm
    subst hm
    exact rowF_right hc hn (by omega) (by simp)
  · obtain ⟨hb, hm⟩ := mem_has hm
    simp only [List.mem_cons, List.not_mem_nil, or_false] at hm
    subst hm
    exact rowF_right hc hn (by omega) (by simp)
  · obtain ⟨hb, hm⟩ := mem_has hm
    simp only [List.mem_cons, List.not_mem_nil, or_false] at hm
    subst hm
    exact rowF_right hc hn (by omega) (by simp)
theorem rowsTo_right {c : Cfg} {n : Nat} {keys : List Key9} (hc : FineC c) (hn : n ≤ 11) (hk : ∀ j, j < keys.length → KeyOk (keys.getD j k0)) : ∀ j, j ≤ keys.length → ∀ r ∈ rowsTo c n keys j, Right4 r n
  | 0, _, r, h => by cases h
  | j + 1, hj, r, h => by
    rw [rowsTo, List.mem_append] at h
    rcases h with h | h
    · exact rowsTo_right hc hn hk j (by omega) r h
    · exact keyRows_right hc hn (hk j (by omega)) r h
theorem rowsF_right {c : Cfg} {keys : List Key9} : ∀ r ∈ (rowsF c keys).1, Right4 r (2 * keys.length + 1) ∧ keys.length ≤ 5 := by
  intro r hr
  unfold rowsF at hr
  split at hr
  · cases hr
  · rename_i h0
    split at hr
    · cases hr
    · rename_i h1
      split at hr
      · rename_i h2
        have hc : FineC c := chk_fine.1 (by omega)
        have hk : ∀ j, j < keys.length → KeyOk (keys.getD j k0) := fun j hj => keyB_iff.1 (by
          have := List.all_eq_true.1 h2 (keys.getD j k0) (by simp [List.getD_eq_getElem?_getD, hj])
          exact this)
        refine ⟨?_, by omega⟩
        simp only [allRows, List.mem_append, List.mem_cons, List.not_mem_nil, or_false] at hr
        rcases hr with hr | rfl
        · exact rowsTo_right hc (by omega) hk keys.length (Nat.le_refl _) r hr
        · exact rowF_right hc (by omega) (by omega) (by simp)
      · cases hr
theorem rowsF_len (c : Cfg) (keys : List Key9) : (rowsF c keys).1.length ≤ 26 := by
  unfold rowsF
  split
  · simp
  · split
    · simp
    · split
      · have := rowsTo_len c (2 * keys.length + 1) keys keys.length
        unfold allRows; simp; omega
      · simp
end Go.Gim
/- Rows made of a state's own places and speeds lack nothing there. -/
set_option maxRecDepth 100000
set_option maxHeartbeats 4000000
set_option linter.unusedSimpArgs false
set_option linter.unusedVariables false
namespace Go.Gim
open Go.Proofs
def keyP (c : Cfg) (ps ss : List Int) (i : Nat) : Key9 := ⟨true, true, true, ps.getD i 0, ss.getD i 0, ps.getD i 0,
  if 0 < i then ss.getD i 0 - ss.getD (i - 1) 0 else 0, if 0 < i then ps.getD i 0 - ps.getD (i - 1) 0 - ss.getD (i - 1) 0 else 0, if 0 < i then c.rate else 0⟩
def keysP (c : Cfg) (ps ss : List Int) (j : Nat) : List Key9 := (List.range j).map (keyP c ps ss)
def stP (ps ss : List Int) : Nat → List Int
  | 0 => []
  | j + 1 => stP ps ss j ++ [ps.getD j 0, ss.getD j 0]
theorem stP_len (ps ss : List Int) : ∀ j, (stP ps ss j).length = 2 * j
  | 0 => rfl
  | j + 1 => by rw [stP, List.length_append, stP_len ps ss j]; simp; omega
theorem stP_get (ps ss l : List Int) : ∀ j i, i < j → (stP ps ss j ++ l).getD (2 * i) 0 = ps.getD i 0 ∧ (stP ps ss j ++ l).getD (2 * i + 1) 0 = ss.getD i 0
  | j + 1, i, h => by
    have hl := stP_len ps ss j
    by_cases hi : i < j
    · rw [stP, List.append_assoc]; exact stP_get ps ss _ j i hi
    · obtain rfl : i = j := by omega
      rw [stP, List.append_assoc]
      refine ⟨?_, ?_⟩
      · rw [List.getD_eq_getElem?_getD, List.getElem?_append_right (by omega), hl]; simp
      · rw [List.getD_eq_getElem?_getD, List.getElem?_append_right (by omega), hl, show 2 * i + 1 - 2 * i = 1 by omega]; simp
theorem stP_bd {ps ss : List Int} : ∀ j, (∀ m, m < j → (-300 ≤ ps.getD m 0 ∧ ps.getD m 0 ≤ 300) ∧ (-300 ≤ ss.getD m 0 ∧ ss.getD m 0 ≤ 300)) → ∀ v ∈ stP ps ss j, -300 ≤ v ∧ v ≤ 300
  | 0, _, v, hv => by cases hv
  | j + 1, h, v, hv => by
    rw [stP, List.mem_append] at hv
    rcases hv with hv | hv
    · exact stP_bd j (fun m hm => h m (by omega)) v hv
    · have := h j (by omega)
      simp only [List.mem_cons, List.not_mem_nil, or_false] at hv
      rcases hv with rfl | rfl
      · exact this.1
      · exact this.2
theorem dot_set (S : List Int) (i : Nat) (t : Int) : ∀ (n : Nat) (l : List Int), n ≤ l.length → dotN (l.set i t) S n = dotN l S n + (if i < n then (t - l.getD i 0) * S.getD i 0 else 0)
  | 0, l, _ => by simp [dotN]
  | n + 1, l, h => by
    rw [dotN, dotN, dot_set S i t n l (by omega)]
    by_cases e : n = i
    · subst e
      rw [if_neg (by omega), if_pos (by omega)]
      have : (l.set n t).getD n 0 = t := by simp [List.getD_eq_getElem?_getD, show n < l.length by omega]
      rw [this]; grind
    · have : (l.set i t).getD n 0 = l.getD n 0 := by simp [List.getD_eq_getElem?_getD, List.getElem?_set_ne (Ne.symm e)]
      rw [this]
      by_cases hi : i < n
      · rw [if_pos hi, if_pos (by omega)]; grind
      · rw [if_neg hi, if_neg (by omega)]; omega
def dotQ (S : List Int) : List (Nat × Int) → Int
  | [] => 0
  | (i, t) :: qs => t * S.getD i 0 + dotQ S qs
theorem dot_all (S : List Int) (n : Nat) : ∀ (qs : List (Nat × Int)) (l : List Int), l.length = n → (∀ q ∈ qs, q.1 < n ∧ l.getD q.1 0 = 0) → (qs.map (·.1)).Nodup → dotN (setAll l qs) S n = dotN l S n + dotQ S qs
  | [], l, _, _, _ => by simp [setAll, dotQ]
  | (i, t) :: qs, l, hl, hq, hn => by
    obtain ⟨h1, h2⟩ := hq (i, t) (by simp)
    simp only [List.map_cons, List.nodup_cons] at hn
    rw [setAll, dot_all S n qs (l.set i t) (by rw [List.length_set, hl]) (fun q hm => by
      obtain ⟨g1, g2⟩ := hq q (by simp [hm])
      have hne : i ≠ q.1 := fun e => hn.1 (by rw [e]; exact List.mem_map_of_mem (f := fun x : Nat × Int => x.1) hm)
      have e : (l.set i t).getD q.1 0 = l.getD q.1 0 := by simp [List.getD_eq_getElem?_getD, List.getElem?_set_ne hne]
      exact ⟨g1, by rw [e]; exact g2⟩) hn.2, dot_set S i t n l (by omega), if_pos h1]
    dsimp only at h2
    rw [h2, dotQ]; grind
theorem dot_zero (S : List Int) (m : Nat) : ∀ n, n ≤ m → dotN (List.replicate m 0) S n = 0
  | 0, _ => rfl
  | n + 1, h => by rw [dotN, dot_zero S m n (by omega)]; simp [List.getD_eq_getElem?_getD, show n < m by omega]
theorem lack_row {c : Cfg} {n : Nat} {s z : Int} {qs : List (Nat × Int)} {S : List Int} (hq : ∀ q ∈ qs, q.1 < n) (hn : (qs.map (·.1)).Nodup) (h : dotQ S qs = z) : residR (rowF c n s z qs) S = 0 := by
  have e : rawR (rowF c n s z qs) S = 0 := by
    unfold rawR rowF
    dsimp only
    rw [setAll_len, List.length_replicate, dot_all S n qs _ (by simp) (fun q hm => ⟨hq q hm, by simp [List.getD_eq_getElem?_getD, hq q hm]⟩) hn, dot_zero S n n (Nat.le_refl _), h]
    omega
  unfold residR; rw [e]; omega
theorem keysP_get (c : Cfg) (ps ss : List Int) {j i : Nat} (h : i < j) : (keysP c ps ss j).getD i k0 = keyP c ps ss i := by
  unfold keysP; rw [range_getD k0 h]
theorem keyP_ok {c : Cfg} {ps ss : List Int} {j : Nat} (hc : FineC c) (h : ∀ m, m < j → (-300 ≤ ps.getD m 0 ∧ ps.getD m 0 ≤ 300) ∧ (-300 ≤ ss.getD m 0 ∧ ss.getD m 0 ≤ 300)) (i : Nat) (hi : i < j) : KeyOk (keyP c ps ss i) := by
  have h1 := h i hi
  have h2 := h (i - 1) (by omega)
  have hr := hc.rate
  refine ⟨?_, ?_, ?_, ?_, ?_, ?_⟩ <;> unfold keyP <;> dsimp only <;> (try split) <;> omega
theorem lack_keys {c : Cfg} {ps ss : List Int} {k i : Nat} (hi : i < k) : ∀ r ∈ keyRows c (2 * k + 1) i (keyP c ps ss i), residR r (stP ps ss k ++ [0]) = 0 := by
  obtain ⟨g1, g2⟩ := stP_get ps ss [0] k i hi
  have hl := stP_len ps ss k
  have gz : (stP ps ss k ++ [0]).getD (2 * k) 0 = 0 := by simp only [List.getD_eq_getElem?_getD]; rw [List.getElem?_append_right (by omega), hl]; simp
  intro r hm
  unfold keyRows keyA at hm
  simp only [List.mem_append] at hm
  rcases hm with ((hm | hm) | hm) | hm
  · obtain ⟨hb, hm⟩ := mem_has hm
    simp only [Bool.and_eq_true, decide_eq_true_eq] at hb
    obtain ⟨f1, f2⟩ := stP_get ps ss [0] k (i - 1) (by omega)
    rw [show 2 * (i - 1) = 2 * i - 2 by omega] at f1
    rw [show 2 * (i - 1) + 1 = 2 * i - 1 by omega] at f2
    simp only [List.mem_cons, List.not_mem_nil, or_false] at hm
    rcases hm with rfl | rfl
    · refine lack_row (by simp; omega) (by simp; omega) ?_
      simp only [dotQ, g1, f1, f2, keyP, if_pos hb.1]; grind
    · refine lack_row (by simp; omega) (by simp; omega) ?_
      simp only [dotQ, g2, f2, keyP, if_pos hb.1]; grind
  · obtain ⟨hb, hm⟩ := mem_has hm
    simp only [List.mem_cons, List.not_mem_nil, or_false] at hm
    subst hm
    refine lack_row (by simp; omega) (by simp) ?_
    simp only [dotQ, g1, keyP]; omega
  · obtain ⟨hb, hm⟩ := mem_has hm
    simp only [List.mem_cons, List.not_mem_nil, or_false] at hm
    subst hm
    refine lack_row (by simp; omega) (by simp) ?_
    simp only [dotQ, g2, keyP]; omega
  · obtain ⟨hb, hm⟩ := mem_has hm
    simp only [List.mem_cons, List.not_mem_nil, or_false] at hm
    subst hm
    refine lack_row (by simp; omega) (by simp; omega) ?_
    rw [show 2 * k + 1 - 1 = 2 * k by omega]
    simp only [dotQ, g1, gz, keyP]; omega
theorem lack_to {c : Cfg} {ps ss : List Int} {k : Nat} : ∀ j, j ≤ k → ∀ r ∈ rowsTo c (2 * k + 1) (keysP c ps ss k) j, residR r (stP ps ss k ++ [0]) = 0
  | 0, _, r, h => by cases h
  | j + 1, hj, r, h => by
    rw [rowsTo, List.mem_append, keysP_get c ps ss (by omega)] at h
    rcases h with h | h
    · exact lack_to j (by omega) r h
    · exact lack_keys (by omega) r h
theorem lack_all {c : Cfg} {ps ss : List Int} {k : Nat} : ∀ r ∈ allRows c (keysP c ps ss k), residR r (stP ps ss k ++ [0]) = 0 := by
  have hk : (keysP c ps ss k).length = k := by unfold keysP; simp
  have hl := stP_len ps ss k
  have gz : (stP ps ss k ++ [0]).getD (2 * k) 0 = 0 := by simp only [List.getD_eq_getElem?_getD]; rw [List.getElem?_append_right (by omega), hl]; simp
  intro r h
  unfold allRows at h
  rw [hk] at h
  simp only [List.mem_append, List.mem_cons, List.not_mem_nil, or_false] at h
  rcases h with h | rfl
  · exact lack_to k (Nat.le_refl _) r h
  · refine lack_row (by simp) (by simp) ?_
    simp only [dotQ, gz]; omega
theorem cost_zero {r : Row4} {x : List Int} {n : Nat} (h : Right4 r n) : costR r x = 0 ↔ residR r x = 0 := by
  have hw := h.w
  have hk := h.kn
  have hb := residR_bd r x
  unfold costR
  generalize residR r x = a at hb
  have hc : clampR a = a := by unfold clampR; omega
  have hck : clampK r.kn = r.kn := by unfold clampK; omega
  have key : hRho a r.kn = 0 ↔ a = 0 := by
    unfold hRho sizeR
    rw [hc, hck]
    split
    · constructor
      · intro h; rcases Int.mul_eq_zero.1 h with h | h <;> exact h
      · rintro rfl; rfl
    · rename_i hs
      constructor
      · intro h0
        exfalso
        generalize hm : max a (-a) = m at *
        have : 0 < r.kn * (2 * m - r.kn) := Int.mul_pos (by omega) (by omega)
        grind
      · intro h0; subst h0; omega
  rw [Int.mul_eq_zero, key]
  omega
end Go.Gim
/- Rows made of a state's own places and speeds: the law. -/
set_option maxRecDepth 100000
set_option maxHeartbeats 4000000
set_option linter.unusedSimpArgs false
set_option linter.unusedVariables false
namespace Go.Gim
open Go.Proofs
theorem effB_row2 {lo nx : Nat} {H H0 : Hp} {id es bytes c : Nat} {v e f : V} {xs : List V} {K : V → Hp → Prop} {u : Dep K} (hr : Row lo H0 nx v es xs) (hlo : lo ≤ nx) (hH : H = H0.upd c (some ⟨[e, f], es⟩)) (hc : nx ≤ c) (hid : c < id) (he : rowOk es [e, f] = true) (h0 : 0 < es)
    (hb : (xs.length + 2) * bytes ≤ 140737488355328) (hb2 : xs.length + 2 ≤ 140737488355328) (hk : ∀ v' H', Row lo H' (id + 1) v' es (xs ++ [e, f]) → (∀ b, b < nx → (∀ n, v ≠ .own b n) → H' b = H0 b) → K v' H') :
    effB (effV H id (.app es bytes) [v, .own c 2]) K u := by
  subst hH
  have hcc : (H0.upd c (some ⟨[e, f], es⟩)) c = some ⟨[e, f], es⟩ := Hp.upd_same _ _ _
  have hs : slOf (H0.upd c (some ⟨[e, f], es⟩)) (.own c 2) = some [e, f] := by simp [slOf, hcc]
  rcases hr with ⟨rfl, rfl⟩ | ⟨b, rfl, h1, h2, h3⟩
  · refine effB_of (app_nil (e := e) (l := [f]) hs he h0 (by simpa using hb) (by simp)) (hk _ _ (.inr ⟨id, rfl, by omega, by omega, by simp [Hp.upd_same]⟩) fun b hb _ => ?_)
    rw [Hp.upd_ne _ _ (by omega), Hp.upd_ne _ _ (by omega)]
  · have h3' : (H0.upd c (some ⟨[e, f], es⟩)) b = some ⟨xs, es⟩ := by rw [Hp.upd_ne _ _ (by omega)]; exact h3
    refine effB_of (app_own hs he h0 h3' rfl rfl (by simpa using hb) (by simpa using hb2) (by simp [V.notIn]; omega)) (hk _ _ (.inr ⟨id, by simp, by omega, by omega, by simp [Hp.upd_same]⟩) fun b' hb' hne => ?_)
    have : b' ≠ b := fun e => hne _ (by rw [e])
    rw [Hp.upd_ne _ _ (by omega), Hp.upd_ne _ _ this, Hp.upd_ne _ _ (by omega)]
theorem Row.not_row {lo lo' nx nx' es es' : Nat} {H : Hp} {v w : V} {xs ys : List V} (h : Row lo H nx v es xs) (hw : Row lo' H nx' w es' ys) (hne : es ≠ es') : Sep v w := fun b n m h1 h2 => by
  rcases h with ⟨h, _⟩ | ⟨d, e1, e2, e3, e4⟩
  · rw [h] at h1; cases h1
  · rw [e1] at h1; cases h1
    rcases hw with ⟨g, _⟩ | ⟨d', g1, g2, g3, g4⟩
    · rw [g] at h2; cases h2
    · rw [g1] at h2; cases h2
      rw [e4] at g4; cases g4; exact hne rfl
attribute [local go_sem] KV_cells KV_isAgg part_KV
theorem FactorFits_true (c : Cfg) (ps ss x : List Int) (hps : ps.length ≤ 9223372036854775807) (hss : ss.length ≤ 9223372036854775807) (hx : x.length ≤ 9223372036854775807) (bp : ∀ v ∈ ps, In64 v) (bs : ∀ v ∈ ss, In64 v) : Ret pg n_gimballaw16_FactorFits [CV c, ints ps, ints ss, ints x] (.bool true) := by
  refine gimballaw16_FactorFits.of rfl (W_b ?_)
  unfold gimballaw16_FactorFits.k gimballaw16_FactorFits.res
  simp -dsimp -implicitDefEqProofs (disch := (first | assumption | omega | (simp only [nats_len, List.length_map, List.length_set, List.length_replicate, List.length_append, List.length_range, upto_len, els_len, List.length_cons, List.length_nil] <;> omega) | (apply isPure_intro <;> simp))) only [go_sem, part_CV, CV_isAgg, CV_cells]
  first | refine callB_of (awake16_ret) (by simp) ?_ | refine callP_of (awake16_ret) (by simp) ?_
  simp -dsimp -implicitDefEqProofs (disch := (first | assumption | omega | (simp only [nats_len, List.length_map, List.length_set, List.length_replicate, List.length_append, List.length_range, upto_len, els_len, List.length_cons, List.length_nil] <;> omega) | (apply isPure_intro <;> simp))) only [go_sem, part_CV, CV_isAgg, CV_cells]
  first | refine callB_of (check_ret c) (by simp) ?_ | refine callP_of (check_ret c) (by simp) ?_
  rcases chk_two c with ⟨h1, h2, h3⟩ | ⟨h1, h2, h3⟩
  · have hne : binV .neq (.str (chk c).1) (.str ⟨#[]⟩) = some (.bool false) := by rw [h2]; simp [binV, strV]
    by_cases hl1 : (ps.length : Int) < 1
    · simp -dsimp -implicitDefEqProofs (disch := (first | assumption | omega | (simp only [nats_len, List.length_map, List.length_set, List.length_replicate, List.length_append, List.length_range, upto_len, els_len, List.length_cons, List.length_nil] <;> omega) | (apply isPure_intro <;> simp))) only [go_sem, hne, hl1]
    · by_cases hl5 : (5 : Int) < (ps.length : Int)
      · simp -dsimp -implicitDefEqProofs (disch := (first | assumption | omega | (simp only [nats_len, List.length_map, List.length_set, List.length_replicate, List.length_append, List.length_range, upto_len, els_len, List.length_cons, List.length_nil] <;> omega) | (apply isPure_intro <;> simp))) only [go_sem, hne, hl1, hl5]
      · by_cases hls : (ss.length : Int) = (ps.length : Int)
        · have hn5 : ps.length ≤ 5 := by omega
          simp -dsimp -implicitDefEqProofs (disch := (first | assumption | omega | (simp only [nats_len, List.length_map, List.length_set, List.length_replicate, List.length_append, List.length_range, upto_len, els_len, List.length_cons, List.length_nil] <;> omega) | (apply isPure_intro <;> simp))) only [go_sem, hne, hl1, hl5, hls]
          refine W_loop (T := Nat × Hp × Nat × V × V) (fun t => ⟨E [(1, ints ps), (2, ints ss), (3, ints x), (4, .pp (CV c)), (9, .bool true), (12, t.2.2.2.1), (13, t.2.2.2.2), (14, .int .i64 (t.1 : Int))], t.2.1, t.2.2.1, t.2.2.1⟩)
            (fun t => t.1 ≤ ps.length ∧ Row 0 t.2.1 t.2.2.1 t.2.2.2.1 9 ((keysP c ps ss t.1).map KV) ∧ Row 0 t.2.1 t.2.2.1 t.2.2.2.2 1 ((stP ps ss t.1).map (V.int .i64)) ∧ ∀ m, m < t.1 → (-300 ≤ ps.getD m 0 ∧ ps.getD m 0 ≤ 300) ∧ (-300 ≤ ss.getD m 0 ∧ ss.getD m 0 ≤ 300))
            (fun t => ps.length - t.1) (0, _, _, .nil, .nil) rfl ⟨by dsimp only; omega, Row.nil _ _ _ _, Row.nil _ _ _ _, fun m hm => absurd hm (Nat.not_lt_zero _)⟩ ?_
          rintro ⟨j, H, nx, kv, sv⟩ ⟨j1, j2, j3, j4⟩
          dsimp only at j1 j2 j3 j4
          by_cases hj : j < ps.length
          · have hjs : j < ss.length := by omega
            have hkl : (keysP c ps ss j).length = j := by unfold keysP; simp
            have hsl := stP_len ps ss j
            by_cases b1 : ps.getD j 0 < -300
            · simp -dsimp -implicitDefEqProofs (disch := (first | assumption | omega | (simp only [nats_len, List.length_map, List.length_set, List.length_replicate, List.length_append, List.length_range, upto_len, els_len, List.length_cons, List.length_nil] <;> omega) | (apply isPure_intro <;> simp))) only [go_sem, b1]
            · by_cases b2 : 300 < ps.getD j 0
              · simp -dsimp -implicitDefEqProofs (disch := (first | assumption | omega | (simp only [nats_len, List.length_map, List.length_set, List.length_replicate, List.length_append, List.length_range, upto_len, els_len, List.length_cons, List.length_nil] <;> omega) | (apply isPure_intro <;> simp))) only [go_sem, b1, b2]
              · by_cases b3 : ss.getD j 0 < -300
                · simp -dsimp -implicitDefEqProofs (disch := (first | assumption | omega | (simp only [nats_len, List.length_map, List.length_set, List.length_replicate, List.length_append, List.length_range, upto_len, els_len, List.length_cons, List.length_nil] <;> omega) | (apply isPure_intro <;> simp))) only [go_sem, b1, b2, b3]
                · by_cases b4 : 300 < ss.getD j 0
                  · simp -dsimp -implicitDefEqProofs (disch := (first | assumption | omega | (simp only [nats_len, List.length_map, List.length_set, List.length_replicate, List.length_append, List.length_range, upto_len, els_len, List.length_cons, List.length_nil] <;> omega) | (apply isPure_intro <;> simp))) only [go_sem, b1, b2, b3, b4]
                  · have j5 : ∀ m, m < j + 1 → (-300 ≤ ps.getD m 0 ∧ ps.getD m 0 ≤ 300) ∧ (-300 ≤ ss.getD m 0 ∧ ss.getD m 0 ≤ 300) := fun m hm => by
                      by_cases e : m < j
                      · exact j4 m e
                      · obtain rfl : m = j := by omega
                        exact ⟨⟨by omega, by omega⟩, by omega, by omega⟩
                    have hk9 : (keysP c ps ss (j + 1)).map KV = (keysP c ps ss j).map KV ++ [KV (keyP c ps ss j)] := by unfold keysP; rw [List.range_succ]; simp
                    by_cases hj0 : (0 : Int) < (j : Int)
                    · have hjp : 0 < j := by omega
                      obtain ⟨q1, q2⟩ := j5 (j - 1) (by omega)
                      have e3 : (j : Int) - 1 = ((j - 1 : Nat) : Int) := by omega
                      simp -dsimp -implicitDefEqProofs (disch := (first | assumption | omega | (simp only [nats_len, List.length_map, List.length_set, List.length_replicate, List.length_append, List.length_range, upto_len, els_len, List.length_cons, List.length_nil] <;> omega) | (apply isPure_intro <;> simp))) only [go_sem, b1, b2, b3, b4, hj0, CV_cells, CV_isAgg, e3]
                      refine effB_row (nx := nx + 83) (j2.same (fun b hb => Hp.upd_ne _ _ (by omega)) (by omega)) (Nat.zero_le _) rfl (Nat.le_refl _) (by omega) rfl (by omega) (by simp only [List.length_map]; omega) (by simp only [List.length_map]; omega) fun kv1 H1 r1 r2 r3 r4 => ?_
                      have s1 : Row 0 H1 (nx + 83) sv 1 ((stP ps ss j).map (V.int .i64)) := Row.keep (v := kv) (j3.same (H' := H.upd (nx + 43) _) (fun b hb => Hp.upd_ne _ _ (by omega)) (by omega)) r3 ((j2.not_row j3 (by decide))) (Nat.le_refl _)
                      replace r1 : Row 0 H1 (nx + 83 + 1 + 1) kv1 9 ((keysP c ps ss (j + 1)).map KV) := by
                        rw [hk9, show KV (keyP c ps ss j) = V.agg [.bool true, .bool true, .bool true, .int .i64 (ps.getD j 0), .int .i64 (ss.getD j 0), .int .i64 (ps.getD j 0), .int .i64 (ss.getD j 0 - ss.getD (j - 1) 0), .int .i64 (ps.getD j 0 - ps.getD (j - 1) 0 - ss.getD (j - 1) 0), .int .i64 c.rate] from by unfold keyP KV; dsimp only; rw [if_pos hjp, if_pos hjp, if_pos hjp]]; exact r1
                      clear r2 r3 r4
                      simp -dsimp -implicitDefEqProofs (disch := (first | assumption | omega | (simp only [nats_len, List.length_map, List.length_set, List.length_replicate, List.length_append, List.length_range, upto_len, els_len, List.length_cons, List.length_nil] <;> omega) | (apply isPure_intro <;> simp))) only [go_sem]
                      refine effB_row2 (nx := nx + 83 + 1 + 1) (s1.same (fun _ _ => rfl) (by omega)) (Nat.zero_le _) rfl (by omega) (by omega) rfl (by omega) (by simp only [List.length_map]; omega) (by simp only [List.length_map]; omega) fun sv1 H2 t1 t2 => ?_
                      have k1 := r1.keep (v := sv) (H' := H2) (nx' := _) t2 (s1.not_row r1 (by decide)) (Nat.le_refl _)
                      have hst : (stP ps ss (j + 1)).map (V.int .i64) = (stP ps ss j).map (V.int .i64) ++ [.int .i64 (ps.getD j 0), .int .i64 (ss.getD j 0)] := by rw [stP, List.map_append]; rfl
                      rw [← hst] at t1
                      clear t2 r1 s1
                      simp -dsimp -implicitDefEqProofs (disch := (first | assumption | omega | (simp only [nats_len, List.length_map, List.length_set, List.length_replicate, List.length_append, List.length_range, upto_len, els_len, List.length_cons, List.length_nil] <;> omega) | (apply isPure_intro <;> simp))) only [go_sem]
                      exact ⟨(j + 1, H2, _, kv1, sv1), rfl, ⟨by dsimp only; omega, k1.same (fun _ _ => rfl) (by first | omega | (dsimp only; omega)), t1.same (fun _ _ => rfl) (by first | omega | (dsimp only; omega)), j5⟩, by dsimp only; omega⟩
                    · have hjp : ¬ 0 < j := by omega
                      simp -dsimp -implicitDefEqProofs (disch := (first | assumption | omega | (simp only [nats_len, List.length_map, List.length_set, List.length_replicate, List.length_append, List.length_range, upto_len, els_len, List.length_cons, List.length_nil] <;> omega) | (apply isPure_intro <;> simp))) only [go_sem, b1, b2, b3, b4, hj0]
                      refine effB_row (nx := nx + 49) (j2.same (fun b hb => Hp.upd_ne _ _ (by omega)) (by omega)) (Nat.zero_le _) rfl (Nat.le_refl _) (by omega) rfl (by omega) (by simp only [List.length_map]; omega) (by simp only [List.length_map]; omega) fun kv1 H1 r1 r2 r3 r4 => ?_
                      have s1 : Row 0 H1 (nx + 49) sv 1 ((stP ps ss j).map (V.int .i64)) := Row.keep (v := kv) (j3.same (H' := H.upd (nx + 43) _) (fun b hb => Hp.upd_ne _ _ (by omega)) (by omega)) r3 ((j2.not_row j3 (by decide))) (Nat.le_refl _)
                      replace r1 : Row 0 H1 (nx + 49 + 1 + 1) kv1 9 ((keysP c ps ss (j + 1)).map KV) := by
                        rw [hk9, show KV (keyP c ps ss j) = V.agg [.bool true, .bool true, .bool true, .int .i64 (ps.getD j 0), .int .i64 (ss.getD j 0), .int .i64 (ps.getD j 0), .int .i64 0, .int .i64 0, .int .i64 0] from by unfold keyP KV; dsimp only; rw [if_neg hjp, if_neg hjp, if_neg hjp]]; exact r1
                      clear r2 r3 r4
                      simp -dsimp -implicitDefEqProofs (disch := (first | assumption | omega | (simp only [nats_len, List.length_map, List.length_set, List.length_replicate, List.length_append, List.length_range, upto_len, els_len, List.length_cons, List.length_nil] <;> omega) | (apply isPure_intro <;> simp))) only [go_sem]
                      refine effB_row2 (nx := nx + 49 + 1 + 1) (s1.same (fun _ _ => rfl) (by omega)) (Nat.zero_le _) rfl (by omega) (by omega) rfl (by omega) (by simp only [List.length_map]; omega) (by simp only [List.length_map]; omega) fun sv1 H2 t1 t2 => ?_
                      have k1 := r1.keep (v := sv) (H' := H2) (nx' := _) t2 (s1.not_row r1 (by decide)) (Nat.le_refl _)
                      have hst : (stP ps ss (j + 1)).map (V.int .i64) = (stP ps ss j).map (V.int .i64) ++ [.int .i64 (ps.getD j 0), .int .i64 (ss.getD j 0)] := by rw [stP, List.map_append]; rfl
                      rw [← hst] at t1
                      clear t2 r1 s1
                      simp -dsimp -implicitDefEqProofs (disch := (first | assumption | omega | (simp only [nats_len, List.length_map, List.length_set, List.length_replicate, List.length_append, List.length_range, upto_len, els_len, List.length_cons, List.length_nil] <;> omega) | (apply isPure_intro <;> simp))) only [go_sem]
                      exact ⟨(j + 1, H2, _, kv1, sv1), rfl, ⟨by dsimp only; omega, k1.same (fun _ _ => rfl) (by first | omega | (dsimp only; omega)), t1.same (fun _ _ => rfl) (by first | omega | (dsimp only; omega)), j5⟩, by dsimp only; omega⟩
          · obtain rfl : j = ps.length := by omega
            simp -dsimp -implicitDefEqProofs (disch := (first | assumption | omega | (simp only [nats_len, List.length_map, List.length_set, List.length_replicate, List.length_append, List.length_range, upto_len, els_len, List.length_cons, List.length_nil] <;> omega) | (apply isPure_intro <;> simp))) only [go_sem]
            have hsl := stP_len ps ss ps.length
            have hkl : (keysP c ps ss ps.length).length = ps.length := by unfold keysP; simp
            refine effB_row (nx := nx + 5) (j3.same (fun _ _ => rfl) (by omega)) (Nat.zero_le _) rfl (Nat.le_refl _) (by omega) rfl (by omega) (by simp only [List.length_map]; omega) (by simp only [List.length_map]; omega) fun sv1 H1 r1 r2 r3 r4 => ?_
            have k1 : Row 0 H1 (nx + 5) kv 9 ((keysP c ps ss ps.length).map KV) := Row.keep (v := sv) (j2.same (fun _ _ => rfl) (by omega)) r3 (j3.not_row j2 (by decide)) (Nat.le_refl _)
            have hst : (stP ps ss ps.length ++ [0]).map (V.int .i64) = (stP ps ss ps.length).map (V.int .i64) ++ [.int .i64 0] := by rw [List.map_append]; rfl
            rw [← hst] at r1
            have hlack := lack_all (c := c) (ps := ps) (ss := ss) (k := ps.length)
            have hS : State (stP ps ss ps.length ++ [0]) := fun v hv => by
              rcases List.mem_append.1 hv with hv | hv
              · have := stP_bd ps.length j4 v hv; omega
              · simp at hv; subst hv; omega
            have hSl : (stP ps ss ps.length ++ [0]).length = 2 * ps.length + 1 := by rw [List.length_append, hsl]; rfl
            have hrows : rowsF c (keysP c ps ss ps.length) = (allRows c (keysP c ps ss ps.length), 0) := by
              have hall : (keysP c ps ss ps.length).all keyB = true := by
                rw [List.all_eq_true]
                intro k hk
                unfold keysP at hk
                obtain ⟨m, hm, rfl⟩ := List.mem_map.1 hk
                exact keyB_iff.2 (keyP_ok h3 j4 m (List.mem_range.1 hm))
              unfold rowsF
              rw [if_neg (by omega), if_neg (by omega), if_pos hall]
            have hrr := rows_ret c (keysP c ps ss ps.length) (by omega)
            have hright := rowsF_right (c := c) (keys := keysP c ps ss ps.length)
            have hlen := rowsF_len c (keysP c ps ss ps.length)
            rw [hrows] at hrr hright hlen
            dsimp only at hrr hright hlen
            rw [hkl] at hright
            generalize allRows c (keysP c ps ss ps.length) = L at hrr hright hlack hlen
            generalize hKK : keysP c ps ss ps.length = KK at k1 hkl hrr
            generalize hSS : stP ps ss ps.length ++ [0] = S at r1 hlack hS hSl
            obtain ⟨bk, rfl, _, k2, k3⟩ := k1.own_of (by rw [List.length_map]; omega)
            obtain ⟨bs', rfl, _, s2, s3⟩ := r1.own_of (by rw [List.length_map]; omega)
            have hneb : (bs' = bk) = False := eq_false fun e => by
              rw [e, k3] at s3
              injection s3 with s3
              injection s3 with _ s3
              exact absurd s3 (by decide)
            clear r1 r2 r3 r4 k1 j2 j3 hst
            simp -dsimp -implicitDefEqProofs (disch := (first | assumption | omega | (simp only [nats_len, List.length_map, List.length_set, List.length_replicate, List.length_append, List.length_range, upto_len, els_len, List.length_cons, List.length_nil] <;> omega) | (apply isPure_intro <;> simp))) only [go_sem, part_CV, CV_isAgg, CV_cells]
            refine callB_frE (fzp bk (KK.map KV) bs' (S.map (V.int .i64))) (fzp_ok k3 (pure_map KV_pure) s3 pure_ints) (by simp [sub_CV, sub_c_own, fzp, subO]) hrr (by simp) ?_
            have hl1 : (KK.map KV).length = KK.length := List.length_map _
            have hl2 : (S.map (V.int .i64)).length = S.length := List.length_map _
            generalize Hp.sub (fzp bk (KK.map KV) bs' (S.map (V.int .i64))) H1 = G
            simp -dsimp -implicitDefEqProofs (disch := (first | assumption | omega | (simp only [nats_len, List.length_map, List.length_set, List.length_replicate, List.length_append, List.length_range, upto_len, els_len, List.length_cons, List.length_nil] <;> omega) | (apply isPure_intro <;> simp))) only [go_sem, hneb, subO_some hl1, subO_some hl2, sub_CV, ← ints_eq]
            first | refine callB_of (rstate_ret x hx) (by simp) ?_ | refine callP_of (rstate_ret x hx) (by simp) ?_
            simp -dsimp -implicitDefEqProofs (disch := (first | assumption | omega | (simp only [nats_len, List.length_map, List.length_set, List.length_replicate, List.length_append, List.length_range, upto_len, els_len, List.length_cons, List.length_nil] <;> omega) | (apply isPure_intro <;> simp))) only [go_sem]
            refine W_loop (T := Nat × Nat) (fun t => ⟨E [(3, ints x), (9, .bool true), (13, ints S), (16, .sl (L.map RV)), (18, .bool (stateB x)), (19, .int .i64 (t.1 : Int))], G, t.2, t.2⟩) (fun t => t.1 ≤ L.length) (fun t => L.length - t.1) (0, _) rfl (by dsimp only; omega) ?_
            rintro ⟨j, nx2⟩ i1
            dsimp only at i1
            by_cases hjl : j < L.length
            · have hm : L.getD j default ∈ L := by simp [List.getD_eq_getElem?_getD, hjl]
              have hr := (hright _ hm).1
              have hz := hlack _ hm
              rw [← hSl] at hr
              generalize hrw : L.getD j default = r at hr hz
              have hrS := resid_ret r S hr hS
              rw [hz] at hrS
              simp -dsimp -implicitDefEqProofs (disch := (first | assumption | omega | (simp only [nats_len, List.length_map, List.length_set, List.length_replicate, List.length_append, List.length_range, upto_len, els_len, List.length_cons, List.length_nil] <;> omega) | (apply isPure_intro <;> simp))) only [go_sem, hrw, Int.toNat_natCast]
              first | refine callB_of (hrS) (by simp) ?_ | refine callP_of (hrS) (by simp) ?_
              by_cases hmay : stateB x = true
              · by_cases hlen2 : (x.length : Int) = (S.length : Int)
                · have hrx : Right4 r x.length := by rw [show x.length = S.length by omega]; exact hr
                  have hsx := stateB_iff.1 hmay
                  have hcb := costR_bd (x := x) hrx
                  have hcz := cost_zero (x := x) hrx
                  simp -dsimp -implicitDefEqProofs (disch := (first | assumption | omega | (simp only [nats_len, List.length_map, List.length_set, List.length_replicate, List.length_append, List.length_range, upto_len, els_len, List.length_cons, List.length_nil] <;> omega) | (apply isPure_intro <;> simp))) only [go_sem, hmay, hlen2, hrw, Int.toNat_natCast]
                  first | refine callB_of (cost_ret r x hrx hsx) (by simp) ?_ | refine callP_of (cost_ret r x hrx hsx) (by simp) ?_
                  simp -dsimp -implicitDefEqProofs (disch := (first | assumption | omega | (simp only [nats_len, List.length_map, List.length_set, List.length_replicate, List.length_append, List.length_range, upto_len, els_len, List.length_cons, List.length_nil] <;> omega) | (apply isPure_intro <;> simp))) only [go_sem, hrw, Int.toNat_natCast]
                  first | refine callB_of (resid_ret r x hrx hsx) (by simp) ?_ | refine callP_of (resid_ret r x hrx hsx) (by simp) ?_
                  have hge : ¬ costR r x < 0 := by omega
                  by_cases h0 : residR r x = 0
                  · have hc0 := hcz.2 h0
                    simp -dsimp -implicitDefEqProofs (disch := (first | assumption | omega | (simp only [nats_len, List.length_map, List.length_set, List.length_replicate, List.length_append, List.length_range, upto_len, els_len, List.length_cons, List.length_nil] <;> omega) | (apply isPure_intro <;> simp))) only [go_sem, hge, h0, hc0]
                    exact ⟨(j + 1, nx2 + 48), by rw [hmay], by dsimp only; omega, by dsimp only; omega⟩
                  · have hc0 : ¬ costR r x = 0 := fun e => h0 (hcz.1 e)
                    simp -dsimp -implicitDefEqProofs (disch := (first | assumption | omega | (simp only [nats_len, List.length_map, List.length_set, List.length_replicate, List.length_append, List.length_range, upto_len, els_len, List.length_cons, List.length_nil] <;> omega) | (apply isPure_intro <;> simp))) only [go_sem, hge, h0, hc0]
                    exact ⟨(j + 1, nx2 + 48), by rw [hmay], by dsimp only; omega, by dsimp only; omega⟩
                · simp -dsimp -implicitDefEqProofs (disch := (first | assumption | omega | (simp only [nats_len, List.length_map, List.length_set, List.length_replicate, List.length_append, List.length_range, upto_len, els_len, List.length_cons, List.length_nil] <;> omega) | (apply isPure_intro <;> simp))) only [go_sem, hmay, hlen2]
                  exact ⟨(j + 1, _), rfl, by dsimp only; omega, by dsimp only; omega⟩
              · have hmay : stateB x = false := by simpa using hmay
                simp -dsimp -implicitDefEqProofs (disch := (first | assumption | omega | (simp only [nats_len, List.length_map, List.length_set, List.length_replicate, List.length_append, List.length_range, upto_len, els_len, List.length_cons, List.length_nil] <;> omega) | (apply isPure_intro <;> simp))) only [go_sem, hmay]
                exact ⟨(j + 1, _), rfl, by dsimp only; omega, by dsimp only; omega⟩
            · obtain rfl : j = L.length := by omega
              simp -dsimp -implicitDefEqProofs (disch := (first | assumption | omega | (simp only [nats_len, List.length_map, List.length_set, List.length_replicate, List.length_append, List.length_range, upto_len, els_len, List.length_cons, List.length_nil] <;> omega) | (apply isPure_intro <;> simp))) only [go_sem]
        · simp -dsimp -implicitDefEqProofs (disch := (first | assumption | omega | (simp only [nats_len, List.length_map, List.length_set, List.length_replicate, List.length_append, List.length_range, upto_len, els_len, List.length_cons, List.length_nil] <;> omega) | (apply isPure_intro <;> simp))) only [go_sem, hne, hl1, hl5, hls]
  · have hne : binV .neq (.str (chk c).1) (.str ⟨#[]⟩) = some (.bool true) := by
      have : ¬ (chk c).1.toList = (⟨#[]⟩ : ByteArray).toList := fun h => h2 (by
        rw [toList_data, toList_data] at h
        generalize (chk c).1 = b at h
        obtain ⟨⟨l⟩⟩ := b
        have h : l = [] := h
        rw [h])
      simp only [binV, strV, this, decide_false, Bool.not_false]
    simp -dsimp -implicitDefEqProofs (disch := (first | assumption | omega | (simp only [nats_len, List.length_map, List.length_set, List.length_replicate, List.length_append, List.length_range, upto_len, els_len, List.length_cons, List.length_nil] <;> omega) | (apply isPure_intro <;> simp))) only [go_sem, hne]
end Go.Gim

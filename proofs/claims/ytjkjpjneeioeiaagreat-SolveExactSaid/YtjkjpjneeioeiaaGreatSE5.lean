import Derived.Test.YtjkjpjneeioeiaaGreatSA2
import Derived.Test.YtjkjpjneeioeiaaGreatLB2
import Derived.Test.YtjkjpjneeioeiaaGreatSM
import Derived.Test.YtjkjpjneeioeiaaGreatSL1
set_option linter.unusedSimpArgs false
set_option linter.unusedVariables false
/- The first step leads to the nearest state of the exact least one, where all residuals are within their knees; in plain Lean. -/
set_option maxRecDepth 100000
namespace Go.Gim
open Go.Proofs
def psF (rows : List Row4) (t i j : Nat) : Int := sumZ (fun k => (rows.getD k default).w * (rows.getD k default).co.getD i 0 * (rows.getD k default).co.getD j 0) t
def qsF (rows : List Row4) (t i : Nat) : Int := sumZ (fun k => (rows.getD k default).w * (rows.getD k default).co.getD i 0 * (rows.getD k default).z) t
def Within (rows : List Row4) (x : List Int) : Prop := ∀ k, k < rows.length → -(rows.getD k default).kn ≤ zbh (rows.getD k default) x ∧ zbh (rows.getD k default) x ≤ (rows.getD k default).kn
theorem dotN_sum (a x : List Int) : ∀ n, dotN a x n = sumZ (fun j => a.getD j 0 * x.getD j 0) n
 | 0 => rfl
 | n + 1 => by rw [dotN, sumZ, dotN_sum a x n]
theorem resid_raw {r : Row4} {x : List Int} {n : Nat} (hr : Right4 r n) (h : -r.kn ≤ zbh r x ∧ zbh r x ≤ r.kn) : zbh r x = rawR r x := by
 have := hr.kn
 unfold zbh at *
 omega
theorem absR_res (r : Row4) (x : List Int) : absR r x = max (zbh r x) (-zbh r x) := by unfold absR; rfl
theorem share_in {r : Row4} {x : List Int} (h : -r.kn ≤ zbh r x ∧ zbh r x ≤ r.kn) : zgc r x = 1024 := by
 unfold zgc
 rw [if_pos (by rw [absR_res]; omega)]
theorem slope_in {r : Row4} {x : List Int} {n : Nat} (hr : Right4 r n) (h : -r.kn ≤ zbh r x ∧ zbh r x ≤ r.kn) : zf0 r x = r.w * rawR r x := by
 have hk := hr.kn
 have e := resid_raw hr h
 unfold zf0 hSlope sizeR ze3 zdl
 rw [e] at h ⊢
 rw [if_pos (by omega)]
 congr 1
 omega
theorem curve_in {m : Nat} {rows : List Row4} {x : List Int} (hw : Within rows x) {i j : Nat} (hi : i < m) (hj : j < m) : zg6 ⟨m, rows, mirM [] m, List.replicate m 0, 0, 1⟩ x i j = 1024 * psF rows rows.length i j := by
 have e0 : at2 (mirM [] m) i j = 0 := by
  unfold mirM
  rw [zgu hi hj]
  exact at2_zero fun r h => by simp at h
 show zd0 rows (rows.map fun r => r.w * zgc r x) i j rows.length * 1 + at2 (mirM [] m) i j * 1024 = _
 rw [e0, Int.mul_one, Int.zero_mul, Int.add_zero]
 unfold zd0 psF
 rw [← zbq]
 refine zac fun k hk => ?_
 rw [if_pos hk]
 have e : (rows.map fun r => r.w * zgc r x).getD k 0 = (rows.getD k default).w * 1024 := by
  rw [← share_in (hw k hk)]
  simp [List.getD_eq_getElem?_getD, hk]
 rw [e]
 unfold bendAt
 rw [Int.mul_comm _ 1024, Int.mul_assoc 1024, Int.mul_assoc 1024]
theorem steep_in {m : Nat} {rows : List Row4} {x : List Int} (hr : ∀ r ∈ rows, Right4 r m) (hw : Within rows x) (hx : x.length = m) {i : Nat} (hi : i < m) : stepC ⟨m, rows, mirM [] m, List.replicate m 0, 0, 1⟩ x i = sumZ (fun j => psF rows rows.length i j * x.getD j 0) m - qsF rows rows.length i := by
 have hz : za1 (mirM [] m) x m i = 0 := by
  rw [applyAt_eq]
  refine zfv fun k hk => ?_
  have e0 : at2 (mirM [] m) i k = 0 := by
   unfold mirM
   rw [zgu hi hk]
   exact at2_zero fun r h => by simp at h
  rw [e0, Int.zero_mul]
 have hq : (List.replicate m (0 : Int)).getD i 0 = 0 := by
  rw [List.getD_eq_getElem?_getD, List.getElem?_replicate]
  split <;> rfl
 show colS (rows.map fun r => zda r x) rows.length i * 1 + (za1 (mirM [] m) x m i - (List.replicate m (0 : Int)).getD i 0) = _
 rw [hz, hq, Int.mul_one]
 have hc : ∀ t, t ≤ rows.length → colS (rows.map fun r => zda r x) t i = sumZ (fun k => (rows.getD k default).co.getD i 0 * zf0 (rows.getD k default) x) t := by
  intro t
  induction t with
  | zero => intro _; unfold colS; simp [sumL, sumZ]
  | succ t ih =>
   intro h
   rw [colS_step (by simp; omega), ih (by omega), sumZ]
   congr 1
   have e : (rows.map fun r => zda r x).getD t [] = zda (rows.getD t default) x := by simp [List.getD_eq_getElem?_getD, show t < rows.length by omega]
   have hl := (hr _ (zai default (show t < rows.length by omega))).len
   rw [e]
   generalize rows.getD t default = r at *
   unfold zda
   simp [List.getD_eq_getElem?_getD, show i < r.co.length by omega]
 rw [hc _ (Nat.le_refl _)]
 unfold psF qsF
 rw [show sumZ (fun j => sumZ (fun k => (rows.getD k default).w * (rows.getD k default).co.getD i 0 * (rows.getD k default).co.getD j 0) rows.length * x.getD j 0) m = sumZ (fun k => (rows.getD k default).w * (rows.getD k default).co.getD i 0 * dotN (rows.getD k default).co x m) rows.length by
  rw [show (fun j => sumZ (fun k => (rows.getD k default).w * (rows.getD k default).co.getD i 0 * (rows.getD k default).co.getD j 0) rows.length * x.getD j 0) = fun j => sumZ (fun k => (rows.getD k default).w * (rows.getD k default).co.getD i 0 * (rows.getD k default).co.getD j 0 * x.getD j 0) rows.length from funext fun j => (zg0 _ _ _).symm, sg_swap]
  refine zac fun k hk => ?_
  rw [dotN_sum, ← zbq]
  refine zac fun j hj => ?_
  rw [Int.mul_assoc _ _ (x.getD j 0)]]
 rw [← sg_sub, Int.sub_zero, Int.add_zero]
 refine zac fun k hk => ?_
 have hrk := hr _ (zai default hk)
 rw [slope_in hrk (hw k hk)]
 unfold rawR
 rw [hrk.len]
 grind
end Go.Gim
/- The first step leads to the nearest state: determinants and rounding; in plain Lean. -/
set_option maxRecDepth 100000
namespace Go.Gim
open Go.Proofs
theorem fdiv_uni {a b q : Int} (hb : 0 < b) (h1 : b * q ≤ a) (h2 : a < b * q + b) : a.fdiv b = q := by
 rw [Int.fdiv_eq_ediv_of_nonneg _ (by omega)]
 exact ((Int.ediv_emod_unique hb).2 ⟨show (a - b * q) + b * q = a by omega, by omega, by omega⟩).1
def nearZ (num den : Int) : Int := (num * 2 + den).fdiv (den * 2)
theorem fdiv_bd {a b : Int} (hb : 0 < b) : b * a.fdiv b ≤ a ∧ a < b * a.fdiv b + b := by
 have h1 := Int.mul_fdiv_add_fmod a b
 have h2 := Int.fmod_nonneg_of_pos a hb
 have h3 := Int.fmod_lt_of_pos a hb
 omega
theorem nearF_move {N D num den x : Int} (hD : 0 < D) (hd : 0 < den) (h : den * N = D * (num - den * x)) (hb : -10000000 ≤ nearZ num den - x ∧ nearZ num den - x ≤ 10000000) : nearF N D = nearZ num den - x := by
 have e : (2 * N + D).fdiv (2 * D) = nearZ num den - x := by
  unfold nearZ
  have hq := fdiv_bd (a := num * 2 + den) (b := den * 2) (by omega)
  generalize (num * 2 + den).fdiv (den * 2) = q at *
  refine fdiv_uni (by omega) ?_ ?_
  ·refine Int.le_of_mul_le_mul_left (a := den) ?_ hd
   have e1 : den * (2 * D * (q - x)) = D * (den * 2 * q - 2 * (den * x)) := by grind
   have e2 : den * (2 * N + D) = D * (2 * num - 2 * (den * x) + den) := by grind
   rw [e1, e2]
   exact Int.mul_le_mul_of_nonneg_left (by omega) (by omega)
  ·refine Int.lt_of_mul_lt_mul_left (a := den) ?_ (by omega)
   have e1 : den * (2 * D * (q - x) + 2 * D) = D * (den * 2 * q - 2 * (den * x) + 2 * den) := by grind
   have e2 : den * (2 * N + D) = D * (2 * num - 2 * (den * x) + den) := by grind
   rw [e1, e2]
   exact Int.mul_lt_mul_of_pos_left (by omega) hD
 unfold nearF
 rw [e]
 omega
theorem solve_shift {n : Nat} {p : Mx} {q x : Nat → Int} {N num : Nat → Int} {D den : Int} (hdet : det n p ≠ 0) (h1 : ∀ i, i < n → appS n p N i = D * (q i - appS n p x i)) (h2 : ∀ i, i < n → appS n p num i = den * q i) {k : Nat} (hk : k < n) : den * N k = D * (num k - den * x k) := by
 have h3 : ∀ i, i < n → sumZ (fun c => p i c * (den * N c - D * (num c - den * x c))) n = 0 := fun i hi => by
  have a := h1 i hi
  have b := h2 i hi
  unfold appS at a b
  have e : sumZ (fun c => p i c * (den * N c - D * (num c - den * x c))) n = den * sumZ (fun c => p i c * N c) n - D * (sumZ (fun c => p i c * num c) n - den * sumZ (fun c => p i c * x c) n) := by
   rw [← zbq, ← zbq, ← sg_sub, ← zbq, ← sg_sub]
   exact zac fun c _ => by grind
  rw [e, a, b]
  grind
 have : ¬ (den * N k - D * (num k - den * x k) ≠ 0) := fun hv => hdet (col_zero (v := fun c => den * N c - D * (num c - den * x c)) h3 hk hv)
 omega
theorem defS_times {n : Nat} {p : Mx} {c : Int} (hc : 0 < c) (h : defS n p = true) : defS n (fun i j => c * p i j) = true := by
 rw [defS_pd] at h ⊢
 obtain ⟨h1, h2⟩ := h
 refine ⟨fun i j hi hj => by dsimp only; rw [h1 i j hi hj], fun x hx => ?_⟩
 have h3 := h2 x hx
 have e : qS n (fun i j => c * p i j) x = c * qS n p x := by
  unfold qS
  rw [← zbq]
  refine zac fun i _ => ?_
  have e2 : appS n (fun i j => c * p i j) x i = c * appS n p x i := by
   unfold appS
   rw [← zbq]
   exact zac fun j _ => by dsimp only; rw [Int.mul_assoc]
  rw [e2, Int.mul_left_comm]
 rw [e]
 exact Int.mul_pos hc h3
theorem exact_plain {m : Nat} {rows : List Row4} {x near : List Int} {g : Gr} (hg : (⟨m, rows, mirM [] m, List.replicate m 0, 0, 1⟩ : Gr) = g) (ok : GOkay g x) (hr : ∀ r ∈ rows, Right4 r m) (hw : Within rows x) (hdef : defS m (psF rows rows.length) = true)
  (hnear : near = (List.range m).map fun i => nearZ (det m (setC (psF rows rows.length) i (qsF rows rows.length))) (det m (psF rows rows.length))) (hs : State near) (K R : Nat) : valC g (solF g 0 R (K + 1) x 0 0).1 ≤ valC g near := by
 have hgn : g.n = m := by rw [← hg]
 have hxm : x.length = m := by rw [ok.len, hgn]
 have hst := ok.state
 have hA : ∀ i j, i < m → j < m → stepA g x 0 i j = 1024 * psF rows rows.length i j := fun i j hi hj => by
  unfold stepA dampM moreI
  rw [if_pos rfl]
  rw [← hg, curve_in hw hi hj]
  split <;> omega
 have hS : ∀ i, i < m → downS g x i = 1024 * (qsF rows rows.length i - appS m (psF rows rows.length) (fun k => x.getD k 0) i) := fun i hi => by
  unfold downS
  rw [← hg, steep_in hr hw hxm hi]
  unfold appS
  dsimp only
  omega
 have hB : stepB g x 0 = true := by
  unfold stepB
  rw [hgn, defS_congr (N := fun i j => 1024 * psF rows rows.length i j) hA]
  exact defS_times (by decide) hdef
 have hD : 0 < stepE g x 0 := defS_det hB
 have hd : 0 < det m (psF rows rows.length) := defS_det hdef
 have hk : ∀ k, k < m → stepD g x 0 k = near.getD k 0 - x.getD k 0 := fun k hk => by
  have hn := hs.get k
  have hx := hst.get k
  rw [hnear, zaq 0 hk] at hn ⊢
  refine nearF_move hD hd (solve_shift (p := psF rows rows.length) (q := qsF rows rows.length) (x := fun k => x.getD k 0) (N := stepN g x 0) (num := fun i => det m (setC (psF rows rows.length) i (qsF rows rows.length))) (by omega) (fun i hi => ?_) (fun i hi => solve_back _ _ hi) hk) (by omega)
  have hb := solve_back (n := m) (stepA g x 0) (downS g x) hi
  have e : appS m (stepA g x 0) (fun k => det m (setC (stepA g x 0) k (downS g x))) i = 1024 * appS m (psF rows rows.length) (stepN g x 0) i := by
   unfold appS
   rw [← zbq]
   refine zac fun c hc => ?_
   rw [hA i c hi hc, Int.mul_assoc]
   unfold stepN
   rw [hgn]
  have e2 : det m (stepA g x 0) = stepE g x 0 := by unfold stepE; rw [hgn]
  rw [e, e2, hS i hi, Int.mul_left_comm] at hb
  omega
 have hpl : plusL x (stepL g x 0) = near := by
  unfold plusL
  rw [hxm, hnear]
  refine List.map_congr_left fun k hk' => ?_
  have hkm := List.mem_range.1 hk'
  have h1 := hk k hkm
  rw [hnear, zaq 0 hkm] at h1
  unfold stepL
  rw [hgn, zaq 0 hkm]
  omega
 have he := solF_end g 0 R (K + 1) x 0 0
 by_cases hlt : valC g near < valC g x
 ·have hne : ¬ near = x := fun h => by rw [h] at hlt; omega
  have hany : ((stepL g x 0).any fun a => !decide (a = 0)) = true := by
   cases h : (stepL g x 0).any fun a => !decide (a = 0)
   ·exfalso
    have h0 : ∀ a ∈ stepL g x 0, a = 0 := fun a ha => by
     have := List.any_eq_false.1 h a ha
     simpa using this
    refine hne ?_
    rw [← hpl]
    unfold plusL
    refine List.ext_getElem (by simp) fun k h1 h2 => ?_
    have hkm : k < m := by rw [List.length_map, List.length_range] at h1; omega
    have e1 : (stepL g x 0).getD k 0 = 0 := h0 _ (zai 0 (by simp [stepL, hgn]; exact hkm))
    rw [List.getElem_map, List.getElem_range, e1, Int.add_zero]
    simp [List.getD_eq_getElem?_getD, h2]
   ·rfl
  have hnf : flatB g x 0 = false := by
   cases h : flatB g x 0
   ·rfl
   ·exfalso
    refine hne ?_
    have h0 : ∀ i, i < m → downS g x i = 0 := fun i hi => by
     unfold flatB at h
     have h2 := List.all_eq_true.1 h (stepC g x i) (List.mem_map.2 ⟨i, List.mem_range.2 (by omega), rfl⟩)
     simp only [Int.mul_zero, Bool.and_eq_true, decide_eq_true_eq] at h2
     unfold downS
     omega
    rw [← hpl]
    unfold plusL
    refine List.ext_getElem (by simp) fun k h1 h2 => ?_
    have hkm : k < m := by rw [List.length_map, List.length_range] at h1; omega
    have e1 : (stepL g x 0).getD k 0 = 0 := by
     unfold stepL
     rw [zaq 0 (by omega)]
     unfold stepD
     have hN : stepN g x 0 k = 0 := by
      unfold stepN
      rw [hgn, setC_tr, det_tr]
      exact (det_alt m).zero _ hkm h0
     rw [hN]
     unfold nearF
     have : (2 * 0 + stepE g x 0).fdiv (2 * stepE g x 0) = 0 := fdiv_uni (by omega) (by omega) (by omega)
     rw [this]
     omega
    rw [List.getElem_map, List.getElem_range, e1, Int.add_zero]
    simp [List.getD_eq_getElem?_getD, h2]
  have hr2 : rndF g x (R + 1) 0 5 0 = (some near, 3, 1) := by
   rw [rndF, if_neg (by rw [hB]; decide), if_neg (by rw [hany]; decide), hpl, if_neg (by rw [stateB_iff.2 hs]; decide), if_pos hlt]
   rfl
  have e : solF g 0 R (K + 1) x 0 0 = solF g 0 R K near (0 + 1) 1 := by
   rw [solF, hnf, if_neg (by decide), hr2]
  rw [e]
  rcases (solF_end g 0 R K near (0 + 1) 1).fall with ⟨h1, _⟩ | ⟨h1, _⟩
  ·rw [h1]; omega
  ·omega
 ·rcases he.fall with ⟨h1, _⟩ | ⟨h1, _⟩
  ·rw [h1]; omega
  ·omega
end Go.Gim
/- What the loops of SolveExact hold; in plain Lean. -/
set_option maxRecDepth 100000
namespace Go.Gim
open Go.Proofs
theorem psF_sym (rows : List Row4) (t i j : Nat) : psF rows t i j = psF rows t j i := zac fun k _ => by rw [Int.mul_assoc, Int.mul_comm ((rows.getD k default).co.getD i 0), ← Int.mul_assoc]
theorem row_bds {rows : List Row4} {m : Nat} (hr : ∀ r ∈ rows, Right4 r m) (k i : Nat) : (0 ≤ (rows.getD k default).w ∧ (rows.getD k default).w ≤ 100) ∧ (-1000 ≤ (rows.getD k default).co.getD i 0 ∧ (rows.getD k default).co.getD i 0 ≤ 1000) ∧ (-1000000000 ≤ (rows.getD k default).z ∧ (rows.getD k default).z ≤ 1000000000) := by
 by_cases h : k < rows.length
 ·have h1 := hr _ (zai default h)
  have h2 := h1.get i
  have h3 := h1.w
  have h4 := h1.z
  omega
 ·rw [List.getD_eq_getElem?_getD, List.getElem?_eq_none (by omega)]
  refine ⟨by decide, ?_, by decide⟩
  have e : ((none : Option Row4).getD default).co = [] := rfl
  rw [e]
  simp
theorem wc_bd {rows : List Row4} {m : Nat} (hr : ∀ r ∈ rows, Right4 r m) (k i : Nat) : -100000 ≤ (rows.getD k default).w * (rows.getD k default).co.getD i 0 ∧ (rows.getD k default).w * (rows.getD k default).co.getD i 0 ≤ 100000 := by
 obtain ⟨h1, h2, _⟩ := row_bds hr k i
 exact zea (A := 100) (B := 1000) (by omega) h2
theorem psF_bd {rows : List Row4} {m : Nat} (hr : ∀ r ∈ rows, Right4 r m) (t i j : Nat) : -(100000000 * (t : Int)) ≤ psF rows t i j ∧ psF rows t i j ≤ 100000000 * (t : Int) := sumZ_bd (by omega) (fun k => zea (A := 100000) (B := 1000) (wc_bd hr k i) (row_bds hr k j).2.1) t
theorem qsF_bd {rows : List Row4} {m : Nat} (hr : ∀ r ∈ rows, Right4 r m) (t i : Nat) : -(100000000000000 * (t : Int)) ≤ qsF rows t i ∧ qsF rows t i ≤ 100000000000000 * (t : Int) := sumZ_bd (by omega) (fun k => zea (A := 100000) (B := 1000000000) (wc_bd hr k i) (row_bds hr k i).2.2) t
def pK (rows : List Row4) (t k j a c : Nat) : Int := if a < k ∨ (a = k ∧ c < j) then psF rows (t + 1) a c else psF rows t a c
def qK (rows : List Row4) (t k a : Nat) : Int := if a < k then qsF rows (t + 1) a else qsF rows t a
theorem pK_set (rows : List Row4) (t k j m : Nat) : ((List.range m).map (pK rows t k j k)).set j (psF rows (t + 1) k j) = (List.range m).map (pK rows t k (j + 1) k) := by
 rw [zdc]
 refine List.map_congr_left fun c _ => ?_
 unfold pK
 by_cases h : c = j
 ·subst h; rw [if_pos rfl, if_pos (.inr ⟨rfl, by omega⟩)]
 ·rw [if_neg h]
  by_cases h2 : c < j
  ·rw [if_pos (.inr ⟨rfl, h2⟩), if_pos (.inr ⟨rfl, by omega⟩)]
  ·rw [if_neg (by omega), if_neg (by omega)]
theorem pK_ne (rows : List Row4) (t k j m : Nat) {a : Nat} (h : a ≠ k) : (List.range m).map (pK rows t k j a) = (List.range m).map (pK rows t k (j + 1) a) := List.map_congr_left fun c _ => by
 unfold pK
 by_cases h2 : a < k
 ·rw [if_pos (.inl h2), if_pos (.inl h2)]
 ·rw [if_neg (by omega), if_neg (by omega)]
theorem pK_next (rows : List Row4) (t k m a : Nat) : (List.range m).map (pK rows t k m a) = (List.range m).map (pK rows t (k + 1) 0 a) := List.map_congr_left fun c hc => by
 have := List.mem_range.1 hc
 unfold pK
 by_cases h2 : a < k + 1
 ·rw [if_pos (by omega), if_pos (.inl h2)]
 ·rw [if_neg (by omega), if_neg (by omega)]
theorem pK_row (rows : List Row4) (t m : Nat) {a : Nat} (ha : a < m) (n : Nat) : (List.range n).map (pK rows t m 0 a) = (List.range n).map (psF rows (t + 1) a) := List.map_congr_left fun c hc => by unfold pK; rw [if_pos (.inl ha)]
theorem pK_zero (rows : List Row4) (t a n : Nat) : (List.range n).map (pK rows t 0 0 a) = (List.range n).map (psF rows t a) := List.map_congr_left fun c hc => by unfold pK; rw [if_neg (by omega)]
theorem pK_at (rows : List Row4) (t k j : Nat) {m : Nat} (h : j < m) : ((List.range m).map (pK rows t k j k)).getD j 0 = psF rows t k j := by rw [zaq 0 h]; unfold pK; rw [if_neg (by omega)]
theorem qK_set (rows : List Row4) (t k m : Nat) : ((List.range m).map (qK rows t k)).set k (qsF rows (t + 1) k) = (List.range m).map (qK rows t (k + 1)) := by
 rw [zdc]
 refine List.map_congr_left fun c _ => ?_
 unfold qK
 by_cases h : c = k
 ·subst h; rw [if_pos rfl, if_pos (by omega)]
 ·rw [if_neg h]
  by_cases h2 : c < k
  ·rw [if_pos h2, if_pos (by omega)]
  ·rw [if_neg h2, if_neg (by omega)]
theorem qK_at (rows : List Row4) (t k : Nat) {m : Nat} (h : k < m) : ((List.range m).map (qK rows t k)).getD k 0 = qsF rows t k := by rw [zaq 0 h]; unfold qK; rw [if_neg (by omega)]
theorem qK_row (rows : List Row4) (t m : Nat) : (List.range m).map (qK rows t m) = (List.range m).map (qsF rows (t + 1)) := List.map_congr_left fun c hc => by unfold qK; rw [if_pos (List.mem_range.1 hc)]
theorem qK_zero (rows : List Row4) (t m : Nat) : (List.range m).map (qK rows t 0) = (List.range m).map (qsF rows t) := List.map_congr_left fun c hc => by unfold qK; rw [if_neg (by omega)]
def fzP (b qid m : Nat) (ids : Nat → Nat) (R : Nat → List V) (q : List V) : Nat → Option (List V) := fzl ((b, (List.range m).map fun k => V.sl (R k)) :: (qid, q) :: (List.range m).map fun k => (ids k, R k))
theorem fzl_has {c : Nat} {xs : List V} : ∀ {l : List (Nat × List V)}, (c, xs) ∈ l → ∃ ys, fzl l c = some ys
 | [], h => by cases h
 | (d, ys) :: l, h => by
  unfold fzl
  by_cases e : c = d
  ·rw [if_pos e]; exact ⟨_, rfl⟩
  ·rw [if_neg e]
   rcases List.mem_cons.1 h with h | h
   ·cases h; exact absurd rfl e
   ·exact fzl_has h
theorem fzP_row {b qid m : Nat} {ids : Nat → Nat} {R : Nat → List V} {q : List V} {k : Nat} (hk : k < m) (hb : b ≠ ids k) (hq : qid ≠ ids k) (hd : ∀ a, a < m → a ≠ k → ids a ≠ ids k) : fzP b qid m ids R q (ids k) = some (R k) := by
 unfold fzP
 obtain ⟨ys, h⟩ := fzl_has (c := ids k) (xs := R k) (l := (List.range m).map fun k => (ids k, R k)) (List.mem_map.2 ⟨k, List.mem_range.2 hk, rfl⟩)
 have hm := fzl_mem h
 obtain ⟨a, ha, he⟩ := List.mem_map.1 hm
 have ha := List.mem_range.1 ha
 rw [fzl, if_neg (Ne.symm hb), fzl, if_neg (Ne.symm hq), h]
 obtain ⟨e1, e2⟩ := Prod.mk.inj he
 by_cases e : a = k
 ·subst e; rw [e2]
 ·exact absurd e1 (hd a ha e)
theorem fzP_b {b qid m : Nat} {ids : Nat → Nat} {R : Nat → List V} {q : List V} : fzP b qid m ids R q b = some ((List.range m).map fun k => V.sl (R k)) := by
 unfold fzP
 rw [fzl, if_pos rfl]
theorem fzP_q {b qid m : Nat} {ids : Nat → Nat} {R : Nat → List V} {q : List V} (h : qid ≠ b) : fzP b qid m ids R q qid = some q := by
 unfold fzP
 rw [fzl, if_neg h, fzl, if_pos rfl]
theorem fzP_no {b qid m : Nat} {ids : Nat → Nat} {R : Nat → List V} {q : List V} {c : Nat} (h1 : c ≠ b) (h2 : c ≠ qid) (h3 : ∀ k, k < m → c ≠ ids k) : fzP b qid m ids R q c = none := by
 unfold fzP
 rw [fzl, if_neg h1, fzl, if_neg h2]
 cases h : fzl ((List.range m).map fun k => (ids k, R k)) c with
 | none => rfl
 | some ys =>
  obtain ⟨a, ha, he⟩ := List.mem_map.1 (fzl_mem h)
  cases he
  exact absurd rfl (h3 a (List.mem_range.1 ha))
theorem fzP_ok {H : Hp} {b qid m es : Nat} {ids : Nat → Nat} {R : Nat → List V} {q : List V} (hb : H b = some ⟨(List.range m).map fun k => V.own (ids k) m, 1⟩) (hq : H qid = some ⟨q, es⟩) (hrow : ∀ k, k < m → H (ids k) = some ⟨R k, es⟩) (hl : ∀ k, k < m → (R k).length = m) (hbi : ∀ k, k < m → b ≠ ids k) (hqi : ∀ k, k < m → qid ≠ ids k) (hqb : qid ≠ b) (hd : ∀ k a, k < m → a < m → a ≠ k → ids a ≠ ids k) (hp : ∀ k, ∀ x ∈ R k, V.Pure x) (hpq : ∀ x ∈ q, V.Pure x) : Fz H (fzP b qid m ids R q) := by
 have hsub : ∀ l : List V, (∀ x ∈ l, V.Pure x) → l.map (V.sub (fzP b qid m ids R q)) = l := fun l h => by
  exact (List.map_congr_left (g := fun x => x) fun x hx => zck _ (h x hx)).trans (List.map_id' l)
 refine fzl_ok fun p hpm => ?_
 change (∃ es ds, H p.1 = some ⟨ds, es⟩ ∧ ds.map (V.sub (fzP b qid m ids R q)) = p.2) ∧ _
 rcases List.mem_cons.1 hpm with rfl | hpm
 ·refine ⟨⟨1, _, hb, ?_⟩, fun x hx => ?_⟩
  ·rw [List.map_map]
   refine List.map_congr_left fun k hk => ?_
   have hk := List.mem_range.1 hk
   show V.sub _ (V.own (ids k) m) = _
   rw [sub_c_own, fzP_row hk (hbi k hk) (hqi k hk) fun a ha hak => hd k a hk ha hak, zfl (hl k hk)]
  ·obtain ⟨k, hk, rfl⟩ := List.mem_map.1 hx
   exact .sl _
 ·rcases List.mem_cons.1 hpm with rfl | hpm
  ·exact ⟨⟨es, q, hq, hsub _ hpq⟩, hpq⟩
  ·obtain ⟨k, hk, rfl⟩ := List.mem_map.1 hpm
   exact ⟨⟨es, R k, hrow k (List.mem_range.1 hk), hsub _ (hp k)⟩, hp k⟩
end Go.Gim
/- The law SolveExact: the walk. -/
set_option maxRecDepth 100000
set_option maxHeartbeats 4000000
namespace Go.Gim
open Go.Proofs
attribute [local go_sem] CV_isAgg zhg CV_cells part_CV csub_CV ResV_isJunk ResV_isAgg ResV_cells csub_ResV
theorem exact_main (m : Nat) (rows : List Row4) (x : List Int) (g : Gr) (hm : 1 ≤ m ∧ m ≤ 6) (hl : rows.length ≤ 20) (hr : ∀ r ∈ rows, r.co.length ≤ 9223372036854775807) (hrd : rd19B m 6 rows 1 = true) (hgr : rd19G m 6 rows [] 1 = g) (hg : (⟨m, rows, mirM [] m, List.replicate m 0, 0, 1⟩ : Gr) = g) (ok : GOkay g x) (hR : ∀ r ∈ rows, Right4 r m) (hxm : x.length = m) :
  Ret pg zb1 [.int .i64 m, .sl (rows.map RV), ints x] (.bool true) := by
 have c1 := read19_ret m 6 1 rows [] (by omega) hr (by decide) (fun r h => by cases h) (by decide)
 have c1 := c1.nn (args := [.int .i64 m, .int .i64 6, .sl (rows.map RV), .nil, .int .i64 1]) rfl
 rw [hrd, hgr] at c1
 have hgn : g.n = m := by rw [← hg]
 have hst := stateB_iff.2 ok.state
 have c2 := rstate_ret x (by omega)
 rw [hst] at c2
 have hx' : (x.length : Int) = m := by omega
 have h20 : ¬ (20 : Int) < rows.length := by omega
 refine gimballaw19_SolveExact.of rfl (W_b ?_)
 unfold gimballaw19_SolveExact.k gimballaw19_SolveExact.res Ot kp kd Og Oh Oy Om Ol OL Oq Oi Oc On ci
 refine sgo ?_
 first | refine zaa (zcj) (by simp) ?_ | refine zab (zcj) (by simp) ?_
 refine sgo ?_
 first | refine zaa (c1) (by simp) ?_ | refine zab (c1) (by simp) ?_
 refine sgo ?_
 first | refine zaa (c2) (by simp) ?_ | refine zab (c2) (by simp) ?_
 simp -dsimp -implicitDefEqProofs (disch := try exact zdE) only [go_sem, hx', h20]
 refine zam (T := Nat × V × (Nat → Nat) × Hp × Nat) (fun t => ⟨E [(0, .int .i64 m), (1, .sl (rows.map RV)), (2, ints x), (7, .bool true), (8, .ptr 10 1 0 0), (12, t.2.1), (13, .int .i64 t.1)], t.2.2.2.1, t.2.2.2.2, t.2.2.2.2⟩)
  (fun t => t.1 ≤ m ∧ 11 < t.2.2.2.2 ∧ t.2.2.2.1 10 = some ⟨[GV g], 8⟩ ∧ Row 11 t.2.2.2.1 t.2.2.2.2 t.2.1 1 ((List.range t.1).map fun k => .own (t.2.2.1 k) m) ∧ ∀ k, k < t.1 → t.2.2.2.1 (t.2.2.1 k) = some ⟨(List.replicate m 0).map (V.int .i64), 1⟩ ∧ (11 ≤ t.2.2.1 k ∧ t.2.2.1 k < t.2.2.2.2) ∧ (∀ a, t.2.1 ≠ .own (t.2.2.1 k) a) ∧ ∀ a, a < t.1 → a ≠ k → t.2.2.1 a ≠ t.2.2.1 k) (fun t => m - t.1) (0, .nil, fun _ => 0, _, _) rfl ⟨zdo, zdo, rfl, Row.nil _ _ _ _, fun k h => by dsimp only at h; omega⟩ ?_
 rintro ⟨i, w, ids, H, nx⟩ ⟨i1, i0, i9, i2, i3⟩
 dsimp only at i0 i1 i2 i3 i9
 by_cases hi : i < m
 ·refine sgo ?_
  refine W_gh0 ?_
  refine sgo ?_
  have i2' : Row 11 (H.upd (nx + 5) (some ⟨(List.replicate m 0).map (V.int .i64), 1⟩)) (nx + 6) w 1 ((List.range i).map fun k => .own (ids k) m) := i2.same (fun b hb => Hp.upd_ne _ _ (by omega)) (by omega)
  refine zcc (lo := 11) (nx := nx + 6) (H0 := H.upd (nx + 5) (some ⟨(List.replicate m 0).map (V.int .i64), 1⟩)) (xs := (List.range i).map fun k => .own (ids k) m) i2' (by omega) rfl (by omega) (by omega) (by simp [rowOk, V.cells, V.cellOk, V.isJunk]) (by decide) (by simp; omega) (by simp; omega) fun v2 H2 r1 r2 r3 r4 => ?_
  have hids : (List.range i).map (fun k => V.own (ids k) m) = (List.range i).map (fun k => V.own (if k = i then nx + 5 else ids k) m) := List.map_congr_left fun k hk => by simp at hk; rw [if_neg (by omega)]
  have hlast : V.own (nx + 5) m = (fun k => V.own (if k = i then nx + 5 else ids k) m) i := by simp
  rw [hids, hlast, ze6] at r1
  have hw5 : ∀ a, w ≠ .own (nx + 5) a := fun a e => by
   rcases i2 with ⟨h, _⟩ | ⟨b, h, _, hb, _⟩
   ·rw [h] at e; cases e
   ·rw [h] at e; cases e; omega
  refine sgo ?_
  refine ⟨(i + 1, v2, fun k => if k = i then nx + 5 else ids k, H2, _), rfl, ⟨zdo, zdo, ?_, r1.same (fun _ _ => rfl) zdo, fun k hk => ?_⟩, zdo⟩
  ·dsimp only
   rw [r4 10 (by omega), Hp.upd_ne _ _ (by omega)]; exact i9
  dsimp only at hk ⊢
  by_cases hki : k = i
  ·subst hki
   rw [if_pos rfl]
   refine ⟨?_, by omega, fun a e => ?_, fun a ha hak => ?_⟩
   ·rw [r3 _ (by omega) hw5, Hp.upd_same]
   ·have := r2 _ _ e; omega
   ·rw [if_neg hak]
    have := (i3 a (by omega)).2.1; omega
  ·rw [if_neg hki]
   obtain ⟨h1, h2, h3, h4⟩ := i3 k (by omega)
   refine ⟨?_, by omega, fun a e => ?_, fun a ha hak => ?_⟩
   ·rw [r3 _ (by omega) (fun a => h3 a), Hp.upd_ne _ _ (by omega)]; exact h1
   ·have := r2 _ _ e; omega
   ·by_cases hai : a = i
    ·rw [if_pos hai]; omega
    ·rw [if_neg hai]; exact h4 a (by omega) hak
 ·have hie : m = i := by omega
  have hd : ∀ k a, k < m → a < m → a ≠ k → ids a ≠ ids k := fun k a hk ha hak => (i3 k (by omega)).2.2.2 a (by omega) hak
  obtain ⟨b, hw, b1, b2, b3⟩ := i2.own_of (by simp; omega)
  rw [List.length_map, List.length_range, ← hie] at hw
  have hbi : ∀ k, k < m → b ≠ ids k := fun k hk e => (i3 k (by omega)).2.2.1 m (by rw [hw, e])
  have hz : ∀ k, (List.replicate m (0 : Int)) = (List.range m).map (psF rows 0 k) := fun k => by
   refine List.ext_getElem (by simp) fun a h1 h2 => ?_
   simp [psF, sumZ]
  have hzq : (List.replicate m (0 : Int)) = (List.range m).map (qsF rows 0) := by
   refine List.ext_getElem (by simp) fun a h1 h2 => ?_
   simp [qsF, sumZ]
  have hrow : ∀ k, k < m → H (ids k) = some ⟨((List.range m).map (psF rows 0 k)).map (V.int .i64), 1⟩ ∧ 11 ≤ ids k ∧ ids k < nx := fun k hk => by
   have h := i3 k (by omega)
   rw [← hz k]
   exact ⟨h.1, h.2.1⟩
  rw [← hie] at b3
  clear i3 i2
  rw [hw]
  refine sgo ?_
  refine zam (T := Nat × Hp × Nat) (fun t => ⟨E [(0, .int .i64 m), (1, .sl (rows.map RV)), (2, ints x), (7, .bool true), (8, .ptr 10 1 0 0), (12, .own b m), (14, .own (nx + 4) m), (15, .int .i64 t.1)], t.2.1, t.2.2, t.2.2⟩)
   (fun t => t.1 ≤ rows.length ∧ nx + 7 ≤ t.2.2 ∧ t.2.1 10 = some ⟨[GV g], 8⟩ ∧ t.2.1 b = some ⟨(List.range m).map fun k => .own (ids k) m, 1⟩ ∧ (∀ k, k < m → t.2.1 (ids k) = some ⟨((List.range m).map (psF rows t.1 k)).map (V.int .i64), 1⟩) ∧ t.2.1 (nx + 4) = some ⟨((List.range m).map (qsF rows t.1)).map (V.int .i64), 1⟩) (fun t => rows.length - t.1)
   (0, H.upd (nx + 4) (some ⟨(List.replicate m 0).map (V.int .i64), 1⟩), nx + 7) rfl ⟨zdo, zdo, by dsimp only; rw [Hp.upd_ne _ _ (by omega)]; exact i9, by dsimp only; rw [Hp.upd_ne _ _ (by omega)]; exact b3, fun k hk => by dsimp only; rw [Hp.upd_ne _ _ (by have := (hrow k hk).2.2; omega)]; exact (hrow k hk).1, by dsimp only; rw [Hp.upd_same, hzq]⟩ ?_
  have hids : ∀ k, k < m → 11 ≤ ids k ∧ ids k < nx := fun k hk => (hrow k hk).2
  clear b3 hrow i9 hz hzq
  rintro ⟨t, H1, nx1⟩ ⟨t1, t2, t3, t4, t5, t6⟩
  dsimp only at t1 t2 t3 t4 t5 t6
  by_cases ht : t < rows.length
  ·have hrt := hR _ (zai default ht)
   have hp1 : ∀ a c, psF rows t a c + (rows.getD t default).w * (rows.getD t default).co.getD a 0 * (rows.getD t default).co.getD c 0 = psF rows (t + 1) a c := fun a c => rfl
   have hq1 : ∀ a, qsF rows t a + (rows.getD t default).w * (rows.getD t default).co.getD a 0 * (rows.getD t default).z = qsF rows (t + 1) a := fun a => rfl
   have bp := fun a c => psF_bd hR t a c
   have bp2 := fun a c => psF_bd hR (t + 1) a c
   have bq := fun a => qsF_bd hR t a
   have bq2 := fun a => qsF_bd hR (t + 1) a
   have bw := fun a => wc_bd hR t a
   generalize hX : rows.getD t default = r at *
   simp -dsimp -implicitDefEqProofs (disch := try exact zdE) only [go_sem, hX]
   refine zam (T := Nat × Hp × Nat) (fun u => ⟨E [(0, .int .i64 m), (1, .sl (rows.map RV)), (2, ints x), (7, .bool true), (8, .ptr 10 1 0 0), (12, .own b m), (14, .own (nx + 4) m), (15, .int .i64 t), (16, .ptr (nx1 + 8) 1 0 0), (17, .int .i64 u.1)], u.2.1, u.2.2, u.2.2⟩)
    (fun u => u.1 ≤ m ∧ nx1 + 11 ≤ u.2.2 ∧ u.2.1 10 = some ⟨[GV g], 8⟩ ∧ u.2.1 b = some ⟨(List.range m).map fun k => .own (ids k) m, 1⟩ ∧ (∀ a, a < m → u.2.1 (ids a) = some ⟨((List.range m).map (pK rows t u.1 0 a)).map (V.int .i64), 1⟩) ∧ u.2.1 (nx + 4) = some ⟨((List.range m).map (qK rows t u.1)).map (V.int .i64), 1⟩ ∧ u.2.1 (nx1 + 8) = some ⟨[RV r], 4⟩) (fun u => m - u.1)
    (0, H1.upd (nx1 + 8) (some ⟨[RV r], 4⟩), nx1 + 11) rfl ⟨zdo, zdo, by dsimp only; rw [Hp.upd_ne _ _ (by omega)]; exact t3, by dsimp only; rw [Hp.upd_ne _ _ (by omega)]; exact t4, fun a ha => by dsimp only; rw [Hp.upd_ne _ _ (by have := hids a ha; omega), pK_zero]; exact t5 a ha, by dsimp only; rw [Hp.upd_ne _ _ (by omega), qK_zero]; exact t6, Hp.upd_same _ _ _⟩ ?_
   clear t3 t4 t5 t6
   rintro ⟨k, H2, nx2⟩ ⟨k1, k2, k3, k4, k5, k6, k7⟩
   dsimp only at k1 k2 k3 k4 k5 k6 k7
   by_cases hk : k < m
   ·have hrl := hrt.len
    have v1 := bw k
    have v2 := bq k
    have v3 := bq2 k
    have hqa := qK_at rows t k hk
    have hqs := qK_set rows t k m
    have e1 : IntKind.i64.wrap (r.w * r.co.getD k 0) = r.w * r.co.getD k 0 := IntWalk.i64_in _ (by omega)
    have e2 : IntKind.i64.wrap (r.w * r.co.getD k 0 * r.z) = r.w * r.co.getD k 0 * r.z := IntWalk.i64_in _ (by have := hq1 k; omega)
    have e3 : IntKind.i64.wrap (qsF rows t k + r.w * r.co.getD k 0 * r.z) = qsF rows (t + 1) k := by rw [hq1 k]; exact IntWalk.i64_in _ (by omega)
    simp -dsimp -implicitDefEqProofs (disch := try exact zdE) only [go_sem, k6, k7, hrl, hqa, e1, e2, e3, hqs]
    refine zam (T := Nat × Hp × Nat) (fun u => ⟨E [(0, .int .i64 m), (1, .sl (rows.map RV)), (2, ints x), (7, .bool true), (8, .ptr 10 1 0 0), (12, .own b m), (14, .own (nx + 4) m), (15, .int .i64 t), (16, .ptr (nx1 + 8) 1 0 0), (17, .int .i64 k), (18, .int .i64 u.1)], u.2.1, u.2.2, u.2.2⟩)
     (fun u => u.1 ≤ m ∧ nx1 + 11 ≤ u.2.2 ∧ u.2.1 10 = some ⟨[GV g], 8⟩ ∧ u.2.1 b = some ⟨(List.range m).map fun k => .own (ids k) m, 1⟩ ∧ (∀ a, a < m → u.2.1 (ids a) = some ⟨((List.range m).map (pK rows t k u.1 a)).map (V.int .i64), 1⟩) ∧ u.2.1 (nx + 4) = some ⟨((List.range m).map (qK rows t (k + 1))).map (V.int .i64), 1⟩ ∧ u.2.1 (nx1 + 8) = some ⟨[RV r], 4⟩) (fun u => m - u.1)
     (0, H2.upd (nx + 4) (some ⟨((List.range m).map (qK rows t (k + 1))).map (V.int .i64), 1⟩), nx2 + 24) rfl ⟨zdo, zdo, by dsimp only; rw [Hp.upd_ne _ _ (by omega)]; exact k3, by dsimp only; rw [Hp.upd_ne _ _ (by omega)]; exact k4, fun a ha => by dsimp only; rw [Hp.upd_ne _ _ (by have := hids a ha; omega)]; exact k5 a ha, Hp.upd_same _ _ _, by dsimp only; rw [Hp.upd_ne _ _ (by omega)]; exact k7⟩ ?_
    clear k3 k4 k5 k6 k7
    rintro ⟨j, H3, nx3⟩ ⟨j1, j2, j3, j4, j5, j6, j7⟩
    dsimp only at j1 j2 j3 j4 j5 j6 j7
    by_cases hj : j < m
    ·have u1 := bp k j
     have u2 := bp2 k j
     have hpa := pK_at rows t k j hj
     have hps := pK_set rows t k j m
     have e4 : IntKind.i64.wrap (r.w * r.co.getD k 0 * r.co.getD j 0) = r.w * r.co.getD k 0 * r.co.getD j 0 := IntWalk.i64_in _ (by have := hp1 k j; omega)
     have e5 : IntKind.i64.wrap (psF rows t k j + r.w * r.co.getD k 0 * r.co.getD j 0) = psF rows (t + 1) k j := by rw [hp1 k j]; exact IntWalk.i64_in _ (by omega)
     have hload : ∀ (a nx : Nat), a < m → b < nx → loadO true nx b (some ⟨(List.range m).map fun k => .own (ids k) m, 1⟩) m a 0 1 false = some (.own (ids a) m) := fun a nx ha hb => zgj (fun _ => hb) (by simp) (by simp [ha]) rfl rfl
     have j5k := j5 k hk
     have hik := hids k hk
     have hne := hbi k hk
     simp -dsimp -implicitDefEqProofs (disch := try exact zdE) only [go_sem, j4, hload, j5k, j7, hrl, hpa, e1, e4, e5, hps]
     generalize hG4 : Hp.upd H3 (ids k) _ = G4
     have s1 := zd9 hG4
     refine ⟨(j + 1, G4, _), rfl, ⟨zdo, zdo, zbw hG4 j3 (by omega), zbw hG4 j4 hne, fun a ha => ?_, zbw hG4 j6 (by omega), zbw hG4 j7 (by omega)⟩, zdo⟩
     dsimp only
     by_cases hak : a = k
     ·subst hak; exact s1
     ·rw [← pK_ne rows t k j m hak]
      exact zbw hG4 (j5 a ha) (hd k a hk ha hak)
    ·have hje : j = m := by omega
     refine sgo ?_
     exact ⟨(k + 1, H3, _), rfl, ⟨zdo, zdo, j3, j4, fun a ha => by have h := j5 a ha; rw [hje, pK_next] at h; exact h, j6, j7⟩, zdo⟩
   ·have hke : k = m := by omega
    refine sgo ?_
    exact ⟨(t + 1, H2, _), rfl, ⟨zdo, zdo, k3, k4, fun a ha => by have h := k5 a ha; rw [hke, pK_row rows t m ha m] at h; exact h, by have h := k6; rw [hke, qK_row] at h; exact h⟩, zdo⟩
  ·have hte : t = rows.length := by omega
   rw [hte] at t5 t6
   have hps : psF rows rows.length = psF rows rows.length := rfl
   have bp := fun a c => psF_bd hR rows.length a c
   have bq := fun a => qsF_bd hR rows.length a
   have hsy := psF_sym rows rows.length
   have hplain := exact_plain (near := (List.range m).map fun i => nearZ (det m (setC (psF rows rows.length) i (qsF rows rows.length))) (det m (psF rows rows.length))) hg ok hR
   generalize hP : psF rows rows.length = P at *
   generalize hQ : qsF rows rows.length = Q at *
   have hPM : mat m P = mirM (mat m P) m := by
    unfold mirM
    refine mat_congr fun a c ha hc => ?_
    rw [zgu (by omega) (by omega)]
    rcases Nat.le_total a c with h | h
    ·rw [Nat.max_eq_right h, Nat.min_eq_left h]; exact hsy a c
    ·rw [Nat.max_eq_left h, Nat.min_eq_right h]
   have hin : ∀ r ∈ mat m P, r.length ≤ 1099511627776 ∧ ∀ v ∈ r, In64 v := fun r hr => by
    obtain ⟨a, _, rfl⟩ := List.mem_map.1 hr
    refine ⟨by simp; omega, fun v hv => ?_⟩
    obtain ⟨c, _, rfl⟩ := List.mem_map.1 hv
    have := bp a c
    exact ⟨by omega, by omega⟩
   have hqin : ∀ v ∈ rowF m Q, In64 v := fun v hv => by
    obtain ⟨c, _, rfl⟩ := List.mem_map.1 hv
    have := bq c
    exact ⟨by omega, by omega⟩
   have hql := zd4 m Q
   have hsq := mat_sq m P
   have q0 : qofE (mat m P) (rowF m Q) = 0 := by rw [hPM]; exact qofE_mir _ (by omega) hql
   have cof := qof_ret (mat m P) (rowF m Q) 0 (by rw [hsq.1]; omega) hin hqin (by omega) (by decide)
   rw [q0, if_pos rfl] at cof
   have sP : ∀ i j, lim (at2 (mat m P) i j) ≤ 2 := fun i j => zat (at2_in (fun r hr => (hin r hr).2) i j)
   have sQ : ∀ i, lim ((rowF m Q).getD i 0) ≤ 2 := fun i => zat (getD_in hqin i)
   have cl := qleast_ret (mat m P) (rowF m Q) 0 m 2 (by omega) (by omega) hsq hql sP sQ (by rw [za0]; omega)
   have hdP : det m (at2 (mat m P)) = det m P := zan fun i j hi hj => zgu hi hj
   have hnP : ∀ k, det m (setC (at2 (mat m P)) k fun i => (rowF m Q).getD i 0) = det m (setC P k Q) := fun k => zan fun i j hi hj => by
    unfold setC
    split
    ·exact rowF_get hi
    ·exact zgu hi hj
   have hfP : defS m (at2 (mat m P)) = defS m P := defS_congr fun i j hi hj => zgu hi hj
   have eN : (rowF m fun k => det m (setC (at2 (mat m P)) k fun i => (rowF m Q).getD i 0)) = rowF m fun k => det m (setC P k Q) := zf8 fun k _ => hnP k
   rw [eN, hdP, hfP] at cl
   have eT : V.sl ((List.range m).map fun k => V.sl (((List.range m).map (P k)).map (V.int .i64))) = .sl ((mat m P).map ints) := by unfold mat; rw [List.map_map]; rfl
   have hlm : ((List.range m).map fun k => V.sl (((List.range m).map (P k)).map (V.int .i64))).length = m := by simp
   have hlq : (((List.range m).map Q).map (V.int .i64)).length = m := by simp
   have fz := fzP_ok (R := fun k => ((List.range m).map (P k)).map (V.int .i64)) (q := ((List.range m).map Q).map (V.int .i64)) t4 t6 t5 (fun k _ => by simp) hbi (fun k hk => by have := hids k hk; omega) (by omega) hd (fun k => zep) zep
   have f1 : fzP b (nx + 4) m ids (fun k => ((List.range m).map (P k)).map (V.int .i64)) (((List.range m).map Q).map (V.int .i64)) b = _ := fzP_b
   have f2 : fzP b (nx + 4) m ids (fun k => ((List.range m).map (P k)).map (V.int .i64)) (((List.range m).map Q).map (V.int .i64)) (nx + 4) = _ := fzP_q (by omega)
   have f3 : fzP b (nx + 4) m ids (fun k => ((List.range m).map (P k)).map (V.int .i64)) (((List.range m).map Q).map (V.int .i64)) 10 = none := fzP_no (by omega) (by omega) fun k hk => by have := hids k hk; omega
   obtain ⟨gz, hgz⟩ : ∃ gz, gz = fzP b (nx + 4) m ids (fun k => ((List.range m).map (P k)).map (V.int .i64)) (((List.range m).map Q).map (V.int .i64)) := ⟨_, rfl⟩
   rw [← hgz] at fz f1 f2 f3
   have m10 : H1.minus gz 10 = some ⟨[GV g], 8⟩ := by unfold Hp.minus; rw [f3]; exact t3
   clear hgz
   have ha : [V.own b m, .own (nx + 4) m, .int .i64 0].map (V.sub gz) = [.sl ((mat m P).map ints), ints (rowF m Q), .int .i64 0] := by
    simp only [List.map_cons, List.map_nil, sub_c_own, sub_c_int, f1, f2, zfl hlm, zfl hlq, eT]
    rfl
   by_cases hdef : defS m P = true
   ·rw [if_pos hdef] at cl
    have hd0 : 0 < det m P := defS_det hdef
    have hplain := fun hw hs K R => hplain hw hdef rfl hs K R
    have bP2 : ∀ i j, lim (P i j) ≤ 2 := fun i j => zat ⟨by have := bp i j; omega, by have := bp i j; omega⟩
    have bQ2 : ∀ i, lim (Q i) ≤ 2 := fun i => zat ⟨by have := bq i; omega, by have := bq i; omega⟩
    have sden := det_sm (n := m) (L := 2) (by omega) (by omega) bP2
    have sNUM := fun k => det_sm (n := m) (L := 2) (by omega) (by omega) (setC_lim bP2 bQ2 k)
    obtain ⟨cV, hcV⟩ : ∃ cV, (0 * det m P - sumZ (fun k => (rowF m Q).getD k 0 * det m (setC (at2 (mat m P)) k fun i => (rowF m Q).getD i 0)) m) = cV := ⟨_, rfl⟩
    rw [hcV] at cl
    clear hcV hnP hdP eN hfP
    obtain ⟨NUM, hNUM⟩ : ∃ NUM, (fun k => det m (setC P k Q)) = NUM := ⟨_, rfl⟩
    have hNU : ∀ k, det m (setC P k Q) = NUM k := fun k => by rw [← hNUM]
    simp only [hNU] at sNUM hplain
    rw [hNUM] at cl
    generalize det m P = den at *
    have hNl := zd4 m NUM
    refine sgo ?_
    refine callB_frd gz fz ha cof (by simp) ?_
    generalize H1.minus gz = H5 at *
    simp -dsimp -implicitDefEqProofs (disch := try exact zdE) only [go_sem, m10]
    first | refine zaa (cl) (by simp) ?_ | refine zab (cl) (by simp) ?_
    simp -dsimp -implicitDefEqProofs (disch := try exact zdE) only [go_sem, m10, hNl]
    refine zam (T := Nat × V × Hp × Nat) (fun u => ⟨E [(0, .int .i64 m), (1, .sl (rows.map RV)), (2, ints x), (7, .bool true), (8, .ptr 10 1 0 0), (21, ivl (rowF m NUM)), (22, .ptr (nx1 + 20) 1 0 0), (25, u.2.1), (26, .int .i64 u.1)], u.2.2.1, u.2.2.2, u.2.2.2⟩)
     (fun u => u.1 ≤ m ∧ nx1 + 22 ≤ u.2.2.2 ∧ u.2.2.1 10 = some ⟨[GV g], 8⟩ ∧ u.2.2.1 (nx1 + 20) = some ⟨[IV den], 2⟩ ∧ Row (nx1 + 22) u.2.2.1 u.2.2.2 u.2.1 1 (((List.range u.1).map fun i => nearZ (NUM i) den).map (V.int .i64)) ∧ ∀ i, i < u.1 → In64 (nearZ (NUM i) den)) (fun u => m - u.1)
     (0, .nil, ((((H5.upd (nx1 + 10) (some ⟨[QV (mat m P) (rowF m Q) 0], 4⟩)).upd (nx1 + 20) (some ⟨[.agg [.bool false, .sl []]], 2⟩)).upd (nx1 + 21) (some ⟨[.agg [.bool false, .sl []]], 2⟩)).upd (nx1 + 20) (some ⟨[IV den], 2⟩)).upd (nx1 + 21) (some ⟨[IV cV], 2⟩), _) rfl
     ⟨zdo, zdo, by dsimp only; rw [Hp.upd_ne _ _ (by omega), Hp.upd_ne _ _ (by omega), Hp.upd_ne _ _ (by omega), Hp.upd_ne _ _ (by omega), Hp.upd_ne _ _ (by omega)]; exact m10, by dsimp only; rw [Hp.upd_ne _ _ (by omega), Hp.upd_same], Row.nil _ _ _ _, fun i hi => by dsimp only at hi; omega⟩ ?_
    clear m10
    rintro ⟨k, w, H6, nx6⟩ ⟨k1, k2, k3, k4, k5, k6⟩
    dsimp only at k1 k2 k3 k4 k5 k6
    by_cases hk : k < m
    ·have hNk : (rowF m NUM).getD k 0 = NUM k := rowF_get hk
     have l1 := sNUM k
     have l2 := zat (x := 2) ⟨by omega, by omega⟩
     have l3 := zbj (NUM k) 2
     have l4 := zg5 (NUM k * 2) den
     have l5 := zbj den 2
     have l6 := lim_fdiv (NUM k * 2 + den) (den * 2)
     have ez : (NUM k * 2 + den).fdiv (den * 2) = nearZ (NUM k) den := rfl
     by_cases h64 : In64 (nearZ (NUM k) den)
     ·simp -dsimp -implicitDefEqProofs (disch := try exact zdE) only [go_sem, k3, k4, hNk, hNl]
      first | refine zaa (zax 2 ⟨by omega, by omega⟩) (by simp) ?_ | refine zab (zax 2 ⟨by omega, by omega⟩) (by simp) ?_
      simp -dsimp -implicitDefEqProofs (disch := try exact zdE) only [go_sem, k3, k4, hNk, hNl]
      first | refine zaa (za9 (NUM k) 2 (by omega) (by omega)) (by simp) ?_ | refine zab (za9 (NUM k) 2 (by omega) (by omega)) (by simp) ?_
      simp -dsimp -implicitDefEqProofs (disch := try exact zdE) only [go_sem, k3, k4, hNk, hNl]
      first | refine zaa (zbm _ _ (by omega) (by omega)) (by simp) ?_ | refine zab (zbm _ _ (by omega) (by omega)) (by simp) ?_
      simp -dsimp -implicitDefEqProofs (disch := try exact zdE) only [go_sem, k3, k4, hNk, hNl]
      first | refine zaa (zax 2 ⟨by omega, by omega⟩) (by simp) ?_ | refine zab (zax 2 ⟨by omega, by omega⟩) (by simp) ?_
      simp -dsimp -implicitDefEqProofs (disch := try exact zdE) only [go_sem, k3, k4, hNk, hNl]
      first | refine zaa (za9 den 2 (by omega) (by omega)) (by simp) ?_ | refine zab (za9 den 2 (by omega) (by omega)) (by simp) ?_
      simp -dsimp -implicitDefEqProofs (disch := try exact zdE) only [go_sem, k3, k4, hNk, hNl]
      first | refine zaa (quo_ret (NUM k * 2 + den) (den * 2) (by omega) (by omega) (by omega)) (by simp) ?_ | refine zab (quo_ret (NUM k * 2 + den) (den * 2) (by omega) (by omega) (by omega)) (by simp) ?_
      rw [ez]
      simp -dsimp -implicitDefEqProofs (disch := try exact zdE) only [go_sem, k3, k4, hNk, hNl]
      first | refine zaa (small_yes (nearZ (NUM k) den) h64) (by simp) ?_ | refine zab (small_yes (nearZ (NUM k) den) h64) (by simp) ?_
      simp -dsimp -implicitDefEqProofs (disch := try exact zdE) only [go_sem, k3, k4, hNk, hNl]
      have i5 : Row (nx1 + 22) ((((H6.upd (nx6 + 19) (some ⟨[.agg [.bool false, .sl []]], 2⟩)).upd (nx6 + 20) (some ⟨[.agg [.bool false, .sl []]], 2⟩)).upd (nx6 + 19) (some ⟨[IV (nearZ (NUM k) den)], 2⟩)).upd (nx6 + 20) (some ⟨[IV ((NUM k * 2 + den).fmod (den * 2))], 2⟩)) nx6 w 1 (((List.range k).map fun i => nearZ (NUM i) den).map (V.int .i64)) := k5.same (fun c hc => by rw [Hp.upd_ne _ _ (by omega), Hp.upd_ne _ _ (by omega), Hp.upd_ne _ _ (by omega), Hp.upd_ne _ _ (by omega)]) (Nat.le_refl _)
      refine zcc (lo := nx1 + 22) (nx := nx6) (H0 := (((H6.upd (nx6 + 19) (some ⟨[.agg [.bool false, .sl []]], 2⟩)).upd (nx6 + 20) (some ⟨[.agg [.bool false, .sl []]], 2⟩)).upd (nx6 + 19) (some ⟨[IV (nearZ (NUM k) den)], 2⟩)).upd (nx6 + 20) (some ⟨[IV ((NUM k * 2 + den).fmod (den * 2))], 2⟩)) (xs := ((List.range k).map fun i => nearZ (NUM i) den).map (V.int .i64)) i5 (by omega) rfl (by omega) (by omega) (by simp [rowOk, V.cells, V.cellOk, V.isJunk]) (by decide) (by simp; omega) (by simp; omega) fun v2 H7 r1 _ _ r4 => ?_
      rw [zeg, show ((List.range k).map fun i => nearZ (NUM i) den) ++ [nearZ (NUM k) den] = (List.range (k + 1)).map fun i => nearZ (NUM i) den from ze6 (fun i => nearZ (NUM i) den) _] at r1
      refine sgo ?_
      refine ⟨(k + 1, v2, H7, _), rfl, ⟨zdo, zdo, ?_, ?_, r1.same (fun _ _ => rfl) zdo, fun i hi => ?_⟩, zdo⟩
      ·dsimp only
       rw [r4 _ (by omega), Hp.upd_ne _ _ (by omega), Hp.upd_ne _ _ (by omega), Hp.upd_ne _ _ (by omega), Hp.upd_ne _ _ (by omega)]; exact k3
      ·dsimp only
       rw [r4 _ (by omega), Hp.upd_ne _ _ (by omega), Hp.upd_ne _ _ (by omega), Hp.upd_ne _ _ (by omega), Hp.upd_ne _ _ (by omega)]; exact k4
      ·dsimp only at hi
       by_cases e : i = k
       ·subst e; exact h64
       ·exact k6 i (by omega)
     ·have hs2 : nearZ (NUM k) den < -9223372036854775808 ∨ 9223372036854775807 < nearZ (NUM k) den := by unfold In64 at h64; omega
      simp -dsimp -implicitDefEqProofs (disch := try exact zdE) only [go_sem, k3, k4, hNk, hNl]
      first | refine zaa (zax 2 ⟨by omega, by omega⟩) (by simp) ?_ | refine zab (zax 2 ⟨by omega, by omega⟩) (by simp) ?_
      simp -dsimp -implicitDefEqProofs (disch := try exact zdE) only [go_sem, k3, k4, hNk, hNl]
      first | refine zaa (za9 (NUM k) 2 (by omega) (by omega)) (by simp) ?_ | refine zab (za9 (NUM k) 2 (by omega) (by omega)) (by simp) ?_
      simp -dsimp -implicitDefEqProofs (disch := try exact zdE) only [go_sem, k3, k4, hNk, hNl]
      first | refine zaa (zbm _ _ (by omega) (by omega)) (by simp) ?_ | refine zab (zbm _ _ (by omega) (by omega)) (by simp) ?_
      simp -dsimp -implicitDefEqProofs (disch := try exact zdE) only [go_sem, k3, k4, hNk, hNl]
      first | refine zaa (zax 2 ⟨by omega, by omega⟩) (by simp) ?_ | refine zab (zax 2 ⟨by omega, by omega⟩) (by simp) ?_
      simp -dsimp -implicitDefEqProofs (disch := try exact zdE) only [go_sem, k3, k4, hNk, hNl]
      first | refine zaa (za9 den 2 (by omega) (by omega)) (by simp) ?_ | refine zab (za9 den 2 (by omega) (by omega)) (by simp) ?_
      simp -dsimp -implicitDefEqProofs (disch := try exact zdE) only [go_sem, k3, k4, hNk, hNl]
      first | refine zaa (quo_ret (NUM k * 2 + den) (den * 2) (by omega) (by omega) (by omega)) (by simp) ?_ | refine zab (quo_ret (NUM k * 2 + den) (den * 2) (by omega) (by omega) (by omega)) (by simp) ?_
      rw [ez] at l6 ⊢
      simp -dsimp -implicitDefEqProofs (disch := try exact zdE) only [go_sem, k3, k4, hNk, hNl]
      first | refine zaa (small_no (nearZ (NUM k) den) (by omega) hs2) (by simp) ?_ | refine zab (small_no (nearZ (NUM k) den) (by omega) hs2) (by simp) ?_
      simp -dsimp -implicitDefEqProofs (disch := try exact zdE) only [go_sem, k3, k4, hNk, hNl]
      done
    ·have hke : k = m := by omega
     rw [hke] at k5
     obtain ⟨near, hnear⟩ : ∃ near, ((List.range m).map fun i => nearZ (NUM i) den) = near := ⟨_, rfl⟩
     rw [hnear] at k5 hplain
     have hnl : near.length = m := by rw [← hnear]; simp
     obtain ⟨c, hw, c1, c2, c3⟩ := k5.own_of (by rw [List.length_map]; omega)
     rw [List.length_map, hnl] at hw
     subst hw
     have hyl : (near.map (V.int .i64)).length = m := by rw [List.length_map]; omega
     have eY : V.sl (near.map (V.int .i64)) = ints near := rfl
     have cS := rstate_ret near (by omega)
     have g0 : fz1 c (near.map (V.int .i64)) 10 = none := fz1_ne (by omega)
     have g22 : fz1 c (near.map (V.int .i64)) (nx1 + 20) = none := fz1_ne (by omega)
     have m10 : Hp.sub (fz1 c (near.map (V.int .i64))) H6 10 = some ⟨[GV g], 8⟩ := sub_at g0 k3 (by simp only [List.map_cons, List.map_nil, sub_GV])
     by_cases hs : zdv near = true
     ·rw [hs] at cS
      have hS := stateB_iff.1 hs
      have okn := ok.to hS (by omega)
      refine sgo ?_
      refine zbf (fz1 c (near.map (V.int .i64))) (zdk c3 zep) (by simp -dsimp -implicitDefEqProofs (disch := try exact zdE) only [go_sem, zfl hyl, eY]) cS (by simp) ?_
      generalize Hp.sub (fz1 c (near.map (V.int .i64))) H6 = H8 at *
      simp -dsimp -implicitDefEqProofs (disch := try exact zdE) only [go_sem, zfl hyl, eY, g0, g22]
      refine zam (T := Nat × Nat) (fun u => ⟨E [(0, .int .i64 m), (1, .sl (rows.map RV)), (2, ints x), (7, .bool true), (8, .ptr 10 1 0 0), (25, ints near), (33, .int .i64 u.1)], H8, u.2, u.2⟩)
       (fun u => u.1 ≤ rows.length ∧ 12 ≤ u.2 ∧ ∀ i, i < u.1 → -(rows.getD i default).kn ≤ zbh (rows.getD i default) x ∧ zbh (rows.getD i default) x ≤ (rows.getD i default).kn) (fun u => rows.length - u.1) (0, _) rfl ⟨zdo, zdo, fun i hi => by dsimp only at hi; omega⟩ ?_
      rintro ⟨t, nx7⟩ ⟨t1, t3, t2⟩
      dsimp only at t1 t2 t3
      by_cases ht : t < rows.length
      ·have hrt := hR _ (zai default ht)
       have bx := residR_bd (rows.getD t default) x
       have bn := residR_bd (rows.getD t default) near
       have cx := zgg (rows.getD t default) x (by rw [hxm]; exact hrt) ok.state
       have cn := zgg (rows.getD t default) near (by rw [hnl]; exact hrt) hS
       obtain ⟨r, hX⟩ : ∃ r, rows.getD t default = r := ⟨_, rfl⟩
       rw [hX] at hrt bx bn cx cn
       obtain ⟨vx, hvx⟩ : ∃ v, zbh r x = v := ⟨_, rfl⟩
       obtain ⟨vn, hvn⟩ : ∃ v, zbh r near = v := ⟨_, rfl⟩
       rw [hvx] at bx cx
       rw [hvn] at bn cn
       have n1 : IntKind.i64.wrap (-vx) = -vx := IntWalk.i64_in _ (by omega)
       have n2 : IntKind.i64.wrap (-vn) = -vn := IntWalk.i64_in _ (by omega)
       by_cases hgt : r.kn < max (max (max vx (0 - vx)) vn) (0 - vn)
       ·simp -dsimp -implicitDefEqProofs (disch := try exact zdE) only [go_sem, hX]
        first | refine zaa (cx) (by simp) ?_ | refine zab (cx) (by simp) ?_
        simp -dsimp -implicitDefEqProofs (disch := try exact zdE) only [go_sem, hX]
        first | refine zaa (cn) (by simp) ?_ | refine zab (cn) (by simp) ?_
        simp -dsimp -implicitDefEqProofs (disch := try exact zdE) only [go_sem, hX, n1, n2, hgt]
        done
       ·simp -dsimp -implicitDefEqProofs (disch := try exact zdE) only [go_sem, hX]
        first | refine zaa (cx) (by simp) ?_ | refine zab (cx) (by simp) ?_
        simp -dsimp -implicitDefEqProofs (disch := try exact zdE) only [go_sem, hX]
        first | refine zaa (cn) (by simp) ?_ | refine zab (cn) (by simp) ?_
        simp -dsimp -implicitDefEqProofs (disch := try exact zdE) only [go_sem, hX, n1, n2, hgt]
        exact ⟨(t + 1, _), rfl, ⟨zdo, zdo, fun i hi => by
         dsimp only at hi
         by_cases e : i = t
         ·subst e; rw [hX, hvx]; omega
         ·exact t2 i (by omega)⟩, zdo⟩
      ·have hte : t = rows.length := by omega
       have hwi : Within rows x := fun k hk => t2 k (by omega)
       clear t2
       refine sgo ?_
       refine zam (T := Nat × Nat) (fun u => ⟨E [(0, .int .i64 m), (2, ints x), (7, .bool true), (8, .ptr 10 1 0 0), (25, ints near), (36, .int .i64 u.1)], H8, u.2, u.2⟩)
        (fun u => u.1 ≤ m ∧ 12 ≤ u.2) (fun u => m - u.1) (0, _) rfl ⟨zdo, zdo⟩ ?_
       rintro ⟨i, nx8⟩ ⟨i1, i2⟩
       dsimp only at i1 i2
       by_cases hi : i < m
       ·have b1 := hS.get i
        have b2 := ok.state.get i
        have e1 : IntKind.i64.wrap (near.getD i 0 - x.getD i 0) = near.getD i 0 - x.getD i 0 := IntWalk.i64_in _ (by omega)
        have e2 : IntKind.i64.wrap (x.getD i 0 - near.getD i 0) = x.getD i 0 - near.getD i 0 := IntWalk.i64_in _ (by omega)
        have h1 : ¬ 10000000 < near.getD i 0 - x.getD i 0 := by omega
        have h2 : ¬ 10000000 < x.getD i 0 - near.getD i 0 := by omega
        simp -dsimp -implicitDefEqProofs (disch := try exact zdE) only [go_sem, hnl, hxm, e1, e2, h1, h2]
        exact ⟨(i + 1, _), rfl, ⟨zdo, zdo⟩, zdo⟩
       ·have ck0 := check_ret c0C
        rw [show (chk c0C).2 = 0 by decide] at ck0
        have z1 := solve_ret g c0C x _ 12 6 ck0 ok (by omega) rfl rfl (by decide) (by decide) (by decide)
        have hE := solF_end g c0C.flat 6 12 x 0 0
        have hle := hplain hwi hS 11 6
        change valC g (solF g c0C.flat 6 12 x 0 0).1 ≤ valC g near at hle
        obtain ⟨F, hF⟩ : ∃ F, solF g c0C.flat 6 12 x 0 0 = F := ⟨_, rfl⟩
        rw [hF] at z1 hE hle
        have okF := ok.to (stateB_iff.1 (hE.state hst)) hE.len
        have cL := less_ret' g near F.1 okn okF
        rw [decide_eq_false (by omega)] at cL
        refine sgo ?_
        first | refine zaa (default_ret) (by simp) ?_ | refine zab (default_ret) (by simp) ?_
        simp -dsimp -implicitDefEqProofs (disch := try exact zdE) only [go_sem, m10]
        refine zaa (args := [GV g, CV c0C, ints x]) z1 (by simp) ?_
        simp -dsimp -implicitDefEqProofs (disch := try exact zdE) only [go_sem, m10]
        first | refine zaa (cL) (by simp) ?_ | refine zab (cL) (by simp) ?_
        exact sgo trivial
        done
     ·rw [show zdv near = false by simpa using hs] at cS
      refine sgo ?_
      refine zbf (fz1 c (near.map (V.int .i64))) (zdk c3 zep) (by simp -dsimp -implicitDefEqProofs (disch := try exact zdE) only [go_sem, zfl hyl, eY]) cS (by simp) ?_
      simp -dsimp -implicitDefEqProofs (disch := try exact zdE) only [go_sem, zfl hyl, eY, g0, g22]
      done
   ·rw [if_neg hdef] at cl
    refine sgo ?_
    refine callB_frd gz fz ha cof (by simp) ?_
    generalize H1.minus gz = H5 at *
    simp -dsimp -implicitDefEqProofs (disch := try exact zdE) only [go_sem, m10]
    first | refine zaa (cl) (by simp) ?_ | refine zab (cl) (by simp) ?_
    simp -dsimp -implicitDefEqProofs (disch := try exact zdE) only [go_sem, m10]
    done
end Go.Gim
/- The law SolveExact: the first step leads to the nearest state of the exact least one. -/
set_option maxRecDepth 100000
set_option maxHeartbeats 4000000
namespace Go.Gim
open Go.Proofs
theorem exact_easy (n : Int) (rows : List Row4) (x : List Int) (hn : In64 n) (hl : rows.length ≤ 9223372036854775807) (hr : ∀ r ∈ rows, r.co.length ≤ 9223372036854775807) (hxl : x.length ≤ 9223372036854775807)
  (h : rd19B n 6 rows 1 = false ∨ zdv x = false ∨ (x.length : Int) ≠ n ∨ (20 : Int) < rows.length) :
  Ret pg zb1 [.int .i64 n, .sl (rows.map RV), ints x] (.bool true) := by
 have c1 := read19_ret n 6 1 rows [] hl hr (by decide) (fun r h => by cases h) (by decide)
 have c1 := c1.nn (args := [.int .i64 n, .int .i64 6, .sl (rows.map RV), .nil, .int .i64 1]) rfl
 have c2 := rstate_ret x hxl
 refine gimballaw19_SolveExact.of rfl (W_b ?_)
 unfold gimballaw19_SolveExact.k gimballaw19_SolveExact.res Ot kp kd Og Oh Oy Om Ol OL Oq Oi Oc On ci
 by_cases hrd : rd19B n 6 rows 1 = true
 ·rw [hrd] at c1
  by_cases hs : zdv x = true
  ·rw [hs] at c2
   by_cases hx : (x.length : Int) = n
   ·have h20 : (20 : Int) < rows.length := by
     rcases h with h | h | h | h
     ·rw [hrd] at h; cases h
     ·rw [hs] at h; cases h
     ·exact absurd hx h
     ·exact h
    refine sgo ?_
    first | refine zaa (zcj) (by simp) ?_ | refine zab (zcj) (by simp) ?_
    refine sgo ?_
    first | refine zaa (c1) (by simp) ?_ | refine zab (c1) (by simp) ?_
    refine sgo ?_
    first | refine zaa (c2) (by simp) ?_ | refine zab (c2) (by simp) ?_
    simp -dsimp -implicitDefEqProofs (disch := try exact zdE) only [go_sem, hx, h20]
    done
   ·refine sgo ?_
    first | refine zaa (zcj) (by simp) ?_ | refine zab (zcj) (by simp) ?_
    refine sgo ?_
    first | refine zaa (c1) (by simp) ?_ | refine zab (c1) (by simp) ?_
    refine sgo ?_
    first | refine zaa (c2) (by simp) ?_ | refine zab (c2) (by simp) ?_
    simp -dsimp -implicitDefEqProofs (disch := try exact zdE) only [go_sem, hx]
    done
  ·rw [show zdv x = false by simpa using hs] at c2
   refine sgo ?_
   first | refine zaa (zcj) (by simp) ?_ | refine zab (zcj) (by simp) ?_
   refine sgo ?_
   first | refine zaa (c1) (by simp) ?_ | refine zab (c1) (by simp) ?_
   refine sgo ?_
   first | refine zaa (c2) (by simp) ?_ | refine zab (c2) (by simp) ?_
   exact sgo trivial
   done
 ·rw [show rd19B n 6 rows 1 = false by simpa using hrd] at c1
  refine sgo ?_
  first | refine zaa (zcj) (by simp) ?_ | refine zab (zcj) (by simp) ?_
  refine sgo ?_
  first | refine zaa (c1) (by simp) ?_ | refine zab (c1) (by simp) ?_
  refine sgo ?_
  first | refine zaa (c2) (by simp) ?_ | refine zab (c2) (by simp) ?_
  exact sgo trivial
  done
theorem SolveExact_true (n : Int) (rows : List Row4) (x : List Int) (hn : In64 n) (hl : rows.length ≤ 9223372036854775807) (hr : ∀ r ∈ rows, r.co.length ≤ 9223372036854775807) (hxl : x.length ≤ 9223372036854775807) :
  Ret pg zb1 [.int .i64 n, .sl (rows.map RV), ints x] (.bool true) := by
 by_cases hrd : rd19B n 6 rows 1 = true
 ·by_cases hs : zdv x = true
  ·by_cases hx : (x.length : Int) = n
   ·by_cases h20 : (20 : Int) < rows.length
    ·exact exact_easy n rows x hn hl hr hxl (.inr (.inr (.inr h20)))
    ·obtain ⟨h1, h2, h3⟩ := rd19_ok.1 hrd
     obtain ⟨g1, g2, g3⟩ := gnewE_ok h1
     obtain ⟨m, rfl⟩ : ∃ m : Nat, n = m := ⟨n.toNat, by omega⟩
     have hG : rd19G m 6 rows [] 1 = ⟨m, rows, mirM [] m, List.replicate m 0, 0, 1⟩ := by unfold rd19G; rw [if_pos hrd]; rfl
     have ok := gz_ok (m := m) (by omega) g2 g3 (by omega) hs
     exact exact_main m rows x _ (by omega) (by omega) hr hrd hG rfl ok (fun r h => rightB_iff.1 (g3 r h)) (by omega)
   ·exact exact_easy n rows x hn hl hr hxl (.inr (.inr (.inl hx)))
  ·exact exact_easy n rows x hn hl hr hxl (.inr (.inl (by simpa using hs)))
 ·exact exact_easy n rows x hn hl hr hxl (.inl (by simpa using hrd))
end Go.Gim

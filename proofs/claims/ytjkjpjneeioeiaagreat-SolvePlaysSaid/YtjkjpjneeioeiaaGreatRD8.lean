import Derived.Test.YtjkjpjneeioeiaaGreatRD1
import Derived.Test.YtjkjpjneeioeiaaGreatDT5
import Derived.Test.YtjkjpjneeioeiaaGreatLB2
set_option linter.unusedSimpArgs false
set_option linter.unusedVariables false
/- The references' matrices: determinants by the first row, equations, products, what is definite. -/
set_option maxRecDepth 100000
set_option maxHeartbeats 4000000
namespace Go.Gim
open Go.Proofs
attribute [local go_sem] IntWalk.i64_in wu64 wu32 wu8 Nat.mod_eq_of_lt shr32 shr63 shl32 or32 quo64 quo32 zfk remk zct zcs zd1 zd0 zb5 Nat.add_assoc za7 lt_ne gt_ne zdu dlt_t dlt_f dle_t dle_f deq_t deq_f zby zec zfd zbf zbk zbc zba zcu zcw zcx zdl zae List.length_set ge_iff_le gt_iff_lt Int.toNat_natCast zcf zdm zcj zdp zdn zcr zb2 zfj zb3 zb4 zdt
theorem dlim_zero : dlim 0 = 0 := by simp [dlim, zbe]
theorem r_sign (x : Int) (hx : dlim x ≤ 1099511627776) : Ret pg zev [DV x] (.int .i64 x.sign) := by
 unfold dlim at hx
 refine gimbalref01_Int_Sign.of rfl (W_b ?_)
 unfold gimbalref01_Int_Sign.k gimbalref01_Int_Sign.res Ot kp Ol Oq Oc On ci
 by_cases h0 : x = 0
 ·subst h0
  simp -dsimp -implicitDefEqProofs (disch := try exact zdL) only [go_sem, zaj, zai, zaf, zax, zaq, zac, Int.natAbs_zero, zbe, Int.sign_zero]
 ·have : (digs 10 x.natAbs).length ≠ 0 := by rw [zhf (by decide) (by omega)]; simp
  by_cases hn : x < 0
  ·simp -dsimp -implicitDefEqProofs (disch := try exact zdL) only [go_sem, zaj, zai, zaf, zax, zaq, zac, Int.sign_eq_neg_one_of_neg hn]
  ·simp -dsimp -implicitDefEqProofs (disch := try exact zdL) only [go_sem, zaj, zai, zaf, zax, zaq, zac, Int.sign_eq_one_of_pos (show 0 < x by omega)]
def dropK (f : Nat → Int) (k j : Nat) : List Int := (List.range (if j ≤ k then j else j - 1)).map fun q => f (skip k q)
theorem dropK_in {f : Nat → Int} {k j : Nat} (h : j ≠ k) : dropK f k j ++ [f j] = dropK f k (j + 1) := by
 unfold dropK
 by_cases h1 : j < k
 ·rw [if_pos (by omega), if_pos (by omega), ← zci]
  have : skip k j = j := by have := zh6 k j; omega
  rw [this]
 ·rw [if_neg (by omega), if_neg (by omega)]
  obtain ⟨m, rfl⟩ : ∃ m, j = m + 1 := ⟨j - 1, by omega⟩
  have : skip k m = m + 1 := by have := zh6 k m; omega
  rw [show m + 1 + 1 - 1 = m + 1 by omega, show m + 1 - 1 = m by omega, ← zci, this]
theorem dropK_out {f : Nat → Int} {k : Nat} : dropK f k k = dropK f k (k + 1) := by
 unfold dropK; rw [if_pos (Nat.le_refl _), if_neg (by omega)]; rfl
theorem dropK_all {f : Nat → Int} {k n : Nat} (h : k < n + 1) : dropK f k (n + 1) = rowF n fun q => f (skip k q) := by
 unfold dropK rowF; rw [if_neg (by omega)]; rfl
theorem dropK_len (f : Nat → Int) (k j : Nat) : (dropK f k j).length ≤ j := by unfold dropK; rw [List.length_map, List.length_range]; split <;> omega
theorem rwithout_ret (A : List (List Int)) (n k : Nat) (hn : n ≤ 1000) (hA : Sq A (n + 1)) (hk : k < n + 1) : Ret pg zfa [.sl (A.map dvl), .int .i64 k] (.sl ((mat n (minor (at2 A) k)).map dvl)) := by
 have hl := hA.1
 have hrow : ∀ i, ∀ x ∈ (List.range i).map fun q => dvl (rowF n (minor (at2 A) k q)), V.Pure x := fun i => zbr fun x => by simp
 refine gimbalref07_without.of rfl (W_b ?_)
 unfold gimbalref07_without.k gimbalref07_without.res Ot kp Om Ol OL Oi Oc On ci
 refine sgo ?_
 refine zap (T := Nat × V × Hp × Nat) (fun t => ⟨E [(0, .sl (A.map dvl)), (1, .int .i64 k), (5, t.2.1), (6, .int .i64 ((t.1 + 1 : Nat) : Int))], t.2.2.1, t.2.2.2, t.2.2.2⟩)
  (fun t => t.1 ≤ n ∧ Row 0 t.2.2.1 t.2.2.2 t.2.1 1 ((List.range t.1).map fun q => dvl (rowF n (minor (at2 A) k q)))) (fun t => n - t.1) (0, .nil, _, _) rfl ⟨zdo, Row.nil _ _ _ _⟩ ?_
 rintro ⟨i, w, H, nx⟩ ⟨i1, i2⟩
 dsimp only at i1 i2
 by_cases hi : i < n
 ·have hr := hA.row (show i + 1 < n + 1 by omega)
  have hg : ∀ j, (A.getD (i + 1) []).getD j 0 = at2 A (i + 1) j := fun j => rfl
  simp -dsimp -implicitDefEqProofs (disch := try exact zdE) only [go_sem, hl]
  refine zap (T := Nat × V × Hp × Nat) (fun t => ⟨E [(0, .sl (A.map dvl)), (1, .int .i64 k), (5, w), (6, .int .i64 ((i + 1 : Nat) : Int)), (7, t.2.1), (8, .int .i64 t.1)], t.2.2.1, t.2.2.2, t.2.2.2⟩)
   (fun t => t.1 ≤ n + 1 ∧ nx ≤ t.2.2.2 ∧ (∀ b, b < nx → t.2.2.1 b = H b) ∧ Row nx t.2.2.1 t.2.2.2 t.2.1 2 ((dropK (at2 A (i + 1)) k t.1).map DV)) (fun t => n + 1 - t.1) (0, .nil, H, _) rfl ⟨zdo, zdo, fun _ _ => rfl, by dsimp only; unfold dropK; rw [if_pos (by omega)]; exact Row.nil _ _ _ _⟩ ?_
  rintro ⟨j, u, H', nx'⟩ ⟨j1, j2, j3, j4⟩
  dsimp only at j1 j2 j3 j4
  have hdl := dropK_len (at2 A (i + 1)) k j
  by_cases hj : j < n + 1
  ·by_cases hjk : j = k
   ·subst hjk
    simp -dsimp -implicitDefEqProofs (disch := try exact zdE) only [go_sem, hl, hr]
    exact ⟨(j + 1, u, H', _), rfl, ⟨zdo, zdo, j3, by dsimp only; rw [← dropK_out]; exact j4.same (fun _ _ => rfl) (by omega)⟩, zdo⟩
   ·have hdi := dropK_in (f := at2 A (i + 1)) hjk
    simp -dsimp -implicitDefEqProofs (disch := try exact zdE) only [go_sem, hl, hr, hg]
    refine zaz (lo := nx) (nx := nx') (H0 := H') (xs := (dropK (at2 A (i + 1)) k j).map DV) j4 (by omega) rfl (by omega) (by omega) (by simp [rowOk, V.cells, V.cellOk, DV]) (by decide) (by simp; omega) (by simp; omega) fun v2 H2 r1 _ _ r4 => ?_
    rw [zdf, hdi] at r1
    refine sgo ?_
    exact ⟨(j + 1, v2, H2, _), rfl, ⟨zdo, zdo, fun b hb => (r4 b hb).trans (j3 b hb), r1.same (fun _ _ => rfl) zdo⟩, zdo⟩
  ·have hje : j = n + 1 := by omega
   subst hje
   rw [dropK_all hk] at j4
   have e7 : (rowF n fun q => at2 A (i + 1) (skip k q)) = rowF n (minor (at2 A) k i) := rfl
   rw [e7] at j4
   have i3 : Row 0 H' nx w 1 ((List.range i).map fun q => dvl (rowF n (minor (at2 A) k q))) := i2.same j3 (Nat.le_refl _)
   simp -dsimp -implicitDefEqProofs (disch := try exact zdE) only [go_sem, hl, hr]
   refine gh_row (lo := nx) (ys := (rowF n (minor (at2 A) k i)).map DV) 7 rfl (j4.same (fun _ _ => rfl) (by omega)) (zbr fun x => by simp) (fun p hp hne c hc => ?_) fun H2 hH2 => ?_
   ·simp only [List.mem_cons, List.not_mem_nil, or_false] at hp
    rcases hp with rfl | rfl | rfl | rfl | rfl | rfl | rfl <;> first | exact absurd rfl hne | (simp [V.sub]; done) | exact i2.sub_ge (by omega)
   ·have i4 := i3.told (nx := nx') (Nat.le_refl _) j2 (hrow i) hH2
    have e8 : V.sl ((rowF n (minor (at2 A) k i)).map DV) = dvl (rowF n (minor (at2 A) k i)) := rfl
    simp -dsimp -implicitDefEqProofs (disch := try exact zdE) only [go_sem, e8]
    refine zaz (lo := 0) (nx := nx') (H0 := H2) (xs := (List.range i).map fun q => dvl (rowF n (minor (at2 A) k q))) i4 (by omega) rfl (by omega) (by omega) (by simp [rowOk, V.cells, V.cellOk, dvl, V.isJunk]) (by decide) (by simp; omega) (by simp; omega) fun v2 H3 r1 _ _ r4 => ?_
    rw [zci (fun q => dvl (rowF n (minor (at2 A) k q)))] at r1
    refine sgo ?_
    exact ⟨(i + 1, v2, H3, _), rfl, ⟨zdo, r1.same (fun _ _ => rfl) zdo⟩, zdo⟩
 ·have hie : i = n := by omega
  subst hie
  simp -dsimp -implicitDefEqProofs (disch := try exact zdE) only [go_sem, hl]
  rw [i2.frz (allOf_self fun x hx => by obtain ⟨q, _, rfl⟩ := List.mem_map.1 hx; rfl)]
  unfold mat
  rw [List.map_map]
  rfl
theorem sgn_dlim (k : Nat) (x : Int) : dlim (sgn k * x) = dlim x := by
 unfold sgn; split
 ·rw [Int.one_mul]
 ·rw [Int.neg_mul, Int.one_mul, dlim_neg]
theorem sumZ_dlim {f : Nat → Int} {B : Nat} : ∀ {n}, (∀ k, k < n → dlim (f k) ≤ B) → dlim (sumZ f n) ≤ B + n
 | 0, _ => by rw [sumZ, dlim_zero]; omega
 | n + 1, h => by
  have h1 := sumZ_dlim (f := f) (n := n) fun k hk => h k (by omega)
  have h2 := h n (by omega)
  have h3 := dlim_add (sumZ f n) (f n)
  rw [sumZ]; omega
theorem det_dlim {L : Nat} : ∀ {n : Nat} {M : Mx}, (∀ i j, i < n → j < n → dlim (M i j) ≤ L) → dlim (det n M) ≤ n * (L + n) + 1
 | 0, M, _ => by have : dlim 1 ≤ 1 := dlim_of (by decide); simp only [det]; omega
 | n + 1, M, h => by
  rw [det]
  have h1 : ∀ k, k < n + 1 → dlim (sgn k * (M 0 k * det n (minor M k))) ≤ L + (n * (L + n) + 1) := fun k hk => by
   have h2 := det_dlim (n := n) (M := minor M k) (L := L) fun i j hi hj => h _ _ (by omega) (skip_lt hj)
   have h3 := zgs (M 0 k) (det n (minor M k))
   have h4 := h 0 k (by omega) hk
   rw [sgn_dlim]; omega
  have h2 := sumZ_dlim h1
  have e : (n + 1) * (L + (n + 1)) = n * (L + n) + n + L + (n + 1) := by
   rw [Nat.add_mul, Nat.mul_add n L (n + 1), Nat.mul_add n L n, Nat.mul_add n n 1]; omega
  omega
theorem sgn_rem (i : Nat) : ((i : Int).tmod 2 = 1 ∧ sgn i = -1) ∨ ((i : Int).tmod 2 = 0 ∧ sgn i = 1) := by
 have h : (i : Int).tmod 2 = ((i % 2 : Nat) : Int) := by rw [Int.ofNat_tmod]; rfl
 rw [h]
 unfold sgn
 by_cases h2 : i % 2 = 0
 ·rw [if_pos h2, h2]; exact .inr ⟨rfl, rfl⟩
 ·rw [if_neg h2, show i % 2 = 1 by omega]; exact .inl ⟨rfl, rfl⟩
theorem rdet_ret {L : Nat} (hL : L ≤ 1000000) : ∀ (n : Nat) (A : List (List Int)), n ≤ 12 → Sq A n → (∀ i j, i < n → j < n → dlim (at2 A i j) ≤ L) → Ret pg zcd [.sl (A.map dvl)] (DV (det n (at2 A)))
 | 0, A, hn, hA, hs => by
  have hl := hA.1
  refine gimbalref07_Mat_Det.of rfl (W_b ?_)
  unfold gimbalref07_Mat_Det.k gimbalref07_Mat_Det.res Ot kp kd Oy Om Ol OL Oi Oc On ci
  simp -dsimp -implicitDefEqProofs (disch := try exact zdE) only [go_sem, hl]
  first | refine zaa (r_of 1 (by decide)) (by simp) ?_ | refine zab (r_of 1 (by decide)) (by simp) ?_
  refine sgo ?_
  rfl
 | n + 1, A, hn, hA, hs => by
  have hl := hA.1
  have hr := hA.row (show 0 < n + 1 by omega)
  have hg : ∀ j, (A.getD 0 []).getD j 0 = at2 A 0 j := fun j => rfl
  have hd : ∀ k, k < n + 1 → dlim (det n (minor (at2 A) k)) ≤ n * (L + n) + 1 := fun k hk => det_dlim fun i j hi hj => hs _ _ (by omega) (skip_lt hj)
  have hnl : n * (L + n) ≤ 12 * 1000012 := Nat.mul_le_mul (by omega) (by omega)
  have hp : ∀ i, i ≤ n + 1 → dlim (sumZ (fun k => sgn k * (at2 A 0 k * det n (minor (at2 A) k))) i) ≤ 13000200 := fun i hi => by
   have := sumZ_dlim (f := fun k => sgn k * (at2 A 0 k * det n (minor (at2 A) k))) (n := i) (B := 13000146) fun k hk => by
    have h3 := zgs (at2 A 0 k) (det n (minor (at2 A) k))
    have h4 := hs 0 k (by omega) (by omega)
    have h5 := hd k (by omega)
    rw [sgn_dlim]; omega
   omega
  refine gimbalref07_Mat_Det.of rfl (W_b ?_)
  unfold gimbalref07_Mat_Det.k gimbalref07_Mat_Det.res Ot kp kd Oy Om Ol OL Oi Oc On ci
  simp -dsimp -implicitDefEqProofs (disch := try exact zdE) only [go_sem, hl]
  first | refine zaa (r_of 0 (by decide)) (by simp) ?_ | refine zab (r_of 0 (by decide)) (by simp) ?_
  refine sgo ?_
  refine zap (T := Nat × Hp × Nat) (fun t => ⟨E [(0, .sl (A.map dvl)), (2, .ptr 0 1 0 0), (3, .ptr 5 1 0 0), (4, .int .i64 t.1)], t.2.1, t.2.2, t.2.2⟩)
   (fun t => t.1 ≤ n + 1 ∧ 6 ≤ t.2.2 ∧ t.2.1 0 = some ⟨[.agg [.bool false, .sl []]], 2⟩ ∧ t.2.1 5 = some ⟨[DV (sumZ (fun k => sgn k * (at2 A 0 k * det n (minor (at2 A) k))) t.1)], 2⟩) (fun t => n + 1 - t.1) (0, _, _) rfl ⟨zdo, zdo, rfl, rfl⟩ ?_
  rintro ⟨i, H, nx⟩ ⟨i1, i2, i3, i4⟩
  dsimp only at i1 i2 i3 i4
  by_cases hi : i < n + 1
  ·have hw := rwithout_ret A n i (by omega) hA hi
   have hdt := rdet_ret hL n (mat n (minor (at2 A) i)) (by omega) (zhn _ _) fun p q hp hq => by rw [zgw hp hq]; exact hs _ _ (by omega) (skip_lt hq)
   have e1 : det n (at2 (mat n (minor (at2 A) i))) = det n (minor (at2 A) i) := za1 fun p q hp hq => zgw hp hq
   rw [e1] at hdt
   have d1 := hd i hi
   have d2 := hs 0 i (by omega) hi
   have d3 := hp i (by omega)
   have d4 := zgs (at2 A 0 i) (det n (minor (at2 A) i))
   have d5 := dlim_neg (at2 A 0 i * det n (minor (at2 A) i))
   have hrem : binV .rem (.int .i64 (i : Int)) (.int .i64 2) = some (.int .i64 ((i : Int).tmod 2)) := by
    rw [binV_rem, if_neg (by decide)]
   simp -dsimp -implicitDefEqProofs (disch := try exact zdE) only [go_sem, hl, hr, hg]
   first | refine zaa (hw) (by simp) ?_ | refine zab (hw) (by simp) ?_
   refine sgo ?_
   first | refine zaa (hdt) (by simp) ?_ | refine zab (hdt) (by simp) ?_
   simp -dsimp -implicitDefEqProofs (disch := try exact zdE) only [go_sem, hl, hr, hg]
   first | refine zaa (r_mul _ _ (by omega) (by omega)) (by simp) ?_ | refine zab (r_mul _ _ (by omega) (by omega)) (by simp) ?_
   rcases sgn_rem i with ⟨h1, h2⟩ | ⟨h1, h2⟩
   ·simp -dsimp -implicitDefEqProofs (disch := try exact zdE) only [go_sem, hrem, h1]
    first | refine zaa (r_minus _ (by omega)) (by simp) ?_ | refine zab (r_minus _ (by omega)) (by simp) ?_
    simp -dsimp -implicitDefEqProofs (disch := try exact zdE) only [go_sem, i4, i3]
    first | refine zaa (r_add _ _ (by omega) (by omega)) (by simp) ?_ | refine zab (r_add _ _ (by omega) (by omega)) (by simp) ?_
    simp -dsimp -implicitDefEqProofs (disch := try exact zdE) only [go_sem, i4, i3]
    generalize hG : Hp.upd _ 5 _ = G
    exact ⟨(i + 1, G, _), rfl, ⟨zdo, zdo, by dsimp only; rw [← hG, Hp.upd_ne _ _ (by omega), Hp.upd_ne _ _ (by omega)]; exact i3, by dsimp only; rw [← hG, Hp.upd_same, sumZ, h2, Int.neg_mul, Int.one_mul]⟩, zdo⟩
   ·simp -dsimp -implicitDefEqProofs (disch := try exact zdE) only [go_sem, hrem, h1, i4, i3]
    first | refine zaa (r_add _ _ (by omega) (by omega)) (by simp) ?_ | refine zab (r_add _ _ (by omega) (by omega)) (by simp) ?_
    simp -dsimp -implicitDefEqProofs (disch := try exact zdE) only [go_sem, i4, i3]
    generalize hG : Hp.upd _ 5 _ = G
    exact ⟨(i + 1, G, _), rfl, ⟨zdo, zdo, by dsimp only; rw [← hG, Hp.upd_ne _ _ (by omega), Hp.upd_ne _ _ (by omega)]; exact i3, by dsimp only; rw [← hG, Hp.upd_same, sumZ, h2, Int.one_mul]⟩, zdo⟩
  ·obtain rfl : i = n + 1 := by omega
   simp -dsimp -implicitDefEqProofs (disch := try exact zdE) only [go_sem, hl, i3, i4]
   rfl
theorem rsolve_ret {L : Nat} (hL : L ≤ 1000000) (A : List (List Int)) (b : List Int) (n : Nat) (hn : n ≤ 12) (hA : Sq A n) (hb : b.length = n) (hs : ∀ i j, i < n → j < n → dlim (at2 A i j) ≤ L) (hsb : ∀ i, i < n → dlim (b.getD i 0) ≤ L) :
  Ret pg zej [.sl (A.map dvl), dvl b] (dvl (rowF n fun k => det n (setC (at2 A) k fun i => b.getD i 0))) := by
 have hl := hA.1
 have hrow : ∀ k i, ∀ x ∈ (List.range i).map fun q => dvl (rowF n (setC (at2 A) k (fun i => b.getD i 0) q)), V.Pure x := fun k i => zbr fun x => by simp
 refine gimbalref07_Mat_Solve.of rfl (W_b ?_)
 unfold gimbalref07_Mat_Solve.k gimbalref07_Mat_Solve.res Ot kp Oy Om Ol OL Oi Oc On ci
 refine sgo ?_
 refine zap (T := Nat × V × Hp × Nat) (fun t => ⟨E [(0, .sl (A.map dvl)), (1, dvl b), (5, t.2.1), (6, .int .i64 t.1)], t.2.2.1, t.2.2.2, t.2.2.2⟩)
  (fun t => t.1 ≤ n ∧ Row 0 t.2.2.1 t.2.2.2 t.2.1 2 ((rowF t.1 fun k => det n (setC (at2 A) k fun i => b.getD i 0)).map DV)) (fun t => n - t.1) (0, .nil, _, _) rfl ⟨zdo, Row.nil _ _ _ _⟩ ?_
 rintro ⟨k, w, H, nx⟩ ⟨k1, k2⟩
 dsimp only at k1 k2
 by_cases hk : k < n
 ·simp -dsimp -implicitDefEqProofs (disch := try exact zdE) only [go_sem, hl]
  refine zap (T := Nat × V × Hp × Nat) (fun t => ⟨E [(0, .sl (A.map dvl)), (1, dvl b), (5, w), (6, .int .i64 k), (7, t.2.1), (8, .int .i64 t.1)], t.2.2.1, t.2.2.2, t.2.2.2⟩)
   (fun t => t.1 ≤ n ∧ nx ≤ t.2.2.2 ∧ Row 0 t.2.2.1 nx w 2 ((rowF k fun k => det n (setC (at2 A) k fun i => b.getD i 0)).map DV) ∧ Row nx t.2.2.1 t.2.2.2 t.2.1 1 ((List.range t.1).map fun q => dvl (rowF n (setC (at2 A) k (fun i => b.getD i 0) q)))) (fun t => n - t.1) (0, .nil, H, _) rfl ⟨zdo, zdo, k2, Row.nil _ _ _ _⟩ ?_
  rintro ⟨i, u, H1, nx1⟩ ⟨i1, i2, i3, i4⟩
  dsimp only at i1 i2 i3 i4
  by_cases hi : i < n
  ·have hr := hA.row hi
   have hrF : A.getD i [] = rowF n (at2 A i) := by
    refine List.ext_getElem (by rw [hr, zee]) fun j h1 h2 => ?_
    have := zik (w := n) (f := at2 A i) (i := j) (by omega)
    simp only [List.getD_eq_getElem?_getD, List.getElem?_eq_getElem h2, Option.getD_some] at this
    rw [this]
    show _ = (A.getD i []).getD j 0
    simp only [List.getD_eq_getElem?_getD] at h1 ⊢
    rw [List.getElem?_eq_getElem h1]; rfl
   have hset : (rowF n (at2 A i)).set k (b.getD i 0) = rowF n (setC (at2 A) k (fun i => b.getD i 0) i) := by
    rw [rowF_set]; exact zf7 fun q _ => rfl
   have hlr := zee n (at2 A i)
   have hls : ((rowF n (setC (at2 A) k (fun i => b.getD i 0) i)).map DV).length = n := by simp [rowF]
   have e8 : V.sl ((rowF n (setC (at2 A) k (fun i => b.getD i 0) i)).map DV) = dvl (rowF n (setC (at2 A) k (fun i => b.getD i 0) i)) := rfl
   simp -dsimp -implicitDefEqProofs (disch := try exact zdE) only [go_sem, hl, hrF]
   refine effB_copy (H0 := H1) rfl (by simp [rowOk, V.isJunk, V.cells, V.cellOk, DV]) (by decide) (by simp [rowF]; omega) (by simp [rowF]; omega) ?_
   simp -dsimp -implicitDefEqProofs (disch := try exact zdE) only [go_sem, hlr, hb, hset, zec]
   generalize hG : Hp.upd _ (nx1 + 9) _ = G
   have g1 : ∀ c, c < nx1 → G c = H1 c := fun c hc => by rw [← hG, Hp.upd_ne _ _ (by omega), Hp.upd_ne _ _ (by omega)]
   have g2 : G (nx1 + 9) = some ⟨(rowF n (setC (at2 A) k (fun i => b.getD i 0) i)).map DV, 2⟩ := by rw [← hG, Hp.upd_same]
   clear hG
   refine gh_row (lo := nx1) (es := 2) (ys := (rowF n (setC (at2 A) k (fun i => b.getD i 0) i)).map DV) 9 rfl (.inr ⟨nx1 + 9, by rw [hls]; rfl, by omega, by omega, g2⟩) (zbr fun x => by simp) (fun p hp hne c hc => ?_) fun H2 hH2 => ?_
   ·simp only [List.mem_cons, List.not_mem_nil, or_false] at hp
    rcases hp with rfl | rfl | rfl | rfl | rfl | rfl | rfl <;> first | exact absurd rfl hne | exact sub_dvl _ _ | (simp [V.sub]; done) | exact i3.sub_ge (by omega) | exact i4.sub_ge (by omega)
   ·have i3' : Row 0 H2 nx w 2 ((rowF k fun k => det n (setC (at2 A) k fun i => b.getD i 0)).map DV) := (i3.same (H' := G) (fun c hc => g1 c (by omega)) (Nat.le_refl _)).told (lo := nx1) i2 (Nat.le_refl _) (zbr fun x => by simp) hH2
    have i4' : Row nx H2 nx1 u 1 ((List.range i).map fun q => dvl (rowF n (setC (at2 A) k (fun i => b.getD i 0) q))) := (i4.same (H' := G) g1 (Nat.le_refl _)).told (lo := nx1) (Nat.le_refl _) (Nat.le_refl _) (hrow k i) hH2
    simp -dsimp -implicitDefEqProofs (disch := try exact zdE) only [go_sem, e8]
    refine zaz (lo := nx) (nx := nx1) (H0 := H2) (xs := (List.range i).map fun q => dvl (rowF n (setC (at2 A) k (fun i => b.getD i 0) q))) i4' (by omega) rfl (by omega) (by omega) (by simp [rowOk, V.cells, V.cellOk, dvl, V.isJunk]) (by decide) (by simp; omega) (by simp; omega) fun v2 H3 r1 _ _ r4 => ?_
    rw [zci (fun q => dvl (rowF n (setC (at2 A) k (fun i => b.getD i 0) q)))] at r1
    refine sgo ?_
    exact ⟨(i + 1, v2, H3, _), rfl, ⟨zdo, zdo, i3'.same r4 (Nat.le_refl _), r1.same (fun _ _ => rfl) zdo⟩, zdo⟩
  ·have hie : i = n := by omega
   subst hie
   obtain ⟨c, hu, c1, c2, c3⟩ := i4.own_of (by simp; omega)
   rw [List.length_map, List.length_range] at hu
   subst hu
   have hsk : ∀ p q, p < i → q < i → dlim (setC (at2 A) k (fun i => b.getD i 0) p q) ≤ L := fun p q hp hq => by
    unfold setC; split
    ·exact hsb p hp
    ·exact hs p q hp hq
   have hdt := rdet_ret hL i (mat i (setC (at2 A) k fun i => b.getD i 0)) (by omega) (zhn _ _) fun p q hp hq => by rw [zgw hp hq]; exact hsk p q hp hq
   have e1 : det i (at2 (mat i (setC (at2 A) k fun i => b.getD i 0))) = det i (setC (at2 A) k fun i => b.getD i 0) := za1 fun p q hp hq => zgw hp hq
   rw [e1] at hdt
   have e2 : (List.range i).map (fun q => dvl (rowF i (setC (at2 A) k (fun i => b.getD i 0) q))) = (mat i (setC (at2 A) k fun i => b.getD i 0)).map dvl := by unfold mat; rw [List.map_map]; rfl
   rw [e2] at c3
   have hlm : ((mat i (setC (at2 A) k fun i => b.getD i 0)).map dvl).length = i := by rw [List.length_map]; exact (zhn _ _).1
   simp -dsimp -implicitDefEqProofs (disch := try exact zdE) only [go_sem, hl]
   refine zep c ((mat i (setC (at2 A) k fun i => b.getD i 0)).map dvl) c3 (zbr fun x => by simp) (by simp only [List.map_cons, List.map_nil, V.sub, fz1, if_true, hlm]) hdt (by simp) ?_
   refine sgo ?_
   refine zaz (lo := 0) (nx := nx) (H0 := H1.upd c none) (xs := (rowF k fun k => det i (setC (at2 A) k fun i => b.getD i 0)).map DV) (i3.same (fun b hb => Hp.upd_ne _ _ (by omega)) (Nat.le_refl _)) (by omega) rfl (by omega) (by omega) (by simp [rowOk, V.cells, V.cellOk, DV, V.isJunk]) (by decide) (by simp [rowF]; omega) (by simp [rowF]; omega) fun v2 H3 r1 _ _ r4 => ?_
   rw [zdf, show (rowF k fun k => det i (setC (at2 A) k fun i => b.getD i 0)) ++ [det i (setC (at2 A) k fun i => b.getD i 0)] = rowF (k + 1) fun k => det i (setC (at2 A) k fun i => b.getD i 0) from zci _ _] at r1
   refine sgo ?_
   exact ⟨(k + 1, v2, H3, _), rfl, ⟨zdo, r1.same (fun _ _ => rfl) zdo⟩, zdo⟩
 ·have hke : k = n := by omega
  subst hke
  simp -dsimp -implicitDefEqProofs (disch := try exact zdE) only [go_sem, hl]
  rw [k2.frz (zc5 fun x => zax _ _ _)]
  rfl
end Go.Gim
/- The references' matrices: turned, products, what is definite. -/
set_option maxRecDepth 100000
set_option maxHeartbeats 4000000
namespace Go.Gim
open Go.Proofs
theorem dlim_at_mat {n : Nat} {f : Mx} {A : Nat} (h : ∀ i j, dlim (f i j) ≤ A) (i j : Nat) : dlim (at2 (mat n f) i j) ≤ A := by
 by_cases hi : i < n
 ·by_cases hj : j < n
  ·rw [zgw hi hj]; exact h i j
  ·unfold at2 mat; rw [za0 [] hi, range_getD', if_neg hj, dlim_zero]; omega
 ·unfold at2 mat
  rw [show ((List.range n).map fun i => (List.range n).map (f i)).getD i [] = [] by rw [List.getD_eq_getElem?_getD, List.getElem?_eq_none (by simp; omega)]; rfl]
  simp [dlim_zero]
theorem get_getD8 (l : List Int) (j : Nat) (h : j < l.length) : l[j] = l.getD j 0 := by simp [List.getD_eq_getElem?_getD, h]
def leadR (A : List (List Int)) (k i : Nat) : List Int := (A.getD i []).take k
theorem leadR_F {A : List (List Int)} {n k i : Nat} (hA : Sq A n) (hk : k ≤ n) (hi : i < n) : leadR A k i = rowF k (at2 A i) := by
 have hr := hA.row hi
 unfold leadR
 refine List.ext_getElem (by rw [List.length_take, hr, zee]; omega) fun j h1 h2 => ?_
 have := zik (w := k) (f := at2 A i) (i := j) (by rw [zee] at h2; exact h2)
 simp only [List.getD_eq_getElem?_getD, List.getElem?_eq_getElem h2, Option.getD_some] at this
 rw [this]
 rw [List.length_take, hr] at h1
 have hj : j < (A.getD i []).length := by omega
 rw [List.getElem_take]
 exact get_getD8 _ _ hj
theorem rdefinite_ret {L : Nat} (hL : L ≤ 1000000) (A : List (List Int)) (n : Nat) (hn : n ≤ 12) (hA : Sq A n) (hs : ∀ i j, dlim (at2 A i j) ≤ L) : Ret pg zdr [.sl (A.map dvl)] (.bool (defS n (at2 A))) := by
 have hl := hA.1
 refine gimbalref07_Mat_Definite.of rfl (W_b ?_)
 unfold gimbalref07_Mat_Definite.k gimbalref07_Mat_Definite.res Ot kp kd Om Ol OL Oi Oc On ci
 refine sgo ?_
 refine zap (T := Nat × Hp × Nat) (fun t => ⟨E [(0, .sl (A.map dvl)), (3, .int .i64 t.1)], t.2.1, t.2.2, t.2.2⟩) (fun t => t.1 ≤ n ∧ ∀ i, i < t.1 → (∀ j, j < i → at2 A i j = at2 A j i) ∧ 0 < detS (i + 1) (lead (at2 A) (i + 1))) (fun t => n - t.1) (0, _, _) rfl ⟨zdo, fun i h => by dsimp only at h; omega⟩ ?_
 rintro ⟨i, H, nx⟩ ⟨i1, i2⟩
 dsimp only at i1 i2
 by_cases hi : i < n
 ·have hri := hA.row hi
  simp -dsimp -implicitDefEqProofs (disch := try exact zdE) only [go_sem, hl]
  refine zap (T := Nat × V × Hp × Nat) (fun t => ⟨E [(0, .sl (A.map dvl)), (3, .int .i64 i), (4, t.2.1), (5, .int .i64 t.1)], t.2.2.1, t.2.2.2, t.2.2.2⟩)
   (fun t => t.1 ≤ i + 1 ∧ nx ≤ t.2.2.2 ∧ Row nx t.2.2.1 t.2.2.2 t.2.1 1 ((List.range t.1).map fun q => dvl (rowF (i + 1) (at2 A q))) ∧ ∀ j, j < t.1 → at2 A i j = at2 A j i) (fun t => i + 1 - t.1) (0, .nil, H, _) rfl ⟨zdo, zdo, Row.nil _ _ _ _, fun j h => by dsimp only at h; omega⟩ ?_
  rintro ⟨j, u, H', nx'⟩ ⟨j1, j2, j3, j4⟩
  dsimp only at j1 j2 j3 j4
  by_cases hj : j < i + 1
  ·have hrj := hA.row (show j < n by omega)
   have hc1 : ((i : Int) + 1) = ((i + 1 : Nat) : Int) := by omega
   have hg1 : (A.getD i []).getD j 0 = at2 A i j := rfl
   have hg2 : (A.getD j []).getD i 0 = at2 A j i := rfl
   have hsl : redV (.slc 2 false true false) [dvl (A.getD j []), .int .i64 ((i + 1 : Nat) : Int)] = some (dvl (rowF (i + 1) (at2 A j))) := by
    rw [dvl_eq, zfj (by omega) (by rw [List.length_map, hrj]; omega) (by decide), ← leadR_F hA (show i + 1 ≤ n by omega) (show j < n by omega)]
    unfold leadR dvl
    rw [List.map_take, Int.toNat_natCast]
   have s1 := hs i j
   have s2 := hs j i
   simp -dsimp -implicitDefEqProofs (disch := try exact zdE) only [go_sem, hl, hri, hrj]
   refine W_gh0 ?_
   simp -dsimp -implicitDefEqProofs (disch := try exact zdE) only [go_sem, hl, hri, hrj, hsl]
   refine zaz (lo := nx) (nx := nx') (H0 := H') (xs := (List.range j).map fun q => dvl (rowF (i + 1) (at2 A q))) j3 (by omega) rfl (by omega) (by omega) (by simp [rowOk, V.cells, V.cellOk, dvl, V.isJunk]) (by decide) (by simp; omega) (by simp; omega) fun v2 H3 r1 _ _ r4 => ?_
   rw [zci (fun q => dvl (rowF (i + 1) (at2 A q)))] at r1
   simp -dsimp -implicitDefEqProofs (disch := try exact zdE) only [go_sem, hl, hri, hrj, hg1, hg2]
   first | refine zaa (r_cmp _ _ (by omega) (by omega)) (by simp) ?_ | refine zab (r_cmp _ _ (by omega) (by omega)) (by simp) ?_
   by_cases h : at2 A i j = at2 A j i
   ·have hsg : (at2 A i j - at2 A j i).sign = 0 := by rw [h]; simp
    simp -dsimp -implicitDefEqProofs (disch := try exact zdE) only [go_sem, hsg]
    exact ⟨(j + 1, v2, H3, _), rfl, ⟨zdo, zdo, r1.same (fun _ _ => rfl) zdo, fun k hk => by dsimp only at hk; by_cases hkj : k = j; (subst hkj; exact h); exact j4 k (by omega)⟩, zdo⟩
   ·have hsg : (at2 A i j - at2 A j i).sign ≠ 0 := by rw [Ne, Int.sign_eq_zero_iff_zero]; omega
    have hne : defS n (at2 A) = false := decide_eq_false fun e => h ((e i hi).1 j (by
     rcases Nat.lt_or_ge j i with h' | h'
     ·exact h'
     ·have : j = i := by omega
      subst this; exact absurd rfl h))
    rw [hne]
    simp -dsimp -implicitDefEqProofs (disch := try exact zdE) only [go_sem, hsg]
  ·have hje : j = i + 1 := by omega
   subst hje
   obtain ⟨c, hu, c1, c2, c3⟩ := j3.own_of (by simp)
   rw [List.length_map, List.length_range] at hu
   subst hu
   have hdt := rdet_ret hL (i + 1) (mat (i + 1) (at2 A)) (by omega) (zhn _ _) fun p q hp hq => by rw [zgw hp hq]; exact hs p q
   have hdl := det_dlim (n := i + 1) (M := at2 (mat (i + 1) (at2 A))) (L := L) fun p q hp hq => by rw [zgw hp hq]; exact hs p q
   have hdm : (i + 1) * (L + (i + 1)) ≤ 12 * 1000012 := Nat.mul_le_mul (by omega) (by omega)
   rw [← detS_eq] at hdt hdl
   have e3 : at2 (mat (i + 1) (at2 A)) = lead (at2 A) (i + 1) := rfl
   rw [e3] at hdt hdl
   have e2 : (List.range (i + 1)).map (fun q => dvl (rowF (i + 1) (at2 A q))) = (mat (i + 1) (at2 A)).map dvl := by unfold mat; rw [List.map_map]; rfl
   rw [e2] at c3
   have hlm : ((mat (i + 1) (at2 A)).map dvl).length = i + 1 := by rw [List.length_map]; exact (zhn _ _).1
   simp -dsimp -implicitDefEqProofs (disch := try exact zdE) only [go_sem, hl]
   refine zep c ((mat (i + 1) (at2 A)).map dvl) c3 (zbr fun x => by simp) (by simp only [List.map_cons, List.map_nil, V.sub, fz1, if_true, hlm]) hdt (by simp) ?_
   refine sgo ?_
   first | refine zaa (r_sign _ (by omega)) (by simp) ?_ | refine zab (r_sign _ (by omega)) (by simp) ?_
   by_cases hpos : 0 < detS (i + 1) (lead (at2 A) (i + 1))
   ·have hsg : (detS (i + 1) (lead (at2 A) (i + 1))).sign = 1 := Int.sign_eq_one_of_pos hpos
    simp -dsimp -implicitDefEqProofs (disch := try exact zdE) only [go_sem, hsg]
    exact ⟨(i + 1, _, _), rfl, ⟨zdo, fun k hk => by dsimp only at hk; by_cases hki : k = i; (subst hki; exact ⟨fun q hq => j4 q (by omega), hpos⟩); exact i2 k (by omega)⟩, zdo⟩
   ·have hsg : (detS (i + 1) (lead (at2 A) (i + 1))).sign ≤ 0 := by
     rcases Int.lt_trichotomy (detS (i + 1) (lead (at2 A) (i + 1))) 0 with h | h | h
     ·rw [Int.sign_eq_neg_one_of_neg h]; decide
     ·rw [h]; decide
     ·exact absurd h hpos
    have hne : defS n (at2 A) = false := decide_eq_false fun e => hpos (e i hi).2
    rw [hne]
    simp -dsimp -implicitDefEqProofs (disch := try exact zdE) only [go_sem, hsg]
 ·have hie : i = n := by omega
  subst hie
  have : defS i (at2 A) = true := decide_eq_true i2
  rw [this]
  simp -dsimp -implicitDefEqProofs (disch := try exact zdE) only [go_sem, hl]
end Go.Gim

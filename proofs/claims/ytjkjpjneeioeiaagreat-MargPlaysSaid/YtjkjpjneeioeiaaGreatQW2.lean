import Derived.Test.YtjkjpjneeioeiaaGreatRL0
import Derived.Test.YtjkjpjneeioeiaaGreatSM0
import Derived.Test.YtjkjpjneeioeiaaGreatDT5
import Derived.Test.YtjkjpjneeioeiaaGreatLB2
import Derived.Test.YtjkjpjneeioeiaaGreatQP2
import Derived.Test.YtjkjpjneeioeiaaGreatSB
import Derived.Test.YtjkjpjneeioeiaaGreatGN
import Derived.Test.YtjkjpjneeioeiaaGreatQA3
import Derived.Test.YtjkjpjneeioeiaaGreatLS4
set_option linter.unusedSimpArgs false
set_option linter.unusedVariables false
/- The references' products and quadratic functions. -/
set_option maxRecDepth 100000
set_option maxHeartbeats 4000000
namespace Go.Gim
open Go.Proofs
theorem sumN_dlim {f p : Nat → Int} {L : Nat} (h : ∀ i, dlim (f i) + dlim (p i) ≤ L) : ∀ n, dlim (sumN f p n) ≤ L + n
 | 0 => by have h0 : dlim 0 = 0 := (by simp [dlim, zav]); simp only [sumN]; omega
 | n + 1 => by
  have h1 := sumN_dlim h n
  have h2 := zba (f n) (p n)
  have h3 := dlim_add (sumN f p n) (f n * p n)
  have h4 := h n
  rw [sumN]
  omega
theorem rdot_ret (x y : List Int) (hl : x.length ≤ 1000) (hy : x.length ≤ y.length) (sx : ∀ i, dlim (x.getD i 0) ≤ 2000000) (sy : ∀ i, dlim (y.getD i 0) ≤ 2000000) : Ret pg zcr [dvl x, dvl y] (DV (sumN (fun k => x.getD k 0) (fun k => y.getD k 0) x.length)) := by
 refine gimbalref07_Dot.of rfl (W_b ?_)
 unfold gimbalref07_Dot.k gimbalref07_Dot.res Ot kp kd Oy Om OL Oi Oc On ci
 simp -dsimp -implicitDefEqProofs (disch := try exact zdE) only [go_sem, ← DV_zero]
 refine zaa (r_of 0 (by omega)) (by simp) ?_
 refine sgo ?_
 refine W_loopG (T := Nat × Nat) (fun t => ⟨E [(0, dvl x), (1, dvl y), (4, .ptr 0 1 0 0), (5, .ptr 2 1 0 0), (6, .int .i64 t.1)], (Hp.upd (fun _ => none) 0 (some ⟨[DV 0], 2⟩)).upd 2 (some ⟨[DV (sumN (fun k => x.getD k 0) (fun k => y.getD k 0) t.1)], 2⟩), t.2, t.2⟩) (fun t => t.1 ≤ x.length ∧ 2 < t.2) (fun t => x.length - t.1) (0, 5) (Ghost.refl _) ⟨zdo, zdo⟩ ?_
 rintro ⟨i, nx⟩ ⟨i1, i2⟩
 dsimp only at i1 i2
 have b0 := sumN_dlim (f := fun k => x.getD k 0) (p := fun k => y.getD k 0) (L := 4000000) (fun k => by have := sx k; have := sy k; omega) i
 by_cases hi : i < x.length
 ·have b1 := sx i
  have b2 := sy i
  have b3 := zba (x.getD i 0) (y.getD i 0)
  refine sgo ?_
  first | refine zaa (r_mul _ _ (by omega) (by omega)) (by simp) ?_ | refine zab (r_mul _ _ (by omega) (by omega)) (by simp) ?_
  refine sgo ?_
  first | refine zaa (r_add _ _ (by omega) (by omega)) (by simp) ?_ | refine zab (r_add _ _ (by omega) (by omega)) (by simp) ?_
  refine sgo ?_
  exact ⟨(i + 1, _), Ghost.refl _, ⟨zdo, zdo⟩, zdo⟩
 ·have hie : x.length = i := by omega
  subst hie
  exact sgo trivial
end Go.Gim
/- The references' matrices: determinants by the first row, equations, products, what is definite. -/
set_option maxRecDepth 100000
set_option maxHeartbeats 4000000
namespace Go.Gim
open Go.Proofs
attribute [local go_sem] IntWalk.i64_in wu64 wu32 wu8 Nat.mod_eq_of_lt shr32 shr63 shl32 or32 quo64 quo32 zfb remk zcw zcv zd0 zdz zb9 Nat.add_assoc za8 lt_ne gt_ne zds dlt_t dlt_f dle_t dle_f deq_t deq_f zca zep zel zbr zbq zbf zbc zcx zcy zcz zdh zae List.length_set ge_iff_le gt_iff_lt Int.toNat_natCast zcg zdi zcq zdk zdj zcp zb0 zea zb7 zb8 zdr
theorem zfp : dlim 0 = 0 := by simp [dlim, zav]
theorem r_sign (x : Int) (hx : dlim x ≤ 1099511627776) : Ret pg zd2 [DV x] (.int .i64 x.sign) := by
 unfold dlim at hx
 refine gimbalref01_Int_Sign.of rfl (W_b ?_)
 unfold gimbalref01_Int_Sign.k gimbalref01_Int_Sign.res Ot kp Ol Oq Oc On ci
 by_cases h0 : x = 0
 ·subst h0
  simp -dsimp -implicitDefEqProofs (disch := try exact zdL) only [go_sem, zao, zan, zah, zaz, zas, zac, Int.natAbs_zero, zav, Int.sign_zero]
 ·have : (digs 10 x.natAbs).length ≠ 0 := by rw [zdq (by decide) (by omega)]; simp
  by_cases hn : x < 0
  ·simp -dsimp -implicitDefEqProofs (disch := try exact zdL) only [go_sem, zao, zan, zah, zaz, zas, zac, Int.sign_eq_neg_one_of_neg hn]
  ·simp -dsimp -implicitDefEqProofs (disch := try exact zdL) only [go_sem, zao, zan, zah, zaz, zas, zac, Int.sign_eq_one_of_pos (show 0 < x by omega)]
def dropK (f : Nat → Int) (k j : Nat) : List Int := (List.range (if j ≤ k then j else j - 1)).map fun q => f (skip k q)
theorem dropK_in {f : Nat → Int} {k j : Nat} (h : j ≠ k) : dropK f k j ++ [f j] = dropK f k (j + 1) := by
 unfold dropK
 by_cases h1 : j < k
 ·rw [if_pos (by omega), if_pos (by omega), ← zat]
  have : skip k j = j := by have := zgx k j; omega
  rw [this]
 ·rw [if_neg (by omega), if_neg (by omega)]
  obtain ⟨m, rfl⟩ : ∃ m, j = m + 1 := ⟨j - 1, by omega⟩
  have : skip k m = m + 1 := by have := zgx k m; omega
  rw [show m + 1 + 1 - 1 = m + 1 by omega, show m + 1 - 1 = m by omega, ← zat, this]
theorem dropK_out {f : Nat → Int} {k : Nat} : dropK f k k = dropK f k (k + 1) := by
 unfold dropK; rw [if_pos (Nat.le_refl _), if_neg (by omega)]; rfl
theorem dropK_all {f : Nat → Int} {k n : Nat} (h : k < n + 1) : dropK f k (n + 1) = rowF n fun q => f (skip k q) := by
 unfold dropK rowF; rw [if_neg (by omega)]; rfl
theorem dropK_len (f : Nat → Int) (k j : Nat) : (dropK f k j).length ≤ j := by unfold dropK; rw [List.length_map, List.length_range]; split <;> omega
theorem rwithout_ret (A : List (List Int)) (n k : Nat) (hn : n ≤ 1000) (hA : Sq A (n + 1)) (hk : k < n + 1) : Ret pg zed [.sl (A.map dvl), .int .i64 k] (.sl ((mat n (minor (at2 A) k)).map dvl)) := by
 have hl := hA.1
 have hrow : ∀ i, ∀ x ∈ (List.range i).map fun q => dvl (rowF n (minor (at2 A) k q)), V.Pure x := fun i => za3 fun x => by simp
 refine gimbalref07_without.of rfl (W_b ?_)
 unfold gimbalref07_without.k gimbalref07_without.res Ot kp Om Ol OL Oi Oc On ci
 refine sgo ?_
 refine zap (T := Nat × V × Hp × Nat) (fun t => ⟨E [(0, .sl (A.map dvl)), (1, .int .i64 k), (5, t.2.1), (6, .int .i64 ((t.1 + 1 : Nat) : Int))], t.2.2.1, t.2.2.2, t.2.2.2⟩)
  (fun t => t.1 ≤ n ∧ Row 0 t.2.2.1 t.2.2.2 t.2.1 1 ((List.range t.1).map fun q => dvl (rowF n (minor (at2 A) k q)))) (fun t => n - t.1) (0, .nil, _, _) rfl ⟨zdo, Row.nil _ _ _ _⟩ ?_
 rintro ⟨i, w, H, nx⟩ ⟨i1, i2⟩
 dsimp only at i1 i2
 by_cases hi : i < n
 ·have hr := hA.row (show i + 1 < n + 1 by omega)
  have hg : ∀ j, (A.getD (i + 1) []).getD j 0 = at2 A (i + 1) j := fun j => rfl
  simp -dsimp -implicitDefEqProofs (disch := try exact zdE) only [go_sem, hl]
  refine zap (T := Nat × V × Hp × Nat) (fun t => ⟨E [(0, .sl (A.map dvl)), (1, .int .i64 k), (5, w), (6, .int .i64 ((i + 1 : Nat) : Int)), (7, t.2.1), (8, .int .i64 t.1)], t.2.2.1, t.2.2.2, t.2.2.2⟩)
   (fun t => t.1 ≤ n + 1 ∧ nx ≤ t.2.2.2 ∧ (∀ b, b < nx → t.2.2.1 b = H b) ∧ Row nx t.2.2.1 t.2.2.2 t.2.1 2 ((dropK (at2 A (i + 1)) k t.1).map DV)) (fun t => n + 1 - t.1) (0, .nil, H, _) rfl ⟨zdo, zdo, fun _ _ => rfl, by dsimp only; unfold dropK; rw [if_pos (by omega)]; exact Row.nil _ _ _ _⟩ ?_
  rintro ⟨j, u, H', nx'⟩ ⟨j1, j2, j3, j4⟩
  dsimp only at j1 j2 j3 j4
  have hdl := dropK_len (at2 A (i + 1)) k j
  by_cases hj : j < n + 1
  ·by_cases hjk : j = k
   ·subst hjk
    simp -dsimp -implicitDefEqProofs (disch := try exact zdE) only [go_sem, hl, hr]
    exact ⟨(j + 1, u, H', _), rfl, ⟨zdo, zdo, j3, by dsimp only; rw [← dropK_out]; exact j4.same (fun _ _ => rfl) (by omega)⟩, zdo⟩
   ·have hdi := dropK_in (f := at2 A (i + 1)) hjk
    simp -dsimp -implicitDefEqProofs (disch := try exact zdE) only [go_sem, hl, hr, hg]
    refine zaq (lo := nx) (nx := nx') (H0 := H') (xs := (dropK (at2 A (i + 1)) k j).map DV) j4 (by omega) rfl (by omega) (by omega) (by simp [rowOk, V.cells, V.cellOk, DV]) (by decide) (by simp; omega) (by simp; omega) fun v2 H2 r1 _ _ r4 => ?_
    rw [zc3, hdi] at r1
    refine sgo ?_
    exact ⟨(j + 1, v2, H2, _), rfl, ⟨zdo, zdo, fun b hb => (r4 b hb).trans (j3 b hb), r1.same (fun _ _ => rfl) zdo⟩, zdo⟩
  ·have hje : j = n + 1 := by omega
   subst hje
   rw [dropK_all hk] at j4
   have e7 : (rowF n fun q => at2 A (i + 1) (skip k q)) = rowF n (minor (at2 A) k i) := rfl
   rw [e7] at j4
   have i3 : Row 0 H' nx w 1 ((List.range i).map fun q => dvl (rowF n (minor (at2 A) k q))) := i2.same j3 (Nat.le_refl _)
   simp -dsimp -implicitDefEqProofs (disch := try exact zdE) only [go_sem, hl, hr]
   refine gh_row (lo := nx) (ys := (rowF n (minor (at2 A) k i)).map DV) 7 rfl (j4.same (fun _ _ => rfl) (by omega)) (za3 fun x => by simp) (fun p hp hne c hc => ?_) fun H2 hH2 => ?_
   ·simp only [List.mem_cons, List.not_mem_nil, or_false] at hp
    rcases hp with rfl | rfl | rfl | rfl | rfl | rfl | rfl <;> first | exact absurd rfl hne | (simp [V.sub]; done) | exact i2.sub_ge (by omega)
   ·have i4 := i3.told (nx := nx') (Nat.le_refl _) j2 (hrow i) hH2
    have e8 : V.sl ((rowF n (minor (at2 A) k i)).map DV) = dvl (rowF n (minor (at2 A) k i)) := rfl
    simp -dsimp -implicitDefEqProofs (disch := try exact zdE) only [go_sem, e8]
    refine zaq (lo := 0) (nx := nx') (H0 := H2) (xs := (List.range i).map fun q => dvl (rowF n (minor (at2 A) k q))) i4 (by omega) rfl (by omega) (by omega) (by simp [rowOk, V.cells, V.cellOk, dvl, V.isJunk]) (by decide) (by simp; omega) (by simp; omega) fun v2 H3 r1 _ _ r4 => ?_
    rw [zat (fun q => dvl (rowF n (minor (at2 A) k q)))] at r1
    refine sgo ?_
    exact ⟨(i + 1, v2, H3, _), rfl, ⟨zdo, r1.same (fun _ _ => rfl) zdo⟩, zdo⟩
 ·have hie : i = n := by omega
  subst hie
  simp -dsimp -implicitDefEqProofs (disch := try exact zdE) only [go_sem, hl]
  rw [i2.frz (zdf fun x hx => by obtain ⟨q, _, rfl⟩ := List.mem_map.1 hx; rfl)]
  unfold mat
  rw [List.map_map]
  rfl
theorem sgn_dlim (k : Nat) (x : Int) : dlim (sgn k * x) = dlim x := by
 unfold sgn; split
 ·rw [Int.one_mul]
 ·rw [Int.neg_mul, Int.one_mul, dlim_neg]
theorem zhr {f : Nat → Int} {B : Nat} : ∀ {n}, (∀ k, k < n → dlim (f k) ≤ B) → dlim (sumZ f n) ≤ B + n
 | 0, _ => by rw [sumZ, zfp]; omega
 | n + 1, h => by
  have h1 := zhr (f := f) (n := n) fun k hk => h k (by omega)
  have h2 := h n (by omega)
  have h3 := dlim_add (sumZ f n) (f n)
  rw [sumZ]; omega
theorem det_dlim {L : Nat} : ∀ {n : Nat} {M : Mx}, (∀ i j, i < n → j < n → dlim (M i j) ≤ L) → dlim (det n M) ≤ n * (L + n) + 1
 | 0, M, _ => by have : dlim 1 ≤ 1 := dlim_of (by decide); simp only [det]; omega
 | n + 1, M, h => by
  rw [det]
  have h1 : ∀ k, k < n + 1 → dlim (sgn k * (M 0 k * det n (minor M k))) ≤ L + (n * (L + n) + 1) := fun k hk => by
   have h2 := det_dlim (n := n) (M := minor M k) (L := L) fun i j hi hj => h _ _ (by omega) (skip_lt hj)
   have h3 := zba (M 0 k) (det n (minor M k))
   have h4 := h 0 k (by omega) hk
   rw [sgn_dlim]; omega
  have h2 := zhr h1
  have e : (n + 1) * (L + (n + 1)) = n * (L + n) + n + L + (n + 1) := by
   rw [Nat.add_mul, Nat.mul_add n L (n + 1), Nat.mul_add n L n, Nat.mul_add n n 1]; omega
  omega
theorem sgn_rem (i : Nat) : ((i : Int).tmod 2 = 1 ∧ sgn i = -1) ∨ ((i : Int).tmod 2 = 0 ∧ sgn i = 1) := by
 have h : (i : Int).tmod 2 = ((i % 2 : Nat) : Int) := by rw [Int.ofNat_tmod]; rfl
 rw [h]
 unfold sgn
 by_cases h2 : i % 2 = 0
 ·rw [if_pos h2, h2]; exact .inr ⟨rfl, rfl⟩
 ·rw [if_neg h2, show i % 2 = 1 by omega]; exact .inl ⟨rfl, rfl⟩
theorem rdet_ret {L : Nat} (hL : L ≤ 1000000) : ∀ (n : Nat) (A : List (List Int)), n ≤ 12 → Sq A n → (∀ i j, i < n → j < n → dlim (at2 A i j) ≤ L) → Ret pg zby [.sl (A.map dvl)] (DV (det n (at2 A)))
 | 0, A, hn, hA, hs => by
  have hl := hA.1
  refine gimbalref07_Mat_Det.of rfl (W_b ?_)
  unfold gimbalref07_Mat_Det.k gimbalref07_Mat_Det.res Ot kp kd Oy Om Ol OL Oi Oc On ci
  simp -dsimp -implicitDefEqProofs (disch := try exact zdE) only [go_sem, hl]
  first | refine zaa (r_of 1 (by decide)) (by simp) ?_ | refine zab (r_of 1 (by decide)) (by simp) ?_
  refine sgo ?_
  rfl
 | n + 1, A, hn, hA, hs => by
  have hl := hA.1
  have hr := hA.row (show 0 < n + 1 by omega)
  have hg : ∀ j, (A.getD 0 []).getD j 0 = at2 A 0 j := fun j => rfl
  have hd : ∀ k, k < n + 1 → dlim (det n (minor (at2 A) k)) ≤ n * (L + n) + 1 := fun k hk => det_dlim fun i j hi hj => hs _ _ (by omega) (skip_lt hj)
  have hnl : n * (L + n) ≤ 12 * 1000012 := Nat.mul_le_mul (by omega) (by omega)
  have hp : ∀ i, i ≤ n + 1 → dlim (sumZ (fun k => sgn k * (at2 A 0 k * det n (minor (at2 A) k))) i) ≤ 13000200 := fun i hi => by
   have := zhr (f := fun k => sgn k * (at2 A 0 k * det n (minor (at2 A) k))) (n := i) (B := 13000146) fun k hk => by
    have h3 := zba (at2 A 0 k) (det n (minor (at2 A) k))
    have h4 := hs 0 k (by omega) (by omega)
    have h5 := hd k (by omega)
    rw [sgn_dlim]; omega
   omega
  refine gimbalref07_Mat_Det.of rfl (W_b ?_)
  unfold gimbalref07_Mat_Det.k gimbalref07_Mat_Det.res Ot kp kd Oy Om Ol OL Oi Oc On ci
  simp -dsimp -implicitDefEqProofs (disch := try exact zdE) only [go_sem, hl]
  first | refine zaa (r_of 0 (by decide)) (by simp) ?_ | refine zab (r_of 0 (by decide)) (by simp) ?_
  refine sgo ?_
  refine zap (T := Nat × Hp × Nat) (fun t => ⟨E [(0, .sl (A.map dvl)), (2, .ptr 0 1 0 0), (3, .ptr 5 1 0 0), (4, .int .i64 t.1)], t.2.1, t.2.2, t.2.2⟩)
   (fun t => t.1 ≤ n + 1 ∧ 6 ≤ t.2.2 ∧ t.2.1 0 = some ⟨[.agg [.bool false, .sl []]], 2⟩ ∧ t.2.1 5 = some ⟨[DV (sumZ (fun k => sgn k * (at2 A 0 k * det n (minor (at2 A) k))) t.1)], 2⟩) (fun t => n + 1 - t.1) (0, _, _) rfl ⟨zdo, zdo, rfl, rfl⟩ ?_
  rintro ⟨i, H, nx⟩ ⟨i1, i2, i3, i4⟩
  dsimp only at i1 i2 i3 i4
  by_cases hi : i < n + 1
  ·have hw := rwithout_ret A n i (by omega) hA hi
   have hdt := rdet_ret hL n (mat n (minor (at2 A) i)) (by omega) (zef _ _) fun p q hp hq => by rw [zco hp hq]; exact hs _ _ (by omega) (skip_lt hq)
   have e1 : det n (at2 (mat n (minor (at2 A) i))) = det n (minor (at2 A) i) := zay fun p q hp hq => zco hp hq
   rw [e1] at hdt
   have d1 := hd i hi
   have d2 := hs 0 i (by omega) hi
   have d3 := hp i (by omega)
   have d4 := zba (at2 A 0 i) (det n (minor (at2 A) i))
   have d5 := dlim_neg (at2 A 0 i * det n (minor (at2 A) i))
   have hrem : binV .rem (.int .i64 (i : Int)) (.int .i64 2) = some (.int .i64 ((i : Int).tmod 2)) := by
    rw [binV_rem, if_neg (by decide)]
   simp -dsimp -implicitDefEqProofs (disch := try exact zdE) only [go_sem, hl, hr, hg]
   first | refine zaa (hw) (by simp) ?_ | refine zab (hw) (by simp) ?_
   refine sgo ?_
   first | refine zaa (hdt) (by simp) ?_ | refine zab (hdt) (by simp) ?_
   simp -dsimp -implicitDefEqProofs (disch := try exact zdE) only [go_sem, hl, hr, hg]
   first | refine zaa (r_mul _ _ (by omega) (by omega)) (by simp) ?_ | refine zab (r_mul _ _ (by omega) (by omega)) (by simp) ?_
   rcases sgn_rem i with ⟨h1, h2⟩ | ⟨h1, h2⟩
   ·simp -dsimp -implicitDefEqProofs (disch := try exact zdE) only [go_sem, hrem, h1]
    first | refine zaa (r_minus _ (by omega)) (by simp) ?_ | refine zab (r_minus _ (by omega)) (by simp) ?_
    simp -dsimp -implicitDefEqProofs (disch := try exact zdE) only [go_sem, i4, i3]
    first | refine zaa (r_add _ _ (by omega) (by omega)) (by simp) ?_ | refine zab (r_add _ _ (by omega) (by omega)) (by simp) ?_
    simp -dsimp -implicitDefEqProofs (disch := try exact zdE) only [go_sem, i4, i3]
    generalize hG : Hp.upd _ 5 _ = G
    exact ⟨(i + 1, G, _), rfl, ⟨zdo, zdo, by dsimp only; rw [← hG, Hp.upd_ne _ _ (by omega), Hp.upd_ne _ _ (by omega)]; exact i3, by dsimp only; rw [← hG, Hp.upd_same, sumZ, h2, Int.neg_mul, Int.one_mul]⟩, zdo⟩
   ·simp -dsimp -implicitDefEqProofs (disch := try exact zdE) only [go_sem, hrem, h1, i4, i3]
    first | refine zaa (r_add _ _ (by omega) (by omega)) (by simp) ?_ | refine zab (r_add _ _ (by omega) (by omega)) (by simp) ?_
    simp -dsimp -implicitDefEqProofs (disch := try exact zdE) only [go_sem, i4, i3]
    generalize hG : Hp.upd _ 5 _ = G
    exact ⟨(i + 1, G, _), rfl, ⟨zdo, zdo, by dsimp only; rw [← hG, Hp.upd_ne _ _ (by omega), Hp.upd_ne _ _ (by omega)]; exact i3, by dsimp only; rw [← hG, Hp.upd_same, sumZ, h2, Int.one_mul]⟩, zdo⟩
  ·obtain rfl : i = n + 1 := by omega
   simp -dsimp -implicitDefEqProofs (disch := try exact zdE) only [go_sem, hl, i3, i4]
   rfl
theorem rsolve_ret {L : Nat} (hL : L ≤ 1000000) (A : List (List Int)) (b : List Int) (n : Nat) (hn : n ≤ 12) (hA : Sq A n) (hb : b.length = n) (hs : ∀ i j, i < n → j < n → dlim (at2 A i j) ≤ L) (hsb : ∀ i, i < n → dlim (b.getD i 0) ≤ L) :
  Ret pg zb2 [.sl (A.map dvl), dvl b] (dvl (rowF n fun k => det n (setC (at2 A) k fun i => b.getD i 0))) := by
 have hl := hA.1
 have hrow : ∀ k i, ∀ x ∈ (List.range i).map fun q => dvl (rowF n (setC (at2 A) k (fun i => b.getD i 0) q)), V.Pure x := fun k i => za3 fun x => by simp
 refine gimbalref07_Mat_Solve.of rfl (W_b ?_)
 unfold gimbalref07_Mat_Solve.k gimbalref07_Mat_Solve.res Ot kp Oy Om Ol OL Oi Oc On ci
 refine sgo ?_
 refine zap (T := Nat × V × Hp × Nat) (fun t => ⟨E [(0, .sl (A.map dvl)), (1, dvl b), (5, t.2.1), (6, .int .i64 t.1)], t.2.2.1, t.2.2.2, t.2.2.2⟩)
  (fun t => t.1 ≤ n ∧ Row 0 t.2.2.1 t.2.2.2 t.2.1 2 ((rowF t.1 fun k => det n (setC (at2 A) k fun i => b.getD i 0)).map DV)) (fun t => n - t.1) (0, .nil, _, _) rfl ⟨zdo, Row.nil _ _ _ _⟩ ?_
 rintro ⟨k, w, H, nx⟩ ⟨k1, k2⟩
 dsimp only at k1 k2
 by_cases hk : k < n
 ·simp -dsimp -implicitDefEqProofs (disch := try exact zdE) only [go_sem, hl]
  refine zap (T := Nat × V × Hp × Nat) (fun t => ⟨E [(0, .sl (A.map dvl)), (1, dvl b), (5, w), (6, .int .i64 k), (7, t.2.1), (8, .int .i64 t.1)], t.2.2.1, t.2.2.2, t.2.2.2⟩)
   (fun t => t.1 ≤ n ∧ nx ≤ t.2.2.2 ∧ Row 0 t.2.2.1 nx w 2 ((rowF k fun k => det n (setC (at2 A) k fun i => b.getD i 0)).map DV) ∧ Row nx t.2.2.1 t.2.2.2 t.2.1 1 ((List.range t.1).map fun q => dvl (rowF n (setC (at2 A) k (fun i => b.getD i 0) q)))) (fun t => n - t.1) (0, .nil, H, _) rfl ⟨zdo, zdo, k2, Row.nil _ _ _ _⟩ ?_
  rintro ⟨i, u, H1, nx1⟩ ⟨i1, i2, i3, i4⟩
  dsimp only at i1 i2 i3 i4
  by_cases hi : i < n
  ·have hr := hA.row hi
   have hrF : A.getD i [] = rowF n (at2 A i) := by
    refine List.ext_getElem (by rw [hr, zal]) fun j h1 h2 => ?_
    have := zbh (w := n) (f := at2 A i) (i := j) (by omega)
    simp only [List.getD_eq_getElem?_getD, List.getElem?_eq_getElem h2, Option.getD_some] at this
    rw [this]
    show _ = (A.getD i []).getD j 0
    simp only [List.getD_eq_getElem?_getD] at h1 ⊢
    rw [List.getElem?_eq_getElem h1]; rfl
   have hset : (rowF n (at2 A i)).set k (b.getD i 0) = rowF n (setC (at2 A) k (fun i => b.getD i 0) i) := by
    rw [rowF_set]; exact zbm fun q _ => rfl
   have hlr := zal n (at2 A i)
   have hls : ((rowF n (setC (at2 A) k (fun i => b.getD i 0) i)).map DV).length = n := by simp [rowF]
   have e8 : V.sl ((rowF n (setC (at2 A) k (fun i => b.getD i 0) i)).map DV) = dvl (rowF n (setC (at2 A) k (fun i => b.getD i 0) i)) := rfl
   simp -dsimp -implicitDefEqProofs (disch := try exact zdE) only [go_sem, hl, hrF]
   refine effB_copy (H0 := H1) rfl (by simp [rowOk, V.isJunk, V.cells, V.cellOk, DV]) (by decide) (by simp [rowF]; omega) (by simp [rowF]; omega) ?_
   simp -dsimp -implicitDefEqProofs (disch := try exact zdE) only [go_sem, hlr, hb, hset, zep]
   generalize hG : Hp.upd _ (nx1 + 9) _ = G
   have g1 : ∀ c, c < nx1 → G c = H1 c := fun c hc => by rw [← hG, Hp.upd_ne _ _ (by omega), Hp.upd_ne _ _ (by omega)]
   have g2 : G (nx1 + 9) = some ⟨(rowF n (setC (at2 A) k (fun i => b.getD i 0) i)).map DV, 2⟩ := by rw [← hG, Hp.upd_same]
   clear hG
   refine gh_row (lo := nx1) (es := 2) (ys := (rowF n (setC (at2 A) k (fun i => b.getD i 0) i)).map DV) 9 rfl (.inr ⟨nx1 + 9, by rw [hls]; rfl, by omega, by omega, g2⟩) (za3 fun x => by simp) (fun p hp hne c hc => ?_) fun H2 hH2 => ?_
   ·simp only [List.mem_cons, List.not_mem_nil, or_false] at hp
    rcases hp with rfl | rfl | rfl | rfl | rfl | rfl | rfl <;> first | exact absurd rfl hne | exact sub_dvl _ _ | (simp [V.sub]; done) | exact i3.sub_ge (by omega) | exact i4.sub_ge (by omega)
   ·have i3' : Row 0 H2 nx w 2 ((rowF k fun k => det n (setC (at2 A) k fun i => b.getD i 0)).map DV) := (i3.same (H' := G) (fun c hc => g1 c (by omega)) (Nat.le_refl _)).told (lo := nx1) i2 (Nat.le_refl _) (za3 fun x => by simp) hH2
    have i4' : Row nx H2 nx1 u 1 ((List.range i).map fun q => dvl (rowF n (setC (at2 A) k (fun i => b.getD i 0) q))) := (i4.same (H' := G) g1 (Nat.le_refl _)).told (lo := nx1) (Nat.le_refl _) (Nat.le_refl _) (hrow k i) hH2
    simp -dsimp -implicitDefEqProofs (disch := try exact zdE) only [go_sem, e8]
    refine zaq (lo := nx) (nx := nx1) (H0 := H2) (xs := (List.range i).map fun q => dvl (rowF n (setC (at2 A) k (fun i => b.getD i 0) q))) i4' (by omega) rfl (by omega) (by omega) (by simp [rowOk, V.cells, V.cellOk, dvl, V.isJunk]) (by decide) (by simp; omega) (by simp; omega) fun v2 H3 r1 _ _ r4 => ?_
    rw [zat (fun q => dvl (rowF n (setC (at2 A) k (fun i => b.getD i 0) q)))] at r1
    refine sgo ?_
    exact ⟨(i + 1, v2, H3, _), rfl, ⟨zdo, zdo, i3'.same r4 (Nat.le_refl _), r1.same (fun _ _ => rfl) zdo⟩, zdo⟩
  ·have hie : i = n := by omega
   subst hie
   obtain ⟨c, hu, c1, c2, c3⟩ := i4.own_of (by simp; omega)
   rw [List.length_map, List.length_range] at hu
   subst hu
   have hsk : ∀ p q, p < i → q < i → dlim (setC (at2 A) k (fun i => b.getD i 0) p q) ≤ L := fun p q hp hq => by
    unfold setC; split
    ·exact hsb p hp
    ·exact hs p q hp hq
   have hdt := rdet_ret hL i (mat i (setC (at2 A) k fun i => b.getD i 0)) (by omega) (zef _ _) fun p q hp hq => by rw [zco hp hq]; exact hsk p q hp hq
   have e1 : det i (at2 (mat i (setC (at2 A) k fun i => b.getD i 0))) = det i (setC (at2 A) k fun i => b.getD i 0) := zay fun p q hp hq => zco hp hq
   rw [e1] at hdt
   have e2 : (List.range i).map (fun q => dvl (rowF i (setC (at2 A) k (fun i => b.getD i 0) q))) = (mat i (setC (at2 A) k fun i => b.getD i 0)).map dvl := by unfold mat; rw [List.map_map]; rfl
   rw [e2] at c3
   have hlm : ((mat i (setC (at2 A) k fun i => b.getD i 0)).map dvl).length = i := by rw [List.length_map]; exact (zef _ _).1
   simp -dsimp -implicitDefEqProofs (disch := try exact zdE) only [go_sem, hl]
   refine zfr c ((mat i (setC (at2 A) k fun i => b.getD i 0)).map dvl) c3 (za3 fun x => by simp) (by simp only [List.map_cons, List.map_nil, V.sub, fz1, if_true, hlm]) hdt (by simp) ?_
   refine sgo ?_
   refine zaq (lo := 0) (nx := nx) (H0 := H1.upd c none) (xs := (rowF k fun k => det i (setC (at2 A) k fun i => b.getD i 0)).map DV) (i3.same (fun b hb => Hp.upd_ne _ _ (by omega)) (Nat.le_refl _)) (by omega) rfl (by omega) (by omega) (by simp [rowOk, V.cells, V.cellOk, DV, V.isJunk]) (by decide) (by simp [rowF]; omega) (by simp [rowF]; omega) fun v2 H3 r1 _ _ r4 => ?_
   rw [zc3, show (rowF k fun k => det i (setC (at2 A) k fun i => b.getD i 0)) ++ [det i (setC (at2 A) k fun i => b.getD i 0)] = rowF (k + 1) fun k => det i (setC (at2 A) k fun i => b.getD i 0) from zat _ _] at r1
   refine sgo ?_
   exact ⟨(k + 1, v2, H3, _), rfl, ⟨zdo, r1.same (fun _ _ => rfl) zdo⟩, zdo⟩
 ·have hke : k = n := by omega
  subst hke
  simp -dsimp -implicitDefEqProofs (disch := try exact zdE) only [go_sem, hl]
  rw [k2.frz (zdb fun x => zaz _ _ _)]
  rfl
end Go.Gim
/- The references' matrices: turned, products, what is definite. -/
set_option maxRecDepth 100000
set_option maxHeartbeats 4000000
namespace Go.Gim
open Go.Proofs
theorem dlim_at_mat {n : Nat} {f : Mx} {A : Nat} (h : ∀ i j, dlim (f i j) ≤ A) (i j : Nat) : dlim (at2 (mat n f) i j) ≤ A := by
 by_cases hi : i < n
 ·by_cases hj : j < n
  ·rw [zco hi hj]; exact h i j
  ·unfold at2 mat; rw [zeg [] hi, zfz, if_neg hj, zfp]; omega
 ·unfold at2 mat
  rw [show ((List.range n).map fun i => (List.range n).map (f i)).getD i [] = [] by rw [List.getD_eq_getElem?_getD, List.getElem?_eq_none (by simp; omega)]; rfl]
  simp [zfp]
theorem get_getD8 (l : List Int) (j : Nat) (h : j < l.length) : l[j] = l.getD j 0 := by simp [List.getD_eq_getElem?_getD, h]
def leadR (A : List (List Int)) (k i : Nat) : List Int := (A.getD i []).take k
theorem leadR_F {A : List (List Int)} {n k i : Nat} (hA : Sq A n) (hk : k ≤ n) (hi : i < n) : leadR A k i = rowF k (at2 A i) := by
 have hr := hA.row hi
 unfold leadR
 refine List.ext_getElem (by rw [List.length_take, hr, zal]; omega) fun j h1 h2 => ?_
 have := zbh (w := k) (f := at2 A i) (i := j) (by rw [zal] at h2; exact h2)
 simp only [List.getD_eq_getElem?_getD, List.getElem?_eq_getElem h2, Option.getD_some] at this
 rw [this]
 rw [List.length_take, hr] at h1
 have hj : j < (A.getD i []).length := by omega
 rw [List.getElem_take]
 exact get_getD8 _ _ hj
theorem rdefinite_ret {L : Nat} (hL : L ≤ 1000000) (A : List (List Int)) (n : Nat) (hn : n ≤ 12) (hA : Sq A n) (hs : ∀ i j, dlim (at2 A i j) ≤ L) : Ret pg zb5 [.sl (A.map dvl)] (.bool (defS n (at2 A))) := by
 have hl := hA.1
 refine gimbalref07_Mat_Definite.of rfl (W_b ?_)
 unfold gimbalref07_Mat_Definite.k gimbalref07_Mat_Definite.res Ot kp kd Om Ol OL Oi Oc On ci
 refine sgo ?_
 refine zap (T := Nat × Hp × Nat) (fun t => ⟨E [(0, .sl (A.map dvl)), (3, .int .i64 t.1)], t.2.1, t.2.2, t.2.2⟩) (fun t => t.1 ≤ n ∧ ∀ i, i < t.1 → (∀ j, j < i → at2 A i j = at2 A j i) ∧ 0 < detS (i + 1) (lead (at2 A) (i + 1))) (fun t => n - t.1) (0, _, _) rfl ⟨zdo, fun i h => by dsimp only at h; omega⟩ ?_
 rintro ⟨i, H, nx⟩ ⟨i1, i2⟩
 dsimp only at i1 i2
 by_cases hi : i < n
 ·have hri := hA.row hi
  simp -dsimp -implicitDefEqProofs (disch := try exact zdE) only [go_sem, hl]
  refine zap (T := Nat × V × Hp × Nat) (fun t => ⟨E [(0, .sl (A.map dvl)), (3, .int .i64 i), (4, t.2.1), (5, .int .i64 t.1)], t.2.2.1, t.2.2.2, t.2.2.2⟩)
   (fun t => t.1 ≤ i + 1 ∧ nx ≤ t.2.2.2 ∧ Row nx t.2.2.1 t.2.2.2 t.2.1 1 ((List.range t.1).map fun q => dvl (rowF (i + 1) (at2 A q))) ∧ ∀ j, j < t.1 → at2 A i j = at2 A j i) (fun t => i + 1 - t.1) (0, .nil, H, _) rfl ⟨zdo, zdo, Row.nil _ _ _ _, fun j h => by dsimp only at h; omega⟩ ?_
  rintro ⟨j, u, H', nx'⟩ ⟨j1, j2, j3, j4⟩
  dsimp only at j1 j2 j3 j4
  by_cases hj : j < i + 1
  ·have hrj := hA.row (show j < n by omega)
   have hc1 : ((i : Int) + 1) = ((i + 1 : Nat) : Int) := by omega
   have hg1 : (A.getD i []).getD j 0 = at2 A i j := rfl
   have hg2 : (A.getD j []).getD i 0 = at2 A j i := rfl
   have hsl : redV (.slc 2 false true false) [dvl (A.getD j []), .int .i64 ((i + 1 : Nat) : Int)] = some (dvl (rowF (i + 1) (at2 A j))) := by
    rw [dvl_eq, zea (by omega) (by rw [List.length_map, hrj]; omega) (by decide), ← leadR_F hA (show i + 1 ≤ n by omega) (show j < n by omega)]
    unfold leadR dvl
    rw [List.map_take, Int.toNat_natCast]
   have s1 := hs i j
   have s2 := hs j i
   simp -dsimp -implicitDefEqProofs (disch := try exact zdE) only [go_sem, hl, hri, hrj]
   refine W_gh0 ?_
   simp -dsimp -implicitDefEqProofs (disch := try exact zdE) only [go_sem, hl, hri, hrj, hsl]
   refine zaq (lo := nx) (nx := nx') (H0 := H') (xs := (List.range j).map fun q => dvl (rowF (i + 1) (at2 A q))) j3 (by omega) rfl (by omega) (by omega) (by simp [rowOk, V.cells, V.cellOk, dvl, V.isJunk]) (by decide) (by simp; omega) (by simp; omega) fun v2 H3 r1 _ _ r4 => ?_
   rw [zat (fun q => dvl (rowF (i + 1) (at2 A q)))] at r1
   simp -dsimp -implicitDefEqProofs (disch := try exact zdE) only [go_sem, hl, hri, hrj, hg1, hg2]
   first | refine zaa (r_cmp _ _ (by omega) (by omega)) (by simp) ?_ | refine zab (r_cmp _ _ (by omega) (by omega)) (by simp) ?_
   by_cases h : at2 A i j = at2 A j i
   ·have hsg : (at2 A i j - at2 A j i).sign = 0 := by rw [h]; simp
    simp -dsimp -implicitDefEqProofs (disch := try exact zdE) only [go_sem, hsg]
    exact ⟨(j + 1, v2, H3, _), rfl, ⟨zdo, zdo, r1.same (fun _ _ => rfl) zdo, fun k hk => by dsimp only at hk; by_cases hkj : k = j; (subst hkj; exact h); exact j4 k (by omega)⟩, zdo⟩
   ·have hsg : (at2 A i j - at2 A j i).sign ≠ 0 := by rw [Ne, Int.sign_eq_zero_iff_zero]; omega
    have hne : defS n (at2 A) = false := decide_eq_false fun e => h ((e i hi).1 j (by
     rcases Nat.lt_or_ge j i with h' | h'
     ·exact h'
     ·have : j = i := by omega
      subst this; exact absurd rfl h))
    rw [hne]
    simp -dsimp -implicitDefEqProofs (disch := try exact zdE) only [go_sem, hsg]
  ·have hje : j = i + 1 := by omega
   subst hje
   obtain ⟨c, hu, c1, c2, c3⟩ := j3.own_of (by simp)
   rw [List.length_map, List.length_range] at hu
   subst hu
   have hdt := rdet_ret hL (i + 1) (mat (i + 1) (at2 A)) (by omega) (zef _ _) fun p q hp hq => by rw [zco hp hq]; exact hs p q
   have hdl := det_dlim (n := i + 1) (M := at2 (mat (i + 1) (at2 A))) (L := L) fun p q hp hq => by rw [zco hp hq]; exact hs p q
   have hdm : (i + 1) * (L + (i + 1)) ≤ 12 * 1000012 := Nat.mul_le_mul (by omega) (by omega)
   rw [← detS_eq] at hdt hdl
   have e3 : at2 (mat (i + 1) (at2 A)) = lead (at2 A) (i + 1) := rfl
   rw [e3] at hdt hdl
   have e2 : (List.range (i + 1)).map (fun q => dvl (rowF (i + 1) (at2 A q))) = (mat (i + 1) (at2 A)).map dvl := by unfold mat; rw [List.map_map]; rfl
   rw [e2] at c3
   have hlm : ((mat (i + 1) (at2 A)).map dvl).length = i + 1 := by rw [List.length_map]; exact (zef _ _).1
   simp -dsimp -implicitDefEqProofs (disch := try exact zdE) only [go_sem, hl]
   refine zfr c ((mat (i + 1) (at2 A)).map dvl) c3 (za3 fun x => by simp) (by simp only [List.map_cons, List.map_nil, V.sub, fz1, if_true, hlm]) hdt (by simp) ?_
   refine sgo ?_
   first | refine zaa (r_sign _ (by omega)) (by simp) ?_ | refine zab (r_sign _ (by omega)) (by simp) ?_
   by_cases hpos : 0 < detS (i + 1) (lead (at2 A) (i + 1))
   ·have hsg : (detS (i + 1) (lead (at2 A) (i + 1))).sign = 1 := Int.sign_eq_one_of_pos hpos
    simp -dsimp -implicitDefEqProofs (disch := try exact zdE) only [go_sem, hsg]
    exact ⟨(i + 1, _, _), rfl, ⟨zdo, fun k hk => by dsimp only at hk; by_cases hki : k = i; (subst hki; exact ⟨fun q hq => j4 q (by omega), hpos⟩); exact i2 k (by omega)⟩, zdo⟩
   ·have hsg : (detS (i + 1) (lead (at2 A) (i + 1))).sign ≤ 0 := by
     rcases Int.lt_trichotomy (detS (i + 1) (lead (at2 A) (i + 1))) 0 with h | h | h
     ·rw [Int.sign_eq_neg_one_of_neg h]; decide
     ·rw [h]; decide
     ·exact absurd h hpos
    have hne : defS n (at2 A) = false := decide_eq_false fun e => hpos (e i hi).2
    rw [hne]
    simp -dsimp -implicitDefEqProofs (disch := try exact zdE) only [go_sem, hsg]
 ·have hie : i = n := by omega
  subst hie
  have : defS i (at2 A) = true := decide_eq_true i2
  rw [this]
  simp -dsimp -implicitDefEqProofs (disch := try exact zdE) only [go_sem, hl]
end Go.Gim
/- What the document's sums are: with numbers told, without the first ones. -/
set_option maxRecDepth 100000
set_option maxHeartbeats 1000000
namespace Go.Gim
open Go.Proofs
theorem gP_ref {n k : Nat} (hk : k ≤ n) {P : Mx} (hs : SymM n P) {i j : Nat} (hi : i < n - k) (hj : j < n - k) : gP k P i j = det k P * P (k + i) (k + j) - sumZ (fun c => P (k + i) c * numF k P (P (k + j)) c) k := by
 have hh := hat_sym hs (fun _ => 0) 0
 have e1 := without_hat hk hs (fun _ => 0) 0 (i := i) (j := j) (by omega) (by omega)
 have e2 := without_hat hk hs (fun _ => 0) 0 (i := j) (j := i) (by omega) (by omega)
 rw [tgt_sym hh (by omega) (by omega) (by omega) (by omega) (by omega), ← e2] at e1
 unfold hat at e1
 rw [if_pos hi, if_pos hj, if_pos hj, if_pos hi] at e1
 rw [e1]
 unfold gP
 rw [hs (k + j) (k + i) (by omega) (by omega), Int.mul_comm]
 congr 1
 exact zad fun c _ => Int.mul_comm _ _
end Go.Gim
/- Reference 08: the first rows, with the last numbers told. -/
set_option maxRecDepth 100000
set_option maxHeartbeats 4000000
namespace Go.Gim
open Go.Proofs
theorem slc_dvl {l : List Int} {k : Nat} {ki : IntKind} (h : k ≤ l.length) : redV (.slc 2 false true false) [dvl l, .int ki (k : Int)] = some (dvl (l.take k)) := by
 rw [dvl_eq, zea (by omega) (by rw [List.length_map]; omega) (by decide), Int.toNat_natCast, ← List.map_take]; rfl
theorem rfirst_ret (P : List (List Int)) (n k : Nat) (hn : n ≤ 1000) (hP : Sq P n) (hk : k ≤ n) : Ret pg zez [.sl (P.map dvl), .int .i64 k] (.sl ((mat k (at2 P)).map dvl)) := by
 have hl := hP.1
 refine gimbalref08_first.of rfl (W_b ?_)
 unfold gimbalref08_first.k gimbalref08_first.res Ot kp Om Ol Oi Oc ci
 refine sgo ?_
 refine zap (T := Nat × V × Hp × Nat) (fun t => ⟨E [(0, .sl (P.map dvl)), (1, .int .i64 k), (5, t.2.1), (6, .int .i64 t.1)], t.2.2.1, t.2.2.2, t.2.2.2⟩)
  (fun t => t.1 ≤ k ∧ Row 0 t.2.2.1 t.2.2.2 t.2.1 1 ((List.range t.1).map fun i => dvl (rowF k (at2 P i)))) (fun t => k - t.1) (0, .nil, _, _) rfl ⟨zdo, Row.nil _ _ _ _⟩ ?_
 rintro ⟨i, w, H, nx⟩ ⟨i1, i2⟩
 dsimp only at i1 i2
 by_cases hi : i < k
 ·have hr := hP.row (show i < n by omega)
  have hs3 := slc_dvl (l := P.getD i []) (k := k) (ki := .i64) (by omega)
  rw [take_F hr hk] at hs3
  have e : (rowF k fun j => (P.getD i []).getD j 0) = rowF k (at2 P i) := rfl
  rw [e] at hs3
  simp -dsimp -implicitDefEqProofs (disch := try exact zdE) only [go_sem, hl]
  refine W_gh0 ?_
  simp -dsimp -implicitDefEqProofs (disch := try exact zdE) only [go_sem, hl, hs3]
  refine zaq (lo := 0) (nx := nx) (H0 := H) (xs := (List.range i).map fun i => dvl (rowF k (at2 P i))) i2 (by omega) rfl (by omega) (by omega) (by simp [rowOk, V.cells, V.cellOk, V.isJunk, dvl]) (by decide) (by simp; omega) (by simp; omega) fun v2 H2 r1 _ _ r4 => ?_
  rw [zat (fun i => dvl (rowF k (at2 P i)))] at r1
  refine sgo ?_
  exact ⟨(i + 1, v2, H2, _), rfl, ⟨zdo, r1.same (fun _ _ => rfl) zdo⟩, zdo⟩
 ·have hie : i = k := by omega
  subst hie
  refine sgo ?_
  rw [i2.frz (zdf fun x hx => by obtain ⟨q, _, rfl⟩ := List.mem_map.1 hx; rfl)]
  unfold mat
  rw [List.map_map]
  rfl
end Go.Gim
/- Reference 08: without the first numbers. -/
set_option maxRecDepth 100000
set_option maxHeartbeats 4000000
namespace Go.Gim
open Go.Proofs
theorem DQV_zz : DQV [] [] 0 = .agg [.sl [], .sl [], .bool false, .sl []] := by simp [DQV, zav, nats, dvl]
theorem DV_zz : DV 0 = .agg [.bool false, .sl []] := by simp [DV, zav, nats]
def routV (n k : Nat) (P : Mx) (q : Nat → Int) (c : Int) : V := if defS k P = true then .tup [DQV (mat (n - k) (gP k P)) (rowF (n - k) (gQ k P q)) (gC k P q c), DV (det k P), .bool true] else .tup [DQV [] [] 0, DV 0, .bool false]
theorem rqwithout_big (P : List (List Int)) (Q : List Int) (c : Int) (n k : Nat) (hn : n ≤ 12) (hk : k ≤ n) (hP : Sq P n) (hS : SymM n (at2 P)) (hQ : Q.length = n) (sP : ∀ i j, dlim (at2 P i j) ≤ 200) (sQ : ∀ i, dlim (Q.getD i 0) ≤ 200) (sc : dlim c ≤ 200) :
  Ret pg zc2 [DQV P Q c, .int .i64 k] (routV n k (at2 P) (fun i => Q.getD i 0) c) := by
 have hl := hP.1
 have c1 := rfirst_ret P n k (by omega) hP hk
 have hAt : ∀ i j, i < k → j < k → at2 (mat k (at2 P)) i j = at2 P i j := fun i j hi hj => zco hi hj
 have sM := dlim_at_mat (n := k) sP
 have c2 := rdefinite_ret (L := 200) (by omega) (mat k (at2 P)) k (by omega) (zef _ _) sM
 rw [zf4 hAt] at c2
 have c3 := rdet_ret (L := 200) (by omega) k (mat k (at2 P)) (by omega) (zef _ _) fun i j _ _ => sM i j
 rw [zay hAt] at c3
 have hkk : k * (200 + k) ≤ 12 * 212 := Nat.mul_le_mul (by omega) (by omega)
 have sD : dlim (det k (at2 P)) ≤ 2600 := by have := det_dlim (n := k) (M := at2 P) (L := 200) fun i j _ _ => sP i j; omega
 have hsol : ∀ (b : List Int) (f : Nat → Int), b.length = k → (∀ i, i < k → b.getD i 0 = f i) → (∀ i, dlim (b.getD i 0) ≤ 200) → Ret pg zb2 [.sl ((mat k (at2 P)).map dvl), dvl b] (dvl (rowF k (numF k (at2 P) f))) := fun b f hb hf sb => by
  have := rsolve_ret (L := 200) (by omega) (mat k (at2 P)) b k (by omega) (zef _ _) hb (fun i j _ _ => sM i j) (fun i _ => sb i)
  rw [show (rowF k fun i => det k (setC (at2 (mat k (at2 P))) i fun i => b.getD i 0)) = rowF k (numF k (at2 P) f) from zbm fun j hj => ze2 hAt hf j] at this
  exact this
 have sNum : ∀ (f : Nat → Int), (∀ i, dlim (f i) ≤ 200) → ∀ j, dlim (numF k (at2 P) f j) ≤ 2600 := fun f hf j => by
  have := det_dlim (n := k) (M := setC (at2 P) j f) (L := 200) fun a b _ _ => by unfold setC; split; exact hf a; exact sP a b
  unfold numF; omega
 have hslQ := slc_dvl (l := Q) (k := k) (ki := .i64) (by omega)
 rw [take_F hQ hk] at hslQ
 have hslP : ∀ i, i < n → redV (.slc 2 false true false) [dvl (P.getD i []), .int .i64 (k : Int)] = some (dvl (rowF k (at2 P i))) := fun i hi => by
  have := slc_dvl (l := P.getD i []) (k := k) (ki := .i64) (by rw [hP.row hi]; exact hk)
  rw [take_F (hP.row hi) hk] at this
  exact this
 have rngd : ∀ {f : Nat → Int}, (∀ i, dlim (f i) ≤ 2600) → ∀ i, dlim ((rowF k f).getD i 0) ≤ 2600 := fun {f} h i => by
  unfold rowF
  rw [zfz]; split
  ·exact h i
  ·rw [zfp]; omega
 have rng2 : ∀ {f : Nat → Int}, (∀ i, dlim (f i) ≤ 200) → ∀ i, dlim ((rowF k f).getD i 0) ≤ 200 := fun {f} h i => by
  unfold rowF
  rw [zfz]; split
  ·exact h i
  ·rw [zfp]; omega
 have hdot : ∀ f g : Nat → Int, (∀ i, dlim (f i) ≤ 2600) → (∀ i, dlim (g i) ≤ 2600) → Ret pg zcr [dvl (rowF k f), dvl (rowF k g)] (DV (sumZ (fun c => f c * g c) k)) := fun f g hf hg => by
  have := rdot_ret (rowF k f) (rowF k g) (by rw [zal]; omega) (by rw [zal, zal]; omega) (fun i => by have := rngd hf i; omega) (fun i => by have := rngd hg i; omega)
  rw [zal, sumN_sm, zad (g := fun c => f c * g c) fun c hc => by rw [zbh hc, zbh hc]] at this
  exact this
 have sSum : ∀ f g : Nat → Int, (∀ i, dlim (f i) ≤ 2600) → (∀ i, dlim (g i) ≤ 2600) → dlim (sumZ (fun c => f c * g c) k) ≤ 5300 := fun f g hf hg => by
  have := zhr (f := fun c => f c * g c) (B := 5200) (n := k) fun i _ => by have := zba (f i) (g i); have := hf i; have := hg i; omega
  omega
 have sQ' : ∀ i, dlim (Q.getD i 0) ≤ 2600 := fun i => by have := sQ i; omega
 have sP' : ∀ i j, dlim (at2 P i j) ≤ 2600 := fun i j => by have := sP i j; omega
 refine gimbalref08_Quad_Without.of rfl (W_b ?_)
 unfold gimbalref08_Quad_Without.k gimbalref08_Quad_Without.res Ot kp kd Oy Om Ol OL Oq Oi On ci routV
 refine sgo ?_
 first | refine zaa (c1) (by simp) ?_ | refine zab (c1) (by simp) ?_
 refine sgo ?_
 first | refine zaa (c2) (by simp) ?_ | refine zab (c2) (by simp) ?_
 by_cases hdf : defS k (at2 P) = true
 ·rw [if_pos hdf, hdf]
  refine sgo ?_
  first | refine zaa (c3) (by simp) ?_ | refine zab (c3) (by simp) ?_
  simp -dsimp -implicitDefEqProofs (disch := try exact zdE) only [go_sem, hslQ]
  first | refine zaa (hsol (rowF k fun j => Q.getD j 0) (fun i => Q.getD i 0) (zal _ _) (fun i hi => zbh hi) (fun i => rng2 sQ i)) (by simp) ?_ | refine zab (hsol (rowF k fun j => Q.getD j 0) (fun i => Q.getD i 0) (zal _ _) (fun i hi => zbh hi) (fun i => rng2 sQ i)) (by simp) ?_
  simp -dsimp -implicitDefEqProofs (disch := try exact zdE) only [go_sem, hslQ]
  have sm1 := zba (det k (at2 P)) c
  have ss1 := sSum (fun i => Q.getD i 0) (numF k (at2 P) fun i => Q.getD i 0) sQ' (sNum _ sQ)
  first | refine zaa (r_mul _ c (by omega) (by omega)) (by simp) ?_ | refine zab (r_mul _ c (by omega) (by omega)) (by simp) ?_
  simp -dsimp -implicitDefEqProofs (disch := try exact zdE) only [go_sem, hslQ]
  first | refine zaa (hdot (fun i => Q.getD i 0) (numF k (at2 P) fun i => Q.getD i 0) sQ' (sNum _ sQ)) (by simp) ?_ | refine zab (hdot (fun i => Q.getD i 0) (numF k (at2 P) fun i => Q.getD i 0) sQ' (sNum _ sQ)) (by simp) ?_
  simp -dsimp -implicitDefEqProofs (disch := try exact zdE) only [go_sem, hslQ]
  first | refine zaa (r_sub _ _ (by omega) (by omega)) (by simp) ?_ | refine zab (r_sub _ _ (by omega) (by omega)) (by simp) ?_
  have egC : det k (at2 P) * c - sumZ (fun c => Q.getD c 0 * numF k (at2 P) (fun i => Q.getD i 0) c) k = gC k (at2 P) (fun i => Q.getD i 0) c := by rw [Int.mul_comm]; rfl
  rw [egC]
  refine sgo ?_
  generalize gC k (at2 P) (fun i => Q.getD i 0) c = gc
  generalize hD : det k (at2 P) = d at *
  obtain ⟨H0, eH0⟩ : ∃ H0 : Hp, H0 = (((Hp.upd (fun x => none) 1 (some ⟨[V.agg [V.nil, V.nil, V.bool false, V.sl []]], 4⟩)).upd 2 (some ⟨[V.agg [V.bool false, V.sl []]], 2⟩)).upd 16 (some ⟨[DV d], 2⟩)).upd 37 (some ⟨[V.agg [V.nil, V.nil, V.bool (decide (gc < 0)), V.sl (nats .i64 (digs 10 gc.natAbs))]], 4⟩) := ⟨_, rfl⟩
  have b0 : H0 1 = some ⟨[V.agg [V.nil, V.nil, V.bool false, V.sl []]], 4⟩ := by rw [eH0]; rfl
  have b1 : H0 37 = some ⟨[.agg [.nil, .nil, .bool (decide (gc < 0)), .sl (nats .i64 (digs 10 gc.natAbs))]], 4⟩ := by rw [eH0]; exact Hp.upd_same _ _ _
  have b2 : H0 16 = some ⟨[DV d], 2⟩ := by rw [eH0]; rfl
  have b3 : H0 2 = some ⟨[V.agg [V.bool false, V.sl []]], 2⟩ := by rw [eH0]; rfl
  rw [← eH0]
  clear eH0 egC c1 c2 c3
  refine zap (T := Nat × V × V × Hp × Nat) (fun t => ⟨E [(1, .int .i64 k), (2, .pp (DQV P Q c)), (4, .ptr 1 1 0 0), (5, .ptr 2 1 0 0), (7, .sl ((mat k (at2 P)).map dvl)), (9, .ptr 16 1 0 0), (10, dvl (rowF k (numF k (at2 P) fun j => Q.getD j 0))), (11, .ptr 37 1 0 0), (12, .int .i64 ((k + t.1 : Nat) : Int))], t.2.2.2.1, t.2.2.2.2, t.2.2.2.2⟩)
   (fun t => t.1 ≤ n - k ∧ 41 ≤ t.2.2.2.2 ∧ t.2.2.2.1 37 = some ⟨[.agg [t.2.1, t.2.2.1, .bool (decide (gc < 0)), .sl (nats .i64 (digs 10 gc.natAbs))]], 4⟩ ∧ t.2.2.2.1 16 = some ⟨[DV d], 2⟩ ∧ t.2.2.2.1 1 = some ⟨[V.agg [V.nil, V.nil, V.bool false, V.sl []]], 4⟩ ∧ t.2.2.2.1 2 = some ⟨[V.agg [V.bool false, V.sl []]], 2⟩ ∧ Row 41 t.2.2.2.1 t.2.2.2.2 t.2.1 1 ((List.range t.1).map fun i => dvl (rowF (n - k) (gP k (at2 P) i))) ∧ Row 41 t.2.2.2.1 t.2.2.2.2 t.2.2.1 2 ((rowF t.1 (gQ k (at2 P) fun i => Q.getD i 0)).map DV)) (fun t => n - k - t.1)
   (0, .nil, .nil, H0, _) rfl ⟨zdo, zdo, b1, b2, b0, b3, Row.nil _ _ _ _, Row.nil _ _ _ _⟩ ?_
  clear b1 b2 b0 b3 H0
  rintro ⟨i, w1, w2, H, nx⟩ ⟨i1, i2, i3, i4, i7, i8, i5, i6⟩
  dsimp only at i1 i2 i3 i4 i5 i6 i7 i8
  obtain ⟨hwa1, hwc1, _, _⟩ := i5.flat
  obtain ⟨hwa2, hwc2, _, _⟩ := i6.flat
  have hsep : Sep w1 w2 := i5.not_row2 i6 (by decide)
  by_cases hi : i < n - k
  ·simp -dsimp -implicitDefEqProofs (disch := try exact zdE) only [go_sem, hQ]
   have hN : 49 ≤ nx + 8 := by omega
   have f5 := i5.same (H' := H) (nx' := nx + 8) (fun _ _ => rfl) (by omega)
   have f6 := i6.same (H' := H) (nx' := nx + 8) (fun _ _ => rfl) (by omega)
   have hNn : nx ≤ nx + 8 := by omega
   generalize nx + 8 = N at hN hNn f5 f6 ⊢
   refine zap (T := Nat × V × Hp × Nat) (fun t => ⟨E [(1, .int .i64 k), (2, .pp (DQV P Q c)), (4, .ptr 1 1 0 0), (5, .ptr 2 1 0 0), (7, .sl ((mat k (at2 P)).map dvl)), (9, .ptr 16 1 0 0), (10, dvl (rowF k (numF k (at2 P) fun j => Q.getD j 0))), (11, .ptr 37 1 0 0), (12, .int .i64 ((k + i : Nat) : Int)), (13, t.2.1), (14, .int .i64 ((k + t.1 : Nat) : Int))], t.2.2.1, t.2.2.2, t.2.2.2⟩)
    (fun t => t.1 ≤ n - k ∧ N ≤ t.2.2.2 ∧ (∀ b, b < N → t.2.2.1 b = H b) ∧ Row N t.2.2.1 t.2.2.2 t.2.1 2 ((rowF t.1 (gP k (at2 P) i)).map DV)) (fun t => n - k - t.1)
    (0, .nil, H, _) rfl ⟨zdo, zdo, fun _ _ => rfl, Row.nil _ _ _ _⟩ ?_
   rintro ⟨j, u, H2, nx2⟩ ⟨j1, j2, j3, j4⟩
   dsimp only at j1 j2 j3 j4
   have e1 := (j3 37 (by omega)).trans i3
   have e2 := (j3 16 (by omega)).trans i4
   have e7 := (j3 1 (by omega)).trans i7
   have e8 := (j3 2 (by omega)).trans i8
   by_cases hj : j < n - k
   ·have hsPj := hslP (k + j) (by omega)
    have hsPi := hslP (k + i) (by omega)
    have hsj := hsol (rowF k (at2 P (k + j))) (at2 P (k + j)) (zal _ _) (fun a ha => zbh ha) (fun a => rng2 (sP (k + j)) a)
    have hri := hP.row (show k + i < n by omega)
    have hg : (P.getD (k + i) []).getD (k + j) 0 = at2 P (k + i) (k + j) := rfl
    have s1 := sP' (k + i) (k + j)
    have s2 := zba d (at2 P (k + i) (k + j))
    have s3 := sSum (at2 P (k + i)) (numF k (at2 P) (at2 P (k + j))) (sP' _) (sNum _ (sP _))
    have eg : d * at2 P (k + i) (k + j) - sumZ (fun c => at2 P (k + i) c * numF k (at2 P) (at2 P (k + j)) c) k = gP k (at2 P) i j := by rw [← hD]; exact (gP_ref hk hS hi hj).symm
    simp -dsimp -implicitDefEqProofs (disch := try exact zdE) only [go_sem, hl, hQ, hsPj]
    first | refine zaa (hsj) (by simp) ?_ | refine zab (hsj) (by simp) ?_
    simp -dsimp -implicitDefEqProofs (disch := try exact zdE) only [go_sem, hl, hri, hg, e2]
    first | refine zaa (r_mul _ _ (by omega) (by omega)) (by simp) ?_ | refine zab (r_mul _ _ (by omega) (by omega)) (by simp) ?_
    simp -dsimp -implicitDefEqProofs (disch := try exact zdE) only [go_sem, hl, hsPi]
    first | refine zaa (hdot (at2 P (k + i)) (numF k (at2 P) (at2 P (k + j))) (sP' _) (sNum _ (sP _))) (by simp) ?_ | refine zab (hdot (at2 P (k + i)) (numF k (at2 P) (at2 P (k + j))) (sP' _) (sNum _ (sP _))) (by simp) ?_
    refine sgo ?_
    first | refine zaa (r_sub _ _ (by omega) (by omega)) (by simp) ?_ | refine zab (r_sub _ _ (by omega) (by omega)) (by simp) ?_
    rw [eg]
    refine sgo ?_
    refine zaq (lo := N) (nx := nx2 + 5) (H0 := H2) (xs := (rowF j (gP k (at2 P) i)).map DV) (j4.same (fun _ _ => rfl) (by omega)) (by omega) rfl (by omega) (by omega) (by simp [rowOk, V.cells, V.cellOk, DV, V.isJunk]) (by decide) (by simp [rowF]; omega) (by simp [rowF]; omega) fun v2 H3 r1 _ _ r4 => ?_
    rw [zc3, show rowF j (gP k (at2 P) i) ++ [gP k (at2 P) i j] = rowF (j + 1) (gP k (at2 P) i) from zat _ _] at r1
    refine sgo ?_
    exact ⟨(j + 1, v2, H3, _), rfl, ⟨zdo, zdo, fun b hb => (r4 b hb).trans (j3 b hb), r1.same (fun _ _ => rfl) zdo⟩, zdo⟩
   ·have hjn : j = n - k := by omega
    rw [hjn] at j4
    have g5 := f5.same (H' := H2) (nx' := nx2) j3 j2
    have g6 := f6.same (H' := H2) (nx' := nx2) j3 j2
    simp -dsimp -implicitDefEqProofs (disch := try exact zdE) only [go_sem, hQ]
    refine gh_row2 (lo := N) (ys := (rowF (n - k) (gP k (at2 P) i)).map DV) 13 rfl (j4.same (fun _ _ => rfl) (by omega)) (za3 fun x => by simp) (fun p hp hne c hc => ?_) fun H3 hH3 => ?_
    ·simp only [List.mem_cons, List.not_mem_nil, or_false] at hp
     rcases hp with rfl | rfl | rfl | rfl | rfl | rfl | rfl | rfl | rfl | rfl | rfl | rfl <;> first | exact absurd rfl hne | exact sub_dvl _ _ | (simp [V.sub]; done) | exact zgr (by omega)
    ·have e9 : V.sl ((rowF (n - k) (gP k (at2 P) i)).map DV) = dvl (rowF (n - k) (gP k (at2 P) i)) := rfl
     have hH3p : ∀ b blk, b < N → H2 b = some blk → (∀ x ∈ blk.elems, V.Pure x) → H3 b = some blk := fun b blk hb h hp => hH3 b blk hb h fun x hx c _ => zcf _ (hp x hx)
     have q1 : H3 37 = some ⟨[.agg [w1, w2, .bool (decide (gc < 0)), .sl (nats .i64 (digs 10 gc.natAbs))]], 4⟩ := hH3 37 _ (by omega) e1 fun x hx c hc => by
      simp only [List.mem_singleton] at hx
      subst hx
      rw [zdy]
      simp only [List.map_cons, List.map_nil, i5.sub_ge (show nx ≤ c by omega), i6.sub_ge (show nx ≤ c by omega)]
      simp [V.sub]
     have q2 : H3 16 = some ⟨[DV d], 2⟩ := hH3p 16 _ (by omega) e2 (by simp)
     have q7 : H3 1 = some ⟨[V.agg [V.nil, V.nil, V.bool false, V.sl []]], 4⟩ := hH3p 1 _ (by omega) e7 (by simp)
     have q8 : H3 2 = some ⟨[V.agg [V.bool false, V.sl []]], 2⟩ := hH3p 2 _ (by omega) e8 (by simp)
     have q5 : Row 41 H3 nx2 w1 1 ((List.range i).map fun i => dvl (rowF (n - k) (gP k (at2 P) i))) := (f5.same (H' := H2) (nx' := N) j3 (Nat.le_refl _)).told (lo := N) (Nat.le_refl _) j2 (za3 fun x => by simp) hH3p
     have q6 : Row 41 H3 nx2 w2 2 ((rowF i (gQ k (at2 P) fun i => Q.getD i 0)).map DV) := (f6.same (H' := H2) (nx' := N) j3 (Nat.le_refl _)).told (lo := N) (Nat.le_refl _) j2 (za3 fun x => by simp) hH3p
     clear hH3 hH3p g5 g6 f5 f6 e1 e2 e7 e8 j3 j4 i3 i4 i5 i6 i7 i8
     simp -dsimp -implicitDefEqProofs (disch := try exact zdE) only [go_sem, e9, q1, hwa1]
     refine zaq (lo := 41) (nx := nx2 + 5) (H0 := H3) (xs := (List.range i).map fun i => dvl (rowF (n - k) (gP k (at2 P) i))) (q5.same (fun _ _ => rfl) (by omega)) (by omega) rfl (by omega) (by omega) (by simp [rowOk, V.cells, V.cellOk, V.isJunk, dvl]) (by decide) (by simp; omega) (by simp; omega) fun v2 H4 r1 r2 r3 r4 => ?_
     rw [zat (fun i => dvl (rowF (n - k) (gP k (at2 P) i)))] at r1
     have p1 := (r4 37 (by omega)).trans q1
     have p2 := (r4 16 (by omega)).trans q2
     have p7 := (r4 1 (by omega)).trans q7
     have p8 := (r4 2 (by omega)).trans q8
     have p6 := (q6.same (H' := H3) (nx' := nx2 + 5) (fun _ _ => rfl) (by omega)).keep r3 hsep (Nat.le_refl _)
     obtain ⟨b', hv2, c1, c3, c4⟩ := r1.own_of (by simp)
     rw [List.length_map, List.length_range] at hv2
     subst hv2
     have hsPi := hslP (k + i) (by omega)
     have s1 := sQ' (k + i)
     have s2 := zba d (Q.getD (k + i) 0)
     have s3 := sSum (at2 P (k + i)) (numF k (at2 P) fun j => Q.getD j 0) (sP' _) (sNum _ sQ)
     have eg : d * Q.getD (k + i) 0 - sumZ (fun c => at2 P (k + i) c * numF k (at2 P) (fun j => Q.getD j 0) c) k = gQ k (at2 P) (fun i => Q.getD i 0) i := by rw [← hD, Int.mul_comm]; rfl
     simp -dsimp -implicitDefEqProofs (disch := try exact zdE) only [go_sem, p1, p2, hwa1, hwa2, hQ]
     first | refine zaa (r_mul _ _ (by omega) (by omega)) (by simp) ?_ | refine zab (r_mul _ _ (by omega) (by omega)) (by simp) ?_
     simp -dsimp -implicitDefEqProofs (disch := try exact zdE) only [go_sem, hl, hsPi]
     first | refine zaa (hdot (at2 P (k + i)) (numF k (at2 P) fun j => Q.getD j 0) (sP' _) (sNum _ sQ)) (by simp) ?_ | refine zab (hdot (at2 P (k + i)) (numF k (at2 P) fun j => Q.getD j 0) (sP' _) (sNum _ sQ)) (by simp) ?_
     refine sgo ?_
     first | refine zaa (r_sub _ _ (by omega) (by omega)) (by simp) ?_ | refine zab (r_sub _ _ (by omega) (by omega)) (by simp) ?_
     rw [eg]
     refine sgo ?_
     refine zaq (lo := 41) (nx := nx2 + 13) (H0 := H4.upd 37 (some ⟨[.agg [.own b' (i + 1), w2, .bool (decide (gc < 0)), .sl (nats .i64 (digs 10 gc.natAbs))]], 4⟩)) (xs := (rowF i (gQ k (at2 P) fun i => Q.getD i 0)).map DV) ((p6.upd (by omega)).same (fun _ _ => rfl) (by omega)) (by omega) rfl (by omega) (by omega) (by simp [rowOk, V.cells, V.cellOk, DV, V.isJunk]) (by decide) (by simp [rowF]; omega) (by simp [rowF]; omega) fun v3 H5 t1 t2 t3 t4 => ?_
     rw [zc3, show rowF i (gQ k (at2 P) fun i => Q.getD i 0) ++ [gQ k (at2 P) (fun i => Q.getD i 0) i] = rowF (i + 1) (gQ k (at2 P) fun i => Q.getD i 0) from zat _ _] at t1
     have u1 : H5 37 = some ⟨[.agg [.own b' (i + 1), w2, .bool (decide (gc < 0)), .sl (nats .i64 (digs 10 gc.natAbs))]], 4⟩ := (t4 37 (by omega)).trans (Hp.upd_same _ _ _)
     have u2 : H5 16 = some ⟨[DV d], 2⟩ := (t4 16 (by omega)).trans ((Hp.upd_ne _ _ (by omega)).trans p2)
     have u7 : H5 1 = some ⟨[V.agg [V.nil, V.nil, V.bool false, V.sl []]], 4⟩ := (t4 1 (by omega)).trans ((Hp.upd_ne _ _ (by omega)).trans p7)
     have u8 : H5 2 = some ⟨[V.agg [V.bool false, V.sl []]], 2⟩ := (t4 2 (by omega)).trans ((Hp.upd_ne _ _ (by omega)).trans p8)
     have ub : H5 b' = some ⟨(List.range (i + 1)).map fun i => dvl (rowF (n - k) (gP k (at2 P) i)), 1⟩ := by
      rw [t3 b' (by omega) fun m e => by have h1 := p6.lt e; have h2 := r2 b' _ rfl; omega, Hp.upd_ne _ _ (by omega)]
      exact c4
     obtain ⟨b3, hv3, x1, x3, x4⟩ := t1.own_of (by simp [rowF])
     have hv3' : v3 = .own b3 (i + 1) := by rw [hv3, List.length_map, zal]
     subst hv3'
     clear t1 t2 t3 t4 r1 r2 r3 r4 hv3 p1 p2 p6 p7 p8 q1 q2 q5 q6 q7 q8 c4
     simp -dsimp -implicitDefEqProofs (disch := try exact zdE) only [go_sem, u1, u2, hwa1, hwa2]
     generalize hH6 : Hp.upd H5 37 _ = H6
     have k1 := za4 hH6
     have k2 := zaf hH6 u2 (by omega)
     have k3 := zaf hH6 ub (by omega)
     have k4 := zaf hH6 x4 (by omega)
     have k7 := zaf hH6 u7 (by omega)
     have k8 := zaf hH6 u8 (by omega)
     exact ⟨(i + 1, _, _, H6, _), rfl, ⟨zdo, zdo, k1, k2, k7, k8, .inr ⟨b', by rw [List.length_map, List.length_range], c1, zdo, k3⟩, .inr ⟨b3, by rw [List.length_map, zal], x1, zdo, k4⟩⟩, zdo⟩
  ·have hin : i = n - k := by omega
   subst hin
   have h1n : (1 : Nat) ≠ 37 := by omega
   simp -dsimp -implicitDefEqProofs (disch := try exact zdE) only [go_sem, hQ, i3, i4, i7, i8, hwa1, hwa2, hwc1, hwc2]
   rw [((i5.upd (by omega)).upd (by omega)).frz (zdf fun x hx => by obtain ⟨q, _, rfl⟩ := List.mem_map.1 hx; rfl), ((i6.upd (by omega)).upd (by omega)).frz (zdb fun x => zaz _ _ _)]
   simp only [Option.map_some, Option.bind_some, DQV, mat, List.map_map]
   rfl
 ·have hdf' : defS k (at2 P) = false := by simpa using hdf
  rw [if_neg hdf, hdf']
  simp -dsimp -implicitDefEqProofs (disch := try exact zdE) only [go_sem, DQV_zz, DV_zz]
end Go.Gim

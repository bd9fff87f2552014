import Derived.Test.YtjkjpjneeioeiaaGreatQP2
import Derived.Test.YtjkjpjneeioeiaaGreatGA7
import Derived.Test.YtjkjpjneeioeiaaGreatQA3
import Derived.Test.YtjkjpjneeioeiaaGreatGMR
import Derived.Test.YtjkjpjneeioeiaaGreatCX3
import Derived.Test.YtjkjpjneeioeiaaGreatDV7
set_option linter.unusedSimpArgs false
set_option linter.unusedVariables false
/- What goes out of a graph, and what is left, in plain Lean: sums of squares, what is left is not below nothing, what floors take away. -/
set_option maxRecDepth 100000
set_option maxHeartbeats 4000000
namespace Go.Gim
open Go.Proofs
theorem sq_nnI (a : Int) : 0 ≤ a * a := by
 rcases Int.le_total 0 a with h | h
 ·exact Int.mul_nonneg h h
 ·exact Int.mul_nonneg_of_nonpos_of_nonpos h h
def zdg (r : Row4) (k : Nat) : Bool := (r.co.take k).any fun a => decide (a ≠ 0)
def goes (rows : List Row4) (k : Nat) (s f : Row4 → Int) (t : Nat) : Int := sumZ (fun i => if zdg (rows.getD i default) k then f (rows.getD i default) * s (rows.getD i default) else 0) t
theorem goes_succ (rows : List Row4) (k : Nat) (s f : Row4 → Int) (t : Nat) : goes rows k s f (t + 1) = goes rows k s f t + if zdg (rows.getD t default) k then f (rows.getD t default) * s (rows.getD t default) else 0 := rfl
theorem goes_nonneg {rows : List Row4} {k : Nat} {s f : Row4 → Int} {t : Nat} (ht : t ≤ rows.length) (h : ∀ r ∈ rows, 0 ≤ f r * s r) : 0 ≤ goes rows k s f t := sumZ_nonneg fun i hi => by
 split
 ·exact h _ (zau default (by omega))
 ·exact Int.le_refl 0
theorem goes_sum (rows : List Row4) (k : Nat) (s : Row4 → Int) (F : Nat → Row4 → Int) (t : Nat) : ∀ n, sumZ (fun i => goes rows k s (F i) t) n = goes rows k s (fun r => sumZ (fun i => F i r) n) t
 | 0 => by
  unfold goes
  rw [sumZ]
  exact (zgy fun i _ => by simp [sumZ]).symm
 | n + 1 => by
  rw [sumZ, goes_sum rows k s F t n]
  unfold goes
  rw [← zfu]
  refine zad fun i _ => ?_
  split
  ·simp only [sumZ, Int.add_mul]
  ·rfl
theorem goes_mul (rows : List Row4) (k : Nat) (s f : Row4 → Int) (c : Int) (t : Nat) : goes rows k s f t * c = goes rows k s (fun r => f r * c) t := by
 unfold goes
 rw [← sg_mulr]
 refine zad fun i _ => ?_
 split
 ·grind
 ·omega
def wholeP (P : Mx) (rows : List Row4) (k : Nat) (s : Row4 → Int) (t : Nat) : Mx := fun i j => P i j * 1024 + goes rows k s (fun r => r.co.getD i 0 * r.co.getD j 0) t
def wholeQ (q : Nat → Int) (rows : List Row4) (k : Nat) (s : Row4 → Int) (t : Nat) (i : Nat) : Int := q i * 1024 + goes rows k s (fun r => r.co.getD i 0 * r.z) t
def wholeC (c : Int) (rows : List Row4) (k : Nat) (s : Row4 → Int) (t : Nat) : Int := c * 1024 + goes rows k s (fun r => r.z * r.z) t
def dotF (r : Row4) (y : Nat → Int) (n : Nat) : Int := sumZ (fun i => r.co.getD i 0 * y i) n
theorem qS_add (n : Nat) (A B : Mx) (x : Nat → Int) : qS n (fun i j => A i j + B i j) x = qS n A x + qS n B x := by
 unfold qS
 rw [← zfu]
 refine zad fun i _ => ?_
 rw [← Int.mul_add]
 congr 1
 unfold appS
 rw [← zfu]
 exact zad fun j _ => by rw [Int.add_mul]
theorem qS_scale (n : Nat) (A : Mx) (c : Int) (x : Nat → Int) : qS n (fun i j => A i j * c) x = qS n A x * c := by
 unfold qS
 rw [← sg_mulr]
 refine zad fun i _ => ?_
 have : appS n (fun i j => A i j * c) x i = appS n A x i * c := by
  unfold appS
  rw [← sg_mulr]
  exact zad fun j _ => by grind
 rw [this]; grind
theorem qS_goes (n : Nat) (rows : List Row4) (k : Nat) (s : Row4 → Int) (t : Nat) (y : Nat → Int) : qS n (fun i j => goes rows k s (fun r => r.co.getD i 0 * r.co.getD j 0) t) y = goes rows k s (fun r => dotF r y n * dotF r y n) t := by
 unfold qS
 rw [zad (g := fun i => goes rows k s (fun r => r.co.getD i 0 * y i * dotF r y n) t) fun i _ => ?_, goes_sum]
 ·congr 1
  funext r
  rw [sg_mulr]; rfl
 ·unfold appS
  rw [zad (g := fun j => goes rows k s (fun r => r.co.getD i 0 * (r.co.getD j 0 * y j)) t) fun j _ => by rw [goes_mul]; congr 1; funext r; grind, goes_sum, Int.mul_comm, goes_mul]
  congr 1
  funext r
  rw [zc6]
  unfold dotF
  grind
theorem whole_qS (n : Nat) (P : Mx) (rows : List Row4) (k : Nat) (s : Row4 → Int) (t : Nat) (y : Nat → Int) : qS n (wholeP P rows k s t) y = qS n P y * 1024 + goes rows k s (fun r => dotF r y n * dotF r y n) t := by
 have := qS_add n (fun i j => P i j * 1024) (fun i j => goes rows k s (fun r => r.co.getD i 0 * r.co.getD j 0) t) y
 rw [qS_scale, qS_goes] at this
 exact this
theorem whole_sym {n : Nat} {P : Mx} (h : SymM n P) (rows : List Row4) (k : Nat) (s : Row4 → Int) (t : Nat) : SymM n (wholeP P rows k s t) := fun i j hi hj => by
 unfold wholeP
 rw [h i j hi hj]
 congr 2
 funext r
 exact Int.mul_comm _ _
def PSD (n : Nat) (M : Mx) : Prop := ∀ x : Nat → Int, 0 ≤ qS n M x
theorem PSD.whole {n : Nat} {P : Mx} (h : PSD n P) {rows : List Row4} {k : Nat} {s : Row4 → Int} {t : Nat} (ht : t ≤ rows.length) (hs : ∀ r ∈ rows, 0 ≤ s r) : PSD n (wholeP P rows k s t) := fun x => by
 rw [whole_qS]
 have h1 := h x
 have h2 := goes_nonneg (k := k) (s := s) (f := fun r => dotF r x n * dotF r x n) ht fun r hr => Int.mul_nonneg (sq_nnI _) (hs r hr)
 omega
theorem PSD.congr {n : Nat} {P P' : Mx} (h : PSD n P) (he : ∀ i j, i < n → j < n → P i j = P' i j) : PSD n P' := fun x => by
 rw [← qS_congr he fun _ _ => rfl]; exact h x
theorem gP_tgt {n k : Nat} (hk : k ≤ n) {P : Mx} (hs : SymM n P) {i j : Nat} (hi : i < n - k) (hj : j < n - k) : gP k P i j = tgt k P (k + i) (k + j) := by
 unfold gP tgt
 rw [if_neg (by omega), Int.mul_comm]
 have e1 := sg_move (fun c => P (k + i) c) (fun c => P (k + j) c) (fun c r => adjK k P c r) k k
 have e2 : sumZ (fun c => P (k + i) c * wK k P c (k + j)) k = sumZ (fun c => numF k P (P (k + i)) c * P (k + j) c) k := by
  have e3 : ∀ c, c < k → wK k P c (k + j) = sumZ (fun r => adjK k P c r * P (k + j) r) k := fun c _ => zad fun r hr => by rw [hs r (k + j) (by omega) (by omega)]
  rw [zad (fun c hc => by rw [e3 c hc]), e1]
  refine zad fun c hc => ?_
  have e4 : numF k P (P (k + i)) c = sumZ (fun r => adjK k P c r * P (k + i) r) k := by
   rw [ze2 (b' := fun r => P r (k + i)) (fun _ _ _ _ => rfl) (fun r hr => hs _ _ (by omega) (by omega)), ← wK_num P hc]
   exact zad fun r hr => by rw [hs r (k + i) (by omega) (by omega)]
  rw [e4, Int.mul_comm]
  congr 1
  exact zad fun r hr => by rw [adj_sym (hs.mono hk) hr hc]
 rw [e2]
theorem PSD.left {n k : Nat} (hk : k ≤ n) {P : Mx} (hs : SymM n P) (hp : PSD n P) (hd : 0 < det k P) : PSD (n - k) (gP k P) := fun y => by
 obtain ⟨m, rfl⟩ : ∃ m, n = k + m := ⟨n - k, by omega⟩
 rw [show k + m - k = m by omega]
 have h := schur hs fun i => if i < k then -sumZ (fun j => wK k P i (k + j) * y j) m else det k P * y (i - k)
 have h1 := hp fun i => if i < k then -sumZ (fun j => wK k P i (k + j) * y j) m else det k P * y (i - k)
 generalize qS (k + m) P (fun i => if i < k then -sumZ (fun j => wK k P i (k + j) * y j) m else det k P * y (i - k)) = Q at h h1
 have ek : ∀ j, (if k + j < k then -sumZ (fun j' => wK k P (k + j) (k + j') * y j') m else det k P * y (k + j - k)) = det k P * y j := fun j => by
  rw [if_neg (by omega)]; congr 2; omega
 simp only [ek] at h
 have hz : ∀ c, c < k → (det k P * (if c < k then -sumZ (fun j => wK k P c (k + j) * y j) m else det k P * y (c - k))) + sumZ (fun j => wK k P c (k + j) * (det k P * y j)) m = 0 := fun c hc => by
  have e0 : sumZ (fun j => wK k P c (k + j) * (det k P * y j)) m = det k P * sumZ (fun j => wK k P c (k + j) * y j) m := by
   rw [← zc6]; exact zad fun j _ => by rw [← Int.mul_assoc, Int.mul_comm (wK k P c (k + j)), Int.mul_assoc]
  rw [if_pos hc, e0, Int.mul_neg]; omega
 rw [qS_zero hz] at h
 have e : sumZ (fun i => det k P * y i * sumZ (fun j => tgt k P (k + i) (k + j) * (det k P * y j)) m) m = qS m (gP k P) y * (det k P * det k P) := by
  unfold qS
  rw [← sg_mulr]
  refine zad fun i hi => ?_
  unfold appS
  rw [zad (g := fun j => det k P * (gP k P i j * y j)) fun j hj => by rw [gP_tgt (n := k + m) (by omega) hs (by omega) (by omega), ← Int.mul_assoc, Int.mul_comm (tgt k P (k + i) (k + j)), Int.mul_assoc], zc6]
  generalize sumZ (fun j => gP k P i j * y j) m = S
  generalize det k P = d
  grind
 rw [e] at h
 generalize qS m (gP k P) y = R at *
 generalize det k P = d at *
 rcases Int.mul_eq_zero.1 h with h2 | h2
 ·omega
 ·have h3 : d * Q = d * (d * R) := by grind
  have h4 := Int.eq_of_mul_eq_mul_left (by omega) h3
  refine Decidable.byContradiction fun hn => ?_
  have := Int.mul_neg_of_pos_of_neg hd (show R < 0 by omega)
  omega
def downF (x ov : Int) : Int := (x * 1024).fdiv ov
def rndP (n : Nat) (f : Mx) (ov : Int) : Mx := fun i j => downF (f i j) ov - if i = j then (n : Int) else 0
end Go.Gim
/- What is left out of a graph: whether a row is touched, a function so many times, a row's square. -/
set_option maxRecDepth 100000
set_option maxHeartbeats 4000000
namespace Go.Gim
open Go.Proofs
theorem slc_ints {l : List Int} {k : Nat} {ki : IntKind} (h : k ≤ l.length) : redV (.slc 1 false true false) [ints l, .int ki (k : Int)] = some (ints (l.take k)) := by
 rw [ints_eq, zea (by omega) (by rw [List.length_map]; omega) (by decide), Int.toNat_natCast, ← List.map_take]; rfl
theorem slc_intsF {l : List Int} {k : Nat} {ki : IntKind} (h : k ≤ l.length) : redV (.slc 1 true false false) [ints l, .int ki (k : Int)] = some (ints (l.drop k)) := by
 rw [ints_eq, slc_from (by simp [V.cells]) (by omega) (by rw [List.length_map]; omega) (by decide), Int.toNat_natCast, ← List.map_drop]; rfl
theorem indexI_ret (l : List Int) (g : Nat) (caps : List V) (f : Int → Bool) (hn : l.length ≤ 9223372036854775807) (hc : ∀ v ∈ caps, V.Pure v) (h : ∀ x ∈ l, Ret pg g (.int .i64 x :: caps) (.bool (f x))) :
  ∃ k : Int, Ret pg zcb [ints l, .fn g caps] (.int .i64 k) ∧ decide (0 ≤ k) = l.any f := by
 refine ⟨if l.any f then l.findIdx f else -1, ?_, ?_⟩
 ·refine slices_IndexFunc_Lint64_int64.of rfl (W_b ?_)
  unfold slices_IndexFunc_Lint64_int64.k slices_IndexFunc_Lint64_int64.res Ot kp Om Ol Oi Oc On ci
  refine sgo ?_
  refine zap (T := Nat × Nat) (fun t => ⟨E [(0, ints l), (1, .fn g caps), (7, .int .i64 l.length), (8, .int .i64 t.1)], fun _ => none, t.2, t.2⟩) (fun t => t.1 ≤ l.length ∧ ∀ j, (hj : j < l.length) → j < t.1 → f l[j] = false) (fun t => l.length - t.1) (0, _) rfl ⟨zdo, fun j _ h => by dsimp only at h; omega⟩ ?_
  rintro ⟨i, nx⟩ ⟨i1, i2⟩
  dsimp only at i1 i2
  by_cases hi : i < l.length
  ·have hm := zau 0 hi
   have he : l.getD i 0 = l[i] := by simp [List.getD_eq_getElem?_getD, hi]
   have hg := h _ hm
   rw [he] at hg
   simp -dsimp -implicitDefEqProofs (disch := try exact zdE) only [go_sem, he]
   refine zgq hg (by simpa using hc) ?_
   cases hf : f l[i]
   ·refine sgo ?_
    exact ⟨(i + 1, _), rfl, ⟨zdo, fun j hj hji => by dsimp only at hji; by_cases hje : j = i; (subst hje; exact hf); exact i2 j hj (by omega)⟩, zdo⟩
   ·have ha : l.any f = true := List.any_eq_true.2 ⟨_, List.getElem_mem hi, hf⟩
    have hx : l.findIdx f = i := (List.findIdx_eq hi).2 ⟨hf, fun j hj => i2 j (by omega) hj⟩
    rw [ha, if_pos rfl, hx]
    exact sgo trivial
  ·have ha : l.any f = false := List.any_eq_false.2 fun r hr => by
    obtain ⟨j, hj, rfl⟩ := List.mem_iff_getElem.1 hr
    simp [i2 j hj (by omega)]
   rw [ha]
   exact sgo trivial
 ·cases l.any f <;> simp
theorem mtouch1_ret (a : Int) : Ret pg zdu [.int .i64 a] (.bool (decide (a ≠ 0))) := by
 refine marg_touches_1.of rfl (W_b ?_)
 unfold marg_touches_1.k marg_touches_1.res Ot kp Om ci
 refine sgo ?_
 simp
theorem mtouches_ret (r : Row4) (k : Nat) (hk : k ≤ r.co.length) (hl : r.co.length ≤ 9223372036854775807) : Ret pg zf7 [RV r, .int .i64 k] (.bool (zdg r k)) := by
 obtain ⟨j, h1, h2⟩ := indexI_ret (r.co.take k) zdu [] (fun a => decide (a ≠ 0)) (by rw [List.length_take]; omega) (by simp) fun x _ => mtouch1_ret x
 have h3 : Ret pg zbz [ints (r.co.take k), .fn zdu []] (.bool (zdg r k)) := by
  unfold zdg
  rw [← h2]
  refine slices_ContainsFunc_Lint64_int64.of rfl (W_b ?_)
  unfold slices_ContainsFunc_Lint64_int64.k slices_ContainsFunc_Lint64_int64.res Ot kp Om ci
  refine sgo ?_
  first | refine zaa (h1) (by simp) ?_ | refine zab (h1) (by simp) ?_
  exact sgo trivial
 refine marg_touches.of rfl (W_b ?_)
 unfold marg_touches.k marg_touches.res Ot kp Om Ol Oq
 simp -dsimp -implicitDefEqProofs (disch := try exact zdE) only [go_sem, slc_ints hk]
 first | refine zaa (h3) (by simp) ?_ | refine zab (h3) (by simp) ?_
 exact sgo trivial
theorem Row.own_at {lo nx es b m : Nat} {H : Hp} {v : V} {xs : List V} (h : Row lo H nx v es xs) (hv : v = .own b m) : H b = some ⟨xs, es⟩ := by
 rcases h with ⟨rfl, _⟩ | ⟨c, rfl, _, _, h3⟩
 ·cases hv
 ·cases hv; exact h3
theorem mscaled_ret (P : List (List Int)) (Q : List Int) (c x : Int) (n : Nat) (hn : n ≤ 1000) (hP : Sq P n) (hQ : Q.length = n) (sP : ∀ i j, lim (at2 P i j) ≤ 4000000) (sQ : ∀ i, lim (Q.getD i 0) ≤ 4000000) (sc : lim c ≤ 4000000) (sx : lim x ≤ 4000000) :
  Ret pg zfc [QV P Q c, IV x] (QV (mat n fun i j => at2 P i j * x) (rowF n fun i => Q.getD i 0 * x) (c * x)) := by
 have hl := hP.1
 refine marg_scaled.of rfl (W_b ?_)
 unfold marg_scaled.k marg_scaled.res Ot kp kd Oy Om Ol OL Oq Oi Oc On ci
 refine sgo ?_
 first | refine zaa (zce c x (by omega) (by omega)) (by simp) ?_ | refine zab (zce c x (by omega) (by omega)) (by simp) ?_
 simp -dsimp -implicitDefEqProofs (disch := try exact zdE) only [go_sem, hl]
 generalize c * x = cc
 refine zap (T := Nat × V × V × Hp × Nat) (fun t => ⟨E [(2, .pp (QV P Q c)), (3, .pp (IV x)), (4, .ptr 2 1 0 0), (5, .ptr 8 1 0 0), (17, .int .i64 n), (18, .int .i64 t.1)], t.2.2.2.1, t.2.2.2.2, t.2.2.2.2⟩)
  (fun t => t.1 ≤ n ∧ 10 ≤ t.2.2.2.2 ∧ t.2.2.2.1 2 = some ⟨[.agg [.nil, .nil, .bool false, .sl []]], 4⟩ ∧ t.2.2.2.1 8 = some ⟨[.agg [t.2.1, t.2.2.1, .bool (decide (cc < 0)), .sl (nats .u32 (digs W32 cc.natAbs))]], 4⟩ ∧ Row 10 t.2.2.2.1 t.2.2.2.2 t.2.1 1 ((List.range t.1).map fun i => ivl (rowF n fun j => at2 P i j * x)) ∧ Row 10 t.2.2.2.1 t.2.2.2.2 t.2.2.1 2 ((rowF t.1 fun i => Q.getD i 0 * x).map IV)) (fun t => n - t.1)
  (0, .nil, .nil, _, _) rfl ⟨zdo, zdo, rfl, rfl, Row.nil _ _ _ _, Row.nil _ _ _ _⟩ ?_
 rintro ⟨i, w1, w2, H, nx⟩ ⟨i1, i2, i3, i4, i5, i6⟩
 dsimp only at i1 i2 i3 i4 i5 i6
 obtain ⟨hwa1, hwc1, _, _⟩ := i5.flat
 obtain ⟨hwa2, hwc2, _, _⟩ := i6.flat
 have hsep : Sep w1 w2 := i5.not_row2 i6 (by decide)
 by_cases hi : i < n
 ·have s1 := sQ i
  have hri := hP.row hi
  simp -dsimp -implicitDefEqProofs (disch := try exact zdE) only [go_sem, hl, i4, hwa1, hwa2]
  first | refine zaa (zce _ _ (by omega) (by omega)) (by simp) ?_ | refine zab (zce _ _ (by omega) (by omega)) (by simp) ?_
  refine sgo ?_
  refine zaq (lo := 10) (nx := nx) (H0 := H) (xs := (rowF i fun i => Q.getD i 0 * x).map IV) i6 (by omega) rfl (by omega) (by omega) (by simp [rowOk, V.cells, V.cellOk, IV, V.isJunk]) (by decide) (by simp [rowF]; omega) (by simp [rowF]; omega) fun v2 H2 r1 r2 r3 r4 => ?_
  rw [zc3, show rowF i (fun i => Q.getD i 0 * x) ++ [Q.getD i 0 * x] = rowF (i + 1) (fun i => Q.getD i 0 * x) from zat _ _] at r1
  have p1 := (r4 2 (by omega)).trans i3
  have p2 := (r4 8 (by omega)).trans i4
  have p5 := (i5.same (H' := H) (nx' := nx) (fun _ _ => rfl) (by omega)).keep r3 hsep.symm (Nat.le_refl _)
  obtain ⟨b', hv2, c1, c3, c4⟩ := r1.own_of (by simp [rowF])
  have hv2' : v2 = .own b' (i + 1) := by rw [hv2, List.length_map, zal]
  subst hv2'
  simp -dsimp -implicitDefEqProofs (disch := try exact zdE) only [go_sem, hl, p2, hwa1, hwa2]
  generalize hH3 : Hp.upd H2 8 _ = H3
  have k1 := zaf hH3 p1 (by omega)
  have k2 := za4 hH3
  have kb := zaf hH3 c4 (by omega)
  have g5 : Row 10 H3 (nx + 24) w1 1 ((List.range i).map fun i => ivl (rowF n fun j => at2 P i j * x)) := by
   rw [← hH3]; exact (p5.upd (by omega)).same (fun _ _ => rfl) (by omega)
  have g6 : Row 10 H3 (nx + 24) (.own b' (i + 1)) 2 ((rowF (i + 1) fun i => Q.getD i 0 * x).map IV) := .inr ⟨b', by rw [List.length_map, zal], c1, by omega, kb⟩
  have hsep2 : Sep w1 (.own b' (i + 1)) := g5.not_row2 g6 (by decide)
  clear r1 r2 r3 r4 p1 p2 p5 c4 hH3 i3 i4 i5 i6 hv2 hsep
  have hN : 34 ≤ nx + 24 := by omega
  have hbN : b' < nx + 24 := by omega
  generalize nx + 24 = N at hN hbN g5 g6 ⊢
  refine zap (T := Nat × V × Hp × Nat) (fun t => ⟨E [(2, .pp (QV P Q c)), (3, .pp (IV x)), (4, .ptr 2 1 0 0), (5, .ptr 8 1 0 0), (7, t.2.1), (17, .int .i64 n), (18, .int .i64 i), (37, ivl (P.getD i [])), (38, .int .i64 (P.getD i []).length), (39, .int .i64 t.1)], t.2.2.1, t.2.2.2, t.2.2.2⟩)
   (fun t => t.1 ≤ n ∧ N ≤ t.2.2.2 ∧ (∀ b, b < N → t.2.2.1 b = H3 b) ∧ Row N t.2.2.1 t.2.2.2 t.2.1 2 ((rowF t.1 fun j => at2 P i j * x).map IV)) (fun t => n - t.1)
   (0, .nil, H3, _) rfl ⟨zdo, zdo, fun _ _ => rfl, Row.nil _ _ _ _⟩ ?_
  rintro ⟨j, u, H4, nx2⟩ ⟨j1, j2, j3, j4⟩
  dsimp only at j1 j2 j3 j4
  by_cases hj : j < n
  ·have hg : (P.getD i []).getD j 0 = at2 P i j := rfl
   have s1 := sP i j
   simp -dsimp -implicitDefEqProofs (disch := try exact zdE) only [go_sem, hri, hg]
   first | refine zaa (zce _ _ (by omega) (by omega)) (by simp) ?_ | refine zab (zce _ _ (by omega) (by omega)) (by simp) ?_
   refine sgo ?_
   have j4' : Row N (H4.upd (nx2 + 3) (some ⟨[IV (at2 P i j)], 2⟩)) (nx2 + 4) u 2 ((rowF j fun j => at2 P i j * x).map IV) := j4.same (fun b hb => Hp.upd_ne _ _ (by omega)) (by omega)
   refine zaq (lo := N) (nx := nx2 + 4) (H0 := H4.upd (nx2 + 3) (some ⟨[IV (at2 P i j)], 2⟩)) (xs := (rowF j fun j => at2 P i j * x).map IV) j4' (by omega) rfl (by omega) (by omega) (by simp [rowOk, V.cells, V.cellOk, IV, V.isJunk]) (by decide) (by simp [rowF]; omega) (by simp [rowF]; omega) fun v2 H6 r1 _ _ r4 => ?_
   rw [zc3, show rowF j (fun j => at2 P i j * x) ++ [at2 P i j * x] = rowF (j + 1) (fun j => at2 P i j * x) from zat _ _] at r1
   refine sgo ?_
   exact ⟨(j + 1, v2, H6, _), by rw [hri], ⟨zdo, zdo, fun b hb => (r4 b hb).trans ((Hp.upd_ne _ _ (by omega)).trans (j3 b hb)), r1.same (fun _ _ => rfl) zdo⟩, zdo⟩
  ·have hjn : j = n := by omega
   rw [hjn] at j4
   simp -dsimp -implicitDefEqProofs (disch := try exact zdE) only [go_sem, hri]
   refine gh_row2 (lo := N) (ys := (rowF n fun j => at2 P i j * x).map IV) 7 rfl (j4.same (fun _ _ => rfl) (by omega)) (za3 fun x => by simp) (fun p hp hne c hc => ?_) fun H5 hH5 => ?_
   ·simp only [List.mem_cons, List.not_mem_nil, or_false] at hp
    rcases hp with rfl | rfl | rfl | rfl | rfl | rfl | rfl | rfl | rfl | rfl | rfl <;> first | exact absurd rfl hne | exact sub_ivl _ _ | (simp [V.sub]; done) | exact zgr (by omega)
   ·have e8 : V.sl ((rowF n fun j => at2 P i j * x).map IV) = ivl (rowF n fun j => at2 P i j * x) := rfl
    have hH5p : ∀ b blk, b < N → H4 b = some blk → (∀ x ∈ blk.elems, V.Pure x) → H5 b = some blk := fun b blk hb h hp => hH5 b blk hb h fun x hx c _ => zcf _ (hp x hx)
    have q1 : H5 2 = some ⟨[.agg [.nil, .nil, .bool false, .sl []]], 4⟩ := hH5p 2 _ (by omega) ((j3 2 (by omega)).trans k1) (by simp)
    have q2 : H5 8 = some ⟨[.agg [w1, .own b' (i + 1), .bool (decide (cc < 0)), .sl (nats .u32 (digs W32 cc.natAbs))]], 4⟩ := hH5 8 _ (by omega) ((j3 8 (by omega)).trans k2) fun x hx c hc => by
     simp only [List.mem_singleton] at hx
     subst hx
     rw [zdy]
     simp only [List.map_cons, List.map_nil, g5.sub_ge hc, g6.sub_ge hc]
     simp [V.sub]
    have q5 : Row 10 H5 nx2 w1 1 ((List.range i).map fun i => ivl (rowF n fun j => at2 P i j * x)) := (g5.same (H' := H4) (nx' := N) j3 (Nat.le_refl _)).told (lo := N) (Nat.le_refl _) j2 (za3 fun x => by simp) hH5p
    have q6 : Row 10 H5 nx2 (.own b' (i + 1)) 2 ((rowF (i + 1) fun i => Q.getD i 0 * x).map IV) := (g6.same (H' := H4) (nx' := N) j3 (Nat.le_refl _)).told (lo := N) (Nat.le_refl _) j2 (za3 fun x => by simp) hH5p
    clear hH5 hH5p g5 g6 j3 j4 k1 k2 kb
    simp -dsimp -implicitDefEqProofs (disch := try exact zdE) only [go_sem, e8, q2, hwa1]
    refine zaq (lo := 10) (nx := nx2 + 4) (H0 := H5) (xs := (List.range i).map fun i => ivl (rowF n fun j => at2 P i j * x)) (q5.same (fun _ _ => rfl) (by omega)) (by omega) rfl (by omega) (by omega) (by simp [rowOk, V.cells, V.cellOk, V.isJunk, ivl]) (by decide) (by simp; omega) (by simp; omega) fun v3 H7 t1 t2 t3 t4 => ?_
    rw [zat (fun i => ivl (rowF n fun j => at2 P i j * x))] at t1
    have u1 := (t4 2 (by omega)).trans q1
    have u2 := (t4 8 (by omega)).trans q2
    have u6 := (q6.same (H' := H5) (nx' := nx2 + 4) (fun _ _ => rfl) (by omega)).keep t3 hsep2 (Nat.le_refl _)
    obtain ⟨b3, hv3, x1, x3, x4⟩ := t1.own_of (by simp)
    rw [List.length_map, List.length_range] at hv3
    subst hv3
    have ub := u6.own_at rfl
    clear t1 t2 t3 t4 q1 q2 q5 q6 u6
    simp -dsimp -implicitDefEqProofs (disch := try exact zdE) only [go_sem, u2, hwa1]
    generalize hH8 : Hp.upd H7 8 _ = H8
    have m1 := zaf hH8 u1 (by omega)
    have m2 := za4 hH8
    have m3 := zaf hH8 x4 (by omega)
    have m4 := zaf hH8 ub (by omega)
    exact ⟨(i + 1, _, _, H8, _), rfl, ⟨zdo, zdo, m1, m2, .inr ⟨b3, by rw [List.length_map, List.length_range], x1, zdo, m3⟩, .inr ⟨b', by rw [List.length_map, zal], c1, zdo, m4⟩⟩, zdo⟩
 ·have hin : i = n := by omega
  subst hin
  simp -dsimp -implicitDefEqProofs (disch := try exact zdE) only [go_sem, i3, i4, hwa1, hwa2, hwc1, hwc2]
  rw [(i5.upd (by omega)).frz (zdf fun x hx => by obtain ⟨q, _, rfl⟩ := List.mem_map.1 hx; rfl), (i6.upd (by omega)).frz (zdb fun x => zax _ _ _)]
  simp only [Option.map_some, Option.bind_some, QV, mat, List.map_map]
  rfl
end Go.Gim
/- What is left out of a graph: the square of what a row lacks. -/
set_option maxRecDepth 100000
set_option maxHeartbeats 4000000
namespace Go.Gim
open Go.Proofs
theorem msquare_ret (r : Row4) (n : Nat) (hr : Right4 r n) :
  Ret pg n_marg_square [RV r] (QV (mat n fun i j => r.co.getD i 0 * r.co.getD j 0) (rowF n fun i => r.co.getD i 0 * r.z) (r.z * r.z)) := by
 have hl := hr.len
 have hn := hr.le
 have hz := hr.z
 have hz64 : In64 r.z := by unfold In64; omega
 have hco := hr.get
 have lz := zbp hz64
 refine marg_square.of rfl (W_b ?_)
 unfold marg_square.k marg_square.res Ot kp kd Oy Om Ol OL Oq Oi Oc On ci
 refine sgo ?_
 first | refine zaa (zcm r.z hz64) (by simp) ?_ | refine zab (zcm r.z hz64) (by simp) ?_
 refine sgo ?_
 first | refine zaa (zcm r.z hz64) (by simp) ?_ | refine zab (zcm r.z hz64) (by simp) ?_
 refine sgo ?_
 first | refine zaa (zce r.z r.z (by omega) (by omega)) (by simp) ?_ | refine zab (zce r.z r.z (by omega) (by omega)) (by simp) ?_
 simp -dsimp -implicitDefEqProofs (disch := try exact zdE) only [go_sem, hl]
 generalize r.z * r.z = cc
 refine zap (T := Nat × V × V × Hp × Nat) (fun t => ⟨E [(1, .pp (RV r)), (2, .ptr 1 1 0 0), (3, .ptr 10 1 0 0), (18, ints r.co), (19, .int .i64 n), (20, .int .i64 t.1)], t.2.2.2.1, t.2.2.2.2, t.2.2.2.2⟩)
  (fun t => t.1 ≤ n ∧ 12 ≤ t.2.2.2.2 ∧ t.2.2.2.1 1 = some ⟨[.agg [.nil, .nil, .bool false, .sl []]], 4⟩ ∧ t.2.2.2.1 10 = some ⟨[.agg [t.2.1, t.2.2.1, .bool (decide (cc < 0)), .sl (nats .u32 (digs W32 cc.natAbs))]], 4⟩ ∧ Row 12 t.2.2.2.1 t.2.2.2.2 t.2.1 1 ((List.range t.1).map fun i => ivl (rowF n fun j => r.co.getD i 0 * r.co.getD j 0)) ∧ Row 12 t.2.2.2.1 t.2.2.2.2 t.2.2.1 2 ((rowF t.1 fun i => r.co.getD i 0 * r.z).map IV)) (fun t => n - t.1)
  (0, .nil, .nil, _, _) rfl ⟨zdo, zdo, rfl, rfl, Row.nil _ _ _ _, Row.nil _ _ _ _⟩ ?_
 rintro ⟨i, w1, w2, H, nx⟩ ⟨i1, i2, i3, i4, i5, i6⟩
 dsimp only at i1 i2 i3 i4 i5 i6
 obtain ⟨hwa1, hwc1, _, _⟩ := i5.flat
 obtain ⟨hwa2, hwc2, _, _⟩ := i6.flat
 have hsep : Sep w1 w2 := i5.not_row2 i6 (by decide)
 by_cases hi : i < n
 ·have hci := hco i
  have hc64 : In64 (r.co.getD i 0) := by unfold In64; omega
  have s1 := zbp hc64
  simp -dsimp -implicitDefEqProofs (disch := try exact zdE) only [go_sem, hl, i4, hwa1, hwa2]
  first | refine zaa (zcm _ hc64) (by simp) ?_ | refine zab (zcm _ hc64) (by simp) ?_
  refine sgo ?_
  first | refine zaa (zcm r.z hz64) (by simp) ?_ | refine zab (zcm r.z hz64) (by simp) ?_
  refine sgo ?_
  first | refine zaa (zce _ _ (by omega) (by omega)) (by simp) ?_ | refine zab (zce _ _ (by omega) (by omega)) (by simp) ?_
  refine sgo ?_
  refine zaq (lo := 12) (nx := nx) (H0 := H) (xs := (rowF i fun i => r.co.getD i 0 * r.z).map IV) i6 (by omega) rfl (by omega) (by omega) (by simp [rowOk, V.cells, V.cellOk, IV, V.isJunk]) (by decide) (by simp [rowF]; omega) (by simp [rowF]; omega) fun v2 H2 r1 r2 r3 r4 => ?_
  rw [zc3, show rowF i (fun i => r.co.getD i 0 * r.z) ++ [r.co.getD i 0 * r.z] = rowF (i + 1) (fun i => r.co.getD i 0 * r.z) from zat _ _] at r1
  have p1 := (r4 1 (by omega)).trans i3
  have p2 := (r4 10 (by omega)).trans i4
  have p5 := (i5.same (H' := H) (nx' := nx) (fun _ _ => rfl) (by omega)).keep r3 hsep.symm (Nat.le_refl _)
  obtain ⟨b', hv2, c1, c3, c4⟩ := r1.own_of (by simp [rowF])
  have hv2' : v2 = .own b' (i + 1) := by rw [hv2, List.length_map, zal]
  subst hv2'
  simp -dsimp -implicitDefEqProofs (disch := try exact zdE) only [go_sem, hl, p2, hwa1, hwa2]
  generalize hH3 : Hp.upd H2 10 _ = H3
  have k1 := zaf hH3 p1 (by omega)
  have k2 := za4 hH3
  have kb := zaf hH3 c4 (by omega)
  have g5 : Row 12 H3 (nx + 21) w1 1 ((List.range i).map fun i => ivl (rowF n fun j => r.co.getD i 0 * r.co.getD j 0)) := by
   rw [← hH3]; exact (p5.upd (by omega)).same (fun _ _ => rfl) (by omega)
  have g6 : Row 12 H3 (nx + 21) (.own b' (i + 1)) 2 ((rowF (i + 1) fun i => r.co.getD i 0 * r.z).map IV) := .inr ⟨b', by rw [List.length_map, zal], c1, by omega, kb⟩
  have hsep2 : Sep w1 (.own b' (i + 1)) := g5.not_row2 g6 (by decide)
  clear r1 r2 r3 r4 p1 p2 p5 c4 hH3 i3 i4 i5 i6 hv2 hsep
  have hN : 33 ≤ nx + 21 := by omega
  have hbN : b' < nx + 21 := by omega
  generalize nx + 21 = N at hN hbN g5 g6 ⊢
  refine zap (T := Nat × V × Hp × Nat) (fun t => ⟨E [(1, .pp (RV r)), (2, .ptr 1 1 0 0), (3, .ptr 10 1 0 0), (5, .int .i64 (r.co.getD i 0)), (6, t.2.1), (18, ints r.co), (19, .int .i64 n), (20, .int .i64 i), (36, ints r.co), (37, .int .i64 n), (38, .int .i64 t.1)], t.2.2.1, t.2.2.2, t.2.2.2⟩)
   (fun t => t.1 ≤ n ∧ N ≤ t.2.2.2 ∧ (∀ b, b < N → t.2.2.1 b = H3 b) ∧ Row N t.2.2.1 t.2.2.2 t.2.1 2 ((rowF t.1 fun j => r.co.getD i 0 * r.co.getD j 0).map IV)) (fun t => n - t.1)
   (0, .nil, H3, _) rfl ⟨zdo, zdo, fun _ _ => rfl, Row.nil _ _ _ _⟩ ?_
  rintro ⟨j, u, H4, nx2⟩ ⟨j1, j2, j3, j4⟩
  dsimp only at j1 j2 j3 j4
  by_cases hj : j < n
  ·have hcj := hco j
   have hpr : -1000000 ≤ r.co.getD i 0 * r.co.getD j 0 ∧ r.co.getD i 0 * r.co.getD j 0 ≤ 1000000 := zg4 (A := 1000) (B := 1000) hci hcj
   have hp64 : In64 (r.co.getD i 0 * r.co.getD j 0) := by unfold In64; omega
   have hw : IntKind.i64.wrap (r.co.getD i 0 * r.co.getD j 0) = r.co.getD i 0 * r.co.getD j 0 := IntWalk.i64_in _ hp64
   simp -dsimp -implicitDefEqProofs (disch := try exact zdE) only [go_sem, hw]
   first | refine zaa (zcm _ hp64) (by simp) ?_ | refine zab (zcm _ hp64) (by simp) ?_
   refine sgo ?_
   refine zaq (lo := N) (nx := nx2) (H0 := H4) (xs := (rowF j fun j => r.co.getD i 0 * r.co.getD j 0).map IV) j4 (by omega) rfl (by omega) (by omega) (by simp [rowOk, V.cells, V.cellOk, IV, V.isJunk]) (by decide) (by simp [rowF]; omega) (by simp [rowF]; omega) fun v2 H6 r1 _ _ r4 => ?_
   rw [zc3, show rowF j (fun j => r.co.getD i 0 * r.co.getD j 0) ++ [r.co.getD i 0 * r.co.getD j 0] = rowF (j + 1) (fun j => r.co.getD i 0 * r.co.getD j 0) from zat _ _] at r1
   refine sgo ?_
   exact ⟨(j + 1, v2, H6, _), rfl, ⟨zdo, zdo, fun b hb => (r4 b hb).trans (j3 b hb), r1.same (fun _ _ => rfl) zdo⟩, zdo⟩
  ·have hjn : j = n := by omega
   rw [hjn] at j4
   refine sgo ?_
   refine gh_row2 (lo := N) (ys := (rowF n fun j => r.co.getD i 0 * r.co.getD j 0).map IV) 6 rfl (j4.same (fun _ _ => rfl) (by omega)) (za3 fun x => by simp) (fun p hp hne c hc => ?_) fun H5 hH5 => ?_
   ·simp only [List.mem_cons, List.not_mem_nil, or_false] at hp
    rcases hp with rfl | rfl | rfl | rfl | rfl | rfl | rfl | rfl | rfl | rfl | rfl | rfl <;> first | exact absurd rfl hne | exact sub_ivl _ _ | exact zcf _ (ints_pure _) | (simp [V.sub]; done) | exact zgr (by omega)
   ·have e8 : V.sl ((rowF n fun j => r.co.getD i 0 * r.co.getD j 0).map IV) = ivl (rowF n fun j => r.co.getD i 0 * r.co.getD j 0) := rfl
    have hH5p : ∀ b blk, b < N → H4 b = some blk → (∀ x ∈ blk.elems, V.Pure x) → H5 b = some blk := fun b blk hb h hp => hH5 b blk hb h fun x hx c _ => zcf _ (hp x hx)
    have q1 : H5 1 = some ⟨[.agg [.nil, .nil, .bool false, .sl []]], 4⟩ := hH5p 1 _ (by omega) ((j3 1 (by omega)).trans k1) (by simp)
    have q2 : H5 10 = some ⟨[.agg [w1, .own b' (i + 1), .bool (decide (cc < 0)), .sl (nats .u32 (digs W32 cc.natAbs))]], 4⟩ := hH5 10 _ (by omega) ((j3 10 (by omega)).trans k2) fun x hx c hc => by
     simp only [List.mem_singleton] at hx
     subst hx
     rw [zdy]
     simp only [List.map_cons, List.map_nil, g5.sub_ge hc, g6.sub_ge hc]
     simp [V.sub]
    have q5 : Row 12 H5 nx2 w1 1 ((List.range i).map fun i => ivl (rowF n fun j => r.co.getD i 0 * r.co.getD j 0)) := (g5.same (H' := H4) (nx' := N) j3 (Nat.le_refl _)).told (lo := N) (Nat.le_refl _) j2 (za3 fun x => by simp) hH5p
    have q6 : Row 12 H5 nx2 (.own b' (i + 1)) 2 ((rowF (i + 1) fun i => r.co.getD i 0 * r.z).map IV) := (g6.same (H' := H4) (nx' := N) j3 (Nat.le_refl _)).told (lo := N) (Nat.le_refl _) j2 (za3 fun x => by simp) hH5p
    clear hH5 hH5p g5 g6 j3 j4 k1 k2 kb
    simp -dsimp -implicitDefEqProofs (disch := try exact zdE) only [go_sem, e8, q2, hwa1]
    refine zaq (lo := 12) (nx := nx2 + 4) (H0 := H5) (xs := (List.range i).map fun i => ivl (rowF n fun j => r.co.getD i 0 * r.co.getD j 0)) (q5.same (fun _ _ => rfl) (by omega)) (by omega) rfl (by omega) (by omega) (by simp [rowOk, V.cells, V.cellOk, V.isJunk, ivl]) (by decide) (by simp; omega) (by simp; omega) fun v3 H7 t1 t2 t3 t4 => ?_
    rw [zat (fun i => ivl (rowF n fun j => r.co.getD i 0 * r.co.getD j 0))] at t1
    have u1 := (t4 1 (by omega)).trans q1
    have u2 := (t4 10 (by omega)).trans q2
    have u6 := (q6.same (H' := H5) (nx' := nx2 + 4) (fun _ _ => rfl) (by omega)).keep t3 hsep2 (Nat.le_refl _)
    obtain ⟨b3, hv3, x1, x3, x4⟩ := t1.own_of (by simp)
    rw [List.length_map, List.length_range] at hv3
    subst hv3
    have ub := u6.own_at rfl
    clear t1 t2 t3 t4 q1 q2 q5 q6 u6
    simp -dsimp -implicitDefEqProofs (disch := try exact zdE) only [go_sem, u2, hwa1]
    generalize hH8 : Hp.upd H7 10 _ = H8
    have m1 := zaf hH8 u1 (by omega)
    have m2 := za4 hH8
    have m3 := zaf hH8 x4 (by omega)
    have m4 := zaf hH8 ub (by omega)
    exact ⟨(i + 1, _, _, H8, _), rfl, ⟨zdo, zdo, m1, m2, .inr ⟨b3, by rw [List.length_map, List.length_range], x1, zdo, m3⟩, .inr ⟨b', by rw [List.length_map, zal], c1, zdo, m4⟩⟩, zdo⟩
 ·have hin : i = n := by omega
  subst hin
  simp -dsimp -implicitDefEqProofs (disch := try exact zdE) only [go_sem, i3, i4, hwa1, hwa2, hwc1, hwc2]
  rw [(i5.upd (by omega)).frz (zdf fun x hx => by obtain ⟨q, _, rfl⟩ := List.mem_map.1 hx; rfl), (i6.upd (by omega)).frz (zdb fun x => zax _ _ _)]
  simp only [Option.map_some, Option.bind_some, QV, mat, List.map_map]
  rfl
end Go.Gim
/- What the rows that go, and the prior, tell. -/
set_option maxRecDepth 100000
set_option maxHeartbeats 4000000
namespace Go.Gim
open Go.Proofs
theorem goes_lim {rows : List Row4} {k : Nat} {s f : Row4 → Int} {t B : Nat} (ht : t ≤ rows.length) (h : ∀ r ∈ rows, lim (f r * s r) ≤ B) : lim (goes rows k s f t) ≤ B + t := sumZ_lim fun i hi => by
 split
 ·exact h _ (zau default (by omega))
 ·rw [za6]; omega
theorem Right4.sizes {r : Row4} {n : Nat} (h : Right4 r n) (i j : Nat) : lim (r.co.getD i 0 * r.co.getD j 0) ≤ 2 ∧ lim (r.co.getD i 0 * r.z) ≤ 2 ∧ lim (r.z * r.z) ≤ 2 := by
 have h1 := h.get i
 have h2 := h.get j
 have h3 := h.z
 have a1 := zg4 (A := 1000) (B := 1000) h1 h2
 have a2 := zg4 (A := 1000) (B := 1000000000) h1 h3
 have a3 := zg4 (A := 1000000000) (B := 1000000000) h3 h3
 exact ⟨zbp (by omega), zbp (by omega), zbp (by omega)⟩
def scR (den : Int) (x : List Int) (r : Row4) : Int := den * (r.w * zd3 r x)
theorem share_bd {r : Row4} {x : List Int} (h : Right4 r x.length) : 1 ≤ r.w * zd3 r x ∧ r.w * zd3 r x ≤ 102400 := by
 have h1 := shareR_bd (x := x) h.kn
 have h2 := h.w
 have h3 := zg4 (A := 100) (B := 1024) (a := r.w) (b := zd3 r x) (by omega) (by omega)
 have h4 := Int.mul_le_mul_of_nonneg_left h1.1 (show 0 ≤ r.w by omega)
 omega
theorem scR_lim {den : Int} {x : List Int} {r : Row4} {L : Nat} (h : Right4 r x.length) (hd : lim den ≤ L) : lim (scR den x r) ≤ L + 2 := by
 have h1 := share_bd h
 have h2 := zbp (x := r.w * zd3 r x) (by omega)
 have h3 := zb4 den (r.w * zd3 r x)
 unfold scR; omega
theorem whole_lim {n k t L : Nat} {P : Mx} {q : Nat → Int} {c : Int} {rows : List Row4} {s : Row4 → Int} (ht : t ≤ rows.length) (h60 : rows.length ≤ 60) (hr : ∀ r ∈ rows, Right4 r n) (hs : ∀ r ∈ rows, lim (s r) ≤ L + 2) (hP : ∀ i j, lim (P i j) ≤ L) (hq : ∀ i, lim (q i) ≤ L) (hc : lim c ≤ L) :
  (∀ i j, lim (wholeP P rows k s t i j) ≤ L + 65) ∧ (∀ i, lim (wholeQ q rows k s t i) ≤ L + 65) ∧ lim (wholeC c rows k s t) ≤ L + 65 := by
 have h1024 := zbp (x := 1024) (by decide)
 have key : ∀ (a : Int) (f : Row4 → Int), lim a ≤ L → (∀ r ∈ rows, lim (f r) ≤ 2) → lim (a * 1024 + goes rows k s f t) ≤ L + 65 := fun a f ha hf => by
  have h1 := goes_lim (k := k) (s := s) (f := f) (B := L + 4) ht fun r h => by
   have := zb4 (f r) (s r); have := hf r h; have := hs r h; omega
  have h2 := zb4 a 1024
  have h3 := lim_add (a * 1024) (goes rows k s f t)
  omega
 exact ⟨fun i j => key _ _ (hP i j) fun r h => ((hr r h).sizes i j).1, fun i => key _ _ (hq i) fun r h => ((hr r h).sizes i i).2.1, key _ _ hc fun r h => ((hr r h).sizes 0 0).2.2⟩
structure MOk (g : Gr) (x : List Int) (L : Nat) : Prop where
 n : g.n = x.length
 n11 : g.n ≤ 11
 rows : g.rows.length ≤ 60
 r : ∀ r ∈ g.rows, Right4 r x.length
 x : State x
 P : Sq g.P g.n
 Q : g.Q.length = g.n
 sP : ∀ i j, lim (at2 g.P i j) ≤ L
 sQ : ∀ i, lim (g.Q.getD i 0) ≤ L
 sc : lim g.c ≤ L
 sd : lim g.den ≤ L
def gwP (g : Gr) (x : List Int) (k t : Nat) : Mx := wholeP (at2 g.P) g.rows k (scR g.den x) t
def gwQ (g : Gr) (x : List Int) (k t : Nat) : Nat → Int := wholeQ (fun i => g.Q.getD i 0) g.rows k (scR g.den x) t
def gwC (g : Gr) (x : List Int) (k t : Nat) : Int := wholeC g.c g.rows k (scR g.den x) t
theorem MOk.lims {g : Gr} {x : List Int} {L : Nat} (h : MOk g x L) (k : Nat) {t : Nat} (ht : t ≤ g.rows.length) : (∀ i j, lim (gwP g x k t i j) ≤ L + 65) ∧ (∀ i, lim (gwQ g x k t i) ≤ L + 65) ∧ lim (gwC g x k t) ≤ L + 65 :=
 whole_lim ht h.rows h.r (fun r hr => scR_lim (h.r r hr) h.sd) h.sP h.sQ h.sc
theorem gw_zero (g : Gr) (x : List Int) (k : Nat) : QV (mat g.n (gwP g x k 0)) (rowF g.n (gwQ g x k 0)) (gwC g x k 0) = QV (mat g.n fun i j => at2 g.P i j * 1024) (rowF g.n fun i => g.Q.getD i 0 * 1024) (g.c * 1024) := by
 have e : ∀ f, goes g.rows k (scR g.den x) f 0 = 0 := fun f => rfl
 unfold gwP gwQ gwC wholeP wholeQ wholeC
 simp only [e, Int.add_zero]
theorem gw_stay {g : Gr} {x : List Int} {k t : Nat} (h : zdg (g.rows.getD t default) k = false) : gwP g x k (t + 1) = gwP g x k t ∧ gwQ g x k (t + 1) = gwQ g x k t ∧ gwC g x k (t + 1) = gwC g x k t := by
 have e : ∀ f, goes g.rows k (scR g.den x) f (t + 1) = goes g.rows k (scR g.den x) f t := fun f => by rw [goes_succ, h]; simp
 unfold gwP gwQ gwC wholeP wholeQ wholeC
 simp only [e, and_self]
theorem gw_go {g : Gr} {x : List Int} {k t : Nat} (h : zdg (g.rows.getD t default) k = true) (r : Row4) (hr : g.rows.getD t default = r) :
  (∀ i j, gwP g x k (t + 1) i j = gwP g x k t i j + r.co.getD i 0 * r.co.getD j 0 * scR g.den x r) ∧ (∀ i, gwQ g x k (t + 1) i = gwQ g x k t i + r.co.getD i 0 * r.z * scR g.den x r) ∧ gwC g x k (t + 1) = gwC g x k t + r.z * r.z * scR g.den x r := by
 have e : ∀ f, goes g.rows k (scR g.den x) f (t + 1) = goes g.rows k (scR g.den x) f t + f r * scR g.den x r := fun f => by rw [goes_succ, h, if_pos rfl, hr]
 unfold gwP gwQ gwC wholeP wholeQ wholeC
 simp only [e]
 exact ⟨fun i j => by omega, fun i => by omega, by omega⟩
theorem zhj (x : Int) : V.agg [.bool (decide (x < 0)), .sl (nats .u32 (digs W32 x.natAbs))] = IV x := rfl
theorem mwhole_ret (g : Gr) (x : List Int) (k L : Nat) (hL : L ≤ 900000) (h : MOk g x L) (hk : k ≤ g.n) :
  Ret pg ze3 [GV g, ints x, .int .i64 k] (.tup [QV (mat g.n (gwP g x k g.rows.length)) (rowF g.n (gwQ g x k g.rows.length)) (gwC g x k g.rows.length), IV (g.den * 1024)]) := by
 have hn := h.n
 have h11 := h.n11
 have h60 := h.rows
 have sd := h.sd
 have sc := h.sc
 have l1024 := zbp (x := 1024) (by decide)
 have c1 := mscaled_ret g.P g.Q g.c 1024 g.n (by omega) h.P h.Q (fun i j => by have := h.sP i j; omega) (fun i => by have := h.sQ i; omega) (by omega) (by omega)
 rw [← gw_zero g x k] at c1
 refine marg_Whole.of rfl (W_b ?_)
 unfold marg_Whole.k marg_Whole.res Ot kp kd Oy Om Ol OL Oq Oi Oc On ci
 simp -dsimp -implicitDefEqProofs (disch := try exact zdE) only [go_sem, QV_fold, zhj]
 first | refine zaa (zcm 1024 (by decide)) (by simp) ?_ | refine zab (zcm 1024 (by decide)) (by simp) ?_
 simp -dsimp -implicitDefEqProofs (disch := try exact zdE) only [go_sem, QV_fold, zhj]
 first | refine zaa (c1) (by simp) ?_ | refine zab (c1) (by simp) ?_
 simp -dsimp -implicitDefEqProofs (disch := try exact zdE) only [go_sem, QV_fold, zhj]
 refine zap (T := Nat × Hp × Nat) (fun t => ⟨E [(1, ints x), (2, .int .i64 k), (3, .pp (GV g)), (6, .ptr 1 1 0 0), (7, .ptr 2 1 0 0), (8, .ptr 7 1 0 0), (16, .sl (g.rows.map RV)), (17, .int .i64 g.rows.length), (18, .int .i64 t.1)], t.2.1, t.2.2, t.2.2⟩)
  (fun t => t.1 ≤ g.rows.length ∧ 9 ≤ t.2.2 ∧ t.2.1 1 = some ⟨[.agg [.nil, .nil, .bool false, .sl []]], 4⟩ ∧ t.2.1 2 = some ⟨[.agg [.bool false, .sl []]], 2⟩ ∧ t.2.1 7 = some ⟨[QV (mat g.n (gwP g x k t.1)) (rowF g.n (gwQ g x k t.1)) (gwC g x k t.1)], 4⟩) (fun t => g.rows.length - t.1)
  (0, _, _) rfl ⟨zdo, zdo, rfl, rfl, rfl⟩ ?_
 rintro ⟨i, H, nx⟩ ⟨i1, i2, i3, i4, i5⟩
 dsimp only at i1 i2 i3 i4 i5
 by_cases hi : i < g.rows.length
 ·have hm := zau default hi
  have hr := h.r _ hm
  have hrl := hr.len
  have ctouch := mtouches_ret _ k (by omega) (by omega : (g.rows.getD i default).co.length ≤ 9223372036854775807)
  obtain ⟨r, er⟩ : ∃ r, r = g.rows.getD i default := ⟨_, rfl⟩
  rw [← er] at hr hrl ctouch hm
  simp -dsimp -implicitDefEqProofs (disch := try exact zdE) only [go_sem, ← er]
  first | refine zaa (ctouch) (by simp) ?_ | refine zab (ctouch) (by simp) ?_
  obtain ⟨H1, eH1⟩ : ∃ H1 : Hp, H1 = H.upd (nx + 3) (some ⟨[RV r], 4⟩) := ⟨_, rfl⟩
  have q1 := (show H1 1 = H 1 by rw [eH1, Hp.upd_ne _ _ (by omega)]).trans i3
  have q2 := (show H1 2 = H 2 by rw [eH1, Hp.upd_ne _ _ (by omega)]).trans i4
  have q7 := (show H1 7 = H 7 by rw [eH1, Hp.upd_ne _ _ (by omega)]).trans i5
  have q10 : H1 (nx + 3) = some ⟨[RV r], 4⟩ := by rw [eH1, Hp.upd_same]
  rw [← eH1]
  clear eH1
  cases ht : zdg r k
  ·have hst := gw_stay (g := g) (x := x) (k := k) (t := i) (by rw [← er]; exact ht)
   refine sgo ?_
   exact ⟨(i + 1, H1, _), rfl, ⟨zdo, zdo, q1, q2, by dsimp only; rw [hst.1, hst.2.1, hst.2.2]; exact q7⟩, zdo⟩
  ·obtain ⟨g1, g2, g3⟩ := gw_go (g := g) (x := x) (k := k) (t := i) (by rw [← er]; exact ht) r er.symm
   obtain ⟨m1, m2, m3⟩ := h.lims k (t := i) (by omega)
   have hsh := share_bd hr
   have hsc := scR_lim (den := g.den) hr sd
   have hsz := fun i j => hr.sizes i j
   have csq := msquare_ret r g.n (by rw [hn]; exact hr)
   have csh := share_ret g r x hr h.x
   have hw : IntKind.i64.wrap (r.w * zd3 r x) = r.w * zd3 r x := IntWalk.i64_in _ (by omega)
   have l2 := zbp (x := r.w * zd3 r x) (by omega)
   have csc := mscaled_ret (mat g.n fun i j => r.co.getD i 0 * r.co.getD j 0) (rowF g.n fun i => r.co.getD i 0 * r.z) (r.z * r.z) (scR g.den x r) g.n (by omega) (zef _ _) (zal _ _) (fun a b => by have := zej (n := g.n) (f := fun i j => r.co.getD i 0 * r.co.getD j 0) (A := 2) (fun i j => (hsz i j).1) a b; omega) (fun a => by have := zfy (n := g.n) (f := fun i => r.co.getD i 0 * r.z) (L := 2) (fun i => (hsz i i).2.1) a; unfold rowF; omega) (by have := (hsz 0 0).2.2; omega) (by omega)
   have e1 : (mat g.n fun i j => at2 (mat g.n fun i j => r.co.getD i 0 * r.co.getD j 0) i j * scR g.den x r) = mat g.n fun i j => r.co.getD i 0 * r.co.getD j 0 * scR g.den x r := zfn fun i j hi hj => by rw [zco hi hj]
   have e2 : (rowF g.n fun i => (rowF g.n fun i => r.co.getD i 0 * r.z).getD i 0 * scR g.den x r) = rowF g.n fun i => r.co.getD i 0 * r.z * scR g.den x r := zbm fun i hi => by rw [zbh hi]
   rw [e1, e2] at csc
   have b1 : ∀ i j, lim (r.co.getD i 0 * r.co.getD j 0 * scR g.den x r) ≤ L + 4 := fun i j => by have := zb4 (r.co.getD i 0 * r.co.getD j 0) (scR g.den x r); have := (hsz i j).1; omega
   have b2 : ∀ i, lim (r.co.getD i 0 * r.z * scR g.den x r) ≤ L + 4 := fun i => by have := zb4 (r.co.getD i 0 * r.z) (scR g.den x r); have := (hsz i i).2.1; omega
   have b3 : lim (r.z * r.z * scR g.den x r) ≤ L + 4 := by have := zb4 (r.z * r.z) (scR g.den x r); have := (hsz 0 0).2.2; omega
   have cad := qadd_ret (mat g.n (gwP g x k i)) (mat g.n fun i j => r.co.getD i 0 * r.co.getD j 0 * scR g.den x r) (rowF g.n (gwQ g x k i)) (rowF g.n fun i => r.co.getD i 0 * r.z * scR g.den x r) (gwC g x k i) (r.z * r.z * scR g.den x r) g.n (by omega) (zef _ _) (zef _ _) (zal _ _) (zal _ _)
    (fun a b => by have := zej (n := g.n) m1 a b; omega) (fun a b => by have := zej (n := g.n) b1 a b; omega) (fun a => by have := zfy (n := g.n) m2 a; unfold rowF; omega) (fun a => by have := zfy (n := g.n) b2 a; unfold rowF; omega) (by omega) (by omega)
   have e3 : (mat g.n fun a b => at2 (mat g.n (gwP g x k i)) a b + at2 (mat g.n fun i j => r.co.getD i 0 * r.co.getD j 0 * scR g.den x r) a b) = mat g.n (gwP g x k (i + 1)) := zfn fun a b ha hb => by rw [zco ha hb, zco ha hb, g1]
   have e4 : (rowF g.n fun a => (rowF g.n (gwQ g x k i)).getD a 0 + (rowF g.n fun i => r.co.getD i 0 * r.z * scR g.den x r).getD a 0) = rowF g.n (gwQ g x k (i + 1)) := zbm fun a ha => by rw [zbh ha, zbh ha, g2]
   rw [e3, e4, ← g3] at cad
   simp -dsimp -implicitDefEqProofs (disch := try exact zdE) only [go_sem, q7, q10]
   first | refine zaa (csq) (by simp) ?_ | refine zab (csq) (by simp) ?_
   simp -dsimp -implicitDefEqProofs (disch := try exact zdE) only [go_sem, q7, q10, zhj]
   first | refine zaa (csh) (by simp) ?_ | refine zab (csh) (by simp) ?_
   simp -dsimp -implicitDefEqProofs (disch := try exact zdE) only [go_sem, q7, q10, hw, zhj]
   first | refine zaa (zcm _ (by omega)) (by simp) ?_ | refine zab (zcm _ (by omega)) (by simp) ?_
   simp -dsimp -implicitDefEqProofs (disch := try exact zdE) only [go_sem, zhj]
   first | refine zaa (zce g.den _ (by omega) (by omega)) (by simp) ?_ | refine zab (zce g.den _ (by omega) (by omega)) (by simp) ?_
   refine sgo ?_
   first | refine zaa (csc) (by simp) ?_ | refine zab (csc) (by simp) ?_
   refine sgo ?_
   first | refine zaa (cad) (by simp) ?_ | refine zab (cad) (by simp) ?_
   simp -dsimp -implicitDefEqProofs (disch := try exact zdE) only [go_sem, q7]
   generalize hH2 : Hp.upd H1 7 _ = H2
   exact ⟨(i + 1, H2, _), rfl, ⟨zdo, zdo, zaf hH2 q1 (by omega), zaf hH2 q2 (by omega), za4 hH2⟩, zdo⟩
 ·have hie : i = g.rows.length := by omega
  subst hie
  simp -dsimp -implicitDefEqProofs (disch := try exact zdE) only [go_sem, i3, i4, i5, QV_fold, zhj]
  first | refine zaa (zcm 1024 (by decide)) (by simp) ?_ | refine zab (zcm 1024 (by decide)) (by simp) ?_
  refine sgo ?_
  first | refine zaa (zce g.den 1024 (by omega) (by omega)) (by simp) ?_ | refine zab (zce g.den 1024 (by omega) (by omega)) (by simp) ?_
  simp -dsimp -implicitDefEqProofs (disch := try exact zdE) only [go_sem, i3, i4, i5, QV_fold, zhj]
end Go.Gim
/- What is left out of a graph: a function over a number, rounded. -/
set_option maxRecDepth 100000
set_option maxHeartbeats 4000000
namespace Go.Gim
open Go.Proofs
theorem mdown_ret (x ov : Int) (h0 : ov ≠ 0) (hx : lim x ≤ 1000000) (ho : lim ov ≤ 1000000) : Ret pg zc4 [IV x, .pp (IV ov)] (IV (downF x ov)) := by
 have l1 := zbp (x := 1024) (by decide)
 have l2 := zb4 x 1024
 refine marg_rounded_1.of rfl (W_b ?_)
 unfold marg_rounded_1.k marg_rounded_1.res Ot kp kd Oy Om OL ci downF
 refine sgo ?_
 first | refine zaa (zcm 1024 (by decide)) (by simp) ?_ | refine zab (zcm 1024 (by decide)) (by simp) ?_
 refine sgo ?_
 first | refine zaa (zce x 1024 (by omega) (by omega)) (by simp) ?_ | refine zab (zce x 1024 (by omega) (by omega)) (by simp) ?_
 refine sgo ?_
 first | refine zaa (quo_ret (x * 1024) ov h0 (by omega) (by omega)) (by simp) ?_ | refine zab (quo_ret (x * 1024) ov h0 (by omega) (by omega)) (by simp) ?_
 exact sgo trivial
theorem zhz {x ov : Int} {L : Nat} (h : lim x ≤ L) : lim (downF x ov) ≤ L + 2 := by
 have l1 := zbp (x := 1024) (by decide)
 have l2 := zb4 x 1024
 have l3 := lim_fdiv (x * 1024) ov
 unfold downF; omega
theorem rndP_lim {n : Nat} {f : Mx} {ov : Int} {i j L : Nat} (hn : n ≤ 12) (h : lim (f i j) ≤ L) : lim (rndP n f ov i j) ≤ L + 4 := by
 have l1 := zhz (ov := ov) h
 have l2 := lim_sub (downF (f i j) ov) (if i = j then (n : Int) else 0)
 have l3 : lim (if i = j then (n : Int) else 0) ≤ 2 := zbp (by split <;> omega)
 unfold rndP; omega
def rndV (n : Nat) (f : Mx) (q : Nat → Int) (c ov : Int) : V := if defS n (rndP n f ov) = true then QV (mat n (rndP n f ov)) (rowF n fun i => downF (q i) ov) (downF c ov) else QV (mat n fun _ _ => 0) (rowF n fun _ => 0) 0
theorem mrounded_ret (P : List (List Int)) (Q : List Int) (c ov : Int) (n L : Nat) (hn0 : 0 < n) (hn : n ≤ 12) (hL : L ≤ 900000) (hP : Sq P n) (hQ : Q.length = n) (sP : ∀ i j, lim (at2 P i j) ≤ L) (sQ : ∀ i, lim (Q.getD i 0) ≤ L) (sc : lim c ≤ L) (h0 : ov ≠ 0) (so : lim ov ≤ 900000) :
  Ret pg zhm [QV P Q c, IV ov] (rndV n (at2 P) (fun i => Q.getD i 0) c ov) := by
 have hl := hP.1
 have cd : ∀ y, lim y ≤ L → Ret pg zc4 [IV y, .pp (IV ov)] (IV (downF y ov)) := fun y hy => mdown_ret y ov h0 (by omega) (by omega)
 refine marg_rounded.of rfl (W_b ?_)
 unfold marg_rounded.k marg_rounded.res Ot kp kd Oy Om Ol OL Oq Oi Oc On ci
 refine sgo ?_
 refine zgq (cd c sc) (by simp) ?_
 simp -dsimp -implicitDefEqProofs (disch := try exact zdE) only [go_sem, hl]
 generalize hcc : downF c ov = cc
 refine zap (T := Nat × V × V × Hp × Nat) (fun t => ⟨E [(2, .pp (QV P Q c)), (4, .ptr 2 1 0 0), (5, .fn zc4 [.pp (IV ov)]), (6, .ptr 10 1 0 0), (18, .int .i64 n), (19, .int .i64 t.1)], t.2.2.2.1, t.2.2.2.2, t.2.2.2.2⟩)
  (fun t => t.1 ≤ n ∧ 12 ≤ t.2.2.2.2 ∧ t.2.2.2.1 2 = some ⟨[.agg [.nil, .nil, .bool false, .sl []]], 4⟩ ∧ t.2.2.2.1 10 = some ⟨[.agg [t.2.1, t.2.2.1, .bool (decide (cc < 0)), .sl (nats .u32 (digs W32 cc.natAbs))]], 4⟩ ∧ Row 12 t.2.2.2.1 t.2.2.2.2 t.2.1 1 ((List.range t.1).map fun i => ivl (rowF n (rndP n (at2 P) ov i))) ∧ Row 12 t.2.2.2.1 t.2.2.2.2 t.2.2.1 2 ((rowF t.1 fun i => downF (Q.getD i 0) ov).map IV)) (fun t => n - t.1)
  (0, .nil, .nil, _, _) rfl ⟨zdo, zdo, rfl, rfl, Row.nil _ _ _ _, Row.nil _ _ _ _⟩ ?_
 rintro ⟨i, w1, w2, H, nx⟩ ⟨i1, i2, i3, i4, i5, i6⟩
 dsimp only at i1 i2 i3 i4 i5 i6
 obtain ⟨hwa1, hwc1, _, _⟩ := i5.flat
 obtain ⟨hwa2, hwc2, _, _⟩ := i6.flat
 have hsep : Sep w1 w2 := i5.not_row2 i6 (by decide)
 by_cases hi : i < n
 ·have s1 := sQ i
  have hri := hP.row hi
  simp -dsimp -implicitDefEqProofs (disch := try exact zdE) only [go_sem, hl, i4, hwa1, hwa2]
  refine zab (cd _ s1) (by simp) ?_
  refine sgo ?_
  refine zaq (lo := 12) (nx := nx) (H0 := H) (xs := (rowF i fun i => downF (Q.getD i 0) ov).map IV) i6 (by omega) rfl (by omega) (by omega) (by simp [rowOk, V.cells, V.cellOk, IV, V.isJunk]) (by decide) (by simp [rowF]; omega) (by simp [rowF]; omega) fun v2 H2 r1 r2 r3 r4 => ?_
  rw [zc3, show rowF i (fun i => downF (Q.getD i 0) ov) ++ [downF (Q.getD i 0) ov] = rowF (i + 1) (fun i => downF (Q.getD i 0) ov) from zat _ _] at r1
  have p1 := (r4 2 (by omega)).trans i3
  have p2 := (r4 10 (by omega)).trans i4
  have p5 := (i5.same (H' := H) (nx' := nx) (fun _ _ => rfl) (by omega)).keep r3 hsep.symm (Nat.le_refl _)
  obtain ⟨b', hv2, c1, c3, c4⟩ := r1.own_of (by simp [rowF])
  have hv2' : v2 = .own b' (i + 1) := by rw [hv2, List.length_map, zal]
  subst hv2'
  simp -dsimp -implicitDefEqProofs (disch := try exact zdE) only [go_sem, hl, p2, hwa1, hwa2]
  generalize hH3 : Hp.upd H2 10 _ = H3
  have k1 := zaf hH3 p1 (by omega)
  have k2 := za4 hH3
  have kb := zaf hH3 c4 (by omega)
  have g5 : Row 12 H3 (nx + 24) w1 1 ((List.range i).map fun i => ivl (rowF n (rndP n (at2 P) ov i))) := by
   rw [← hH3]; exact (p5.upd (by omega)).same (fun _ _ => rfl) (by omega)
  have g6 : Row 12 H3 (nx + 24) (.own b' (i + 1)) 2 ((rowF (i + 1) fun i => downF (Q.getD i 0) ov).map IV) := .inr ⟨b', by rw [List.length_map, zal], c1, by omega, kb⟩
  have hsep2 : Sep w1 (.own b' (i + 1)) := g5.not_row2 g6 (by decide)
  clear r1 r2 r3 r4 p1 p2 p5 c4 hH3 i3 i4 i5 i6 hv2 hsep
  have hN : 34 ≤ nx + 24 := by omega
  have hbN : b' < nx + 24 := by omega
  generalize nx + 24 = N at hN hbN g5 g6 ⊢
  refine zap (T := Nat × V × Hp × Nat) (fun t => ⟨E [(2, .pp (QV P Q c)), (4, .ptr 2 1 0 0), (5, .fn zc4 [.pp (IV ov)]), (6, .ptr 10 1 0 0), (7, .int .i64 i), (8, t.2.1), (18, .int .i64 n), (19, .int .i64 i), (39, .int .i64 (P.getD i []).length), (40, .int .i64 t.1)], t.2.2.1, t.2.2.2, t.2.2.2⟩)
   (fun t => t.1 ≤ n ∧ N ≤ t.2.2.2 ∧ (∀ b, b < N → t.2.2.1 b = H3 b) ∧ Row N t.2.2.1 t.2.2.2 t.2.1 2 ((rowF t.1 fun j => downF (at2 P i j) ov).map IV)) (fun t => n - t.1)
   (0, .nil, H3, _) rfl ⟨zdo, zdo, fun _ _ => rfl, Row.nil _ _ _ _⟩ ?_
  rintro ⟨j, u, H4, nx2⟩ ⟨j1, j2, j3, j4⟩
  dsimp only at j1 j2 j3 j4
  by_cases hj : j < n
  ·have hg : (P.getD i []).getD j 0 = at2 P i j := rfl
   have s1 := sP i j
   simp -dsimp -implicitDefEqProofs (disch := try exact zdE) only [go_sem, hri, hg]
   refine zgq (cd _ s1) (by simp) ?_
   refine sgo ?_
   refine zaq (lo := N) (nx := nx2) (H0 := H4) (xs := (rowF j fun j => downF (at2 P i j) ov).map IV) j4 (by omega) rfl (by omega) (by omega) (by simp [rowOk, V.cells, V.cellOk, IV, V.isJunk]) (by decide) (by simp [rowF]; omega) (by simp [rowF]; omega) fun v2 H6 r1 _ _ r4 => ?_
   rw [zc3, show rowF j (fun j => downF (at2 P i j) ov) ++ [downF (at2 P i j) ov] = rowF (j + 1) (fun j => downF (at2 P i j) ov) from zat _ _] at r1
   refine sgo ?_
   exact ⟨(j + 1, v2, H6, _), by rw [hri], ⟨zdo, zdo, fun b hb => (r4 b hb).trans (j3 b hb), r1.same (fun _ _ => rfl) zdo⟩, zdo⟩
  ·have hjn : j = n := by omega
   rw [hjn] at j4
   obtain ⟨bu, hu, z1, z2, z3⟩ := j4.own_of (by simp [rowF]; omega)
   rw [List.length_map, zal] at hu
   subst hu
   have l12 := zbp (x := (n : Int)) (by omega)
   have ldi := zhz (ov := ov) (sP i i)
   simp -dsimp -implicitDefEqProofs (disch := try exact zdE) only [go_sem, hri, z3, loadO_ct, idxO_ct, hl]
   first | refine zaa (zcm (n : Int) (by omega)) (by simp) ?_ | refine zab (zcm (n : Int) (by omega)) (by simp) ?_
   refine sgo ?_
   first | refine zaa (zgi (downF (at2 P i i) ov) (n : Int) (by omega) (by omega)) (by simp) ?_ | refine zab (zgi (downF (at2 P i i) ov) (n : Int) (by omega) (by omega)) (by simp) ?_
   simp -dsimp -implicitDefEqProofs (disch := try exact zdE) only [go_sem, hri, z3, loadO_ct, idxO_ct, hl, storeO_c, rowF_set]
   have er : (rowF n fun k => if k = i then downF (at2 P i i) ov - (n : Int) else downF (at2 P i k) ov) = rowF n (rndP n (at2 P) ov i) := zbm fun k hk => by
    unfold rndP
    by_cases e : k = i
    ·subst e; rw [if_pos rfl, if_pos rfl]
    ·rw [if_neg e, if_neg fun h => e h.symm, Int.sub_zero]
   rw [er]
   have j3' : ∀ b, b < N → (Hp.upd H4 bu (some ⟨(rowF n (rndP n (at2 P) ov i)).map IV, 2⟩)) b = H3 b := fun b hb => (Hp.upd_ne _ _ (by omega)).trans (j3 b hb)
   have j4' : Row N (Hp.upd H4 bu (some ⟨(rowF n (rndP n (at2 P) ov i)).map IV, 2⟩)) nx2 (.own bu n) 2 ((rowF n (rndP n (at2 P) ov i)).map IV) := .inr ⟨bu, by rw [List.length_map, zal], z1, by omega, Hp.upd_same _ _ _⟩
   generalize (Hp.upd H4 bu (some ⟨(rowF n (rndP n (at2 P) ov i)).map IV, 2⟩)) = H4' at j3' j4' ⊢
   clear j3 j4 z3
   refine gh_row2 (lo := N) (ys := (rowF n (rndP n (at2 P) ov i)).map IV) 8 rfl (j4'.same (fun _ _ => rfl) (by omega)) (za3 fun x => by simp) (fun p hp hne c hc => ?_) fun H5 hH5 => ?_
   ·simp only [List.mem_cons, List.not_mem_nil, or_false] at hp
    rcases hp with rfl | rfl | rfl | rfl | rfl | rfl | rfl | rfl | rfl | rfl | rfl <;> first | exact absurd rfl hne | exact sub_ivl _ _ | (simp [V.sub]; done) | exact zgr (by omega)
   ·have e8 : V.sl ((rowF n (rndP n (at2 P) ov i)).map IV) = ivl (rowF n (rndP n (at2 P) ov i)) := rfl
    have hH5p : ∀ b blk, b < N → H4' b = some blk → (∀ x ∈ blk.elems, V.Pure x) → H5 b = some blk := fun b blk hb h hp => hH5 b blk hb h fun x hx c _ => zcf _ (hp x hx)
    have q1 : H5 2 = some ⟨[.agg [.nil, .nil, .bool false, .sl []]], 4⟩ := hH5p 2 _ (by omega) ((j3' 2 (by omega)).trans k1) (by simp)
    have q2 : H5 10 = some ⟨[.agg [w1, .own b' (i + 1), .bool (decide (cc < 0)), .sl (nats .u32 (digs W32 cc.natAbs))]], 4⟩ := hH5 10 _ (by omega) ((j3' 10 (by omega)).trans k2) fun x hx c hc => by
     simp only [List.mem_singleton] at hx
     subst hx
     rw [zdy]
     simp only [List.map_cons, List.map_nil, g5.sub_ge hc, g6.sub_ge hc]
     simp [V.sub]
    have q5 : Row 12 H5 nx2 w1 1 ((List.range i).map fun i => ivl (rowF n (rndP n (at2 P) ov i))) := (g5.same (H' := H4') (nx' := N) j3' (Nat.le_refl _)).told (lo := N) (Nat.le_refl _) j2 (za3 fun x => by simp) hH5p
    have q6 : Row 12 H5 nx2 (.own b' (i + 1)) 2 ((rowF (i + 1) fun i => downF (Q.getD i 0) ov).map IV) := (g6.same (H' := H4') (nx' := N) j3' (Nat.le_refl _)).told (lo := N) (Nat.le_refl _) j2 (za3 fun x => by simp) hH5p
    clear hH5 hH5p g5 g6 j3' j4' k1 k2 kb
    simp -dsimp -implicitDefEqProofs (disch := try exact zdE) only [go_sem, e8, q2, hwa1]
    refine zaq (lo := 12) (nx := nx2 + 4) (H0 := H5) (xs := (List.range i).map fun i => ivl (rowF n (rndP n (at2 P) ov i))) (q5.same (fun _ _ => rfl) (by omega)) (by omega) rfl (by omega) (by omega) (by simp [rowOk, V.cells, V.cellOk, V.isJunk, ivl]) (by decide) (by simp; omega) (by simp; omega) fun v3 H7 t1 t2 t3 t4 => ?_
    rw [zat (fun i => ivl (rowF n (rndP n (at2 P) ov i)))] at t1
    have u1 := (t4 2 (by omega)).trans q1
    have u2 := (t4 10 (by omega)).trans q2
    have u6 := (q6.same (H' := H5) (nx' := nx2 + 4) (fun _ _ => rfl) (by omega)).keep t3 hsep2 (Nat.le_refl _)
    obtain ⟨b3, hv3, x1, x3, x4⟩ := t1.own_of (by simp)
    rw [List.length_map, List.length_range] at hv3
    subst hv3
    have ub := u6.own_at rfl
    clear t1 t2 t3 t4 q1 q2 q5 q6 u6
    simp -dsimp -implicitDefEqProofs (disch := try exact zdE) only [go_sem, u2, hwa1]
    generalize hH8 : Hp.upd H7 10 _ = H8
    have m1 := zaf hH8 u1 (by omega)
    have m2 := za4 hH8
    have m3 := zaf hH8 x4 (by omega)
    have m4 := zaf hH8 ub (by omega)
    exact ⟨(i + 1, _, _, H8, _), rfl, ⟨zdo, zdo, m1, m2, .inr ⟨b3, by rw [List.length_map, List.length_range], x1, zdo, m3⟩, .inr ⟨b', by rw [List.length_map, zal], c1, zdo, m4⟩⟩, zdo⟩
 ·have hin : i = n := by omega
  subst hin
  obtain ⟨b1, hv1, x1, x2, x3⟩ := i5.own_of (by simp; omega)
  obtain ⟨b2, hv2, y1, y2, y3⟩ := i6.own_of (by simp [rowF]; omega)
  rw [List.length_map, List.length_range] at hv1
  rw [List.length_map, zal] at hv2
  subst hv1 hv2
  have hb12 : b2 ≠ b1 := fun e => hsep b1 i i rfl (by rw [e])
  have hdef := ldefinite_ret (mat i (rndP i (at2 P) ov)) i (L + 4) (by omega) (by omega) (zef _ _) fun a b => zej (n := i) (fun a b => rndP_lim hn (sP a b)) a b
  rw [zf4 fun a b ha hb => zco ha hb] at hdef
  have hmp : (mat i (rndP i (at2 P) ov)).map ivl = (List.range i).map fun k => ivl (rowF i (rndP i (at2 P) ov k)) := by unfold mat; rw [List.map_map]; rfl
  rw [hmp] at hdef
  simp -dsimp -implicitDefEqProofs (disch := try exact zdE) only [go_sem, i3, i4, hwa1, hwa2, hwc1, hwc2]
  obtain ⟨g, eg⟩ : ∃ g, g = fzl [(b1, (List.range i).map fun k => ivl (rowF i (rndP i (at2 P) ov k))), (b2, (rowF i fun k => downF (Q.getD k 0) ov).map IV)] := ⟨_, rfl⟩
  have g1 : g b1 = some ((List.range i).map fun k => ivl (rowF i (rndP i (at2 P) ov k))) := by rw [eg]; simp [fzl]
  have g2 : g b2 = some ((rowF i fun k => downF (Q.getD k 0) ov).map IV) := by rw [eg]; simp [fzl, hb12]
  have gn : ∀ b, b < 12 → g b = none := fun b hb => by rw [eg]; simp only [fzl]; rw [if_neg (by omega), if_neg (by omega)]
  have gok : Fz H g := by
   rw [eg]
   refine fzl_ok fun p hp => ?_
   simp only [List.mem_cons, List.not_mem_nil, or_false] at hp
   rcases hp with rfl | rfl
   ·exact ⟨⟨_, _, x3, by rw [List.map_map]; exact List.map_congr_left fun k _ => sub_ivl _ _⟩, za3 fun x => by simp⟩
   ·exact ⟨⟨_, _, y3, by rw [List.map_map]; exact List.map_congr_left fun k _ => sub_IV _ _⟩, za3 fun x => by simp⟩
  have s1 : V.sub g (.own b1 i) = .sl ((List.range i).map fun k => ivl (rowF i (rndP i (at2 P) ov k))) := by simp [V.sub, g1]
  have s2 : V.sub g (.own b2 i) = ivl (rowF i fun k => downF (Q.getD k 0) ov) := by simp [V.sub, g2, zal, ivl]
  have p2 : V.sub g (.ptr 2 1 0 0) = .ptr 2 1 0 0 := by simp [V.sub, gn]
  have p10 : V.sub g (.ptr 10 1 0 0) = .ptr 10 1 0 0 := by simp [V.sub, gn]
  refine zfq g gok (by simp only [List.map_cons, List.map_nil, s1]) hdef (by simp) ?_
  obtain ⟨G, eG⟩ : ∃ G, G = Hp.sub g H := ⟨_, rfl⟩
  have q2 : G 2 = some ⟨[.agg [.nil, .nil, .bool false, .sl []]], 4⟩ := by rw [eG]; exact sub_at (gn 2 (by omega)) i3 (by simp [V.sub])
  have q10 : G 10 = some ⟨[QV (mat i (rndP i (at2 P) ov)) (rowF i fun k => downF (Q.getD k 0) ov) cc], 4⟩ := by
   rw [eG]
   refine sub_at (gn 10 (by omega)) i4 ?_
   simp only [List.map_cons, List.map_nil, zdy, s1, s2, QV, hmp]
   simp [V.sub]
  rw [← eG]
  clear eG gok x3 y3 i3 i4 i5 i6
  simp -dsimp -implicitDefEqProofs (disch := try exact zdE) only [go_sem, p2, p10]
  unfold rndV
  have ed : (fun a b => rndP i (at2 P) ov a b) = rndP i (at2 P) ov := rfl
  rw [ed] at *
  cases hdf : defS i (rndP i (at2 P) ov)
  ·have cs := mscaled_ret (mat i (rndP i (at2 P) ov)) (rowF i fun k => downF (Q.getD k 0) ov) cc 0 i (by omega) (zef _ _) (zal _ _) (fun a b => by have := zej (n := i) (f := rndP i (at2 P) ov) (A := L + 4) (fun a b => rndP_lim (ov := ov) hn (sP a b)) a b; omega) (fun a => by have := zfy (n := i) (f := fun k => downF (Q.getD k 0) ov) (L := L + 2) (fun k => zhz (sQ k)) a; unfold rowF; omega) (by have := zhz (ov := ov) sc; rw [← hcc]; omega) (by rw [za6]; omega)
   have e1 : (mat i fun a b => at2 (mat i (rndP i (at2 P) ov)) a b * 0) = mat i fun _ _ => 0 := zfn fun a b _ _ => Int.mul_zero _
   have e2 : (rowF i fun a => (rowF i fun k => downF (Q.getD k 0) ov).getD a 0 * 0) = rowF i fun _ => 0 := zbm fun a _ => Int.mul_zero _
   rw [e1, e2, Int.mul_zero] at cs
   rw [if_neg (by simp)]
   simp -dsimp -implicitDefEqProofs (disch := try exact zdE) only [go_sem, q2, q10, ← ze1]
   first | refine zaa (cs) (by simp) ?_ | refine zab (cs) (by simp) ?_
   simp -dsimp -implicitDefEqProofs (disch := try exact zdE) only [go_sem, q2, q10]
  ·rw [if_pos rfl]
   simp -dsimp -implicitDefEqProofs (disch := try exact zdE) only [go_sem, q2, q10]
   rw [hcc]
end Go.Gim
/- A graph without its first numbers. -/
set_option maxRecDepth 100000
set_option maxHeartbeats 4000000
namespace Go.Gim
open Go.Proofs
theorem isnilB_sl {dr : Bool} {nx : Nat} {H : Hp} {neg : Bool} {e : V} {l : List V} {Kn : V → Prop} {u : Dep Kn} (h : Kn (.bool neg)) : isnilB dr nx H 0 neg (.sl (e :: l)) Kn u := h
theorem cloneI_ret (l : List Int) (hne : l ≠ []) (hl : l.length ≤ 1000000) : Ret pg zcs [ints l] (ints l) := by
 obtain ⟨a, l', rfl⟩ : ∃ a l', l = a :: l' := by cases l with | nil => exact absurd rfl hne | cons a l => exact ⟨a, l, rfl⟩
 have e : ints (a :: l') = .sl (V.int .i64 a :: l'.map (V.int .i64)) := rfl
 rw [e]
 refine slices_Clone_Lint64_int64.of rfl (W_b ?_)
 unfold slices_Clone_Lint64_int64.k slices_Clone_Lint64_int64.res Ot kp Om
 refine sgo ?_
 refine isnilB_sl ?_
 refine sgo ?_
 refine effB_copy (c := 3) (H0 := fun _ => none) rfl (by simp [rowOk, V.cells, V.cellOk, V.isJunk]) (by decide) (by simp at hl ⊢; omega) (by simp at hl ⊢; omega) ?_
 refine sgo ?_
 rw [zdf fun x hx => by
  obtain ⟨y, _, rfl⟩ := List.mem_map.1 hx; rfl]
 rfl
def cutR (k : Nat) (r : Row4) : Row4 := { r with co := r.co.drop k }
def zc0 (rows : List Row4) (k : Nat) : List Row4 := (rows.filter fun r => !zdg r k).map (cutR k)
abbrev gW (g : Gr) (x : List Int) (k : Nat) : Mx := gwP g x k g.rows.length
def ovM (g : Gr) (x : List Int) (k : Nat) : Int := g.den * 1024 * det k (gW g x k)
def kpR (g : Gr) (x : List Int) (k : Nat) : Mx := rndP (g.n - k) (gP k (gW g x k)) (ovM g x k)
def kpD (g : Gr) (x : List Int) (k : Nat) : Bool := defS (g.n - k) (kpR g x k)
def kpP (g : Gr) (x : List Int) (k : Nat) : Mx := fun i j => if kpD g x k = true then kpR g x k i j else 0
def kpQ (g : Gr) (x : List Int) (k : Nat) (i : Nat) : Int := if kpD g x k = true then downF (gQ k (gW g x k) (gwQ g x k g.rows.length) i) (ovM g x k) else 0
def kpC (g : Gr) (x : List Int) (k : Nat) : Int := if kpD g x k = true then downF (gC k (gW g x k) (gwQ g x k g.rows.length) (gwC g x k g.rows.length)) (ovM g x k) else 0
def outG (g : Gr) (x : List Int) (k : Nat) : Gr := ⟨g.n - k, zc0 g.rows k, mat (g.n - k) (kpP g x k), rowF (g.n - k) (kpQ g x k), kpC g x k, 1024⟩
theorem rndV_out (g : Gr) (x : List Int) (k : Nat) : rndV (g.n - k) (at2 (mat (g.n - k) (gP k (gW g x k)))) (fun i => (rowF (g.n - k) (gQ k (gW g x k) (gwQ g x k g.rows.length))).getD i 0) (gC k (gW g x k) (gwQ g x k g.rows.length) (gwC g x k g.rows.length)) (ovM g x k) = QV (mat (g.n - k) (kpP g x k)) (rowF (g.n - k) (kpQ g x k)) (kpC g x k) := by
 have e1 : ∀ i j, i < g.n - k → j < g.n - k → rndP (g.n - k) (at2 (mat (g.n - k) (gP k (gW g x k)))) (ovM g x k) i j = kpR g x k i j := fun i j hi hj => by
  unfold kpR rndP; rw [zco hi hj]
 unfold rndV
 rw [zf4 e1]
 have e2 : defS (g.n - k) (kpR g x k) = kpD g x k := rfl
 rw [e2]
 unfold kpP kpQ kpC
 cases kpD g x k
 ·rfl
 ·simp only [if_true]
  rw [zfn e1, zbm (f := fun i => downF ((rowF (g.n - k) (gQ k (gW g x k) (gwQ g x k g.rows.length))).getD i 0) (ovM g x k)) fun i hi => by rw [zbh hi]]
theorem gP_congr {n k i j : Nat} {P P' : Mx} (hk : k ≤ n) (hi : k + i < n) (hj : k + j < n) (h : ∀ i j, i < n → j < n → P i j = P' i j) : gP k P i j = gP k P' i j := by
 unfold gP
 rw [h _ _ hi hj, zay fun a b ha hb => h a b (by omega) (by omega)]
 congr 1
 exact zad fun c hc => by rw [h _ c hj (by omega), ze2 (fun a b ha hb => h a b (by omega) (by omega)) (fun b hb => h _ b hi (by omega))]
theorem gQ_congr {n k i : Nat} {P P' : Mx} {q q' : Nat → Int} (hk : k ≤ n) (hi : k + i < n) (h : ∀ i j, i < n → j < n → P i j = P' i j) (hq : ∀ i, i < n → q i = q' i) : gQ k P q i = gQ k P' q' i := by
 unfold gQ
 rw [hq _ hi, zay fun a b ha hb => h a b (by omega) (by omega)]
 congr 1
 exact zad fun c hc => by rw [h _ c hi (by omega), ze2 (fun a b ha hb => h a b (by omega) (by omega)) (fun b hb => hq b (by omega))]
theorem gC_congr {n k : Nat} {P P' : Mx} {q q' : Nat → Int} {c : Int} (hk : k ≤ n) (h : ∀ i j, i < n → j < n → P i j = P' i j) (hq : ∀ i, i < n → q i = q' i) : gC k P q c = gC k P' q' c := by
 unfold gC
 rw [zay fun a b ha hb => h a b (by omega) (by omega)]
 congr 1
 exact zad fun c hc => by rw [hq c (by omega), ze2 (fun a b ha hb => h a b (by omega) (by omega)) (fun b hb => hq b (by omega))]
theorem mout_bad1 (g : Gr) (x : List Int) (k : Int) (hl : x.length ≤ 9223372036854775807) (h : x.length ≠ g.n ∨ zft x = false) : Ret pg zeh [GV g, ints x, .int .i64 k] (.tup [GV Gr0, .int .i64 170]) := by
 refine marg_Out.of rfl (W_b ?_)
 unfold marg_Out.k marg_Out.res Ot kp kd Og Oy Om Ol OL Oq Oi Oc On ci
 rw [Gr0_eq]
 by_cases hx : (x.length : Int) = g.n
 ·have hs : zft x = false := by rcases h with h | h; omega; exact h
  have c := cstate_ret x hl
  rw [hs] at c
  simp -dsimp -implicitDefEqProofs (disch := try exact zdE) only [go_sem, hx]
  first | refine zaa (c) (by simp) ?_ | refine zab (c) (by simp) ?_
  exact sgo trivial
 ·simp -dsimp -implicitDefEqProofs (disch := try exact zdE) only [go_sem, hx]
theorem mout_bad2 (g : Gr) (x : List Int) (k : Int) (hl : x.length ≤ 9223372036854775807) (hx : x.length = g.n) (hs : zft x = true) (h : k < 0 ∨ g.n ≤ k) : Ret pg zeh [GV g, ints x, .int .i64 k] (.tup [GV Gr0, .int .i64 1]) := by
 refine marg_Out.of rfl (W_b ?_)
 unfold marg_Out.k marg_Out.res Ot kp kd Og Oy Om Ol OL Oq Oi Oc On ci
 rw [Gr0_eq]
 have c := cstate_ret x hl
 rw [hs] at c
 have hx' : (x.length : Int) = g.n := by omega
 by_cases h0 : k < 0
 ·simp -dsimp -implicitDefEqProofs (disch := try exact zdE) only [go_sem, hx']
  first | refine zaa (c) (by simp) ?_ | refine zab (c) (by simp) ?_
  exact sgo trivial
 ·have h1 : (g.n : Int) ≤ k := by omega
  simp -dsimp -implicitDefEqProofs (disch := try exact zdE) only [go_sem, hx']
  first | refine zaa (c) (by simp) ?_ | refine zab (c) (by simp) ?_
  exact sgo trivial
theorem mout_ret (g : Gr) (x : List Int) (k L D : Nat) (h : MOk g x L) (hk : k < g.n) (hD : 2 ^ k * (L + 66) ≤ D) (hD2 : L + 65 + D + k + 1 ≤ 890000) (hd0 : 0 < g.den) :
  Ret pg zeh [GV g, ints x, .int .i64 k] (if defS k (gW g x k) = true then .tup [GV (outG g x k), .int .i64 0] else .tup [GV Gr0, .int .i64 80]) := by
 have hx := h.n
 have h11 := h.n11
 have h60 := h.rows
 have hs := stateB_iff.2 h.x
 have c := cstate_ret x (by omega)
 rw [hs] at c
 have hx' : (x.length : Int) = g.n := by omega
 obtain ⟨m1, m2, m3⟩ := h.lims k (t := g.rows.length) (Nat.le_refl _)
 have cw := mwhole_ret g x k L (by omega) h (by omega)
 have hB : 2 ^ k * (L + 65 + 1) ≤ D := hD
 have co := qwithout_ret (mat g.n (gW g x k)) (rowF g.n (gwQ g x k g.rows.length)) (gwC g x k g.rows.length) g.n k (L + 65) (by omega) (by omega) (by omega) (by omega) (zef _ _) (zal _ _) (fun a b => zej m1 a b) (fun a => zfy m2 a) m3
 refine marg_Out.of rfl (W_b ?_)
 unfold marg_Out.k marg_Out.res Ot kp kd Og Oy Om Ol OL Oq Oi Oc On ci
 simp -dsimp -implicitDefEqProofs (disch := try exact zdE) only [go_sem, hx']
 first | refine zaa (c) (by simp) ?_ | refine zab (c) (by simp) ?_
 refine sgo ?_
 first | refine zaa (cw) (by simp) ?_ | refine zab (cw) (by simp) ?_
 refine sgo ?_
 unfold qoutV at co
 have ed : defS k (at2 (mat g.n (gW g x k))) = defS k (gW g x k) := zf4 fun i j hi hj => zco (by omega) (by omega)
 rw [ed] at co
 cases hdf : defS k (gW g x k)
 ·rw [hdf, if_neg (by simp)] at co
  rw [if_neg (by simp), Gr0_eq]
  first | refine zaa (co) (by simp) ?_ | refine zab (co) (by simp) ?_
  exact sgo trivial
  done
 ·rw [hdf, if_pos rfl] at co
  rw [if_pos rfl]
  have e1 : mat (g.n - k) (gP k (at2 (mat g.n (gW g x k)))) = mat (g.n - k) (gP k (gW g x k)) := zfn fun i j hi hj => gP_congr (by omega) (by omega) (by omega) fun i j hi hj => zco hi hj
  have e2 : rowF (g.n - k) (gQ k (at2 (mat g.n (gW g x k))) fun i => (rowF g.n (gwQ g x k g.rows.length)).getD i 0) = rowF (g.n - k) (gQ k (gW g x k) (gwQ g x k g.rows.length)) := zbm fun i hi => gQ_congr (n := g.n) (by omega) (by omega) (fun i j hi hj => zco hi hj) fun i hi => zbh hi
  have e3 : gC k (at2 (mat g.n (gW g x k))) (fun i => (rowF g.n (gwQ g x k g.rows.length)).getD i 0) (gwC g x k g.rows.length) = gC k (gW g x k) (gwQ g x k g.rows.length) (gwC g x k g.rows.length) := gC_congr (n := g.n) (by omega) (fun i j hi hj => zco hi hj) fun i hi => zbh hi
  have e4 : det k (at2 (mat g.n (gW g x k))) = det k (gW g x k) := zay fun i j hi hj => zco (by omega) (by omega)
  rw [e1, e2, e3, e4] at co
  obtain ⟨s1, s2, s3⟩ := g_lim (k := k) (D := D) hB m1 m2 m3
  have sdt : lim (det k (gW g x k)) ≤ D := Nat.le_trans (det_pw (n := k) m1) hB
  have sd := h.sd
  have l1024 := zbp (x := 1024) (by decide)
  have sdm := zb4 g.den 1024
  have sov := zb4 (g.den * 1024) (det k (gW g x k))
  have hdt := defS_det hdf
  have hov : g.den * 1024 * det k (gW g x k) ≠ 0 := Int.mul_ne_zero (by omega) (by omega)
  have cr := mrounded_ret (mat (g.n - k) (gP k (gW g x k))) (rowF (g.n - k) (gQ k (gW g x k) (gwQ g x k g.rows.length))) (gC k (gW g x k) (gwQ g x k g.rows.length) (gwC g x k g.rows.length)) (g.den * 1024 * det k (gW g x k)) (g.n - k) (L + 65 + D + k + 1) (by omega) (by omega) (by omega) (zef _ _) (zal _ _) (fun a b => zej s1 a b) (fun a => zfy s2 a) s3 hov (by omega)
  rw [show g.den * 1024 * det k (gW g x k) = ovM g x k from rfl, rndV_out] at cr
  first | refine zaa (co) (by simp) ?_ | refine zab (co) (by simp) ?_
  refine sgo ?_
  first | refine zaa (zce (g.den * 1024) (det k (gW g x k)) (by omega) (by omega)) (by simp) ?_ | refine zab (zce (g.den * 1024) (det k (gW g x k)) (by omega) (by omega)) (by simp) ?_
  refine sgo ?_
  first | refine zaa (cr) (by simp) ?_ | refine zab (cr) (by simp) ?_
  refine sgo ?_
  first | refine zaa (zcm 1024 (by decide)) (by simp) ?_ | refine zab (zcm 1024 (by decide)) (by simp) ?_
  refine sgo ?_
  refine zap (T := Nat × V × Hp × Nat) (fun t => ⟨E [(2, .int .i64 k), (6, .ptr 1 1 0 0), (13, .ptr 59 1 0 0), (68, .sl (g.rows.map RV)), (69, .int .i64 g.rows.length), (70, .int .i64 t.1)], t.2.2.1, t.2.2.2, t.2.2.2⟩)
   (fun t => t.1 ≤ g.rows.length ∧ 65 ≤ t.2.2.2 ∧ t.2.2.1 1 = some ⟨[.agg [.int .i64 0, .nil, .nil, .nil, .bool false, .sl [], .bool false, .sl []]], 8⟩ ∧ t.2.2.1 59 = some ⟨[.agg [.int .i64 ((g.n - k : Nat) : Int), t.2.1, .sl ((mat (g.n - k) (kpP g x k)).map ivl), ivl (rowF (g.n - k) (kpQ g x k)), .bool (decide (kpC g x k < 0)), .sl (nats .u32 (digs W32 (kpC g x k).natAbs)), .bool false, .sl (nats .u32 (digs W32 (Int.natAbs 1024)))]], 8⟩ ∧ Row 65 t.2.2.1 t.2.2.2 t.2.1 4 ((zc0 (g.rows.take t.1) k).map RV)) (fun t => g.rows.length - t.1)
   (0, .nil, _, _) rfl ⟨zdo, zdo, rfl, rfl, Row.nil _ _ _ _⟩ ?_
  clear cr co cw c e1 e2 e3 e4 s1 s2 s3 m1 m2 m3
  rintro ⟨i, w, H, nx⟩ ⟨i1, i2, i3, i4, i5⟩
  dsimp only at i1 i2 i3 i4 i5
  obtain ⟨hwa, hwc, _, _⟩ := i5.flat
  by_cases hi : i < g.rows.length
  ·have hm := zau default hi
   have hr := h.r _ hm
   have hrl := hr.len
   have ht := zci default hi
   have ctouch := mtouches_ret _ k (by omega) (by omega : (g.rows.getD i default).co.length ≤ 9223372036854775807)
   obtain ⟨r, er⟩ : ∃ r, r = g.rows.getD i default := ⟨_, rfl⟩
   rw [← er] at hr hrl ctouch hm ht
   have hst : zc0 (g.rows.take (i + 1)) k = zc0 (g.rows.take i) k ++ if zdg r k = true then [] else [cutR k r] := by
    rw [ht]; unfold zc0
    rw [List.filter_append, List.map_append]
    cases hb : zdg r k <;> simp [hb]
   simp -dsimp -implicitDefEqProofs (disch := try exact zdE) only [go_sem, ← er]
   first | refine zaa (ctouch) (by simp) ?_ | refine zab (ctouch) (by simp) ?_
   obtain ⟨H1, eH1⟩ : ∃ H1 : Hp, H1 = H.upd (nx + 3) (some ⟨[RV r], 4⟩) := ⟨_, rfl⟩
   have q1 := (show H1 1 = H 1 by rw [eH1, Hp.upd_ne _ _ (by omega)]).trans i3
   have q59 := (show H1 59 = H 59 by rw [eH1, Hp.upd_ne _ _ (by omega)]).trans i4
   have q10 : H1 (nx + 3) = some ⟨[RV r], 4⟩ := by rw [eH1, Hp.upd_same]
   have q5 : Row 65 H1 (nx + 3) w 4 ((zc0 (g.rows.take i) k).map RV) := i5.same (fun b hb => by rw [eH1, Hp.upd_ne _ _ (by omega)]) (by omega)
   rw [← eH1]
   clear eH1
   cases htc : zdg r k
   ·rw [htc, if_neg (by simp)] at hst
    have hst' : (zc0 (g.rows.take (i + 1)) k).map RV = (zc0 (g.rows.take i) k).map RV ++ [RV (cutR k r)] := by rw [hst, List.map_append]; rfl
    have hcl := cloneI_ret (r.co.drop k) (fun e => by have := congrArg List.length e; rw [List.length_drop] at this; simp only [List.length_nil] at this; omega) (by rw [List.length_drop]; omega)
    simp -dsimp -implicitDefEqProofs (disch := try exact zdE) only [go_sem, q10, slc_intsF (l := r.co) (k := k) (ki := .i64) (by omega)]
    first | refine zaa (hcl) (by simp) ?_ | refine zab (hcl) (by simp) ?_
    simp -dsimp -implicitDefEqProofs (disch := try exact zdE) only [go_sem, q10]
    have ecut : V.agg [ints (List.drop k r.co), .int .i64 r.z, .int .i64 r.kn, .int .i64 r.w] = RV (cutR k r) := rfl
    rw [ecut]
    refine W_gh0 ?_
    obtain ⟨H2, eH2⟩ : ∃ H2 : Hp, H2 = H1.upd (nx + 3) (some ⟨[RV (cutR k r)], 4⟩) := ⟨_, rfl⟩
    have u1 := (show H2 1 = H1 1 by rw [eH2, Hp.upd_ne _ _ (by omega)]).trans q1
    have u59 := (show H2 59 = H1 59 by rw [eH2, Hp.upd_ne _ _ (by omega)]).trans q59
    have u10 : H2 (nx + 3) = some ⟨[RV (cutR k r)], 4⟩ := by rw [eH2, Hp.upd_same]
    have u5 : Row 65 H2 (nx + 3) w 4 ((zc0 (g.rows.take i) k).map RV) := q5.same (fun b hb => by rw [eH2, Hp.upd_ne _ _ (by omega)]) (by omega)
    rw [← eH2]
    clear eH2 q1 q59 q10 q5
    simp -dsimp -implicitDefEqProofs (disch := try exact zdE) only [go_sem, u59, u10, hwa]
    have hsl : (zc0 (g.rows.take i) k).length ≤ 60 := by
     unfold zc0
     rw [List.length_map]
     exact Nat.le_trans (List.length_filter_le _ _) (by rw [List.length_take]; omega)
    refine zaq (lo := 65) (nx := nx + 16) (H0 := H2) (xs := (zc0 (g.rows.take i) k).map RV) (u5.same (fun _ _ => rfl) (by omega)) (by omega) rfl (by omega) (by omega) (by simp [rowOk, V.cells, V.cellOk, V.isJunk, RV, ints]) (by decide) (by rw [List.length_map]; omega) (by rw [List.length_map]; omega) fun v3 H7 t1 t2 t3 t4 => ?_
    rw [← hst'] at t1
    have w1 := (t4 1 (by omega)).trans u1
    have w59 := (t4 59 (by omega)).trans u59
    obtain ⟨hva, hvc, hvs, _⟩ := t1.flat
    simp -dsimp -implicitDefEqProofs (disch := try exact zdE) only [go_sem, w59, hwa, hva, hvc, hvs]
    generalize hH8 : Hp.upd H7 59 _ = H8
    exact ⟨(i + 1, v3, H8, _), rfl, ⟨zdo, zdo, zaf hH8 w1 (by omega), za4 hH8, by dsimp only; rw [← hH8]; exact (t1.upd (by omega)).same (fun _ _ => rfl) (by omega)⟩, zdo⟩
   ·rw [htc, if_pos rfl, List.append_nil] at hst
    refine sgo ?_
    exact ⟨(i + 1, w, H1, _), rfl, ⟨zdo, zdo, q1, q59, by dsimp only; rw [hst]; exact q5.same (fun _ _ => rfl) (by omega)⟩, zdo⟩
  ·have hie : i = g.rows.length := by omega
   subst hie
   rw [List.take_length] at i5
   simp -dsimp -implicitDefEqProofs (disch := try exact zdE) only [go_sem, i3, i4, hwa, hwc]
   rw [(i5.upd (by omega)).frz (zdb fun x => rfl)]
   have ez : decide ((1024 : Int) < 0) = false := by decide
   simp only [Option.map_some, Option.bind_some, GV, outG, ez, List.map_map]
   rfl
end Go.Gim

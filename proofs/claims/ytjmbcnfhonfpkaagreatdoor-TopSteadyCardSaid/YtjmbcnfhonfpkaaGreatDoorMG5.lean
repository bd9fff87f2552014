import Derived.Test.YtjmbcnfhonfpkaaGreatDoorQP1
import Derived.Test.YtjmbcnfhonfpkaaGreatDoorSM0
import Derived.Test.YtjmbcnfhonfpkaaGreatDoorLB2
import Derived.Test.YtjmbcnfhonfpkaaGreatDoorGA7
import Derived.Test.YtjmbcnfhonfpkaaGreatDoorGN
import Derived.Test.YtjmbcnfhonfpkaaGreatDoorCX3
import Derived.Test.YtjmbcnfhonfpkaaGreatDoorDV7
set_option linter.unusedSimpArgs false
set_option linter.unusedVariables false
/- What goes out of a graph, and what is left, in plain Lean: sums of squares, what is left is not below nothing, what floors take away. -/
set_option maxRecDepth 100000
set_option maxHeartbeats 4000000
namespace Go.Gim
open Go.Proofs
theorem sq_nnI (a : Int) : 0 ≤ a * a := by
 rcases Int.le_total 0 a with h | h
 ·exact Int.mul_nonneg h h
 ·exact Int.mul_nonneg_of_nonpos_of_nonpos h h
def touchB (r : Row4) (k : Nat) : Bool := (r.co.take k).any fun a => decide (a ≠ 0)
def goes (rows : List Row4) (k : Nat) (s f : Row4 → Int) (t : Nat) : Int := sumZ (fun i => if touchB (rows.getD i default) k then f (rows.getD i default) * s (rows.getD i default) else 0) t
theorem goes_nonneg {rows : List Row4} {k : Nat} {s f : Row4 → Int} {t : Nat} (ht : t ≤ rows.length) (h : ∀ r ∈ rows, 0 ≤ f r * s r) : 0 ≤ goes rows k s f t := sumZ_nonneg fun i hi => by
 split
 ·exact h _ (zaz default (by omega))
 ·exact Int.le_refl 0
theorem goes_sum (rows : List Row4) (k : Nat) (s : Row4 → Int) (F : Nat → Row4 → Int) (t : Nat) : ∀ n, sumZ (fun i => goes rows k s (F i) t) n = goes rows k s (fun r => sumZ (fun i => F i r) n) t
 | 0 => by
  unfold goes
  rw [sumZ]
  exact (zgx fun i _ => by simp [sumZ]).symm
 | n + 1 => by
  rw [sumZ, goes_sum rows k s F t n]
  unfold goes
  rw [← zfo]
  refine zac fun i _ => ?_
  split
  ·simp only [sumZ, Int.add_mul]
  ·rfl
theorem goes_mul (rows : List Row4) (k : Nat) (s f : Row4 → Int) (c : Int) (t : Nat) : goes rows k s f t * c = goes rows k s (fun r => f r * c) t := by
 unfold goes
 rw [← sg_mulr]
 refine zac fun i _ => ?_
 split
 ·grind
 ·omega
def wholeP (P : Mx) (rows : List Row4) (k : Nat) (s : Row4 → Int) (t : Nat) : Mx := fun i j => P i j * 1024 + goes rows k s (fun r => r.co.getD i 0 * r.co.getD j 0) t
def dotF (r : Row4) (y : Nat → Int) (n : Nat) : Int := sumZ (fun i => r.co.getD i 0 * y i) n
theorem qS_add (n : Nat) (A B : Mx) (x : Nat → Int) : qS n (fun i j => A i j + B i j) x = qS n A x + qS n B x := by
 unfold qS
 rw [← zfo]
 refine zac fun i _ => ?_
 rw [← Int.mul_add]
 congr 1
 unfold appS
 rw [← zfo]
 exact zac fun j _ => by rw [Int.add_mul]
theorem qS_scale (n : Nat) (A : Mx) (c : Int) (x : Nat → Int) : qS n (fun i j => A i j * c) x = qS n A x * c := by
 unfold qS
 rw [← sg_mulr]
 refine zac fun i _ => ?_
 have : appS n (fun i j => A i j * c) x i = appS n A x i * c := by
  unfold appS
  rw [← sg_mulr]
  exact zac fun j _ => by grind
 rw [this]; grind
theorem qS_goes (n : Nat) (rows : List Row4) (k : Nat) (s : Row4 → Int) (t : Nat) (y : Nat → Int) : qS n (fun i j => goes rows k s (fun r => r.co.getD i 0 * r.co.getD j 0) t) y = goes rows k s (fun r => dotF r y n * dotF r y n) t := by
 unfold qS
 rw [zac (g := fun i => goes rows k s (fun r => r.co.getD i 0 * y i * dotF r y n) t) fun i _ => ?_, goes_sum]
 ·congr 1
  funext r
  rw [sg_mulr]; rfl
 ·unfold appS
  rw [zac (g := fun j => goes rows k s (fun r => r.co.getD i 0 * (r.co.getD j 0 * y j)) t) fun j _ => by rw [goes_mul]; congr 1; funext r; grind, goes_sum, Int.mul_comm, goes_mul]
  congr 1
  funext r
  rw [zcu]
  unfold dotF
  grind
theorem whole_qS (n : Nat) (P : Mx) (rows : List Row4) (k : Nat) (s : Row4 → Int) (t : Nat) (y : Nat → Int) : qS n (wholeP P rows k s t) y = qS n P y * 1024 + goes rows k s (fun r => dotF r y n * dotF r y n) t := by
 have := qS_add n (fun i j => P i j * 1024) (fun i j => goes rows k s (fun r => r.co.getD i 0 * r.co.getD j 0) t) y
 rw [qS_scale, qS_goes] at this
 exact this
def PSD (n : Nat) (M : Mx) : Prop := ∀ x : Nat → Int, 0 ≤ qS n M x
theorem PSD.whole {n : Nat} {P : Mx} (h : PSD n P) {rows : List Row4} {k : Nat} {s : Row4 → Int} {t : Nat} (ht : t ≤ rows.length) (hs : ∀ r ∈ rows, 0 ≤ s r) : PSD n (wholeP P rows k s t) := fun x => by
 rw [whole_qS]
 have h1 := h x
 have h2 := goes_nonneg (k := k) (s := s) (f := fun r => dotF r x n * dotF r x n) ht fun r hr => Int.mul_nonneg (sq_nnI _) (hs r hr)
 omega
theorem PSD.congr {n : Nat} {P P' : Mx} (h : PSD n P) (he : ∀ i j, i < n → j < n → P i j = P' i j) : PSD n P' := fun x => by
 rw [← qS_congr he fun _ _ => rfl]; exact h x
theorem gP_tgt {n k : Nat} (hk : k ≤ n) {P : Mx} (hs : SymM n P) {i j : Nat} (hi : i < n - k) (hj : j < n - k) : gP k P i j = tgt k P (k + i) (k + j) := by
 unfold gP tgt
 rw [if_neg (by omega), Int.mul_comm]
 have e1 := sg_move (fun c => P (k + i) c) (fun c => P (k + j) c) (fun c r => adjK k P c r) k k
 have e2 : sumZ (fun c => P (k + i) c * wK k P c (k + j)) k = sumZ (fun c => numF k P (P (k + i)) c * P (k + j) c) k := by
  have e3 : ∀ c, c < k → wK k P c (k + j) = sumZ (fun r => adjK k P c r * P (k + j) r) k := fun c _ => zac fun r hr => by rw [hs r (k + j) (by omega) (by omega)]
  rw [zac (fun c hc => by rw [e3 c hc]), e1]
  refine zac fun c hc => ?_
  have e4 : numF k P (P (k + i)) c = sumZ (fun r => adjK k P c r * P (k + i) r) k := by
   rw [numF_congr (b' := fun r => P r (k + i)) (fun _ _ _ _ => rfl) (fun r hr => hs _ _ (by omega) (by omega)), ← wK_num P hc]
   exact zac fun r hr => by rw [hs r (k + i) (by omega) (by omega)]
  rw [e4, Int.mul_comm]
  congr 1
  exact zac fun r hr => by rw [adj_sym (hs.mono hk) hr hc]
 rw [e2]
theorem PSD.left {n k : Nat} (hk : k ≤ n) {P : Mx} (hs : SymM n P) (hp : PSD n P) (hd : 0 < det k P) : PSD (n - k) (gP k P) := fun y => by
 obtain ⟨m, rfl⟩ : ∃ m, n = k + m := ⟨n - k, by omega⟩
 rw [show k + m - k = m by omega]
 have h := schur hs fun i => if i < k then -sumZ (fun j => wK k P i (k + j) * y j) m else det k P * y (i - k)
 have h1 := hp fun i => if i < k then -sumZ (fun j => wK k P i (k + j) * y j) m else det k P * y (i - k)
 generalize qS (k + m) P (fun i => if i < k then -sumZ (fun j => wK k P i (k + j) * y j) m else det k P * y (i - k)) = Q at h h1
 have ek : ∀ j, (if k + j < k then -sumZ (fun j' => wK k P (k + j) (k + j') * y j') m else det k P * y (k + j - k)) = det k P * y j := fun j => by
  rw [if_neg (by omega)]; congr 2; omega
 simp only [ek] at h
 have hz : ∀ c, c < k → (det k P * (if c < k then -sumZ (fun j => wK k P c (k + j) * y j) m else det k P * y (c - k))) + sumZ (fun j => wK k P c (k + j) * (det k P * y j)) m = 0 := fun c hc => by
  have e0 : sumZ (fun j => wK k P c (k + j) * (det k P * y j)) m = det k P * sumZ (fun j => wK k P c (k + j) * y j) m := by
   rw [← zcu]; exact zac fun j _ => by rw [← Int.mul_assoc, Int.mul_comm (wK k P c (k + j)), Int.mul_assoc]
  rw [if_pos hc, e0, Int.mul_neg]; omega
 rw [qS_zero hz] at h
 have e : sumZ (fun i => det k P * y i * sumZ (fun j => tgt k P (k + i) (k + j) * (det k P * y j)) m) m = qS m (gP k P) y * (det k P * det k P) := by
  unfold qS
  rw [← sg_mulr]
  refine zac fun i hi => ?_
  unfold appS
  rw [zac (g := fun j => det k P * (gP k P i j * y j)) fun j hj => by rw [gP_tgt (n := k + m) (by omega) hs (by omega) (by omega), ← Int.mul_assoc, Int.mul_comm (tgt k P (k + i) (k + j)), Int.mul_assoc], zcu]
  generalize sumZ (fun j => gP k P i j * y j) m = S
  generalize det k P = d
  grind
 rw [e] at h
 generalize qS m (gP k P) y = R at *
 generalize det k P = d at *
 rcases Int.mul_eq_zero.1 h with h2 | h2
 ·omega
 ·have h3 : d * Q = d * (d * R) := by grind
  have h4 := Int.eq_of_mul_eq_mul_left (by omega) h3
  refine Decidable.byContradiction fun hn => ?_
  have := Int.mul_neg_of_pos_of_neg hd (show R < 0 by omega)
  omega
end Go.Gim
/- What is left out of a graph: whether a row is touched, a function so many times, a row's square. -/
set_option maxRecDepth 100000
set_option maxHeartbeats 4000000
namespace Go.Gim
open Go.Proofs
theorem indexI_ret (l : List Int) (g : Nat) (caps : List V) (f : Int → Bool) (hn : l.length ≤ 9223372036854775807) (hc : ∀ v ∈ caps, V.Pure v) (h : ∀ x ∈ l, Ret pg g (.int .i64 x :: caps) (.bool (f x))) :
  ∃ k : Int, Ret pg zb3 [ints l, .fn g caps] (.int .i64 k) ∧ decide (0 ≤ k) = l.any f := by
 refine ⟨if l.any f then l.findIdx f else -1, ?_, ?_⟩
 ·refine slices_IndexFunc_Lint64_int64.of rfl (W_b ?_)
  unfold slices_IndexFunc_Lint64_int64.k slices_IndexFunc_Lint64_int64.res Ot kp Om Ol Oi Oc On ci
  refine sgo ?_
  refine za1 (T := Nat × Nat) (fun t => ⟨E [(0, ints l), (1, .fn g caps), (7, .int .i64 l.length), (8, .int .i64 t.1)], fun _ => none, t.2, t.2⟩) (fun t => t.1 ≤ l.length ∧ ∀ j, (hj : j < l.length) → j < t.1 → f l[j] = false) (fun t => l.length - t.1) (0, _) rfl ⟨zdo, fun j _ h => by dsimp only at h; omega⟩ ?_
  rintro ⟨i, nx⟩ ⟨i1, i2⟩
  dsimp only at i1 i2
  by_cases hi : i < l.length
  ·have hm := zaz 0 hi
   have he : l.getD i 0 = l[i] := by simp [List.getD_eq_getElem?_getD, hi]
   have hg := h _ hm
   rw [he] at hg
   simp -dsimp -implicitDefEqProofs (disch := try exact zdE) only [go_sem, he]
   refine zda hg (by simpa using hc) ?_
   cases hf : f l[i]
   ·refine sgo ?_
    exact ⟨(i + 1, _), rfl, ⟨zdo, fun j hj hji => by dsimp only at hji; by_cases hje : j = i; (subst hje; exact hf); exact i2 j hj (by omega)⟩, zdo⟩
   ·have ha : l.any f = true := List.any_eq_true.2 ⟨_, List.getElem_mem hi, hf⟩
    have hx : l.findIdx f = i := (List.findIdx_eq hi).2 ⟨hf, fun j hj => i2 j (by omega) hj⟩
    rw [ha, if_pos rfl, hx]
    exact sgo trivial
  ·have ha : l.any f = false := List.any_eq_false.2 fun r hr => by
    obtain ⟨j, hj, rfl⟩ := List.mem_iff_getElem.1 hr
    simp [i2 j hj (by omega)]
   rw [ha]
   exact sgo trivial
 ·cases l.any f <;> simp
end Go.Gim
/- A graph without its first numbers. -/
set_option maxRecDepth 100000
set_option maxHeartbeats 4000000
namespace Go.Gim
open Go.Proofs
theorem isnilB_sl {dr : Bool} {nx : Nat} {H : Hp} {neg : Bool} {e : V} {l : List V} {Kn : V → Prop} {u : Dep Kn} (h : Kn (.bool neg)) : isnilB dr nx H 0 neg (.sl (e :: l)) Kn u := h
theorem cloneI_ret (l : List Int) (hne : l ≠ []) (hl : l.length ≤ 1000000) : Ret pg zam [ints l] (ints l) := by
 obtain ⟨a, l', rfl⟩ : ∃ a l', l = a :: l' := by cases l with | nil => exact absurd rfl hne | cons a l => exact ⟨a, l, rfl⟩
 have e : ints (a :: l') = .sl (V.int .i64 a :: l'.map (V.int .i64)) := rfl
 rw [e]
 refine slices_Clone_Lint64_int64.of rfl (W_b ?_)
 unfold slices_Clone_Lint64_int64.k slices_Clone_Lint64_int64.res Ot kp Om
 refine sgo ?_
 refine isnilB_sl ?_
 refine sgo ?_
 refine effB_copy (c := 3) (H0 := fun _ => none) rfl (by simp [rowOk, V.cells, V.cellOk, V.isJunk]) (by decide) (by simp at hl ⊢; omega) (by simp at hl ⊢; omega) ?_
 refine sgo ?_
 rw [allOf_self fun x hx => by
  obtain ⟨y, _, rfl⟩ := List.mem_map.1 hx; rfl]
 rfl
end Go.Gim

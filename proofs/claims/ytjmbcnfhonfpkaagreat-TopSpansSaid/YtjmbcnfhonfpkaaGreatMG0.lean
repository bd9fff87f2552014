import Derived.Test.YtjmbcnfhonfpkaaGreatQP1
import Derived.Test.YtjmbcnfhonfpkaaGreatSM0
import Derived.Test.YtjmbcnfhonfpkaaGreatLB2
import Derived.Test.YtjmbcnfhonfpkaaGreatGA7
/- What goes out of a graph, and what is left, in plain Lean: sums of squares, what is left is not below nothing, what floors take away. -/
set_option maxRecDepth 100000
set_option maxHeartbeats 4000000
set_option linter.unusedSimpArgs false
set_option linter.unusedVariables false
namespace Go.Gim
open Go.Proofs
theorem sq_nnI (a : Int) : 0 ≤ a * a := by
 rcases Int.le_total 0 a with h | h
 ·exact Int.mul_nonneg h h
 ·exact Int.mul_nonneg_of_nonpos_of_nonpos h h
def touchB (r : Row4) (k : Nat) : Bool := (r.co.take k).any fun a => decide (a ≠ 0)
def goes (rows : List Row4) (k : Nat) (s f : Row4 → Int) (t : Nat) : Int := sumZ (fun i => if touchB (rows.getD i default) k then f (rows.getD i default) * s (rows.getD i default) else 0) t
theorem goes_nonneg {rows : List Row4} {k : Nat} {s f : Row4 → Int} {t : Nat} (ht : t ≤ rows.length) (h : ∀ r ∈ rows, 0 ≤ f r * s r) : 0 ≤ goes rows k s f t := sumZ_nonneg fun i hi => by
 split
 ·exact h _ (zav default (by omega))
 ·exact Int.le_refl 0
theorem goes_sum (rows : List Row4) (k : Nat) (s : Row4 → Int) (F : Nat → Row4 → Int) (t : Nat) : ∀ n, sumZ (fun i => goes rows k s (F i) t) n = goes rows k s (fun r => sumZ (fun i => F i r) n) t
 | 0 => by
  unfold goes
  rw [sumZ]
  exact (zga fun i _ => by simp [sumZ]).symm
 | n + 1 => by
  rw [sumZ, goes_sum rows k s F t n]
  unfold goes
  rw [← ze0]
  refine zac fun i _ => ?_
  split
  ·simp only [sumZ, Int.add_mul]
  ·rfl
theorem goes_mul (rows : List Row4) (k : Nat) (s f : Row4 → Int) (c : Int) (t : Nat) : goes rows k s f t * c = goes rows k s (fun r => f r * c) t := by
 unfold goes
 rw [← sg_mulr]
 refine zac fun i _ => ?_
 split
 ·grind
 ·omega
def wholeP (P : Mx) (rows : List Row4) (k : Nat) (s : Row4 → Int) (t : Nat) : Mx := fun i j => P i j * 1024 + goes rows k s (fun r => r.co.getD i 0 * r.co.getD j 0) t
def dotF (r : Row4) (y : Nat → Int) (n : Nat) : Int := sumZ (fun i => r.co.getD i 0 * y i) n
theorem qS_add (n : Nat) (A B : Mx) (x : Nat → Int) : qS n (fun i j => A i j + B i j) x = qS n A x + qS n B x := by
 unfold qS
 rw [← ze0]
 refine zac fun i _ => ?_
 rw [← Int.mul_add]
 congr 1
 unfold appS
 rw [← ze0]
 exact zac fun j _ => by rw [Int.add_mul]
theorem qS_scale (n : Nat) (A : Mx) (c : Int) (x : Nat → Int) : qS n (fun i j => A i j * c) x = qS n A x * c := by
 unfold qS
 rw [← sg_mulr]
 refine zac fun i _ => ?_
 have : appS n (fun i j => A i j * c) x i = appS n A x i * c := by
  unfold appS
  rw [← sg_mulr]
  exact zac fun j _ => by grind
 rw [this]; grind
theorem qS_goes (n : Nat) (rows : List Row4) (k : Nat) (s : Row4 → Int) (t : Nat) (y : Nat → Int) : qS n (fun i j => goes rows k s (fun r => r.co.getD i 0 * r.co.getD j 0) t) y = goes rows k s (fun r => dotF r y n * dotF r y n) t := by
 unfold qS
 rw [zac (g := fun i => goes rows k s (fun r => r.co.getD i 0 * y i * dotF r y n) t) fun i _ => ?_, goes_sum]
 ·congr 1
  funext r
  rw [sg_mulr]; rfl
 ·unfold appS
  rw [zac (g := fun j => goes rows k s (fun r => r.co.getD i 0 * (r.co.getD j 0 * y j)) t) fun j _ => by rw [goes_mul]; congr 1; funext r; grind, goes_sum, Int.mul_comm, goes_mul]
  congr 1
  funext r
  rw [zcb]
  unfold dotF
  grind
theorem whole_qS (n : Nat) (P : Mx) (rows : List Row4) (k : Nat) (s : Row4 → Int) (t : Nat) (y : Nat → Int) : qS n (wholeP P rows k s t) y = qS n P y * 1024 + goes rows k s (fun r => dotF r y n * dotF r y n) t := by
 have := qS_add n (fun i j => P i j * 1024) (fun i j => goes rows k s (fun r => r.co.getD i 0 * r.co.getD j 0) t) y
 rw [qS_scale, qS_goes] at this
 exact this
def PSD (n : Nat) (M : Mx) : Prop := ∀ x : Nat → Int, 0 ≤ qS n M x
theorem PSD.whole {n : Nat} {P : Mx} (h : PSD n P) {rows : List Row4} {k : Nat} {s : Row4 → Int} {t : Nat} (ht : t ≤ rows.length) (hs : ∀ r ∈ rows, 0 ≤ s r) : PSD n (wholeP P rows k s t) := fun x => by
 rw [whole_qS]
 have h1 := h x
 have h2 := goes_nonneg (k := k) (s := s) (f := fun r => dotF r x n * dotF r x n) ht fun r hr => Int.mul_nonneg (sq_nnI _) (hs r hr)
 omega
theorem PSD.congr {n : Nat} {P P' : Mx} (h : PSD n P) (he : ∀ i j, i < n → j < n → P i j = P' i j) : PSD n P' := fun x => by
 rw [← qS_congr he fun _ _ => rfl]; exact h x
theorem gP_tgt {n k : Nat} (hk : k ≤ n) {P : Mx} (hs : SymM n P) {i j : Nat} (hi : i < n - k) (hj : j < n - k) : gP k P i j = tgt k P (k + i) (k + j) := by
 unfold gP tgt
 rw [if_neg (by omega), Int.mul_comm]
 have e1 := sg_move (fun c => P (k + i) c) (fun c => P (k + j) c) (fun c r => adjK k P c r) k k
 have e2 : sumZ (fun c => P (k + i) c * wK k P c (k + j)) k = sumZ (fun c => numF k P (P (k + i)) c * P (k + j) c) k := by
  have e3 : ∀ c, c < k → wK k P c (k + j) = sumZ (fun r => adjK k P c r * P (k + j) r) k := fun c _ => zac fun r hr => by rw [hs r (k + j) (by omega) (by omega)]
  rw [zac (fun c hc => by rw [e3 c hc]), e1]
  refine zac fun c hc => ?_
  have e4 : numF k P (P (k + i)) c = sumZ (fun r => adjK k P c r * P (k + i) r) k := by
   rw [numF_congr (b' := fun r => P r (k + i)) (fun _ _ _ _ => rfl) (fun r hr => hs _ _ (by omega) (by omega)), ← wK_num P hc]
   exact zac fun r hr => by rw [hs r (k + i) (by omega) (by omega)]
  rw [e4, Int.mul_comm]
  congr 1
  exact zac fun r hr => by rw [adj_sym (hs.mono hk) hr hc]
 rw [e2]
theorem PSD.left {n k : Nat} (hk : k ≤ n) {P : Mx} (hs : SymM n P) (hp : PSD n P) (hd : 0 < det k P) : PSD (n - k) (gP k P) := fun y => by
 obtain ⟨m, rfl⟩ : ∃ m, n = k + m := ⟨n - k, by omega⟩
 rw [show k + m - k = m by omega]
 have h := schur hs fun i => if i < k then -sumZ (fun j => wK k P i (k + j) * y j) m else det k P * y (i - k)
 have h1 := hp fun i => if i < k then -sumZ (fun j => wK k P i (k + j) * y j) m else det k P * y (i - k)
 generalize qS (k + m) P (fun i => if i < k then -sumZ (fun j => wK k P i (k + j) * y j) m else det k P * y (i - k)) = Q at h h1
 have ek : ∀ j, (if k + j < k then -sumZ (fun j' => wK k P (k + j) (k + j') * y j') m else det k P * y (k + j - k)) = det k P * y j := fun j => by
  rw [if_neg (by omega)]; congr 2; omega
 simp only [ek] at h
 have hz : ∀ c, c < k → (det k P * (if c < k then -sumZ (fun j => wK k P c (k + j) * y j) m else det k P * y (c - k))) + sumZ (fun j => wK k P c (k + j) * (det k P * y j)) m = 0 := fun c hc => by
  have e0 : sumZ (fun j => wK k P c (k + j) * (det k P * y j)) m = det k P * sumZ (fun j => wK k P c (k + j) * y j) m := by
   rw [← zcb]; exact zac fun j _ => by rw [← Int.mul_assoc, Int.mul_comm (wK k P c (k + j)), Int.mul_assoc]
  rw [if_pos hc, e0, Int.mul_neg]; omega
 rw [qS_zero hz] at h
 have e : sumZ (fun i => det k P * y i * sumZ (fun j => tgt k P (k + i) (k + j) * (det k P * y j)) m) m = qS m (gP k P) y * (det k P * det k P) := by
  unfold qS
  rw [← sg_mulr]
  refine zac fun i hi => ?_
  unfold appS
  rw [zac (g := fun j => det k P * (gP k P i j * y j)) fun j hj => by rw [gP_tgt (n := k + m) (by omega) hs (by omega) (by omega), ← Int.mul_assoc, Int.mul_comm (tgt k P (k + i) (k + j)), Int.mul_assoc], zcb]
  generalize sumZ (fun j => gP k P i j * y j) m = S
  generalize det k P = d
  grind
 rw [e] at h
 generalize qS m (gP k P) y = R at *
 generalize det k P = d at *
 rcases Int.mul_eq_zero.1 h with h2 | h2
 ·omega
 ·have h3 : d * Q = d * (d * R) := by grind
  have h4 := Int.eq_of_mul_eq_mul_left (by omega) h3
  refine Decidable.byContradiction fun hn => ?_
  have := Int.mul_neg_of_pos_of_neg hd (show R < 0 by omega)
  omega
end Go.Gim

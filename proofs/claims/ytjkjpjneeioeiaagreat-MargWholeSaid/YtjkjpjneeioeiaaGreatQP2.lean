import Derived.Test.YtjkjpjneeioeiaaGreatDT5
import Derived.Test.YtjkjpjneeioeiaaGreatSM0
import Derived.Test.YtjkjpjneeioeiaaGreatLB2
/- Quadratic functions: what is left without the first numbers; plain laws. -/
set_option maxRecDepth 100000
set_option linter.unusedSimpArgs false
set_option linter.unusedVariables false
namespace Go.Gim
def hat (n : Nat) (P : Mx) (q : Nat → Int) (c : Int) : Mx := fun i j => if i < n then (if j < n then P i j else -q i) else if j < n then -q j else c
def ext (n : Nat) (x : Nat → Int) : Nat → Int := fun i => if i < n then x i else 1
def valF (n : Nat) (P : Mx) (q : Nat → Int) (c : Int) (x : Nat → Int) : Int := qS n P x - sumZ (fun k => q k * x k) n * 2 + c
def numF (k : Nat) (P : Mx) (b : Nat → Int) (c : Nat) : Int := det k (setC P c b)
theorem zg5 {k : Nat} {P Q : Mx} {b b' : Nat → Int} (h : ∀ i j, i < k → j < k → P i j = Q i j) (h' : ∀ i, i < k → b i = b' i) (c : Nat) : numF k P b c = numF k Q b' c :=
 zaw fun i j hi hj => by unfold setC; split; exact h' i hi; exact h i j hi hj
theorem wK_num {k : Nat} (P : Mx) {c : Nat} (hc : c < k) (j : Nat) : wK k P c j = numF k P (fun r => P r j) c := wK_setC P hc j
def gP (k : Nat) (P : Mx) (i j : Nat) : Int := P (k + i) (k + j) * det k P - sumZ (fun c => numF k P (P (k + i)) c * P (k + j) c) k
def gQ (k : Nat) (P : Mx) (q : Nat → Int) (i : Nat) : Int := q (k + i) * det k P - sumZ (fun c => P (k + i) c * numF k P q c) k
def gC (k : Nat) (P : Mx) (q : Nat → Int) (c : Int) : Int := c * det k P - sumZ (fun i => q i * numF k P q i) k
end Go.Gim
/- Quadratic functions: plain laws on lists; how large numbers are. -/
set_option maxRecDepth 100000
set_option linter.unusedSimpArgs false
set_option linter.unusedVariables false
namespace Go.Gim
theorem valF_congr {n : Nat} {P P' : Mx} {q q' x x' : Nat → Int} {c : Int} (h : ∀ i j, i < n → j < n → P i j = P' i j) (hq : ∀ i, i < n → q i = q' i) (hx : ∀ i, i < n → x i = x' i) : valF n P q c x = valF n P' q' c x' := by
 unfold valF
 rw [qS_congr h hx, zah fun k hk => by rw [hq k hk, hx k hk]]
theorem qval_val {P : List (List Int)} {Q X : List Int} {c : Int} {n : Nat} (hP : Sq P n) (hQ : Q.length = n) : qval P Q c X = valF n (at2 P) (fun i => Q.getD i 0) c fun i => X.getD i 0 := by
 unfold qval valF
 rw [hP.1, hQ, quadV_qS, sumN_sm]
theorem sumZ_lim {f : Nat → Int} {B : Nat} : ∀ {n}, (∀ k, k < n → lim (f k) ≤ B) → lim (sumZ f n) ≤ B + n
 | 0, _ => by rw [sumZ, za5]; omega
 | n + 1, h => by
  have h1 := sumZ_lim (f := f) (n := n) fun k hk => h k (by omega)
  have h2 := h n (by omega)
  have h3 := lim_add (sumZ f n) (f n)
  rw [sumZ]; omega
theorem num_lim {k L : Nat} {M : Mx} {b : Nat → Int} (hM : ∀ i j, lim (M i j) ≤ L) (hb : ∀ i, lim (b i) ≤ L) (c : Nat) : lim (numF k M b c) ≤ 2 ^ k * (L + 1) := det_pw (n := k) (setC_lim hM hb c)
theorem g_lim {k L D : Nat} {M : Mx} {q : Nat → Int} {c : Int} (hD : 2 ^ k * (L + 1) ≤ D) (hM : ∀ i j, lim (M i j) ≤ L) (hq : ∀ i, lim (q i) ≤ L) (hc : lim c ≤ L) : (∀ i j, lim (gP k M i j) ≤ L + D + k + 1) ∧ (∀ i, lim (gQ k M q i) ≤ L + D + k + 1) ∧ lim (gC k M q c) ≤ L + D + k + 1 := by
 have hd : lim (det k M) ≤ D := Nat.le_trans (det_pw (n := k) hM) hD
 refine ⟨fun i j => ?_, fun i => ?_, ?_⟩
 ·have h1 := zbb (M (k + i) (k + j)) (det k M)
  have h2 := hM (k + i) (k + j)
  have h3 : lim (sumZ (fun c => numF k M (M (k + i)) c * M (k + j) c) k) ≤ L + D + k := sumZ_lim fun c hc => by
   have := zbb (numF k M (M (k + i)) c) (M (k + j) c)
   have := num_lim (k := k) hM (hM (k + i)) c
   have := hM (k + j) c
   omega
  have h4 := lim_sub (M (k + i) (k + j) * det k M) (sumZ (fun c => numF k M (M (k + i)) c * M (k + j) c) k)
  unfold gP; omega
 ·have h1 := zbb (q (k + i)) (det k M)
  have h2 := hq (k + i)
  have h3 : lim (sumZ (fun c => M (k + i) c * numF k M q c) k) ≤ L + D + k := sumZ_lim fun c hc => by
   have := zbb (M (k + i) c) (numF k M q c)
   have := num_lim (k := k) hM hq c
   have := hM (k + i) c
   omega
  have h4 := lim_sub (q (k + i) * det k M) (sumZ (fun c => M (k + i) c * numF k M q c) k)
  unfold gQ; omega
 ·have h1 := zbb c (det k M)
  have h3 : lim (sumZ (fun i => q i * numF k M q i) k) ≤ L + D + k := sumZ_lim fun c hc => by
   have := zbb (q c) (numF k M q c)
   have := num_lim (k := k) hM hq c
   have := hq c
   omega
  have h4 := lim_sub (c * det k M) (sumZ (fun i => q i * numF k M q i) k)
  unfold gC; omega
end Go.Gim

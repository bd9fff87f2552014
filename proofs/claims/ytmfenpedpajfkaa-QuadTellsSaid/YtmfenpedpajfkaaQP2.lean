import Derived.Test.YtmfenpedpajfkaaDT5
import Derived.Test.YtmfenpedpajfkaaSM0
import Derived.Test.YtmfenpedpajfkaaLB2
/- Quadratic functions: what is left without the first numbers; plain laws. -/
set_option maxRecDepth 100000
set_option linter.unusedSimpArgs false
set_option linter.unusedVariables false
namespace Go.Gim
def hat (n : Nat) (P : Mx) (q : Nat → Int) (c : Int) : Mx := fun i j => if i < n then (if j < n then P i j else -q i) else if j < n then -q j else c
def ext (n : Nat) (x : Nat → Int) : Nat → Int := fun i => if i < n then x i else 1
def valF (n : Nat) (P : Mx) (q : Nat → Int) (c : Int) (x : Nat → Int) : Int := qS n P x - sumZ (fun k => q k * x k) n * 2 + c
def numF (k : Nat) (P : Mx) (b : Nat → Int) (c : Nat) : Int := det k (setC P c b)
theorem numF_congr {k : Nat} {P Q : Mx} {b b' : Nat → Int} (h : ∀ i j, i < k → j < k → P i j = Q i j) (h' : ∀ i, i < k → b i = b' i) (c : Nat) : numF k P b c = numF k Q b' c :=
  det_congr fun i j hi hj => by unfold setC; split; exact h' i hi; exact h i j hi hj
def gP (k : Nat) (P : Mx) (i j : Nat) : Int := P (k + i) (k + j) * det k P - sumZ (fun c => numF k P (P (k + i)) c * P (k + j) c) k
def gQ (k : Nat) (P : Mx) (q : Nat → Int) (i : Nat) : Int := q (k + i) * det k P - sumZ (fun c => P (k + i) c * numF k P q c) k
def gC (k : Nat) (P : Mx) (q : Nat → Int) (c : Int) : Int := c * det k P - sumZ (fun i => q i * numF k P q i) k
end Go.Gim
/- Quadratic functions: plain laws on lists; how large numbers are. -/
set_option maxRecDepth 100000
set_option linter.unusedSimpArgs false
set_option linter.unusedVariables false
namespace Go.Gim
theorem qval_val {P : List (List Int)} {Q X : List Int} {c : Int} {n : Nat} (hP : Sq P n) (hQ : Q.length = n) : qval P Q c X = valF n (at2 P) (fun i => Q.getD i 0) c fun i => X.getD i 0 := by
  unfold qval valF
  rw [hP.1, hQ, quadV_qS, sumN_sm]
theorem sumZ_lim {f : Nat → Int} {B : Nat} : ∀ {n}, (∀ k, k < n → lim (f k) ≤ B) → lim (sumZ f n) ≤ B + n
  | 0, _ => by rw [sumZ, lim_zero]; omega
  | n + 1, h => by
    have h1 := sumZ_lim (f := f) (n := n) fun k hk => h k (by omega)
    have h2 := h n (by omega)
    have h3 := lim_add (sumZ f n) (f n)
    rw [sumZ]; omega
theorem val_lim {n A B : Nat} {P : Mx} {q x : Nat → Int} {c : Int} (hP : ∀ i j, i < n → j < n → lim (P i j) ≤ A) (hq : ∀ i, i < n → lim (q i) ≤ A) (hc : lim c ≤ A) (hx : ∀ i, i < n → lim (x i) ≤ B) : lim (valF n P q c x) ≤ A + 2 * B + 2 * n + 6 := by
  have h1 : ∀ i, i < n → lim (appS n P x i) ≤ A + B + n := fun i hi => sumZ_lim fun k hk => by have := lim_mul (P i k) (x k); have := hP i k hi hk; have := hx k hk; omega
  have h2 : lim (qS n P x) ≤ A + 2 * B + n + n := sumZ_lim (B := A + 2 * B + n) fun k hk => by have := lim_mul (x k) (appS n P x k); have := h1 k hk; have := hx k hk; omega
  have h3 : lim (sumZ (fun k => q k * x k) n) ≤ A + B + n := sumZ_lim fun k hk => by have := lim_mul (q k) (x k); have := hq k hk; have := hx k hk; omega
  have h4 := lim_mul (sumZ (fun k => q k * x k) n) 2
  have h5 : lim 2 ≤ 1 := lim_of (by decide)
  have h6 := lim_sub (qS n P x) (sumZ (fun k => q k * x k) n * 2)
  have h7 := lim_add (qS n P x - sumZ (fun k => q k * x k) n * 2) c
  unfold valF
  omega
end Go.Gim

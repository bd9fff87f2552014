import Derived.Test.YtmmfkmnakelacaaDT5
import Derived.Test.YtmmfkmnakelacaaSM0
import Derived.Test.YtmmfkmnakelacaaLB2
/- Quadratic functions: what is left without the first numbers; plain laws. -/
set_option maxRecDepth 100000
set_option linter.unusedSimpArgs false
set_option linter.unusedVariables false
namespace Go.Gim
def hat (n : Nat) (P : Mx) (q : Nat → Int) (c : Int) : Mx := fun i j => if i < n then (if j < n then P i j else -q i) else if j < n then -q j else c
def ext (n : Nat) (x : Nat → Int) : Nat → Int := fun i => if i < n then x i else 1
def valF (n : Nat) (P : Mx) (q : Nat → Int) (c : Int) (x : Nat → Int) : Int := qS n P x - sumZ (fun k => q k * x k) n * 2 + c
def numF (k : Nat) (P : Mx) (b : Nat → Int) (c : Nat) : Int := det k (setC P c b)
theorem numF_congr {k : Nat} {P Q : Mx} {b b' : Nat → Int} (h : ∀ i j, i < k → j < k → P i j = Q i j) (h' : ∀ i, i < k → b i = b' i) (c : Nat) : numF k P b c = numF k Q b' c :=
  det_congr fun i j hi hj => by unfold setC; split; exact h' i hi; exact h i j hi hj
def gP (k : Nat) (P : Mx) (i j : Nat) : Int := P (k + i) (k + j) * det k P - sumZ (fun c => numF k P (P (k + i)) c * P (k + j) c) k
def gQ (k : Nat) (P : Mx) (q : Nat → Int) (i : Nat) : Int := q (k + i) * det k P - sumZ (fun c => P (k + i) c * numF k P q c) k
def gC (k : Nat) (P : Mx) (q : Nat → Int) (c : Int) : Int := c * det k P - sumZ (fun i => q i * numF k P q i) k
end Go.Gim
/- Quadratic functions: plain laws on lists; how large numbers are. -/
set_option maxRecDepth 100000
set_option linter.unusedSimpArgs false
set_option linter.unusedVariables false
namespace Go.Gim
theorem valF_congr {n : Nat} {P P' : Mx} {q q' x x' : Nat → Int} {c : Int} (h : ∀ i j, i < n → j < n → P i j = P' i j) (hq : ∀ i, i < n → q i = q' i) (hx : ∀ i, i < n → x i = x' i) : valF n P q c x = valF n P' q' c x' := by
  unfold valF
  rw [qS_congr h hx, sumZ_congr fun k hk => by rw [hq k hk, hx k hk]]
theorem qval_val {P : List (List Int)} {Q X : List Int} {c : Int} {n : Nat} (hP : Sq P n) (hQ : Q.length = n) : qval P Q c X = valF n (at2 P) (fun i => Q.getD i 0) c fun i => X.getD i 0 := by
  unfold qval valF
  rw [hP.1, hQ, quadV_qS, sumN_sm]
theorem qval_g {n k : Nat} {M : Mx} {q : Nat → Int} {c : Int} {X : List Int} (m : Nat) (hm : m = n - k) : qval (mat m (gP k M)) (rowF m (gQ k M q)) (gC k M q c) X = valF m (gP k M) (gQ k M q) (gC k M q c) fun i => X.getD i 0 := by
  rw [qval_val (mat_sq _ _) (rowF_len _ _)]
  exact valF_congr (fun i j hi hj => mat_at hi hj) (fun i hi => rowF_get hi) fun _ _ => rfl
theorem sumZ_lim {f : Nat → Int} {B : Nat} : ∀ {n}, (∀ k, k < n → lim (f k) ≤ B) → lim (sumZ f n) ≤ B + n
  | 0, _ => by rw [sumZ, lim_zero]; omega
  | n + 1, h => by
    have h1 := sumZ_lim (f := f) (n := n) fun k hk => h k (by omega)
    have h2 := h n (by omega)
    have h3 := lim_add (sumZ f n) (f n)
    rw [sumZ]; omega
theorem val_lim {n A B : Nat} {P : Mx} {q x : Nat → Int} {c : Int} (hP : ∀ i j, i < n → j < n → lim (P i j) ≤ A) (hq : ∀ i, i < n → lim (q i) ≤ A) (hc : lim c ≤ A) (hx : ∀ i, i < n → lim (x i) ≤ B) : lim (valF n P q c x) ≤ A + 2 * B + 2 * n + 6 := by
  have h1 : ∀ i, i < n → lim (appS n P x i) ≤ A + B + n := fun i hi => sumZ_lim fun k hk => by have := lim_mul (P i k) (x k); have := hP i k hi hk; have := hx k hk; omega
  have h2 : lim (qS n P x) ≤ A + 2 * B + n + n := sumZ_lim (B := A + 2 * B + n) fun k hk => by have := lim_mul (x k) (appS n P x k); have := h1 k hk; have := hx k hk; omega
  have h3 : lim (sumZ (fun k => q k * x k) n) ≤ A + B + n := sumZ_lim fun k hk => by have := lim_mul (q k) (x k); have := hq k hk; have := hx k hk; omega
  have h4 := lim_mul (sumZ (fun k => q k * x k) n) 2
  have h5 : lim 2 ≤ 1 := lim_of (by decide)
  have h6 := lim_sub (qS n P x) (sumZ (fun k => q k * x k) n * 2)
  have h7 := lim_add (qS n P x - sumZ (fun k => q k * x k) n * 2) c
  unfold valF
  omega
theorem num_lim {k L : Nat} {M : Mx} {b : Nat → Int} (hM : ∀ i j, lim (M i j) ≤ L) (hb : ∀ i, lim (b i) ≤ L) (c : Nat) : lim (numF k M b c) ≤ 2 ^ k * (L + 1) := det_pw (n := k) (setC_lim hM hb c)
theorem g_lim {k L D : Nat} {M : Mx} {q : Nat → Int} {c : Int} (hD : 2 ^ k * (L + 1) ≤ D) (hM : ∀ i j, lim (M i j) ≤ L) (hq : ∀ i, lim (q i) ≤ L) (hc : lim c ≤ L) : (∀ i j, lim (gP k M i j) ≤ L + D + k + 1) ∧ (∀ i, lim (gQ k M q i) ≤ L + D + k + 1) ∧ lim (gC k M q c) ≤ L + D + k + 1 := by
  have hd : lim (det k M) ≤ D := Nat.le_trans (det_pw (n := k) hM) hD
  refine ⟨fun i j => ?_, fun i => ?_, ?_⟩
  · have h1 := lim_mul (M (k + i) (k + j)) (det k M)
    have h2 := hM (k + i) (k + j)
    have h3 : lim (sumZ (fun c => numF k M (M (k + i)) c * M (k + j) c) k) ≤ L + D + k := sumZ_lim fun c hc => by
      have := lim_mul (numF k M (M (k + i)) c) (M (k + j) c)
      have := num_lim (k := k) hM (hM (k + i)) c
      have := hM (k + j) c
      omega
    have h4 := lim_sub (M (k + i) (k + j) * det k M) (sumZ (fun c => numF k M (M (k + i)) c * M (k + j) c) k)
    unfold gP; omega
  · have h1 := lim_mul (q (k + i)) (det k M)
    have h2 := hq (k + i)
    have h3 : lim (sumZ (fun c => M (k + i) c * numF k M q c) k) ≤ L + D + k := sumZ_lim fun c hc => by
      have := lim_mul (M (k + i) c) (numF k M q c)
      have := num_lim (k := k) hM hq c
      have := hM (k + i) c
      omega
    have h4 := lim_sub (q (k + i) * det k M) (sumZ (fun c => M (k + i) c * numF k M q c) k)
    unfold gQ; omega
  · have h1 := lim_mul c (det k M)
    have h3 : lim (sumZ (fun i => q i * numF k M q i) k) ≤ L + D + k := sumZ_lim fun c hc => by
      have := lim_mul (q c) (numF k M q c)
      have := num_lim (k := k) hM hq c
      have := hq c
      omega
    have h4 := lim_sub (c * det k M) (sumZ (fun i => q i * numF k M q i) k)
    unfold gC; omega
end Go.Gim

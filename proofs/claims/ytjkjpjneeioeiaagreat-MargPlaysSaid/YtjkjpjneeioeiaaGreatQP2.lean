import Derived.Test.YtjkjpjneeioeiaaGreatDT5
import Derived.Test.YtjkjpjneeioeiaaGreatSM0
import Derived.Test.YtjkjpjneeioeiaaGreatLB2
set_option linter.unusedSimpArgs false
set_option linter.unusedVariables false
/- Quadratic functions: what is left without the first numbers; plain laws. -/
set_option maxRecDepth 100000
namespace Go.Gim
def hat (n : Nat) (P : Mx) (q : Nat → Int) (c : Int) : Mx := fun i j => if i < n then (if j < n then P i j else -q i) else if j < n then -q j else c
def ext (n : Nat) (x : Nat → Int) : Nat → Int := fun i => if i < n then x i else 1
theorem hat_sym {n : Nat} {P : Mx} (h : SymM n P) (q : Nat → Int) (c : Int) : SymM (n + 1) (hat n P q c) := fun i j hi hj => by
 unfold hat
 by_cases h1 : i < n <;> by_cases h2 : j < n <;> simp only [h1, h2, if_true, if_false]
 exact h i j h1 h2
theorem hat_lo {n k : Nat} (hk : k ≤ n) (P : Mx) (q : Nat → Int) (c : Int) (i j : Nat) (hi : i < k) (hj : j < k) : hat n P q c i j = P i j := by unfold hat; rw [if_pos (by omega), if_pos (by omega)]
theorem hat_det {n k : Nat} (hk : k ≤ n) (P : Mx) (q : Nat → Int) (c : Int) : det k (hat n P q c) = det k P := zay fun i j hi hj => hat_lo hk P q c i j hi hj
def numF (k : Nat) (P : Mx) (b : Nat → Int) (c : Nat) : Int := det k (setC P c b)
theorem ze2 {k : Nat} {P Q : Mx} {b b' : Nat → Int} (h : ∀ i j, i < k → j < k → P i j = Q i j) (h' : ∀ i, i < k → b i = b' i) (c : Nat) : numF k P b c = numF k Q b' c :=
 zay fun i j hi hj => by unfold setC; split; exact h' i hi; exact h i j hi hj
theorem numF_neg {k : Nat} (P : Mx) (b : Nat → Int) {c : Nat} (hc : c < k) : numF k P (fun r => -b r) c = -numF k P b c := by
 have h := (det_tr_alt k).scale (trM P) hc b (-1)
 unfold numF
 rw [setC_tr, setC_tr, show (fun r => -b r) = fun r => -1 * b r by funext r; omega, h]
 omega
theorem wK_num {k : Nat} (P : Mx) {c : Nat} (hc : c < k) (j : Nat) : wK k P c j = numF k P (fun r => P r j) c := wK_setC P hc j
def gP (k : Nat) (P : Mx) (i j : Nat) : Int := P (k + i) (k + j) * det k P - sumZ (fun c => numF k P (P (k + i)) c * P (k + j) c) k
def gQ (k : Nat) (P : Mx) (q : Nat → Int) (i : Nat) : Int := q (k + i) * det k P - sumZ (fun c => P (k + i) c * numF k P q c) k
def gC (k : Nat) (P : Mx) (q : Nat → Int) (c : Int) : Int := c * det k P - sumZ (fun i => q i * numF k P q i) k
theorem hat_w {n k : Nat} (hk : k ≤ n) (P : Mx) (q : Nat → Int) (c : Int) {r : Nat} (hr : r < k) : wK k (hat n P q c) r n = -numF k P q r := by
 rw [wK_num _ hr, ← numF_neg P q hr]
 exact ze2 (fun i j hi hj => hat_lo hk P q c i j hi hj) (fun i hi => by unfold hat; rw [if_pos (by omega), if_neg (Nat.lt_irrefl _)]) r
theorem without_hat {n k : Nat} (hk : k ≤ n) {P : Mx} (hs : SymM n P) (q : Nat → Int) (c : Int) {i j : Nat} (hi : i < n - k + 1) (hj : j < n - k + 1) :
  hat (n - k) (gP k P) (gQ k P q) (gC k P q c) i j = tgt k (hat n P q c) (k + i) (k + j) := by
 have hh := hat_sym hs q c
 have key : ∀ i, i < n - k → tgt k (hat n P q c) (k + i) n = -gQ k P q i := fun i hi => by
  unfold tgt gQ
  rw [if_neg (by omega), hat_det hk]
  have e1 : hat n P q c (k + i) n = -q (k + i) := by unfold hat; rw [if_pos (by omega), if_neg (Nat.lt_irrefl _)]
  rw [e1, zad (f := fun r => hat n P q c (k + i) r * wK k (hat n P q c) r n) (g := fun r => -(P (k + i) r * numF k P q r)) fun r hr => by
   rw [hat_w hk P q c hr]; unfold hat; rw [if_pos (by omega), if_pos (by omega), Int.mul_neg], sg_neg]
  grind
 by_cases h1 : i < n - k
 ·by_cases h2 : j < n - k
  ·rw [tgt_sym hh (by omega) (by omega) (by omega) (by omega) (by omega)]
   unfold hat
   rw [if_pos h1, if_pos h2]
   show gP k P i j = tgt k (hat n P q c) (k + j) (k + i)
   unfold tgt gP
   rw [if_neg (by omega), hat_det hk]
   have e1 : hat n P q c (k + j) (k + i) = P (k + i) (k + j) := by unfold hat; rw [if_pos (by omega), if_pos (by omega)]; exact hs _ _ (by omega) (by omega)
   rw [e1, Int.mul_comm]
   congr 1
   refine zad fun r hr => ?_
   have e2 : hat n P q c (k + j) r = P (k + j) r := by unfold hat; rw [if_pos (by omega), if_pos (by omega)]
   rw [e2, wK_num _ hr, Int.mul_comm]
   congr 1
   exact ze2 (fun a b ha hb => (hat_lo hk P q c a b ha hb).symm) (fun a ha => by unfold hat; rw [if_pos (by omega), if_pos (by omega)]; exact hs _ _ (by omega) (by omega)) r
  ·have e : k + j = n := by omega
   rw [e, key i h1]
   unfold hat; rw [if_pos h1, if_neg h2]
 ·have e : k + i = n := by omega
  by_cases h2 : j < n - k
  ·rw [e, tgt_sym hh (by omega) (by omega) (by omega) (by omega) (by omega), key j h2]
   unfold hat; rw [if_neg h1, if_pos h2]
  ·have e2 : k + j = n := by omega
   rw [e, e2]
   have e3 : hat (n - k) (gP k P) (gQ k P q) (gC k P q c) i j = gC k P q c := by unfold hat; rw [if_neg h1, if_neg h2]
   rw [e3]
   unfold tgt gC
   rw [if_neg (by omega), hat_det hk]
   have e1 : hat n P q c n n = c := by unfold hat; rw [if_neg (Nat.lt_irrefl _), if_neg (Nat.lt_irrefl _)]
   rw [e1, zad (f := fun r => hat n P q c n r * wK k (hat n P q c) r n) (g := fun r => q r * numF k P q r) fun r hr => by
    rw [hat_w hk P q c hr]
    have : hat n P q c n r = -q r := by unfold hat; rw [if_neg (Nat.lt_irrefl _), if_pos (by omega)]
    rw [this]; grind]
   grind
end Go.Gim
/- Quadratic functions: plain laws on lists; how large numbers are. -/
set_option maxRecDepth 100000
namespace Go.Gim
theorem mir_sym (rows : List (List Int)) (n : Nat) : SymM n (at2 (mirM rows n)) := fun i j hi hj => by
 unfold mirM
 rw [zco hi hj, zco hj hi, Nat.max_comm, Nat.min_comm]
theorem sumZ_lim {f : Nat → Int} {B : Nat} : ∀ {n}, (∀ k, k < n → lim (f k) ≤ B) → lim (sumZ f n) ≤ B + n
 | 0, _ => by rw [sumZ, za6]; omega
 | n + 1, h => by
  have h1 := sumZ_lim (f := f) (n := n) fun k hk => h k (by omega)
  have h2 := h n (by omega)
  have h3 := lim_add (sumZ f n) (f n)
  rw [sumZ]; omega
theorem num_lim {k L : Nat} {M : Mx} {b : Nat → Int} (hM : ∀ i j, lim (M i j) ≤ L) (hb : ∀ i, lim (b i) ≤ L) (c : Nat) : lim (numF k M b c) ≤ 2 ^ k * (L + 1) := det_pw (n := k) (setC_lim hM hb c)
theorem g_lim {k L D : Nat} {M : Mx} {q : Nat → Int} {c : Int} (hD : 2 ^ k * (L + 1) ≤ D) (hM : ∀ i j, lim (M i j) ≤ L) (hq : ∀ i, lim (q i) ≤ L) (hc : lim c ≤ L) : (∀ i j, lim (gP k M i j) ≤ L + D + k + 1) ∧ (∀ i, lim (gQ k M q i) ≤ L + D + k + 1) ∧ lim (gC k M q c) ≤ L + D + k + 1 := by
 have hd : lim (det k M) ≤ D := Nat.le_trans (det_pw (n := k) hM) hD
 refine ⟨fun i j => ?_, fun i => ?_, ?_⟩
 ·have h1 := zb4 (M (k + i) (k + j)) (det k M)
  have h2 := hM (k + i) (k + j)
  have h3 : lim (sumZ (fun c => numF k M (M (k + i)) c * M (k + j) c) k) ≤ L + D + k := sumZ_lim fun c hc => by
   have := zb4 (numF k M (M (k + i)) c) (M (k + j) c)
   have := num_lim (k := k) hM (hM (k + i)) c
   have := hM (k + j) c
   omega
  have h4 := lim_sub (M (k + i) (k + j) * det k M) (sumZ (fun c => numF k M (M (k + i)) c * M (k + j) c) k)
  unfold gP; omega
 ·have h1 := zb4 (q (k + i)) (det k M)
  have h2 := hq (k + i)
  have h3 : lim (sumZ (fun c => M (k + i) c * numF k M q c) k) ≤ L + D + k := sumZ_lim fun c hc => by
   have := zb4 (M (k + i) c) (numF k M q c)
   have := num_lim (k := k) hM hq c
   have := hM (k + i) c
   omega
  have h4 := lim_sub (q (k + i) * det k M) (sumZ (fun c => M (k + i) c * numF k M q c) k)
  unfold gQ; omega
 ·have h1 := zb4 c (det k M)
  have h3 : lim (sumZ (fun i => q i * numF k M q i) k) ≤ L + D + k := sumZ_lim fun c hc => by
   have := zb4 (q c) (numF k M q c)
   have := num_lim (k := k) hM hq c
   have := hq c
   omega
  have h4 := lim_sub (c * det k M) (sumZ (fun i => q i * numF k M q i) k)
  unfold gC; omega
end Go.Gim

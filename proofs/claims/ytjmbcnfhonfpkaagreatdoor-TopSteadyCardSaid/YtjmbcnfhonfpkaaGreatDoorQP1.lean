import Derived.Test.YtjmbcnfhonfpkaaGreatDoorDT5
/- Quadratic functions: what is left without the first numbers; plain laws. -/
set_option maxRecDepth 100000
set_option linter.unusedSimpArgs false
set_option linter.unusedVariables false
namespace Go.Gim
def hat (n : Nat) (P : Mx) (q : Nat → Int) (c : Int) : Mx := fun i j => if i < n then (if j < n then P i j else -q i) else if j < n then -q j else c
def ext (n : Nat) (x : Nat → Int) : Nat → Int := fun i => if i < n then x i else 1
def numF (k : Nat) (P : Mx) (b : Nat → Int) (c : Nat) : Int := det k (setC P c b)
theorem numF_congr {k : Nat} {P Q : Mx} {b b' : Nat → Int} (h : ∀ i j, i < k → j < k → P i j = Q i j) (h' : ∀ i, i < k → b i = b' i) (c : Nat) : numF k P b c = numF k Q b' c :=
 zaw fun i j hi hj => by unfold setC; split; exact h' i hi; exact h i j hi hj
theorem wK_num {k : Nat} (P : Mx) {c : Nat} (hc : c < k) (j : Nat) : wK k P c j = numF k P (fun r => P r j) c := wK_setC P hc j
def gP (k : Nat) (P : Mx) (i j : Nat) : Int := P (k + i) (k + j) * det k P - sumZ (fun c => numF k P (P (k + i)) c * P (k + j) c) k
end Go.Gim

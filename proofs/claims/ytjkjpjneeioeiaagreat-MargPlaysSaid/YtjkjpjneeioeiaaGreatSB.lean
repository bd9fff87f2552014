import Derived.Test.YtjkjpjneeioeiaaGreatLI4
import Derived.Test.YtjkjpjneeioeiaaGreatB2
/- Texts of numbers, one behind the other. -/
set_option linter.unusedSimpArgs false
set_option linter.unusedVariables false
namespace Go.Gim
def bst (l : List Nat) : ByteArray := ⟨(l.map UInt8.ofNat).toArray⟩
theorem bst_size (l) : (bst l).size = l.length := by simp [bst, ByteArray.size]
theorem zhf (x : Int) : decS x = bst (decL x) := rfl
theorem bst_nil : (⟨#[]⟩ : ByteArray) = bst [] := rfl
theorem bst_app (a b : List Nat) : bst a ++ bst b = bst (a ++ b) := by
 apply ByteArray.ext
 simp [bst]
theorem zer {a b : List Nat} (h : a.length + b.length ≤ 9223372036854775807) : strV .add (bst a) (bst b) = some (.str (bst (a ++ b))) := by
 simp only [strV]
 rw [bst_size, bst_size, if_pos h, bst_app]
theorem strV_same (s : ByteArray) : strV .eql s s = some (.bool true) := by simp [strV]
def numsL (r : List Int) : List Nat := r.flatMap fun x => decL x ++ [32]
theorem flat_len {α : Type} {f : α → List Nat} {B : Nat} : ∀ {l : List α}, (∀ x ∈ l, (f x).length ≤ B) → (l.flatMap f).length ≤ l.length * B
 | [], _ => by simp
 | x :: l, h => by
  have h1 := h x (by simp)
  have h2 := flat_len (l := l) fun y hy => h y (by simp [hy])
  rw [List.flatMap_cons, List.length_append, List.length_cons, Nat.add_mul]
  omega
theorem numsL_len {r : List Int} {D : Nat} (h : ∀ x ∈ r, dlim x ≤ D) : (numsL r).length ≤ r.length * (D + 2) := flat_len fun x hx => by
 have h1 := zhg x
 have h2 := h x hx
 rw [List.length_append, List.length_singleton]; omega
theorem numsL_snoc (r : List Int) (x : Int) : numsL (r ++ [x]) = numsL r ++ (decL x ++ [32]) := by simp [numsL]
def digF (B : Nat) : Nat → Nat → List Nat
 | 0, _ => []
 | k + 1, n => if n = 0 then [] else n % B :: digF B k (n / B)
theorem digs_digF {B : Nat} (hB : 2 ≤ B) : ∀ {k n : Nat}, n < B ^ k → digs B n = digF B k n
 | 0, n, h => by
  have : n = 0 := by simpa using h
  subst this; exact zav B
 | k + 1, n, h => by
  by_cases h0 : n = 0
  ·subst h0; rw [zav]; rfl
  ·rw [zdq hB h0, digs_digF hB (k := k) (n := n / B) (by rw [Nat.div_lt_iff_lt_mul (by omega)]; rwa [Nat.pow_succ] at h)]
   simp [digF, h0]
def decF (x : Int) : List Nat := if x = 0 then [48] else (if x < 0 then [45] else []) ++ ((digF 10 20 x.natAbs).map (48 + ·)).reverse
theorem decL_decF {x : Int} (h : x.natAbs < 100000000000000000000) : decL x = decF x := by
 unfold decL decF
 rw [digs_digF (by decide) (k := 20) h]
theorem flat_congr {α : Type} {f g : α → List Nat} : ∀ {l : List α}, (∀ x ∈ l, f x = g x) → l.flatMap f = l.flatMap g
 | [], _ => rfl
 | x :: l, h => by
  have ih := flat_congr (l := l) fun y hy => h y (List.mem_cons_of_mem _ hy)
  rw [List.flatMap_cons, List.flatMap_cons, h x List.mem_cons_self, ih]
theorem bst_eq {a b : List Nat} (h : a = b) : strV .eql (bst a) (bst b) = some (.bool true) := by rw [h]; exact strV_same _
end Go.Gim

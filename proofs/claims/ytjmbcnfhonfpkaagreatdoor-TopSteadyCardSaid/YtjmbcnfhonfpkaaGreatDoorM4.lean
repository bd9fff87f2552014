import Derived.Test.YtjmbcnfhonfpkaaGreatDoorM3
/- Long division of lists of digits: plain. -/
set_option linter.unusedVariables false
set_option linter.unusedSimpArgs false
namespace Go.Gim
def zg0 (B m : Nat) : List Nat → Nat → List Nat
 | [], _ => []
 | x :: xs, c => (x * m + c) % B :: zg0 B m xs ((x * m + c) / B)
theorem scaleL_len (B m : Nat) : ∀ (l : List Nat) (c : Nat), (zg0 B m l c).length = l.length
 | [], _ => rfl
 | x :: xs, c => by simp [zg0, scaleL_len B m xs]
theorem scaleL_lt {B m : Nat} (hB : 0 < B) : ∀ (l : List Nat) (c : Nat), ∀ x ∈ zg0 B m l c, x < B
 | [], _, x, h => by cases h
 | y :: ys, c, x, h => by
  rcases List.mem_cons.1 h with rfl | h
  ·exact Nat.mod_lt _ hB
  ·exact scaleL_lt hB ys _ x h
theorem scaleL_val {B m : Nat} (hB : 0 < B) : ∀ (l : List Nat) (c : Nat), val B (zg0 B m l c) = (m * val B l + c) % B ^ l.length
 | [], c => by simp [zg0, val, Nat.mod_one]
 | x :: xs, c => by
  rw [zg0, val, scaleL_val hB xs, val, List.length_cons, Nat.pow_succ, Nat.mul_comm (B ^ xs.length) B, Nat.mod_mul]
  have e : m * (x + B * val B xs) + c = (x * m + c) + B * (m * val B xs) := by
   rw [Nat.mul_add, Nat.mul_comm m x, Nat.mul_left_comm]; omega
  rw [e, Nat.add_mul_mod_self_left, Nat.add_mul_div_left _ _ hB]
  congr 3; omega
theorem scaleL_all {B m : Nat} (hB : 2 ≤ B) {b : List Nat} (hb : ∀ x ∈ b, x < B) (hm : m < B) : val B (zg0 B m (b ++ [0]) 0) = m * val B b := by
 rw [scaleL_val (by omega), zd4]
 simp only [val, Nat.mul_zero, Nat.add_zero, List.length_append, List.length_cons, List.length_nil, Nat.zero_add]
 refine Nat.mod_eq_of_lt ?_
 have h1 := zgv hB hb
 rw [Nat.pow_succ, Nat.mul_comm]
 exact Nat.mul_lt_mul'' h1 hm
theorem val_cmp {B : Nat} (hB : 2 ≤ B) {a l : List Nat} {i : Nat} (hl : a.length = l.length) (hi : i < a.length) (ha : ∀ x ∈ a, x < B) (hb : ∀ x ∈ l, x < B) (he : a.drop (i + 1) = l.drop (i + 1)) (hlt : a.getD i 0 < l.getD i 0) : val B a < val B l := by
 rw [ze1 (B := B) (l := a) (i := i + 1) (by omega), ze1 (B := B) (l := l) (i := i + 1) (by omega), he, zbg hi, zbg (by omega)]
 have h1 : val B (a.take i) < B ^ i := by
  have := zgv hB (l := a.take i) (fun x hx => ha x (List.mem_of_mem_take hx))
  rwa [List.length_take, Nat.min_eq_left (by omega)] at this
 have h2 : B ^ i * a.getD i 0 + B ^ i ≤ B ^ i * l.getD i 0 := by
  rw [← Nat.mul_succ]; exact Nat.mul_le_mul_left _ hlt
 omega
theorem digit_le {B top bt A b P d : Nat} (hA : A < (top + 1) * P) (hb : bt * P ≤ b) (hd : d * b ≤ A) (hbt : 0 < bt) : d ≤ top / bt := by
 rw [Nat.le_div_iff_mul_le hbt]
 have h1 : d * bt * P ≤ A := Nat.le_trans (by rw [Nat.mul_assoc]; exact Nat.mul_le_mul_left d hb) hd
 have h2 : d * bt * P < (top + 1) * P := Nat.lt_of_le_of_lt h1 hA
 have := Nat.lt_of_mul_lt_mul_right h2
 omega
theorem top_lt {B : Nat} (hB : 2 ≤ B) {w : List Nat} {n : Nat} (hl : w.length = n + 1) (hn : 1 ≤ n) (hw : ∀ x ∈ w, x < B) : val B w < (w.getD n 0 * B + w.getD (n - 1) 0 + 1) * B ^ (n - 1) := by
 obtain ⟨m, rfl⟩ : ∃ m, n = m + 1 := ⟨n - 1, by omega⟩
 rw [show m + 1 - 1 = m by omega]
 have h1 : val B w = val B (w.take (m + 1 + 1)) := by rw [← hl, List.take_length]
 rw [h1, zbg (by omega), zbg (by omega)]
 have h2 : val B (w.take m) < B ^ m := by
  have := zgv hB (l := w.take m) (fun x hx => hw x (List.mem_of_mem_take hx))
  rwa [List.length_take, Nat.min_eq_left (by omega)] at this
 rw [Nat.pow_succ, Nat.add_mul, Nat.add_mul]
 have : w.getD (m + 1) 0 * B * B ^ m = B ^ m * B * w.getD (m + 1) 0 := by rw [Nat.mul_comm, Nat.mul_comm (w.getD (m + 1) 0) B, Nat.mul_assoc]
 have : w.getD m 0 * B ^ m = B ^ m * w.getD m 0 := Nat.mul_comm _ _
 omega
theorem top_le {B : Nat} {b : List Nat} {n : Nat} (hl : b.length = n) (hn : 1 ≤ n) : b.getD (n - 1) 0 * B ^ (n - 1) ≤ val B b := by
 have h1 : val B b = val B (b.take (n - 1 + 1)) := by rw [show n - 1 + 1 = b.length by omega, List.take_length]
 rw [h1, zbg (by omega), Nat.mul_comm]; omega
theorem high_lt {B : Nat} (hB : 2 ≤ B) {w b : List Nat} {n : Nat} (hn : 1 ≤ n) (hl : w.length = n) (hb : b.length = n) (hw : ∀ x ∈ w, x < B) (hbb : ∀ x ∈ b, x < B) (ht : w.getD (n - 1) 0 < b.getD (n - 1) 0) : val B w < val B b :=
 val_cmp hB (by omega) (i := n - 1) (by omega) hw hbb (by rw [List.drop_eq_nil_of_le (by omega), List.drop_eq_nil_of_le (by omega)]) ht
theorem long_step {B b A0 i : Nat} {a q : List Nat} {d v : Nat} (hi : i < q.length) (hz : q.getD i 0 = 0) (hia : i ≤ a.length) (hq : val B (q.take (i + 1)) = 0) (hA : A0 = val B q * b + val B a) (hv : val B (a.drop i) = d * b + v) {a' : List Nat} (ha' : a'.take i = a.take i) (hla : a'.length = a.length) (hd' : val B (a'.drop i) = v) : A0 = val B (q.set i d) * b + val B a' := by
 have hs := val_set (B := B) (l := q) (j := i) (v := d) hi
 rw [hz, Nat.mul_zero, Nat.add_zero] at hs
 rw [hA, hs, ze1 (B := B) (l := a) (i := i) hia, ze1 (B := B) (l := a') (i := i) (by omega), ha', hd', hv]
 rw [Nat.add_mul, Nat.mul_add, Nat.mul_assoc]; omega
end Go.Gim

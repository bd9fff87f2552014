import Derived.Test.YtmfenpedpajfkaaM2
/- Numbers as decimal texts: plain Lean, no program. -/
set_option linter.unusedVariables false
namespace Go.Gim
/-- A number's decimal text. -/
def decL (x : Int) : List Nat := if x = 0 then [48] else (if x < 0 then [45] else []) ++ ((digs 10 x.natAbs).map (48 + ·)).reverse
def decS (x : Int) : ByteArray := ⟨((decL x).map UInt8.ofNat).toArray⟩
theorem digs_ne {n : Nat} (h : n ≠ 0) : digs 10 n ≠ [] := by rw [digs_pos (by decide) h]; simp
theorem tmod_abs (n : Int) : (n.tmod 10).natAbs = n.natAbs % 10 := by rw [Int.natAbs_tmod]; rfl
theorem tdiv_abs (n : Int) : (n.tdiv 10).natAbs = n.natAbs / 10 := by rw [Int.natAbs_tdiv]; rfl
theorem val_set {B : Nat} : ∀ {l : List Nat} {j v : Nat}, j < l.length → val B (l.set j v) + B ^ j * l.getD j 0 = val B l + B ^ j * v
  | [], j, v, h => by simp at h
  | x :: l, 0, v, h => by simp [val]; omega
  | x :: l, j + 1, v, h => by
    have ih := val_set (B := B) (l := l) (j := j) (v := v) (by simpa using h)
    simp only [List.set_cons_succ, val, List.getD_cons_succ, Nat.pow_succ]
    have e1 : B ^ j * B * l.getD j 0 = B * (B ^ j * l.getD j 0) := by rw [Nat.mul_comm (B ^ j) B, Nat.mul_assoc]
    have e2 : B ^ j * B * v = B * (B ^ j * v) := by rw [Nat.mul_comm (B ^ j) B, Nat.mul_assoc]
    rw [e1, e2]
    have := congrArg (B * ·) ih
    simp only [Nat.mul_add] at this
    omega
/-- How many decimal digits a number has. -/
def dlim (x : Int) : Nat := (digs 10 x.natAbs).length
theorem dlim_lt (x : Int) : x.natAbs < 10 ^ dlim x := lt_pow_digs (by decide) _
theorem dlim_of {x : Int} {k : Nat} (h : x.natAbs < 10 ^ k) : dlim x ≤ k := digs_len (by decide) h
theorem dlim_neg (x : Int) : dlim (-x) = dlim x := by simp [dlim]
theorem dlim_lim (x : Int) : dlim x ≤ 10 * lim x := by
  refine dlim_of (Nat.lt_of_lt_of_le (lim_lt x) ?_)
  rw [Nat.pow_mul]
  exact Nat.pow_le_pow_left (by decide) _
theorem dlim_add (x y : Int) : dlim (x + y) ≤ max (dlim x) (dlim y) + 1 := by
  refine dlim_of ?_
  have h1 := dlim_lt x
  have h2 := dlim_lt y
  have h3 : 10 ^ dlim x ≤ 10 ^ max (dlim x) (dlim y) := Nat.pow_le_pow_right (by decide) (Nat.le_max_left _ _)
  have h4 : 10 ^ dlim y ≤ 10 ^ max (dlim x) (dlim y) := Nat.pow_le_pow_right (by decide) (Nat.le_max_right _ _)
  rw [Nat.pow_succ]
  generalize 10 ^ max (dlim x) (dlim y) = p at *
  have : (x + y).natAbs ≤ x.natAbs + y.natAbs := Int.natAbs_add_le x y
  omega
theorem dlim_sub (x y : Int) : dlim (x - y) ≤ max (dlim x) (dlim y) + 1 := by
  have := dlim_add x (-y)
  rwa [dlim_neg, ← Int.sub_eq_add_neg] at this
theorem dlim_mul (x y : Int) : dlim (x * y) ≤ dlim x + dlim y := by
  refine dlim_of ?_
  rw [Int.natAbs_mul, Nat.pow_add]
  exact Nat.mul_lt_mul'' (dlim_lt x) (dlim_lt y)
theorem dlim_i64 {x : Int} (h : -9223372036854775808 ≤ x ∧ x ≤ 9223372036854775807) : dlim x ≤ 20 := Nat.le_trans (dlim_lim x) (by have := lim_i64 h; omega)
theorem d2 : 2 ≤ 10 := by decide
end Go.Gim

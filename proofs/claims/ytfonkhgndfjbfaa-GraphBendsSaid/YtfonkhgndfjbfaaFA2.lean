/- Rows: what they lack. -/
import Derived.Test.YtfonkhgndfjbfaaFA1
set_option maxRecDepth 100000
set_option linter.unusedSimpArgs false
set_option linter.unusedVariables false
namespace Go.Gim
open Go.Proofs
/-- The sum of products of the first n. -/
def dotN (a x : List Int) : Nat → Int
  | 0 => 0
  | n + 1 => dotN a x n + a.getD n 0 * x.getD n 0
def rawR (r : Row4) (x : List Int) : Int := -r.z + dotN r.co x r.co.length
def residR (r : Row4) (x : List Int) : Int := max (-1000000000) (min (rawR r x) 1000000000)
theorem residR_bd (r x) : -1000000000 ≤ residR r x ∧ residR r x ≤ 1000000000 := by unfold residR; omega
def State (x : List Int) : Prop := ∀ v ∈ x, -1000000 ≤ v ∧ v ≤ 1000000
theorem State.get {x : List Int} (h : State x) (i : Nat) : -1000000 ≤ x.getD i 0 ∧ x.getD i 0 ≤ 1000000 := by
  by_cases hi : i < x.length
  · exact h _ (getD_mem' 0 hi)
  · simp [List.getD_eq_getElem?_getD, List.getElem?_eq_none (Nat.le_of_not_lt hi)]
theorem Right4.get {r : Row4} {n : Nat} (h : Right4 r n) (i : Nat) : -1000 ≤ r.co.getD i 0 ∧ r.co.getD i 0 ≤ 1000 := by
  by_cases hi : i < r.co.length
  · exact h.co _ (getD_mem' 0 hi)
  · simp [List.getD_eq_getElem?_getD, List.getElem?_eq_none (Nat.le_of_not_lt hi)]
theorem prod_bd {a b A B : Int} (ha : -A ≤ a ∧ a ≤ A) (hb : -B ≤ b ∧ b ≤ B) : -(A * B) ≤ a * b ∧ a * b ≤ A * B := by
  have h1 : (a * b).natAbs ≤ A.natAbs * B.natAbs := by
    rw [Int.natAbs_mul]
    exact Nat.mul_le_mul (by omega) (by omega)
  have h2 : A * B = ((A.natAbs * B.natAbs : Nat) : Int) := by
    rw [Int.natCast_mul, Int.natAbs_of_nonneg (by omega), Int.natAbs_of_nonneg (by omega)]
  omega
theorem dotN_bd {co x : List Int} (hc : ∀ i, -1000 ≤ co.getD i 0 ∧ co.getD i 0 ≤ 1000) (hx : ∀ i, -1000000 ≤ x.getD i 0 ∧ x.getD i 0 ≤ 1000000) : ∀ n : Nat, -(1000000000 * (n : Int)) ≤ dotN co x n ∧ dotN co x n ≤ 1000000000 * (n : Int)
  | 0 => by simp [dotN]
  | n + 1 => by
    have h1 := dotN_bd hc hx n
    have h2 := prod_bd (hc n) (hx n)
    rw [dotN]
    omega
theorem resid_ret (r : Row4) (x : List Int) (hr : Right4 r x.length) (hx : State x) : Ret pg n_factor_Residual [RV r, ints x] (.int .i64 (residR r x)) := by
  have hz := hr.z
  have hn := hr.le
  have hl := hr.len
  have hb := dotN_bd hr.get hx.get
  refine factor_Residual.of rfl (W_b ?_)
  unfold factor_Residual.k factor_Residual.res
  simp -dsimp -implicitDefEqProofs (disch := (first | assumption | omega | (simp only [nats_len, List.length_map, List.length_set, List.length_replicate, List.length_append, List.length_range, upto_len, els_len, List.length_cons, List.length_nil] <;> omega) | (apply isPure_intro <;> simp))) only [go_sem]
  refine W_loop (T := Nat × Nat) (fun t => ⟨E [(1, ints x), (5, .int .i64 (-r.z + dotN r.co x t.1)), (12, ints r.co), (13, .int .i64 r.co.length), (14, .int .i64 t.1)], fun _ => none, t.2, t.2⟩) (fun t => t.1 ≤ r.co.length) (fun t => r.co.length - t.1) (0, _) (by simp [ints, dotN]; rfl) (by dsimp only; omega) ?_
  rintro ⟨i, nx⟩ i1
  dsimp only at i1
  by_cases hi : i < r.co.length
  · have b1 := hb i
    have p1 := hr.get i
    have p2 := hx.get i
    have p3 := prod_bd p1 p2
    have hs : dotN r.co x (i + 1) = dotN r.co x i + r.co.getD i 0 * x.getD i 0 := rfl
    generalize hX : r.co.getD i 0 = a at *
    generalize hY : x.getD i 0 = b at *
    generalize hM : a * b = m at *
    generalize dotN r.co x i = d at *
    simp -dsimp -implicitDefEqProofs (disch := (first | assumption | omega | (simp only [nats_len, List.length_map, List.length_set, List.length_replicate, List.length_append, List.length_range, upto_len, els_len, List.length_cons, List.length_nil] <;> omega) | (apply isPure_intro <;> simp))) only [go_sem, hX, hY, hM]
    exact ⟨(i + 1, _), by dsimp only; rw [hs, Int.add_assoc], by dsimp only; omega, by dsimp only; omega⟩
  · have he : i = r.co.length := by omega
    subst he
    simp -dsimp -implicitDefEqProofs (disch := (first | assumption | omega | (simp only [nats_len, List.length_map, List.length_set, List.length_replicate, List.length_append, List.length_range, upto_len, els_len, List.length_cons, List.length_nil] <;> omega) | (apply isPure_intro <;> simp))) only [go_sem]
    simp [residR, rawR]
end Go.Gim

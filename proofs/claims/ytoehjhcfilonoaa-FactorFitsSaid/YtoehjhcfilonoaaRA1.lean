import Derived.Test.YtoehjhcfilonoaaFA3
import Derived.Test.YtoehjhcfilonoaaLR1
import Derived.Test.YtoehjhcfilonoaaGRR
/- The document's rows: whether they are the same, may be, what they lack, how much they count. -/
set_option maxRecDepth 100000
set_option linter.unusedSimpArgs false
set_option linter.unusedVariables false
namespace Go.Gim
open Go.Proofs
theorem rout_ret (n low top : Int) : Ret pg n_gimbalref16_out [.int .i64 n, .int .i64 low, .int .i64 top] (.bool (outB n low top)) := by
  refine gimbalref16_out.of rfl (W_b ?_)
  unfold gimbalref16_out.k gimbalref16_out.res outB
  by_cases h : n < low
  · simp -dsimp -implicitDefEqProofs (disch := (first | assumption | omega | (simp only [nats_len, List.length_map, List.length_set, List.length_replicate, List.length_append, List.length_range, upto_len, els_len, List.length_cons, List.length_nil] <;> omega) | (apply isPure_intro <;> simp))) only [go_sem, decide_eq_true h, Bool.true_or]
  · simp -dsimp -implicitDefEqProofs (disch := (first | assumption | omega | (simp only [nats_len, List.length_map, List.length_set, List.length_replicate, List.length_append, List.length_range, upto_len, els_len, List.length_cons, List.length_nil] <;> omega) | (apply isPure_intro <;> simp))) only [go_sem, decide_eq_false h, Bool.false_or]
theorem rsame_ret (a b : Row4) (hl : a.co.length ≤ 9223372036854775807) (hlb : b.co.length ≤ 9223372036854775807) : Ret pg n_gimbalref16_Same [RV a, RV b] (.bool (decide (a = b))) := by
  refine gimbalref16_Same.of rfl (W_b ?_)
  unfold gimbalref16_Same.k gimbalref16_Same.res
  have key : a = b ↔ a.co = b.co ∧ a.z = b.z ∧ a.kn = b.kn ∧ a.w = b.w := by
    cases a; cases b; simp
  have no : ∀ {p : Prop}, ¬ p → (a = b → p) → decide (a = b) = false := fun h1 h2 => decide_eq_false fun h => h1 (h2 h)
  by_cases h1 : a.co.length = b.co.length
  · by_cases h2 : a.z = b.z
    · by_cases h3 : a.kn = b.kn
      · by_cases h4 : a.w = b.w
        · simp -dsimp -implicitDefEqProofs (disch := (first | assumption | omega | (simp only [nats_len, List.length_map, List.length_set, List.length_replicate, List.length_append, List.length_range, upto_len, els_len, List.length_cons, List.length_nil] <;> omega) | (apply isPure_intro <;> simp))) only [go_sem, h1, h2, h3, h4]
          refine W_loop (T := Nat × Nat) (fun t => ⟨E [(2, .pp (RV a)), (3, .pp (RV b)), (5, .int .i64 t.1)], fun _ => none, t.2, t.2⟩) (fun t => t.1 ≤ a.co.length ∧ ∀ j, j < t.1 → a.co.getD j 0 = b.co.getD j 0) (fun t => a.co.length - t.1) (0, _) rfl ⟨by dsimp only; omega, fun j h => by dsimp only at h; omega⟩ ?_
          rintro ⟨i, nx⟩ ⟨i1, i2⟩
          dsimp only at i1 i2
          by_cases hi : i < a.co.length
          · by_cases he : a.co.getD i 0 = b.co.getD i 0
            · simp -dsimp -implicitDefEqProofs (disch := (first | assumption | omega | (simp only [nats_len, List.length_map, List.length_set, List.length_replicate, List.length_append, List.length_range, upto_len, els_len, List.length_cons, List.length_nil] <;> omega) | (apply isPure_intro <;> simp))) only [go_sem, he]
              exact ⟨(i + 1, _), rfl, ⟨by dsimp only; omega, fun j hj => by dsimp only at hj; by_cases hji : j = i; (subst hji; exact he); exact i2 j (by omega)⟩, by dsimp only; omega⟩
            · rw [no he fun h => by rw [h]]
              simp -dsimp -implicitDefEqProofs (disch := (first | assumption | omega | (simp only [nats_len, List.length_map, List.length_set, List.length_replicate, List.length_append, List.length_range, upto_len, els_len, List.length_cons, List.length_nil] <;> omega) | (apply isPure_intro <;> simp))) only [go_sem]
          · have hco : a.co = b.co := by
              refine List.ext_getElem h1 fun j j1 j2 => ?_
              have := i2 j (by omega)
              simpa [List.getD_eq_getElem?_getD, j1, j2] using this
            rw [decide_eq_true (key.2 ⟨hco, h2, h3, h4⟩)]
            simp -dsimp -implicitDefEqProofs (disch := (first | assumption | omega | (simp only [nats_len, List.length_map, List.length_set, List.length_replicate, List.length_append, List.length_range, upto_len, els_len, List.length_cons, List.length_nil] <;> omega) | (apply isPure_intro <;> simp))) only [go_sem]
        · rw [no h4 fun h => by rw [h]]
          simp -dsimp -implicitDefEqProofs (disch := (first | assumption | omega | (simp only [nats_len, List.length_map, List.length_set, List.length_replicate, List.length_append, List.length_range, upto_len, els_len, List.length_cons, List.length_nil] <;> omega) | (apply isPure_intro <;> simp))) only [go_sem, h1, h2, h3]
      · rw [no h3 fun h => by rw [h]]
        simp -dsimp -implicitDefEqProofs (disch := (first | assumption | omega | (simp only [nats_len, List.length_map, List.length_set, List.length_replicate, List.length_append, List.length_range, upto_len, els_len, List.length_cons, List.length_nil] <;> omega) | (apply isPure_intro <;> simp))) only [go_sem, h1, h2]
    · rw [no h2 fun h => by rw [h]]
      simp -dsimp -implicitDefEqProofs (disch := (first | assumption | omega | (simp only [nats_len, List.length_map, List.length_set, List.length_replicate, List.length_append, List.length_range, upto_len, els_len, List.length_cons, List.length_nil] <;> omega) | (apply isPure_intro <;> simp))) only [go_sem, h1]
  · rw [no h1 fun h => by rw [h]]
    simp -dsimp -implicitDefEqProofs (disch := (first | assumption | omega | (simp only [nats_len, List.length_map, List.length_set, List.length_replicate, List.length_append, List.length_range, upto_len, els_len, List.length_cons, List.length_nil] <;> omega) | (apply isPure_intro <;> simp))) only [go_sem]
def stateB (x : List Int) : Bool := x.all fun v => !outB v (-1000000) 1000000
theorem stateB_iff {x : List Int} : stateB x = true ↔ State x := by simp [stateB, State, outB, Bool.and_eq_true]
theorem rstate_ret (x : List Int) (hl : x.length ≤ 9223372036854775807) : Ret pg n_gimbalref16_State [ints x] (.bool (stateB x)) := by
  refine gimbalref16_State.of rfl (W_b ?_)
  unfold gimbalref16_State.k gimbalref16_State.res
  simp -dsimp -implicitDefEqProofs (disch := (first | assumption | omega | (simp only [nats_len, List.length_map, List.length_set, List.length_replicate, List.length_append, List.length_range, upto_len, els_len, List.length_cons, List.length_nil] <;> omega) | (apply isPure_intro <;> simp))) only [go_sem]
  refine W_loop (T := Nat × Nat) (fun t => ⟨E [(0, ints x), (3, .int .i64 t.1)], fun _ => none, t.2, t.2⟩) (fun t => t.1 ≤ x.length ∧ ∀ y ∈ x.take t.1, outB y (-1000000) 1000000 = false) (fun t => x.length - t.1) (0, _) rfl ⟨by dsimp only; omega, by simp⟩ ?_
  rintro ⟨i, nx⟩ ⟨i1, i2⟩
  dsimp only at i1 i2
  by_cases hi : i < x.length
  · have hm := getD_mem' 0 hi
    have ht := take_getD 0 hi
    generalize hX : x.getD i 0 = v at *
    simp -dsimp -implicitDefEqProofs (disch := (first | assumption | omega | (simp only [nats_len, List.length_map, List.length_set, List.length_replicate, List.length_append, List.length_range, upto_len, els_len, List.length_cons, List.length_nil] <;> omega) | (apply isPure_intro <;> simp))) only [go_sem, hX]
    refine callB_of (rout_ret _ _ _) (by simp) ?_
    cases hb : outB v (-1000000) 1000000
    · simp -dsimp -implicitDefEqProofs (disch := (first | assumption | omega | (simp only [nats_len, List.length_map, List.length_set, List.length_replicate, List.length_append, List.length_range, upto_len, els_len, List.length_cons, List.length_nil] <;> omega) | (apply isPure_intro <;> simp))) only [go_sem, hX]
      refine ⟨(i + 1, _), rfl, ⟨by dsimp only; omega, fun y hy => ?_⟩, by dsimp only; omega⟩
      dsimp only at hy
      rw [ht] at hy
      rcases List.mem_append.1 hy with hy | hy
      · exact i2 y hy
      · simp at hy; subst hy; exact hb
    · have hall : stateB x = false := List.all_eq_false.2 ⟨v, hm, by simp [hb]⟩
      rw [hall]
      simp -dsimp -implicitDefEqProofs (disch := (first | assumption | omega | (simp only [nats_len, List.length_map, List.length_set, List.length_replicate, List.length_append, List.length_range, upto_len, els_len, List.length_cons, List.length_nil] <;> omega) | (apply isPure_intro <;> simp))) only [go_sem]
  · rw [List.take_of_length_le (by omega)] at i2
    have hall : stateB x = true := List.all_eq_true.2 fun y hy => by simp [i2 y hy]
    rw [hall]
    simp -dsimp -implicitDefEqProofs (disch := (first | assumption | omega | (simp only [nats_len, List.length_map, List.length_set, List.length_replicate, List.length_append, List.length_range, upto_len, els_len, List.length_cons, List.length_nil] <;> omega) | (apply isPure_intro <;> simp))) only [go_sem]
end Go.Gim

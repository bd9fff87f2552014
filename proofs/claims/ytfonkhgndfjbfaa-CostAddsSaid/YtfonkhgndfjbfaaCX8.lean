import Derived.Test.YtfonkhgndfjbfaaCX2
import Derived.Test.YtfonkhgndfjbfaaCF
/- The chapter's examples; the laws on costs. -/
set_option maxRecDepth 100000
set_option maxHeartbeats 4000000
set_option linter.unusedSimpArgs false
set_option linter.unusedVariables false
namespace Go.Gim
open Go.Proofs
theorem outB_or (y : Int) : outB y (-1000000) 1000000 = (decide (y < -1000000) || decide (1000000 < y)) := rfl
theorem cstate_ret (x : List Int) (hl : x.length ≤ 9223372036854775807) : Ret pg n_cost_State [ints x] (.bool (stateB x)) := by
  refine cost_State.of rfl (W_b ?_)
  unfold cost_State.k cost_State.res
  simp -dsimp -implicitDefEqProofs (disch := (first | assumption | omega | (simp only [nats_len, List.length_map, List.length_set, List.length_replicate, List.length_append, List.length_range, upto_len, els_len, List.length_cons, List.length_nil] <;> omega) | (apply isPure_intro <;> simp))) only [go_sem]
  refine W_loop (T := Nat × Nat) (fun t => ⟨E [(5, ints x), (6, .int .i64 x.length), (7, .int .i64 t.1)], fun _ => none, t.2, t.2⟩) (fun t => t.1 ≤ x.length ∧ ∀ y ∈ x.take t.1, outB y (-1000000) 1000000 = false) (fun t => x.length - t.1) (0, _) rfl ⟨by dsimp only; omega, by simp⟩ ?_
  rintro ⟨i, nx⟩ ⟨i1, i2⟩
  dsimp only at i1 i2
  by_cases hi : i < x.length
  · have hm := getD_mem' 0 hi
    have ht := take_getD 0 hi
    generalize hX : x.getD i 0 = v at *
    have ho := outB_or v
    by_cases h1 : v < -1000000
    · have hall : stateB x = false := List.all_eq_false.2 ⟨v, hm, by rw [ho]; simp [h1]⟩
      rw [hall]
      simp -dsimp -implicitDefEqProofs (disch := (first | assumption | omega | (simp only [nats_len, List.length_map, List.length_set, List.length_replicate, List.length_append, List.length_range, upto_len, els_len, List.length_cons, List.length_nil] <;> omega) | (apply isPure_intro <;> simp))) only [go_sem, hX]
    · by_cases h2 : 1000000 < v
      · have hall : stateB x = false := List.all_eq_false.2 ⟨v, hm, by rw [ho]; simp [h2]⟩
        rw [hall]
        simp -dsimp -implicitDefEqProofs (disch := (first | assumption | omega | (simp only [nats_len, List.length_map, List.length_set, List.length_replicate, List.length_append, List.length_range, upto_len, els_len, List.length_cons, List.length_nil] <;> omega) | (apply isPure_intro <;> simp))) only [go_sem, hX]
      · simp -dsimp -implicitDefEqProofs (disch := (first | assumption | omega | (simp only [nats_len, List.length_map, List.length_set, List.length_replicate, List.length_append, List.length_range, upto_len, els_len, List.length_cons, List.length_nil] <;> omega) | (apply isPure_intro <;> simp))) only [go_sem, hX]
        refine ⟨(i + 1, _), rfl, ⟨by dsimp only; omega, fun y hy => ?_⟩, by dsimp only; omega⟩
        dsimp only at hy
        rw [ht] at hy
        rcases List.mem_append.1 hy with hy | hy
        · exact i2 y hy
        · simp at hy; subst hy; rw [ho]; simp [h1, h2]
  · have hie : x.length = i := by omega
    subst hie
    rw [List.take_length] at i2
    have hall : stateB x = true := List.all_eq_true.2 fun y hy => by simp [i2 y hy]
    rw [hall]
    simp -dsimp -implicitDefEqProofs (disch := (first | assumption | omega | (simp only [nats_len, List.length_map, List.length_set, List.length_replicate, List.length_append, List.length_range, upto_len, els_len, List.length_cons, List.length_nil] <;> omega) | (apply isPure_intro <;> simp))) only [go_sem]
def r1 : Row4 := ⟨[1], 0, 5, 3⟩
theorem r1_right : Right4 r1 1 := rightB_iff.1 (by decide)
theorem st1 {v : Int} (h1 : -1000000 ≤ v) (h2 : v ≤ 1000000) : State [v] := fun w hw => by simp at hw; subst hw; exact ⟨h1, h2⟩
theorem ok1 {p den v : Int} (h1 : -1000000 ≤ v) (h2 : v ≤ 1000000) (hp : In64 p) (hd : In64 den) : GOkay ⟨1, [r1], [[p]], [0], 0, den⟩ [v] where
  len := rfl
  hi := by dsimp only; omega
  sixty := by simp
  right := fun r hr => by simp at hr; subst hr; exact r1_right
  state := st1 h1 h2
  sq := ⟨rfl, fun r hr => by simp at hr; subst hr; rfl⟩
  ql := rfl
  sP := fun i j => by
    have := lim_i64 (at2_in (rows := [[p]]) (fun r hr v hv => by simp at hr; subst hr; simp at hv; subst hv; exact hp) i j)
    dsimp only; omega
  sQ := fun i => by
    have := lim_i64 (getD_in (l := [0]) (fun v hv => by simp at hv; subst hv; decide) i)
    dsimp only; omega
  sc := by rw [lim_zero]; omega
  sd := by have := lim_i64 hd; dsimp only; omega
theorem awake18_ret : Ret pg n_gimballaw18_awake [] (.bool true) := by
  have g1 := read18_ret 1 1 [r1] [] [] [4] (by decide) (by decide) (by decide) (by decide) (by decide) (by decide) (by decide)
  have hG1 : rdQ 1 [r1] [] [] 1 [4] = ⟨1, [r1], [[0]], [0], 0, 1⟩ := by unfold rdQ; rw [if_pos (by decide)]; rfl
  rw [hG1, show rdB 1 [r1] 1 [4] = true by decide] at g1
  have g2 := read18_ret 1 2 [r1] [[7]] [] [4] (by decide) (by decide) (by decide) (by decide) (by decide) (by decide) (by decide)
  have hG2 : rdQ 1 [r1] [[7]] [] 2 [4] = ⟨1, [r1], [[7]], [0], 0, 2⟩ := by unfold rdQ; rw [if_pos (by decide)]; rfl
  rw [hG2, show rdB 1 [r1] 2 [4] = true by decide] at g2
  have o4 := ok1 (p := 0) (den := 1) (v := 4) (by decide) (by decide) (by decide) (by decide)
  have o10 := ok1 (p := 0) (den := 1) (v := 10) (by decide) (by decide) (by decide) (by decide)
  have p4 := ok1 (p := 7) (den := 2) (v := 4) (by decide) (by decide) (by decide) (by decide)
  have va := value_ret _ _ o4
  have vb := value_ret _ _ o10
  have vi := value_ret _ _ p4
  rw [show valC ⟨1, [r1], [[0]], [0], 0, 1⟩ [4] = 48 by decide] at va
  rw [show valC ⟨1, [r1], [[0]], [0], 0, 1⟩ [10] = 225 by decide] at vb
  rw [show valC ⟨1, [r1], [[7]], [0], 0, 2⟩ [4] = 208 by decide] at vi
  have sc := csteep_ret _ _ o4
  have sd := csteep_ret _ _ o10
  have sj := csteep_ret _ _ p4
  have c12 : steepC ⟨1, [r1], [[0]], [0], 0, 1⟩ [4] = [12] := by decide
  rw [c12] at sc
  rw [show steepC ⟨1, [r1], [[0]], [0], 0, 1⟩ [10] = [15] by decide] at sd
  rw [show steepC ⟨1, [r1], [[7]], [0], 0, 2⟩ [4] = [52] by decide] at sj
  have fe := flat_ret _ _ 11 o4 (by decide)
  have ff := flat_ret _ _ 12 o4 (by decide)
  rw [c12] at fe ff
  have sk := cstate_ret [1000000, -1000000] (by decide)
  have sl := cstate_ret [1000001] (by decide)
  rw [show stateB [1000000, -1000000] = true by decide] at sk
  rw [show stateB [1000001] = false by decide] at sl
  have tx : ∀ v : Int, In64 v → Ret pg n_gimballaw18_text [ivl [v]] (.str (bst (numsL [v]))) := fun v hv => text_ret [v] (by simp) fun x hx => by simp at hx; subst hx; have := lim_i64 hv; omega
  have st : ∀ v : Int, In64 v → Ret pg n_long_Int_String [IV v] (.str (bst (decL v))) := fun v hv => string_ret v (by have := lim_i64 hv; omega)
  have e1 : ∀ (v : Int) (b : List Nat), (decide (v.natAbs < 100000000000000000000) && decide (decF v = b)) = true → strV .eql (bst (decL v)) (bst b) = some (.bool true) := fun v b h => bst_eq (by
    rw [Bool.and_eq_true, decide_eq_true_eq, decide_eq_true_eq] at h
    rw [decL_decF h.1, h.2])
  have e2 : ∀ (v : Int) (b : List Nat), (decide (v.natAbs < 100000000000000000000) && decide (decF v ++ [32] = b)) = true → strV .eql (bst (numsL [v])) (bst b) = some (.bool true) := fun v b h => bst_eq (by
    rw [Bool.and_eq_true, decide_eq_true_eq, decide_eq_true_eq] at h
    rw [show numsL [v] = decL v ++ [32] by simp [numsL], decL_decF h.1, h.2])
  have q1 : strV .eql (bst (decL 48)) ⟨#[52, 56]⟩ = some (.bool true) := e1 48 [52, 56] (by decide)
  have q2 : strV .eql (bst (decL 225)) ⟨#[50, 50, 53]⟩ = some (.bool true) := e1 225 [50, 50, 53] (by decide)
  have q3 : strV .eql (bst (decL 208)) ⟨#[50, 48, 56]⟩ = some (.bool true) := e1 208 [50, 48, 56] (by decide)
  have q4 : strV .eql (bst (numsL [12])) ⟨#[49, 50, 32]⟩ = some (.bool true) := e2 12 [49, 50, 32] (by decide)
  have q5 : strV .eql (bst (numsL [15])) ⟨#[49, 53, 32]⟩ = some (.bool true) := e2 15 [49, 53, 32] (by decide)
  have q6 : strV .eql (bst (numsL [52])) ⟨#[53, 50, 32]⟩ = some (.bool true) := e2 52 [53, 50, 32] (by decide)
  refine gimballaw18_awake.of rfl (W_b ?_)
  unfold gimballaw18_awake.k gimballaw18_awake.res
  simp -dsimp -implicitDefEqProofs (disch := (first | assumption | omega | (simp only [nats_len, List.length_map, List.length_set, List.length_replicate, List.length_append, List.length_range, upto_len, els_len, List.length_cons, List.length_nil] <;> omega) | (apply isPure_intro <;> simp))) only [go_sem]
  refine callB_frE (fzl [(1, [.int .i64 1]), (3, [RV r1]), (6, [.int .i64 4])]) (fzl_ok fun p hp => by
    simp only [List.mem_cons, List.not_mem_nil, or_false] at hp
    rcases hp with rfl | rfl | rfl <;> exact ⟨⟨_, _, rfl, by simp -dsimp -implicitDefEqProofs (disch := (first | assumption | omega | (simp only [nats_len, List.length_map, List.length_set, List.length_replicate, List.length_append, List.length_range, upto_len, els_len, List.length_cons, List.length_nil] <;> omega) | (apply isPure_intro <;> simp))) only [go_sem] <;> rfl⟩, by simp⟩) (by simp -dsimp -implicitDefEqProofs (disch := (first | assumption | omega | (simp only [nats_len, List.length_map, List.length_set, List.length_replicate, List.length_append, List.length_range, upto_len, els_len, List.length_cons, List.length_nil] <;> omega) | (apply isPure_intro <;> simp))) only [go_sem]; rfl) (g1.nn (args := [.int .i64 1, .sl [RV r1], .nil, .nil, .int .i64 1, ints [4]]) rfl) (by simp) ?_
  simp -dsimp -implicitDefEqProofs (disch := (first | assumption | omega | (simp only [nats_len, List.length_map, List.length_set, List.length_replicate, List.length_append, List.length_range, upto_len, els_len, List.length_cons, List.length_nil] <;> omega) | (apply isPure_intro <;> simp))) only [go_sem]
  refine callB_frE (fzl [(18, [.int .i64 7]), (19, [ints [7]]), (20, [.int .i64 4])]) (fzl_ok fun p hp => by
    simp only [List.mem_cons, List.not_mem_nil, or_false] at hp
    rcases hp with rfl | rfl | rfl <;> exact ⟨⟨_, _, rfl, by simp -dsimp -implicitDefEqProofs (disch := (first | assumption | omega | (simp only [nats_len, List.length_map, List.length_set, List.length_replicate, List.length_append, List.length_range, upto_len, els_len, List.length_cons, List.length_nil] <;> omega) | (apply isPure_intro <;> simp))) only [go_sem] <;> rfl⟩, by simp⟩) (by simp -dsimp -implicitDefEqProofs (disch := (first | assumption | omega | (simp only [nats_len, List.length_map, List.length_set, List.length_replicate, List.length_append, List.length_range, upto_len, els_len, List.length_cons, List.length_nil] <;> omega) | (apply isPure_intro <;> simp))) only [go_sem]; rfl) (g2.nn (args := [.int .i64 1, .sl [RV r1], .sl [ints [7]], .nil, .int .i64 2, ints [4]]) rfl) (by simp) ?_
  simp -dsimp -implicitDefEqProofs (disch := (first | assumption | omega | (simp only [nats_len, List.length_map, List.length_set, List.length_replicate, List.length_append, List.length_range, upto_len, els_len, List.length_cons, List.length_nil] <;> omega) | (apply isPure_intro <;> simp))) only [go_sem]
  refine callB_frE (fz1 38 [.int .i64 4]) (fz1_ok (es := 1) (by rfl) (by simp)) (by simp -dsimp -implicitDefEqProofs (disch := (first | assumption | omega | (simp only [nats_len, List.length_map, List.length_set, List.length_replicate, List.length_append, List.length_range, upto_len, els_len, List.length_cons, List.length_nil] <;> omega) | (apply isPure_intro <;> simp))) only [go_sem]; rfl) va (by simp) ?_
  simp -dsimp -implicitDefEqProofs (disch := (first | assumption | omega | (simp only [nats_len, List.length_map, List.length_set, List.length_replicate, List.length_append, List.length_range, upto_len, els_len, List.length_cons, List.length_nil] <;> omega) | (apply isPure_intro <;> simp))) only [go_sem]
  refine callB_of (st 48 (by decide)) (by simp) ?_
  simp -dsimp -implicitDefEqProofs (disch := (first | assumption | omega | (simp only [nats_len, List.length_map, List.length_set, List.length_replicate, List.length_append, List.length_range, upto_len, els_len, List.length_cons, List.length_nil] <;> omega) | (apply isPure_intro <;> simp))) only [go_sem]
  refine callB_frE (fz1 43 [.int .i64 10]) (fz1_ok (es := 1) (by rfl) (by simp)) (by simp -dsimp -implicitDefEqProofs (disch := (first | assumption | omega | (simp only [nats_len, List.length_map, List.length_set, List.length_replicate, List.length_append, List.length_range, upto_len, els_len, List.length_cons, List.length_nil] <;> omega) | (apply isPure_intro <;> simp))) only [go_sem]; rfl) vb (by simp) ?_
  simp -dsimp -implicitDefEqProofs (disch := (first | assumption | omega | (simp only [nats_len, List.length_map, List.length_set, List.length_replicate, List.length_append, List.length_range, upto_len, els_len, List.length_cons, List.length_nil] <;> omega) | (apply isPure_intro <;> simp))) only [go_sem]
  refine callB_of (st 225 (by decide)) (by simp) ?_
  simp -dsimp -implicitDefEqProofs (disch := (first | assumption | omega | (simp only [nats_len, List.length_map, List.length_set, List.length_replicate, List.length_append, List.length_range, upto_len, els_len, List.length_cons, List.length_nil] <;> omega) | (apply isPure_intro <;> simp))) only [go_sem]
  refine callB_frE (fz1 48 [.int .i64 4]) (fz1_ok (es := 1) (by rfl) (by simp)) (by simp -dsimp -implicitDefEqProofs (disch := (first | assumption | omega | (simp only [nats_len, List.length_map, List.length_set, List.length_replicate, List.length_append, List.length_range, upto_len, els_len, List.length_cons, List.length_nil] <;> omega) | (apply isPure_intro <;> simp))) only [go_sem]; rfl) sc (by simp) ?_
  simp -dsimp -implicitDefEqProofs (disch := (first | assumption | omega | (simp only [nats_len, List.length_map, List.length_set, List.length_replicate, List.length_append, List.length_range, upto_len, els_len, List.length_cons, List.length_nil] <;> omega) | (apply isPure_intro <;> simp))) only [go_sem]
  refine callB_of (tx 12 (by decide)) (by simp) ?_
  simp -dsimp -implicitDefEqProofs (disch := (first | assumption | omega | (simp only [nats_len, List.length_map, List.length_set, List.length_replicate, List.length_append, List.length_range, upto_len, els_len, List.length_cons, List.length_nil] <;> omega) | (apply isPure_intro <;> simp))) only [go_sem]
  refine callB_frE (fz1 53 [.int .i64 10]) (fz1_ok (es := 1) (by rfl) (by simp)) (by simp -dsimp -implicitDefEqProofs (disch := (first | assumption | omega | (simp only [nats_len, List.length_map, List.length_set, List.length_replicate, List.length_append, List.length_range, upto_len, els_len, List.length_cons, List.length_nil] <;> omega) | (apply isPure_intro <;> simp))) only [go_sem]; rfl) sd (by simp) ?_
  simp -dsimp -implicitDefEqProofs (disch := (first | assumption | omega | (simp only [nats_len, List.length_map, List.length_set, List.length_replicate, List.length_append, List.length_range, upto_len, els_len, List.length_cons, List.length_nil] <;> omega) | (apply isPure_intro <;> simp))) only [go_sem]
  refine callB_of (tx 15 (by decide)) (by simp) ?_
  simp -dsimp -implicitDefEqProofs (disch := (first | assumption | omega | (simp only [nats_len, List.length_map, List.length_set, List.length_replicate, List.length_append, List.length_range, upto_len, els_len, List.length_cons, List.length_nil] <;> omega) | (apply isPure_intro <;> simp))) only [go_sem]
  refine callB_frE (fz1 58 [.int .i64 4]) (fz1_ok (es := 1) (by rfl) (by simp)) (by simp -dsimp -implicitDefEqProofs (disch := (first | assumption | omega | (simp only [nats_len, List.length_map, List.length_set, List.length_replicate, List.length_append, List.length_range, upto_len, els_len, List.length_cons, List.length_nil] <;> omega) | (apply isPure_intro <;> simp))) only [go_sem]; rfl) fe (by simp) ?_
  simp -dsimp -implicitDefEqProofs (disch := (first | assumption | omega | (simp only [nats_len, List.length_map, List.length_set, List.length_replicate, List.length_append, List.length_range, upto_len, els_len, List.length_cons, List.length_nil] <;> omega) | (apply isPure_intro <;> simp))) only [go_sem]
  refine callB_frE (fz1 62 [.int .i64 4]) (fz1_ok (es := 1) (by rfl) (by simp)) (by simp -dsimp -implicitDefEqProofs (disch := (first | assumption | omega | (simp only [nats_len, List.length_map, List.length_set, List.length_replicate, List.length_append, List.length_range, upto_len, els_len, List.length_cons, List.length_nil] <;> omega) | (apply isPure_intro <;> simp))) only [go_sem]; rfl) ff (by simp) ?_
  simp -dsimp -implicitDefEqProofs (disch := (first | assumption | omega | (simp only [nats_len, List.length_map, List.length_set, List.length_replicate, List.length_append, List.length_range, upto_len, els_len, List.length_cons, List.length_nil] <;> omega) | (apply isPure_intro <;> simp))) only [go_sem]
  refine callB_frE (fz1 66 [.int .i64 4]) (fz1_ok (es := 1) (by rfl) (by simp)) (by simp -dsimp -implicitDefEqProofs (disch := (first | assumption | omega | (simp only [nats_len, List.length_map, List.length_set, List.length_replicate, List.length_append, List.length_range, upto_len, els_len, List.length_cons, List.length_nil] <;> omega) | (apply isPure_intro <;> simp))) only [go_sem]; rfl) vi (by simp) ?_
  simp -dsimp -implicitDefEqProofs (disch := (first | assumption | omega | (simp only [nats_len, List.length_map, List.length_set, List.length_replicate, List.length_append, List.length_range, upto_len, els_len, List.length_cons, List.length_nil] <;> omega) | (apply isPure_intro <;> simp))) only [go_sem]
  refine callB_of (st 208 (by decide)) (by simp) ?_
  simp -dsimp -implicitDefEqProofs (disch := (first | assumption | omega | (simp only [nats_len, List.length_map, List.length_set, List.length_replicate, List.length_append, List.length_range, upto_len, els_len, List.length_cons, List.length_nil] <;> omega) | (apply isPure_intro <;> simp))) only [go_sem]
  refine callB_frE (fz1 71 [.int .i64 4]) (fz1_ok (es := 1) (by rfl) (by simp)) (by simp -dsimp -implicitDefEqProofs (disch := (first | assumption | omega | (simp only [nats_len, List.length_map, List.length_set, List.length_replicate, List.length_append, List.length_range, upto_len, els_len, List.length_cons, List.length_nil] <;> omega) | (apply isPure_intro <;> simp))) only [go_sem]; rfl) sj (by simp) ?_
  simp -dsimp -implicitDefEqProofs (disch := (first | assumption | omega | (simp only [nats_len, List.length_map, List.length_set, List.length_replicate, List.length_append, List.length_range, upto_len, els_len, List.length_cons, List.length_nil] <;> omega) | (apply isPure_intro <;> simp))) only [go_sem]
  refine callB_of (tx 52 (by decide)) (by simp) ?_
  simp -dsimp -implicitDefEqProofs (disch := (first | assumption | omega | (simp only [nats_len, List.length_map, List.length_set, List.length_replicate, List.length_append, List.length_range, upto_len, els_len, List.length_cons, List.length_nil] <;> omega) | (apply isPure_intro <;> simp))) only [go_sem]
  refine callB_frE (fz1 75 [.int .i64 1000000, .int .i64 (-1000000)]) (fz1_ok (es := 1) (by rfl) (by simp)) (by simp -dsimp -implicitDefEqProofs (disch := (first | assumption | omega | (simp only [nats_len, List.length_map, List.length_set, List.length_replicate, List.length_append, List.length_range, upto_len, els_len, List.length_cons, List.length_nil] <;> omega) | (apply isPure_intro <;> simp))) only [go_sem]; rfl) sk (by simp) ?_
  simp -dsimp -implicitDefEqProofs (disch := (first | assumption | omega | (simp only [nats_len, List.length_map, List.length_set, List.length_replicate, List.length_append, List.length_range, upto_len, els_len, List.length_cons, List.length_nil] <;> omega) | (apply isPure_intro <;> simp))) only [go_sem]
  refine callB_frE (fz1 78 [.int .i64 1000001]) (fz1_ok (es := 1) (by rfl) (by simp)) (by simp -dsimp -implicitDefEqProofs (disch := (first | assumption | omega | (simp only [nats_len, List.length_map, List.length_set, List.length_replicate, List.length_append, List.length_range, upto_len, els_len, List.length_cons, List.length_nil] <;> omega) | (apply isPure_intro <;> simp))) only [go_sem]; rfl) sl (by simp) ?_
  have hf : (([12] : List Int).all fun s => decide (s ≤ 1 * 11) && decide (-s ≤ 1 * 11)) = false := by decide
  have ht : (([12] : List Int).all fun s => decide (s ≤ 1 * 12) && decide (-s ≤ 1 * 12)) = true := by decide
  simp -dsimp -implicitDefEqProofs (disch := (first | assumption | omega | (simp only [nats_len, List.length_map, List.length_set, List.length_replicate, List.length_append, List.length_range, upto_len, els_len, List.length_cons, List.length_nil] <;> omega) | (apply isPure_intro <;> simp))) only [go_sem, q1, q2, q3, q4, q5, q6, hf, ht]
end Go.Gim
/- Graphs without a prior: what they cost, in numbers. -/
set_option maxRecDepth 100000
set_option maxHeartbeats 4000000
set_option linter.unusedSimpArgs false
set_option linter.unusedVariables false
namespace Go.Gim
structure Rq (n : Int) (rows : List Row4) (den : Int) (x : List Int) (m : Nat) : Prop where
  nm : n = m
  len : x.length = m
  lo : 1 ≤ m
  hi : m ≤ 11
  sixty : rows.length ≤ 60
  right : ∀ r ∈ rows, Right4 r x.length
  pos : 0 < den
  state : State x
  new : gnewE n rows = 0
  gr : ∀ prior q, rdQ n rows prior q den x = ⟨m, rows, mirM prior m, padQ q m, 0, den⟩
theorem rdQ_ok {n : Int} {rows : List Row4} {den : Int} {x : List Int} (h : rdB n rows den x = true) : ∃ m : Nat, Rq n rows den x m := by
  have h' := h
  unfold rdB at h
  simp only [Bool.and_eq_true, decide_eq_true_eq] at h
  obtain ⟨⟨⟨h1, h2⟩, h3⟩, h4⟩ := h
  obtain ⟨hn, h60, hrt⟩ := gnewE_ok h1
  obtain ⟨m, rfl⟩ : ∃ m : Nat, n = m := ⟨n.toNat, by omega⟩
  refine ⟨m, rfl, by omega, by omega, by omega, h60, fun r hr => ?_, h2, stateB_iff.1 h4, h1, fun prior q => by unfold rdQ; rw [if_pos h', Int.toNat_natCast]⟩
  have := rightB_iff.1 (hrt r hr)
  rwa [show x.length = m by omega]
abbrev gQ (m : Nat) (rows : List Row4) (prior : List (List Int)) (q : List Int) (den : Int) : Gr := ⟨m, rows, mirM prior m, padQ q m, 0, den⟩
theorem gQ_ok {m : Nat} {rows : List Row4} {prior : List (List Int)} {q : List Int} {den : Int} {y : List Int} (hy : y.length = m) (hm : m ≤ 11) (h60 : rows.length ≤ 60) (hr : ∀ r ∈ rows, Right4 r m) (hs : State y) (hp : ∀ r ∈ prior, ∀ v ∈ r, In64 v) (hq : ∀ v ∈ q, In64 v) (hd : In64 den) : GOkay (gQ m rows prior q den) y where
  len := hy
  hi := hm
  sixty := h60
  right := fun r h => by rw [hy]; exact hr r h
  state := hs
  sq := mirM_sq _ _
  ql := padQ_len _ _
  sP := fun i j => by
    have := lim_at_mat (n := m) (fun i j => lim_i64 (at2_in hp (max i j) (min i j))) i j
    dsimp only [gQ, mirM]; omega
  sQ := fun i => by have := lim_i64 (getD_in (padQ_in hq m) i); dsimp only; omega
  sc := by rw [lim_zero]; omega
  sd := by have := lim_i64 hd; dsimp only; omega
theorem sumN_zero {f p : Nat → Int} (h : ∀ k, f k = 0) : ∀ n, sumN f p n = 0
  | 0 => rfl
  | n + 1 => by rw [sumN, sumN_zero h n, h n]; simp
theorem sumN_zero' {f p : Nat → Int} (h : ∀ k, p k = 0) : ∀ n, sumN f p n = 0
  | 0 => rfl
  | n + 1 => by rw [sumN, sumN_zero' h n, h n]; simp
theorem mir0 (m i j : Nat) : at2 (mirM [] m) i j = 0 := by
  unfold at2
  by_cases hi : i < m
  · by_cases hj : j < m
    · exact (mat_at hi hj).trans (by simp [at2])
    · have := (mirM_sq [] m).row hi
      rw [List.getD_eq_getElem?_getD, List.getElem?_eq_none (by omega)]; rfl
  · have := (mirM_sq [] m).1
    rw [show (mirM [] m).getD i [] = [] by rw [List.getD_eq_getElem?_getD, List.getElem?_eq_none (by omega)]; rfl]; rfl
theorem pad0 (m k : Nat) : (padQ [] m).getD k 0 = 0 := by
  rw [padQ_nil, List.getD_eq_getElem?_getD, List.getElem?_replicate]; split <;> rfl
theorem apply0 (m : Nat) (x : List Int) (n k : Nat) : applyAt (mirM [] m) x n k = 0 := sumN_zero (fun j => mir0 m k j) n
theorem qval0 (m : Nat) (x : List Int) : qval (mirM [] m) (padQ [] m) 0 x = 0 := by
  unfold qval quadV
  rw [sumN_zero' fun k => apply0 m x _ k, sumN_zero fun k => pad0 m k]; rfl
theorem val0 (m : Nat) (rows : List Row4) (x : List Int) : valC (gQ m rows [] [] 1) x = sumL (rows.map fun r => costR r x) := by
  unfold valC costs
  dsimp only [gQ]
  rw [qval0]; omega
theorem step0 (m : Nat) (rows : List Row4) (x : List Int) : steepC (gQ m rows [] [] 1) x = (List.range m).map fun k => colS (rows.map fun r => steepR r x) rows.length k := by
  unfold steepC steeps
  dsimp only [gQ]
  exact List.map_congr_left fun k _ => by rw [apply0, pad0]; omega
end Go.Gim
/- The law that costs are added. -/
set_option maxRecDepth 100000
set_option maxHeartbeats 4000000
set_option linter.unusedSimpArgs false
set_option linter.unusedVariables false
namespace Go.Gim
open Go.Proofs
theorem add_val (m : Nat) (a b : List Row4) (x : List Int) : valC (gQ m (a ++ b) [] [] 1) x = valC (gQ m a [] [] 1) x + valC (gQ m b [] [] 1) x := by
  rw [val0, val0, val0, List.map_append, sumL_app]
theorem colS_all (ls : List (List Int)) (n k : Nat) (h : n = ls.length) : colS ls n k = sumL (ls.map fun l => l.getD k 0) := by
  subst h; unfold colS; rw [List.take_length]
theorem add_steep (m : Nat) (a b : List Row4) (x : List Int) : steepC (gQ m (a ++ b) [] [] 1) x = (List.range m).map fun k => (steepC (gQ m a [] [] 1) x).getD k 0 + (steepC (gQ m b [] [] 1) x).getD k 0 := by
  rw [step0, step0, step0]
  refine List.map_congr_left fun k hk => ?_
  have hk := List.mem_range.1 hk
  rw [range_getD 0 hk, range_getD 0 hk, colS_all _ _ _ (by simp), colS_all _ _ _ (by simp), colS_all _ _ _ (by simp), List.map_append, List.map_append, sumL_app]
theorem rdB_app {m : Nat} {a b : List Row4} {x : List Int} (ha : rdB m a 1 x = true) (hb : rdB m b 1 x = true) : rdB m (a ++ b) 1 x = decide (a.length + b.length ≤ 60) := by
  have g1 : gnewE m a = 0 := by unfold rdB at ha; simp only [Bool.and_eq_true, decide_eq_true_eq] at ha; exact ha.1.1.1
  have g2 : gnewE m b = 0 := by unfold rdB at hb; simp only [Bool.and_eq_true, decide_eq_true_eq] at hb; exact hb.1.1.1
  obtain ⟨h1, h2, h3⟩ := gnewE_ok g1
  obtain ⟨_, _, h4⟩ := gnewE_ok g2
  have key : gnewE m (a ++ b) = if a.length + b.length ≤ 60 then 0 else 3 := by
    unfold gnewE
    rw [if_neg (by omega), List.length_append]
    by_cases h : a.length + b.length ≤ 60
    · rw [if_neg (by omega), if_pos h, if_neg]
      simp only [List.any_eq_true, not_exists, not_and, List.mem_append]
      intro r hr
      rcases hr with hr | hr
      · simp [h3 r hr]
      · simp [h4 r hr]
    · rw [if_pos (by omega), if_neg h]
  have ha' := ha
  unfold rdB at ha ⊢
  rw [key]
  rw [g1] at ha
  by_cases h : a.length + b.length ≤ 60
  · rw [if_pos h, decide_eq_true h]; exact ha
  · rw [if_neg h, decide_eq_false h]; rfl
def adF (f g : Nat → Int) (j k : Nat) : Int := if k < j then f k + g k else f k
theorem adF_set (f g : Nat → Int) (n j : Nat) : ((List.range n).map (adF f g j)).set j (f j + g j) = (List.range n).map (adF f g (j + 1)) := by
  rw [range_set]
  refine List.map_congr_left fun k _ => ?_
  unfold adF
  by_cases h : k = j
  · subst h
    rw [if_pos rfl, if_pos (by omega)]
  · rw [if_neg h]
    by_cases h2 : k < j
    · rw [if_pos h2, if_pos (by omega)]
    · rw [if_neg h2, if_neg (by omega)]
theorem adF_zero (s : List Int) (g : Nat → Int) : s = (List.range s.length).map (adF (fun k => s.getD k 0) g 0) := by
  refine List.ext_getElem (by simp) fun k h1 h2 => ?_
  simp [adF, List.getD_eq_getElem?_getD, h1]
theorem adF_all (f g : Nat → Int) (n : Nat) : (List.range n).map (adF f g n) = (List.range n).map fun k => f k + g k := List.map_congr_left fun k hk => by unfold adF; rw [if_pos (List.mem_range.1 hk)]
theorem cut0 (s : List Int) : redV (.slc 2 false true true) [ivl s, .int .i64 0, .int .i64 0] = some .nil := by
  have h : (s.map IV).all (fun v => decide (v.cells.length = 2)) = true := by simp [IV, V.cells]
  simp [redV, slcArgs, slcV, ivl]
theorem CostAdds_true (n : Int) (rows others : List Row4) (x : List Int) (hl : rows.length ≤ 9223372036854775807) (hr : ∀ r ∈ rows, r.co.length ≤ 9223372036854775807) (hlo : others.length ≤ 9223372036854775807) (hro : ∀ r ∈ others, r.co.length ≤ 9223372036854775807) (hx : x.length ≤ 9223372036854775807) :
    Ret pg n_gimballaw18_CostAdds [.int .i64 n, .sl (rows.map RV), .sl (others.map RV), ints x] (.bool true) := by
  refine gimballaw18_CostAdds.of rfl (W_b ?_)
  unfold gimballaw18_CostAdds.k gimballaw18_CostAdds.res
  simp -dsimp -implicitDefEqProofs (disch := (first | assumption | omega | (simp only [nats_len, List.length_map, List.length_set, List.length_replicate, List.length_append, List.length_range, upto_len, els_len, List.length_cons, List.length_nil] <;> omega) | (apply isPure_intro <;> simp))) only [go_sem]
  refine callB_of awake18_ret (by simp) ?_
  simp -dsimp -implicitDefEqProofs (disch := (first | assumption | omega | (simp only [nats_len, List.length_map, List.length_set, List.length_replicate, List.length_append, List.length_range, upto_len, els_len, List.length_cons, List.length_nil] <;> omega) | (apply isPure_intro <;> simp))) only [go_sem]
  have hrd := (read18_ret n 1 rows [] [] x hl hr (by decide) (by decide) (by decide) hx (by decide)).nn (args := [.int .i64 n, .sl (rows.map RV), .nil, .nil, .int .i64 1, ints x]) rfl
  have hrd2 := (read18_ret n 1 others [] [] x hlo hro (by decide) (by decide) (by decide) hx (by decide)).nn (args := [.int .i64 n, .sl (others.map RV), .nil, .nil, .int .i64 1, ints x]) rfl
  refine callB_of hrd (by simp) ?_
  simp -dsimp -implicitDefEqProofs (disch := (first | assumption | omega | (simp only [nats_len, List.length_map, List.length_set, List.length_replicate, List.length_append, List.length_range, upto_len, els_len, List.length_cons, List.length_nil] <;> omega) | (apply isPure_intro <;> simp))) only [go_sem]
  refine callB_of hrd2 (by simp) ?_
  cases hb : rdB n rows 1 x
  · simp -dsimp -implicitDefEqProofs (disch := (first | assumption | omega | (simp only [nats_len, List.length_map, List.length_set, List.length_replicate, List.length_append, List.length_range, upto_len, els_len, List.length_cons, List.length_nil] <;> omega) | (apply isPure_intro <;> simp))) only [go_sem]
  cases hb2 : rdB n others 1 x
  · simp -dsimp -implicitDefEqProofs (disch := (first | assumption | omega | (simp only [nats_len, List.length_map, List.length_set, List.length_replicate, List.length_append, List.length_range, upto_len, els_len, List.length_cons, List.length_nil] <;> omega) | (apply isPure_intro <;> simp))) only [go_sem]
  obtain ⟨m, hm⟩ := rdQ_ok hb
  obtain ⟨m2, hm2⟩ := rdQ_ok hb2
  obtain ⟨rfl, hxm, hlo', hhi, h60, hrt, hdp, hst, hnew, hg⟩ := hm
  obtain ⟨e2, hxm2, _, _, h602, hrt2, _, _, hnew2, hg2⟩ := hm2
  obtain rfl : m = m2 := by omega
  rw [hg, hg2]
  simp -dsimp -implicitDefEqProofs (disch := (first | assumption | omega | (simp only [nats_len, List.length_map, List.length_set, List.length_replicate, List.length_append, List.length_range, upto_len, els_len, List.length_cons, List.length_nil] <;> omega) | (apply isPure_intro <;> simp))) only [go_sem]
  refine W_gh0 ?_
  generalize hG : Hp.upd (Hp.upd (Hp.upd (Hp.upd (Hp.upd (Hp.upd (Hp.upd (Hp.upd (fun _ => none) 11 _) 12 _) 11 _) 12 _) 24 _) 25 _) 24 _) 25 _ = G
  have p11 : G 11 = some ⟨[GV (gQ m rows [] [] 1)], 8⟩ := by rw [← hG]; rfl
  have p24 : G 24 = some ⟨[GV (gQ m others [] [] 1)], 8⟩ := by rw [← hG]; rfl
  clear hG
  simp -dsimp -implicitDefEqProofs (disch := (first | assumption | omega | (simp only [nats_len, List.length_map, List.length_set, List.length_replicate, List.length_append, List.length_range, upto_len, els_len, List.length_cons, List.length_nil] <;> omega) | (apply isPure_intro <;> simp))) only [go_sem]
  refine effB_of (app_own (news := rows.map RV) rfl (by simp [rowOk, V.cells, V.cellOk, RV, ints]) (by decide) (Hp.upd_same _ _ _) rfl rfl (by simp; omega) (by simp; omega) rfl) ?_
  simp -dsimp -implicitDefEqProofs (disch := (first | assumption | omega | (simp only [nats_len, List.length_map, List.length_set, List.length_replicate, List.length_append, List.length_range, upto_len, els_len, List.length_cons, List.length_nil] <;> omega) | (apply isPure_intro <;> simp))) only [go_sem]
  refine effB_of (app_own (news := others.map RV) rfl (by simp [rowOk, V.cells, V.cellOk, RV, ints]) (by decide) (Hp.upd_same _ _ _) (by simp) rfl (by simp; omega) (by simp; omega) rfl) ?_
  have hall : ∀ r ∈ rows ++ others, r.co.length ≤ 9223372036854775807 := fun r h => by
    rcases List.mem_append.1 h with h | h
    · exact hr r h
    · exact hro r h
  have hrd3 := (read18_ret m 1 (rows ++ others) [] [] x (by rw [List.length_append]; omega) hall (by decide) (by decide) (by decide) hx (by decide)).nn (args := [.int .i64 m, .sl ((rows ++ others).map RV), .nil, .nil, .int .i64 1, ints x]) rfl
  have hbb := rdB_app hb hb2
  rw [hbb] at hrd3
  have hlen : rows.length + (others.map RV).length = ((rows ++ others).map RV).length := by simp
  have e40 : rows.map RV ++ others.map RV = (rows ++ others).map RV := by rw [List.map_append]
  rw [hlen, e40]
  simp -dsimp -implicitDefEqProofs (disch := (first | assumption | omega | (simp only [nats_len, List.length_map, List.length_set, List.length_replicate, List.length_append, List.length_range, upto_len, els_len, List.length_cons, List.length_nil] <;> omega) | (apply isPure_intro <;> simp))) only [go_sem]
  generalize hG2 : Hp.upd (Hp.upd (Hp.upd G 36 none) 38 none) 40 _ = G2
  have r11 : G2 11 = some ⟨[GV (gQ m rows [] [] 1)], 8⟩ := by rw [← hG2]; exact p11
  have r24 : G2 24 = some ⟨[GV (gQ m others [] [] 1)], 8⟩ := by rw [← hG2]; exact p24
  have r40 : G2 40 = some ⟨(rows ++ others).map RV, 4⟩ := by rw [← hG2]; exact Hp.upd_same _ _ _
  clear hG2 p11 p24
  have t11 : Hp.sub (fz1 40 ((rows ++ others).map RV)) G2 11 = some ⟨[GV (gQ m rows [] [] 1)], 8⟩ := sub_at (fz1_ne (by omega)) r11 (by simp -dsimp -implicitDefEqProofs (disch := (first | assumption | omega | (simp only [nats_len, List.length_map, List.length_set, List.length_replicate, List.length_append, List.length_range, upto_len, els_len, List.length_cons, List.length_nil] <;> omega) | (apply isPure_intro <;> simp))) only [go_sem] <;> rfl)
  have t24 : Hp.sub (fz1 40 ((rows ++ others).map RV)) G2 24 = some ⟨[GV (gQ m others [] [] 1)], 8⟩ := sub_at (fz1_ne (by omega)) r24 (by simp -dsimp -implicitDefEqProofs (disch := (first | assumption | omega | (simp only [nats_len, List.length_map, List.length_set, List.length_replicate, List.length_append, List.length_range, upto_len, els_len, List.length_cons, List.length_nil] <;> omega) | (apply isPure_intro <;> simp))) only [go_sem] <;> rfl)
  refine callB_frE (fz1 40 ((rows ++ others).map RV)) (fz1_ok r40 (pure_map fun x => by simp)) (by simp -dsimp -implicitDefEqProofs (disch := (first | assumption | omega | (simp only [nats_len, List.length_map, List.length_set, List.length_replicate, List.length_append, List.length_range, upto_len, els_len, List.length_cons, List.length_nil] <;> omega) | (apply isPure_intro <;> simp))) only [go_sem]) hrd3 (by simp) ?_
  clear r40 r11 r24
  by_cases h60c : rows.length + others.length ≤ 60
  · rw [decide_eq_true h60c] at hbb
    rw [decide_eq_true h60c]
    obtain ⟨m3, hm3⟩ := rdQ_ok hbb
    obtain ⟨e3, _, _, _, h603, hrt3, _, _, hnew3, hg3⟩ := hm3
    obtain rfl : m = m3 := by omega
    rw [hg3]
    have hrm : ∀ r ∈ rows, Right4 r m := fun r h => by rw [← hxm]; exact hrt r h
    have hrm2 : ∀ r ∈ others, Right4 r m := fun r h => by rw [← hxm]; exact hrt2 r h
    have hrm3 : ∀ r ∈ rows ++ others, Right4 r m := fun r h => by rw [← hxm]; exact hrt3 r h
    have o1 := gQ_ok (prior := []) (q := []) (den := 1) hxm hhi h60 hrm hst (by simp) (by simp) (by decide)
    have o2 := gQ_ok (prior := []) (q := []) (den := 1) hxm hhi h602 hrm2 hst (by simp) (by simp) (by decide)
    have o3 := gQ_ok (prior := []) (q := []) (den := 1) hxm hhi h603 hrm3 hst (by simp) (by simp) (by decide)
    have l1 := valC_lim o1
    have l2 := valC_lim o2
    have l3 := valC_lim o3
    have l4 := lim_add (valC (gQ m rows [] [] 1) x) (valC (gQ m others [] [] 1) x)
    have hs0 : (valC (gQ m rows [] [] 1) x + valC (gQ m others [] [] 1) x - valC (gQ m (rows ++ others) [] [] 1) x).sign = 0 := by rw [add_val, Int.sub_self]; rfl
    have st1 := csteep_ret _ _ o1
    have st2 := csteep_ret _ _ o2
    have st3 := csteep_ret _ _ o3
    have sl1 := steepC_lim o1
    have sl2 := steepC_lim o2
    have sl3 := steepC_lim o3
    have sn1 : (steepC (gQ m rows [] [] 1) x).length = m := by simp [steepC]
    have sn2 : (steepC (gQ m others [] [] 1) x).length = m := by simp [steepC]
    have hst3 := add_steep m rows others x
    generalize steepC (gQ m rows [] [] 1) x = s at *
    generalize steepC (gQ m others [] [] 1) x = s' at *
    simp -dsimp -implicitDefEqProofs (disch := (first | assumption | omega | (simp only [nats_len, List.length_map, List.length_set, List.length_replicate, List.length_append, List.length_range, upto_len, els_len, List.length_cons, List.length_nil] <;> omega) | (apply isPure_intro <;> simp))) only [go_sem, t11, t24]
    first | refine callB_of (value_ret _ _ o1) (by simp) ?_ | refine callP_of (value_ret _ _ o1) (by simp) ?_
    simp -dsimp -implicitDefEqProofs (disch := (first | assumption | omega | (simp only [nats_len, List.length_map, List.length_set, List.length_replicate, List.length_append, List.length_range, upto_len, els_len, List.length_cons, List.length_nil] <;> omega) | (apply isPure_intro <;> simp))) only [go_sem, t11, t24]
    first | refine callB_of (value_ret _ _ o2) (by simp) ?_ | refine callP_of (value_ret _ _ o2) (by simp) ?_
    simp -dsimp -implicitDefEqProofs (disch := (first | assumption | omega | (simp only [nats_len, List.length_map, List.length_set, List.length_replicate, List.length_append, List.length_range, upto_len, els_len, List.length_cons, List.length_nil] <;> omega) | (apply isPure_intro <;> simp))) only [go_sem]
    first | refine callB_of (add_ret (valC (gQ m rows [] [] 1) x) (valC (gQ m others [] [] 1) x) (by omega) (by omega)) (by simp) ?_ | refine callP_of (add_ret (valC (gQ m rows [] [] 1) x) (valC (gQ m others [] [] 1) x) (by omega) (by omega)) (by simp) ?_
    simp -dsimp -implicitDefEqProofs (disch := (first | assumption | omega | (simp only [nats_len, List.length_map, List.length_set, List.length_replicate, List.length_append, List.length_range, upto_len, els_len, List.length_cons, List.length_nil] <;> omega) | (apply isPure_intro <;> simp))) only [go_sem]
    first | refine callB_of (value_ret _ _ o3) (by simp) ?_ | refine callP_of (value_ret _ _ o3) (by simp) ?_
    simp -dsimp -implicitDefEqProofs (disch := (first | assumption | omega | (simp only [nats_len, List.length_map, List.length_set, List.length_replicate, List.length_append, List.length_range, upto_len, els_len, List.length_cons, List.length_nil] <;> omega) | (apply isPure_intro <;> simp))) only [go_sem]
    first | refine callB_of (icmp_ret (valC (gQ m rows [] [] 1) x + valC (gQ m others [] [] 1) x) (valC (gQ m (rows ++ others) [] [] 1) x) (by omega) (by omega)) (by simp) ?_ | refine callP_of (icmp_ret (valC (gQ m rows [] [] 1) x + valC (gQ m others [] [] 1) x) (valC (gQ m (rows ++ others) [] [] 1) x) (by omega) (by omega)) (by simp) ?_
    simp -dsimp -implicitDefEqProofs (disch := (first | assumption | omega | (simp only [nats_len, List.length_map, List.length_set, List.length_replicate, List.length_append, List.length_range, upto_len, els_len, List.length_cons, List.length_nil] <;> omega) | (apply isPure_intro <;> simp))) only [go_sem, t11, t24, hs0]
    first | refine callB_of (st1) (by simp) ?_ | refine callP_of (st1) (by simp) ?_
    simp -dsimp -implicitDefEqProofs (disch := (first | assumption | omega | (simp only [nats_len, List.length_map, List.length_set, List.length_replicate, List.length_append, List.length_range, upto_len, els_len, List.length_cons, List.length_nil] <;> omega) | (apply isPure_intro <;> simp))) only [go_sem, t11, t24]
    first | refine callB_of (st2) (by simp) ?_ | refine callP_of (st2) (by simp) ?_
    have hcut : redV (.slc 2 false true true) [ivl s, .int .i64 0, .int .i64 0] = some .nil := cut0 s
    simp -dsimp -implicitDefEqProofs (disch := (first | assumption | omega | (simp only [nats_len, List.length_map, List.length_set, List.length_replicate, List.length_append, List.length_range, upto_len, els_len, List.length_cons, List.length_nil] <;> omega) | (apply isPure_intro <;> simp))) only [go_sem, sn1, sn2, hcut]
    obtain ⟨a, l, hsa⟩ : ∃ a l, s = a :: l := by cases s with | nil => simp at sn1; omega | cons a l => exact ⟨a, l, rfl⟩
    refine effB_of (app_nil (e := IV a) (l := l.map IV) (y := ivl s) (by rw [hsa]; rfl) (by simp [rowOk, V.cells, V.cellOk, IV]) (by decide) (by rw [hsa] at sn1; simp at sn1 ⊢; omega) (by rw [hsa] at sn1; simp at sn1 ⊢; omega)) ?_
    have hsl : IV a :: l.map IV = s.map IV := by rw [hsa]; rfl
    have hsn : (l.map IV).length + 1 = m := by rw [hsa] at sn1; simpa using sn1
    rw [hsl, hsn]
    simp -dsimp -implicitDefEqProofs (disch := (first | assumption | omega | (simp only [nats_len, List.length_map, List.length_set, List.length_replicate, List.length_append, List.length_range, upto_len, els_len, List.length_cons, List.length_nil] <;> omega) | (apply isPure_intro <;> simp))) only [go_sem]
    generalize hG3 : Hp.upd (Hp.upd (Hp.upd (Hp.upd (Hp.upd (Hp.sub (fz1 40 ((rows ++ others).map RV)) G2) 47 _) 48 _) 47 _) 48 _) 87 _ = G3
    have f47 : G3 47 = some ⟨[GV (gQ m (rows ++ others) [] [] 1)], 8⟩ := by rw [← hG3]; rfl
    have f87 : G3 87 = some ⟨((List.range m).map (adF (fun k => s.getD k 0) (fun k => s'.getD k 0) 0)).map IV, 2⟩ := by
      have := adF_zero s (fun k => s'.getD k 0)
      rw [sn1] at this
      rw [← this, ← hG3]; exact Hp.upd_same _ _ _
    clear hG3 t11 t24 hsa hsl hsn
    refine W_loopG (T := Nat × V × Hp × Nat) (fun t => ⟨E [(0, .int .i64 m), (3, ints x), (9, .bool true), (16, .ptr 47 1 0 0), (19, .int .i64 0), (20, ivl s), (21, ivl s'), (22, t.2.1), (23, .int .i64 t.1)], t.2.2.1, t.2.2.2, t.2.2.2⟩)
      (fun t => t.1 ≤ m ∧ 87 < t.2.2.2 ∧ t.2.2.1 47 = some ⟨[GV (gQ m (rows ++ others) [] [] 1)], 8⟩ ∧ ((t.1 < m ∧ t.2.1 = .own 87 m ∧ t.2.2.1 87 = some ⟨((List.range m).map (adF (fun k => s.getD k 0) (fun k => s'.getD k 0) t.1)).map IV, 2⟩) ∨ (t.1 = m ∧ t.2.1 = ivl ((List.range m).map fun k => s.getD k 0 + s'.getD k 0)))) (fun t => m - t.1) (0, .own 87 m, G3, 90) (Ghost.refl _) ⟨by dsimp only; omega, by dsimp only; omega, f47, .inl ⟨by dsimp only; omega, rfl, f87⟩⟩ ?_
    clear f47 f87
    rintro ⟨i, v, H, nx⟩ ⟨i1, i2, i3, i4⟩
    dsimp only at i1 i2 i3 i4
    by_cases hi : i < m
    · rcases i4 with ⟨_, rfl, i5⟩ | ⟨h, _⟩
      · have b1 := sl1 _ (getD_mem' 0 (show i < s.length by omega))
        have b2 := sl2 _ (getD_mem' 0 (show i < s'.length by omega))
        have hset := adF_set (fun k => s.getD k 0) (fun k => s'.getD k 0) m i
        simp -dsimp -implicitDefEqProofs (disch := (first | assumption | omega | (simp only [nats_len, List.length_map, List.length_set, List.length_replicate, List.length_append, List.length_range, upto_len, els_len, List.length_cons, List.length_nil] <;> omega) | (apply isPure_intro <;> simp))) only [go_sem, i5]
        first | refine callB_of (add_ret _ _ (by omega) (by omega)) (by simp) ?_ | refine callP_of (add_ret _ _ (by omega) (by omega)) (by simp) ?_
        simp -dsimp -implicitDefEqProofs (disch := (first | assumption | omega | (simp only [nats_len, List.length_map, List.length_set, List.length_replicate, List.length_append, List.length_range, upto_len, els_len, List.length_cons, List.length_nil] <;> omega) | (apply isPure_intro <;> simp))) only [go_sem, i5, hset]
        generalize hH4 : Hp.upd H 87 _ = H4
        have k1 := upd_at_ne hH4 i3 (by omega)
        have k2 := upd_at_same hH4
        by_cases him : i + 1 < m
        · exact ⟨(i + 1, .own 87 m, H4, _), Ghost.refl _, ⟨by dsimp only; omega, by dsimp only; omega, k1, .inl ⟨him, rfl, k2⟩⟩, by dsimp only; omega⟩
        · have e : i + 1 = m := by omega
          rw [e, adF_all] at k2
          have k3 : Hp.sub (fz1 87 (((List.range m).map fun k => s.getD k 0 + s'.getD k 0).map IV)) H4 47 = some ⟨[GV (gQ m (rows ++ others) [] [] 1)], 8⟩ := sub_at (fz1_ne (by omega)) k1 (by simp -dsimp -implicitDefEqProofs (disch := (first | assumption | omega | (simp only [nats_len, List.length_map, List.length_set, List.length_replicate, List.length_append, List.length_range, upto_len, els_len, List.length_cons, List.length_nil] <;> omega) | (apply isPure_intro <;> simp))) only [go_sem] <;> rfl)
          exact ⟨(i + 1, ivl ((List.range m).map fun k => s.getD k 0 + s'.getD k 0), Hp.sub (fz1 87 (((List.range m).map fun k => s.getD k 0 + s'.getD k 0).map IV)) H4, _), ghost_told (fz1 87 (((List.range m).map fun k => s.getD k 0 + s'.getD k 0).map IV)) (fz1_ok k2 (pure_map fun x => by simp)) (by simp -dsimp -implicitDefEqProofs (disch := (first | assumption | omega | (simp only [nats_len, List.length_map, List.length_set, List.length_replicate, List.length_append, List.length_range, upto_len, els_len, List.length_cons, List.length_nil] <;> omega) | (apply isPure_intro <;> simp))) only [go_sem] <;> rfl) (fun _ => .inr rfl), ⟨by dsimp only; omega, by dsimp only; omega, k3, .inr ⟨e, rfl⟩⟩, by dsimp only; omega⟩
      · omega
    · rcases i4 with ⟨h, _⟩ | ⟨_, rfl⟩
      · omega
      · have hie : m = i := by omega
        subst hie
        rw [← hst3]
        have sn3 : (steepC (gQ m (rows ++ others) [] [] 1) x).length = m := by simp [steepC]
        simp -dsimp -implicitDefEqProofs (disch := (first | assumption | omega | (simp only [nats_len, List.length_map, List.length_set, List.length_replicate, List.length_append, List.length_range, upto_len, els_len, List.length_cons, List.length_nil] <;> omega) | (apply isPure_intro <;> simp))) only [go_sem]
        first | refine callB_of (text_ret (steepC (gQ m (rows ++ others) [] [] 1) x) (by omega) fun v hv => by have := sl3 v hv; omega) (by simp) ?_ | refine callP_of (text_ret (steepC (gQ m (rows ++ others) [] [] 1) x) (by omega) fun v hv => by have := sl3 v hv; omega) (by simp) ?_
        simp -dsimp -implicitDefEqProofs (disch := (first | assumption | omega | (simp only [nats_len, List.length_map, List.length_set, List.length_replicate, List.length_append, List.length_range, upto_len, els_len, List.length_cons, List.length_nil] <;> omega) | (apply isPure_intro <;> simp))) only [go_sem, i3]
        first | refine callB_of (st3) (by simp) ?_ | refine callP_of (st3) (by simp) ?_
        simp -dsimp -implicitDefEqProofs (disch := (first | assumption | omega | (simp only [nats_len, List.length_map, List.length_set, List.length_replicate, List.length_append, List.length_range, upto_len, els_len, List.length_cons, List.length_nil] <;> omega) | (apply isPure_intro <;> simp))) only [go_sem]
        first | refine callB_of (text_ret (steepC (gQ m (rows ++ others) [] [] 1) x) (by omega) fun v hv => by have := sl3 v hv; omega) (by simp) ?_ | refine callP_of (text_ret (steepC (gQ m (rows ++ others) [] [] 1) x) (by omega) fun v hv => by have := sl3 v hv; omega) (by simp) ?_
        simp -dsimp -implicitDefEqProofs (disch := (first | assumption | omega | (simp only [nats_len, List.length_map, List.length_set, List.length_replicate, List.length_append, List.length_range, upto_len, els_len, List.length_cons, List.length_nil] <;> omega) | (apply isPure_intro <;> simp))) only [go_sem, strV_same]
  · rw [decide_eq_false h60c]
    simp -dsimp -implicitDefEqProofs (disch := (first | assumption | omega | (simp only [nats_len, List.length_map, List.length_set, List.length_replicate, List.length_append, List.length_range, upto_len, els_len, List.length_cons, List.length_nil] <;> omega) | (apply isPure_intro <;> simp))) only [go_sem]
    done
end Go.Gim

import Derived.Test.YtfonkhgndfjbfaaCX2
import Derived.Test.YtfonkhgndfjbfaaCF
/- The chapter's examples; the laws on costs. -/
set_option maxRecDepth 100000
set_option maxHeartbeats 4000000
set_option linter.unusedSimpArgs false
set_option linter.unusedVariables false
namespace Go.Gim
open Go.Proofs
theorem outB_or (y : Int) : outB y (-1000000) 1000000 = (decide (y < -1000000) || decide (1000000 < y)) := rfl
theorem cstate_ret (x : List Int) (hl : x.length ≤ 9223372036854775807) : Ret pg n_cost_State [ints x] (.bool (stateB x)) := by
  refine cost_State.of rfl (W_b ?_)
  unfold cost_State.k cost_State.res
  simp -dsimp -implicitDefEqProofs (disch := (first | assumption | omega | (simp only [nats_len, List.length_map, List.length_set, List.length_replicate, List.length_append, List.length_range, upto_len, els_len, List.length_cons, List.length_nil] <;> omega) | (apply isPure_intro <;> simp))) only [go_sem]
  refine W_loop (T := Nat × Nat) (fun t => ⟨E [(5, ints x), (6, .int .i64 x.length), (7, .int .i64 t.1)], fun _ => none, t.2, t.2⟩) (fun t => t.1 ≤ x.length ∧ ∀ y ∈ x.take t.1, outB y (-1000000) 1000000 = false) (fun t => x.length - t.1) (0, _) rfl ⟨by dsimp only; omega, by simp⟩ ?_
  rintro ⟨i, nx⟩ ⟨i1, i2⟩
  dsimp only at i1 i2
  by_cases hi : i < x.length
  · have hm := getD_mem' 0 hi
    have ht := take_getD 0 hi
    generalize hX : x.getD i 0 = v at *
    have ho := outB_or v
    by_cases h1 : v < -1000000
    · have hall : stateB x = false := List.all_eq_false.2 ⟨v, hm, by rw [ho]; simp [h1]⟩
      rw [hall]
      simp -dsimp -implicitDefEqProofs (disch := (first | assumption | omega | (simp only [nats_len, List.length_map, List.length_set, List.length_replicate, List.length_append, List.length_range, upto_len, els_len, List.length_cons, List.length_nil] <;> omega) | (apply isPure_intro <;> simp))) only [go_sem, hX]
    · by_cases h2 : 1000000 < v
      · have hall : stateB x = false := List.all_eq_false.2 ⟨v, hm, by rw [ho]; simp [h2]⟩
        rw [hall]
        simp -dsimp -implicitDefEqProofs (disch := (first | assumption | omega | (simp only [nats_len, List.length_map, List.length_set, List.length_replicate, List.length_append, List.length_range, upto_len, els_len, List.length_cons, List.length_nil] <;> omega) | (apply isPure_intro <;> simp))) only [go_sem, hX]
      · simp -dsimp -implicitDefEqProofs (disch := (first | assumption | omega | (simp only [nats_len, List.length_map, List.length_set, List.length_replicate, List.length_append, List.length_range, upto_len, els_len, List.length_cons, List.length_nil] <;> omega) | (apply isPure_intro <;> simp))) only [go_sem, hX]
        refine ⟨(i + 1, _), rfl, ⟨by dsimp only; omega, fun y hy => ?_⟩, by dsimp only; omega⟩
        dsimp only at hy
        rw [ht] at hy
        rcases List.mem_append.1 hy with hy | hy
        · exact i2 y hy
        · simp at hy; subst hy; rw [ho]; simp [h1, h2]
  · have hie : x.length = i := by omega
    subst hie
    rw [List.take_length] at i2
    have hall : stateB x = true := List.all_eq_true.2 fun y hy => by simp [i2 y hy]
    rw [hall]
    simp -dsimp -implicitDefEqProofs (disch := (first | assumption | omega | (simp only [nats_len, List.length_map, List.length_set, List.length_replicate, List.length_append, List.length_range, upto_len, els_len, List.length_cons, List.length_nil] <;> omega) | (apply isPure_intro <;> simp))) only [go_sem]
def r1 : Row4 := ⟨[1], 0, 5, 3⟩
theorem r1_right : Right4 r1 1 := rightB_iff.1 (by decide)
theorem st1 {v : Int} (h1 : -1000000 ≤ v) (h2 : v ≤ 1000000) : State [v] := fun w hw => by simp at hw; subst hw; exact ⟨h1, h2⟩
theorem ok1 {p den v : Int} (h1 : -1000000 ≤ v) (h2 : v ≤ 1000000) (hp : In64 p) (hd : In64 den) : GOkay ⟨1, [r1], [[p]], [0], 0, den⟩ [v] where
  len := rfl
  hi := by dsimp only; omega
  sixty := by simp
  right := fun r hr => by simp at hr; subst hr; exact r1_right
  state := st1 h1 h2
  sq := ⟨rfl, fun r hr => by simp at hr; subst hr; rfl⟩
  ql := rfl
  sP := fun i j => by
    have := lim_i64 (at2_in (rows := [[p]]) (fun r hr v hv => by simp at hr; subst hr; simp at hv; subst hv; exact hp) i j)
    dsimp only; omega
  sQ := fun i => by
    have := lim_i64 (getD_in (l := [0]) (fun v hv => by simp at hv; subst hv; decide) i)
    dsimp only; omega
  sc := by rw [lim_zero]; omega
  sd := by have := lim_i64 hd; dsimp only; omega
theorem awake18_ret : Ret pg n_gimballaw18_awake [] (.bool true) := by
  have g1 := read18_ret 1 1 [r1] [] [] [4] (by decide) (by decide) (by decide) (by decide) (by decide) (by decide) (by decide)
  have hG1 : rdQ 1 [r1] [] [] 1 [4] = ⟨1, [r1], [[0]], [0], 0, 1⟩ := by unfold rdQ; rw [if_pos (by decide)]; rfl
  rw [hG1, show rdB 1 [r1] 1 [4] = true by decide] at g1
  have g2 := read18_ret 1 2 [r1] [[7]] [] [4] (by decide) (by decide) (by decide) (by decide) (by decide) (by decide) (by decide)
  have hG2 : rdQ 1 [r1] [[7]] [] 2 [4] = ⟨1, [r1], [[7]], [0], 0, 2⟩ := by unfold rdQ; rw [if_pos (by decide)]; rfl
  rw [hG2, show rdB 1 [r1] 2 [4] = true by decide] at g2
  have o4 := ok1 (p := 0) (den := 1) (v := 4) (by decide) (by decide) (by decide) (by decide)
  have o10 := ok1 (p := 0) (den := 1) (v := 10) (by decide) (by decide) (by decide) (by decide)
  have p4 := ok1 (p := 7) (den := 2) (v := 4) (by decide) (by decide) (by decide) (by decide)
  have va := value_ret _ _ o4
  have vb := value_ret _ _ o10
  have vi := value_ret _ _ p4
  rw [show valC ⟨1, [r1], [[0]], [0], 0, 1⟩ [4] = 48 by decide] at va
  rw [show valC ⟨1, [r1], [[0]], [0], 0, 1⟩ [10] = 225 by decide] at vb
  rw [show valC ⟨1, [r1], [[7]], [0], 0, 2⟩ [4] = 208 by decide] at vi
  have sc := csteep_ret _ _ o4
  have sd := csteep_ret _ _ o10
  have sj := csteep_ret _ _ p4
  have c12 : steepC ⟨1, [r1], [[0]], [0], 0, 1⟩ [4] = [12] := by decide
  rw [c12] at sc
  rw [show steepC ⟨1, [r1], [[0]], [0], 0, 1⟩ [10] = [15] by decide] at sd
  rw [show steepC ⟨1, [r1], [[7]], [0], 0, 2⟩ [4] = [52] by decide] at sj
  have fe := flat_ret _ _ 11 o4 (by decide)
  have ff := flat_ret _ _ 12 o4 (by decide)
  rw [c12] at fe ff
  have sk := cstate_ret [1000000, -1000000] (by decide)
  have sl := cstate_ret [1000001] (by decide)
  rw [show stateB [1000000, -1000000] = true by decide] at sk
  rw [show stateB [1000001] = false by decide] at sl
  have tx : ∀ v : Int, In64 v → Ret pg n_gimballaw18_text [ivl [v]] (.str (bst (numsL [v]))) := fun v hv => text_ret [v] (by simp) fun x hx => by simp at hx; subst hx; have := lim_i64 hv; omega
  have st : ∀ v : Int, In64 v → Ret pg n_long_Int_String [IV v] (.str (bst (decL v))) := fun v hv => string_ret v (by have := lim_i64 hv; omega)
  have e1 : ∀ (v : Int) (b : List Nat), (decide (v.natAbs < 100000000000000000000) && decide (decF v = b)) = true → strV .eql (bst (decL v)) (bst b) = some (.bool true) := fun v b h => bst_eq (by
    rw [Bool.and_eq_true, decide_eq_true_eq, decide_eq_true_eq] at h
    rw [decL_decF h.1, h.2])
  have e2 : ∀ (v : Int) (b : List Nat), (decide (v.natAbs < 100000000000000000000) && decide (decF v ++ [32] = b)) = true → strV .eql (bst (numsL [v])) (bst b) = some (.bool true) := fun v b h => bst_eq (by
    rw [Bool.and_eq_true, decide_eq_true_eq, decide_eq_true_eq] at h
    rw [show numsL [v] = decL v ++ [32] by simp [numsL], decL_decF h.1, h.2])
  have q1 : strV .eql (bst (decL 48)) ⟨#[52, 56]⟩ = some (.bool true) := e1 48 [52, 56] (by decide)
  have q2 : strV .eql (bst (decL 225)) ⟨#[50, 50, 53]⟩ = some (.bool true) := e1 225 [50, 50, 53] (by decide)
  have q3 : strV .eql (bst (decL 208)) ⟨#[50, 48, 56]⟩ = some (.bool true) := e1 208 [50, 48, 56] (by decide)
  have q4 : strV .eql (bst (numsL [12])) ⟨#[49, 50, 32]⟩ = some (.bool true) := e2 12 [49, 50, 32] (by decide)
  have q5 : strV .eql (bst (numsL [15])) ⟨#[49, 53, 32]⟩ = some (.bool true) := e2 15 [49, 53, 32] (by decide)
  have q6 : strV .eql (bst (numsL [52])) ⟨#[53, 50, 32]⟩ = some (.bool true) := e2 52 [53, 50, 32] (by decide)
  refine gimballaw18_awake.of rfl (W_b ?_)
  unfold gimballaw18_awake.k gimballaw18_awake.res
  simp -dsimp -implicitDefEqProofs (disch := (first | assumption | omega | (simp only [nats_len, List.length_map, List.length_set, List.length_replicate, List.length_append, List.length_range, upto_len, els_len, List.length_cons, List.length_nil] <;> omega) | (apply isPure_intro <;> simp))) only [go_sem]
  refine callB_frE (fzl [(1, [.int .i64 1]), (3, [RV r1]), (6, [.int .i64 4])]) (fzl_ok fun p hp => by
    simp only [List.mem_cons, List.not_mem_nil, or_false] at hp
    rcases hp with rfl | rfl | rfl <;> exact ⟨⟨_, _, rfl, by simp -dsimp -implicitDefEqProofs (disch := (first | assumption | omega | (simp only [nats_len, List.length_map, List.length_set, List.length_replicate, List.length_append, List.length_range, upto_len, els_len, List.length_cons, List.length_nil] <;> omega) | (apply isPure_intro <;> simp))) only [go_sem] <;> rfl⟩, by simp⟩) (by simp -dsimp -implicitDefEqProofs (disch := (first | assumption | omega | (simp only [nats_len, List.length_map, List.length_set, List.length_replicate, List.length_append, List.length_range, upto_len, els_len, List.length_cons, List.length_nil] <;> omega) | (apply isPure_intro <;> simp))) only [go_sem]; rfl) (g1.nn (args := [.int .i64 1, .sl [RV r1], .nil, .nil, .int .i64 1, ints [4]]) rfl) (by simp) ?_
  simp -dsimp -implicitDefEqProofs (disch := (first | assumption | omega | (simp only [nats_len, List.length_map, List.length_set, List.length_replicate, List.length_append, List.length_range, upto_len, els_len, List.length_cons, List.length_nil] <;> omega) | (apply isPure_intro <;> simp))) only [go_sem]
  refine callB_frE (fzl [(18, [.int .i64 7]), (19, [ints [7]]), (20, [.int .i64 4])]) (fzl_ok fun p hp => by
    simp only [List.mem_cons, List.not_mem_nil, or_false] at hp
    rcases hp with rfl | rfl | rfl <;> exact ⟨⟨_, _, rfl, by simp -dsimp -implicitDefEqProofs (disch := (first | assumption | omega | (simp only [nats_len, List.length_map, List.length_set, List.length_replicate, List.length_append, List.length_range, upto_len, els_len, List.length_cons, List.length_nil] <;> omega) | (apply isPure_intro <;> simp))) only [go_sem] <;> rfl⟩, by simp⟩) (by simp -dsimp -implicitDefEqProofs (disch := (first | assumption | omega | (simp only [nats_len, List.length_map, List.length_set, List.length_replicate, List.length_append, List.length_range, upto_len, els_len, List.length_cons, List.length_nil] <;> omega) | (apply isPure_intro <;> simp))) only [go_sem]; rfl) (g2.nn (args := [.int .i64 1, .sl [RV r1], .sl [ints [7]], .nil, .int .i64 2, ints [4]]) rfl) (by simp) ?_
  simp -dsimp -implicitDefEqProofs (disch := (first | assumption | omega | (simp only [nats_len, List.length_map, List.length_set, List.length_replicate, List.length_append, List.length_range, upto_len, els_len, List.length_cons, List.length_nil] <;> omega) | (apply isPure_intro <;> simp))) only [go_sem]
  refine callB_frE (fz1 38 [.int .i64 4]) (fz1_ok (es := 1) (by rfl) (by simp)) (by simp -dsimp -implicitDefEqProofs (disch := (first | assumption | omega | (simp only [nats_len, List.length_map, List.length_set, List.length_replicate, List.length_append, List.length_range, upto_len, els_len, List.length_cons, List.length_nil] <;> omega) | (apply isPure_intro <;> simp))) only [go_sem]; rfl) va (by simp) ?_
  simp -dsimp -implicitDefEqProofs (disch := (first | assumption | omega | (simp only [nats_len, List.length_map, List.length_set, List.length_replicate, List.length_append, List.length_range, upto_len, els_len, List.length_cons, List.length_nil] <;> omega) | (apply isPure_intro <;> simp))) only [go_sem]
  refine callB_of (st 48 (by decide)) (by simp) ?_
  simp -dsimp -implicitDefEqProofs (disch := (first | assumption | omega | (simp only [nats_len, List.length_map, List.length_set, List.length_replicate, List.length_append, List.length_range, upto_len, els_len, List.length_cons, List.length_nil] <;> omega) | (apply isPure_intro <;> simp))) only [go_sem]
  refine callB_frE (fz1 43 [.int .i64 10]) (fz1_ok (es := 1) (by rfl) (by simp)) (by simp -dsimp -implicitDefEqProofs (disch := (first | assumption | omega | (simp only [nats_len, List.length_map, List.length_set, List.length_replicate, List.length_append, List.length_range, upto_len, els_len, List.length_cons, List.length_nil] <;> omega) | (apply isPure_intro <;> simp))) only [go_sem]; rfl) vb (by simp) ?_
  simp -dsimp -implicitDefEqProofs (disch := (first | assumption | omega | (simp only [nats_len, List.length_map, List.length_set, List.length_replicate, List.length_append, List.length_range, upto_len, els_len, List.length_cons, List.length_nil] <;> omega) | (apply isPure_intro <;> simp))) only [go_sem]
  refine callB_of (st 225 (by decide)) (by simp) ?_
  simp -dsimp -implicitDefEqProofs (disch := (first | assumption | omega | (simp only [nats_len, List.length_map, List.length_set, List.length_replicate, List.length_append, List.length_range, upto_len, els_len, List.length_cons, List.length_nil] <;> omega) | (apply isPure_intro <;> simp))) only [go_sem]
  refine callB_frE (fz1 48 [.int .i64 4]) (fz1_ok (es := 1) (by rfl) (by simp)) (by simp -dsimp -implicitDefEqProofs (disch := (first | assumption | omega | (simp only [nats_len, List.length_map, List.length_set, List.length_replicate, List.length_append, List.length_range, upto_len, els_len, List.length_cons, List.length_nil] <;> omega) | (apply isPure_intro <;> simp))) only [go_sem]; rfl) sc (by simp) ?_
  simp -dsimp -implicitDefEqProofs (disch := (first | assumption | omega | (simp only [nats_len, List.length_map, List.length_set, List.length_replicate, List.length_append, List.length_range, upto_len, els_len, List.length_cons, List.length_nil] <;> omega) | (apply isPure_intro <;> simp))) only [go_sem]
  refine callB_of (tx 12 (by decide)) (by simp) ?_
  simp -dsimp -implicitDefEqProofs (disch := (first | assumption | omega | (simp only [nats_len, List.length_map, List.length_set, List.length_replicate, List.length_append, List.length_range, upto_len, els_len, List.length_cons, List.length_nil] <;> omega) | (apply isPure_intro <;> simp))) only [go_sem]
  refine callB_frE (fz1 53 [.int .i64 10]) (fz1_ok (es := 1) (by rfl) (by simp)) (by simp -dsimp -implicitDefEqProofs (disch := (first | assumption | omega | (simp only [nats_len, List.length_map, List.length_set, List.length_replicate, List.length_append, List.length_range, upto_len, els_len, List.length_cons, List.length_nil] <;> omega) | (apply isPure_intro <;> simp))) only [go_sem]; rfl) sd (by simp) ?_
  simp -dsimp -implicitDefEqProofs (disch := (first | assumption | omega | (simp only [nats_len, List.length_map, List.length_set, List.length_replicate, List.length_append, List.length_range, upto_len, els_len, List.length_cons, List.length_nil] <;> omega) | (apply isPure_intro <;> simp))) only [go_sem]
  refine callB_of (tx 15 (by decide)) (by simp) ?_
  simp -dsimp -implicitDefEqProofs (disch := (first | assumption | omega | (simp only [nats_len, List.length_map, List.length_set, List.length_replicate, List.length_append, List.length_range, upto_len, els_len, List.length_cons, List.length_nil] <;> omega) | (apply isPure_intro <;> simp))) only [go_sem]
  refine callB_frE (fz1 58 [.int .i64 4]) (fz1_ok (es := 1) (by rfl) (by simp)) (by simp -dsimp -implicitDefEqProofs (disch := (first | assumption | omega | (simp only [nats_len, List.length_map, List.length_set, List.length_replicate, List.length_append, List.length_range, upto_len, els_len, List.length_cons, List.length_nil] <;> omega) | (apply isPure_intro <;> simp))) only [go_sem]; rfl) fe (by simp) ?_
  simp -dsimp -implicitDefEqProofs (disch := (first | assumption | omega | (simp only [nats_len, List.length_map, List.length_set, List.length_replicate, List.length_append, List.length_range, upto_len, els_len, List.length_cons, List.length_nil] <;> omega) | (apply isPure_intro <;> simp))) only [go_sem]
  refine callB_frE (fz1 62 [.int .i64 4]) (fz1_ok (es := 1) (by rfl) (by simp)) (by simp -dsimp -implicitDefEqProofs (disch := (first | assumption | omega | (simp only [nats_len, List.length_map, List.length_set, List.length_replicate, List.length_append, List.length_range, upto_len, els_len, List.length_cons, List.length_nil] <;> omega) | (apply isPure_intro <;> simp))) only [go_sem]; rfl) ff (by simp) ?_
  simp -dsimp -implicitDefEqProofs (disch := (first | assumption | omega | (simp only [nats_len, List.length_map, List.length_set, List.length_replicate, List.length_append, List.length_range, upto_len, els_len, List.length_cons, List.length_nil] <;> omega) | (apply isPure_intro <;> simp))) only [go_sem]
  refine callB_frE (fz1 66 [.int .i64 4]) (fz1_ok (es := 1) (by rfl) (by simp)) (by simp -dsimp -implicitDefEqProofs (disch := (first | assumption | omega | (simp only [nats_len, List.length_map, List.length_set, List.length_replicate, List.length_append, List.length_range, upto_len, els_len, List.length_cons, List.length_nil] <;> omega) | (apply isPure_intro <;> simp))) only [go_sem]; rfl) vi (by simp) ?_
  simp -dsimp -implicitDefEqProofs (disch := (first | assumption | omega | (simp only [nats_len, List.length_map, List.length_set, List.length_replicate, List.length_append, List.length_range, upto_len, els_len, List.length_cons, List.length_nil] <;> omega) | (apply isPure_intro <;> simp))) only [go_sem]
  refine callB_of (st 208 (by decide)) (by simp) ?_
  simp -dsimp -implicitDefEqProofs (disch := (first | assumption | omega | (simp only [nats_len, List.length_map, List.length_set, List.length_replicate, List.length_append, List.length_range, upto_len, els_len, List.length_cons, List.length_nil] <;> omega) | (apply isPure_intro <;> simp))) only [go_sem]
  refine callB_frE (fz1 71 [.int .i64 4]) (fz1_ok (es := 1) (by rfl) (by simp)) (by simp -dsimp -implicitDefEqProofs (disch := (first | assumption | omega | (simp only [nats_len, List.length_map, List.length_set, List.length_replicate, List.length_append, List.length_range, upto_len, els_len, List.length_cons, List.length_nil] <;> omega) | (apply isPure_intro <;> simp))) only [go_sem]; rfl) sj (by simp) ?_
  simp -dsimp -implicitDefEqProofs (disch := (first | assumption | omega | (simp only [nats_len, List.length_map, List.length_set, List.length_replicate, List.length_append, List.length_range, upto_len, els_len, List.length_cons, List.length_nil] <;> omega) | (apply isPure_intro <;> simp))) only [go_sem]
  refine callB_of (tx 52 (by decide)) (by simp) ?_
  simp -dsimp -implicitDefEqProofs (disch := (first | assumption | omega | (simp only [nats_len, List.length_map, List.length_set, List.length_replicate, List.length_append, List.length_range, upto_len, els_len, List.length_cons, List.length_nil] <;> omega) | (apply isPure_intro <;> simp))) only [go_sem]
  refine callB_frE (fz1 75 [.int .i64 1000000, .int .i64 (-1000000)]) (fz1_ok (es := 1) (by rfl) (by simp)) (by simp -dsimp -implicitDefEqProofs (disch := (first | assumption | omega | (simp only [nats_len, List.length_map, List.length_set, List.length_replicate, List.length_append, List.length_range, upto_len, els_len, List.length_cons, List.length_nil] <;> omega) | (apply isPure_intro <;> simp))) only [go_sem]; rfl) sk (by simp) ?_
  simp -dsimp -implicitDefEqProofs (disch := (first | assumption | omega | (simp only [nats_len, List.length_map, List.length_set, List.length_replicate, List.length_append, List.length_range, upto_len, els_len, List.length_cons, List.length_nil] <;> omega) | (apply isPure_intro <;> simp))) only [go_sem]
  refine callB_frE (fz1 78 [.int .i64 1000001]) (fz1_ok (es := 1) (by rfl) (by simp)) (by simp -dsimp -implicitDefEqProofs (disch := (first | assumption | omega | (simp only [nats_len, List.length_map, List.length_set, List.length_replicate, List.length_append, List.length_range, upto_len, els_len, List.length_cons, List.length_nil] <;> omega) | (apply isPure_intro <;> simp))) only [go_sem]; rfl) sl (by simp) ?_
  have hf : (([12] : List Int).all fun s => decide (s ≤ 1 * 11) && decide (-s ≤ 1 * 11)) = false := by decide
  have ht : (([12] : List Int).all fun s => decide (s ≤ 1 * 12) && decide (-s ≤ 1 * 12)) = true := by decide
  simp -dsimp -implicitDefEqProofs (disch := (first | assumption | omega | (simp only [nats_len, List.length_map, List.length_set, List.length_replicate, List.length_append, List.length_range, upto_len, els_len, List.length_cons, List.length_nil] <;> omega) | (apply isPure_intro <;> simp))) only [go_sem, q1, q2, q3, q4, q5, q6, hf, ht]
end Go.Gim
/- Graphs without a prior: what they cost, in numbers. -/
set_option maxRecDepth 100000
set_option maxHeartbeats 4000000
set_option linter.unusedSimpArgs false
set_option linter.unusedVariables false
namespace Go.Gim
structure Rq (n : Int) (rows : List Row4) (den : Int) (x : List Int) (m : Nat) : Prop where
  nm : n = m
  len : x.length = m
  lo : 1 ≤ m
  hi : m ≤ 11
  sixty : rows.length ≤ 60
  right : ∀ r ∈ rows, Right4 r x.length
  pos : 0 < den
  state : State x
  new : gnewE n rows = 0
  gr : ∀ prior q, rdQ n rows prior q den x = ⟨m, rows, mirM prior m, padQ q m, 0, den⟩
theorem rdQ_ok {n : Int} {rows : List Row4} {den : Int} {x : List Int} (h : rdB n rows den x = true) : ∃ m : Nat, Rq n rows den x m := by
  have h' := h
  unfold rdB at h
  simp only [Bool.and_eq_true, decide_eq_true_eq] at h
  obtain ⟨⟨⟨h1, h2⟩, h3⟩, h4⟩ := h
  obtain ⟨hn, h60, hrt⟩ := gnewE_ok h1
  obtain ⟨m, rfl⟩ : ∃ m : Nat, n = m := ⟨n.toNat, by omega⟩
  refine ⟨m, rfl, by omega, by omega, by omega, h60, fun r hr => ?_, h2, stateB_iff.1 h4, h1, fun prior q => by unfold rdQ; rw [if_pos h', Int.toNat_natCast]⟩
  have := rightB_iff.1 (hrt r hr)
  rwa [show x.length = m by omega]
abbrev gQ (m : Nat) (rows : List Row4) (prior : List (List Int)) (q : List Int) (den : Int) : Gr := ⟨m, rows, mirM prior m, padQ q m, 0, den⟩
theorem gQ_ok {m : Nat} {rows : List Row4} {prior : List (List Int)} {q : List Int} {den : Int} {y : List Int} (hy : y.length = m) (hm : m ≤ 11) (h60 : rows.length ≤ 60) (hr : ∀ r ∈ rows, Right4 r m) (hs : State y) (hp : ∀ r ∈ prior, ∀ v ∈ r, In64 v) (hq : ∀ v ∈ q, In64 v) (hd : In64 den) : GOkay (gQ m rows prior q den) y where
  len := hy
  hi := hm
  sixty := h60
  right := fun r h => by rw [hy]; exact hr r h
  state := hs
  sq := mirM_sq _ _
  ql := padQ_len _ _
  sP := fun i j => by
    have := lim_at_mat (n := m) (fun i j => lim_i64 (at2_in hp (max i j) (min i j))) i j
    dsimp only [gQ, mirM]; omega
  sQ := fun i => by have := lim_i64 (getD_in (padQ_in hq m) i); dsimp only; omega
  sc := by rw [lim_zero]; omega
  sd := by have := lim_i64 hd; dsimp only; omega
theorem sumN_zero {f p : Nat → Int} (h : ∀ k, f k = 0) : ∀ n, sumN f p n = 0
  | 0 => rfl
  | n + 1 => by rw [sumN, sumN_zero h n, h n]; simp
theorem sumN_zero' {f p : Nat → Int} (h : ∀ k, p k = 0) : ∀ n, sumN f p n = 0
  | 0 => rfl
  | n + 1 => by rw [sumN, sumN_zero' h n, h n]; simp
theorem mir0 (m i j : Nat) : at2 (mirM [] m) i j = 0 := by
  unfold at2
  by_cases hi : i < m
  · by_cases hj : j < m
    · exact (mat_at hi hj).trans (by simp [at2])
    · have := (mirM_sq [] m).row hi
      rw [List.getD_eq_getElem?_getD, List.getElem?_eq_none (by omega)]; rfl
  · have := (mirM_sq [] m).1
    rw [show (mirM [] m).getD i [] = [] by rw [List.getD_eq_getElem?_getD, List.getElem?_eq_none (by omega)]; rfl]; rfl
theorem pad0 (m k : Nat) : (padQ [] m).getD k 0 = 0 := by
  rw [padQ_nil, List.getD_eq_getElem?_getD, List.getElem?_replicate]; split <;> rfl
theorem apply0 (m : Nat) (x : List Int) (n k : Nat) : applyAt (mirM [] m) x n k = 0 := sumN_zero (fun j => mir0 m k j) n
theorem qval0 (m : Nat) (x : List Int) : qval (mirM [] m) (padQ [] m) 0 x = 0 := by
  unfold qval quadV
  rw [sumN_zero' fun k => apply0 m x _ k, sumN_zero fun k => pad0 m k]; rfl
theorem val0 (m : Nat) (rows : List Row4) (x : List Int) : valC (gQ m rows [] [] 1) x = sumL (rows.map fun r => costR r x) := by
  unfold valC costs
  dsimp only [gQ]
  rw [qval0]; omega
theorem step0 (m : Nat) (rows : List Row4) (x : List Int) : steepC (gQ m rows [] [] 1) x = (List.range m).map fun k => colS (rows.map fun r => steepR r x) rows.length k := by
  unfold steepC steeps
  dsimp only [gQ]
  exact List.map_congr_left fun k _ => by rw [apply0, pad0]; omega
end Go.Gim
/- How steep a cost is tells it from below: plain numbers. -/
set_option maxRecDepth 100000
set_option maxHeartbeats 4000000
set_option linter.unusedSimpArgs false
set_option linter.unusedVariables false
namespace Go.Gim
theorem sq_nn (a : Int) : 0 ≤ a * a := by rcases Int.le_total 0 a with h | h; exact Int.mul_nonneg h h; exact Int.mul_nonneg_of_nonpos_of_nonpos h h
theorem huber_line {a b k : Int} (hk : 1 ≤ k ∧ k ≤ 32768) (ha : -1000000000 ≤ a ∧ a ≤ 1000000000) (hb : -1000000000 ≤ b ∧ b ≤ 1000000000) : hRho a k + 2 * (hSlope a k * (b - a)) ≤ hRho b k := by
  have hc : clampK k = k := by unfold clampK; omega
  have ea : clampR a = a := by unfold clampR; omega
  have eb : clampR b = b := by unfold clampR; omega
  have sa : sizeR a = max a (-a) := by unfold sizeR; rw [ea]
  have sb : sizeR b = max b (-b) := by unfold sizeR; rw [eb]
  unfold hRho hSlope
  rw [hc, ea, eb, sa, sb]
  by_cases h1 : max a (-a) ≤ k
  · rw [if_pos h1, if_pos h1]
    by_cases h2 : max b (-b) ≤ k
    · rw [if_pos h2]
      have := sq_nn (b - a)
      grind
    · rw [if_neg h2]
      by_cases h3 : 0 ≤ b
      · rw [show max b (-b) = b by omega]
        have := Int.mul_nonneg (show 0 ≤ k - a by omega) (show 0 ≤ 2 * b - k - a by omega)
        grind
      · rw [show max b (-b) = -b by omega]
        have := Int.mul_nonneg (show 0 ≤ k + a by omega) (show 0 ≤ -2 * b - k + a by omega)
        grind
  · rw [if_neg h1, if_neg h1]
    by_cases h4 : 0 ≤ a
    · rw [show max a (-a) = a by omega, show max (-k) (min a k) = k by omega]
      by_cases h2 : max b (-b) ≤ k
      · rw [if_pos h2]
        have := sq_nn (b - k)
        grind
      · rw [if_neg h2]
        by_cases h3 : 0 ≤ b
        · rw [show max b (-b) = b by omega]
          grind
        · rw [show max b (-b) = -b by omega]
          have := Int.mul_nonneg (show 0 ≤ k by omega) (show 0 ≤ -b by omega)
          grind
    · rw [show max a (-a) = -a by omega, show max (-k) (min a k) = -k by omega]
      by_cases h2 : max b (-b) ≤ k
      · rw [if_pos h2]
        have := sq_nn (b + k)
        grind
      · rw [if_neg h2]
        by_cases h3 : 0 ≤ b
        · rw [show max b (-b) = b by omega]
          have := Int.mul_nonneg (show 0 ≤ k by omega) (show 0 ≤ b by omega)
          grind
        · rw [show max b (-b) = -b by omega]
          grind
def lineN (s x y : List Int) : Nat → Int
  | 0 => 0
  | n + 1 => lineN s x y n + s.getD n 0 * 2 * (y.getD n 0 - x.getD n 0)
theorem line_row {r : Row4} {x y : List Int} : ∀ n, n ≤ r.co.length → lineN (steepR r x) x y n = 2 * (slopeR r x * (dotN r.co y n - dotN r.co x n))
  | 0, _ => by simp [lineN, dotN]
  | n + 1, h => by
    have e : (steepR r x).getD n 0 = r.co.getD n 0 * slopeR r x := by simp [steepR, List.getD_eq_getElem?_getD, show n < r.co.length by omega]
    rw [lineN, line_row n (by omega), e, dotN, dotN]
    grind
theorem cost_line {r : Row4} {x y : List Int} {m : Nat} (h : Right4 r m) (hx : -1000000000 < residR r x ∧ residR r x < 1000000000) (hy : -1000000000 < residR r y ∧ residR r y < 1000000000) : costR r x + lineN (steepR r x) x y m ≤ costR r y := by
  have hl := h.len
  have e1 : residR r x = rawR r x := by unfold residR at *; omega
  have e2 : residR r y = rawR r y := by unfold residR at *; omega
  have hh := huber_line (a := residR r x) (b := residR r y) h.kn (by omega) (by omega)
  have hd : dotN r.co y m - dotN r.co x m = residR r y - residR r x := by rw [e1, e2]; unfold rawR; rw [show r.co.length = m by omega]; omega
  have hw := h.w
  rw [line_row m (by omega), hd]
  have h3 := Int.mul_le_mul_of_nonneg_left hh (show 0 ≤ r.w by omega)
  unfold costR slopeR
  grind
theorem line_add {s t u x y : List Int} : ∀ n, (∀ k, k < n → s.getD k 0 = t.getD k 0 + u.getD k 0) → lineN s x y n = lineN t x y n + lineN u x y n
  | 0, _ => rfl
  | n + 1, h => by
    rw [lineN, lineN, lineN, line_add n fun k hk => h k (by omega), h n (by omega)]
    grind
def colL (ls : List (List Int)) (m : Nat) : List Int := (List.range m).map fun k => colS ls ls.length k
theorem colL_cons (l : List Int) (ls : List (List Int)) (m k : Nat) (h : k < m) : (colL (l :: ls) m).getD k 0 = l.getD k 0 + (colL ls m).getD k 0 := by
  unfold colL
  rw [range_getD 0 h, range_getD 0 h]
  unfold colS
  rw [List.take_length, List.take_length]
  simp [sumL]
theorem line_all {x y : List Int} {m : Nat} : ∀ {rows : List Row4}, (∀ r ∈ rows, Right4 r m) → (∀ r ∈ rows, -1000000000 < residR r x ∧ residR r x < 1000000000) → (∀ r ∈ rows, -1000000000 < residR r y ∧ residR r y < 1000000000) →
    sumL (rows.map fun r => costR r x) + lineN (colL (rows.map fun r => steepR r x) m) x y m ≤ sumL (rows.map fun r => costR r y)
  | [], _, _, _ => by
    have : ∀ n, n ≤ m → lineN (colL [] m) x y n = 0 := by
      intro n
      induction n with
      | zero => intro _; rfl
      | succ n ih => intro h; rw [lineN, ih (by omega)]; unfold colL; rw [range_getD 0 (by omega)]; simp [colS, sumL]
    rw [List.map_nil, List.map_nil, List.map_nil, this m (Nat.le_refl _)]
    simp [sumL]
  | r :: rows, h1, h2, h3 => by
    have ih := line_all (rows := rows) (fun r h => h1 r (List.mem_cons_of_mem _ h)) (fun r h => h2 r (List.mem_cons_of_mem _ h)) fun r h => h3 r (List.mem_cons_of_mem _ h)
    have hc := cost_line (h1 r List.mem_cons_self) (h2 r List.mem_cons_self) (h3 r List.mem_cons_self)
    simp only [List.map_cons]
    rw [line_add m fun k hk => colL_cons _ _ m k hk]
    simp only [sumL, List.foldr_cons] at ih ⊢
    omega
end Go.Gim
/- The law that costs go upward. -/
set_option maxRecDepth 100000
set_option maxHeartbeats 4000000
set_option linter.unusedSimpArgs false
set_option linter.unusedVariables false
namespace Go.Gim
open Go.Proofs
theorem lineN_lim {s x y : List Int} (hs : ∀ v ∈ s, lim v ≤ 2000) (hx : State x) (hy : State y) : ∀ n, lim (lineN s x y n) ≤ 2010 + n
  | 0 => by have := lim_zero; simp only [lineN]; omega
  | n + 1 => by
    have h1 := lineN_lim hs hx hy n
    have h2 : lim (s.getD n 0) ≤ 2000 := by
      by_cases hn : n < s.length
      · exact hs _ (getD_mem' 0 hn)
      · rw [List.getD_eq_getElem?_getD, List.getElem?_eq_none (by omega)]; have := lim_zero; simp only [Option.getD_none]; omega
    have h3 := lim_mul (s.getD n 0) 2
    have h4 := lim_i64 (x := 2) (by omega)
    have h5 := lim_mul (s.getD n 0 * 2) (y.getD n 0 - x.getD n 0)
    have h6 := lim_i64 (x := y.getD n 0 - x.getD n 0) (by have := hx.get n; have := hy.get n; omega)
    have h7 := lim_add (lineN s x y n) (s.getD n 0 * 2 * (y.getD n 0 - x.getD n 0))
    simp only [lineN]
    omega
theorem CostLine_true (n : Int) (rows : List Row4) (x y : List Int) (hl : rows.length ≤ 9223372036854775807) (hr : ∀ r ∈ rows, r.co.length ≤ 9223372036854775807) (hx : x.length ≤ 9223372036854775807) (hy : y.length ≤ 9223372036854775807) :
    Ret pg n_gimballaw18_CostLine [.int .i64 n, .sl (rows.map RV), ints x, ints y] (.bool true) := by
  refine gimballaw18_CostLine.of rfl (W_b ?_)
  unfold gimballaw18_CostLine.k gimballaw18_CostLine.res
  simp -dsimp -implicitDefEqProofs (disch := (first | assumption | omega | (simp only [nats_len, List.length_map, List.length_set, List.length_replicate, List.length_append, List.length_range, upto_len, els_len, List.length_cons, List.length_nil] <;> omega) | (apply isPure_intro <;> simp))) only [go_sem]
  refine callB_of awake18_ret (by simp) ?_
  simp -dsimp -implicitDefEqProofs (disch := (first | assumption | omega | (simp only [nats_len, List.length_map, List.length_set, List.length_replicate, List.length_append, List.length_range, upto_len, els_len, List.length_cons, List.length_nil] <;> omega) | (apply isPure_intro <;> simp))) only [go_sem]
  have hrd := (read18_ret n 1 rows [] [] x hl hr (by decide) (by decide) (by decide) hx (by decide)).nn (args := [.int .i64 n, .sl (rows.map RV), .nil, .nil, .int .i64 1, ints x]) rfl
  refine callB_of hrd (by simp) ?_
  simp -dsimp -implicitDefEqProofs (disch := (first | assumption | omega | (simp only [nats_len, List.length_map, List.length_set, List.length_replicate, List.length_append, List.length_range, upto_len, els_len, List.length_cons, List.length_nil] <;> omega) | (apply isPure_intro <;> simp))) only [go_sem]
  refine callB_of (rstate_ret y hy) (by simp) ?_
  cases hb : rdB n rows 1 x
  · simp -dsimp -implicitDefEqProofs (disch := (first | assumption | omega | (simp only [nats_len, List.length_map, List.length_set, List.length_replicate, List.length_append, List.length_range, upto_len, els_len, List.length_cons, List.length_nil] <;> omega) | (apply isPure_intro <;> simp))) only [go_sem]
  · obtain ⟨m, hm⟩ := rdQ_ok hb
    obtain ⟨rfl, hxm, hlo, hhi, h60, hrt, hdp, hst, hnew, hg⟩ := hm
    rw [hg]
    have hrm : ∀ r ∈ rows, Right4 r m := fun r h => by rw [← hxm]; exact hrt r h
    have hok := gQ_ok (prior := []) (q := []) (den := 1) hxm hhi h60 hrm hst (by simp) (by simp) (by decide)
    cases hsy : stateB y
    · simp -dsimp -implicitDefEqProofs (disch := (first | assumption | omega | (simp only [nats_len, List.length_map, List.length_set, List.length_replicate, List.length_append, List.length_range, upto_len, els_len, List.length_cons, List.length_nil] <;> omega) | (apply isPure_intro <;> simp))) only [go_sem]
    · have hsty := stateB_iff.1 hsy
      by_cases hym : y.length = m
      · have hoky := gQ_ok (prior := []) (q := []) (den := 1) hym hhi h60 hrm hsty (by simp) (by simp) (by decide)
        simp -dsimp -implicitDefEqProofs (disch := (first | assumption | omega | (simp only [nats_len, List.length_map, List.length_set, List.length_replicate, List.length_append, List.length_range, upto_len, els_len, List.length_cons, List.length_nil] <;> omega) | (apply isPure_intro <;> simp))) only [go_sem, hym]
        refine W_loopG (T := Nat × Hp × Nat) (fun t => ⟨E [(0, .int .i64 m), (1, .sl (rows.map RV)), (2, ints x), (3, ints y), (9, .bool true), (10, .ptr 11 1 0 0), (14, .int .i64 t.1)], t.2.1, t.2.2, t.2.2⟩)
          (fun t => t.1 ≤ rows.length ∧ 11 < t.2.2 ∧ t.2.1 11 = some ⟨[GV (gQ m rows [] [] 1)], 8⟩ ∧ ∀ r ∈ rows.take t.1, (-1000000000 < residR r x ∧ residR r x < 1000000000) ∧ (-1000000000 < residR r y ∧ residR r y < 1000000000)) (fun t => rows.length - t.1) (0, _, _) (Ghost.refl _) ⟨by dsimp only; omega, by dsimp only; omega, rfl, by simp⟩ ?_
        rintro ⟨i, H, nx⟩ ⟨i1, i2, i3, i4⟩
        dsimp only at i1 i2 i3 i4
        by_cases hi : i < rows.length
        · have hri := hrm _ (getD_mem' default hi)
          have ht := take_getD (l := rows) (i := i) default hi
          generalize hX : rows.getD i default = r at *
          simp -dsimp -implicitDefEqProofs (disch := (first | assumption | omega | (simp only [nats_len, List.length_map, List.length_set, List.length_replicate, List.length_append, List.length_range, upto_len, els_len, List.length_cons, List.length_nil] <;> omega) | (apply isPure_intro <;> simp))) only [go_sem, hX]
          first | refine callB_of (resid_ret r x (by rw [hxm]; exact hri) hst) (by simp) ?_ | refine callP_of (resid_ret r x (by rw [hxm]; exact hri) hst) (by simp) ?_
          simp -dsimp -implicitDefEqProofs (disch := (first | assumption | omega | (simp only [nats_len, List.length_map, List.length_set, List.length_replicate, List.length_append, List.length_range, upto_len, els_len, List.length_cons, List.length_nil] <;> omega) | (apply isPure_intro <;> simp))) only [go_sem, hX]
          first | refine callB_of (resid_ret r y (by rw [hym]; exact hri) hsty) (by simp) ?_ | refine callP_of (resid_ret r y (by rw [hym]; exact hri) hsty) (by simp) ?_
          have b1 := residR_bd r x
          have b2 := residR_bd r y
          by_cases c1 : residR r x ≤ -1000000000
          · simp -dsimp -implicitDefEqProofs (disch := (first | assumption | omega | (simp only [nats_len, List.length_map, List.length_set, List.length_replicate, List.length_append, List.length_range, upto_len, els_len, List.length_cons, List.length_nil] <;> omega) | (apply isPure_intro <;> simp))) only [go_sem]
          · by_cases c2 : 1000000000 ≤ residR r x
            · simp -dsimp -implicitDefEqProofs (disch := (first | assumption | omega | (simp only [nats_len, List.length_map, List.length_set, List.length_replicate, List.length_append, List.length_range, upto_len, els_len, List.length_cons, List.length_nil] <;> omega) | (apply isPure_intro <;> simp))) only [go_sem]
            · by_cases c3 : residR r y ≤ -1000000000
              · simp -dsimp -implicitDefEqProofs (disch := (first | assumption | omega | (simp only [nats_len, List.length_map, List.length_set, List.length_replicate, List.length_append, List.length_range, upto_len, els_len, List.length_cons, List.length_nil] <;> omega) | (apply isPure_intro <;> simp))) only [go_sem]
              · by_cases c4 : 1000000000 ≤ residR r y
                · simp -dsimp -implicitDefEqProofs (disch := (first | assumption | omega | (simp only [nats_len, List.length_map, List.length_set, List.length_replicate, List.length_append, List.length_range, upto_len, els_len, List.length_cons, List.length_nil] <;> omega) | (apply isPure_intro <;> simp))) only [go_sem]
                · simp -dsimp -implicitDefEqProofs (disch := (first | assumption | omega | (simp only [nats_len, List.length_map, List.length_set, List.length_replicate, List.length_append, List.length_range, upto_len, els_len, List.length_cons, List.length_nil] <;> omega) | (apply isPure_intro <;> simp))) only [go_sem]
                  exact ⟨(i + 1, H, _), Ghost.refl _, ⟨by dsimp only; omega, by dsimp only; omega, i3, fun q hq => by
                    rw [ht] at hq
                    rcases List.mem_append.1 hq with hq | hq
                    · exact i4 q hq
                    · rw [List.mem_singleton.1 hq]; exact ⟨⟨by omega, by omega⟩, by omega, by omega⟩⟩, by dsimp only; omega⟩
        · have hie : rows.length = i := by omega
          subst hie
          rw [List.take_length] at i4
          have hline := line_all hrm (fun r h => (i4 r h).1) fun r h => (i4 r h).2
          have hsl : (steepC (gQ m rows [] [] 1) x).length = m := by simp [steepC]
          have hsv := steepC_lim hok
          have hvx := valC_lim hok
          have hvy := valC_lim hoky
          have hcl : colL (rows.map fun r => steepR r x) m = steepC (gQ m rows [] [] 1) x := by rw [step0]; unfold colL; rw [List.length_map]
          rw [← val0 m, ← val0 m, hcl] at hline
          generalize hS : steepC (gQ m rows [] [] 1) x = s at *
          simp -dsimp -implicitDefEqProofs (disch := (first | assumption | omega | (simp only [nats_len, List.length_map, List.length_set, List.length_replicate, List.length_append, List.length_range, upto_len, els_len, List.length_cons, List.length_nil] <;> omega) | (apply isPure_intro <;> simp))) only [go_sem, i3]
          first | refine callB_of (csteep_ret _ _ hok) (by simp) ?_ | refine callP_of (csteep_ret _ _ hok) (by simp) ?_
          simp -dsimp -implicitDefEqProofs (disch := (first | assumption | omega | (simp only [nats_len, List.length_map, List.length_set, List.length_replicate, List.length_append, List.length_range, upto_len, els_len, List.length_cons, List.length_nil] <;> omega) | (apply isPure_intro <;> simp))) only [go_sem, i3]
          first | refine callB_of (value_ret _ _ hok) (by simp) ?_ | refine callP_of (value_ret _ _ hok) (by simp) ?_
          simp -dsimp -implicitDefEqProofs (disch := (first | assumption | omega | (simp only [nats_len, List.length_map, List.length_set, List.length_replicate, List.length_append, List.length_range, upto_len, els_len, List.length_cons, List.length_nil] <;> omega) | (apply isPure_intro <;> simp))) only [go_sem, hS, hsl]
          generalize hG : Hp.upd H (nx + 11) _ = G
          have p1 := upd_at_ne hG i3 (by omega)
          have p2 := upd_at_same hG
          clear hG
          refine W_loopG (T := Nat × Hp × Nat) (fun t => ⟨E [(0, .int .i64 m), (2, ints x), (3, ints y), (9, .bool true), (10, .ptr 11 1 0 0), (17, ivl s), (18, .ptr (nx + 11) 1 0 0), (19, .int .i64 t.1)], t.2.1, t.2.2, t.2.2⟩)
            (fun t => t.1 ≤ m ∧ nx + 11 < t.2.2 ∧ t.2.1 11 = some ⟨[GV (gQ m rows [] [] 1)], 8⟩ ∧ t.2.1 (nx + 11) = some ⟨[IV (valC (gQ m rows [] [] 1) x + lineN s x y t.1)], 2⟩) (fun t => m - t.1) (0, G, _) (Ghost.refl _) ⟨by dsimp only; omega, by dsimp only; omega, p1, by rw [show valC (gQ m rows [] [] 1) x + lineN s x y 0 = valC (gQ m rows [] [] 1) x from Int.add_zero _]; exact p2⟩ ?_
          clear p1 p2 i3
          rintro ⟨k, H2, nx2⟩ ⟨k1, k2, k3, k4⟩
          dsimp only at k1 k2 k3 k4
          have hll := lineN_lim hsv hst hsty k
          have l0 := lim_add (valC (gQ m rows [] [] 1) x) (lineN s x y k)
          by_cases hk : k < m
          · have hd : In64 (y.getD k 0 - x.getD k 0) := by have := hst.get k; have := hsty.get k; exact ⟨by omega, by omega⟩
            have e2 := IntWalk.i64_in _ hd
            have l1 := hsv _ (getD_mem' 0 (show k < s.length by omega))
            have l2 := lim_i64 (x := 2) (by omega)
            have l3 := lim_mul (s.getD k 0) 2
            have l4 := lim_i64 hd
            have l5 := lim_mul (s.getD k 0 * 2) (y.getD k 0 - x.getD k 0)
            have e3 : valC (gQ m rows [] [] 1) x + lineN s x y k + s.getD k 0 * 2 * (y.getD k 0 - x.getD k 0) = valC (gQ m rows [] [] 1) x + lineN s x y (k + 1) := by rw [lineN]; omega
            simp -dsimp -implicitDefEqProofs (disch := (first | assumption | omega | (simp only [nats_len, List.length_map, List.length_set, List.length_replicate, List.length_append, List.length_range, upto_len, els_len, List.length_cons, List.length_nil] <;> omega) | (apply isPure_intro <;> simp))) only [go_sem, k4]
            first | refine callB_of (of_ret 2 (by omega)) (by simp) ?_ | refine callP_of (of_ret 2 (by omega)) (by simp) ?_
            simp -dsimp -implicitDefEqProofs (disch := (first | assumption | omega | (simp only [nats_len, List.length_map, List.length_set, List.length_replicate, List.length_append, List.length_range, upto_len, els_len, List.length_cons, List.length_nil] <;> omega) | (apply isPure_intro <;> simp))) only [go_sem]
            first | refine callB_of (mul_ret _ _ (by omega) (by omega)) (by simp) ?_ | refine callP_of (mul_ret _ _ (by omega) (by omega)) (by simp) ?_
            simp -dsimp -implicitDefEqProofs (disch := (first | assumption | omega | (simp only [nats_len, List.length_map, List.length_set, List.length_replicate, List.length_append, List.length_range, upto_len, els_len, List.length_cons, List.length_nil] <;> omega) | (apply isPure_intro <;> simp))) only [go_sem, e2]
            first | refine callB_of (of_ret _ hd) (by simp) ?_ | refine callP_of (of_ret _ hd) (by simp) ?_
            simp -dsimp -implicitDefEqProofs (disch := (first | assumption | omega | (simp only [nats_len, List.length_map, List.length_set, List.length_replicate, List.length_append, List.length_range, upto_len, els_len, List.length_cons, List.length_nil] <;> omega) | (apply isPure_intro <;> simp))) only [go_sem]
            first | refine callB_of (mul_ret _ _ (by omega) (by omega)) (by simp) ?_ | refine callP_of (mul_ret _ _ (by omega) (by omega)) (by simp) ?_
            simp -dsimp -implicitDefEqProofs (disch := (first | assumption | omega | (simp only [nats_len, List.length_map, List.length_set, List.length_replicate, List.length_append, List.length_range, upto_len, els_len, List.length_cons, List.length_nil] <;> omega) | (apply isPure_intro <;> simp))) only [go_sem]
            first | refine callB_of (add_ret _ _ (by omega) (by omega)) (by simp) ?_ | refine callP_of (add_ret _ _ (by omega) (by omega)) (by simp) ?_
            simp -dsimp -implicitDefEqProofs (disch := (first | assumption | omega | (simp only [nats_len, List.length_map, List.length_set, List.length_replicate, List.length_append, List.length_range, upto_len, els_len, List.length_cons, List.length_nil] <;> omega) | (apply isPure_intro <;> simp))) only [go_sem, k4, e3]
            generalize hH4 : Hp.upd H2 (nx + 11) _ = H4
            exact ⟨(k + 1, H4, _), Ghost.refl _, ⟨by dsimp only; omega, by dsimp only; omega, upd_at_ne hH4 k3 (by omega), upd_at_same hH4⟩, by dsimp only; omega⟩
          · have hke : m = k := by omega
            subst hke
            simp -dsimp -implicitDefEqProofs (disch := (first | assumption | omega | (simp only [nats_len, List.length_map, List.length_set, List.length_replicate, List.length_append, List.length_range, upto_len, els_len, List.length_cons, List.length_nil] <;> omega) | (apply isPure_intro <;> simp))) only [go_sem, k3]
            first | refine callB_of (value_ret _ _ hoky) (by simp) ?_ | refine callP_of (value_ret _ _ hoky) (by simp) ?_
            simp -dsimp -implicitDefEqProofs (disch := (first | assumption | omega | (simp only [nats_len, List.length_map, List.length_set, List.length_replicate, List.length_append, List.length_range, upto_len, els_len, List.length_cons, List.length_nil] <;> omega) | (apply isPure_intro <;> simp))) only [go_sem, k4]
            first | refine callB_of (icmp_ret _ _ (by omega) (by omega)) (by simp) ?_ | refine callP_of (icmp_ret _ _ (by omega) (by omega)) (by simp) ?_
            have hsg : 0 ≤ (valC (gQ m rows [] [] 1) y - (valC (gQ m rows [] [] 1) x + lineN s x y m)).sign := by
              rcases Int.le_iff_eq_or_lt.1 (show 0 ≤ valC (gQ m rows [] [] 1) y - (valC (gQ m rows [] [] 1) x + lineN s x y m) by omega) with h | h
              · rw [← h]; decide
              · rw [Int.sign_eq_one_of_pos h]; decide
            simp -dsimp -implicitDefEqProofs (disch := (first | assumption | omega | (simp only [nats_len, List.length_map, List.length_set, List.length_replicate, List.length_append, List.length_range, upto_len, els_len, List.length_cons, List.length_nil] <;> omega) | (apply isPure_intro <;> simp))) only [go_sem, hsg]
      · simp -dsimp -implicitDefEqProofs (disch := (first | assumption | omega | (simp only [nats_len, List.length_map, List.length_set, List.length_replicate, List.length_append, List.length_range, upto_len, els_len, List.length_cons, List.length_nil] <;> omega) | (apply isPure_intro <;> simp))) only [go_sem, hym]
end Go.Gim

import Derived.Test.YtfonkhgndfjbfaaCX2
import Derived.Test.YtfonkhgndfjbfaaCF
/- The chapter's examples; the laws on costs. -/
set_option maxRecDepth 100000
set_option maxHeartbeats 4000000
set_option linter.unusedSimpArgs false
set_option linter.unusedVariables false
namespace Go.Gim
open Go.Proofs
theorem outB_or (y : Int) : outB y (-1000000) 1000000 = (decide (y < -1000000) || decide (1000000 < y)) := rfl
theorem cstate_ret (x : List Int) (hl : x.length ≤ 9223372036854775807) : Ret pg n_cost_State [ints x] (.bool (stateB x)) := by
  refine cost_State.of rfl (W_b ?_)
  unfold cost_State.k cost_State.res
  simp -dsimp -implicitDefEqProofs (disch := (first | assumption | omega | (simp only [nats_len, List.length_map, List.length_set, List.length_replicate, List.length_append, List.length_range, upto_len, els_len, List.length_cons, List.length_nil] <;> omega) | (apply isPure_intro <;> simp))) only [go_sem]
  refine W_loop (T := Nat × Nat) (fun t => ⟨E [(5, ints x), (6, .int .i64 x.length), (7, .int .i64 t.1)], fun _ => none, t.2, t.2⟩) (fun t => t.1 ≤ x.length ∧ ∀ y ∈ x.take t.1, outB y (-1000000) 1000000 = false) (fun t => x.length - t.1) (0, _) rfl ⟨by dsimp only; omega, by simp⟩ ?_
  rintro ⟨i, nx⟩ ⟨i1, i2⟩
  dsimp only at i1 i2
  by_cases hi : i < x.length
  · have hm := getD_mem' 0 hi
    have ht := take_getD 0 hi
    generalize hX : x.getD i 0 = v at *
    have ho := outB_or v
    by_cases h1 : v < -1000000
    · have hall : stateB x = false := List.all_eq_false.2 ⟨v, hm, by rw [ho]; simp [h1]⟩
      rw [hall]
      simp -dsimp -implicitDefEqProofs (disch := (first | assumption | omega | (simp only [nats_len, List.length_map, List.length_set, List.length_replicate, List.length_append, List.length_range, upto_len, els_len, List.length_cons, List.length_nil] <;> omega) | (apply isPure_intro <;> simp))) only [go_sem, hX]
    · by_cases h2 : 1000000 < v
      · have hall : stateB x = false := List.all_eq_false.2 ⟨v, hm, by rw [ho]; simp [h2]⟩
        rw [hall]
        simp -dsimp -implicitDefEqProofs (disch := (first | assumption | omega | (simp only [nats_len, List.length_map, List.length_set, List.length_replicate, List.length_append, List.length_range, upto_len, els_len, List.length_cons, List.length_nil] <;> omega) | (apply isPure_intro <;> simp))) only [go_sem, hX]
      · simp -dsimp -implicitDefEqProofs (disch := (first | assumption | omega | (simp only [nats_len, List.length_map, List.length_set, List.length_replicate, List.length_append, List.length_range, upto_len, els_len, List.length_cons, List.length_nil] <;> omega) | (apply isPure_intro <;> simp))) only [go_sem, hX]
        refine ⟨(i + 1, _), rfl, ⟨by dsimp only; omega, fun y hy => ?_⟩, by dsimp only; omega⟩
        dsimp only at hy
        rw [ht] at hy
        rcases List.mem_append.1 hy with hy | hy
        · exact i2 y hy
        · simp at hy; subst hy; rw [ho]; simp [h1, h2]
  · have hie : x.length = i := by omega
    subst hie
    rw [List.take_length] at i2
    have hall : stateB x = true := List.all_eq_true.2 fun y hy => by simp [i2 y hy]
    rw [hall]
    simp -dsimp -implicitDefEqProofs (disch := (first | assumption | omega | (simp only [nats_len, List.length_map, List.length_set, List.length_replicate, List.length_append, List.length_range, upto_len, els_len, List.length_cons, List.length_nil] <;> omega) | (apply isPure_intro <;> simp))) only [go_sem]
def r1 : Row4 := ⟨[1], 0, 5, 3⟩
theorem r1_right : Right4 r1 1 := rightB_iff.1 (by decide)
theorem st1 {v : Int} (h1 : -1000000 ≤ v) (h2 : v ≤ 1000000) : State [v] := fun w hw => by simp at hw; subst hw; exact ⟨h1, h2⟩
theorem ok1 {p den v : Int} (h1 : -1000000 ≤ v) (h2 : v ≤ 1000000) (hp : In64 p) (hd : In64 den) : GOkay ⟨1, [r1], [[p]], [0], 0, den⟩ [v] where
  len := rfl
  hi := by dsimp only; omega
  sixty := by simp
  right := fun r hr => by simp at hr; subst hr; exact r1_right
  state := st1 h1 h2
  sq := ⟨rfl, fun r hr => by simp at hr; subst hr; rfl⟩
  ql := rfl
  sP := fun i j => by
    have := lim_i64 (at2_in (rows := [[p]]) (fun r hr v hv => by simp at hr; subst hr; simp at hv; subst hv; exact hp) i j)
    dsimp only; omega
  sQ := fun i => by
    have := lim_i64 (getD_in (l := [0]) (fun v hv => by simp at hv; subst hv; decide) i)
    dsimp only; omega
  sc := by rw [lim_zero]; omega
  sd := by have := lim_i64 hd; dsimp only; omega
theorem awake18_ret : Ret pg n_gimballaw18_awake [] (.bool true) := by
  have g1 := read18_ret 1 1 [r1] [] [] [4] (by decide) (by decide) (by decide) (by decide) (by decide) (by decide) (by decide)
  have hG1 : rdQ 1 [r1] [] [] 1 [4] = ⟨1, [r1], [[0]], [0], 0, 1⟩ := by unfold rdQ; rw [if_pos (by decide)]; rfl
  rw [hG1, show rdB 1 [r1] 1 [4] = true by decide] at g1
  have g2 := read18_ret 1 2 [r1] [[7]] [] [4] (by decide) (by decide) (by decide) (by decide) (by decide) (by decide) (by decide)
  have hG2 : rdQ 1 [r1] [[7]] [] 2 [4] = ⟨1, [r1], [[7]], [0], 0, 2⟩ := by unfold rdQ; rw [if_pos (by decide)]; rfl
  rw [hG2, show rdB 1 [r1] 2 [4] = true by decide] at g2
  have o4 := ok1 (p := 0) (den := 1) (v := 4) (by decide) (by decide) (by decide) (by decide)
  have o10 := ok1 (p := 0) (den := 1) (v := 10) (by decide) (by decide) (by decide) (by decide)
  have p4 := ok1 (p := 7) (den := 2) (v := 4) (by decide) (by decide) (by decide) (by decide)
  have va := value_ret _ _ o4
  have vb := value_ret _ _ o10
  have vi := value_ret _ _ p4
  rw [show valC ⟨1, [r1], [[0]], [0], 0, 1⟩ [4] = 48 by decide] at va
  rw [show valC ⟨1, [r1], [[0]], [0], 0, 1⟩ [10] = 225 by decide] at vb
  rw [show valC ⟨1, [r1], [[7]], [0], 0, 2⟩ [4] = 208 by decide] at vi
  have sc := csteep_ret _ _ o4
  have sd := csteep_ret _ _ o10
  have sj := csteep_ret _ _ p4
  have c12 : steepC ⟨1, [r1], [[0]], [0], 0, 1⟩ [4] = [12] := by decide
  rw [c12] at sc
  rw [show steepC ⟨1, [r1], [[0]], [0], 0, 1⟩ [10] = [15] by decide] at sd
  rw [show steepC ⟨1, [r1], [[7]], [0], 0, 2⟩ [4] = [52] by decide] at sj
  have fe := flat_ret _ _ 11 o4 (by decide)
  have ff := flat_ret _ _ 12 o4 (by decide)
  rw [c12] at fe ff
  have sk := cstate_ret [1000000, -1000000] (by decide)
  have sl := cstate_ret [1000001] (by decide)
  rw [show stateB [1000000, -1000000] = true by decide] at sk
  rw [show stateB [1000001] = false by decide] at sl
  have tx : ∀ v : Int, In64 v → Ret pg n_gimballaw18_text [ivl [v]] (.str (bst (numsL [v]))) := fun v hv => text_ret [v] (by simp) fun x hx => by simp at hx; subst hx; have := lim_i64 hv; omega
  have st : ∀ v : Int, In64 v → Ret pg n_long_Int_String [IV v] (.str (bst (decL v))) := fun v hv => string_ret v (by have := lim_i64 hv; omega)
  have e1 : ∀ (v : Int) (b : List Nat), (decide (v.natAbs < 100000000000000000000) && decide (decF v = b)) = true → strV .eql (bst (decL v)) (bst b) = some (.bool true) := fun v b h => bst_eq (by
    rw [Bool.and_eq_true, decide_eq_true_eq, decide_eq_true_eq] at h
    rw [decL_decF h.1, h.2])
  have e2 : ∀ (v : Int) (b : List Nat), (decide (v.natAbs < 100000000000000000000) && decide (decF v ++ [32] = b)) = true → strV .eql (bst (numsL [v])) (bst b) = some (.bool true) := fun v b h => bst_eq (by
    rw [Bool.and_eq_true, decide_eq_true_eq, decide_eq_true_eq] at h
    rw [show numsL [v] = decL v ++ [32] by simp [numsL], decL_decF h.1, h.2])
  have q1 : strV .eql (bst (decL 48)) ⟨#[52, 56]⟩ = some (.bool true) := e1 48 [52, 56] (by decide)
  have q2 : strV .eql (bst (decL 225)) ⟨#[50, 50, 53]⟩ = some (.bool true) := e1 225 [50, 50, 53] (by decide)
  have q3 : strV .eql (bst (decL 208)) ⟨#[50, 48, 56]⟩ = some (.bool true) := e1 208 [50, 48, 56] (by decide)
  have q4 : strV .eql (bst (numsL [12])) ⟨#[49, 50, 32]⟩ = some (.bool true) := e2 12 [49, 50, 32] (by decide)
  have q5 : strV .eql (bst (numsL [15])) ⟨#[49, 53, 32]⟩ = some (.bool true) := e2 15 [49, 53, 32] (by decide)
  have q6 : strV .eql (bst (numsL [52])) ⟨#[53, 50, 32]⟩ = some (.bool true) := e2 52 [53, 50, 32] (by decide)
  refine gimballaw18_awake.of rfl (W_b ?_)
  unfold gimballaw18_awake.k gimballaw18_awake.res
  simp -dsimp -implicitDefEqProofs (disch := (first | assumption | omega | (simp only [nats_len, List.length_map, List.length_set, List.length_replicate, List.length_append, List.length_range, upto_len, els_len, List.length_cons, List.length_nil] <;> omega) | (apply isPure_intro <;> simp))) only [go_sem]
  refine callB_frE (fzl [(1, [.int .i64 1]), (3, [RV r1]), (6, [.int .i64 4])]) (fzl_ok fun p hp => by
    simp only [List.mem_cons, List.not_mem_nil, or_false] at hp
    rcases hp with rfl | rfl | rfl <;> exact ⟨⟨_, _, rfl, by simp -dsimp -implicitDefEqProofs (disch := (first | assumption | omega | (simp only [nats_len, List.length_map, List.length_set, List.length_replicate, List.length_append, List.length_range, upto_len, els_len, List.length_cons, List.length_nil] <;> omega) | (apply isPure_intro <;> simp))) only [go_sem] <;> rfl⟩, by simp⟩) (by simp -dsimp -implicitDefEqProofs (disch := (first | assumption | omega | (simp only [nats_len, List.length_map, List.length_set, List.length_replicate, List.length_append, List.length_range, upto_len, els_len, List.length_cons, List.length_nil] <;> omega) | (apply isPure_intro <;> simp))) only [go_sem]; rfl) (g1.nn (args := [.int .i64 1, .sl [RV r1], .nil, .nil, .int .i64 1, ints [4]]) rfl) (by simp) ?_
  simp -dsimp -implicitDefEqProofs (disch := (first | assumption | omega | (simp only [nats_len, List.length_map, List.length_set, List.length_replicate, List.length_append, List.length_range, upto_len, els_len, List.length_cons, List.length_nil] <;> omega) | (apply isPure_intro <;> simp))) only [go_sem]
  refine callB_frE (fzl [(18, [.int .i64 7]), (19, [ints [7]]), (20, [.int .i64 4])]) (fzl_ok fun p hp => by
    simp only [List.mem_cons, List.not_mem_nil, or_false] at hp
    rcases hp with rfl | rfl | rfl <;> exact ⟨⟨_, _, rfl, by simp -dsimp -implicitDefEqProofs (disch := (first | assumption | omega | (simp only [nats_len, List.length_map, List.length_set, List.length_replicate, List.length_append, List.length_range, upto_len, els_len, List.length_cons, List.length_nil] <;> omega) | (apply isPure_intro <;> simp))) only [go_sem] <;> rfl⟩, by simp⟩) (by simp -dsimp -implicitDefEqProofs (disch := (first | assumption | omega | (simp only [nats_len, List.length_map, List.length_set, List.length_replicate, List.length_append, List.length_range, upto_len, els_len, List.length_cons, List.length_nil] <;> omega) | (apply isPure_intro <;> simp))) only [go_sem]; rfl) (g2.nn (args := [.int .i64 1, .sl [RV r1], .sl [ints [7]], .nil, .int .i64 2, ints [4]]) rfl) (by simp) ?_
  simp -dsimp -implicitDefEqProofs (disch := (first | assumption | omega | (simp only [nats_len, List.length_map, List.length_set, List.length_replicate, List.length_append, List.length_range, upto_len, els_len, List.length_cons, List.length_nil] <;> omega) | (apply isPure_intro <;> simp))) only [go_sem]
  refine callB_frE (fz1 38 [.int .i64 4]) (fz1_ok (es := 1) (by rfl) (by simp)) (by simp -dsimp -implicitDefEqProofs (disch := (first | assumption | omega | (simp only [nats_len, List.length_map, List.length_set, List.length_replicate, List.length_append, List.length_range, upto_len, els_len, List.length_cons, List.length_nil] <;> omega) | (apply isPure_intro <;> simp))) only [go_sem]; rfl) va (by simp) ?_
  simp -dsimp -implicitDefEqProofs (disch := (first | assumption | omega | (simp only [nats_len, List.length_map, List.length_set, List.length_replicate, List.length_append, List.length_range, upto_len, els_len, List.length_cons, List.length_nil] <;> omega) | (apply isPure_intro <;> simp))) only [go_sem]
  refine callB_of (st 48 (by decide)) (by simp) ?_
  simp -dsimp -implicitDefEqProofs (disch := (first | assumption | omega | (simp only [nats_len, List.length_map, List.length_set, List.length_replicate, List.length_append, List.length_range, upto_len, els_len, List.length_cons, List.length_nil] <;> omega) | (apply isPure_intro <;> simp))) only [go_sem]
  refine callB_frE (fz1 43 [.int .i64 10]) (fz1_ok (es := 1) (by rfl) (by simp)) (by simp -dsimp -implicitDefEqProofs (disch := (first | assumption | omega | (simp only [nats_len, List.length_map, List.length_set, List.length_replicate, List.length_append, List.length_range, upto_len, els_len, List.length_cons, List.length_nil] <;> omega) | (apply isPure_intro <;> simp))) only [go_sem]; rfl) vb (by simp) ?_
  simp -dsimp -implicitDefEqProofs (disch := (first | assumption | omega | (simp only [nats_len, List.length_map, List.length_set, List.length_replicate, List.length_append, List.length_range, upto_len, els_len, List.length_cons, List.length_nil] <;> omega) | (apply isPure_intro <;> simp))) only [go_sem]
  refine callB_of (st 225 (by decide)) (by simp) ?_
  simp -dsimp -implicitDefEqProofs (disch := (first | assumption | omega | (simp only [nats_len, List.length_map, List.length_set, List.length_replicate, List.length_append, List.length_range, upto_len, els_len, List.length_cons, List.length_nil] <;> omega) | (apply isPure_intro <;> simp))) only [go_sem]
  refine callB_frE (fz1 48 [.int .i64 4]) (fz1_ok (es := 1) (by rfl) (by simp)) (by simp -dsimp -implicitDefEqProofs (disch := (first | assumption | omega | (simp only [nats_len, List.length_map, List.length_set, List.length_replicate, List.length_append, List.length_range, upto_len, els_len, List.length_cons, List.length_nil] <;> omega) | (apply isPure_intro <;> simp))) only [go_sem]; rfl) sc (by simp) ?_
  simp -dsimp -implicitDefEqProofs (disch := (first | assumption | omega | (simp only [nats_len, List.length_map, List.length_set, List.length_replicate, List.length_append, List.length_range, upto_len, els_len, List.length_cons, List.length_nil] <;> omega) | (apply isPure_intro <;> simp))) only [go_sem]
  refine callB_of (tx 12 (by decide)) (by simp) ?_
  simp -dsimp -implicitDefEqProofs (disch := (first | assumption | omega | (simp only [nats_len, List.length_map, List.length_set, List.length_replicate, List.length_append, List.length_range, upto_len, els_len, List.length_cons, List.length_nil] <;> omega) | (apply isPure_intro <;> simp))) only [go_sem]
  refine callB_frE (fz1 53 [.int .i64 10]) (fz1_ok (es := 1) (by rfl) (by simp)) (by simp -dsimp -implicitDefEqProofs (disch := (first | assumption | omega | (simp only [nats_len, List.length_map, List.length_set, List.length_replicate, List.length_append, List.length_range, upto_len, els_len, List.length_cons, List.length_nil] <;> omega) | (apply isPure_intro <;> simp))) only [go_sem]; rfl) sd (by simp) ?_
  simp -dsimp -implicitDefEqProofs (disch := (first | assumption | omega | (simp only [nats_len, List.length_map, List.length_set, List.length_replicate, List.length_append, List.length_range, upto_len, els_len, List.length_cons, List.length_nil] <;> omega) | (apply isPure_intro <;> simp))) only [go_sem]
  refine callB_of (tx 15 (by decide)) (by simp) ?_
  simp -dsimp -implicitDefEqProofs (disch := (first | assumption | omega | (simp only [nats_len, List.length_map, List.length_set, List.length_replicate, List.length_append, List.length_range, upto_len, els_len, List.length_cons, List.length_nil] <;> omega) | (apply isPure_intro <;> simp))) only [go_sem]
  refine callB_frE (fz1 58 [.int .i64 4]) (fz1_ok (es := 1) (by rfl) (by simp)) (by simp -dsimp -implicitDefEqProofs (disch := (first | assumption | omega | (simp only [nats_len, List.length_map, List.length_set, List.length_replicate, List.length_append, List.length_range, upto_len, els_len, List.length_cons, List.length_nil] <;> omega) | (apply isPure_intro <;> simp))) only [go_sem]; rfl) fe (by simp) ?_
  simp -dsimp -implicitDefEqProofs (disch := (first | assumption | omega | (simp only [nats_len, List.length_map, List.length_set, List.length_replicate, List.length_append, List.length_range, upto_len, els_len, List.length_cons, List.length_nil] <;> omega) | (apply isPure_intro <;> simp))) only [go_sem]
  refine callB_frE (fz1 62 [.int .i64 4]) (fz1_ok (es := 1) (by rfl) (by simp)) (by simp -dsimp -implicitDefEqProofs (disch := (first | assumption | omega | (simp only [nats_len, List.length_map, List.length_set, List.length_replicate, List.length_append, List.length_range, upto_len, els_len, List.length_cons, List.length_nil] <;> omega) | (apply isPure_intro <;> simp))) only [go_sem]; rfl) ff (by simp) ?_
  simp -dsimp -implicitDefEqProofs (disch := (first | assumption | omega | (simp only [nats_len, List.length_map, List.length_set, List.length_replicate, List.length_append, List.length_range, upto_len, els_len, List.length_cons, List.length_nil] <;> omega) | (apply isPure_intro <;> simp))) only [go_sem]
  refine callB_frE (fz1 66 [.int .i64 4]) (fz1_ok (es := 1) (by rfl) (by simp)) (by simp -dsimp -implicitDefEqProofs (disch := (first | assumption | omega | (simp only [nats_len, List.length_map, List.length_set, List.length_replicate, List.length_append, List.length_range, upto_len, els_len, List.length_cons, List.length_nil] <;> omega) | (apply isPure_intro <;> simp))) only [go_sem]; rfl) vi (by simp) ?_
  simp -dsimp -implicitDefEqProofs (disch := (first | assumption | omega | (simp only [nats_len, List.length_map, List.length_set, List.length_replicate, List.length_append, List.length_range, upto_len, els_len, List.length_cons, List.length_nil] <;> omega) | (apply isPure_intro <;> simp))) only [go_sem]
  refine callB_of (st 208 (by decide)) (by simp) ?_
  simp -dsimp -implicitDefEqProofs (disch := (first | assumption | omega | (simp only [nats_len, List.length_map, List.length_set, List.length_replicate, List.length_append, List.length_range, upto_len, els_len, List.length_cons, List.length_nil] <;> omega) | (apply isPure_intro <;> simp))) only [go_sem]
  refine callB_frE (fz1 71 [.int .i64 4]) (fz1_ok (es := 1) (by rfl) (by simp)) (by simp -dsimp -implicitDefEqProofs (disch := (first | assumption | omega | (simp only [nats_len, List.length_map, List.length_set, List.length_replicate, List.length_append, List.length_range, upto_len, els_len, List.length_cons, List.length_nil] <;> omega) | (apply isPure_intro <;> simp))) only [go_sem]; rfl) sj (by simp) ?_
  simp -dsimp -implicitDefEqProofs (disch := (first | assumption | omega | (simp only [nats_len, List.length_map, List.length_set, List.length_replicate, List.length_append, List.length_range, upto_len, els_len, List.length_cons, List.length_nil] <;> omega) | (apply isPure_intro <;> simp))) only [go_sem]
  refine callB_of (tx 52 (by decide)) (by simp) ?_
  simp -dsimp -implicitDefEqProofs (disch := (first | assumption | omega | (simp only [nats_len, List.length_map, List.length_set, List.length_replicate, List.length_append, List.length_range, upto_len, els_len, List.length_cons, List.length_nil] <;> omega) | (apply isPure_intro <;> simp))) only [go_sem]
  refine callB_frE (fz1 75 [.int .i64 1000000, .int .i64 (-1000000)]) (fz1_ok (es := 1) (by rfl) (by simp)) (by simp -dsimp -implicitDefEqProofs (disch := (first | assumption | omega | (simp only [nats_len, List.length_map, List.length_set, List.length_replicate, List.length_append, List.length_range, upto_len, els_len, List.length_cons, List.length_nil] <;> omega) | (apply isPure_intro <;> simp))) only [go_sem]; rfl) sk (by simp) ?_
  simp -dsimp -implicitDefEqProofs (disch := (first | assumption | omega | (simp only [nats_len, List.length_map, List.length_set, List.length_replicate, List.length_append, List.length_range, upto_len, els_len, List.length_cons, List.length_nil] <;> omega) | (apply isPure_intro <;> simp))) only [go_sem]
  refine callB_frE (fz1 78 [.int .i64 1000001]) (fz1_ok (es := 1) (by rfl) (by simp)) (by simp -dsimp -implicitDefEqProofs (disch := (first | assumption | omega | (simp only [nats_len, List.length_map, List.length_set, List.length_replicate, List.length_append, List.length_range, upto_len, els_len, List.length_cons, List.length_nil] <;> omega) | (apply isPure_intro <;> simp))) only [go_sem]; rfl) sl (by simp) ?_
  have hf : (([12] : List Int).all fun s => decide (s ≤ 1 * 11) && decide (-s ≤ 1 * 11)) = false := by decide
  have ht : (([12] : List Int).all fun s => decide (s ≤ 1 * 12) && decide (-s ≤ 1 * 12)) = true := by decide
  simp -dsimp -implicitDefEqProofs (disch := (first | assumption | omega | (simp only [nats_len, List.length_map, List.length_set, List.length_replicate, List.length_append, List.length_range, upto_len, els_len, List.length_cons, List.length_nil] <;> omega) | (apply isPure_intro <;> simp))) only [go_sem, q1, q2, q3, q4, q5, q6, hf, ht]
end Go.Gim
/- Graphs without a prior: what they cost, in numbers. -/
set_option maxRecDepth 100000
set_option maxHeartbeats 4000000
set_option linter.unusedSimpArgs false
set_option linter.unusedVariables false
namespace Go.Gim
structure Rq (n : Int) (rows : List Row4) (den : Int) (x : List Int) (m : Nat) : Prop where
  nm : n = m
  len : x.length = m
  lo : 1 ≤ m
  hi : m ≤ 11
  sixty : rows.length ≤ 60
  right : ∀ r ∈ rows, Right4 r x.length
  pos : 0 < den
  state : State x
  new : gnewE n rows = 0
  gr : ∀ prior q, rdQ n rows prior q den x = ⟨m, rows, mirM prior m, padQ q m, 0, den⟩
theorem rdQ_ok {n : Int} {rows : List Row4} {den : Int} {x : List Int} (h : rdB n rows den x = true) : ∃ m : Nat, Rq n rows den x m := by
  have h' := h
  unfold rdB at h
  simp only [Bool.and_eq_true, decide_eq_true_eq] at h
  obtain ⟨⟨⟨h1, h2⟩, h3⟩, h4⟩ := h
  obtain ⟨hn, h60, hrt⟩ := gnewE_ok h1
  obtain ⟨m, rfl⟩ : ∃ m : Nat, n = m := ⟨n.toNat, by omega⟩
  refine ⟨m, rfl, by omega, by omega, by omega, h60, fun r hr => ?_, h2, stateB_iff.1 h4, h1, fun prior q => by unfold rdQ; rw [if_pos h', Int.toNat_natCast]⟩
  have := rightB_iff.1 (hrt r hr)
  rwa [show x.length = m by omega]
abbrev gQ (m : Nat) (rows : List Row4) (prior : List (List Int)) (q : List Int) (den : Int) : Gr := ⟨m, rows, mirM prior m, padQ q m, 0, den⟩
theorem gQ_ok {m : Nat} {rows : List Row4} {prior : List (List Int)} {q : List Int} {den : Int} {y : List Int} (hy : y.length = m) (hm : m ≤ 11) (h60 : rows.length ≤ 60) (hr : ∀ r ∈ rows, Right4 r m) (hs : State y) (hp : ∀ r ∈ prior, ∀ v ∈ r, In64 v) (hq : ∀ v ∈ q, In64 v) (hd : In64 den) : GOkay (gQ m rows prior q den) y where
  len := hy
  hi := hm
  sixty := h60
  right := fun r h => by rw [hy]; exact hr r h
  state := hs
  sq := mirM_sq _ _
  ql := padQ_len _ _
  sP := fun i j => by
    have := lim_at_mat (n := m) (fun i j => lim_i64 (at2_in hp (max i j) (min i j))) i j
    dsimp only [gQ, mirM]; omega
  sQ := fun i => by have := lim_i64 (getD_in (padQ_in hq m) i); dsimp only; omega
  sc := by rw [lim_zero]; omega
  sd := by have := lim_i64 hd; dsimp only; omega
theorem sumN_zero {f p : Nat → Int} (h : ∀ k, f k = 0) : ∀ n, sumN f p n = 0
  | 0 => rfl
  | n + 1 => by rw [sumN, sumN_zero h n, h n]; simp
theorem pad0 (m k : Nat) : (padQ [] m).getD k 0 = 0 := by
  rw [padQ_nil, List.getD_eq_getElem?_getD, List.getElem?_replicate]; split <;> rfl
end Go.Gim
/- So many times the prior over so many times the divisor: plain numbers. -/
set_option maxRecDepth 100000
set_option maxHeartbeats 4000000
set_option linter.unusedSimpArgs false
set_option linter.unusedVariables false
namespace Go.Gim
theorem sumN_mul {f f' p : Nat → Int} {t : Int} (h : ∀ k, f' k = f k * t) : ∀ n, sumN f' p n = sumN f p n * t
  | 0 => by simp [sumN]
  | n + 1 => by rw [sumN, sumN, sumN_mul h n, h n]; grind
theorem sumN_mul' {f p p' : Nat → Int} {t : Int} (h : ∀ k, p' k = p k * t) : ∀ n, sumN f p' n = sumN f p n * t
  | 0 => by simp [sumN]
  | n + 1 => by rw [sumN, sumN, sumN_mul' h n, h n]; grind
def timesM (p : List (List Int)) (t : Int) : List (List Int) := p.map fun r => r.map fun v => v * t
theorem timesM_at (p : List (List Int)) (t : Int) (i j : Nat) : at2 (timesM p t) i j = at2 p i j * t := by
  unfold at2 timesM
  by_cases hi : i < p.length
  · have e : (p.map fun r => r.map fun v => v * t).getD i [] = (p.getD i []).map fun v => v * t := by simp [List.getD_eq_getElem?_getD, hi]
    rw [e]
    by_cases hj : j < (p.getD i []).length
    · simp [List.getD_eq_getElem?_getD] at hj ⊢; simp [hj]
    · rw [List.getD_eq_getElem?_getD, List.getElem?_eq_none (by rw [List.length_map]; omega), List.getD_eq_getElem?_getD (l := p.getD i []), List.getElem?_eq_none (by omega)]; simp
  · have e : (p.map fun r => r.map fun v => v * t).getD i [] = [] := by rw [List.getD_eq_getElem?_getD, List.getElem?_eq_none (by simp; omega)]; rfl
    rw [e, show p.getD i [] = [] by rw [List.getD_eq_getElem?_getD, List.getElem?_eq_none (by omega)]; rfl]
    simp
theorem mir_out {q : List (List Int)} {m i j : Nat} (h : ¬ (i < m ∧ j < m)) : at2 (mirM q m) i j = 0 := by
  unfold at2
  by_cases hi : i < m
  · have := (mirM_sq q m).row hi
    rw [List.getD_eq_getElem?_getD, List.getElem?_eq_none (by omega)]; rfl
  · have := (mirM_sq q m).1
    rw [show (mirM q m).getD i [] = [] by rw [List.getD_eq_getElem?_getD, List.getElem?_eq_none (by omega)]; rfl]; rfl
theorem mir_times (p : List (List Int)) (t : Int) (m i j : Nat) : at2 (mirM (timesM p t) m) i j = at2 (mirM p m) i j * t := by
  by_cases h : i < m ∧ j < m
  · rw [show at2 (mirM (timesM p t) m) i j = _ from mat_at h.1 h.2, show at2 (mirM p m) i j = _ from mat_at h.1 h.2, timesM_at]
  · rw [mir_out h, mir_out h, Int.zero_mul]
theorem val_times (m : Nat) (rows : List Row4) (p : List (List Int)) (den t : Int) (x : List Int) : valC (gQ m rows (timesM p t) [] (den * t)) x = valC (gQ m rows p [] den) x * t := by
  unfold valC qval
  dsimp only [gQ]
  rw [(mirM_sq (timesM p t) m).1, (mirM_sq p m).1]
  have e1 : quadV (mirM (timesM p t) m) x m = quadV (mirM p m) x m * t := sumN_mul' (fun k => sumN_mul (fun j => mir_times p t m k j) m) m
  have e2 : sumN (fun k => (padQ [] m).getD k 0) (fun k => x.getD k 0) (padQ [] m).length = 0 := sumN_zero (fun k => pad0 m k) _
  rw [e1, e2]
  have e3 : costs ⟨m, rows, mirM (timesM p t) m, padQ [] m, 0, den * t⟩ x = costs ⟨m, rows, mirM p m, padQ [] m, 0, den⟩ x := rfl
  rw [e3]
  grind
theorem less_times {a b t : Int} (h : 1 ≤ t) : decide (a * t < b * t) = decide (a < b) := by
  have : a * t < b * t ↔ a < b := Int.mul_lt_mul_right (by omega)
  simp [this]
theorem timesM_in {p : List (List Int)} {t : Int} (ht : 1 ≤ t ∧ t ≤ 1000) (h : ∀ r ∈ p, ∀ v ∈ r, -1000000000 ≤ v ∧ v ≤ 1000000000) : ∀ r ∈ timesM p t, ∀ v ∈ r, In64 v := fun r hr v hv => by
  obtain ⟨r', hr', rfl⟩ := List.mem_map.1 hr
  obtain ⟨w, hw, rfl⟩ := List.mem_map.1 hv
  have := h r' hr' w hw
  have := prod_bd (a := w) (b := t) (A := 1000000000) (B := 1000) (by omega) (by omega)
  exact ⟨by omega, by omega⟩
theorem rdB_times {n : Int} {rows : List Row4} {den t : Int} {x : List Int} (hd : 0 < den) (ht : 1 ≤ t) : rdB n rows (den * t) x = rdB n rows den x := by
  have h1 : 0 < den * t := Int.mul_pos hd (by omega)
  unfold rdB
  rw [decide_eq_true h1, decide_eq_true hd]
end Go.Gim
/- The law that the divisor goes through. -/
set_option maxRecDepth 100000
set_option maxHeartbeats 4000000
set_option linter.unusedSimpArgs false
set_option linter.unusedVariables false
namespace Go.Gim
open Go.Proofs
theorem CostScaled_true (n den times : Int) (rows : List Row4) (prior : List (List Int)) (x y : List Int) (hl : rows.length ≤ 9223372036854775807) (hr : ∀ r ∈ rows, r.co.length ≤ 9223372036854775807) (hpl : prior.length ≤ 9223372036854775807) (hp : ∀ r ∈ prior, r.length ≤ 9223372036854775807 ∧ ∀ v ∈ r, In64 v) (hx : x.length ≤ 9223372036854775807) (hy : y.length ≤ 9223372036854775807) :
    Ret pg n_gimballaw18_CostScaled [.int .i64 n, .sl (rows.map RV), .sl (prior.map ints), .int .i64 den, .int .i64 times, ints x, ints y] (.bool true) := by
  refine gimballaw18_CostScaled.of rfl (W_b ?_)
  unfold gimballaw18_CostScaled.k gimballaw18_CostScaled.res
  simp -dsimp -implicitDefEqProofs (disch := (first | assumption | omega | (simp only [nats_len, List.length_map, List.length_set, List.length_replicate, List.length_append, List.length_range, upto_len, els_len, List.length_cons, List.length_nil] <;> omega) | (apply isPure_intro <;> simp))) only [go_sem]
  refine callB_of awake18_ret (by simp) ?_
  simp -dsimp -implicitDefEqProofs (disch := (first | assumption | omega | (simp only [nats_len, List.length_map, List.length_set, List.length_replicate, List.length_append, List.length_range, upto_len, els_len, List.length_cons, List.length_nil] <;> omega) | (apply isPure_intro <;> simp))) only [go_sem]
  refine callB_of (rstate_ret y hy) (by simp) ?_
  by_cases d1 : den ≤ 0
  · simp -dsimp -implicitDefEqProofs (disch := (first | assumption | omega | (simp only [nats_len, List.length_map, List.length_set, List.length_replicate, List.length_append, List.length_range, upto_len, els_len, List.length_cons, List.length_nil] <;> omega) | (apply isPure_intro <;> simp))) only [go_sem]
  by_cases d2 : 1000000 < den
  · simp -dsimp -implicitDefEqProofs (disch := (first | assumption | omega | (simp only [nats_len, List.length_map, List.length_set, List.length_replicate, List.length_append, List.length_range, upto_len, els_len, List.length_cons, List.length_nil] <;> omega) | (apply isPure_intro <;> simp))) only [go_sem]
  by_cases t1 : times < 1
  · simp -dsimp -implicitDefEqProofs (disch := (first | assumption | omega | (simp only [nats_len, List.length_map, List.length_set, List.length_replicate, List.length_append, List.length_range, upto_len, els_len, List.length_cons, List.length_nil] <;> omega) | (apply isPure_intro <;> simp))) only [go_sem]
  by_cases t2 : 1000 < times
  · simp -dsimp -implicitDefEqProofs (disch := (first | assumption | omega | (simp only [nats_len, List.length_map, List.length_set, List.length_replicate, List.length_append, List.length_range, upto_len, els_len, List.length_cons, List.length_nil] <;> omega) | (apply isPure_intro <;> simp))) only [go_sem]
  cases hsy : stateB y
  · simp -dsimp -implicitDefEqProofs (disch := (first | assumption | omega | (simp only [nats_len, List.length_map, List.length_set, List.length_replicate, List.length_append, List.length_range, upto_len, els_len, List.length_cons, List.length_nil] <;> omega) | (apply isPure_intro <;> simp))) only [go_sem]
  by_cases hyn' : (y.length : Int) ≠ n
  · simp -dsimp -implicitDefEqProofs (disch := (first | assumption | omega | (simp only [nats_len, List.length_map, List.length_set, List.length_replicate, List.length_append, List.length_range, upto_len, els_len, List.length_cons, List.length_nil] <;> omega) | (apply isPure_intro <;> simp))) only [go_sem]
  have hyn : (y.length : Int) = n := by omega
  clear hyn'
  have hsty := stateB_iff.1 hsy
  obtain ⟨k, hk⟩ : ∃ k : Nat, max 0 (min n 11) = (k : Int) := ⟨(max 0 (min n 11)).toNat, by omega⟩
  have hk11 : k ≤ 11 := by omega
  simp -dsimp -implicitDefEqProofs (disch := (first | assumption | omega | (simp only [nats_len, List.length_map, List.length_set, List.length_replicate, List.length_append, List.length_range, upto_len, els_len, List.length_cons, List.length_nil] <;> omega) | (apply isPure_intro <;> simp))) only [go_sem, hk]
  refine callB_of (mirror18_ret prior k (by omega) hpl fun r h => (hp r h).1) (by simp) ?_
  have hsq := mirM_sq prior k
  have hpin := mirM_in (fun r h => (hp r h).2) k
  generalize hP : mirM prior k = p at *
  have hpk := hsq.1
  simp -dsimp -implicitDefEqProofs (disch := (first | assumption | omega | (simp only [nats_len, List.length_map, List.length_set, List.length_replicate, List.length_append, List.length_range, upto_len, els_len, List.length_cons, List.length_nil] <;> omega) | (apply isPure_intro <;> simp))) only [go_sem, hpk]
  have htl : (timesM p times).length = k := by simp [timesM, hpk]
  refine W_loop (T := Nat × V × Hp × Nat) (fun t => ⟨E [(0, .int .i64 n), (1, .sl (rows.map RV)), (3, .int .i64 den), (4, .int .i64 times), (5, ints x), (6, ints y), (15, .bool true), (17, .sl (p.map ints)), (18, t.2.1), (19, .int .i64 t.1)], t.2.2.1, t.2.2.2, t.2.2.2⟩)
    (fun t => t.1 ≤ k ∧ Row 0 t.2.2.1 t.2.2.2 t.2.1 1 (((timesM p times).take t.1).map ints) ∧ ∀ r ∈ p.take t.1, ∀ v ∈ r, -1000000000 ≤ v ∧ v ≤ 1000000000) (fun t => k - t.1) (0, .nil, _, _) rfl ⟨by dsimp only; omega, Row.nil _ _ _ _, by simp⟩ ?_
  rintro ⟨i, w, H, nx⟩ ⟨i1, i2, i6⟩
  dsimp only at i1 i2 i6
  by_cases hi : i < k
  · have hml := hsq.row hi
    have ht := take_getD (l := timesM p times) (i := i) [] (by omega)
    have ht2 := take_getD (l := p) (i := i) [] (by omega)
    have et : (timesM p times).getD i [] = (p.getD i []).map fun v => v * times := by unfold timesM; simp [List.getD_eq_getElem?_getD, show i < p.length by omega]
    rw [et] at ht
    generalize hX : p.getD i [] = l at *
    simp -dsimp -implicitDefEqProofs (disch := (first | assumption | omega | (simp only [nats_len, List.length_map, List.length_set, List.length_replicate, List.length_append, List.length_range, upto_len, els_len, List.length_cons, List.length_nil] <;> omega) | (apply isPure_intro <;> simp))) only [go_sem, hpk]
    refine W_loop (T := Nat × V × Hp × Nat) (fun t => ⟨E [(0, .int .i64 n), (1, .sl (rows.map RV)), (3, .int .i64 den), (4, .int .i64 times), (5, ints x), (6, ints y), (15, .bool true), (17, .sl (p.map ints)), (18, w), (19, .int .i64 i), (20, t.2.1), (21, .int .i64 t.1)], t.2.2.1, t.2.2.2, t.2.2.2⟩)
      (fun t => t.1 ≤ k ∧ nx ≤ t.2.2.2 ∧ (∀ b, b < nx → t.2.2.1 b = H b) ∧ Row nx t.2.2.1 t.2.2.2 t.2.1 1 (((l.take t.1).map fun v => v * times).map (V.int .i64)) ∧ ∀ v ∈ l.take t.1, -1000000000 ≤ v ∧ v ≤ 1000000000) (fun t => k - t.1) (0, .nil, H, _) rfl ⟨by dsimp only; omega, by dsimp only; omega, fun _ _ => rfl, Row.nil _ _ _ _, by simp⟩ ?_
    rintro ⟨j, u, H', nx'⟩ ⟨j1, j2, j3, j4, j5⟩
    dsimp only at j1 j2 j3 j4 j5
    by_cases hj : j < k
    · have htj := take_getD (l := l) (i := j) 0 (by omega)
      generalize hY : l.getD j 0 = v at *
      by_cases v1 : v < -1000000000
      · simp -dsimp -implicitDefEqProofs (disch := (first | assumption | omega | (simp only [nats_len, List.length_map, List.length_set, List.length_replicate, List.length_append, List.length_range, upto_len, els_len, List.length_cons, List.length_nil] <;> omega) | (apply isPure_intro <;> simp))) only [go_sem, hpk, hX, hY]
      · by_cases v2 : 1000000000 < v
        · simp -dsimp -implicitDefEqProofs (disch := (first | assumption | omega | (simp only [nats_len, List.length_map, List.length_set, List.length_replicate, List.length_append, List.length_range, upto_len, els_len, List.length_cons, List.length_nil] <;> omega) | (apply isPure_intro <;> simp))) only [go_sem, hpk, hX, hY]
        · have hb := prod_bd (a := v) (b := times) (A := 1000000000) (B := 1000) (by omega) (by omega)
          have e2 := w64 (show -9223372036854775808 ≤ v * times ∧ v * times ≤ 9223372036854775807 by omega)
          simp -dsimp -implicitDefEqProofs (disch := (first | assumption | omega | (simp only [nats_len, List.length_map, List.length_set, List.length_replicate, List.length_append, List.length_range, upto_len, els_len, List.length_cons, List.length_nil] <;> omega) | (apply isPure_intro <;> simp))) only [go_sem, hpk, hX, hY, e2]
          refine effB_row (lo := nx) (nx := nx') (H0 := H') (xs := ((l.take j).map fun v => v * times).map (V.int .i64)) j4 (by omega) rfl (by omega) (by omega) (by simp [rowOk, V.cells, V.cellOk, V.isJunk]) (by decide) (by simp; omega) (by simp; omega) fun v2 H2 r1 _ _ r4 => ?_
          rw [map_app, map_app (fun v => v * times), ← htj] at r1
          simp -dsimp -implicitDefEqProofs (disch := (first | assumption | omega | (simp only [nats_len, List.length_map, List.length_set, List.length_replicate, List.length_append, List.length_range, upto_len, els_len, List.length_cons, List.length_nil] <;> omega) | (apply isPure_intro <;> simp))) only [go_sem]
          exact ⟨(j + 1, v2, H2, _), rfl, ⟨by dsimp only; omega, by dsimp only; omega, fun b hb => (r4 b hb).trans (j3 b hb), r1.same (fun _ _ => rfl) (by dsimp only; omega), fun q hq => by
            rw [htj] at hq
            rcases List.mem_append.1 hq with hq | hq
            · exact j5 q hq
            · rw [List.mem_singleton.1 hq]; exact ⟨by omega, by omega⟩⟩, by dsimp only; omega⟩
    · have hje : k = j := by omega
      subst hje
      rw [List.take_of_length_le (by omega)] at j4 j5
      obtain ⟨c, rfl, c1, c2, c3⟩ := j4.own_of (by simp; omega)
      have i3 : Row 0 H' nx' w 1 (((timesM p times).take i).map ints) := i2.same j3 j2
      have hwc : ∀ n, w ≠ .own c n := fun n e => by
        rcases i2 with ⟨rfl, _⟩ | ⟨b, rfl, _, hb, _⟩
        · cases e
        · cases e; omega
      obtain ⟨i4, i5⟩ := i3.sub (ys := (l.map fun v => v * times).map (V.int .i64)) (pure_map fun x => by simp) hwc
      simp -dsimp -implicitDefEqProofs (disch := (first | assumption | omega | (simp only [nats_len, List.length_map, List.length_set, List.length_replicate, List.length_append, List.length_range, upto_len, els_len, List.length_cons, List.length_nil] <;> omega) | (apply isPure_intro <;> simp))) only [go_sem, hpk]
      have e7 : V.sl ((l.map fun v => v * times).map (V.int .i64)) = ints (l.map fun v => v * times) := rfl
      refine gh_fz1 c ((l.map fun v => v * times).map (V.int .i64)) c3 (pure_map fun x => by simp) (by simp -dsimp -implicitDefEqProofs (disch := (first | assumption | omega | (simp only [nats_len, List.length_map, List.length_set, List.length_replicate, List.length_append, List.length_range, upto_len, els_len, List.length_cons, List.length_nil] <;> omega) | (apply isPure_intro <;> simp))) only [go_sem, i5, fz1]; rfl) ?_
      simp -dsimp -implicitDefEqProofs (disch := (first | assumption | omega | (simp only [nats_len, List.length_map, List.length_set, List.length_replicate, List.length_append, List.length_range, upto_len, els_len, List.length_cons, List.length_nil] <;> omega) | (apply isPure_intro <;> simp))) only [go_sem, e7]
      refine effB_row (lo := 0) (nx := nx') (H0 := Hp.sub (fz1 c ((l.map fun v => v * times).map (V.int .i64))) H') (xs := ((timesM p times).take i).map ints) i4 (by omega) rfl (by omega) (by omega) (by simp [rowOk, V.cells, V.cellOk, ints]) (by decide) (by simp; omega) (by simp; omega) fun v2 H2 r1 _ _ r4 => ?_
      rw [map_app ints, ← ht] at r1
      simp -dsimp -implicitDefEqProofs (disch := (first | assumption | omega | (simp only [nats_len, List.length_map, List.length_set, List.length_replicate, List.length_append, List.length_range, upto_len, els_len, List.length_cons, List.length_nil] <;> omega) | (apply isPure_intro <;> simp))) only [go_sem]
      exact ⟨(i + 1, v2, H2, _), rfl, ⟨by dsimp only; omega, r1.same (fun _ _ => rfl) (by dsimp only; omega), fun r hr v hv => by
        rw [ht2] at hr
        rcases List.mem_append.1 hr with hr | hr
        · exact i6 r hr v hv
        · rw [List.mem_singleton.1 hr] at hv; exact j5 v hv⟩, by dsimp only; omega⟩
  · have hie : k = i := by omega
    subst hie
    rw [List.take_of_length_le (by omega)] at i2 i6
    have hmi := timesM_in (t := times) (by omega) i6
    have hpp : ∀ r ∈ p, r.length ≤ 9223372036854775807 ∧ ∀ v ∈ r, In64 v := fun r h => ⟨by rw [hsq.2 r h]; omega, hpin r h⟩
    have hmp : ∀ r ∈ timesM p times, r.length ≤ 9223372036854775807 ∧ ∀ v ∈ r, In64 v := fun r h => ⟨by
      obtain ⟨r', hr', rfl⟩ := List.mem_map.1 h
      rw [List.length_map, hsq.2 r' hr']; omega, hmi r h⟩
    have hdt := prod_bd (a := den) (b := times) (A := 1000000) (B := 1000) (by omega) (by omega)
    have hdt64 : In64 (den * times) := ⟨by omega, by omega⟩
    have e2 := w64 hdt64
    have hd64 : In64 den := ⟨by omega, by omega⟩
    have hrd1 := (read18_ret n den rows p [] x hl hr (by omega) hpp (by decide) hx hd64).nn (args := [.int .i64 n, .sl (rows.map RV), .sl (p.map ints), .nil, .int .i64 den, ints x]) rfl
    have hrd2 := read18_ret n (den * times) rows (timesM p times) [] x hl hr (by omega) hmp (by decide) hx hdt64
    rw [rdB_times (by omega) (by omega)] at hrd2
    simp -dsimp -implicitDefEqProofs (disch := (first | assumption | omega | (simp only [nats_len, List.length_map, List.length_set, List.length_replicate, List.length_append, List.length_range, upto_len, els_len, List.length_cons, List.length_nil] <;> omega) | (apply isPure_intro <;> simp))) only [go_sem, hpk]
    refine callB_of hrd1 (by simp) ?_
    rcases i2 with ⟨rfl, h0⟩ | ⟨c, rfl, c1, c2, c3⟩
    · have h0 : timesM p times = [] := List.map_eq_nil_iff.1 h0
      have hk0 : k = 0 := by rw [← htl, h0]; rfl
      have hb : rdB n rows den x = false := by
        cases hb : rdB n rows den x
        · rfl
        · obtain ⟨m, hm⟩ := rdQ_ok hb
          have := hm.nm; have := hm.lo; omega
      rw [h0, hb] at hrd2
      rw [hb]
      simp -dsimp -implicitDefEqProofs (disch := (first | assumption | omega | (simp only [nats_len, List.length_map, List.length_set, List.length_replicate, List.length_append, List.length_range, upto_len, els_len, List.length_cons, List.length_nil] <;> omega) | (apply isPure_intro <;> simp))) only [go_sem, e2]
      refine callB_of (hrd2.nn (args := [.int .i64 n, .sl (rows.map RV), .nil, .nil, .int .i64 (den * times), ints x]) rfl) (by simp) ?_
      simp -dsimp -implicitDefEqProofs (disch := (first | assumption | omega | (simp only [nats_len, List.length_map, List.length_set, List.length_replicate, List.length_append, List.length_range, upto_len, els_len, List.length_cons, List.length_nil] <;> omega) | (apply isPure_intro <;> simp))) only [go_sem]
    · have hcn : (nx + 14 = c) = False := by simp; omega
      simp -dsimp -implicitDefEqProofs (disch := (first | assumption | omega | (simp only [nats_len, List.length_map, List.length_set, List.length_replicate, List.length_append, List.length_range, upto_len, els_len, List.length_cons, List.length_nil] <;> omega) | (apply isPure_intro <;> simp))) only [go_sem, e2]
      generalize hG : Hp.upd (Hp.upd (Hp.upd (Hp.upd H (nx + 14) _) (nx + 15) _) (nx + 14) _) (nx + 15) _ = G
      have gc : G c = some ⟨(timesM p times).map ints, 1⟩ := by rw [← hG, Hp.upd_ne _ _ (by omega), Hp.upd_ne _ _ (by omega), Hp.upd_ne _ _ (by omega), Hp.upd_ne _ _ (by omega)]; exact c3
      have g22 : G (nx + 14) = some ⟨[GV (rdQ n rows p [] den x)], 8⟩ := by rw [← hG, Hp.upd_ne _ _ (by omega), Hp.upd_same]
      clear hG c3
      have t22 : Hp.sub (fz1 c ((timesM p times).map ints)) G (nx + 14) = some ⟨[GV (rdQ n rows p [] den x)], 8⟩ := sub_at (fz1_ne (by omega)) g22 (by simp -dsimp -implicitDefEqProofs (disch := (first | assumption | omega | (simp only [nats_len, List.length_map, List.length_set, List.length_replicate, List.length_append, List.length_range, upto_len, els_len, List.length_cons, List.length_nil] <;> omega) | (apply isPure_intro <;> simp))) only [go_sem] <;> rfl)
      refine callB_frE (fz1 c ((timesM p times).map ints)) (fz1_ok gc (pure_map fun x => by simp)) (by simp -dsimp -implicitDefEqProofs (disch := (first | assumption | omega | (simp only [nats_len, List.length_map, List.length_set, List.length_replicate, List.length_append, List.length_range, upto_len, els_len, List.length_cons, List.length_nil] <;> omega) | (apply isPure_intro <;> simp))) only [go_sem, fz1, hcn]) (hrd2.nn (args := [.int .i64 n, .sl (rows.map RV), .sl ((timesM p times).map ints), .nil, .int .i64 (den * times), ints x]) rfl) (by simp) ?_
      cases hb : rdB n rows den x
      · simp -dsimp -implicitDefEqProofs (disch := (first | assumption | omega | (simp only [nats_len, List.length_map, List.length_set, List.length_replicate, List.length_append, List.length_range, upto_len, els_len, List.length_cons, List.length_nil] <;> omega) | (apply isPure_intro <;> simp))) only [go_sem, hcn]
      · obtain ⟨m, hm⟩ := rdQ_ok hb
        obtain ⟨rfl, hxm, hlo, hhi, h60, hrt, hdp, hst, hnew, hg⟩ := hm
        have hb2 : rdB m rows (den * times) x = true := by rw [rdB_times (by omega) (by omega)]; exact hb
        have hg2 : rdQ m rows (timesM p times) [] (den * times) x = gQ m rows (timesM p times) [] (den * times) := by unfold rdQ; rw [if_pos hb2, Int.toNat_natCast]
        have hrm : ∀ r ∈ rows, Right4 r m := fun r h => by rw [← hxm]; exact hrt r h
        have hym : y.length = m := by omega
        have o1 := gQ_ok (prior := p) (q := []) (den := den) hxm hhi h60 hrm hst hpin (by simp) hd64
        have o2 := gQ_ok (prior := timesM p times) (q := []) (den := den * times) hxm hhi h60 hrm hst hmi (by simp) hdt64
        have o3 := gQ_ok (prior := p) (q := []) (den := den) hym hhi h60 hrm hsty hpin (by simp) hd64
        have o4 := gQ_ok (prior := timesM p times) (q := []) (den := den * times) hym hhi h60 hrm hsty hmi (by simp) hdt64
        have l1 := valC_lim o1
        have l2 := valC_lim o2
        have l3 := lim_i64 (x := times) (by omega)
        have l4 := lim_mul (valC (gQ m rows p [] den) x) times
        rw [hg] at t22
        rw [hg2]
        have hti : In64 times := ⟨by omega, by omega⟩
        simp -dsimp -implicitDefEqProofs (disch := (first | assumption | omega | (simp only [nats_len, List.length_map, List.length_set, List.length_replicate, List.length_append, List.length_range, upto_len, els_len, List.length_cons, List.length_nil] <;> omega) | (apply isPure_intro <;> simp))) only [go_sem, hcn, t22]
        first | refine callB_of (value_ret _ _ o1) (by simp) ?_ | refine callP_of (value_ret _ _ o1) (by simp) ?_
        simp -dsimp -implicitDefEqProofs (disch := (first | assumption | omega | (simp only [nats_len, List.length_map, List.length_set, List.length_replicate, List.length_append, List.length_range, upto_len, els_len, List.length_cons, List.length_nil] <;> omega) | (apply isPure_intro <;> simp))) only [go_sem]
        first | refine callB_of (of_ret times hti) (by simp) ?_ | refine callP_of (of_ret times hti) (by simp) ?_
        simp -dsimp -implicitDefEqProofs (disch := (first | assumption | omega | (simp only [nats_len, List.length_map, List.length_set, List.length_replicate, List.length_append, List.length_range, upto_len, els_len, List.length_cons, List.length_nil] <;> omega) | (apply isPure_intro <;> simp))) only [go_sem]
        first | refine callB_of (mul_ret (valC (gQ m rows p [] den) x) times (by omega) (by omega)) (by simp) ?_ | refine callP_of (mul_ret (valC (gQ m rows p [] den) x) times (by omega) (by omega)) (by simp) ?_
        simp -dsimp -implicitDefEqProofs (disch := (first | assumption | omega | (simp only [nats_len, List.length_map, List.length_set, List.length_replicate, List.length_append, List.length_range, upto_len, els_len, List.length_cons, List.length_nil] <;> omega) | (apply isPure_intro <;> simp))) only [go_sem]
        first | refine callB_of (value_ret _ _ o2) (by simp) ?_ | refine callP_of (value_ret _ _ o2) (by simp) ?_
        simp -dsimp -implicitDefEqProofs (disch := (first | assumption | omega | (simp only [nats_len, List.length_map, List.length_set, List.length_replicate, List.length_append, List.length_range, upto_len, els_len, List.length_cons, List.length_nil] <;> omega) | (apply isPure_intro <;> simp))) only [go_sem]
        first | refine callB_of (icmp_ret (valC (gQ m rows p [] den) x * times) (valC (gQ m rows (timesM p times) [] (den * times)) x) (by omega) (by omega)) (by simp) ?_ | refine callP_of (icmp_ret (valC (gQ m rows p [] den) x * times) (valC (gQ m rows (timesM p times) [] (den * times)) x) (by omega) (by omega)) (by simp) ?_
        simp -dsimp -implicitDefEqProofs (disch := (first | assumption | omega | (simp only [nats_len, List.length_map, List.length_set, List.length_replicate, List.length_append, List.length_range, upto_len, els_len, List.length_cons, List.length_nil] <;> omega) | (apply isPure_intro <;> simp))) only [go_sem, t22]
        first | refine callB_of (less_ret' _ _ _ o1 o3) (by simp) ?_ | refine callP_of (less_ret' _ _ _ o1 o3) (by simp) ?_
        simp -dsimp -implicitDefEqProofs (disch := (first | assumption | omega | (simp only [nats_len, List.length_map, List.length_set, List.length_replicate, List.length_append, List.length_range, upto_len, els_len, List.length_cons, List.length_nil] <;> omega) | (apply isPure_intro <;> simp))) only [go_sem]
        first | refine callB_of (less_ret' _ _ _ o2 o4) (by simp) ?_ | refine callP_of (less_ret' _ _ _ o2 o4) (by simp) ?_
        have hs : (valC (gQ m rows p [] den) x * times - valC (gQ m rows (timesM p times) [] (den * times)) x).sign = 0 := by rw [val_times, Int.sub_self]; rfl
        have hd : decide (valC (gQ m rows (timesM p times) [] (den * times)) x < valC (gQ m rows (timesM p times) [] (den * times)) y) = decide (valC (gQ m rows p [] den) x < valC (gQ m rows p [] den) y) := by rw [val_times, val_times]; exact less_times (by omega)
        simp -dsimp -implicitDefEqProofs (disch := (first | assumption | omega | (simp only [nats_len, List.length_map, List.length_set, List.length_replicate, List.length_append, List.length_range, upto_len, els_len, List.length_cons, List.length_nil] <;> omega) | (apply isPure_intro <;> simp))) only [go_sem, hs, hd]
        done
end Go.Gim

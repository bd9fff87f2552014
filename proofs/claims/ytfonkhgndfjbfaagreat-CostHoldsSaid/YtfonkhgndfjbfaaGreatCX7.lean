import Derived.Test.YtfonkhgndfjbfaaGreatCX2
import Derived.Test.YtfonkhgndfjbfaaGreatCF
import Derived.Test.YtfonkhgndfjbfaaGreatRK
/- The chapter's examples; the laws on costs. -/
set_option maxRecDepth 100000
set_option maxHeartbeats 4000000
set_option linter.unusedSimpArgs false
set_option linter.unusedVariables false
namespace Go.Gim
open Go.Proofs
theorem outB_or (y : Int) : outB y (-1000000) 1000000 = (decide (y < -1000000) || decide (1000000 < y)) := rfl
theorem cstate_ret (x : List Int) (hl : x.length ≤ 9223372036854775807) : Ret pg n_cost_State [ints x] (.bool (stateB x)) := by
  refine cost_State.of rfl (W_b ?_)
  unfold cost_State.k cost_State.res
  simp -dsimp -implicitDefEqProofs (disch := (first | assumption | omega | (simp only [nats_len, List.length_map, List.length_set, List.length_replicate, List.length_append, List.length_range, upto_len, els_len, List.length_cons, List.length_nil] <;> omega) | (apply isPure_intro <;> simp))) only [go_sem]
  refine W_loop (T := Nat × Nat) (fun t => ⟨E [(5, ints x), (6, .int .i64 x.length), (7, .int .i64 t.1)], fun _ => none, t.2, t.2⟩) (fun t => t.1 ≤ x.length ∧ ∀ y ∈ x.take t.1, outB y (-1000000) 1000000 = false) (fun t => x.length - t.1) (0, _) rfl ⟨by dsimp only; omega, by simp⟩ ?_
  rintro ⟨i, nx⟩ ⟨i1, i2⟩
  dsimp only at i1 i2
  by_cases hi : i < x.length
  · have hm := getD_mem' 0 hi
    have ht := take_getD 0 hi
    generalize hX : x.getD i 0 = v at *
    have ho := outB_or v
    by_cases h1 : v < -1000000
    · have hall : stateB x = false := List.all_eq_false.2 ⟨v, hm, by rw [ho]; simp [h1]⟩
      rw [hall]
      simp -dsimp -implicitDefEqProofs (disch := (first | assumption | omega | (simp only [nats_len, List.length_map, List.length_set, List.length_replicate, List.length_append, List.length_range, upto_len, els_len, List.length_cons, List.length_nil] <;> omega) | (apply isPure_intro <;> simp))) only [go_sem, hX]
    · by_cases h2 : 1000000 < v
      · have hall : stateB x = false := List.all_eq_false.2 ⟨v, hm, by rw [ho]; simp [h2]⟩
        rw [hall]
        simp -dsimp -implicitDefEqProofs (disch := (first | assumption | omega | (simp only [nats_len, List.length_map, List.length_set, List.length_replicate, List.length_append, List.length_range, upto_len, els_len, List.length_cons, List.length_nil] <;> omega) | (apply isPure_intro <;> simp))) only [go_sem, hX]
      · simp -dsimp -implicitDefEqProofs (disch := (first | assumption | omega | (simp only [nats_len, List.length_map, List.length_set, List.length_replicate, List.length_append, List.length_range, upto_len, els_len, List.length_cons, List.length_nil] <;> omega) | (apply isPure_intro <;> simp))) only [go_sem, hX]
        refine ⟨(i + 1, _), rfl, ⟨by dsimp only; omega, fun y hy => ?_⟩, by dsimp only; omega⟩
        dsimp only at hy
        rw [ht] at hy
        rcases List.mem_append.1 hy with hy | hy
        · exact i2 y hy
        · simp at hy; subst hy; rw [ho]; simp [h1, h2]
  · have hie : x.length = i := by omega
    subst hie
    rw [List.take_length] at i2
    have hall : stateB x = true := List.all_eq_true.2 fun y hy => by simp [i2 y hy]
    rw [hall]
    simp -dsimp -implicitDefEqProofs (disch := (first | assumption | omega | (simp only [nats_len, List.length_map, List.length_set, List.length_replicate, List.length_append, List.length_range, upto_len, els_len, List.length_cons, List.length_nil] <;> omega) | (apply isPure_intro <;> simp))) only [go_sem]
def r1 : Row4 := ⟨[1], 0, 5, 3⟩
theorem r1_right : Right4 r1 1 := rightB_iff.1 (by decide)
theorem st1 {v : Int} (h1 : -1000000 ≤ v) (h2 : v ≤ 1000000) : State [v] := fun w hw => by simp at hw; subst hw; exact ⟨h1, h2⟩
theorem ok1 {p den v : Int} (h1 : -1000000 ≤ v) (h2 : v ≤ 1000000) (hp : In64 p) (hd : In64 den) : GOkay ⟨1, [r1], [[p]], [0], 0, den⟩ [v] where
  len := rfl
  hi := by dsimp only; omega
  sixty := by simp
  right := fun r hr => by simp at hr; subst hr; exact r1_right
  state := st1 h1 h2
  sq := ⟨rfl, fun r hr => by simp at hr; subst hr; rfl⟩
  ql := rfl
  sP := fun i j => by
    have := lim_i64 (at2_in (rows := [[p]]) (fun r hr v hv => by simp at hr; subst hr; simp at hv; subst hv; exact hp) i j)
    dsimp only; omega
  sQ := fun i => by
    have := lim_i64 (getD_in (l := [0]) (fun v hv => by simp at hv; subst hv; decide) i)
    dsimp only; omega
  sc := by rw [lim_zero]; omega
  sd := by have := lim_i64 hd; dsimp only; omega
theorem awake18_ret : Ret pg n_gimballaw18_awake [] (.bool true) := by
  have g1 := read18_ret 1 1 [r1] [] [] [4] (by decide) (by decide) (by decide) (by decide) (by decide) (by decide) (by decide)
  have hG1 : rdQ 1 [r1] [] [] 1 [4] = ⟨1, [r1], [[0]], [0], 0, 1⟩ := by unfold rdQ; rw [if_pos (by decide)]; rfl
  rw [hG1, show rdB 1 [r1] 1 [4] = true by decide] at g1
  have g2 := read18_ret 1 2 [r1] [[7]] [] [4] (by decide) (by decide) (by decide) (by decide) (by decide) (by decide) (by decide)
  have hG2 : rdQ 1 [r1] [[7]] [] 2 [4] = ⟨1, [r1], [[7]], [0], 0, 2⟩ := by unfold rdQ; rw [if_pos (by decide)]; rfl
  rw [hG2, show rdB 1 [r1] 2 [4] = true by decide] at g2
  have o4 := ok1 (p := 0) (den := 1) (v := 4) (by decide) (by decide) (by decide) (by decide)
  have o10 := ok1 (p := 0) (den := 1) (v := 10) (by decide) (by decide) (by decide) (by decide)
  have p4 := ok1 (p := 7) (den := 2) (v := 4) (by decide) (by decide) (by decide) (by decide)
  have va := value_ret _ _ o4
  have vb := value_ret _ _ o10
  have vi := value_ret _ _ p4
  rw [show valC ⟨1, [r1], [[0]], [0], 0, 1⟩ [4] = 48 by decide] at va
  rw [show valC ⟨1, [r1], [[0]], [0], 0, 1⟩ [10] = 225 by decide] at vb
  rw [show valC ⟨1, [r1], [[7]], [0], 0, 2⟩ [4] = 208 by decide] at vi
  have sc := csteep_ret _ _ o4
  have sd := csteep_ret _ _ o10
  have sj := csteep_ret _ _ p4
  have c12 : steepC ⟨1, [r1], [[0]], [0], 0, 1⟩ [4] = [12] := by decide
  rw [c12] at sc
  rw [show steepC ⟨1, [r1], [[0]], [0], 0, 1⟩ [10] = [15] by decide] at sd
  rw [show steepC ⟨1, [r1], [[7]], [0], 0, 2⟩ [4] = [52] by decide] at sj
  have fe := flat_ret _ _ 11 o4 (by decide)
  have ff := flat_ret _ _ 12 o4 (by decide)
  rw [c12] at fe ff
  have sk := cstate_ret [1000000, -1000000] (by decide)
  have sl := cstate_ret [1000001] (by decide)
  rw [show stateB [1000000, -1000000] = true by decide] at sk
  rw [show stateB [1000001] = false by decide] at sl
  have tx : ∀ v : Int, In64 v → Ret pg n_gimballaw18_text [ivl [v]] (.str (bst (numsL [v]))) := fun v hv => text_ret [v] (by simp) fun x hx => by simp at hx; subst hx; have := lim_i64 hv; omega
  have st : ∀ v : Int, In64 v → Ret pg n_long_Int_String [IV v] (.str (bst (decL v))) := fun v hv => string_ret v (by have := lim_i64 hv; omega)
  have e1 : ∀ (v : Int) (b : List Nat), (decide (v.natAbs < 100000000000000000000) && decide (decF v = b)) = true → strV .eql (bst (decL v)) (bst b) = some (.bool true) := fun v b h => bst_eq (by
    rw [Bool.and_eq_true, decide_eq_true_eq, decide_eq_true_eq] at h
    rw [decL_decF h.1, h.2])
  have e2 : ∀ (v : Int) (b : List Nat), (decide (v.natAbs < 100000000000000000000) && decide (decF v ++ [32] = b)) = true → strV .eql (bst (numsL [v])) (bst b) = some (.bool true) := fun v b h => bst_eq (by
    rw [Bool.and_eq_true, decide_eq_true_eq, decide_eq_true_eq] at h
    rw [show numsL [v] = decL v ++ [32] by simp [numsL], decL_decF h.1, h.2])
  have q1 : strV .eql (bst (decL 48)) ⟨#[52, 56]⟩ = some (.bool true) := e1 48 [52, 56] (by decide)
  have q2 : strV .eql (bst (decL 225)) ⟨#[50, 50, 53]⟩ = some (.bool true) := e1 225 [50, 50, 53] (by decide)
  have q3 : strV .eql (bst (decL 208)) ⟨#[50, 48, 56]⟩ = some (.bool true) := e1 208 [50, 48, 56] (by decide)
  have q4 : strV .eql (bst (numsL [12])) ⟨#[49, 50, 32]⟩ = some (.bool true) := e2 12 [49, 50, 32] (by decide)
  have q5 : strV .eql (bst (numsL [15])) ⟨#[49, 53, 32]⟩ = some (.bool true) := e2 15 [49, 53, 32] (by decide)
  have q6 : strV .eql (bst (numsL [52])) ⟨#[53, 50, 32]⟩ = some (.bool true) := e2 52 [53, 50, 32] (by decide)
  refine gimballaw18_awake.of rfl (W_b ?_)
  unfold gimballaw18_awake.k gimballaw18_awake.res
  simp -dsimp -implicitDefEqProofs (disch := (first | assumption | omega | (simp only [nats_len, List.length_map, List.length_set, List.length_replicate, List.length_append, List.length_range, upto_len, els_len, List.length_cons, List.length_nil] <;> omega) | (apply isPure_intro <;> simp))) only [go_sem]
  refine callB_frE (fzl [(1, [.int .i64 1]), (3, [RV r1]), (6, [.int .i64 4])]) (fzl_ok fun p hp => by
    simp only [List.mem_cons, List.not_mem_nil, or_false] at hp
    rcases hp with rfl | rfl | rfl <;> exact ⟨⟨_, _, rfl, by simp -dsimp -implicitDefEqProofs (disch := (first | assumption | omega | (simp only [nats_len, List.length_map, List.length_set, List.length_replicate, List.length_append, List.length_range, upto_len, els_len, List.length_cons, List.length_nil] <;> omega) | (apply isPure_intro <;> simp))) only [go_sem] <;> rfl⟩, by simp⟩) (by simp -dsimp -implicitDefEqProofs (disch := (first | assumption | omega | (simp only [nats_len, List.length_map, List.length_set, List.length_replicate, List.length_append, List.length_range, upto_len, els_len, List.length_cons, List.length_nil] <;> omega) | (apply isPure_intro <;> simp))) only [go_sem]; rfl) (g1.nn (args := [.int .i64 1, .sl [RV r1], .nil, .nil, .int .i64 1, ints [4]]) rfl) (by simp) ?_
  simp -dsimp -implicitDefEqProofs (disch := (first | assumption | omega | (simp only [nats_len, List.length_map, List.length_set, List.length_replicate, List.length_append, List.length_range, upto_len, els_len, List.length_cons, List.length_nil] <;> omega) | (apply isPure_intro <;> simp))) only [go_sem]
  refine callB_frE (fzl [(18, [.int .i64 7]), (19, [ints [7]]), (20, [.int .i64 4])]) (fzl_ok fun p hp => by
    simp only [List.mem_cons, List.not_mem_nil, or_false] at hp
    rcases hp with rfl | rfl | rfl <;> exact ⟨⟨_, _, rfl, by simp -dsimp -implicitDefEqProofs (disch := (first | assumption | omega | (simp only [nats_len, List.length_map, List.length_set, List.length_replicate, List.length_append, List.length_range, upto_len, els_len, List.length_cons, List.length_nil] <;> omega) | (apply isPure_intro <;> simp))) only [go_sem] <;> rfl⟩, by simp⟩) (by simp -dsimp -implicitDefEqProofs (disch := (first | assumption | omega | (simp only [nats_len, List.length_map, List.length_set, List.length_replicate, List.length_append, List.length_range, upto_len, els_len, List.length_cons, List.length_nil] <;> omega) | (apply isPure_intro <;> simp))) only [go_sem]; rfl) (g2.nn (args := [.int .i64 1, .sl [RV r1], .sl [ints [7]], .nil, .int .i64 2, ints [4]]) rfl) (by simp) ?_
  simp -dsimp -implicitDefEqProofs (disch := (first | assumption | omega | (simp only [nats_len, List.length_map, List.length_set, List.length_replicate, List.length_append, List.length_range, upto_len, els_len, List.length_cons, List.length_nil] <;> omega) | (apply isPure_intro <;> simp))) only [go_sem]
  refine callB_frE (fz1 38 [.int .i64 4]) (fz1_ok (es := 1) (by rfl) (by simp)) (by simp -dsimp -implicitDefEqProofs (disch := (first | assumption | omega | (simp only [nats_len, List.length_map, List.length_set, List.length_replicate, List.length_append, List.length_range, upto_len, els_len, List.length_cons, List.length_nil] <;> omega) | (apply isPure_intro <;> simp))) only [go_sem]; rfl) va (by simp) ?_
  simp -dsimp -implicitDefEqProofs (disch := (first | assumption | omega | (simp only [nats_len, List.length_map, List.length_set, List.length_replicate, List.length_append, List.length_range, upto_len, els_len, List.length_cons, List.length_nil] <;> omega) | (apply isPure_intro <;> simp))) only [go_sem]
  refine callB_of (st 48 (by decide)) (by simp) ?_
  simp -dsimp -implicitDefEqProofs (disch := (first | assumption | omega | (simp only [nats_len, List.length_map, List.length_set, List.length_replicate, List.length_append, List.length_range, upto_len, els_len, List.length_cons, List.length_nil] <;> omega) | (apply isPure_intro <;> simp))) only [go_sem]
  refine callB_frE (fz1 43 [.int .i64 10]) (fz1_ok (es := 1) (by rfl) (by simp)) (by simp -dsimp -implicitDefEqProofs (disch := (first | assumption | omega | (simp only [nats_len, List.length_map, List.length_set, List.length_replicate, List.length_append, List.length_range, upto_len, els_len, List.length_cons, List.length_nil] <;> omega) | (apply isPure_intro <;> simp))) only [go_sem]; rfl) vb (by simp) ?_
  simp -dsimp -implicitDefEqProofs (disch := (first | assumption | omega | (simp only [nats_len, List.length_map, List.length_set, List.length_replicate, List.length_append, List.length_range, upto_len, els_len, List.length_cons, List.length_nil] <;> omega) | (apply isPure_intro <;> simp))) only [go_sem]
  refine callB_of (st 225 (by decide)) (by simp) ?_
  simp -dsimp -implicitDefEqProofs (disch := (first | assumption | omega | (simp only [nats_len, List.length_map, List.length_set, List.length_replicate, List.length_append, List.length_range, upto_len, els_len, List.length_cons, List.length_nil] <;> omega) | (apply isPure_intro <;> simp))) only [go_sem]
  refine callB_frE (fz1 48 [.int .i64 4]) (fz1_ok (es := 1) (by rfl) (by simp)) (by simp -dsimp -implicitDefEqProofs (disch := (first | assumption | omega | (simp only [nats_len, List.length_map, List.length_set, List.length_replicate, List.length_append, List.length_range, upto_len, els_len, List.length_cons, List.length_nil] <;> omega) | (apply isPure_intro <;> simp))) only [go_sem]; rfl) sc (by simp) ?_
  simp -dsimp -implicitDefEqProofs (disch := (first | assumption | omega | (simp only [nats_len, List.length_map, List.length_set, List.length_replicate, List.length_append, List.length_range, upto_len, els_len, List.length_cons, List.length_nil] <;> omega) | (apply isPure_intro <;> simp))) only [go_sem]
  refine callB_of (tx 12 (by decide)) (by simp) ?_
  simp -dsimp -implicitDefEqProofs (disch := (first | assumption | omega | (simp only [nats_len, List.length_map, List.length_set, List.length_replicate, List.length_append, List.length_range, upto_len, els_len, List.length_cons, List.length_nil] <;> omega) | (apply isPure_intro <;> simp))) only [go_sem]
  refine callB_frE (fz1 53 [.int .i64 10]) (fz1_ok (es := 1) (by rfl) (by simp)) (by simp -dsimp -implicitDefEqProofs (disch := (first | assumption | omega | (simp only [nats_len, List.length_map, List.length_set, List.length_replicate, List.length_append, List.length_range, upto_len, els_len, List.length_cons, List.length_nil] <;> omega) | (apply isPure_intro <;> simp))) only [go_sem]; rfl) sd (by simp) ?_
  simp -dsimp -implicitDefEqProofs (disch := (first | assumption | omega | (simp only [nats_len, List.length_map, List.length_set, List.length_replicate, List.length_append, List.length_range, upto_len, els_len, List.length_cons, List.length_nil] <;> omega) | (apply isPure_intro <;> simp))) only [go_sem]
  refine callB_of (tx 15 (by decide)) (by simp) ?_
  simp -dsimp -implicitDefEqProofs (disch := (first | assumption | omega | (simp only [nats_len, List.length_map, List.length_set, List.length_replicate, List.length_append, List.length_range, upto_len, els_len, List.length_cons, List.length_nil] <;> omega) | (apply isPure_intro <;> simp))) only [go_sem]
  refine callB_frE (fz1 58 [.int .i64 4]) (fz1_ok (es := 1) (by rfl) (by simp)) (by simp -dsimp -implicitDefEqProofs (disch := (first | assumption | omega | (simp only [nats_len, List.length_map, List.length_set, List.length_replicate, List.length_append, List.length_range, upto_len, els_len, List.length_cons, List.length_nil] <;> omega) | (apply isPure_intro <;> simp))) only [go_sem]; rfl) fe (by simp) ?_
  simp -dsimp -implicitDefEqProofs (disch := (first | assumption | omega | (simp only [nats_len, List.length_map, List.length_set, List.length_replicate, List.length_append, List.length_range, upto_len, els_len, List.length_cons, List.length_nil] <;> omega) | (apply isPure_intro <;> simp))) only [go_sem]
  refine callB_frE (fz1 62 [.int .i64 4]) (fz1_ok (es := 1) (by rfl) (by simp)) (by simp -dsimp -implicitDefEqProofs (disch := (first | assumption | omega | (simp only [nats_len, List.length_map, List.length_set, List.length_replicate, List.length_append, List.length_range, upto_len, els_len, List.length_cons, List.length_nil] <;> omega) | (apply isPure_intro <;> simp))) only [go_sem]; rfl) ff (by simp) ?_
  simp -dsimp -implicitDefEqProofs (disch := (first | assumption | omega | (simp only [nats_len, List.length_map, List.length_set, List.length_replicate, List.length_append, List.length_range, upto_len, els_len, List.length_cons, List.length_nil] <;> omega) | (apply isPure_intro <;> simp))) only [go_sem]
  refine callB_frE (fz1 66 [.int .i64 4]) (fz1_ok (es := 1) (by rfl) (by simp)) (by simp -dsimp -implicitDefEqProofs (disch := (first | assumption | omega | (simp only [nats_len, List.length_map, List.length_set, List.length_replicate, List.length_append, List.length_range, upto_len, els_len, List.length_cons, List.length_nil] <;> omega) | (apply isPure_intro <;> simp))) only [go_sem]; rfl) vi (by simp) ?_
  simp -dsimp -implicitDefEqProofs (disch := (first | assumption | omega | (simp only [nats_len, List.length_map, List.length_set, List.length_replicate, List.length_append, List.length_range, upto_len, els_len, List.length_cons, List.length_nil] <;> omega) | (apply isPure_intro <;> simp))) only [go_sem]
  refine callB_of (st 208 (by decide)) (by simp) ?_
  simp -dsimp -implicitDefEqProofs (disch := (first | assumption | omega | (simp only [nats_len, List.length_map, List.length_set, List.length_replicate, List.length_append, List.length_range, upto_len, els_len, List.length_cons, List.length_nil] <;> omega) | (apply isPure_intro <;> simp))) only [go_sem]
  refine callB_frE (fz1 71 [.int .i64 4]) (fz1_ok (es := 1) (by rfl) (by simp)) (by simp -dsimp -implicitDefEqProofs (disch := (first | assumption | omega | (simp only [nats_len, List.length_map, List.length_set, List.length_replicate, List.length_append, List.length_range, upto_len, els_len, List.length_cons, List.length_nil] <;> omega) | (apply isPure_intro <;> simp))) only [go_sem]; rfl) sj (by simp) ?_
  simp -dsimp -implicitDefEqProofs (disch := (first | assumption | omega | (simp only [nats_len, List.length_map, List.length_set, List.length_replicate, List.length_append, List.length_range, upto_len, els_len, List.length_cons, List.length_nil] <;> omega) | (apply isPure_intro <;> simp))) only [go_sem]
  refine callB_of (tx 52 (by decide)) (by simp) ?_
  simp -dsimp -implicitDefEqProofs (disch := (first | assumption | omega | (simp only [nats_len, List.length_map, List.length_set, List.length_replicate, List.length_append, List.length_range, upto_len, els_len, List.length_cons, List.length_nil] <;> omega) | (apply isPure_intro <;> simp))) only [go_sem]
  refine callB_frE (fz1 75 [.int .i64 1000000, .int .i64 (-1000000)]) (fz1_ok (es := 1) (by rfl) (by simp)) (by simp -dsimp -implicitDefEqProofs (disch := (first | assumption | omega | (simp only [nats_len, List.length_map, List.length_set, List.length_replicate, List.length_append, List.length_range, upto_len, els_len, List.length_cons, List.length_nil] <;> omega) | (apply isPure_intro <;> simp))) only [go_sem]; rfl) sk (by simp) ?_
  simp -dsimp -implicitDefEqProofs (disch := (first | assumption | omega | (simp only [nats_len, List.length_map, List.length_set, List.length_replicate, List.length_append, List.length_range, upto_len, els_len, List.length_cons, List.length_nil] <;> omega) | (apply isPure_intro <;> simp))) only [go_sem]
  refine callB_frE (fz1 78 [.int .i64 1000001]) (fz1_ok (es := 1) (by rfl) (by simp)) (by simp -dsimp -implicitDefEqProofs (disch := (first | assumption | omega | (simp only [nats_len, List.length_map, List.length_set, List.length_replicate, List.length_append, List.length_range, upto_len, els_len, List.length_cons, List.length_nil] <;> omega) | (apply isPure_intro <;> simp))) only [go_sem]; rfl) sl (by simp) ?_
  have hf : (([12] : List Int).all fun s => decide (s ≤ 1 * 11) && decide (-s ≤ 1 * 11)) = false := by decide
  have ht : (([12] : List Int).all fun s => decide (s ≤ 1 * 12) && decide (-s ≤ 1 * 12)) = true := by decide
  simp -dsimp -implicitDefEqProofs (disch := (first | assumption | omega | (simp only [nats_len, List.length_map, List.length_set, List.length_replicate, List.length_append, List.length_range, upto_len, els_len, List.length_cons, List.length_nil] <;> omega) | (apply isPure_intro <;> simp))) only [go_sem, q1, q2, q3, q4, q5, q6, hf, ht]
end Go.Gim
/- Graphs without a prior: what they cost, in numbers. -/
set_option maxRecDepth 100000
set_option maxHeartbeats 4000000
set_option linter.unusedSimpArgs false
set_option linter.unusedVariables false
namespace Go.Gim
structure Rq (n : Int) (rows : List Row4) (den : Int) (x : List Int) (m : Nat) : Prop where
  nm : n = m
  len : x.length = m
  lo : 1 ≤ m
  hi : m ≤ 11
  sixty : rows.length ≤ 60
  right : ∀ r ∈ rows, Right4 r x.length
  pos : 0 < den
  state : State x
  new : gnewE n rows = 0
  gr : ∀ prior q, rdQ n rows prior q den x = ⟨m, rows, mirM prior m, padQ q m, 0, den⟩
theorem rdQ_ok {n : Int} {rows : List Row4} {den : Int} {x : List Int} (h : rdB n rows den x = true) : ∃ m : Nat, Rq n rows den x m := by
  have h' := h
  unfold rdB at h
  simp only [Bool.and_eq_true, decide_eq_true_eq] at h
  obtain ⟨⟨⟨h1, h2⟩, h3⟩, h4⟩ := h
  obtain ⟨hn, h60, hrt⟩ := gnewE_ok h1
  obtain ⟨m, rfl⟩ : ∃ m : Nat, n = m := ⟨n.toNat, by omega⟩
  refine ⟨m, rfl, by omega, by omega, by omega, h60, fun r hr => ?_, h2, stateB_iff.1 h4, h1, fun prior q => by unfold rdQ; rw [if_pos h', Int.toNat_natCast]⟩
  have := rightB_iff.1 (hrt r hr)
  rwa [show x.length = m by omega]
abbrev gQ (m : Nat) (rows : List Row4) (prior : List (List Int)) (q : List Int) (den : Int) : Gr := ⟨m, rows, mirM prior m, padQ q m, 0, den⟩
theorem gQ_ok {m : Nat} {rows : List Row4} {prior : List (List Int)} {q : List Int} {den : Int} {y : List Int} (hy : y.length = m) (hm : m ≤ 11) (h60 : rows.length ≤ 60) (hr : ∀ r ∈ rows, Right4 r m) (hs : State y) (hp : ∀ r ∈ prior, ∀ v ∈ r, In64 v) (hq : ∀ v ∈ q, In64 v) (hd : In64 den) : GOkay (gQ m rows prior q den) y where
  len := hy
  hi := hm
  sixty := h60
  right := fun r h => by rw [hy]; exact hr r h
  state := hs
  sq := mirM_sq _ _
  ql := padQ_len _ _
  sP := fun i j => by
    have := lim_at_mat (n := m) (fun i j => lim_i64 (at2_in hp (max i j) (min i j))) i j
    dsimp only [gQ, mirM]; omega
  sQ := fun i => by have := lim_i64 (getD_in (padQ_in hq m) i); dsimp only; omega
  sc := by rw [lim_zero]; omega
  sd := by have := lim_i64 hd; dsimp only; omega
end Go.Gim
/- The laws that costs are as the document says. -/
set_option maxRecDepth 100000
set_option maxHeartbeats 4000000
set_option linter.unusedSimpArgs false
set_option linter.unusedVariables false
namespace Go.Gim
open Go.Proofs
theorem CostHolds_true (n den most : Int) (rows : List Row4) (prior : List (List Int)) (q x y other : List Int) (hl : rows.length ≤ 9223372036854775807) (hr : ∀ r ∈ rows, r.co.length ≤ 9223372036854775807) (hpl : prior.length ≤ 9223372036854775807) (hp : ∀ r ∈ prior, r.length ≤ 9223372036854775807 ∧ ∀ v ∈ r, In64 v) (hqi : ∀ v ∈ q, In64 v) (hd : In64 den) (hx : x.length ≤ 9223372036854775807) (hy : y.length ≤ 9223372036854775807) (hmo : In64 most) (ho : other.length ≤ 9223372036854775807) :
    Ret pg n_gimballaw18_CostHolds [.int .i64 n, .sl (rows.map RV), .sl (prior.map ints), ints q, .int .i64 den, ints x, ints y, .int .i64 most, ints other] (.bool true) := by
  refine gimballaw18_CostHolds.of rfl (W_b ?_)
  unfold gimballaw18_CostHolds.k gimballaw18_CostHolds.res
  simp -dsimp -implicitDefEqProofs (disch := (first | assumption | omega | (simp only [nats_len, List.length_map, List.length_set, List.length_replicate, List.length_append, List.length_range, upto_len, els_len, List.length_cons, List.length_nil] <;> omega) | (apply isPure_intro <;> simp))) only [go_sem]
  refine callB_of awake18_ret (by simp) ?_
  simp -dsimp -implicitDefEqProofs (disch := (first | assumption | omega | (simp only [nats_len, List.length_map, List.length_set, List.length_replicate, List.length_append, List.length_range, upto_len, els_len, List.length_cons, List.length_nil] <;> omega) | (apply isPure_intro <;> simp))) only [go_sem]
  refine callB_of (cstate_ret other ho) (by simp) ?_
  simp -dsimp -implicitDefEqProofs (disch := (first | assumption | omega | (simp only [nats_len, List.length_map, List.length_set, List.length_replicate, List.length_append, List.length_range, upto_len, els_len, List.length_cons, List.length_nil] <;> omega) | (apply isPure_intro <;> simp))) only [go_sem]
  refine callB_of (rstate_ret other ho) (by simp) ?_
  have hbn : (stateB other != stateB other) = false := by simp
  simp -dsimp -implicitDefEqProofs (disch := (first | assumption | omega | (simp only [nats_len, List.length_map, List.length_set, List.length_replicate, List.length_append, List.length_range, upto_len, els_len, List.length_cons, List.length_nil] <;> omega) | (apply isPure_intro <;> simp))) only [go_sem, hbn]
  refine callB_of (read18_ret n den rows prior q x hl hr hpl hp hqi hx hd) (by simp) ?_
  simp -dsimp -implicitDefEqProofs (disch := (first | assumption | omega | (simp only [nats_len, List.length_map, List.length_set, List.length_replicate, List.length_append, List.length_range, upto_len, els_len, List.length_cons, List.length_nil] <;> omega) | (apply isPure_intro <;> simp))) only [go_sem]
  refine callB_of (rstate_ret y hy) (by simp) ?_
  cases hb : rdB n rows den x
  · simp -dsimp -implicitDefEqProofs (disch := (first | assumption | omega | (simp only [nats_len, List.length_map, List.length_set, List.length_replicate, List.length_append, List.length_range, upto_len, els_len, List.length_cons, List.length_nil] <;> omega) | (apply isPure_intro <;> simp))) only [go_sem]
  · obtain ⟨m, hm⟩ := rdQ_ok hb
    obtain ⟨rfl, hxm, hlo, hhi, h60, hrt, hdp, hst, hnew, hg⟩ := hm
    rw [hg]
    cases hsy : stateB y
    · simp -dsimp -implicitDefEqProofs (disch := (first | assumption | omega | (simp only [nats_len, List.length_map, List.length_set, List.length_replicate, List.length_append, List.length_range, upto_len, els_len, List.length_cons, List.length_nil] <;> omega) | (apply isPure_intro <;> simp))) only [go_sem]
    · by_cases hym : y.length = m
      · have hsty := stateB_iff.1 hsy
        have hrm : ∀ r ∈ rows, Right4 r m := fun r h => by rw [← hxm]; exact hrt r h
        have hok := gQ_ok (prior := prior) (q := q) (den := den) hxm hhi h60 hrm hst (fun r h => (hp r h).2) hqi hd
        have hok2 := gQ_ok (prior := prior) (q := q) (den := den) hym hhi h60 hrm hsty (fun r h => (hp r h).2) hqi hd
        have hvx := valC_lim hok
        have hvy := valC_lim hok2
        have hdx := dlim_lim (valC (gQ m rows prior q den) x)
        have hdy := dlim_lim (valC (gQ m rows prior q den) y)
        simp -dsimp -implicitDefEqProofs (disch := (first | assumption | omega | (simp only [nats_len, List.length_map, List.length_set, List.length_replicate, List.length_append, List.length_range, upto_len, els_len, List.length_cons, List.length_nil] <;> omega) | (apply isPure_intro <;> simp))) only [go_sem, hym]
        first | refine callB_of (less_ret' _ _ _ hok hok2) (by simp) ?_ | refine callP_of (less_ret' _ _ _ hok hok2) (by simp) ?_
        simp -dsimp -implicitDefEqProofs (disch := (first | assumption | omega | (simp only [nats_len, List.length_map, List.length_set, List.length_replicate, List.length_append, List.length_range, upto_len, els_len, List.length_cons, List.length_nil] <;> omega) | (apply isPure_intro <;> simp))) only [go_sem]
        first | refine callB_of (flat_ret _ _ _ hok hmo) (by simp) ?_ | refine callP_of (flat_ret _ _ _ hok hmo) (by simp) ?_
        simp -dsimp -implicitDefEqProofs (disch := (first | assumption | omega | (simp only [nats_len, List.length_map, List.length_set, List.length_replicate, List.length_append, List.length_range, upto_len, els_len, List.length_cons, List.length_nil] <;> omega) | (apply isPure_intro <;> simp))) only [go_sem]
        first | refine callB_of (rvalue18_ret _ _ hok hlo) (by simp) ?_ | refine callP_of (rvalue18_ret _ _ hok hlo) (by simp) ?_
        simp -dsimp -implicitDefEqProofs (disch := (first | assumption | omega | (simp only [nats_len, List.length_map, List.length_set, List.length_replicate, List.length_append, List.length_range, upto_len, els_len, List.length_cons, List.length_nil] <;> omega) | (apply isPure_intro <;> simp))) only [go_sem]
        first | refine callB_of (rvalue18_ret _ _ hok2 hlo) (by simp) ?_ | refine callP_of (rvalue18_ret _ _ hok2 hlo) (by simp) ?_
        simp -dsimp -implicitDefEqProofs (disch := (first | assumption | omega | (simp only [nats_len, List.length_map, List.length_set, List.length_replicate, List.length_append, List.length_range, upto_len, els_len, List.length_cons, List.length_nil] <;> omega) | (apply isPure_intro <;> simp))) only [go_sem]
        first | refine callB_of (r_cmp (valC (gQ m rows prior q den) x) (valC (gQ m rows prior q den) y) (by omega) (by omega)) (by simp) ?_ | refine callP_of (r_cmp (valC (gQ m rows prior q den) x) (valC (gQ m rows prior q den) y) (by omega) (by omega)) (by simp) ?_
        simp -dsimp -implicitDefEqProofs (disch := (first | assumption | omega | (simp only [nats_len, List.length_map, List.length_set, List.length_replicate, List.length_append, List.length_range, upto_len, els_len, List.length_cons, List.length_nil] <;> omega) | (apply isPure_intro <;> simp))) only [go_sem, sign_lt]
        first | refine callB_of (rflat18_ret _ _ _ hok hlo hmo) (by simp) ?_ | refine callP_of (rflat18_ret _ _ _ hok hlo hmo) (by simp) ?_
        simp -dsimp -implicitDefEqProofs (disch := (first | assumption | omega | (simp only [nats_len, List.length_map, List.length_set, List.length_replicate, List.length_append, List.length_range, upto_len, els_len, List.length_cons, List.length_nil] <;> omega) | (apply isPure_intro <;> simp))) only [go_sem]
      · simp -dsimp -implicitDefEqProofs (disch := (first | assumption | omega | (simp only [nats_len, List.length_map, List.length_set, List.length_replicate, List.length_append, List.length_range, upto_len, els_len, List.length_cons, List.length_nil] <;> omega) | (apply isPure_intro <;> simp))) only [go_sem, hym]
end Go.Gim

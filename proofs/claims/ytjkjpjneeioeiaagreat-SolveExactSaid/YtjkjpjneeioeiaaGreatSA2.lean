import Derived.Test.YtjkjpjneeioeiaaGreatSV6
import Derived.Test.YtjkjpjneeioeiaaGreatSL1
set_option linter.unusedSimpArgs false
set_option linter.unusedVariables false
/- The examples of the laws on looking for less. -/
set_option maxRecDepth 100000
set_option maxHeartbeats 4000000
namespace Go.Gim
open Go.Proofs
attribute [local go_sem] CV_isAgg zhg CV_cells part_CV
@[simp] theorem ResV_pure (x : List Int) (a b c : Int) : (ResV x a b c).Pure := by simp [ResV]
@[simp] theorem ResV_isJunk (x : List Int) (a b c : Int) : (ResV x a b c).isJunk = false := rfl
theorem ResV_isAgg (x : List Int) (a b c : Int) : (ResV x a b c).isAgg = true := rfl
theorem ResV_cells (x : List Int) (a b c : Int) : (ResV x a b c).cells = [ints x, .int .i64 a, .int .i64 b, .int .i64 c] := rfl
theorem csub_CV (g : Nat → Option (List V)) (c : Cfg) : V.sub g (CV c) = CV c := zck _ (CV_pure c)
theorem csub_ResV (g : Nat → Option (List V)) (x : List Int) (a b c : Int) : V.sub g (ResV x a b c) = ResV x a b c := zck _ (ResV_pure x a b c)
def dfC : Cfg := ⟨100, 50, 4, 5, 2097152, 33554432, 2000, 1000, 500, 100, 4, 1, 2, 8, 12, 6, 1000⟩
theorem fill_k : fillV [.int .i64 0, .int .i64 0, .int .i64 0, .int .i64 0] [(0, 1, .int .i64 2000), (1, 1, .int .i64 1000), (2, 1, .int .i64 500), (3, 1, .int .i64 100)] = some [.int .i64 2000, .int .i64 1000, .int .i64 500, .int .i64 100] := rfl
theorem fill_w : fillV [.int .i64 0, .int .i64 0, .int .i64 0, .int .i64 0] [(0, 1, .int .i64 4), (1, 1, .int .i64 1), (2, 1, .int .i64 2), (3, 1, .int .i64 8)] = some [.int .i64 4, .int .i64 1, .int .i64 2, .int .i64 8] := rfl
theorem fill_d : fillV [.int .i64 0, .int .i64 0, .int .i64 0, .int .i64 0, .int .i64 0, .int .i64 0, .int .i64 0, .int .i64 0, .int .i64 0, .int .i64 0, .int .i64 0, .int .i64 0, .int .i64 0, .int .i64 0, .int .i64 0, .int .i64 0, .int .i64 0]
  [(0, 1, .int .i64 100), (1, 1, .int .i64 50), (2, 1, .int .i64 4), (3, 1, .int .i64 5), (4, 1, .int .i64 2097152), (5, 1, .int .i64 33554432), (6, 4, .agg [.int .i64 2000, .int .i64 1000, .int .i64 500, .int .i64 100]), (10, 4, .agg [.int .i64 4, .int .i64 1, .int .i64 2, .int .i64 8]), (14, 1, .int .i64 12), (15, 1, .int .i64 6), (16, 1, .int .i64 1000)] =
  some [.int .i64 100, .int .i64 50, .int .i64 4, .int .i64 5, .int .i64 2097152, .int .i64 33554432, .int .i64 2000, .int .i64 1000, .int .i64 500, .int .i64 100, .int .i64 4, .int .i64 1, .int .i64 2, .int .i64 8, .int .i64 12, .int .i64 6, .int .i64 1000] := rfl
attribute [-go_sem] fillV in
theorem default_ret : Ret pg zd8 [] (CV dfC) := by
 refine config_Default.of rfl (W_b ?_)
 unfold config_Default.k config_Default.res Ot kp Oy ci
 simp -dsimp -implicitDefEqProofs (disch := try exact zdE) only [go_sem, fill_k, fill_w]
 simp -dsimp -implicitDefEqProofs (disch := try exact zdE) only [go_sem, fill_d]
 rfl
def va : Row4 := ⟨[1], 100, 32768, 1⟩
def vb : Row4 := ⟨[2], 5, 32768, 1⟩
def wg1 : Gr := ⟨1, [va], mat 1 (fun _ _ => 0), List.replicate 1 0, 0, 1⟩
def wg2 : Gr := ⟨1, [vb], mat 1 (fun _ _ => 0), List.replicate 1 0, 0, 1⟩
def wg3 : Gr := ⟨1, [], mat 1 (fun _ _ => 0), List.replicate 1 0, 0, 1⟩
theorem v_at (i j : Nat) : at2 (mat 1 fun _ _ => 0) i j = 0 := by
 rcases i with _ | i <;> rcases j with _ | j <;> rfl
theorem v_get (i : Nat) : (List.replicate 1 (0 : Int)).getD i 0 = 0 := by rcases i with _ | i <;> rfl
theorem v_st (a : Int) (h : -1000000 ≤ a ∧ a ≤ 1000000) : State [a] := fun v hv => by simp at hv; omega
theorem v_ok (rows : List Row4) (hr : ∀ r ∈ rows, zfo r 1 = true) (h60 : rows.length ≤ 60) (a : Int) (h : -1000000 ≤ a ∧ a ≤ 1000000) : GOkay ⟨1, rows, mat 1 (fun _ _ => 0), List.replicate 1 0, 0, 1⟩ [a] where
 len := rfl
 hi := by show 1 ≤ 11; decide
 sixty := h60
 right := fun r h => rightB_iff.1 (hr r h)
 state := v_st a h
 sq := mat_sq _ _
 ql := rfl
 sP := fun i j => by show lim (at2 (mat 1 fun _ _ => 0) i j) ≤ 100; rw [v_at, za0]; omega
 sQ := fun i => by show lim ((List.replicate 1 (0 : Int)).getD i 0) ≤ 100; rw [v_get, za0]; omega
 sc := by show lim 0 ≤ 100; rw [za0]; omega
 sd := Nat.le_trans (zat (x := 1) (by decide)) (by decide)
def c0C : Cfg := { dfC with flat := 0 }
def c1C : Cfg := { c0C with raises := 1 }
end Go.Gim
/- The laws on looking for less: their examples hold. -/
set_option maxRecDepth 100000
set_option maxHeartbeats 4000000
namespace Go.Gim
open Go.Proofs
attribute [local go_sem] CV_isAgg zhg CV_cells part_CV csub_CV ResV_isJunk ResV_isAgg ResV_cells csub_ResV
theorem zcj : Ret pg zef [] (.bool true) := by
 have g1 := gnew_ret 1 [va] (by decide) (by decide)
 rw [show gnewE 1 [va] = 0 by decide, if_pos rfl] at g1
 have g2 := gnew_ret 1 [vb] (by decide) (by decide)
 rw [show gnewE 1 [vb] = 0 by decide, if_pos rfl] at g2
 have g3 := gnew_ret 1 [] (by decide) (by decide)
 rw [show gnewE 1 [] = 0 by decide, if_pos rfl] at g3
 change Ret pg zcw _ (.tup [GV wg1, _]) at g1
 change Ret pg zcw _ (.tup [GV wg2, _]) at g2
 change Ret pg zcw _ (.tup [GV wg3, _]) at g3
 have k1 : GOkay wg1 [0] := v_ok [va] (by decide) (by decide) 0 (by decide)
 have k2 : GOkay wg2 [0] := v_ok [vb] (by decide) (by decide) 0 (by decide)
 have k3 : GOkay wg3 [7] := v_ok [] (by decide) (by decide) 7 (by decide)
 have s0 := step_ret wg1 [0] 0 k1 (by decide) (by decide)
 rw [if_pos (by decide +kernel), show stepL wg1 [0] 0 = [100] by decide +kernel] at s0
 have s1 := step_ret wg1 [0] 1 k1 (by decide) (by decide)
 rw [if_pos (by decide +kernel), show stepL wg1 [0] 1 = [100] by decide +kernel] at s1
 have ck0 := check_ret c0C
 rw [show (chk c0C).2 = 0 by decide] at ck0
 have ck1 := check_ret c1C
 rw [show (chk c1C).2 = 0 by decide] at ck1
 have z1 := solve_ret wg1 c0C [0] _ 12 6 ck0 k1 (by decide) rfl rfl (by decide) (by decide) (by decide)
 rw [show solF wg1 c0C.flat 6 12 [0] 0 0 = ([100], 1, 1, 1) by decide +kernel] at z1
 have z2 := solve_ret wg2 c1C [0] _ 12 1 ck1 k2 (by decide) rfl rfl (by decide) (by decide) (by decide)
 rw [show solF wg2 c1C.flat 1 12 [0] 0 0 = ([3], 3, 1, 2) by decide +kernel] at z2
 have z3 := solve_ret wg3 c1C [7] _ 12 1 ck1 k3 (by decide) rfl rfl (by decide) (by decide) (by decide)
 rw [show solF wg3 c1C.flat 1 12 [7] 0 0 = ([7], 1, 0, 0) by decide +kernel] at z3
 have w100 := same19_ret [100] [100] (by decide) (by decide)
 have w3 := same19_ret [3] [3] (by decide) (by decide)
 have w7 := same19_ret [7] [7] (by decide) (by decide)
 rw [decide_eq_true rfl] at w100 w3 w7
 refine gimballaw19_awake.of rfl (W_b ?_)
 unfold gimballaw19_awake.k gimballaw19_awake.res Ot kp Og Oh Oy Om Ol OL Oq ci
 refine sgo ?_
 refine zbf (fzl [(1, [.int .i64 1]), (3, [RV va])]) (fzl_ok fun p hp => by
  simp only [List.mem_cons, List.not_mem_nil, or_false] at hp
  rcases hp with rfl | rfl <;> exact ⟨⟨_, _, rfl, by simp -dsimp -implicitDefEqProofs (disch := try exact zdE) only [go_sem] <;> rfl⟩, by simp⟩) (by simp -dsimp -implicitDefEqProofs (disch := try exact zdE) only [go_sem] <;> rfl) g1 (by simp) ?_
 refine sgo ?_
 refine zbf (fzl [(11, [.int .i64 2]), (13, [RV vb])]) (fzl_ok fun p hp => by
  simp only [List.mem_cons, List.not_mem_nil, or_false] at hp
  rcases hp with rfl | rfl <;> exact ⟨⟨_, _, rfl, by simp -dsimp -implicitDefEqProofs (disch := try exact zdE) only [go_sem] <;> rfl⟩, by simp⟩) (by simp -dsimp -implicitDefEqProofs (disch := try exact zdE) only [go_sem] <;> rfl) g2 (by simp) ?_
 refine sgo ?_
 refine zaa (g3.nn (args := [.int .i64 1, .nil]) rfl) (by simp) ?_
 refine sgo ?_
 first | refine zaa (default_ret) (by simp) ?_ | refine zab (default_ret) (by simp) ?_
 refine sgo ?_
 refine zbf (fz1 42 [.int .i64 0]) (zdk (es := 1) (by rfl) (by simp)) (by simp -dsimp -implicitDefEqProofs (disch := try exact zdE) only [go_sem] <;> rfl) s0 (by simp) ?_
 refine sgo ?_
 refine zbf (fz1 50 [.int .i64 0]) (zdk (es := 1) (by rfl) (by simp)) (by simp -dsimp -implicitDefEqProofs (disch := try exact zdE) only [go_sem] <;> rfl) s1 (by simp) ?_
 refine sgo ?_
 refine zbf (fz1 61 [.int .i64 0]) (zdk (es := 1) (by rfl) (by simp)) (by simp -dsimp -implicitDefEqProofs (disch := try exact zdE) only [go_sem] <;> rfl) z1 (by simp) ?_
 refine sgo ?_
 refine zbf (fz1 73 [.int .i64 0]) (zdk (es := 1) (by rfl) (by simp)) (by simp -dsimp -implicitDefEqProofs (disch := try exact zdE) only [go_sem] <;> rfl) z2 (by simp) ?_
 refine sgo ?_
 refine zbf (fz1 83 [.int .i64 7]) (zdk (es := 1) (by rfl) (by simp)) (by simp -dsimp -implicitDefEqProofs (disch := try exact zdE) only [go_sem] <;> rfl) z3 (by simp) ?_
 refine sgo ?_
 refine zbf (fz1 92 [.int .i64 100]) (zdk (es := 1) (by rfl) (by simp)) (by simp -dsimp -implicitDefEqProofs (disch := try exact zdE) only [go_sem] <;> rfl) w100 (by simp) ?_
 refine sgo ?_
 refine zbf (fz1 100 [.int .i64 100]) (zdk (es := 1) (by rfl) (by simp)) (by simp -dsimp -implicitDefEqProofs (disch := try exact zdE) only [go_sem] <;> rfl) w100 (by simp) ?_
 refine sgo ?_
 refine zbf (fz1 110 [.int .i64 100]) (zdk (es := 1) (by rfl) (by simp)) (by simp -dsimp -implicitDefEqProofs (disch := try exact zdE) only [go_sem] <;> rfl) w100 (by simp) ?_
 refine sgo ?_
 refine zbf (fz1 134 [.int .i64 3]) (zdk (es := 1) (by rfl) (by simp)) (by simp -dsimp -implicitDefEqProofs (disch := try exact zdE) only [go_sem] <;> rfl) w3 (by simp) ?_
 refine sgo ?_
 refine zbf (fz1 166 [.int .i64 7]) (zdk (es := 1) (by rfl) (by simp)) (by simp -dsimp -implicitDefEqProofs (disch := try exact zdE) only [go_sem] <;> rfl) w7 (by simp) ?_
 exact sgo trivial
 done
end Go.Gim
/- Looking for less: how it ends, asked again; in plain Lean. -/
set_option maxRecDepth 100000
namespace Go.Gim
open Go.Proofs
theorem rndF_some (g : Gr) (x : List Int) : ∀ (k r : Nat) (st t : Int) (y : List Int) (st' t' : Int), rndF g x k r st t = (some y, st', t') → valC g y < valC g x ∧ zdv y = true ∧ y.length = x.length
 | 0, r, st, t, y, st', t', h => by simp [rndF] at h
 | k + 1, r, st, t, y, st', t', h => by
  simp only [rndF] at h
  split at h
  ·exact rndF_some g x k _ _ _ y st' t' h
  ·split at h
   ·simp at h
   ·split at h
    ·exact rndF_some g x k _ _ _ y st' t' h
    ·rename_i hz
     split at h
     ·rename_i hlt
      injection h with h1 h2
      injection h1 with h1
      subst h1
      exact ⟨hlt, by simpa using hz, plusL_len _ _⟩
     ·exact rndF_some g x k _ _ _ y st' t' h
structure EndS (g : Gr) (most : Int) (R k : Nat) (x : List Int) (acc t : Int) (F : List Int × Int × Int × Int) : Prop where
 how : (F.2.1 = 1 ∧ flatB g F.1 most = true) ∨ (F.2.1 = 2 ∧ flatB g F.1 most = false ∧ F.2.2.1 = acc + k) ∨ (flatB g F.1 most = false ∧ ∃ t0, rndF g F.1 (R + 1) 0 5 t0 = (none, F.2.1, F.2.2.2))
 fall : (F.1 = x ∧ F.2.2.1 = acc) ∨ (valC g F.1 < valC g x ∧ acc < F.2.2.1)
 up : F.2.2.1 ≤ acc + k
 len : F.1.length = x.length
 state : zdv x = true → zdv F.1 = true
theorem solF_end (g : Gr) (most : Int) (R : Nat) : ∀ (k : Nat) (x : List Int) (acc t : Int), EndS g most R k x acc t (solF g most R k x acc t)
 | 0, x, acc, t => by
  unfold solF
  split
  ·rename_i h; exact ⟨.inl ⟨rfl, h⟩, .inl ⟨rfl, rfl⟩, zdo, rfl, id⟩
  ·rename_i h; exact ⟨.inr (.inl ⟨rfl, by simpa using h, zdo⟩), .inl ⟨rfl, rfl⟩, zdo, rfl, id⟩
 | k + 1, x, acc, t => by
  unfold solF
  split
  ·rename_i h; exact ⟨.inl ⟨rfl, h⟩, .inl ⟨rfl, rfl⟩, zdo, rfl, id⟩
  ·rename_i h
   have h : flatB g x most = false := by simpa using h
   split
   ·rename_i st t' hr
    exact ⟨.inr (.inr ⟨h, t, hr⟩), .inl ⟨rfl, rfl⟩, zdo, rfl, id⟩
   ·rename_i y st t' hr
    obtain ⟨q1, q2, q3⟩ := rndF_some g x (R + 1) 0 5 t y st t' hr
    have ih := solF_end g most R k y (acc + 1) t'
    generalize solF g most R k y (acc + 1) t' = F at ih
    refine ⟨?_, ?_, ?_, ?_, ?_⟩
    ·rcases ih.how with h | ⟨h1, h2, h3⟩ | h
     ·exact .inl h
     ·exact .inr (.inl ⟨h1, h2, by omega⟩)
     ·exact .inr (.inr h)
    ·rcases ih.fall with ⟨h1, h2⟩ | ⟨h1, h2⟩
     ·exact .inr ⟨by rw [h1]; exact q1, by omega⟩
     ·exact .inr ⟨by omega, by omega⟩
    ·have := ih.up; omega
    ·rw [ih.len, q3]
    ·exact fun _ => ih.state q2
end Go.Gim
/- The law SolveAgain: asked again from where it ended. -/
set_option maxRecDepth 100000
set_option maxHeartbeats 4000000
namespace Go.Gim
open Go.Proofs
attribute [local go_sem] CV_isAgg zhg CV_cells part_CV csub_CV ResV_isJunk ResV_isAgg ResV_cells csub_ResV
theorem zrep_get (m i : Nat) : (List.replicate m (0 : Int)).getD i 0 = 0 := by
 rw [List.getD_eq_getElem?_getD, List.getElem?_replicate]
 split <;> rfl
theorem gz_ok {m : Nat} {rows : List Row4} {x : List Int} (hm : 1 ≤ m ∧ m ≤ 11) (h60 : rows.length ≤ 60) (hr : ∀ r ∈ rows, zfo r m = true) (hxm : x.length = m) (hst : zdv x = true) : GOkay ⟨m, rows, mirM [] m, List.replicate m 0, 0, 1⟩ x where
 len := hxm
 hi := hm.2
 sixty := h60
 right := fun r h => by rw [hxm]; exact rightB_iff.1 (hr r h)
 state := stateB_iff.1 hst
 sq := mirM_sq _ _
 ql := by simp
 sP := fun i j => Nat.le_trans (zat (at2_in (fun r h => mirM_in (rows := []) (fun r h => by cases h) m r h) i j)) (by decide)
 sQ := fun i => by show lim ((List.replicate m 0).getD i 0) ≤ 100; rw [zrep_get, za0]; omega
 sc := by show lim 0 ≤ 100; rw [za0]; omega
 sd := Nat.le_trans (zat (x := 1) (by decide)) (by decide)
end Go.Gim

import Derived.Test.YtjkjpjneeioeiaaGreatSM0
import Derived.Test.YtjkjpjneeioeiaaGreatLR5
import Derived.Test.YtjkjpjneeioeiaaGreatLR4
import Derived.Test.YtjkjpjneeioeiaaGreatGRR
/- References 07 and 08: matrices and functions made of rows. -/
set_option maxRecDepth 100000
set_option maxHeartbeats 4000000
set_option linter.unusedSimpArgs false
set_option linter.unusedVariables false
namespace Go.Gim
open Go.Proofs
theorem r7of_ret (rows : List (List Int)) (hl : rows.length ≤ 1000000) (hr : ∀ r ∈ rows, r.length ≤ 1000000 ∧ ∀ v ∈ r, In64 v) : Ret pg zfy [.sl (rows.map ints)] (.sl (rows.map dvl)) := by
 refine gimbalref07_Of.of rfl (W_b ?_)
 unfold gimbalref07_Of.k gimbalref07_Of.res Ot kp Om Ol Oi Oc On ci
 have hrow : ∀ k, ∀ x ∈ (rows.take k).map dvl, V.Pure x := fun k => zd5 fun x => by simp
 refine sgo ?_
 refine zam (T := Nat × V × Hp × Nat) (fun t => ⟨E [(0, .sl (rows.map ints)), (3, t.2.1), (4, .int .i64 t.1)], t.2.2.1, t.2.2.2, t.2.2.2⟩)
  (fun t => t.1 ≤ rows.length ∧ Row 0 t.2.2.1 t.2.2.2 t.2.1 1 ((rows.take t.1).map dvl)) (fun t => rows.length - t.1) (0, .nil, _, _) rfl ⟨zdo, Row.nil _ _ _ _⟩ ?_
 rintro ⟨i, w, H, nx⟩ ⟨i1, i2⟩
 dsimp only at i1 i2
 by_cases hi : i < rows.length
 ·have hm := hr _ (zai [] hi)
  have ht := zbp [] hi
  generalize hX : rows.getD i [] = xs at *
  refine sgo ?_
  refine zam (T := Nat × V × Hp × Nat) (fun t => ⟨E [(0, .sl (rows.map ints)), (3, w), (4, .int .i64 i), (5, t.2.1), (6, .int .i64 t.1)], t.2.2.1, t.2.2.2, t.2.2.2⟩)
   (fun t => t.1 ≤ xs.length ∧ nx ≤ t.2.2.2 ∧ (∀ b, b < nx → t.2.2.1 b = H b) ∧ Row nx t.2.2.1 t.2.2.2 t.2.1 2 ((xs.take t.1).map DV)) (fun t => xs.length - t.1) (0, .nil, H, _) rfl ⟨zdo, zdo, fun _ _ => rfl, Row.nil _ _ _ _⟩ ?_
  rintro ⟨j, u, H', nx'⟩ ⟨j1, j2, j3, j4⟩
  dsimp only at j1 j2 j3 j4
  by_cases hj : j < xs.length
  ·have hv := hm.2 _ (zai 0 hj)
   have htj := zbp 0 hj
   generalize hY : xs.getD j 0 = y at *
   simp -dsimp -implicitDefEqProofs (disch := try exact zdE) only [go_sem, hX, hY]
   refine zaa (r_of y hv) (by simp) ?_
   refine sgo ?_
   refine zcc (lo := nx) (nx := nx') (H0 := H') (xs := (xs.take j).map DV) j4 (by omega) rfl (by omega) (by omega) (by simp [rowOk, V.cells, V.cellOk, DV]) (by decide) (by simp; omega) (by simp; omega) fun v2 H2 r1 _ _ r4 => ?_
   rw [zeg, ← htj] at r1
   refine sgo ?_
   exact ⟨(j + 1, v2, H2, _), rfl, ⟨zdo, zdo, fun b hb => (r4 b hb).trans (j3 b hb), r1.same (fun _ _ => rfl) zdo⟩, zdo⟩
  ·have hje : j = xs.length := by omega
   subst hje
   rw [List.take_length] at j4
   have i3 : Row 0 H' nx' w 1 ((rows.take i).map dvl) := i2.same j3 j2
   have i3' : Row 0 H' nx w 1 ((rows.take i).map dvl) := i2.same j3 (Nat.le_refl _)
   simp -dsimp -implicitDefEqProofs (disch := try exact zdE) only [go_sem, hX]
   refine gh_row (lo := nx) (ys := xs.map DV) 5 rfl (j4.same (fun _ _ => rfl) (by omega)) (zd5 fun x => by simp) (fun p hp hne c hc => ?_) fun H2 hH2 => ?_
   ·simp only [List.mem_cons, List.not_mem_nil, or_false] at hp
    rcases hp with rfl | rfl | rfl | rfl | rfl | rfl <;> first | exact absurd rfl hne | (simp [V.sub]; done) | exact i2.sub_ge (by omega)
   ·have i4 := i3'.told (Nat.le_refl _) j2 (hrow i) hH2
    have e7 : V.sl (xs.map DV) = dvl xs := rfl
    simp -dsimp -implicitDefEqProofs (disch := try exact zdE) only [go_sem, e7]
    refine zcc (lo := 0) (nx := nx') (H0 := H2) (xs := (rows.take i).map dvl) i4 (by omega) rfl (by omega) (by omega) (by simp [rowOk, V.cells, V.cellOk, dvl, V.isJunk]) (by decide) (by simp; omega) (by simp; omega) fun v2 H3 r1 _ _ r4 => ?_
    rw [zeg, ← ht] at r1
    refine sgo ?_
    exact ⟨(i + 1, v2, H3, _), rfl, ⟨zdo, r1.same (fun _ _ => rfl) zdo⟩, zdo⟩
 ·have hie : i = rows.length := by omega
  subst hie
  rw [List.take_length] at i2
  refine sgo ?_
  rw [i2.frz (zc3 fun x => rfl)]
  rfl
def DQV (P : List (List Int)) (Q : List Int) (c : Int) : V := .agg [.sl (P.map dvl), dvl Q, .bool (decide (c < 0)), .sl (nats .i64 (digs 10 c.natAbs))]
@[simp] theorem DQV_pure (P Q c) : (DQV P Q c).Pure := by simp [DQV]
theorem sub_DQV (g : Nat → Option (List V)) (P Q c) : V.sub g (DQV P Q c) = DQV P Q c := zck _ (DQV_pure P Q c)
theorem DQV_cells (P Q c) : (DQV P Q c).cells = [.sl (P.map dvl), dvl Q, .bool (decide (c < 0)), .sl (nats .i64 (digs 10 c.natAbs))] := rfl
theorem DQV_isAgg (P Q c) : (DQV P Q c).isAgg = true := rfl
@[simp] theorem DQV_isJunk (P Q c) : (DQV P Q c).isJunk = false := rfl
theorem part_DQV (P Q c) : V.part (DQV P Q c) 0 4 true = some (DQV P Q c) := rfl
theorem frz_DQV (H : Hp) (n : Nat) (P Q c) : frz H (n + 2) (DQV P Q c) = some (DQV P Q c) := rfl
attribute [go_sem] DQV_cells DQV_isAgg DQV_isJunk part_DQV frz_DQV sub_DQV
theorem r8of_ret (rows : List (List Int)) (q : List Int) (c : Int) (hl : rows.length ≤ 1000000) (hr : ∀ r ∈ rows, r.length ≤ 1000000 ∧ ∀ v ∈ r, In64 v) (hq : ∀ v ∈ q, In64 v) (hql : q.length ≤ 1000000) (hc : In64 c) :
  Ret pg zd7 [.sl (rows.map ints), ints q, .int .i64 c] (DQV rows q c) := by
 refine gimbalref08_Of.of rfl (W_b ?_)
 unfold gimbalref08_Of.k gimbalref08_Of.res Ot kp kd Oy Om Ol OL Oq Oi Oc On ci
 refine sgo ?_
 refine zaa (r7of_ret rows hl hr) (by simp) ?_
 refine sgo ?_
 refine zaa (r_of c hc) (by simp) ?_
 refine sgo ?_
 refine zam (T := Nat × V × Hp × Nat) (fun t => ⟨E [(1, ints q), (6, .ptr 0 1 0 0), (7, .ptr 6 1 0 0), (8, .int .i64 t.1)], t.2.2.1, t.2.2.2, t.2.2.2⟩)
  (fun t => t.1 ≤ q.length ∧ 6 < t.2.2.2 ∧ t.2.2.1 0 = some ⟨[.agg [.nil, .nil, .bool false, .sl []]], 4⟩ ∧ t.2.2.1 6 = some ⟨[.agg [.sl (rows.map dvl), t.2.1, .bool (decide (c < 0)), .sl (nats .i64 (digs 10 c.natAbs))]], 4⟩ ∧ Row 7 t.2.2.1 t.2.2.2 t.2.1 2 ((q.take t.1).map DV)) (fun t => q.length - t.1) (0, .nil, _, _) rfl ⟨zdo, zdo, rfl, rfl, Row.nil _ _ _ _⟩ ?_
 rintro ⟨i, w, H, nx⟩ ⟨i1, i2, i3, i4, i5⟩
 dsimp only at i1 i2 i3 i4 i5
 obtain ⟨hwa, hwc, _, _⟩ := i5.flat
 by_cases hi : i < q.length
 ·have hv := hq _ (zai 0 hi)
  have ht := zbp 0 hi
  generalize hX : q.getD i 0 = x at *
  simp -dsimp -implicitDefEqProofs (disch := try exact zdE) only [go_sem, hX, i4, hwa]
  refine zab (r_of _ hv) (by simp) ?_
  refine sgo ?_
  refine zcc (lo := 7) (nx := nx) (H0 := H) (xs := (q.take i).map DV) i5 (by omega) rfl (by omega) (by omega) (by simp [rowOk, V.cells, V.cellOk, DV]) (by decide) (by simp; omega) (by simp; omega) fun v2 H2 r1 _ _ r4 => ?_
  rw [zeg, ← ht] at r1
  have j3 := (r4 0 (by omega)).trans i3
  have j4 := (r4 6 (by omega)).trans i4
  obtain ⟨b', rfl, c1, c2, c3⟩ := r1.own_of (by simp; omega)
  simp -dsimp -implicitDefEqProofs (disch := try exact zdE) only [go_sem, j3, j4]
  generalize hH3 : Hp.upd H2 6 _ = H3
  have k0 := zbw hH3 j3 (by omega)
  have k6 := zd9 hH3
  have kb := zbw hH3 c3 (by omega)
  exact ⟨(i + 1, .own b' (q.take (i + 1)).length, H3, _), rfl, ⟨zdo, zdo, k0, k6, .inr ⟨b', by rw [List.length_map], c1, zdo, kb⟩⟩, zdo⟩
 ·have hie : i = q.length := by omega
  subst hie
  rw [List.take_length] at i5
  simp -dsimp -implicitDefEqProofs (disch := try exact zdE) only [go_sem, i3, i4, hwa, hwc]
  rw [(i5.upd (by omega)).frz (zc3 fun x => frz_DV _ _ _)]
  rfl
end Go.Gim

import Derived.Test.YtjmbcnfhonfpkaaGreatDoorFA3
import Derived.Test.YtjmbcnfhonfpkaaGreatDoorGA7
import Derived.Test.YtjmbcnfhonfpkaaGreatDoorSM0
set_option linter.unusedSimpArgs false
set_option linter.unusedVariables false
/- One of each: lists made of others. -/
set_option maxRecDepth 100000
set_option maxHeartbeats 4000000
namespace Go.Gim
open Go.Proofs
theorem newV_mk0 {es bytes : Nat} {n : Nat} {zero : V} {k1 k2 : IntKind} (h1 : bytes * n ≤ 140737488355328) (h2 : n ≤ 140737488355328) (hz : zero.cells.length = es) (he : 0 < es) : newV (.mks es bytes zero) [.int k1 0, .int k2 (n : Int)] = some (0, ⟨[], es⟩) := by
 simp only [newV]
 rw [if_pos ⟨by omega, by omega, by omega, by omega, hz, he⟩]
 rfl
@[go_sem] theorem newV_mk0I {bytes n : Nat} {k1 k2 : IntKind} (h1 : bytes * n ≤ 140737488355328) (h2 : n ≤ 140737488355328) : newV (.mks 1 bytes (.int .i64 0)) [.int k1 0, .int k2 (n : Int)] = some (0, ⟨[], 1⟩) := newV_mk0 h1 h2 rfl (by decide)
@[go_sem] theorem newV_mk0N {bytes n : Nat} {k1 k2 : IntKind} (h1 : bytes * n ≤ 140737488355328) (h2 : n ≤ 140737488355328) : newV (.mks 1 bytes .nil) [.int k1 0, .int k2 (n : Int)] = some (0, ⟨[], 1⟩) := newV_mk0 h1 h2 rfl (by decide)
@[go_sem] theorem newV_mk0V {bytes n : Nat} {k1 k2 : IntKind} (h1 : bytes * n ≤ 140737488355328) (h2 : n ≤ 140737488355328) : newV (.mks 2 bytes (.agg [.bool false, .sl []])) [.int k1 0, .int k2 (n : Int)] = some (0, ⟨[], 2⟩) := newV_mk0 h1 h2 rfl (by decide)
theorem Row.of_own {lo nx es b n : Nat} {H : Hp} {xs : List V} (hn : n = xs.length) (h1 : lo ≤ b) (h2 : b < nx) (h3 : H b = some ⟨xs, es⟩) : Row lo H nx (.own b n) es xs := .inr ⟨b, by rw [hn], h1, h2, h3⟩
theorem eachN_ret (x : List Int) (g : Nat) (caps : List V) (f : Int → Int) (hl : x.length ≤ 1000000) (hc : ∀ v ∈ caps, V.Pure v) (h : ∀ a ∈ x, Ret pg g (.int .i64 a :: caps) (IV (f a))) :
  Ret pg zb0 [ints x, .fn g caps] (ivl (x.map f)) := by
 refine cost_each_int64_long_Int.of rfl (W_b ?_)
 unfold cost_each_int64_long_Int.k cost_each_int64_long_Int.res Ot kp Om Ol Oi Oc On ci
 have hp : V.Pure (.fn g caps) := fn_pure hc
 refine sgo ?_
 refine za1 (T := Nat × V × Hp × Nat) (fun t => ⟨E [(1, .fn g caps), (5, t.2.1), (11, ints x), (12, .int .i64 x.length), (13, .int .i64 t.1)], t.2.2.1, t.2.2.2, t.2.2.2⟩)
  (fun t => t.1 ≤ x.length ∧ Row 0 t.2.2.1 t.2.2.2 t.2.1 2 (((x.take t.1).map f).map IV)) (fun t => x.length - t.1) (0, .own 3 0, _, _) rfl ⟨zdo, Row.of_own (by simp) (by omega) zdo rfl⟩ ?_
 rintro ⟨i, w, H, nx⟩ ⟨i1, i2⟩
 dsimp only at i1 i2
 by_cases hi : i < x.length
 ·have hm := h _ (zaz 0 hi)
  have ht := zef (l := x) (i := i) 0 hi
  generalize hZ : x.getD i 0 = z at *
  simp -dsimp -implicitDefEqProofs (disch := try exact zdE) only [go_sem, hZ]
  refine zda hm (ze4 hc _ _) ?_
  refine sgo ?_
  refine zf7 (lo := 0) (nx := nx) (H0 := H) (xs := ((x.take i).map f).map IV) i2 (by omega) rfl (by omega) (by omega) (by simp [rowOk, V.cells, V.cellOk, IV]) (by decide) (by simp; omega) (by simp; omega) fun v2 H2 r1 _ _ r4 => ?_
  rw [zh1, zh1, ← ht] at r1
  refine sgo ?_
  exact ⟨(i + 1, v2, H2, _), rfl, ⟨zdo, r1.same (fun _ _ => rfl) zdo⟩, zdo⟩
 ·have hie : i = x.length := by omega
  subst hie
  rw [List.take_of_length_le (by omega)] at i2
  refine sgo ?_
  rw [i2.frz (zfk fun x => rfl)]
  rfl
theorem eachC_ret (rows : List Row4) (g : Nat) (caps : List V) (f : Row4 → Int) (hl : rows.length ≤ 1000000) (hc : ∀ v ∈ caps, V.Pure v) (h : ∀ r ∈ rows, Ret pg g (RV r :: caps) (.int .i64 (f r))) :
  Ret pg zc5 [.sl (rows.map RV), .fn g caps] (ints (rows.map f)) := by
 refine cost_each_api_Row_int64.of rfl (W_b ?_)
 unfold cost_each_api_Row_int64.k cost_each_api_Row_int64.res Ot kp Oy Om OL Oi Oc On ci
 have hp : V.Pure (.fn g caps) := fn_pure hc
 refine sgo ?_
 refine za1 (T := Nat × V × Hp × Nat) (fun t => ⟨E [(1, .fn g caps), (5, t.2.1), (11, .sl (rows.map RV)), (12, .int .i64 rows.length), (13, .int .i64 t.1)], t.2.2.1, t.2.2.2, t.2.2.2⟩)
  (fun t => t.1 ≤ rows.length ∧ Row 0 t.2.2.1 t.2.2.2 t.2.1 1 (((rows.take t.1).map f).map (V.int .i64))) (fun t => rows.length - t.1) (0, .own 3 0, _, _) rfl ⟨zdo, Row.of_own (by simp) (by omega) zdo rfl⟩ ?_
 rintro ⟨i, w, H, nx⟩ ⟨i1, i2⟩
 dsimp only at i1 i2
 by_cases hi : i < rows.length
 ·have hm := h _ (zaz default hi)
  have ht := zef (l := rows) (i := i) default hi
  generalize hZ : rows.getD i default = z at *
  simp -dsimp -implicitDefEqProofs (disch := try exact zdE) only [go_sem, hZ]
  refine zda hm (fun v hv => by
   simp only [List.cons_append, List.nil_append, List.mem_cons] at hv
   rcases hv with rfl | hv
   ·exact RV_pure _
   ·exact hc v hv) ?_
  refine sgo ?_
  have i2' : Row 0 (H.upd (nx + 3) (some ⟨[RV z], 4⟩)) nx w 1 (((rows.take i).map f).map (V.int .i64)) := i2.same (fun b hb => Hp.upd_ne _ _ (by omega)) (Nat.le_refl _)
  refine zf7 (lo := 0) (nx := nx) (H0 := H.upd (nx + 3) (some ⟨[RV z], 4⟩)) (xs := ((rows.take i).map f).map (V.int .i64)) i2' (by omega) rfl (by omega) (by omega) (by simp [rowOk, V.cells, V.cellOk, V.isJunk]) (by decide) (by simp; omega) (by simp; omega) fun v2 H2 r1 _ _ r4 => ?_
  rw [zh1, zh1 f, ← ht] at r1
  refine sgo ?_
  exact ⟨(i + 1, v2, H2, _), rfl, ⟨zdo, r1.same (fun _ _ => rfl) zdo⟩, zdo⟩
 ·have hie : i = rows.length := by omega
  subst hie
  rw [List.take_of_length_le (by omega)] at i2
  refine sgo ?_
  rw [i2.frz (zfk fun x => rfl)]
  rfl
theorem eachL_ret (rows : List Row4) (g : Nat) (caps : List V) (f : Row4 → List Int) (hl : rows.length ≤ 1000000) (hc : ∀ v ∈ caps, V.Pure v) (h : ∀ r ∈ rows, Ret pg g (RV r :: caps) (ints (f r))) :
  Ret pg zcq [.sl (rows.map RV), .fn g caps] (.sl ((rows.map f).map ints)) := by
 refine cost_each_api_Row_Lint64.of rfl (W_b ?_)
 unfold cost_each_api_Row_Lint64.k cost_each_api_Row_Lint64.res Ot kp Oy Om OL Oi Oc On ci
 have hp : V.Pure (.fn g caps) := fn_pure hc
 refine sgo ?_
 refine za1 (T := Nat × V × Hp × Nat) (fun t => ⟨E [(1, .fn g caps), (5, t.2.1), (11, .sl (rows.map RV)), (12, .int .i64 rows.length), (13, .int .i64 t.1)], t.2.2.1, t.2.2.2, t.2.2.2⟩)
  (fun t => t.1 ≤ rows.length ∧ Row 0 t.2.2.1 t.2.2.2 t.2.1 1 (((rows.take t.1).map f).map ints)) (fun t => rows.length - t.1) (0, .own 3 0, _, _) rfl ⟨zdo, Row.of_own (by simp) (by omega) zdo rfl⟩ ?_
 rintro ⟨i, w, H, nx⟩ ⟨i1, i2⟩
 dsimp only at i1 i2
 by_cases hi : i < rows.length
 ·have hm := h _ (zaz default hi)
  have ht := zef (l := rows) (i := i) default hi
  generalize hZ : rows.getD i default = z at *
  simp -dsimp -implicitDefEqProofs (disch := try exact zdE) only [go_sem, hZ]
  refine W_gh0 ?_
  refine sgo ?_
  refine zda hm (fun v hv => by
   simp only [List.cons_append, List.nil_append, List.mem_cons] at hv
   rcases hv with rfl | hv
   ·exact RV_pure _
   ·exact hc v hv) ?_
  refine sgo ?_
  have i2' : Row 0 (H.upd (nx + 3) (some ⟨[RV z], 4⟩)) nx w 1 (((rows.take i).map f).map ints) := i2.same (fun b hb => Hp.upd_ne _ _ (by omega)) (Nat.le_refl _)
  refine zf7 (lo := 0) (nx := nx) (H0 := H.upd (nx + 3) (some ⟨[RV z], 4⟩)) (xs := ((rows.take i).map f).map ints) i2' (by omega) rfl (by omega) (by omega) (by simp [rowOk, V.cells, V.cellOk, ints]) (by decide) (by simp; omega) (by simp; omega) fun v2 H2 r1 _ _ r4 => ?_
  rw [zh1, zh1 f, ← ht] at r1
  refine sgo ?_
  exact ⟨(i + 1, v2, H2, _), rfl, ⟨zdo, r1.same (fun _ _ => rfl) zdo⟩, zdo⟩
 ·have hie : i = rows.length := by omega
  subst hie
  rw [List.take_of_length_le (by omega)] at i2
  refine sgo ?_
  rw [i2.frz (zfk fun x => rfl)]
  rfl
end Go.Gim
/- What a state costs. -/
set_option maxRecDepth 100000
set_option maxHeartbeats 4000000
namespace Go.Gim
open Go.Proofs
def sumL (l : List Int) : Int := l.foldr (fun a s => a + s) 0
theorem sumL_app (a b : List Int) : sumL (a ++ b) = sumL a + sumL b := by
 induction a with
 | nil => simp [sumL]
 | cons r a ih => simp only [sumL, List.cons_append, List.foldr_cons] at ih ⊢; omega
theorem sumL_take {l : List Int} {i : Nat} (h : i < l.length) : sumL (l.take (i + 1)) = sumL (l.take i) + l.getD i 0 := by
 rw [zef 0 h, sumL_app]; simp [sumL]
theorem sumL_lim {l : List Int} {L : Nat} (h : ∀ v ∈ l, lim v ≤ L) : lim (sumL l) ≤ L + l.length := by
 induction l with
 | nil => have := zbk; simp only [sumL, List.foldr_nil]; omega
 | cons r a ih =>
  have h1 := ih fun r h' => h r (List.mem_cons_of_mem _ h')
  have h2 := h r List.mem_cons_self
  have h3 := zg8 r (sumL a)
  simp only [sumL, List.foldr_cons, List.length_cons] at h1 h3 ⊢
  omega
def costs (g : Gr) (x : List Int) : List Int := g.rows.map fun r => costR r x
def valC (g : Gr) (x : List Int) : Int := sumL (costs g x) * g.den + qval g.P g.Q g.c x
structure GOkay (g : Gr) (x : List Int) : Prop where
 len : x.length = g.n
 hi : g.n ≤ 11
 sixty : g.rows.length ≤ 60
 right : ∀ r ∈ g.rows, Right4 r x.length
 state : State x
 sq : Sq g.P g.n
 ql : g.Q.length = g.n
 sP : ∀ i j, lim (at2 g.P i j) ≤ 100
 sQ : ∀ i, lim (g.Q.getD i 0) ≤ 100
 sc : lim g.c ≤ 100
 sd : lim g.den ≤ 100
theorem State.lim {x : List Int} (h : State x) (i : Nat) : lim (x.getD i 0) ≤ 2 := zar (by have := h.get i; omega)
theorem State.in64 {x : List Int} (h : State x) : ∀ v ∈ x, In64 v := fun v hv => by have := h v hv; exact ⟨by omega, by omega⟩
theorem getD_in {l : List Int} (h : ∀ v ∈ l, In64 v) (n : Nat) : In64 (l.getD n 0) := by
 by_cases hn : n < l.length
 ·exact h _ (zaz 0 hn)
 ·rw [List.getD_eq_getElem?_getD, List.getElem?_eq_none (by omega)]; decide
theorem qval_lim {P : List (List Int)} {Q x : List Int} {c : Int} {n : Nat} (hsq : Sq P n) (hq : Q.length = n) (hn : n ≤ 11) (sP : ∀ i j, lim (at2 P i j) ≤ 100) (sQ : ∀ i, lim (Q.getD i 0) ≤ 100) (sc : lim c ≤ 100) (hx : State x) : lim (qval P Q c x) ≤ 1000 := by
 have hxl := hx.lim
 have hPl := hsq.1
 have h1 : ∀ i, lim (zbn P x n i) ≤ 102 + n := fun i => zf1 (fun k => by have := sP i k; have := hxl k; omega) n
 have h2 := zf1 (f := fun k => x.getD k 0) (p := zbn P x n) (L := 104 + n) (fun k => by have := h1 k; have := hxl k; omega) n
 have h3 := zf1 (f := fun k => Q.getD k 0) (p := fun k => x.getD k 0) (L := 102) (fun k => by have := sQ k; have := hxl k; omega) n
 have h4 := za5 (sumN (fun k => Q.getD k 0) (fun k => x.getD k 0) n) 2
 have h5 := zar (x := 2) (by omega)
 have h6 := lim_sub (quadV P x n) (sumN (fun k => Q.getD k 0) (fun k => x.getD k 0) n * 2)
 have h7 := zg8 (quadV P x n - sumN (fun k => Q.getD k 0) (fun k => x.getD k 0) n * 2) c
 unfold qval
 rw [hPl, hq]
 unfold quadV at *
 omega
theorem value_ret (g : Gr) (x : List Int) (h : GOkay g x) : Ret pg zhl [GV g, ints x] (IV (valC g x)) := by
 obtain ⟨hn, h11, h60, hr, hx, hsq, hq, sP, sQ, sc, sd⟩ := h
 have r1 : ∀ r ∈ g.rows, Ret pg zf6 [RV r, .pp (ints x)] (.int .i64 (costR r x)) := fun r hrr => by
  refine cost_Value_1.of rfl (W_b ?_)
  unfold cost_Value_1.k cost_Value_1.res Ot kp Om Ol OL Oc
  refine sgo ?_
  first | refine zab (cost_ret r x (hr r hrr) hx) (by simp) ?_ | refine zaa (cost_ret r x (hr r hrr) hx) (by simp) ?_
  exact sgo trivial
 have e1 := eachC_ret g.rows zf6 [.pp (ints x)] (fun r => costR r x) (by omega) (by simp) r1
 have e2 := eachN_ret x zav [] (fun a => a) (by omega) (by simp) fun a ha => zbf a (hx.in64 a ha)
 rw [List.map_id'] at e2
 have hcl : (costs g x).length = g.rows.length := by simp [costs]
 have hcb : ∀ v ∈ costs g x, In64 v := fun v hv => by
  obtain ⟨r, hr', rfl⟩ := List.mem_map.1 hv
  have := costR_bd (x := x) (hr r hr')
  exact ⟨by omega, by omega⟩
 refine cost_Value.of rfl (W_b ?_)
 unfold cost_Value.k cost_Value.res Ot kp kd Oy Om Ol OL Oq Oi Oc On ci
 have hcs : g.rows.map (fun r => costR r x) = costs g x := rfl
 simp -dsimp -implicitDefEqProofs (disch := try exact zdE) only [go_sem, ← zdl]
 first | refine zab (e1) (by simp) ?_ | refine zaa (e1) (by simp) ?_
 simp -dsimp -implicitDefEqProofs (disch := try exact zdE) only [go_sem, hcs]
 refine zf0 (T := Nat × Nat) (fun t => ⟨E [(2, .pp (GV g)), (3, .pp (ints x)), (4, .ptr 2 1 0 0), (5, .ptr 3 1 0 0), (11, ints (costs g x)), (12, .int .i64 (costs g x).length), (13, .int .i64 t.1)], (Hp.upd (fun _ => none) 2 (some ⟨[IV 0], 2⟩)).upd 3 (some ⟨[IV (sumL ((costs g x).take t.1))], 2⟩), t.2, t.2⟩) (fun t => t.1 ≤ g.rows.length ∧ 3 < t.2) (fun t => g.rows.length - t.1) (0, 10) (Ghost.refl _) ⟨zdo, zdo⟩ ?_
 rintro ⟨i, nx⟩ ⟨i1, i2⟩
 dsimp only at i1 i2
 by_cases hi : i < g.rows.length
 ·have hv := getD_in hcb i
  have ht := sumL_take (l := costs g x) (i := i) (by omega)
  have l1 := zar hv
  have l2 := sumL_lim (l := (costs g x).take i) (L := 2) fun v h => zar (hcb v (List.mem_of_mem_take h))
  have l3 : ((costs g x).take i).length ≤ 60 := by rw [List.length_take]; omega
  refine sgo ?_
  first | refine zab (zbf _ hv) (by simp) ?_ | refine zaa (zbf _ hv) (by simp) ?_
  refine sgo ?_
  first | refine zab (zb8 _ _ (by omega) (by omega)) (by simp) ?_ | refine zaa (zb8 _ _ (by omega) (by omega)) (by simp) ?_
  simp -dsimp -implicitDefEqProofs (disch := try exact zdE) only [go_sem, ← ht]
  exact ⟨(i + 1, _), Ghost.refl _, ⟨zdo, zdo⟩, zdo⟩
 ·have hie : g.rows.length = i := by omega
  subst hie
  rw [List.take_of_length_le (by omega)]
  have l1 := sumL_lim (l := costs g x) (L := 2) fun v h => zar (hcb v h)
  have l2 := za5 (sumL (costs g x)) g.den
  have l3 := qval_lim hsq hq h11 sP sQ sc hx
  refine sgo ?_
  first | refine zab (zbe _ _ (by omega) (by omega)) (by simp) ?_ | refine zaa (zbe _ _ (by omega) (by omega)) (by simp) ?_
  refine sgo ?_
  first | refine zab (e2) (by simp) ?_ | refine zaa (e2) (by simp) ?_
  refine sgo ?_
  first | refine zab (qvalue_ret g.P g.Q x g.c g.n (by omega) hsq hq hn (fun i j => by have := sP i j; omega) (fun i => by have := sQ i; omega) (by omega) (fun i => by have := hx.lim i; omega)) (by simp) ?_ | refine zaa (qvalue_ret g.P g.Q x g.c g.n (by omega) hsq hq hn (fun i j => by have := sP i j; omega) (fun i => by have := sQ i; omega) (by omega) (fun i => by have := hx.lim i; omega)) (by simp) ?_
  refine sgo ?_
  first | refine zab (zb8 _ _ (by omega) (by omega)) (by simp) ?_ | refine zaa (zb8 _ _ (by omega) (by omega)) (by simp) ?_
  refine sgo ?_
  rfl
end Go.Gim
/- How steep the cost of a state is. -/
set_option maxRecDepth 100000
set_option maxHeartbeats 4000000
namespace Go.Gim
open Go.Proofs
def colS (ls : List (List Int)) (i k : Nat) : Int := sumL ((ls.take i).map fun l => l.getD k 0)
theorem colS_step {ls : List (List Int)} {i : Nat} (h : i < ls.length) (k : Nat) : colS ls (i + 1) k = colS ls i k + (ls.getD i []).getD k 0 := by
 unfold colS
 rw [zef [] h, List.map_append, sumL_app]
 simp [sumL]
theorem colS_lim {ls : List (List Int)} (h : ∀ l ∈ ls, ∀ v ∈ l, In64 v) (i k : Nat) : lim (colS ls i k) ≤ 2 + ls.length := by
 have := sumL_lim (l := (ls.take i).map fun l => l.getD k 0) (L := 2) fun v hv => by
  obtain ⟨l, hl, rfl⟩ := List.mem_map.1 hv
  exact zar (getD_in (h l (List.mem_of_mem_take hl)) k)
 have e : ((ls.take i).map fun l => l.getD k 0).length ≤ ls.length := by rw [List.length_map, List.length_take]; omega
 unfold colS
 omega
def midS (ls : List (List Int)) (i j k : Nat) : Int := if k < j then colS ls (i + 1) k else colS ls i k
theorem midS_set {ls : List (List Int)} {n i j : Nat} (hi : i < ls.length) : ((List.range n).map (midS ls i j)).set j (colS ls i j + (ls.getD i []).getD j 0) = (List.range n).map (midS ls i (j + 1)) := by
 rw [zia]
 refine List.map_congr_left fun k _ => ?_
 unfold midS
 by_cases h : k = j
 ·subst h
  rw [if_pos rfl, if_pos (by omega), colS_step hi]
 ·rw [if_neg h]
  by_cases h2 : k < j
  ·rw [if_pos h2, if_pos (by omega)]
  ·rw [if_neg h2, if_neg (by omega)]
theorem midS_zero (ls : List (List Int)) (n i : Nat) : (List.range n).map (colS ls i) = (List.range n).map (midS ls i 0) := List.map_congr_left fun k _ => by unfold midS; rw [if_neg (by omega)]
theorem midS_all (ls : List (List Int)) (n i : Nat) : (List.range n).map (midS ls i n) = (List.range n).map (colS ls (i + 1)) := List.map_congr_left fun k hk => by unfold midS; rw [if_pos (List.mem_range.1 hk)]
theorem colS_zero (ls : List (List Int)) (n : Nat) : List.replicate n 0 = (List.range n).map (colS ls 0) := by
 refine List.ext_getElem (by simp) fun k h1 h2 => ?_
 simp [colS, sumL]
def zbl (g : Gr) (x : List Int) : List (List Int) := g.rows.map fun r => zfn r x
def zf9 (g : Gr) (x : List Int) : List Int := (List.range g.n).map fun k => colS (zbl g x) g.rows.length k * g.den + (zbn g.P x g.n k - g.Q.getD k 0)
def stepC (g : Gr) (x : List Int) (k : Nat) : Int := colS (zbl g x) g.rows.length k * g.den + (zbn g.P x g.n k - g.Q.getD k 0)
def outS (g : Gr) (x : List Int) (j k : Nat) : Int := if k < j then stepC g x k else colS (zbl g x) g.rows.length k
theorem outS_set (g : Gr) (x : List Int) (j : Nat) : ((List.range g.n).map (outS g x j)).set j (stepC g x j) = (List.range g.n).map (outS g x (j + 1)) := by
 rw [zia]
 refine List.map_congr_left fun k _ => ?_
 unfold outS
 by_cases h : k = j
 ·subst h
  rw [if_pos rfl, if_pos (by omega)]
 ·rw [if_neg h]
  by_cases h2 : k < j
  ·rw [if_pos h2, if_pos (by omega)]
  ·rw [if_neg h2, if_neg (by omega)]
theorem outS_zero (g : Gr) (x : List Int) : (List.range g.n).map (colS (zbl g x) g.rows.length) = (List.range g.n).map (outS g x 0) := List.map_congr_left fun k _ => by unfold outS; rw [if_neg (by omega)]
theorem outS_all (g : Gr) (x : List Int) : (List.range g.n).map (outS g x g.n) = zf9 g x := List.map_congr_left fun k hk => by unfold outS; rw [if_pos (List.mem_range.1 hk)]; rfl
theorem applyAt_lim' {P : List (List Int)} {x : List Int} {n : Nat} (hn : n ≤ 11) (sP : ∀ i j, lim (at2 P i j) ≤ 100) (hx : State x) (i : Nat) : lim (zbn P x n i) ≤ 200 := by
 have h1 : lim (zbn P x n i) ≤ 102 + n := zf1 (fun k => by have := sP i k; have := hx.lim k; omega) n
 omega
theorem csteep_ret (g : Gr) (x : List Int) (h : GOkay g x) : Ret pg zd2 [GV g, ints x] (ivl (zf9 g x)) := by
 obtain ⟨hn, h11, h60, hr, hx, hsq, hq, sP, sQ, sc, sd⟩ := h
 have r1 : ∀ r ∈ g.rows, Ret pg zdr [RV r, .pp (ints x)] (ints (zfn r x)) := fun r hrr => by
  refine cost_Steep_1.of rfl (W_b ?_)
  unfold cost_Steep_1.k cost_Steep_1.res Ot kp Om Ol OL
  refine sgo ?_
  first | refine zab (steep_ret r x (hr r hrr) hx) (by simp) ?_ | refine zaa (steep_ret r x (hr r hrr) hx) (by simp) ?_
  exact sgo trivial
 have e1 := eachL_ret g.rows zdr [.pp (ints x)] (fun r => zfn r x) (by omega) (by simp) r1
 have e2 := eachN_ret x zav [] (fun a => a) (by omega) (by simp) fun a ha => zbf a (hx.in64 a ha)
 rw [List.map_id'] at e2
 have hcs : g.rows.map (fun r => zfn r x) = zbl g x := rfl
 have hcl : (zbl g x).length = g.rows.length := by simp [zbl]
 have hcr : ∀ l ∈ zbl g x, l.length = g.n ∧ ∀ v ∈ l, In64 v := fun l hl => by
  obtain ⟨r, hr', rfl⟩ := List.mem_map.1 hl
  have h1 := (hr r hr').len
  exact ⟨by simp [zfn]; omega, fun v hv => by have := steepR_bd (x := x) (hr r hr') v hv; exact ⟨by omega, by omega⟩⟩
 have hcin := fun l hl => (hcr l hl).2
 refine cost_Steep.of rfl (W_b ?_)
 unfold cost_Steep.k cost_Steep.res Ot kp kd Oy Om Ol OL Oq Oi Oc On ci
 refine sgo ?_
 first | refine zab (e1) (by simp) ?_ | refine zaa (e1) (by simp) ?_
 simp -dsimp -implicitDefEqProofs (disch := try exact zdE) only [go_sem, hcs, hn]
 refine zf0 (T := Nat × Nat) (fun t => ⟨E [(2, .pp (GV g)), (3, .pp (ints x)), (5, .own 5 g.n), (18, .sl ((zbl g x).map ints)), (19, .int .i64 (zbl g x).length), (20, .int .i64 t.1)], Hp.upd (fun _ => none) 5 (some ⟨((List.range g.n).map (colS (zbl g x) t.1)).map IV, 2⟩), t.2, t.2⟩) (fun t => t.1 ≤ g.rows.length ∧ 5 < t.2) (fun t => g.rows.length - t.1) (0, 13) (by rw [colS_zero (zbl g x)]; exact Ghost.refl _) ⟨zdo, zdo⟩ ?_
 rintro ⟨i, nx⟩ ⟨i1, i2⟩
 dsimp only at i1 i2
 by_cases hi : i < g.rows.length
 ·have hml := hcr _ (zaz [] (show i < (zbl g x).length by omega))
  have hset := fun j => midS_set (n := g.n) (j := j) (show i < (zbl g x).length by omega)
  generalize hZ : (zbl g x).getD i [] = l at *
  obtain ⟨hl1, hl2⟩ := hml
  rw [midS_zero]
  simp -dsimp -implicitDefEqProofs (disch := try exact zdE) only [go_sem, hZ, hl1]
  refine zf0 (T := Nat × Nat) (fun t => ⟨E [(2, .pp (GV g)), (3, .pp (ints x)), (5, .own 5 g.n), (18, .sl ((zbl g x).map ints)), (19, .int .i64 (zbl g x).length), (20, .int .i64 i), (24, ints l), (25, .int .i64 g.n), (26, .int .i64 t.1)], Hp.upd (fun _ => none) 5 (some ⟨((List.range g.n).map (midS (zbl g x) i t.1)).map IV, 2⟩), t.2, t.2⟩) (fun t => t.1 ≤ g.n ∧ 5 < t.2) (fun t => g.n - t.1) (0, _) (Ghost.refl _) ⟨zdo, zdo⟩ ?_
  rintro ⟨j, nx2⟩ ⟨j1, j2⟩
  dsimp only at j1 j2
  by_cases hj : j < g.n
  ·have hv := getD_in hl2 j
   have l1 := zar hv
   have l2 := colS_lim hcin i j
   have hget : ((List.range g.n).map (midS (zbl g x) i j)).getD j 0 = colS (zbl g x) i j := by rw [zbh 0 hj]; unfold midS; rw [if_neg (by omega)]
   have hset := hset j
   simp -dsimp -implicitDefEqProofs (disch := try exact zdE) only [go_sem, hget]
   first | refine zab (zbf _ hv) (by simp) ?_ | refine zaa (zbf _ hv) (by simp) ?_
   refine sgo ?_
   first | refine zab (zb8 _ _ (by omega) (by omega)) (by simp) ?_ | refine zaa (zb8 _ _ (by omega) (by omega)) (by simp) ?_
   simp -dsimp -implicitDefEqProofs (disch := try exact zdE) only [go_sem, hset]
   exact ⟨(j + 1, _), Ghost.refl _, ⟨zdo, zdo⟩, zdo⟩
  ·have hje : g.n = j := by omega
   subst hje
   rw [midS_all]
   refine sgo ?_
   exact ⟨(i + 1, _), Ghost.refl _, ⟨zdo, zdo⟩, zdo⟩
 ·have hie : g.rows.length = i := by omega
  subst hie
  refine sgo ?_
  first | refine zab (e2) (by simp) ?_ | refine zaa (e2) (by simp) ?_
  refine sgo ?_
  first | refine zab (qslope_ret g.P g.Q x g.c g.n (by omega) hsq hq hn (fun i j => by have := sP i j; omega) (fun i => by have := sQ i; omega) (fun i => by have := hx.lim i; omega)) (by simp) ?_ | refine zaa (qslope_ret g.P g.Q x g.c g.n (by omega) hsq hq hn (fun i j => by have := sP i j; omega) (fun i => by have := sQ i; omega) (fun i => by have := hx.lim i; omega)) (by simp) ?_
  refine sgo ?_
  rw [outS_zero]
  refine zf0 (T := Nat × Nat) (fun t => ⟨E [(2, .pp (GV g)), (5, .own 5 g.n), (10, ivl ((List.range g.n).map fun k => zbn g.P x g.n k - g.Q.getD k 0)), (49, .int .i64 g.n), (50, .int .i64 t.1)], Hp.upd (fun _ => none) 5 (some ⟨((List.range g.n).map (outS g x t.1)).map IV, 2⟩), t.2, t.2⟩) (fun t => t.1 ≤ g.n ∧ 5 < t.2) (fun t => g.n - t.1) (0, _) (Ghost.refl _) ⟨zdo, zdo⟩ ?_
  rintro ⟨j, nx2⟩ ⟨j1, j2⟩
  dsimp only at j1 j2
  by_cases hj : j < g.n
  ·have l2 := colS_lim hcin g.rows.length j
   have l3 := applyAt_lim' h11 sP hx j
   have l4 := sQ j
   have l5 := lim_sub (zbn g.P x g.n j) (g.Q.getD j 0)
   have l6 := za5 (colS (zbl g x) g.rows.length j) g.den
   have hget : ((List.range g.n).map (outS g x j)).getD j 0 = colS (zbl g x) g.rows.length j := by rw [zbh 0 hj]; unfold outS; rw [if_neg (by omega)]
   have hget2 : ((List.range g.n).map fun k => zbn g.P x g.n k - g.Q.getD k 0).getD j 0 = zbn g.P x g.n j - g.Q.getD j 0 := zbh 0 hj
   have hset := outS_set g x j
   unfold stepC at hset
   simp -dsimp -implicitDefEqProofs (disch := try exact zdE) only [go_sem, hget]
   first | refine zab (zbe _ _ (by omega) (by omega)) (by simp) ?_ | refine zaa (zbe _ _ (by omega) (by omega)) (by simp) ?_
   simp -dsimp -implicitDefEqProofs (disch := try exact zdE) only [go_sem, hget2]
   first | refine zab (zb8 _ _ (by omega) (by omega)) (by simp) ?_ | refine zaa (zb8 _ _ (by omega) (by omega)) (by simp) ?_
   simp -dsimp -implicitDefEqProofs (disch := try exact zdE) only [go_sem, hset]
   exact ⟨(j + 1, _), Ghost.refl _, ⟨zdo, zdo⟩, zdo⟩
  ·have hje : j = g.n := by omega
   subst hje
   rw [outS_all]
   have hsl : (zf9 g x).length = g.n := by simp [zf9]
   refine sgo ?_
   rw [zfk fun x => zas _ _ _]
   rfl
end Go.Gim
/- Which state costs less, and which is flat. -/
set_option maxRecDepth 100000
set_option maxHeartbeats 4000000
namespace Go.Gim
open Go.Proofs
theorem valC_lim {g : Gr} {x : List Int} (h : GOkay g x) : lim (valC g x) ≤ 2000 := by
 obtain ⟨hn, h11, h60, hr, hx, hsq, hq, sP, sQ, sc, sd⟩ := h
 have hcb : ∀ v ∈ costs g x, In64 v := fun v hv => by
  obtain ⟨r, hr', rfl⟩ := List.mem_map.1 hv
  have := costR_bd (x := x) (hr r hr')
  exact ⟨by omega, by omega⟩
 have l1 := sumL_lim (l := costs g x) (L := 2) fun v h => zar (hcb v h)
 have hcl : (costs g x).length = g.rows.length := by simp [costs]
 have l2 := za5 (sumL (costs g x)) g.den
 have l3 := qval_lim hsq hq h11 sP sQ sc hx
 have l4 := zg8 (sumL (costs g x) * g.den) (qval g.P g.Q g.c x)
 unfold valC
 omega
theorem stepC_lim {g : Gr} {x : List Int} (h : GOkay g x) (k : Nat) : lim (stepC g x k) ≤ 2000 := by
 obtain ⟨hn, h11, h60, hr, hx, hsq, hq, sP, sQ, sc, sd⟩ := h
 have hcl : (zbl g x).length = g.rows.length := by simp [zbl]
 have hcin : ∀ l ∈ zbl g x, ∀ v ∈ l, In64 v := fun l hl v hv => by
  obtain ⟨r, hr', rfl⟩ := List.mem_map.1 hl
  have := steepR_bd (x := x) (hr r hr') v hv
  exact ⟨by omega, by omega⟩
 have l2 := colS_lim hcin g.rows.length k
 have l3 := applyAt_lim' h11 sP hx k
 have l4 := sQ k
 have l5 := lim_sub (zbn g.P x g.n k) (g.Q.getD k 0)
 have l6 := za5 (colS (zbl g x) g.rows.length k) g.den
 have l7 := zg8 (colS (zbl g x) g.rows.length k * g.den) (zbn g.P x g.n k - g.Q.getD k 0)
 unfold stepC
 omega
theorem steepC_lim {g : Gr} {x : List Int} (h : GOkay g x) : ∀ v ∈ zf9 g x, lim v ≤ 2000 := fun v hv => by
 obtain ⟨k, _, rfl⟩ := List.mem_map.1 hv
 exact stepC_lim h k
theorem sign_lt (a b : Int) : decide ((a - b).sign < 0) = decide (a < b) := by
 rcases Int.lt_trichotomy (a - b) 0 with h | h | h
 ·rw [Int.sign_eq_neg_one_of_neg h]; simp; omega
 ·rw [h]; simp; omega
 ·rw [Int.sign_eq_one_of_pos h]; simp; omega
theorem sign_gt (a b : Int) : decide (0 < (a - b).sign) = decide (b < a) := by
 rcases Int.lt_trichotomy (a - b) 0 with h | h | h
 ·rw [Int.sign_eq_neg_one_of_neg h]; simp; omega
 ·rw [h]; simp; omega
 ·rw [Int.sign_eq_one_of_pos h]; simp; omega
theorem less_ret' (g : Gr) (x y : List Int) (hx : GOkay g x) (hy : GOkay g y) : Ret pg n_cost_Less [GV g, ints x, ints y] (.bool (decide (valC g x < valC g y))) := by
 have l1 := valC_lim hx
 have l2 := valC_lim hy
 refine cost_Less.of rfl (W_b ?_)
 unfold cost_Less.k cost_Less.res Ot kp kd Om OL ci
 refine sgo ?_
 first | refine zab (value_ret g x hx) (by simp) ?_ | refine zaa (value_ret g x hx) (by simp) ?_
 refine sgo ?_
 first | refine zab (value_ret g y hy) (by simp) ?_ | refine zaa (value_ret g y hy) (by simp) ?_
 refine sgo ?_
 first | refine zab (zcw _ _ (by omega) (by omega)) (by simp) ?_ | refine zaa (zcw _ _ (by omega) (by omega)) (by simp) ?_
 simp -dsimp -implicitDefEqProofs (disch := try exact zdE) only [go_sem, sign_lt]
theorem flat_ret (g : Gr) (x : List Int) (most : Int) (h : GOkay g x) (hm : In64 most) : Ret pg n_cost_Flat [GV g, ints x, .int .i64 most] (.bool ((zf9 g x).all fun s => decide (s ≤ g.den * most) && decide (-s ≤ g.den * most))) := by
 have sd := h.sd
 have l1 := zar hm
 have l2 := za5 g.den most
 have hsl := steepC_lim h
 refine cost_Flat.of rfl (W_b ?_)
 unfold cost_Flat.k cost_Flat.res Ot kp kd Og Oy Om OL Oi Oc On ci
 refine sgo ?_
 first | refine zab (zbf _ hm) (by simp) ?_ | refine zaa (zbf _ hm) (by simp) ?_
 refine sgo ?_
 first | refine zab (zbe _ _ (by omega) (by omega)) (by simp) ?_ | refine zaa (zbe _ _ (by omega) (by omega)) (by simp) ?_
 refine sgo ?_
 first | refine zab (csteep_ret g x h) (by simp) ?_ | refine zaa (csteep_ret g x h) (by simp) ?_
 refine sgo ?_
 have hln : (zf9 g x).length ≤ 11 := by have := h.hi; simp [zf9]; omega
 generalize hX : zf9 g x = l at *
 generalize g.den * most = top at *
 refine zf0 (T := Nat × Hp × Nat) (fun t => ⟨E [(7, .ptr 7 1 0 0), (17, ivl l), (18, .int .i64 l.length), (19, .int .i64 t.1)], t.2.1, t.2.2, t.2.2⟩)
  (fun t => t.1 ≤ l.length ∧ 7 < t.2.2 ∧ t.2.1 7 = some ⟨[IV top], 2⟩ ∧ ∀ v ∈ l.take t.1, v ≤ top ∧ -v ≤ top) (fun t => l.length - t.1) (0, _, _) (Ghost.refl _) ⟨zdo, zdo, rfl, by simp⟩ ?_
 rintro ⟨i, H, nx⟩ ⟨i1, i2, i3, i4⟩
 dsimp only at i1 i2 i3 i4
 by_cases hi : i < l.length
 ·have hm := zaz 0 hi
  have hv := hsl _ hm
  have ht := zef (l := l) (i := i) 0 hi
  generalize hV : l.getD i 0 = v at *
  have hno : ¬ (v ≤ top ∧ -v ≤ top) → (l.all fun s => decide (s ≤ top) && decide (-s ≤ top)) = false := fun h => by
   rw [List.all_eq_false]
   exact ⟨v, hm, by simpa using h⟩
  simp -dsimp -implicitDefEqProofs (disch := try exact zdE) only [go_sem, i3, hV]
  first | refine zab (zcw _ _ (by omega) (by omega)) (by simp) ?_ | refine zaa (zcw _ _ (by omega) (by omega)) (by simp) ?_
  have hg1 := sign_gt v top
  have hg2 := sign_gt (-v) top
  by_cases h1 : top < v
  ·rw [hno (by omega)]
   rw [decide_eq_true h1] at hg1
   simp -dsimp -implicitDefEqProofs (disch := try exact zdE) only [go_sem, hg1]
   done
  ·rw [decide_eq_false h1] at hg1
   simp -dsimp -implicitDefEqProofs (disch := try exact zdE) only [go_sem, hg1, i3]
   first | refine zab (neg_ret v (by omega)) (by simp) ?_ | refine zaa (neg_ret v (by omega)) (by simp) ?_
   simp -dsimp -implicitDefEqProofs (disch := try exact zdE) only [go_sem, i3]
   first | refine zab (zcw (-v) top (by rw [lim_neg]; omega) (by omega)) (by simp) ?_ | refine zaa (zcw (-v) top (by rw [lim_neg]; omega) (by omega)) (by simp) ?_
   by_cases h2 : top < -v
   ·rw [hno (by omega)]
    rw [decide_eq_true h2] at hg2
    simp -dsimp -implicitDefEqProofs (disch := try exact zdE) only [go_sem, hg2]
   ·rw [decide_eq_false h2] at hg2
    simp -dsimp -implicitDefEqProofs (disch := try exact zdE) only [go_sem, hg2, i3]
    exact ⟨(i + 1, _, _), Ghost.refl _, ⟨zdo, zdo, (Hp.upd_ne _ _ (by omega)).trans i3, fun w hw => by
     rw [ht] at hw
     rcases List.mem_append.1 hw with hw | hw
     ·exact i4 w hw
     ·rw [List.mem_singleton.1 hw]; omega⟩, zdo⟩
 ·have hie : l.length = i := by omega
  subst hie
  rw [List.take_length] at i4
  have hyes : (l.all fun s => decide (s ≤ top) && decide (-s ≤ top)) = true := by
   rw [List.all_eq_true]
   exact fun v hv => by simpa using i4 v hv
  rw [hyes]
  exact sgo trivial
end Go.Gim

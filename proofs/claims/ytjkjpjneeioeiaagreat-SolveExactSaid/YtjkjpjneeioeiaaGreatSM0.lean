import Derived.Test.YtjkjpjneeioeiaaGreatFA2
import Derived.Test.YtjkjpjneeioeiaaGreatLI4
set_option linter.unusedSimpArgs false
set_option linter.unusedVariables false
/- Lists, matrices and sums of products that a function tells. -/
set_option maxRecDepth 100000
namespace Go.Gim
open Go.Proofs
theorem list_ret (n : Nat) (g : Nat) (caps : List V) (f : Nat → Int) (hn : n ≤ 1000000) (hc : ∀ v ∈ caps, V.Pure v) (h : ∀ i : Nat, i < n → Ret pg g (.int .i64 i :: caps) (IV (f i))) :
  Ret pg zav [.int .i64 n, .fn g caps] (ivl ((List.range n).map f)) := by
 refine lin_list_long_Int.of rfl (W_b ?_)
 unfold lin_list_long_Int.k lin_list_long_Int.res Ot kp Oy Om Oi Oc On ci
 refine sgo ?_
 refine zam (T := Nat × Nat) (fun t => ⟨E [(1, .fn g caps), (5, .own 2 n), (10, .int .i64 n), (11, .int .i64 t.1)], Hp.upd (fun _ => none) 2 (some ⟨(upto n t.1 f).map IV, 2⟩), t.2, t.2⟩) (fun t => t.1 ≤ n) (fun t => n - t.1) (0, _) (by rw [upto_zero]; rfl) zdo ?_
 rintro ⟨i, nx⟩ i1
 dsimp only at i1
 by_cases hi : i < n
 ·refine sgo ?_
  refine zcy (h i hi) (zeq hc _ _) ?_
  simp -dsimp -implicitDefEqProofs (disch := try exact zdE) only [go_sem, upto_set hi]
  exact ⟨(i + 1, _), rfl, zdo, zdo⟩
 ·have he : i = n := by omega
  subst he
  refine sgo ?_
  rw [zc3 fun x => zau _ _ _, upto_all]
  rfl
def sumN (f p : Nat → Int) : Nat → Int
 | 0 => 0
 | n + 1 => sumN f p n + f n * p n
theorem zen {f p : Nat → Int} {L : Nat} (h : ∀ i, lim (f i) + lim (p i) ≤ L) : ∀ n, lim (sumN f p n) ≤ L + n
 | 0 => by simp [sumN, za0]
 | n + 1 => by
  have h1 := zen h n
  have h2 := zbj (f n) (p n)
  have h3 := zg5 (sumN f p n) (f n * p n)
  have h4 := h n
  rw [sumN]
  omega
theorem sum_ret (n : Nat) (g : Nat) (caps : List V) (f p : Nat → Int) (hn : n ≤ 1000000) (hc : ∀ v ∈ caps, V.Pure v) (hb : ∀ i, lim (f i) + lim (p i) ≤ 1000000000) (h : ∀ i : Nat, i < n → Ret pg g (.int .i64 i :: caps) (.tup [IV (f i), IV (p i)])) :
  Ret pg n_lin_sum [.int .i64 n, .fn g caps] (IV (sumN f p n)) := by
 refine lin_sum.of rfl (W_b ?_)
 unfold lin_sum.k lin_sum.res Ot kp kd Oy Om OL Oc ci
 simp -dsimp -implicitDefEqProofs (disch := try exact zdE) only [go_sem, ← zcz]
 refine zff (T := Nat × Nat) (fun t => ⟨E [(1, .fn g caps), (4, .ptr 0 1 0 0), (5, .ptr 1 1 0 0), (9, .int .i64 n), (10, .int .i64 t.1)], (Hp.upd (fun _ => none) 0 (some ⟨[IV 0], 2⟩)).upd 1 (some ⟨[IV (sumN f p t.1)], 2⟩), t.2, t.2⟩) (fun t => t.1 ≤ n ∧ 1 < t.2) (fun t => n - t.1) (0, _) (Ghost.refl _) ⟨zdo, zdo⟩ ?_
 rintro ⟨i, nx⟩ ⟨i1, i2⟩
 dsimp only at i1 i2
 by_cases hi : i < n
 ·have b1 := hb i
  have b2 := zen hb i
  have b3 := zbj (f i) (p i)
  refine sgo ?_
  refine zcy (h i hi) (zeq hc _ _) ?_
  simp -dsimp -implicitDefEqProofs (disch := try exact zdE) only [go_sem, ← zcz]
  refine zab (za9 _ _ (by omega) (by omega)) (by simp) ?_
  refine sgo ?_
  refine zab (zbm _ _ (by omega) (by omega)) (by simp) ?_
  refine sgo ?_
  exact ⟨(i + 1, _), (ghost_drop (by intro b; simp only [Hp.upd]; (repeat' split) <;> first | exact .inl rfl | exact .inr rfl | (exfalso; omega))), ⟨zdo, zdo⟩, zdo⟩
 ·have he : i = n := by omega
  subst he
  exact sgo trivial
theorem list2_ret (n : Nat) (g : Nat) (caps : List V) (f : Nat → List Int) (hn : n ≤ 1000000) (hc : ∀ v ∈ caps, V.Pure v) (h : ∀ i : Nat, i < n → Ret pg g (.int .i64 i :: caps) (ivl (f i))) :
  Ret pg za8 [.int .i64 n, .fn g caps] (.sl ((List.range n).map fun i => ivl (f i))) := by
 refine lin_list_Llong_Int.of rfl (W_b ?_)
 unfold lin_list_Llong_Int.k lin_list_Llong_Int.res Ot kp Oy Om Oi Oc On ci
 refine sgo ?_
 refine zam (T := Nat × Nat) (fun t => ⟨E [(1, .fn g caps), (5, .own 2 n), (10, .int .i64 n), (11, .int .i64 t.1)], Hp.upd (fun _ => none) 2 (some ⟨els n t.1 (fun k => ivl (f k)), 1⟩), t.2, t.2⟩) (fun t => t.1 ≤ n) (fun t => n - t.1) (0, _) (by rw [els_zero]; rfl) zdo ?_
 rintro ⟨i, nx⟩ i1
 dsimp only at i1
 by_cases hi : i < n
 ·refine sgo ?_
  refine zcy (h i hi) (zeq hc _ _) ?_
  simp -dsimp -implicitDefEqProofs (disch := try exact zdE) only [go_sem, storeO_els (f := fun k => ivl (f k)) hi rfl rfl rfl rfl]
  exact ⟨(i + 1, _), rfl, zdo, zdo⟩
 ·have he : i = n := by omega
  subst he
  refine sgo ?_
  rw [els_all, zc3 (f := fun k => ivl (f k)) fun x => rfl]
  rfl
end Go.Gim
/- Matrices: made, turned, their products with lists. -/
set_option maxRecDepth 100000
namespace Go.Gim
open Go.Proofs
def mat (n : Nat) (f : Nat → Nat → Int) : List (List Int) := (List.range n).map fun i => (List.range n).map (f i)
theorem fn_pure {g : Nat} {caps : List V} (hc : ∀ v ∈ caps, V.Pure v) : V.Pure (.fn g caps) := .fn _ _ hc
theorem lmade_ret (n : Nat) (g : Nat) (caps : List V) (f : Nat → Nat → Int) (hn : n ≤ 1000000) (hc : ∀ v ∈ caps, V.Pure v) (h : ∀ i j : Nat, i < n → j < n → Ret pg g (.int .i64 i :: .int .i64 j :: caps) (IV (f i j))) :
  Ret pg zhd [.int .i64 n, .fn g caps] (.sl ((mat n f).map ivl)) := by
 have hp : V.Pure (.fn g caps) := fn_pure hc
 have hP : IsPure (.fn g caps) := ⟨rfl, hp⟩
 have r0 : ∀ i j : Nat, i < n → j < n → Ret pg zfi [.int .i64 j, .pp (.fn g caps), .pp (.int .i64 i)] (IV (f i j)) := fun i j hi hj => by
  refine lin_made_1_1.of rfl (W_b ?_)
  unfold lin_made_1_1.k lin_made_1_1.res Ot kp Oy Om Ol
  refine sgo ?_
  refine zcy (h i j hi hj) (zeq (zeq hc _ _) _ _) ?_
  exact sgo trivial
 have r1 : ∀ i : Nat, i < n → Ret pg zgo [.int .i64 i, .pp (.int .i64 n), .pp (.fn g caps)] (ivl ((List.range n).map (f i))) := fun i hi => by
  refine lin_made_1.of rfl (W_b ?_)
  unfold lin_made_1.k lin_made_1.res Ot kp Om Ol
  refine sgo ?_
  refine zaa (list_ret n zfi _ (f i) hn (by simp) fun j hj => r0 i j hi hj) (by simp) ?_
  exact sgo trivial
 refine lin_made.of rfl (W_b ?_)
 unfold lin_made.k lin_made.res Ot kp Om Ol
 refine sgo ?_
 refine zaa (list2_ret n zgo _ (fun i => (List.range n).map (f i)) hn (by simp) fun i hi => r1 i hi) (by simp) ?_
 refine sgo ?_
 simp [mat]
def Sq (m : List (List Int)) (n : Nat) : Prop := m.length = n ∧ ∀ r ∈ m, r.length = n
theorem Sq.row {m : List (List Int)} {n i : Nat} (h : Sq m n) (hi : i < n) : (m.getD i []).length = n := h.2 _ (zai [] (by rw [h.1]; exact hi))
theorem mat_sq (n f) : Sq (mat n f) n := ⟨by simp [mat], fun r hr => by simp only [mat, List.mem_map] at hr; obtain ⟨i, _, rfl⟩ := hr; simp⟩
def at2 (m : List (List Int)) (i j : Nat) : Int := (m.getD i []).getD j 0
theorem zgu {n f i j} (hi : i < n) (hj : j < n) : at2 (mat n f) i j = f i j := by unfold at2 mat; rw [zaq [] hi, zaq 0 hj]
theorem mat_self {m : List (List Int)} {n : Nat} (h : Sq m n) : mat n (at2 m) = m := by
 refine List.ext_getElem (by simp [mat, h.1]) fun i h1 h2 => ?_
 have hr := h.2 m[i] (List.getElem_mem h2)
 simp only [mat, List.getElem_map, List.getElem_range]
 refine List.ext_getElem (by simp [hr]) fun j h3 h4 => ?_
 simp [at2, List.getD_eq_getElem?_getD, h2, h4]
theorem mat_congr {n : Nat} {f g : Nat → Nat → Int} (h : ∀ i j, i < n → j < n → f i j = g i j) : mat n f = mat n g := by
 refine List.map_congr_left fun i hi => List.map_congr_left fun j hj => h i j (by simpa using hi) (by simpa using hj)
theorem turned_ret (m : List (List Int)) (n : Nat) (hn : n ≤ 1000000) (hm : Sq m n) : Ret pg zfx [.sl (m.map ivl)] (.sl ((mat n fun i j => at2 m j i).map ivl)) := by
 have hl := hm.1
 have r0 : ∀ i j : Nat, i < n → j < n → Ret pg zc4 [.int .i64 i, .int .i64 j, .pp (.sl (m.map ivl))] (IV (at2 m j i)) := fun i j hi hj => by
  have hr := hm.row hj
  refine lin_Mat_Turned_1.of rfl (W_b ?_)
  unfold lin_Mat_Turned_1.k lin_Mat_Turned_1.res Ot kp Oy Om Ol OL Oi
  refine sgo ?_
  rfl
 refine lin_Mat_Turned.of rfl (W_b ?_)
 unfold lin_Mat_Turned.k lin_Mat_Turned.res Ot kp Om Ol On
 simp -dsimp -implicitDefEqProofs (disch := try exact zdE) only [go_sem, hl]
 refine zaa (lmade_ret n zc4 _ _ hn (by simp) r0) (by simp) ?_
 exact sgo trivial
def sqE (rows : List (List Int)) : Int := if 12 < rows.length then 2 else if ∃ r ∈ rows, r.length ≠ rows.length then 1 else 0
theorem sqE_ok {rows : List (List Int)} (h : sqE rows = 0) : Sq rows rows.length ∧ rows.length ≤ 12 := by
 unfold sqE at h
 split at h
 ·cases h
 ·split at h
  ·cases h
  ·rename_i h1 h2
   refine ⟨⟨rfl, fun r hr => ?_⟩, by omega⟩
   exact Decidable.byContradiction fun hne => h2 ⟨r, hr, hne⟩
theorem linof_retL (rows : List (List Int)) (hl : rows.length ≤ 9223372036854775807) (hr : ∀ r ∈ rows, r.length ≤ 9223372036854775807 ∧ ∀ v ∈ r, -9223372036854775808 ≤ v ∧ v ≤ 9223372036854775807) : Ret pg n_lin_Of [.sl (rows.map ints)] (.tup [.sl ((if sqE rows = 0 then rows else []).map ivl), .int .i64 (sqE rows)]) := by
 refine lin_Of.of rfl (W_b ?_)
 unfold lin_Of.k lin_Of.res Ot kp Om Ol Oi Oc On ci
 by_cases h12 : 12 < rows.length
 ·have e : sqE rows = 2 := by unfold sqE; rw [if_pos h12]
  rw [e]
  exact sgo trivial
 ·refine sgo ?_
  refine zam (T := Nat × Nat) (fun t => ⟨E [(1, .pp (.sl (rows.map ints))), (9, .sl (rows.map ints)), (10, .int .i64 rows.length), (11, .int .i64 t.1)], fun _ => none, t.2, t.2⟩) (fun t => t.1 ≤ rows.length ∧ ∀ r ∈ rows.take t.1, r.length = rows.length) (fun t => rows.length - t.1) (0, _) rfl ⟨zdo, by simp⟩ ?_
  rintro ⟨i, nx⟩ ⟨i1, i2⟩
  dsimp only at i1 i2
  by_cases hi : i < rows.length
  ·have hm := zai [] hi
   have hml := (hr _ hm).1
   have ht := zbp [] hi
   generalize hX : rows.getD i [] = x at *
   by_cases hx : x.length = rows.length
   ·simp -dsimp -implicitDefEqProofs (disch := try exact zdE) only [go_sem, hX, hx]
    refine ⟨(i + 1, _), rfl, ⟨zdo, fun y hy => ?_⟩, zdo⟩
    dsimp only at hy
    rw [ht] at hy
    rcases List.mem_append.1 hy with hy | hy
    ·exact i2 y hy
    ·simp at hy; subst hy; exact hx
   ·have e : sqE rows = 1 := by unfold sqE; rw [if_neg h12, if_pos ⟨x, hm, hx⟩]
    rw [e]
    simp -dsimp -implicitDefEqProofs (disch := try exact zdE) only [go_sem, hX]
  ·rw [List.take_of_length_le (by omega)] at i2
   have e : sqE rows = 0 := by unfold sqE; rw [if_neg h12, if_neg (fun ⟨r, h1, h2⟩ => h2 (i2 r h1))]
   have hsq : Sq rows rows.length := ⟨rfl, i2⟩
   have r0 : ∀ i j : Nat, i < rows.length → j < rows.length → Ret pg n_lin_Of_1 [.int .i64 i, .int .i64 j, .pp (.sl (rows.map ints))] (IV (at2 rows i j)) := fun i j hi hj => by
    have hrl := hsq.row hi
    have hv := (hr _ (zai [] hi)).2 _ (zai 0 (show j < (rows.getD i []).length by omega))
    refine lin_Of_1.of rfl (W_b ?_)
    unfold lin_Of_1.k lin_Of_1.res Ot kp Oy Om Ol Oi
    refine sgo ?_
    refine zaa (zax _ hv) (by simp) ?_
    refine sgo ?_
    rfl
   rw [e]
   refine sgo ?_
   refine zaa (lmade_ret rows.length n_lin_Of_1 _ _ (by omega) (by simp) r0) (by simp) ?_
   refine sgo ?_
   rw [mat_self hsq]
theorem linof_ret (rows : List (List Int)) (hl : rows.length ≤ 1099511627776) (hr : ∀ r ∈ rows, r.length ≤ 1099511627776 ∧ ∀ v ∈ r, -9223372036854775808 ≤ v ∧ v ≤ 9223372036854775807) : Ret pg n_lin_Of [.sl (rows.map ints)] (.tup [.sl ((if sqE rows = 0 then rows else []).map ivl), .int .i64 (sqE rows)]) :=
 linof_retL rows (by omega) fun r h => ⟨by have := (hr r h).1; omega, (hr r h).2⟩
end Go.Gim
/- Matrices: their products with lists, quadratic forms; whether two are the same. -/
set_option maxRecDepth 100000
namespace Go.Gim
open Go.Proofs
def Sm (x : Int) : Prop := lim x ≤ 1000000
def SmL (l : List Int) : Prop := ∀ x ∈ l, Sm x
def SmM (m : List (List Int)) : Prop := ∀ r ∈ m, SmL r
theorem SmL.get {l : List Int} (h : SmL l) (i : Nat) : lim (l.getD i 0) ≤ 1000000 := by
 by_cases hi : i < l.length
 ·exact h _ (zai 0 hi)
 ·simp [List.getD_eq_getElem?_getD, List.getElem?_eq_none (Nat.le_of_not_lt hi), za0]
theorem SmM.get {m : List (List Int)} (h : SmM m) (i j : Nat) : lim (at2 m i j) ≤ 1000000 := by
 unfold at2
 by_cases hi : i < m.length
 ·exact SmL.get (h _ (zai [] hi)) j
 ·simp [List.getD_eq_getElem?_getD, List.getElem?_eq_none (Nat.le_of_not_lt hi), za0]
def za1 (m : List (List Int)) (x : List Int) (n i : Nat) : Int := sumN (at2 m i) (fun k => x.getD k 0) n
theorem apply_ret (m : List (List Int)) (x : List Int) (n : Nat) (hn : n ≤ 1000) (hm : Sq m n) (hx : x.length = n) (sm : ∀ i j, lim (at2 m i j) ≤ 2000000) (sx : ∀ i, lim (x.getD i 0) ≤ 2000000) :
  Ret pg zet [.sl (m.map ivl), ivl x] (ivl ((List.range n).map (za1 m x n))) := by
 have hl := hm.1
 have r0 : ∀ i k : Nat, i < n → k < n → Ret pg zcv [.int .i64 k, .pp (.sl (m.map ivl)), .pp (.int .i64 i), .pp (ivl x)] (.tup [IV (at2 m i k), IV (x.getD k 0)]) := fun i k hi hk => by
  have hr := hm.row hi
  refine lin_Mat_Apply_1_1.of rfl (W_b ?_)
  unfold lin_Mat_Apply_1_1.k lin_Mat_Apply_1_1.res Ot kp kd Oy Om
  refine sgo ?_
  rfl
 have r1 : ∀ i : Nat, i < n → Ret pg zds [.int .i64 i, .pp (.sl (m.map ivl)), .pp (ivl x)] (IV (za1 m x n i)) := fun i hi => by
  refine lin_Mat_Apply_1.of rfl (W_b ?_)
  unfold lin_Mat_Apply_1.k lin_Mat_Apply_1.res Ot kp Oy Ol On
  simp -dsimp -implicitDefEqProofs (disch := try exact zdE) only [go_sem, hl]
  refine zaa (sum_ret n zcv _ (at2 m i) (fun k => x.getD k 0) (by omega) (by simp) (fun k => by have := sm i k; have := sx k; omega) fun k hk => r0 i k hi hk) (by simp) ?_
  refine sgo ?_
  rfl
 refine lin_Mat_Apply.of rfl (W_b ?_)
 unfold lin_Mat_Apply.k lin_Mat_Apply.res Ot kp Om Ol On
 simp -dsimp -implicitDefEqProofs (disch := try exact zdE) only [go_sem, hl]
 refine zaa (list_ret n zds _ (za1 m x n) (by omega) (by simp) r1) (by simp) ?_
 exact sgo trivial
theorem applyAt_lim {m : List (List Int)} {x : List Int} {n i : Nat} {A B : Nat} (sm : ∀ i j, lim (at2 m i j) ≤ A) (sx : ∀ i, lim (x.getD i 0) ≤ B) : lim (za1 m x n i) ≤ A + B + n :=
 zen (L := A + B) (fun k => by have := sm i k; have := sx k; omega) n
def quadV (m : List (List Int)) (x : List Int) (n : Nat) : Int := sumN (fun k => x.getD k 0) (za1 m x n) n
theorem range_getD' {f : Nat → Int} {n : Nat} (i : Nat) : ((List.range n).map f).getD i 0 = if i < n then f i else 0 := by
 by_cases h : i < n
 ·rw [if_pos h, zaq 0 h]
 ·rw [if_neg h]; simp [List.getD_eq_getElem?_getD, h]
theorem lquad_ret (m : List (List Int)) (x : List Int) (n : Nat) (hn : n ≤ 1000) (hm : Sq m n) (hx : x.length = n) (sm : ∀ i j, lim (at2 m i j) ≤ 1000000) (sx : ∀ i, lim (x.getD i 0) ≤ 1000000) :
  Ret pg zg2 [.sl (m.map ivl), ivl x] (IV (quadV m x n)) := by
 have hl := hm.1
 have r0 : ∀ k : Nat, k < n → Ret pg zd6 [.int .i64 k, .pp (ivl x), .pp (ivl ((List.range n).map (za1 m x n)))] (.tup [IV (x.getD k 0), IV (za1 m x n k)]) := fun k hk => by
  have e := zaq (f := za1 m x n) 0 hk
  refine lin_Mat_Quad_1.of rfl (W_b ?_)
  unfold lin_Mat_Quad_1.k lin_Mat_Quad_1.res Ot kp kd Oy Om
  simp -dsimp -implicitDefEqProofs (disch := try exact zdE) only [go_sem, e]
 refine lin_Mat_Quad.of rfl (W_b ?_)
 unfold lin_Mat_Quad.k lin_Mat_Quad.res Ot kp Oy Om Ol On
 refine sgo ?_
 refine zaa (apply_ret m x n hn hm hx (fun i j => by have := sm i j; omega) (fun i => by have := sx i; omega)) (by simp) ?_
 simp -dsimp -implicitDefEqProofs (disch := try exact zdE) only [go_sem, hl]
 refine zgk 5 [ivl ((List.range n).map (za1 m x n))] (es := 1) rfl (by simp) (by simp [V.sub, fz1, sub_fn]) (sum_ret n zd6 _ (fun k => x.getD k 0) (za1 m x n) (by omega) (by simp) (fun k => by have := sx k; have := applyAt_lim (n := n) (i := k) sm sx; omega) r0) (by simp) ?_
 refine sgo ?_
 rfl
set_option maxHeartbeats 2000000 in
theorem same_go (a b : List (List Int)) (n : Nat) (hn : n ≤ 1000) (ha : Sq a n) (hb : Sq b n) (sa : ∀ i j, lim (at2 a i j) ≤ 1000000) (sb : ∀ i j, lim (at2 b i j) ≤ 1000000) : Ret pg n_quad_same [.sl (a.map ivl), .sl (b.map ivl)] (.bool (decide (a = b))) := by
 have hl := ha.1
 have hlb := hb.1
 refine quad_same.of rfl (W_b ?_)
 unfold quad_same.k quad_same.res Ot kp kd Om Ol OL Oi Oc On ci
 simp -dsimp -implicitDefEqProofs (disch := try exact zdE) only [go_sem, hl]
 refine zam (T := Nat × Nat) (fun t => ⟨E [(0, .sl (a.map ivl)), (1, .sl (b.map ivl)), (8, .int .i64 n), (9, .int .i64 t.1)], fun _ => none, t.2, t.2⟩) (fun t => t.1 ≤ n ∧ ∀ i j, i < t.1 → j < n → at2 a i j = at2 b i j) (fun t => n - t.1) (0, _) rfl ⟨zdo, fun i j h => by dsimp only at h; omega⟩ ?_
 rintro ⟨i, nx⟩ ⟨i1, i2⟩
 dsimp only at i1 i2
 by_cases hi : i < n
 ·have ra := ha.row hi
  have rb := hb.row hi
  simp -dsimp -implicitDefEqProofs (disch := try exact zdE) only [go_sem, ra]
  refine zam (T := Nat × Nat) (fun t => ⟨E [(0, .sl (a.map ivl)), (1, .sl (b.map ivl)), (5, .int .i64 i), (8, .int .i64 n), (9, .int .i64 i), (16, .int .i64 n), (17, .int .i64 t.1)], fun _ => none, t.2, t.2⟩) (fun t => t.1 ≤ n ∧ ∀ j, j < t.1 → at2 a i j = at2 b i j) (fun t => n - t.1) (0, _) rfl ⟨zdo, fun j h => by dsimp only at h; omega⟩ ?_
  rintro ⟨j, nx'⟩ ⟨j1, j2⟩
  dsimp only at j1 j2
  by_cases hj : j < n
  ·have s1 := sa i j
   have s2 := sb i j
   have e1 : (a.getD i []).getD j 0 = at2 a i j := rfl
   have e2 : (b.getD i []).getD j 0 = at2 b i j := rfl
   simp -dsimp -implicitDefEqProofs (disch := try exact zdE) only [go_sem, e1, e2]
   refine zab (zcb _ _ (by omega) (by omega)) (by simp) ?_
   by_cases h : at2 a i j = at2 b i j
   ·have hs : (at2 a i j - at2 b i j).sign = 0 := by rw [h]; simp
    simp -dsimp -implicitDefEqProofs (disch := try exact zdE) only [go_sem, hs]
    exact ⟨(j + 1, _), rfl, ⟨zdo, fun k hk => by dsimp only at hk; by_cases hkj : k = j; (subst hkj; exact h); exact j2 k (by omega)⟩, zdo⟩
   ·have hs : (at2 a i j - at2 b i j).sign ≠ 0 := by rw [Ne, Int.sign_eq_zero_iff_zero]; omega
    have hne : decide (a = b) = false := decide_eq_false fun e => h (by rw [e])
    rw [hne]
    exact sgo trivial
  ·have hje : j = n := by omega
   subst hje
   refine sgo ?_
   exact ⟨(i + 1, _), rfl, ⟨zdo, fun k l hk hl => by dsimp only at hk; by_cases hki : k = i; (subst hki; exact j2 l hl); exact i2 k l (by omega) hl⟩, zdo⟩
 ·have hie : i = n := by omega
  subst hie
  have he : a = b := by rw [← mat_self ha, ← mat_self hb]; exact mat_congr i2
  rw [decide_eq_true he]
  exact sgo trivial
end Go.Gim
/- Quadratic functions: made of small numbers. -/
set_option maxRecDepth 100000
namespace Go.Gim
open Go.Proofs
def QV (P : List (List Int)) (Q : List Int) (c : Int) : V := .agg [.sl (P.map ivl), ivl Q, .bool (decide (c < 0)), .sl (nats .u32 (digs W32 c.natAbs))]
@[simp] theorem QV_pure (P Q c) : (QV P Q c).Pure := by simp [QV]
theorem sub_QV (g : Nat → Option (List V)) (P Q c) : V.sub g (QV P Q c) = QV P Q c := zck _ (QV_pure P Q c)
attribute [go_sem] sub_QV
theorem QV_cells (P Q c) : (QV P Q c).cells = [.sl (P.map ivl), ivl Q, .bool (decide (c < 0)), .sl (nats .u32 (digs W32 c.natAbs))] := rfl
theorem QV_isAgg (P Q c) : (QV P Q c).isAgg = true := rfl
@[simp] theorem QV_isJunk (P Q c) : (QV P Q c).isJunk = false := rfl
theorem part_QV (P Q c) : V.part (QV P Q c) 0 4 true = some (QV P Q c) := rfl
theorem frz_QV (H : Hp) (n : Nat) (P Q c) : frz H (n + 2) (QV P Q c) = some (QV P Q c) := rfl
theorem QV_zero : QV [] [] 0 = .agg [.sl [], .sl [], .bool false, .sl []] := by
 unfold QV
 rw [show (0 : Int).natAbs = 0 from rfl, zbk]; rfl
attribute [go_sem] QV_cells QV_isAgg QV_isJunk part_QV frz_QV
theorem Sq.sm {m : List (List Int)} (h : ∀ r ∈ m, ∀ v ∈ r, In64 v) (i j : Nat) : lim (at2 m i j) ≤ 2 := by
 unfold at2
 by_cases hi : i < m.length
 ·by_cases hj : j < (m.getD i []).length
  ·exact zat (h _ (zai [] hi) _ (zai 0 hj))
  ·rw [show (m.getD i []).getD j 0 = 0 by rw [List.getD_eq_getElem?_getD, List.getElem?_eq_none (by omega)]; rfl, za0]; omega
 ·rw [show (m.getD i []) = [] by rw [List.getD_eq_getElem?_getD, List.getElem?_eq_none (by omega)]; rfl]
  simp [za0]
def symB (m : List (List Int)) : Bool := decide (m = mat m.length fun i j => at2 m j i)
def qofE (rows : List (List Int)) (q : List Int) : Int := if sqE rows ≠ 0 then sqE rows else if q.length ≠ rows.length ∨ symB rows = false then 1 else 0
theorem lim_at_mat {n : Nat} {f : Nat → Nat → Int} {A : Nat} (h : ∀ i j, lim (f i j) ≤ A) (i j : Nat) : lim (at2 (mat n f) i j) ≤ A := by
 by_cases hi : i < n
 ·by_cases hj : j < n
  ·rw [zgu hi hj]; exact h i j
  ·unfold at2 mat; rw [zaq [] hi, range_getD', if_neg hj, za0]; omega
 ·unfold at2 mat
  rw [show ((List.range n).map fun i => (List.range n).map (f i)).getD i [] = [] by rw [List.getD_eq_getElem?_getD, List.getElem?_eq_none (by simp; omega)]; rfl]
  simp [za0]
theorem qof_ret (rows : List (List Int)) (q : List Int) (c : Int) (hl : rows.length ≤ 1099511627776) (hr : ∀ r ∈ rows, r.length ≤ 1099511627776 ∧ ∀ v ∈ r, In64 v) (hq : ∀ v ∈ q, In64 v) (hql : q.length ≤ 1099511627776) (hc : In64 c) :
  Ret pg n_quad_Of [.sl (rows.map ints), ints q, .int .i64 c] (.tup [if qofE rows q = 0 then QV rows q c else QV [] [] 0, .int .i64 (qofE rows q)]) := by
 have hlo := linof_ret rows hl hr
 refine quad_Of.of rfl (W_b ?_)
 unfold quad_Of.k quad_Of.res Ot kp kd Og Oy Om Ol OL Oq Oi Oc On ci
 refine sgo ?_
 refine zaa hlo (by simp) ?_
 by_cases h0 : sqE rows = 0
 ·obtain ⟨hsq, h12⟩ := sqE_ok h0
  rw [if_pos h0]
  by_cases hqr : q.length = rows.length
  ·simp -dsimp -implicitDefEqProofs (disch := try exact zdE) only [go_sem, h0]
   refine zaa (turned_ret rows rows.length (by omega) hsq) (by simp) ?_
   refine sgo ?_
   have sm := Sq.sm fun r h1 => (hr r h1).2
   refine zaa (same_go rows _ rows.length (by omega) hsq (mat_sq _ _) (fun i j => by have := sm i j; omega) (lim_at_mat fun i j => by have := sm j i; omega)) (by simp) ?_
   cases hsy : symB rows
   ·have hsy' : decide (rows = mat rows.length fun i j => at2 rows j i) = false := hsy
    have e : qofE rows q = 1 := by unfold qofE; rw [if_neg (by simpa using h0), if_pos (.inr hsy)]
    rw [hsy', e, if_neg (by decide), QV_zero]
    exact sgo trivial
   ·have hsy' : decide (rows = mat rows.length fun i j => at2 rows j i) = true := hsy
    have e : qofE rows q = 0 := by unfold qofE; rw [if_neg (by simpa using h0), if_neg (by simp [hqr, hsy])]
    rw [hsy', e]
    refine sgo ?_
    refine zaa (zax _ hc) (by simp) ?_
    refine sgo ?_
    refine zam (T := Nat × V × Hp × Nat) (fun t => ⟨E [(6, .ptr 0 1 0 0), (10, .ptr 29 1 0 0), (41, ints q), (42, .int .i64 q.length), (43, .int .i64 t.1)], t.2.2.1, t.2.2.2, t.2.2.2⟩)
     (fun t => t.1 ≤ q.length ∧ 29 < t.2.2.2 ∧ t.2.2.1 0 = some ⟨[.agg [.nil, .nil, .bool false, .sl []]], 4⟩ ∧ t.2.2.1 29 = some ⟨[.agg [.sl (rows.map ivl), t.2.1, .bool (decide (c < 0)), .sl (nats .u32 (digs W32 c.natAbs))]], 4⟩ ∧ Row 30 t.2.2.1 t.2.2.2 t.2.1 2 ((q.take t.1).map IV)) (fun t => q.length - t.1) (0, .nil, _, _) rfl ⟨zdo, zdo, rfl, rfl, Row.nil _ _ _ _⟩ ?_
    rintro ⟨i, w, H, nx⟩ ⟨i1, i2, i3, i4, i5⟩
    dsimp only at i1 i2 i3 i4 i5
    have hwa : w.isAgg = false := by rcases i5 with ⟨rfl, _⟩ | ⟨b, rfl, _⟩ <;> rfl
    have hwc : w.cellOk = true := by rcases i5 with ⟨rfl, _⟩ | ⟨b, rfl, _⟩ <;> rfl
    by_cases hi : i < q.length
    ·have hv := hq _ (zai 0 hi)
     have ht := zbp 0 hi
     generalize hX : q.getD i 0 = x at *
     simp -dsimp -implicitDefEqProofs (disch := try exact zdE) only [go_sem, hX, i4, hwa]
     refine zab (zax _ hv) (by simp) ?_
     refine sgo ?_
     refine zcc (lo := 30) (nx := nx) (H0 := H) (xs := (q.take i).map IV) i5 (by omega) rfl (by omega) (by omega) (by simp [rowOk, V.cells, V.cellOk, IV]) (by decide) (by simp; omega) (by simp; omega) fun v2 H2 r1 _ _ r4 => ?_
     rw [zeg, ← ht] at r1
     have j3 := (r4 0 (by omega)).trans i3
     have j4 := (r4 29 (by omega)).trans i4
     rcases r1 with ⟨_, h⟩ | ⟨b', rfl, c1, c2, c3⟩
     ·have := congrArg List.length h
      simp only [List.length_map, List.length_take, List.length_nil] at this; omega
     ·simp -dsimp -implicitDefEqProofs (disch := try exact zdE) only [go_sem, j3, j4]
      generalize hH3 : Hp.upd H2 29 _ = H3
      have k0 := zbw hH3 j3 (by omega)
      have k29 := zd9 hH3
      have kb := zbw hH3 c3 (by omega)
      exact ⟨(i + 1, .own b' (q.take (i + 1)).length, H3, _), rfl, ⟨zdo, zdo, k0, k29, .inr ⟨b', by rw [List.length_map], c1, zdo, kb⟩⟩, zdo⟩
    ·have hie : i = q.length := by omega
     subst hie
     rw [List.take_length] at i5
     simp -dsimp -implicitDefEqProofs (disch := try exact zdE) only [go_sem, i3, i4, hwa, hwc]
     rw [(i5.upd (by omega)).frz (zc3 fun x => zau _ _ _)]
     rfl
  ·have e : qofE rows q = 1 := by unfold qofE; rw [if_neg (by simpa using h0), if_pos (.inl hqr)]
   rw [e, if_neg (by decide), QV_zero]
   simp -dsimp -implicitDefEqProofs (disch := try exact zdE) only [go_sem, h0]
 ·have e : qofE rows q = sqE rows := by unfold qofE; rw [if_pos h0]
  rw [e, if_neg h0, if_neg h0, QV_zero]
  exact sgo trivial
end Go.Gim
/- Quadratic functions: values, how steep they are. -/
set_option maxRecDepth 100000
namespace Go.Gim
open Go.Proofs
theorem qdot_ret (x y : List Int) (hl : x.length ≤ 1000) (hy : x.length ≤ y.length) (sx : ∀ i, lim (x.getD i 0) ≤ 2000000) (sy : ∀ i, lim (y.getD i 0) ≤ 2000000) : Ret pg n_quad_dot [ivl x, ivl y] (IV (sumN (fun k => x.getD k 0) (fun k => y.getD k 0) x.length)) := by
 refine quad_dot.of rfl (W_b ?_)
 unfold quad_dot.k quad_dot.res Ot kp kd Oy Om OL Oi Oc On ci
 simp -dsimp -implicitDefEqProofs (disch := try exact zdE) only [go_sem, ← zcz]
 refine zam (T := Nat × Nat) (fun t => ⟨E [(0, ivl x), (1, ivl y), (4, .ptr 0 1 0 0), (5, .ptr 1 1 0 0), (8, .int .i64 x.length), (9, .int .i64 t.1)], (Hp.upd (fun _ => none) 0 (some ⟨[IV 0], 2⟩)).upd 1 (some ⟨[IV (sumN (fun k => x.getD k 0) (fun k => y.getD k 0) t.1)], 2⟩), t.2, t.2⟩) (fun t => t.1 ≤ x.length ∧ 1 < t.2) (fun t => x.length - t.1) (0, _) rfl ⟨zdo, zdo⟩ ?_
 rintro ⟨i, nx⟩ ⟨i1, i2⟩
 dsimp only at i1 i2
 by_cases hi : i < x.length
 ·have b1 := sx i
  have b2 := sy i
  have b3 := zbj (x.getD i 0) (y.getD i 0)
  have b4 := zen (f := fun k => x.getD k 0) (p := fun k => y.getD k 0) (L := 4000000) (fun k => by have := sx k; have := sy k; omega) i
  refine sgo ?_
  refine zab (za9 _ _ (by omega) (by omega)) (by simp) ?_
  refine sgo ?_
  refine zab (zbm _ _ (by omega) (by omega)) (by simp) ?_
  refine sgo ?_
  exact ⟨(i + 1, _), rfl, ⟨zdo, zdo⟩, zdo⟩
 ·have he : i = x.length := by omega
  subst he
  exact sgo trivial
theorem qless_ret (x y : List Int) (hl : x.length ≤ 1000) (hy : x.length ≤ y.length) (sx : ∀ i, lim (x.getD i 0) ≤ 4000000) (sy : ∀ i, lim (y.getD i 0) ≤ 4000000) : Ret pg n_quad_less [ivl x, ivl y] (ivl ((List.range x.length).map fun k => x.getD k 0 - y.getD k 0)) := by
 refine quad_less.of rfl (W_b ?_)
 unfold quad_less.k quad_less.res Ot kp kd Oy Om OL Oi Oc On ci
 refine sgo ?_
 refine zam (T := Nat × Nat) (fun t => ⟨E [(0, ivl x), (1, ivl y), (5, .own 3 x.length), (11, .int .i64 x.length), (12, .int .i64 t.1)], Hp.upd (fun _ => none) 3 (some ⟨(upto x.length t.1 fun k => x.getD k 0 - y.getD k 0).map IV, 2⟩), t.2, t.2⟩) (fun t => t.1 ≤ x.length ∧ 3 < t.2) (fun t => x.length - t.1) (0, _) (by rw [upto_zero]; rfl) ⟨zdo, zdo⟩ ?_
 rintro ⟨i, nx⟩ ⟨i1, i2⟩
 dsimp only at i1 i2
 by_cases hi : i < x.length
 ·have b1 := sx i
  have b2 := sy i
  refine sgo ?_
  refine zab (sub_ret _ _ (by omega) (by omega)) (by simp) ?_
  simp -dsimp -implicitDefEqProofs (disch := try exact zdE) only [go_sem, upto_set (f := fun k => x.getD k 0 - y.getD k 0) hi]
  exact ⟨(i + 1, _), rfl, ⟨zdo, zdo⟩, zdo⟩
 ·have he : i = x.length := by omega
  subst he
  refine sgo ?_
  rw [zc3 fun x => zau _ _ _, upto_all]
  rfl
def qval (P : List (List Int)) (Q : List Int) (c : Int) (x : List Int) : Int := quadV P x P.length - sumN (fun k => Q.getD k 0) (fun k => x.getD k 0) Q.length * 2 + c
theorem qvalue_ret (P : List (List Int)) (Q x : List Int) (c : Int) (n : Nat) (hn : n ≤ 1000) (hP : Sq P n) (hQ : Q.length = n) (hx : x.length = n) (sP : ∀ i j, lim (at2 P i j) ≤ 1000000) (sQ : ∀ i, lim (Q.getD i 0) ≤ 1000000) (sc : lim c ≤ 1000000) (sx : ∀ i, lim (x.getD i 0) ≤ 1000000) :
  Ret pg ze7 [QV P Q c, ivl x] (IV (qval P Q c x)) := by
 have l0 := zen (f := fun k => x.getD k 0) (p := za1 P x n) (L := 3001000) (fun k => by have := sx k; have := applyAt_lim (n := n) (i := k) sP sx; omega) n
 have l1 := zen (f := fun k => Q.getD k 0) (p := fun k => x.getD k 0) (L := 2000000) (fun k => by have := sx k; have := sQ k; omega) n
 have hPl := hP.1
 unfold qval quadV
 rw [hPl, hQ]
 refine quad_Quad_Value.of rfl (W_b ?_)
 unfold quad_Quad_Value.k quad_Quad_Value.res Ot kp kd Oy Om Ol OL Oq ci
 refine sgo ?_
 refine zab (lquad_ret P x n hn hP hx sP sx) (by simp) ?_
 refine sgo ?_
 refine zab (qdot_ret Q x (by omega) (by omega) (fun i => by have := sQ i; omega) (fun i => by have := sx i; omega)) (by simp) ?_
 refine sgo ?_
 refine zab (zax 2 (by omega)) (by simp) ?_
 simp -dsimp -implicitDefEqProofs (disch := try exact zdE) only [go_sem, hQ]
 unfold quadV
 generalize sumN (fun k => x.getD k 0) (za1 P x n) n = A at *
 generalize sumN (fun k => Q.getD k 0) (fun k => x.getD k 0) n = B at *
 have l2 := zbj B 2
 have l3 := zat (x := 2) (by omega)
 have l4 := lim_sub A (B * 2)
 refine zab (za9 _ _ (by omega) (by omega)) (by simp) ?_
 refine sgo ?_
 refine zab (sub_ret _ _ (by omega) (by omega)) (by simp) ?_
 refine sgo ?_
 refine zab (zbm _ _ (by omega) (by omega)) (by simp) ?_
 exact sgo trivial
theorem qslope_ret (P : List (List Int)) (Q x : List Int) (c : Int) (n : Nat) (hn : n ≤ 1000) (hP : Sq P n) (hQ : Q.length = n) (hx : x.length = n) (sP : ∀ i j, lim (at2 P i j) ≤ 1000000) (sQ : ∀ i, lim (Q.getD i 0) ≤ 1000000) (sx : ∀ i, lim (x.getD i 0) ≤ 1000000) :
  Ret pg ze8 [QV P Q c, ivl x] (ivl ((List.range n).map fun k => za1 P x n k - Q.getD k 0)) := by
 have hle := qless_ret ((List.range n).map (za1 P x n)) Q (by simp; omega) (by simp; omega) (fun i => by
  rw [range_getD']; split
  ·have := applyAt_lim (n := n) (i := i) sP sx; omega
  ·rw [za0]; omega) (fun i => by have := sQ i; omega)
 have he : (List.range ((List.range n).map (za1 P x n)).length).map (fun k => ((List.range n).map (za1 P x n)).getD k 0 - Q.getD k 0) = (List.range n).map fun k => za1 P x n k - Q.getD k 0 := by
  rw [List.length_map, List.length_range]
  exact List.map_congr_left fun k hk => by rw [zaq 0 (by simpa using hk)]
 rw [he] at hle
 refine quad_Quad_Slope.of rfl (W_b ?_)
 unfold quad_Quad_Slope.k quad_Quad_Slope.res Ot kp kd Om Ol Oq
 refine sgo ?_
 refine zab (apply_ret P x n hn hP hx (fun i j => by have := sP i j; omega) (fun i => by have := sx i; omega)) (by simp) ?_
 refine sgo ?_
 refine zab hle (by simp) ?_
 exact sgo trivial
end Go.Gim
/- Mirrored rows: what they are. -/
set_option maxRecDepth 100000
set_option maxHeartbeats 4000000
namespace Go.Gim
open Go.Proofs
def mirF (rows : List (List Int)) (i k a c : Nat) : Int := if max a c < i ∨ (max a c = i ∧ min a c < k) then at2 rows (max a c) (min a c) else 0
def mirM (rows : List (List Int)) (n : Nat) : List (List Int) := mat n fun a c => at2 rows (max a c) (min a c)
theorem mirF_step {rows : List (List Int)} {i k a c : Nat} (h : ¬ (max a c = i ∧ min a c = k)) : mirF rows i k a c = mirF rows i (k + 1) a c := by
 unfold mirF
 by_cases h1 : max a c < i ∨ (max a c = i ∧ min a c < k)
 ·rw [if_pos h1, if_pos (by omega)]
 ·rw [if_neg h1, if_neg (by omega)]
theorem mirF_at {rows : List (List Int)} {i k a c : Nat} (h : max a c = i ∧ min a c = k) : mirF rows i (k + 1) a c = at2 rows i k := by
 unfold mirF
 rw [if_pos (by omega), h.1, h.2]
theorem at2_zero {rows : List (List Int)} {i k : Nat} (h : ∀ r, rows[i]? = some r → r.length ≤ k) : at2 rows i k = 0 := by
 unfold at2
 cases hr : rows[i]? with
 | none => simp [List.getD_eq_getElem?_getD, hr]
 | some r => simp [List.getD_eq_getElem?_getD, hr, List.getElem?_eq_none (h r hr)]
theorem mirF_row {rows : List (List Int)} {i k a c : Nat} (h : ∀ m, k ≤ m → m ≤ i → at2 rows i m = 0) : mirF rows i k a c = mirF rows (i + 1) 0 a c := by
 unfold mirF
 by_cases h1 : max a c < i ∨ (max a c = i ∧ min a c < k)
 ·rw [if_pos h1, if_pos (by omega)]
 ·rw [if_neg h1]
  by_cases h2 : max a c < i + 1 ∨ (max a c = i + 1 ∧ min a c < 0)
  ·rw [if_pos h2]
   have e : max a c = i := by omega
   rw [e, h _ (by omega) (by omega)]
  ·rw [if_neg h2]
theorem mirM_sq (rows n) : Sq (mirM rows n) n := mat_sq _ _
theorem at2_in {rows : List (List Int)} (h : ∀ r ∈ rows, ∀ v ∈ r, In64 v) (i j : Nat) : In64 (at2 rows i j) := by
 unfold at2
 by_cases hi : i < rows.length
 ·by_cases hj : j < (rows.getD i []).length
  ·exact h _ (zai [] hi) _ (zai 0 hj)
  ·rw [show (rows.getD i []).getD j 0 = 0 by rw [List.getD_eq_getElem?_getD, List.getElem?_eq_none (by omega)]; rfl]; omega
 ·rw [show (rows.getD i []) = [] by rw [List.getD_eq_getElem?_getD, List.getElem?_eq_none (by omega)]; rfl]; simp [In64]
theorem mat_in {n : Nat} {f : Nat → Nat → Int} (h : ∀ i j, In64 (f i j)) : ∀ r ∈ mat n f, ∀ v ∈ r, In64 v := fun r hr v hv => by
 simp only [mat, List.mem_map] at hr
 obtain ⟨i, _, rfl⟩ := hr
 simp only [List.mem_map] at hv
 obtain ⟨j, _, rfl⟩ := hv
 exact h i j
theorem mirM_in {rows : List (List Int)} (h : ∀ r ∈ rows, ∀ v ∈ r, In64 v) (n : Nat) : ∀ r ∈ mirM rows n, ∀ v ∈ r, In64 v := mat_in fun i j => at2_in h _ _
theorem mirM_sym (rows n) : symB (mirM rows n) = true := by
 unfold symB
 refine decide_eq_true ?_
 rw [(mirM_sq rows n).1]
 unfold mirM
 refine mat_congr fun i j hi hj => ?_
 rw [zgu hj hi, Nat.max_comm, Nat.min_comm]
theorem qofE_mir (rows : List (List Int)) {n : Nat} (hn : n ≤ 12) {q : List Int} (hq : q.length = n) : qofE (mirM rows n) q = 0 := by
 obtain ⟨h1, h2⟩ := mirM_sq rows n
 have hs : sqE (mirM rows n) = 0 := by
  unfold sqE
  rw [if_neg (by omega), if_neg (fun ⟨r, hr, hne⟩ => hne (by rw [h2 r hr, h1]))]
 unfold qofE
 rw [if_neg (by simpa using hs), if_neg (by rw [mirM_sym]; simp [h1, hq])]
end Go.Gim

import Derived.Test.YtjmbcnfhonfpkaaGreatDoorFA2
import Derived.Test.YtjmbcnfhonfpkaaGreatDoorLI4
set_option linter.unusedSimpArgs false
set_option linter.unusedVariables false
/- Lists, matrices and sums of products that a function tells. -/
set_option maxRecDepth 100000
namespace Go.Gim
open Go.Proofs
theorem list_ret (n : Nat) (g : Nat) (caps : List V) (f : Nat → Int) (hn : n ≤ 1000000) (hc : ∀ v ∈ caps, V.Pure v) (h : ∀ i : Nat, i < n → Ret pg g (.int .i64 i :: caps) (IV (f i))) :
  Ret pg za2 [.int .i64 n, .fn g caps] (ivl ((List.range n).map f)) := by
 refine lin_list_long_Int.of rfl (W_b ?_)
 unfold lin_list_long_Int.k lin_list_long_Int.res Ot kp Oy Om Oi Oc On ci
 refine sgo ?_
 refine za1 (T := Nat × Nat) (fun t => ⟨E [(1, .fn g caps), (5, .own 2 n), (10, .int .i64 n), (11, .int .i64 t.1)], Hp.upd (fun _ => none) 2 (some ⟨(upto n t.1 f).map IV, 2⟩), t.2, t.2⟩) (fun t => t.1 ≤ n) (fun t => n - t.1) (0, _) (by rw [upto_zero]; rfl) zdo ?_
 rintro ⟨i, nx⟩ i1
 dsimp only at i1
 by_cases hi : i < n
 ·refine sgo ?_
  refine zda (h i hi) (ze4 hc _ _) ?_
  simp -dsimp -implicitDefEqProofs (disch := try exact zdE) only [go_sem, upto_set hi]
  exact ⟨(i + 1, _), rfl, zdo, zdo⟩
 ·have he : i = n := by omega
  subst he
  refine sgo ?_
  rw [zfk fun x => zas _ _ _, upto_all]
  rfl
def sumN (f p : Nat → Int) : Nat → Int
 | 0 => 0
 | n + 1 => sumN f p n + f n * p n
theorem zf1 {f p : Nat → Int} {L : Nat} (h : ∀ i, lim (f i) + lim (p i) ≤ L) : ∀ n, lim (sumN f p n) ≤ L + n
 | 0 => by simp [sumN, zbk]
 | n + 1 => by
  have h1 := zf1 h n
  have h2 := za5 (f n) (p n)
  have h3 := zg8 (sumN f p n) (f n * p n)
  have h4 := h n
  rw [sumN]
  omega
theorem sum_ret (n : Nat) (g : Nat) (caps : List V) (f p : Nat → Int) (hn : n ≤ 1000000) (hc : ∀ v ∈ caps, V.Pure v) (hb : ∀ i, lim (f i) + lim (p i) ≤ 1000000000) (h : ∀ i : Nat, i < n → Ret pg g (.int .i64 i :: caps) (.tup [IV (f i), IV (p i)])) :
  Ret pg n_lin_sum [.int .i64 n, .fn g caps] (IV (sumN f p n)) := by
 refine lin_sum.of rfl (W_b ?_)
 unfold lin_sum.k lin_sum.res Ot kp kd Oy Om OL Oc ci
 simp -dsimp -implicitDefEqProofs (disch := try exact zdE) only [go_sem, ← zdl]
 refine zf0 (T := Nat × Nat) (fun t => ⟨E [(1, .fn g caps), (4, .ptr 0 1 0 0), (5, .ptr 1 1 0 0), (9, .int .i64 n), (10, .int .i64 t.1)], (Hp.upd (fun _ => none) 0 (some ⟨[IV 0], 2⟩)).upd 1 (some ⟨[IV (sumN f p t.1)], 2⟩), t.2, t.2⟩) (fun t => t.1 ≤ n ∧ 1 < t.2) (fun t => n - t.1) (0, _) (Ghost.refl _) ⟨zdo, zdo⟩ ?_
 rintro ⟨i, nx⟩ ⟨i1, i2⟩
 dsimp only at i1 i2
 by_cases hi : i < n
 ·have b1 := hb i
  have b2 := zf1 hb i
  have b3 := za5 (f i) (p i)
  refine sgo ?_
  refine zda (h i hi) (ze4 hc _ _) ?_
  simp -dsimp -implicitDefEqProofs (disch := try exact zdE) only [go_sem, ← zdl]
  refine zaa (zbe _ _ (by omega) (by omega)) (by simp) ?_
  refine sgo ?_
  refine zaa (zb8 _ _ (by omega) (by omega)) (by simp) ?_
  refine sgo ?_
  exact ⟨(i + 1, _), (ghost_drop (by intro b; simp only [Hp.upd]; (repeat' split) <;> first | exact .inl rfl | exact .inr rfl | (exfalso; omega))), ⟨zdo, zdo⟩, zdo⟩
 ·have he : i = n := by omega
  subst he
  exact sgo trivial
theorem list2_ret (n : Nat) (g : Nat) (caps : List V) (f : Nat → List Int) (hn : n ≤ 1000000) (hc : ∀ v ∈ caps, V.Pure v) (h : ∀ i : Nat, i < n → Ret pg g (.int .i64 i :: caps) (ivl (f i))) :
  Ret pg zbm [.int .i64 n, .fn g caps] (.sl ((List.range n).map fun i => ivl (f i))) := by
 refine lin_list_Llong_Int.of rfl (W_b ?_)
 unfold lin_list_Llong_Int.k lin_list_Llong_Int.res Ot kp Oy Om Oi Oc On ci
 refine sgo ?_
 refine za1 (T := Nat × Nat) (fun t => ⟨E [(1, .fn g caps), (5, .own 2 n), (10, .int .i64 n), (11, .int .i64 t.1)], Hp.upd (fun _ => none) 2 (some ⟨els n t.1 (fun k => ivl (f k)), 1⟩), t.2, t.2⟩) (fun t => t.1 ≤ n) (fun t => n - t.1) (0, _) (by rw [els_zero]; rfl) zdo ?_
 rintro ⟨i, nx⟩ i1
 dsimp only at i1
 by_cases hi : i < n
 ·refine sgo ?_
  refine zda (h i hi) (ze4 hc _ _) ?_
  simp -dsimp -implicitDefEqProofs (disch := try exact zdE) only [go_sem, storeO_els (f := fun k => ivl (f k)) hi rfl rfl rfl rfl]
  exact ⟨(i + 1, _), rfl, zdo, zdo⟩
 ·have he : i = n := by omega
  subst he
  refine sgo ?_
  rw [els_all, zfk (f := fun k => ivl (f k)) fun x => rfl]
  rfl
end Go.Gim
/- Matrices: made, turned, their products with lists. -/
set_option maxRecDepth 100000
namespace Go.Gim
open Go.Proofs
def mat (n : Nat) (f : Nat → Nat → Int) : List (List Int) := (List.range n).map fun i => (List.range n).map (f i)
theorem fn_pure {g : Nat} {caps : List V} (hc : ∀ v ∈ caps, V.Pure v) : V.Pure (.fn g caps) := .fn _ _ hc
theorem lmade_ret (n : Nat) (g : Nat) (caps : List V) (f : Nat → Nat → Int) (hn : n ≤ 1000000) (hc : ∀ v ∈ caps, V.Pure v) (h : ∀ i j : Nat, i < n → j < n → Ret pg g (.int .i64 i :: .int .i64 j :: caps) (IV (f i j))) :
  Ret pg n_lin_made [.int .i64 n, .fn g caps] (.sl ((mat n f).map ivl)) := by
 have hp : V.Pure (.fn g caps) := fn_pure hc
 have hP : IsPure (.fn g caps) := ⟨rfl, hp⟩
 have r0 : ∀ i j : Nat, i < n → j < n → Ret pg zf5 [.int .i64 j, .pp (.fn g caps), .pp (.int .i64 i)] (IV (f i j)) := fun i j hi hj => by
  refine lin_made_1_1.of rfl (W_b ?_)
  unfold lin_made_1_1.k lin_made_1_1.res Ot kp Oy Om Ol
  refine sgo ?_
  refine zda (h i j hi hj) (ze4 (ze4 hc _ _) _ _) ?_
  exact sgo trivial
 have r1 : ∀ i : Nat, i < n → Ret pg zhg [.int .i64 i, .pp (.int .i64 n), .pp (.fn g caps)] (ivl ((List.range n).map (f i))) := fun i hi => by
  refine lin_made_1.of rfl (W_b ?_)
  unfold lin_made_1.k lin_made_1.res Ot kp Om Ol
  refine sgo ?_
  refine zab (list_ret n zf5 _ (f i) hn (by simp) fun j hj => r0 i j hi hj) (by simp) ?_
  exact sgo trivial
 refine lin_made.of rfl (W_b ?_)
 unfold lin_made.k lin_made.res Ot kp Om Ol
 refine sgo ?_
 refine zab (list2_ret n zhg _ (fun i => (List.range n).map (f i)) hn (by simp) fun i hi => r1 i hi) (by simp) ?_
 refine sgo ?_
 simp [mat]
def Sq (m : List (List Int)) (n : Nat) : Prop := m.length = n ∧ ∀ r ∈ m, r.length = n
theorem Sq.row {m : List (List Int)} {n i : Nat} (h : Sq m n) (hi : i < n) : (m.getD i []).length = n := h.2 _ (zaz [] (by rw [h.1]; exact hi))
theorem mat_sq (n f) : Sq (mat n f) n := ⟨by simp [mat], fun r hr => by simp only [mat, List.mem_map] at hr; obtain ⟨i, _, rfl⟩ := hr; simp⟩
def at2 (m : List (List Int)) (i j : Nat) : Int := (m.getD i []).getD j 0
theorem mat_at {n f i j} (hi : i < n) (hj : j < n) : at2 (mat n f) i j = f i j := by unfold at2 mat; rw [zbh [] hi, zbh 0 hj]
theorem mat_congr {n : Nat} {f g : Nat → Nat → Int} (h : ∀ i j, i < n → j < n → f i j = g i j) : mat n f = mat n g := by
 refine List.map_congr_left fun i hi => List.map_congr_left fun j hj => h i j (by simpa using hi) (by simpa using hj)
end Go.Gim
/- Matrices: their products with lists, quadratic forms; whether two are the same. -/
set_option maxRecDepth 100000
namespace Go.Gim
open Go.Proofs
def Sm (x : Int) : Prop := lim x ≤ 1000000
def SmL (l : List Int) : Prop := ∀ x ∈ l, Sm x
def SmM (m : List (List Int)) : Prop := ∀ r ∈ m, SmL r
theorem SmL.get {l : List Int} (h : SmL l) (i : Nat) : lim (l.getD i 0) ≤ 1000000 := by
 by_cases hi : i < l.length
 ·exact h _ (zaz 0 hi)
 ·simp [List.getD_eq_getElem?_getD, List.getElem?_eq_none (Nat.le_of_not_lt hi), zbk]
theorem SmM.get {m : List (List Int)} (h : SmM m) (i j : Nat) : lim (at2 m i j) ≤ 1000000 := by
 unfold at2
 by_cases hi : i < m.length
 ·exact SmL.get (h _ (zaz [] hi)) j
 ·simp [List.getD_eq_getElem?_getD, List.getElem?_eq_none (Nat.le_of_not_lt hi), zbk]
def zbn (m : List (List Int)) (x : List Int) (n i : Nat) : Int := sumN (at2 m i) (fun k => x.getD k 0) n
theorem apply_ret (m : List (List Int)) (x : List Int) (n : Nat) (hn : n ≤ 1000) (hm : Sq m n) (hx : x.length = n) (sm : ∀ i j, lim (at2 m i j) ≤ 2000000) (sx : ∀ i, lim (x.getD i 0) ≤ 2000000) :
  Ret pg zfd [.sl (m.map ivl), ivl x] (ivl ((List.range n).map (zbn m x n))) := by
 have hl := hm.1
 have r0 : ∀ i k : Nat, i < n → k < n → Ret pg zdj [.int .i64 k, .pp (.sl (m.map ivl)), .pp (.int .i64 i), .pp (ivl x)] (.tup [IV (at2 m i k), IV (x.getD k 0)]) := fun i k hi hk => by
  have hr := hm.row hi
  refine lin_Mat_Apply_1_1.of rfl (W_b ?_)
  unfold lin_Mat_Apply_1_1.k lin_Mat_Apply_1_1.res Ot kp kd Oy Om
  refine sgo ?_
  rfl
 have r1 : ∀ i : Nat, i < n → Ret pg zd7 [.int .i64 i, .pp (.sl (m.map ivl)), .pp (ivl x)] (IV (zbn m x n i)) := fun i hi => by
  refine lin_Mat_Apply_1.of rfl (W_b ?_)
  unfold lin_Mat_Apply_1.k lin_Mat_Apply_1.res Ot kp Oy Ol On
  simp -dsimp -implicitDefEqProofs (disch := try exact zdE) only [go_sem, hl]
  refine zab (sum_ret n zdj _ (at2 m i) (fun k => x.getD k 0) (by omega) (by simp) (fun k => by have := sm i k; have := sx k; omega) fun k hk => r0 i k hi hk) (by simp) ?_
  refine sgo ?_
  rfl
 refine lin_Mat_Apply.of rfl (W_b ?_)
 unfold lin_Mat_Apply.k lin_Mat_Apply.res Ot kp Om Ol On
 simp -dsimp -implicitDefEqProofs (disch := try exact zdE) only [go_sem, hl]
 refine zab (list_ret n zd7 _ (zbn m x n) (by omega) (by simp) r1) (by simp) ?_
 exact sgo trivial
theorem applyAt_lim {m : List (List Int)} {x : List Int} {n i : Nat} {A B : Nat} (sm : ∀ i j, lim (at2 m i j) ≤ A) (sx : ∀ i, lim (x.getD i 0) ≤ B) : lim (zbn m x n i) ≤ A + B + n :=
 zf1 (L := A + B) (fun k => by have := sm i k; have := sx k; omega) n
def quadV (m : List (List Int)) (x : List Int) (n : Nat) : Int := sumN (fun k => x.getD k 0) (zbn m x n) n
theorem range_getD' {f : Nat → Int} {n : Nat} (i : Nat) : ((List.range n).map f).getD i 0 = if i < n then f i else 0 := by
 by_cases h : i < n
 ·rw [if_pos h, zbh 0 h]
 ·rw [if_neg h]; simp [List.getD_eq_getElem?_getD, h]
theorem lquad_ret (m : List (List Int)) (x : List Int) (n : Nat) (hn : n ≤ 1000) (hm : Sq m n) (hx : x.length = n) (sm : ∀ i j, lim (at2 m i j) ≤ 1000000) (sx : ∀ i, lim (x.getD i 0) ≤ 1000000) :
  Ret pg zhw [.sl (m.map ivl), ivl x] (IV (quadV m x n)) := by
 have hl := hm.1
 have r0 : ∀ k : Nat, k < n → Ret pg zen [.int .i64 k, .pp (ivl x), .pp (ivl ((List.range n).map (zbn m x n)))] (.tup [IV (x.getD k 0), IV (zbn m x n k)]) := fun k hk => by
  have e := zbh (f := zbn m x n) 0 hk
  refine lin_Mat_Quad_1.of rfl (W_b ?_)
  unfold lin_Mat_Quad_1.k lin_Mat_Quad_1.res Ot kp kd Oy Om
  simp -dsimp -implicitDefEqProofs (disch := try exact zdE) only [go_sem, e]
 refine lin_Mat_Quad.of rfl (W_b ?_)
 unfold lin_Mat_Quad.k lin_Mat_Quad.res Ot kp Oy Om Ol On
 refine sgo ?_
 refine zab (apply_ret m x n hn hm hx (fun i j => by have := sm i j; omega) (fun i => by have := sx i; omega)) (by simp) ?_
 simp -dsimp -implicitDefEqProofs (disch := try exact zdE) only [go_sem, hl]
 refine zik 5 [ivl ((List.range n).map (zbn m x n))] (es := 1) rfl (by simp) (by simp [V.sub, fz1, sub_fn]) (sum_ret n zen _ (fun k => x.getD k 0) (zbn m x n) (by omega) (by simp) (fun k => by have := sx k; have := applyAt_lim (n := n) (i := k) sm sx; omega) r0) (by simp) ?_
 refine sgo ?_
 rfl
end Go.Gim
/- Quadratic functions: made of small numbers. -/
set_option maxRecDepth 100000
namespace Go.Gim
open Go.Proofs
def QV (P : List (List Int)) (Q : List Int) (c : Int) : V := .agg [.sl (P.map ivl), ivl Q, .bool (decide (c < 0)), .sl (nats .u32 (digs W32 c.natAbs))]
@[simp] theorem QV_pure (P Q c) : (QV P Q c).Pure := by simp [QV]
theorem sub_QV (g : Nat → Option (List V)) (P Q c) : V.sub g (QV P Q c) = QV P Q c := zct _ (QV_pure P Q c)
attribute [go_sem] sub_QV
theorem QV_cells (P Q c) : (QV P Q c).cells = [.sl (P.map ivl), ivl Q, .bool (decide (c < 0)), .sl (nats .u32 (digs W32 c.natAbs))] := rfl
theorem QV_isAgg (P Q c) : (QV P Q c).isAgg = true := rfl
@[simp] theorem QV_isJunk (P Q c) : (QV P Q c).isJunk = false := rfl
theorem part_QV (P Q c) : V.part (QV P Q c) 0 4 true = some (QV P Q c) := rfl
theorem frz_QV (H : Hp) (n : Nat) (P Q c) : frz H (n + 2) (QV P Q c) = some (QV P Q c) := rfl
attribute [go_sem] QV_cells QV_isAgg QV_isJunk part_QV frz_QV
theorem Sq.sm {m : List (List Int)} (h : ∀ r ∈ m, ∀ v ∈ r, In64 v) (i j : Nat) : lim (at2 m i j) ≤ 2 := by
 unfold at2
 by_cases hi : i < m.length
 ·by_cases hj : j < (m.getD i []).length
  ·exact zar (h _ (zaz [] hi) _ (zaz 0 hj))
  ·rw [show (m.getD i []).getD j 0 = 0 by rw [List.getD_eq_getElem?_getD, List.getElem?_eq_none (by omega)]; rfl, zbk]; omega
 ·rw [show (m.getD i []) = [] by rw [List.getD_eq_getElem?_getD, List.getElem?_eq_none (by omega)]; rfl]
  simp [zbk]
theorem lim_at_mat {n : Nat} {f : Nat → Nat → Int} {A : Nat} (h : ∀ i j, lim (f i j) ≤ A) (i j : Nat) : lim (at2 (mat n f) i j) ≤ A := by
 by_cases hi : i < n
 ·by_cases hj : j < n
  ·rw [mat_at hi hj]; exact h i j
  ·unfold at2 mat; rw [zbh [] hi, range_getD', if_neg hj, zbk]; omega
 ·unfold at2 mat
  rw [show ((List.range n).map fun i => (List.range n).map (f i)).getD i [] = [] by rw [List.getD_eq_getElem?_getD, List.getElem?_eq_none (by simp; omega)]; rfl]
  simp [zbk]
end Go.Gim
/- Quadratic functions: values, how steep they are. -/
set_option maxRecDepth 100000
namespace Go.Gim
open Go.Proofs
theorem qdot_ret (x y : List Int) (hl : x.length ≤ 1000) (hy : x.length ≤ y.length) (sx : ∀ i, lim (x.getD i 0) ≤ 2000000) (sy : ∀ i, lim (y.getD i 0) ≤ 2000000) : Ret pg n_quad_dot [ivl x, ivl y] (IV (sumN (fun k => x.getD k 0) (fun k => y.getD k 0) x.length)) := by
 refine quad_dot.of rfl (W_b ?_)
 unfold quad_dot.k quad_dot.res Ot kp kd Oy Om OL Oi Oc On ci
 simp -dsimp -implicitDefEqProofs (disch := try exact zdE) only [go_sem, ← zdl]
 refine za1 (T := Nat × Nat) (fun t => ⟨E [(0, ivl x), (1, ivl y), (4, .ptr 0 1 0 0), (5, .ptr 1 1 0 0), (8, .int .i64 x.length), (9, .int .i64 t.1)], (Hp.upd (fun _ => none) 0 (some ⟨[IV 0], 2⟩)).upd 1 (some ⟨[IV (sumN (fun k => x.getD k 0) (fun k => y.getD k 0) t.1)], 2⟩), t.2, t.2⟩) (fun t => t.1 ≤ x.length ∧ 1 < t.2) (fun t => x.length - t.1) (0, _) rfl ⟨zdo, zdo⟩ ?_
 rintro ⟨i, nx⟩ ⟨i1, i2⟩
 dsimp only at i1 i2
 by_cases hi : i < x.length
 ·have b1 := sx i
  have b2 := sy i
  have b3 := za5 (x.getD i 0) (y.getD i 0)
  have b4 := zf1 (f := fun k => x.getD k 0) (p := fun k => y.getD k 0) (L := 4000000) (fun k => by have := sx k; have := sy k; omega) i
  refine sgo ?_
  refine zaa (zbe _ _ (by omega) (by omega)) (by simp) ?_
  refine sgo ?_
  refine zaa (zb8 _ _ (by omega) (by omega)) (by simp) ?_
  refine sgo ?_
  exact ⟨(i + 1, _), rfl, ⟨zdo, zdo⟩, zdo⟩
 ·have he : i = x.length := by omega
  subst he
  exact sgo trivial
theorem qless_ret (x y : List Int) (hl : x.length ≤ 1000) (hy : x.length ≤ y.length) (sx : ∀ i, lim (x.getD i 0) ≤ 4000000) (sy : ∀ i, lim (y.getD i 0) ≤ 4000000) : Ret pg n_quad_less [ivl x, ivl y] (ivl ((List.range x.length).map fun k => x.getD k 0 - y.getD k 0)) := by
 refine quad_less.of rfl (W_b ?_)
 unfold quad_less.k quad_less.res Ot kp kd Oy Om OL Oi Oc On ci
 refine sgo ?_
 refine za1 (T := Nat × Nat) (fun t => ⟨E [(0, ivl x), (1, ivl y), (5, .own 3 x.length), (11, .int .i64 x.length), (12, .int .i64 t.1)], Hp.upd (fun _ => none) 3 (some ⟨(upto x.length t.1 fun k => x.getD k 0 - y.getD k 0).map IV, 2⟩), t.2, t.2⟩) (fun t => t.1 ≤ x.length ∧ 3 < t.2) (fun t => x.length - t.1) (0, _) (by rw [upto_zero]; rfl) ⟨zdo, zdo⟩ ?_
 rintro ⟨i, nx⟩ ⟨i1, i2⟩
 dsimp only at i1 i2
 by_cases hi : i < x.length
 ·have b1 := sx i
  have b2 := sy i
  refine sgo ?_
  refine zaa (sub_ret _ _ (by omega) (by omega)) (by simp) ?_
  simp -dsimp -implicitDefEqProofs (disch := try exact zdE) only [go_sem, upto_set (f := fun k => x.getD k 0 - y.getD k 0) hi]
  exact ⟨(i + 1, _), rfl, ⟨zdo, zdo⟩, zdo⟩
 ·have he : i = x.length := by omega
  subst he
  refine sgo ?_
  rw [zfk fun x => zas _ _ _, upto_all]
  rfl
def qval (P : List (List Int)) (Q : List Int) (c : Int) (x : List Int) : Int := quadV P x P.length - sumN (fun k => Q.getD k 0) (fun k => x.getD k 0) Q.length * 2 + c
theorem qvalue_ret (P : List (List Int)) (Q x : List Int) (c : Int) (n : Nat) (hn : n ≤ 1000) (hP : Sq P n) (hQ : Q.length = n) (hx : x.length = n) (sP : ∀ i j, lim (at2 P i j) ≤ 1000000) (sQ : ∀ i, lim (Q.getD i 0) ≤ 1000000) (sc : lim c ≤ 1000000) (sx : ∀ i, lim (x.getD i 0) ≤ 1000000) :
  Ret pg zft [QV P Q c, ivl x] (IV (qval P Q c x)) := by
 have l0 := zf1 (f := fun k => x.getD k 0) (p := zbn P x n) (L := 3001000) (fun k => by have := sx k; have := applyAt_lim (n := n) (i := k) sP sx; omega) n
 have l1 := zf1 (f := fun k => Q.getD k 0) (p := fun k => x.getD k 0) (L := 2000000) (fun k => by have := sx k; have := sQ k; omega) n
 have hPl := hP.1
 unfold qval quadV
 rw [hPl, hQ]
 refine quad_Quad_Value.of rfl (W_b ?_)
 unfold quad_Quad_Value.k quad_Quad_Value.res Ot kp kd Oy Om Ol OL Oq ci
 refine sgo ?_
 refine zaa (lquad_ret P x n hn hP hx sP sx) (by simp) ?_
 refine sgo ?_
 refine zaa (qdot_ret Q x (by omega) (by omega) (fun i => by have := sQ i; omega) (fun i => by have := sx i; omega)) (by simp) ?_
 refine sgo ?_
 refine zaa (zbf 2 (by omega)) (by simp) ?_
 simp -dsimp -implicitDefEqProofs (disch := try exact zdE) only [go_sem, hQ]
 unfold quadV
 generalize sumN (fun k => x.getD k 0) (zbn P x n) n = A at *
 generalize sumN (fun k => Q.getD k 0) (fun k => x.getD k 0) n = B at *
 have l2 := za5 B 2
 have l3 := zar (x := 2) (by omega)
 have l4 := lim_sub A (B * 2)
 refine zaa (zbe _ _ (by omega) (by omega)) (by simp) ?_
 refine sgo ?_
 refine zaa (sub_ret _ _ (by omega) (by omega)) (by simp) ?_
 refine sgo ?_
 refine zaa (zb8 _ _ (by omega) (by omega)) (by simp) ?_
 exact sgo trivial
theorem qslope_ret (P : List (List Int)) (Q x : List Int) (c : Int) (n : Nat) (hn : n ≤ 1000) (hP : Sq P n) (hQ : Q.length = n) (hx : x.length = n) (sP : ∀ i j, lim (at2 P i j) ≤ 1000000) (sQ : ∀ i, lim (Q.getD i 0) ≤ 1000000) (sx : ∀ i, lim (x.getD i 0) ≤ 1000000) :
  Ret pg zfu [QV P Q c, ivl x] (ivl ((List.range n).map fun k => zbn P x n k - Q.getD k 0)) := by
 have hle := qless_ret ((List.range n).map (zbn P x n)) Q (by simp; omega) (by simp; omega) (fun i => by
  rw [range_getD']; split
  ·have := applyAt_lim (n := n) (i := i) sP sx; omega
  ·rw [zbk]; omega) (fun i => by have := sQ i; omega)
 have he : (List.range ((List.range n).map (zbn P x n)).length).map (fun k => ((List.range n).map (zbn P x n)).getD k 0 - Q.getD k 0) = (List.range n).map fun k => zbn P x n k - Q.getD k 0 := by
  rw [List.length_map, List.length_range]
  exact List.map_congr_left fun k hk => by rw [zbh 0 (by simpa using hk)]
 rw [he] at hle
 refine quad_Quad_Slope.of rfl (W_b ?_)
 unfold quad_Quad_Slope.k quad_Quad_Slope.res Ot kp kd Om Ol Oq
 refine sgo ?_
 refine zaa (apply_ret P x n hn hP hx (fun i j => by have := sP i j; omega) (fun i => by have := sx i; omega)) (by simp) ?_
 refine sgo ?_
 refine zaa hle (by simp) ?_
 exact sgo trivial
end Go.Gim
/- Mirrored rows: what they are. -/
set_option maxRecDepth 100000
set_option maxHeartbeats 4000000
namespace Go.Gim
open Go.Proofs
theorem at2_in {rows : List (List Int)} (h : ∀ r ∈ rows, ∀ v ∈ r, In64 v) (i j : Nat) : In64 (at2 rows i j) := by
 unfold at2
 by_cases hi : i < rows.length
 ·by_cases hj : j < (rows.getD i []).length
  ·exact h _ (zaz [] hi) _ (zaz 0 hj)
  ·rw [show (rows.getD i []).getD j 0 = 0 by rw [List.getD_eq_getElem?_getD, List.getElem?_eq_none (by omega)]; rfl]; omega
 ·rw [show (rows.getD i []) = [] by rw [List.getD_eq_getElem?_getD, List.getElem?_eq_none (by omega)]; rfl]; simp [In64]
end Go.Gim

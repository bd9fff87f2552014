import Derived.Test.YtjkjpjneeioeiaaGreatSM0
import Derived.Test.YtjkjpjneeioeiaaGreatLI4
set_option linter.unusedSimpArgs false
set_option linter.unusedVariables false
/- Graphs: made of rows. -/
set_option maxRecDepth 100000
namespace Go.Gim
open Go.Proofs
structure Gr where
 n : Nat
 rows : List Row4
 P : List (List Int)
 Q : List Int
 c : Int
 den : Int
def GV (g : Gr) : V := .agg [.int .i64 g.n, .sl (g.rows.map RV), .sl (g.P.map ivl), ivl g.Q, .bool (decide (g.c < 0)), .sl (nats .u32 (digs W32 g.c.natAbs)), .bool (decide (g.den < 0)), .sl (nats .u32 (digs W32 g.den.natAbs))]
@[simp] theorem GV_pure (g) : (GV g).Pure := by simp [GV]
theorem sub_GV (g : Nat → Option (List V)) (x : Gr) : V.sub g (GV x) = GV x := zcf _ (GV_pure x)
attribute [go_sem] sub_GV
theorem GV_cells (g) : (GV g).cells = [.int .i64 g.n, .sl (g.rows.map RV), .sl (g.P.map ivl), ivl g.Q, .bool (decide (g.c < 0)), .sl (nats .u32 (digs W32 g.c.natAbs)), .bool (decide (g.den < 0)), .sl (nats .u32 (digs W32 g.den.natAbs))] := rfl
theorem GV_isAgg (g) : (GV g).isAgg = true := rfl
@[simp] theorem GV_isJunk (g) : (GV g).isJunk = false := rfl
theorem part_GV (g) : V.part (GV g) 0 8 true = some (GV g) := rfl
theorem frz_GV (H : Hp) (n : Nat) (g) : frz H (n + 2) (GV g) = some (GV g) := rfl
attribute [go_sem] GV_cells GV_isAgg GV_isJunk part_GV frz_GV
def Gr0 : Gr := ⟨0, [], [], [], 0, 0⟩
theorem Gr0_eq : GV Gr0 = .agg [.int .i64 0, .sl [], .sl [], .sl [], .bool false, .sl [], .bool false, .sl []] := by
 unfold GV Gr0
 dsimp only
 rw [show (0 : Int).natAbs = 0 from rfl, zav]; rfl
theorem index_ret (rows : List Row4) (g : Nat) (caps : List V) (f : Row4 → Bool) (hn : rows.length ≤ 9223372036854775807) (hc : ∀ v ∈ caps, V.Pure v) (h : ∀ r ∈ rows, Ret pg g (RV r :: caps) (.bool (f r))) :
  ∃ k : Int, Ret pg zbu [.sl (rows.map RV), .fn g caps] (.int .i64 k) ∧ decide (0 ≤ k) = rows.any f := by
 refine ⟨if rows.any f then rows.findIdx f else -1, ?_, ?_⟩
 ·refine slices_IndexFunc_Lapi_Row_api_Row.of rfl (W_b ?_)
  unfold slices_IndexFunc_Lapi_Row_api_Row.k slices_IndexFunc_Lapi_Row_api_Row.res Ot kp Om OL Oi Oc On ci
  refine sgo ?_
  refine zap (T := Nat × Nat) (fun t => ⟨E [(0, .sl (rows.map RV)), (1, .fn g caps), (7, .int .i64 rows.length), (8, .int .i64 t.1)], fun _ => none, t.2, t.2⟩) (fun t => t.1 ≤ rows.length ∧ ∀ j, (hj : j < rows.length) → j < t.1 → f rows[j] = false) (fun t => rows.length - t.1) (0, _) rfl ⟨zdo, fun j _ h => by dsimp only at h; omega⟩ ?_
  rintro ⟨i, nx⟩ ⟨i1, i2⟩
  dsimp only at i1 i2
  by_cases hi : i < rows.length
  ·have hm := zau default hi
   have he : rows.getD i default = rows[i] := by simp [List.getD_eq_getElem?_getD, hi]
   have hg := h _ hm
   rw [he] at hg
   simp -dsimp -implicitDefEqProofs (disch := try exact zdE) only [go_sem, he]
   refine zgq hg (by simpa using hc) ?_
   cases hf : f rows[i]
   ·refine sgo ?_
    exact ⟨(i + 1, _), rfl, ⟨zdo, fun j hj hji => by dsimp only at hji; by_cases hje : j = i; (subst hje; exact hf); exact i2 j hj (by omega)⟩, zdo⟩
   ·have ha : rows.any f = true := List.any_eq_true.2 ⟨_, List.getElem_mem hi, hf⟩
    have hx : rows.findIdx f = i := (List.findIdx_eq hi).2 ⟨hf, fun j hj => i2 j (by omega) hj⟩
    rw [ha, if_pos rfl, hx]
    exact sgo trivial
  ·have ha : rows.any f = false := List.any_eq_false.2 fun r hr => by
    obtain ⟨j, hj, rfl⟩ := List.mem_iff_getElem.1 hr
    simp [i2 j hj (by omega)]
   rw [ha]
   exact sgo trivial
 ·cases rows.any f <;> simp
theorem gmade_ret (gr : Gr) (g : Nat) (caps : List V) (f : Nat → Nat → Int) (hn : gr.n ≤ 1000000) (hc : ∀ v ∈ caps, V.Pure v) (h : ∀ i j : Nat, i < gr.n → j < gr.n → Ret pg g (.int .i64 i :: .int .i64 j :: caps) (IV (f i j))) :
  Ret pg zd6 [GV gr, .fn g caps] (.sl ((mat gr.n f).map ivl)) := by
 refine graph_Graph_made.of rfl (W_b ?_)
 unfold graph_Graph_made.k graph_Graph_made.res Ot kp Om Ol Oq Oc ci
 have hp : V.Pure (.fn g caps) := fn_pure hc
 have hrow : ∀ k, ∀ x ∈ (List.range k).map (fun i => ivl ((List.range gr.n).map (f i))), V.Pure x := fun k => za3 fun x => by simp
 refine sgo ?_
 refine zap (T := Nat × V × Hp × Nat) (fun t => ⟨E [(1, .fn g caps), (2, .pp (GV gr)), (5, t.2.1), (10, .int .i64 gr.n), (11, .int .i64 t.1)], t.2.2.1, t.2.2.2, t.2.2.2⟩)
  (fun t => t.1 ≤ gr.n ∧ Row 0 t.2.2.1 t.2.2.2 t.2.1 1 ((List.range t.1).map fun i => ivl ((List.range gr.n).map (f i)))) (fun t => gr.n - t.1) (0, .nil, _, _) rfl ⟨zdo, Row.nil _ _ _ _⟩ ?_
 rintro ⟨i, w, H, nx⟩ ⟨i1, i2⟩
 dsimp only at i1 i2
 by_cases hi : i < gr.n
 ·refine sgo ?_
  refine zap (T := Nat × V × Hp × Nat) (fun t => ⟨E [(1, .fn g caps), (2, .pp (GV gr)), (5, w), (6, .int .i64 i), (7, t.2.1), (10, .int .i64 gr.n), (11, .int .i64 i), (15, .int .i64 gr.n), (16, .int .i64 t.1)], t.2.2.1, t.2.2.2, t.2.2.2⟩)
   (fun t => t.1 ≤ gr.n ∧ nx ≤ t.2.2.2 ∧ (∀ b, b < nx → t.2.2.1 b = H b) ∧ Row nx t.2.2.1 t.2.2.2 t.2.1 2 (((List.range t.1).map (f i)).map IV)) (fun t => gr.n - t.1) (0, .nil, H, _) rfl ⟨zdo, zdo, fun _ _ => rfl, Row.nil _ _ _ _⟩ ?_
  rintro ⟨j, u, H', nx'⟩ ⟨j1, j2, j3, j4⟩
  dsimp only at j1 j2 j3 j4
  by_cases hj : j < gr.n
  ·refine sgo ?_
   refine zgq (h i j hi hj) (zg3 (zg3 hc _ _) _ _) ?_
   refine sgo ?_
   refine zaq (lo := nx) (nx := nx') (H0 := H') (xs := ((List.range j).map (f i)).map IV) j4 (by omega) rfl (by omega) (by omega) (by simp [rowOk, V.cells, V.cellOk, IV]) (by decide) (by simp; omega) (by simp; omega) fun v2 H2 r1 _ _ r4 => ?_
   rw [zc3, zat] at r1
   refine sgo ?_
   exact ⟨(j + 1, v2, H2, _), rfl, ⟨zdo, zdo, fun b hb => (r4 b hb).trans (j3 b hb), r1.same (fun _ _ => rfl) zdo⟩, zdo⟩
  ·have hje : j = gr.n := by omega
   subst hje
   obtain ⟨c, rfl, c1, c2, c3⟩ := j4.own_of (by simp; omega)
   have i3 : Row 0 H' nx' w 1 ((List.range i).map fun i => ivl ((List.range gr.n).map (f i))) := i2.same j3 j2
   have hwc : ∀ n, w ≠ .own c n := fun n e => by
    rcases i2 with ⟨rfl, _⟩ | ⟨b, rfl, _, hb, _⟩
    ·cases e
    ·cases e; omega
   obtain ⟨i4, i5⟩ := i3.sub (ys := ((List.range gr.n).map (f i)).map IV) (hrow i) hwc
   have hfs := zcf (fz1 c (((List.range gr.n).map (f i)).map IV)) hp
   refine sgo ?_
   have e7 : V.sl (((List.range gr.n).map (f i)).map IV) = ivl ((List.range gr.n).map (f i)) := rfl
   refine gh_fz1 c (((List.range gr.n).map (f i)).map IV) c3 (za3 fun x => by simp) (by simp only [List.map_cons, List.map_nil, hfs, i5, V.sub, fz1, if_true]; rfl) ?_
   simp -dsimp -implicitDefEqProofs (disch := try exact zdE) only [go_sem, e7]
   refine zaq (lo := 0) (nx := nx') (H0 := Hp.sub (fz1 c (((List.range gr.n).map (f i)).map IV)) H') (xs := (List.range i).map fun i => ivl ((List.range gr.n).map (f i))) i4 (by omega) rfl (by omega) (by omega) (by simp [rowOk, V.cells, V.cellOk, ivl]) (by decide) (by simp; omega) (by simp; omega) fun v2 H2 r1 _ _ r4 => ?_
   rw [zat (fun i => ivl ((List.range gr.n).map (f i)))] at r1
   refine sgo ?_
   exact ⟨(i + 1, v2, H2, _), rfl, ⟨zdo, r1.same (fun _ _ => rfl) zdo⟩, zdo⟩
 ·have hie : i = gr.n := by omega
  subst hie
  refine sgo ?_
  rw [i2.frz (zdb fun x => rfl)]
  simp only [mat, List.map_map]
  rfl
def gnewE (n : Int) (rows : List Row4) : Int := if n < 1 ∨ 11 < n then 1 else if 60 < rows.length then 3 else if rows.any (fun r => !zg2 r n) then 160 else 0
theorem gnew_ret (n : Int) (rows : List Row4) (hl : rows.length ≤ 9223372036854775807) (hr : ∀ r ∈ rows, r.co.length ≤ 9223372036854775807) :
  Ret pg zg8 [.int .i64 n, .sl (rows.map RV)] (.tup [GV (if gnewE n rows = 0 then ⟨n.toNat, rows, mat n.toNat (fun _ _ => 0), List.replicate n.toNat 0, 0, 1⟩ else Gr0), .int .i64 (gnewE n rows)]) := by
 refine graph_New.of rfl (W_b ?_)
 unfold graph_New.k graph_New.res Ot kp kd Og Oy Om Ol OL Oq Oc On ci
 by_cases h1 : n < 1 ∨ 11 < n
 ·have e : gnewE n rows = 1 := by unfold gnewE; rw [if_pos h1]
  rw [e, if_neg (by decide), Gr0_eq]
  rcases h1 with h1 | h1
  ·exact sgo trivial
   done
  ·by_cases h2 : n < 1
   ·omega
   ·exact sgo trivial
    done
 ·have h2 : 1 ≤ n ∧ n ≤ 11 := by omega
  by_cases h3 : 60 < rows.length
  ·have e : gnewE n rows = 3 := by unfold gnewE; rw [if_neg h1, if_pos h3]
   rw [e, if_neg (by decide), Gr0_eq]
   exact sgo trivial
   done
  ·obtain ⟨m, rfl⟩ : ∃ m : Nat, n = m := ⟨n.toNat, by omega⟩
   have r1 : ∀ r ∈ rows, Ret pg zfh [RV r, .pp (.int .i64 m)] (.bool (!zg2 r m)) := fun r hrr => by
    have := hr r hrr
    refine graph_New_1.of rfl (W_b ?_)
    unfold graph_New_1.k graph_New_1.res Ot kp Om Ol OL
    refine sgo ?_
    refine zaa (right_ret r m (by omega)) (by simp) ?_
    exact sgo trivial
   obtain ⟨k, hk, hk2⟩ := index_ret rows zfh [.pp (.int .i64 m)] (fun r => !zg2 r m) hl (by simp) r1
   have hc : Ret pg zbn [.sl (rows.map RV), .fn zfh [.pp (.int .i64 m)]] (.bool (rows.any fun r => !zg2 r m)) := by
    refine slices_ContainsFunc_Lapi_Row_api_Row.of rfl (W_b ?_)
    unfold slices_ContainsFunc_Lapi_Row_api_Row.k slices_ContainsFunc_Lapi_Row_api_Row.res Ot kp Om ci
    refine sgo ?_
    refine zaa hk (by simp) ?_
    simp -dsimp -implicitDefEqProofs (disch := try exact zdE) only [go_sem, hk2]
   refine sgo ?_
   refine zaa hc (by simp) ?_
   cases ha : rows.any fun r => !zg2 r m
   ·have e : gnewE m rows = 0 := by unfold gnewE; rw [if_neg h1, if_neg h3, ha]; rfl
    rw [e, if_pos rfl]
    refine sgo ?_
    refine zab (zcm 1 (by omega)) (by simp) ?_
    refine sgo ?_
    have r2 : ∀ i j : Nat, i < m → j < m → Ret pg zfg [.int .i64 i, .int .i64 j] (IV 0) := fun i j _ _ => by
     refine graph_New_2.of rfl (W_b ?_)
     unfold graph_New_2.k graph_New_2.res Ot kp Oy
     refine sgo ?_
     rw [ze1]
    have z := zav W32
    have hm : Ret pg zd6 [.agg [.int .i64 m, .sl (rows.map RV), .nil, .sl ((List.replicate m 0).map IV), .bool false, .sl [], .bool false, .sl (nats .u32 (digs W32 (Int.natAbs 1)))], .fn zfg []] (.sl ((mat m fun _ _ => 0).map ivl)) :=
     (gmade_ret ⟨m, rows, [], List.replicate m 0, 0, 1⟩ zfg [] (fun _ _ => 0) zdo (by simp) r2).nn (by
      simp only [List.map_cons, List.map_nil, V.nn, V.nn0, GV]
      rw [show (0 : Int).natAbs = 0 from rfl, z]
      rfl)
    refine zfq (fz1 25 ((List.replicate m 0).map IV)) (fz1_ok (es := 2) rfl (za3 fun x => by simp)) (by simp -dsimp -implicitDefEqProofs (disch := try exact zdE) only [go_sem]) hm (by simp) ?_
    refine sgo ?_
    simp only [GV]
    rw [show (0 : Int).natAbs = 0 from rfl, z]
    rfl
   ·have e : gnewE m rows = 160 := by unfold gnewE; rw [if_neg h1, if_neg h3, ha]; rfl
    rw [e, if_neg (by decide), Gr0_eq]
    exact sgo trivial
end Go.Gim
/- Graphs: with a prior; how the cost bends. -/
set_option maxRecDepth 100000
namespace Go.Gim
open Go.Proofs
theorem tdiv_pos {a b : Int} (ha : 0 ≤ a) (hb : 0 < b) : a.tdiv b = a / b := Int.tdiv_eq_ediv_of_nonneg ha
theorem quoI {a b : Int} (ha : 0 ≤ a) (hb : 0 < b) (h : a ≤ 9223372036854775807) : binV .quo (.int .i64 a) (.int .i64 b) = some (.int .i64 (a / b)) := by
 have h1 : a / b ≤ a := Int.ediv_le_self b ha
 have h2 : 0 ≤ a / b := Int.ediv_nonneg ha (by omega)
 rw [binV_quo, if_neg (by omega), tdiv_pos ha hb, IntWalk.i64_in _ (by omega)]
def absR (r : Row4) (x : List Int) : Int := max (zhb r x) (-zhb r x)
def zd3 (r : Row4) (x : List Int) : Int := if absR r x ≤ r.kn then 1024 else max 1 (1024 * r.kn / absR r x)
theorem shareR_bd {r : Row4} {x : List Int} (h : 1 ≤ r.kn ∧ r.kn ≤ 32768) : 1 ≤ zd3 r x ∧ zd3 r x ≤ 1024 := by
 unfold zd3
 split
 ·omega
 ·rename_i hk
  have : 1024 * r.kn / absR r x ≤ 1024 := by
   refine Int.ediv_le_of_le_mul (by omega) ?_
   exact Int.mul_le_mul_of_nonneg_left (by omega) (by omega)
  omega
theorem share_ret (g : Gr) (r : Row4) (x : List Int) (hr : Right4 r x.length) (hx : State x) : Ret pg zew [GV g, RV r, ints x] (.int .i64 (zd3 r x)) := by
 have hb := residR_bd r x
 have hk := hr.kn
 have ha : 0 ≤ absR r x ∧ absR r x ≤ 1000000000 := by unfold absR; omega
 refine graph_Graph_Share.of rfl (W_b ?_)
 unfold graph_Graph_Share.k graph_Graph_Share.res Ot kp Om Ol OL Oq Oc ci
 refine sgo ?_
 refine zaa (resid_ret r x hr hx) (by simp) ?_
 have e : max (zhb r x) (0 - zhb r x) = absR r x := by unfold absR; omega
 simp -dsimp -implicitDefEqProofs (disch := try exact zdE) only [go_sem, e]
 unfold zd3
 by_cases h : absR r x ≤ r.kn
 ·rw [if_pos h]
  exact sgo trivial
 ·have hq := quoI (a := 1024 * r.kn) (b := absR r x) (by omega) (by omega) (by omega)
  rw [if_neg h]
  simp -dsimp -implicitDefEqProofs (disch := try exact zdE) only [go_sem, hq]
theorem with_ret (g : Gr) (P : List (List Int)) (Q : List Int) (c den : Int) (hn : g.n ≤ 1000) (hP : P.length ≤ 1099511627776) (hQ : Q.length ≤ 1099511627776) (hd : lim den ≤ 1000000) :
  Ret pg zfi [GV g, QV P Q c, IV den] (.tup [GV (if P.length = g.n ∧ Q.length = g.n ∧ 0 < den then { g with P := P, Q := Q, c := c, den := den } else Gr0), .int .i64 (if P.length = g.n ∧ Q.length = g.n ∧ 0 < den then 0 else 1)]) := by
 refine graph_Graph_With.of rfl (W_b ?_)
 unfold graph_Graph_With.k graph_Graph_With.res Ot kp kd Og Oy Om Ol OL Oq Oc On ci
 by_cases h1 : P.length = g.n
 ·by_cases h2 : Q.length = g.n
  ·simp -dsimp -implicitDefEqProofs (disch := try exact zdE) only [go_sem, h1, h2]
   refine zaa (sign_ret den (by omega)) (by simp) ?_
   by_cases h3 : 0 < den
   ·have hs : den.sign = 1 := Int.sign_eq_one_of_pos h3
    rw [if_pos ⟨h1, h2, h3⟩, if_pos ⟨h1, h2, h3⟩]
    have hd0 : decide (den < 0) = false := decide_eq_false (by omega)
    simp -dsimp -implicitDefEqProofs (disch := try exact zdE) only [go_sem, hs]
    simp only [GV, hd0]
   ·have hs : den.sign ≤ 0 := by rcases Int.lt_trichotomy den 0 with h | h | h; (rw [Int.sign_eq_neg_one_of_neg h]; omega); (rw [h]; simp); omega
    rw [if_neg (fun h => h3 h.2.2), if_neg (fun h => h3 h.2.2), Gr0_eq]
    exact sgo trivial
  ·rw [if_neg (fun h => h2 h.2.1), if_neg (fun h => h2 h.2.1), Gr0_eq]
   simp -dsimp -implicitDefEqProofs (disch := try exact zdE) only [go_sem, h1]
 ·rw [if_neg (fun h => h1 h.1), if_neg (fun h => h1 h.1), Gr0_eq]
  exact sgo trivial
end Go.Gim

import Derived.Test.YtjmbcnfhonfpkaaGreatDoorSM0
import Derived.Test.YtjmbcnfhonfpkaaGreatDoorLI4
set_option linter.unusedSimpArgs false
set_option linter.unusedVariables false
/- Graphs: made of rows. -/
set_option maxRecDepth 100000
namespace Go.Gim
open Go.Proofs
structure Gr where
 n : Nat
 rows : List Row4
 P : List (List Int)
 Q : List Int
 c : Int
 den : Int
def GV (g : Gr) : V := .agg [.int .i64 g.n, .sl (g.rows.map RV), .sl (g.P.map ivl), ivl g.Q, .bool (decide (g.c < 0)), .sl (nats .u32 (digs W32 g.c.natAbs)), .bool (decide (g.den < 0)), .sl (nats .u32 (digs W32 g.den.natAbs))]
@[simp] theorem GV_pure (g) : (GV g).Pure := by simp [GV]
theorem sub_GV (g : Nat → Option (List V)) (x : Gr) : V.sub g (GV x) = GV x := zct _ (GV_pure x)
attribute [go_sem] sub_GV
theorem GV_cells (g) : (GV g).cells = [.int .i64 g.n, .sl (g.rows.map RV), .sl (g.P.map ivl), ivl g.Q, .bool (decide (g.c < 0)), .sl (nats .u32 (digs W32 g.c.natAbs)), .bool (decide (g.den < 0)), .sl (nats .u32 (digs W32 g.den.natAbs))] := rfl
theorem GV_isAgg (g) : (GV g).isAgg = true := rfl
@[simp] theorem GV_isJunk (g) : (GV g).isJunk = false := rfl
theorem part_GV (g) : V.part (GV g) 0 8 true = some (GV g) := rfl
theorem frz_GV (H : Hp) (n : Nat) (g) : frz H (n + 2) (GV g) = some (GV g) := rfl
attribute [go_sem] GV_cells GV_isAgg GV_isJunk part_GV frz_GV
def Gr0 : Gr := ⟨0, [], [], [], 0, 0⟩
theorem Gr0_eq : GV Gr0 = .agg [.int .i64 0, .sl [], .sl [], .sl [], .bool false, .sl [], .bool false, .sl []] := by
 unfold GV Gr0
 dsimp only
 rw [show (0 : Int).natAbs = 0 from rfl, zdm]; rfl
theorem index_ret (rows : List Row4) (g : Nat) (caps : List V) (f : Row4 → Bool) (hn : rows.length ≤ 9223372036854775807) (hc : ∀ v ∈ caps, V.Pure v) (h : ∀ r ∈ rows, Ret pg g (RV r :: caps) (.bool (f r))) :
  ∃ k : Int, Ret pg zbs [.sl (rows.map RV), .fn g caps] (.int .i64 k) ∧ decide (0 ≤ k) = rows.any f := by
 refine ⟨if rows.any f then rows.findIdx f else -1, ?_, ?_⟩
 ·refine slices_IndexFunc_Lapi_Row_api_Row.of rfl (W_b ?_)
  unfold slices_IndexFunc_Lapi_Row_api_Row.k slices_IndexFunc_Lapi_Row_api_Row.res Ot kp Om OL Oi Oc On ci
  refine sgo ?_
  refine za1 (T := Nat × Nat) (fun t => ⟨E [(0, .sl (rows.map RV)), (1, .fn g caps), (7, .int .i64 rows.length), (8, .int .i64 t.1)], fun _ => none, t.2, t.2⟩) (fun t => t.1 ≤ rows.length ∧ ∀ j, (hj : j < rows.length) → j < t.1 → f rows[j] = false) (fun t => rows.length - t.1) (0, _) rfl ⟨zdo, fun j _ h => by dsimp only at h; omega⟩ ?_
  rintro ⟨i, nx⟩ ⟨i1, i2⟩
  dsimp only at i1 i2
  by_cases hi : i < rows.length
  ·have hm := zaz default hi
   have he : rows.getD i default = rows[i] := by simp [List.getD_eq_getElem?_getD, hi]
   have hg := h _ hm
   rw [he] at hg
   simp -dsimp -implicitDefEqProofs (disch := try exact zdE) only [go_sem, he]
   refine zda hg (by simpa using hc) ?_
   cases hf : f rows[i]
   ·refine sgo ?_
    exact ⟨(i + 1, _), rfl, ⟨zdo, fun j hj hji => by dsimp only at hji; by_cases hje : j = i; (subst hje; exact hf); exact i2 j hj (by omega)⟩, zdo⟩
   ·have ha : rows.any f = true := List.any_eq_true.2 ⟨_, List.getElem_mem hi, hf⟩
    have hx : rows.findIdx f = i := (List.findIdx_eq hi).2 ⟨hf, fun j hj => i2 j (by omega) hj⟩
    rw [ha, if_pos rfl, hx]
    exact sgo trivial
  ·have ha : rows.any f = false := List.any_eq_false.2 fun r hr => by
    obtain ⟨j, hj, rfl⟩ := List.mem_iff_getElem.1 hr
    simp [i2 j hj (by omega)]
   rw [ha]
   exact sgo trivial
 ·cases rows.any f <;> simp
theorem gmade_ret (gr : Gr) (g : Nat) (caps : List V) (f : Nat → Nat → Int) (hn : gr.n ≤ 1000000) (hc : ∀ v ∈ caps, V.Pure v) (h : ∀ i j : Nat, i < gr.n → j < gr.n → Ret pg g (.int .i64 i :: .int .i64 j :: caps) (IV (f i j))) :
  Ret pg zcd [GV gr, .fn g caps] (.sl ((mat gr.n f).map ivl)) := by
 refine graph_Graph_made.of rfl (W_b ?_)
 unfold graph_Graph_made.k graph_Graph_made.res Ot kp Om Ol Oq Oc ci
 have hp : V.Pure (.fn g caps) := fn_pure hc
 have hrow : ∀ k, ∀ x ∈ (List.range k).map (fun i => ivl ((List.range gr.n).map (f i))), V.Pure x := fun k => zgm fun x => by simp
 refine sgo ?_
 refine za1 (T := Nat × V × Hp × Nat) (fun t => ⟨E [(1, .fn g caps), (2, .pp (GV gr)), (5, t.2.1), (10, .int .i64 gr.n), (11, .int .i64 t.1)], t.2.2.1, t.2.2.2, t.2.2.2⟩)
  (fun t => t.1 ≤ gr.n ∧ Row 0 t.2.2.1 t.2.2.2 t.2.1 1 ((List.range t.1).map fun i => ivl ((List.range gr.n).map (f i)))) (fun t => gr.n - t.1) (0, .nil, _, _) rfl ⟨zdo, Row.nil _ _ _ _⟩ ?_
 rintro ⟨i, w, H, nx⟩ ⟨i1, i2⟩
 dsimp only at i1 i2
 by_cases hi : i < gr.n
 ·refine sgo ?_
  refine za1 (T := Nat × V × Hp × Nat) (fun t => ⟨E [(1, .fn g caps), (2, .pp (GV gr)), (5, w), (6, .int .i64 i), (7, t.2.1), (10, .int .i64 gr.n), (11, .int .i64 i), (15, .int .i64 gr.n), (16, .int .i64 t.1)], t.2.2.1, t.2.2.2, t.2.2.2⟩)
   (fun t => t.1 ≤ gr.n ∧ nx ≤ t.2.2.2 ∧ (∀ b, b < nx → t.2.2.1 b = H b) ∧ Row nx t.2.2.1 t.2.2.2 t.2.1 2 (((List.range t.1).map (f i)).map IV)) (fun t => gr.n - t.1) (0, .nil, H, _) rfl ⟨zdo, zdo, fun _ _ => rfl, Row.nil _ _ _ _⟩ ?_
  rintro ⟨j, u, H', nx'⟩ ⟨j1, j2, j3, j4⟩
  dsimp only at j1 j2 j3 j4
  by_cases hj : j < gr.n
  ·refine sgo ?_
   refine zda (h i j hi hj) (ze4 (ze4 hc _ _) _ _) ?_
   refine sgo ?_
   refine zf7 (lo := nx) (nx := nx') (H0 := H') (xs := ((List.range j).map (f i)).map IV) j4 (by omega) rfl (by omega) (by omega) (by simp [rowOk, V.cells, V.cellOk, IV]) (by decide) (by simp; omega) (by simp; omega) fun v2 H2 r1 _ _ r4 => ?_
   rw [zh1, range_snoc] at r1
   refine sgo ?_
   exact ⟨(j + 1, v2, H2, _), rfl, ⟨zdo, zdo, fun b hb => (r4 b hb).trans (j3 b hb), r1.same (fun _ _ => rfl) zdo⟩, zdo⟩
  ·have hje : j = gr.n := by omega
   subst hje
   obtain ⟨c, rfl, c1, c2, c3⟩ := j4.own_of (by simp; omega)
   have i3 : Row 0 H' nx' w 1 ((List.range i).map fun i => ivl ((List.range gr.n).map (f i))) := i2.same j3 j2
   have hwc : ∀ n, w ≠ .own c n := fun n e => by
    rcases i2 with ⟨rfl, _⟩ | ⟨b, rfl, _, hb, _⟩
    ·cases e
    ·cases e; omega
   obtain ⟨i4, i5⟩ := i3.sub (ys := ((List.range gr.n).map (f i)).map IV) (hrow i) hwc
   have hfs := zct (fz1 c (((List.range gr.n).map (f i)).map IV)) hp
   refine sgo ?_
   have e7 : V.sl (((List.range gr.n).map (f i)).map IV) = ivl ((List.range gr.n).map (f i)) := rfl
   refine gh_fz1 c (((List.range gr.n).map (f i)).map IV) c3 (zgm fun x => by simp) (by simp only [List.map_cons, List.map_nil, hfs, i5, V.sub, fz1, if_true]; rfl) ?_
   simp -dsimp -implicitDefEqProofs (disch := try exact zdE) only [go_sem, e7]
   refine zf7 (lo := 0) (nx := nx') (H0 := Hp.sub (fz1 c (((List.range gr.n).map (f i)).map IV)) H') (xs := (List.range i).map fun i => ivl ((List.range gr.n).map (f i))) i4 (by omega) rfl (by omega) (by omega) (by simp [rowOk, V.cells, V.cellOk, ivl]) (by decide) (by simp; omega) (by simp; omega) fun v2 H2 r1 _ _ r4 => ?_
   rw [range_snoc (fun i => ivl ((List.range gr.n).map (f i)))] at r1
   refine sgo ?_
   exact ⟨(i + 1, v2, H2, _), rfl, ⟨zdo, r1.same (fun _ _ => rfl) zdo⟩, zdo⟩
 ·have hie : i = gr.n := by omega
  subst hie
  refine sgo ?_
  rw [i2.frz (zfk fun x => rfl)]
  simp only [mat, List.map_map]
  rfl
def gnewE (n : Int) (rows : List Row4) : Int := if n < 1 ∨ 11 < n then 1 else if 60 < rows.length then 3 else if rows.any (fun r => !rightB r n) then 160 else 0
theorem gnew_ret (n : Int) (rows : List Row4) (hl : rows.length ≤ 9223372036854775807) (hr : ∀ r ∈ rows, r.co.length ≤ 9223372036854775807) :
  Ret pg n_graph_New [.int .i64 n, .sl (rows.map RV)] (.tup [GV (if gnewE n rows = 0 then ⟨n.toNat, rows, mat n.toNat (fun _ _ => 0), List.replicate n.toNat 0, 0, 1⟩ else Gr0), .int .i64 (gnewE n rows)]) := by
 refine graph_New.of rfl (W_b ?_)
 unfold graph_New.k graph_New.res Ot kp kd Og Oy Om Ol OL Oq Oc On ci
 by_cases h1 : n < 1 ∨ 11 < n
 ·have e : gnewE n rows = 1 := by unfold gnewE; rw [if_pos h1]
  rw [e, if_neg (by decide), Gr0_eq]
  rcases h1 with h1 | h1
  ·exact sgo trivial
   done
  ·by_cases h2 : n < 1
   ·omega
   ·exact sgo trivial
    done
 ·have h2 : 1 ≤ n ∧ n ≤ 11 := by omega
  by_cases h3 : 60 < rows.length
  ·have e : gnewE n rows = 3 := by unfold gnewE; rw [if_neg h1, if_pos h3]
   rw [e, if_neg (by decide), Gr0_eq]
   exact sgo trivial
   done
  ·obtain ⟨m, rfl⟩ : ∃ m : Nat, n = m := ⟨n.toNat, by omega⟩
   have r1 : ∀ r ∈ rows, Ret pg zfh [RV r, .pp (.int .i64 m)] (.bool (!rightB r m)) := fun r hrr => by
    have := hr r hrr
    refine graph_New_1.of rfl (W_b ?_)
    unfold graph_New_1.k graph_New_1.res Ot kp Om Ol OL
    refine sgo ?_
    refine zab (right_ret r m (by omega)) (by simp) ?_
    exact sgo trivial
   obtain ⟨k, hk, hk2⟩ := index_ret rows zfh [.pp (.int .i64 m)] (fun r => !rightB r m) hl (by simp) r1
   have hc : Ret pg zbj [.sl (rows.map RV), .fn zfh [.pp (.int .i64 m)]] (.bool (rows.any fun r => !rightB r m)) := by
    refine slices_ContainsFunc_Lapi_Row_api_Row.of rfl (W_b ?_)
    unfold slices_ContainsFunc_Lapi_Row_api_Row.k slices_ContainsFunc_Lapi_Row_api_Row.res Ot kp Om ci
    refine sgo ?_
    refine zab hk (by simp) ?_
    simp -dsimp -implicitDefEqProofs (disch := try exact zdE) only [go_sem, hk2]
   refine sgo ?_
   refine zab hc (by simp) ?_
   cases ha : rows.any fun r => !rightB r m
   ·have e : gnewE m rows = 0 := by unfold gnewE; rw [if_neg h1, if_neg h3, ha]; rfl
    rw [e, if_pos rfl]
    refine sgo ?_
    refine zaa (zbf 1 (by omega)) (by simp) ?_
    refine sgo ?_
    have r2 : ∀ i j : Nat, i < m → j < m → Ret pg zfg [.int .i64 i, .int .i64 j] (IV 0) := fun i j _ _ => by
     refine graph_New_2.of rfl (W_b ?_)
     unfold graph_New_2.k graph_New_2.res Ot kp Oy
     refine sgo ?_
     rw [zdl]
    have z := zdm W32
    have hm : Ret pg zcd [.agg [.int .i64 m, .sl (rows.map RV), .nil, .sl ((List.replicate m 0).map IV), .bool false, .sl [], .bool false, .sl (nats .u32 (digs W32 (Int.natAbs 1)))], .fn zfg []] (.sl ((mat m fun _ _ => 0).map ivl)) :=
     (gmade_ret ⟨m, rows, [], List.replicate m 0, 0, 1⟩ zfg [] (fun _ _ => 0) zdo (by simp) r2).nn (by
      simp only [List.map_cons, List.map_nil, V.nn, V.nn0, GV]
      rw [show (0 : Int).natAbs = 0 from rfl, z]
      rfl)
    refine zg9 (fz1 25 ((List.replicate m 0).map IV)) (fz1_ok (es := 2) rfl (zgm fun x => by simp)) (by simp -dsimp -implicitDefEqProofs (disch := try exact zdE) only [go_sem]) hm (by simp) ?_
    refine sgo ?_
    simp only [GV]
    rw [show (0 : Int).natAbs = 0 from rfl, z]
    rfl
   ·have e : gnewE m rows = 160 := by unfold gnewE; rw [if_neg h1, if_neg h3, ha]; rfl
    rw [e, if_neg (by decide), Gr0_eq]
    exact sgo trivial
end Go.Gim
/- Graphs: with a prior; how the cost bends. -/
set_option maxRecDepth 100000
namespace Go.Gim
open Go.Proofs
theorem tdiv_pos {a b : Int} (ha : 0 ≤ a) (hb : 0 < b) : a.tdiv b = a / b := Int.tdiv_eq_ediv_of_nonneg ha
theorem quoI {a b : Int} (ha : 0 ≤ a) (hb : 0 < b) (h : a ≤ 9223372036854775807) : binV .quo (.int .i64 a) (.int .i64 b) = some (.int .i64 (a / b)) := by
 have h1 : a / b ≤ a := Int.ediv_le_self b ha
 have h2 : 0 ≤ a / b := Int.ediv_nonneg ha (by omega)
 rw [binV_quo, if_neg (by omega), tdiv_pos ha hb, IntWalk.i64_in _ (by omega)]
def absR (r : Row4) (x : List Int) : Int := max (zdx r x) (-zdx r x)
def shareR (r : Row4) (x : List Int) : Int := if absR r x ≤ r.kn then 1024 else max 1 (1024 * r.kn / absR r x)
theorem shareR_bd {r : Row4} {x : List Int} (h : 1 ≤ r.kn ∧ r.kn ≤ 32768) : 1 ≤ shareR r x ∧ shareR r x ≤ 1024 := by
 unfold shareR
 split
 ·omega
 ·rename_i hk
  have : 1024 * r.kn / absR r x ≤ 1024 := by
   refine Int.ediv_le_of_le_mul (by omega) ?_
   exact Int.mul_le_mul_of_nonneg_left (by omega) (by omega)
  omega
theorem share_ret (g : Gr) (r : Row4) (x : List Int) (hr : Right4 r x.length) (hx : State x) : Ret pg zes [GV g, RV r, ints x] (.int .i64 (shareR r x)) := by
 have hb := residR_bd r x
 have hk := hr.kn
 have ha : 0 ≤ absR r x ∧ absR r x ≤ 1000000000 := by unfold absR; omega
 refine graph_Graph_Share.of rfl (W_b ?_)
 unfold graph_Graph_Share.k graph_Graph_Share.res Ot kp Om Ol OL Oq Oc ci
 refine sgo ?_
 refine zab (resid_ret r x hr hx) (by simp) ?_
 have e : max (zdx r x) (0 - zdx r x) = absR r x := by unfold absR; omega
 simp -dsimp -implicitDefEqProofs (disch := try exact zdE) only [go_sem, e]
 unfold shareR
 by_cases h : absR r x ≤ r.kn
 ·rw [if_pos h]
  exact sgo trivial
 ·have hq := quoI (a := 1024 * r.kn) (b := absR r x) (by omega) (by omega) (by omega)
  rw [if_neg h]
  simp -dsimp -implicitDefEqProofs (disch := try exact zdE) only [go_sem, hq]
def bendAt (r : Row4) (s : Int) (i j : Nat) : Int := s * r.co.getD i 0 * r.co.getD j 0
theorem bendAt_bd {r : Row4} {n : Nat} {s : Int} (hr : Right4 r n) (hs : -102400 ≤ s ∧ s ≤ 102400) (i j : Nat) : (-102400000 ≤ s * r.co.getD i 0 ∧ s * r.co.getD i 0 ≤ 102400000) ∧ -102400000000 ≤ bendAt r s i j ∧ bendAt r s i j ≤ 102400000000 := by
 have h1 := zee (A := 102400) (B := 1000) hs (hr.get i)
 have h2 := zee (A := 102400000) (B := 1000) (a := s * r.co.getD i 0) (by omega) (hr.get j)
 unfold bendAt
 omega
def zfl (rows : List Row4) (sh : List Int) (i j : Nat) (n : Nat) : Int := sumZ (fun k => if k < rows.length then bendAt (rows.getD k default) (sh.getD k 0) i j else 0) n
theorem bendSum_bd {rows : List Row4} {sh : List Int} {n : Nat} (hr : ∀ r ∈ rows, Right4 r n) (hs : ∀ k, -102400 ≤ sh.getD k 0 ∧ sh.getD k 0 ≤ 102400) (i j k : Nat) : -(102400000000 * (k : Int)) ≤ zfl rows sh i j k ∧ zfl rows sh i j k ≤ 102400000000 * (k : Int) := by
 refine sumZ_bd (by omega) (fun m => ?_) k
 split
 ·rename_i hm; exact (bendAt_bd (hr _ (zaz default hm)) (hs m) i j).2
 ·omega
theorem curve1_ret (g : Gr) (sh : List Int) (sv : V) (hsv : V.Pure sv) (hsv2 : 0 < g.rows.length → sv = ints sh) (i j : Nat) (hi : i < g.n) (hj : j < g.n) (hn : g.n ≤ 11) (hrows : g.rows.length ≤ 60) (hr : ∀ r ∈ g.rows, Right4 r g.n) (hl : sh.length = g.rows.length) (hs : ∀ k, -102400 ≤ sh.getD k 0 ∧ sh.getD k 0 ≤ 102400) (hP : Sq g.P g.n) (sP : ∀ i j, lim (at2 g.P i j) ≤ 1000000) (hd : lim g.den ≤ 1000000) :
  Ret pg zb7 [.int .i64 i, .int .i64 j, .pp (GV g), .pp sv] (IV (zfl g.rows sh i j g.rows.length * g.den + at2 g.P i j * 1024)) := by
 have hbd := bendSum_bd hr hs i j
 refine graph_Graph_Curve_1.of rfl (W_b ?_)
 unfold graph_Graph_Curve_1.k graph_Graph_Curve_1.res Ot kp kd Oy Om Ol OL Oq Oi Oc On ci
 simp -dsimp -implicitDefEqProofs (disch := try exact zdE) only [go_sem, ← zdl]
 refine zf0 (T := Nat × Nat) (fun t => ⟨E [(0, .int .i64 i), (1, .int .i64 j), (2, .pp (GV g)), (3, .pp sv), (6, .ptr 0 1 0 0), (7, .ptr 1 1 0 0), (11, .sl (g.rows.map RV)), (12, .int .i64 g.rows.length), (13, .int .i64 t.1)], (Hp.upd (fun _ => none) 0 (some ⟨[IV 0], 2⟩)).upd 1 (some ⟨[IV (zfl g.rows sh i j t.1)], 2⟩), t.2, t.2⟩)
  (fun t => t.1 ≤ g.rows.length ∧ 1 < t.2) (fun t => g.rows.length - t.1) (0, _) (Ghost.refl _) ⟨zdo, zdo⟩ ?_
 rintro ⟨k, nx⟩ ⟨k1, k2⟩
 dsimp only at k1 k2
 by_cases hk : k < g.rows.length
 ·have hrk := hr _ (zaz default hk)
  have hb := bendAt_bd hrk (hs k) i j
  have hb2 := hbd k
  have hlen := hrk.len
  have hsum : zfl g.rows sh i j (k + 1) = zfl g.rows sh i j k + bendAt (g.rows.getD k default) (sh.getD k 0) i j := by unfold zfl; rw [sumZ, if_pos hk]
  have hba : sh.getD k 0 * (g.rows.getD k default).co.getD i 0 * (g.rows.getD k default).co.getD j 0 = bendAt (g.rows.getD k default) (sh.getD k 0) i j := rfl
  obtain rfl := hsv2 (by omega)
  have l1 := zar (x := zfl g.rows sh i j k) (by omega)
  have l2 := zar (x := bendAt (g.rows.getD k default) (sh.getD k 0) i j) (by omega)
  simp -dsimp -implicitDefEqProofs (disch := try exact zdE) only [go_sem, hba]
  refine zaa (zbf _ ⟨by omega, by omega⟩) (by simp) ?_
  refine sgo ?_
  refine zaa (zb8 _ _ (by omega) (by omega)) (by simp) ?_
  rw [← hsum]
  refine sgo ?_
  exact ⟨(k + 1, _), (ghost_drop (by intro b; simp only [Hp.upd]; (repeat' split) <;> first | exact .inl rfl | exact .inr rfl | (exfalso; omega))), ⟨zdo, zdo⟩, zdo⟩
 ·have hke : k = g.rows.length := by omega
  subst hke
  have hP1 := hP.1
  have hPr := hP.row hi
  have e1 : (g.P.getD i []).getD j 0 = at2 g.P i j := rfl
  have b0 := hbd g.rows.length
  have l1 := zar (x := zfl g.rows sh i j g.rows.length) (by omega)
  have l2 := za5 (zfl g.rows sh i j g.rows.length) g.den
  have l3 := zar (x := 1024) (by omega)
  have l4 := sP i j
  have l5 := za5 (at2 g.P i j) 1024
  simp -dsimp -implicitDefEqProofs (disch := try exact zdE) only [go_sem, e1]
  refine zaa (zbe _ _ (by omega) (by omega)) (by simp) ?_
  simp -dsimp -implicitDefEqProofs (disch := try exact zdE) only [go_sem, e1]
  refine zaa (zbf 1024 (by omega)) (by simp) ?_
  refine sgo ?_
  refine zaa (zbe _ _ (by omega) (by omega)) (by simp) ?_
  refine sgo ?_
  refine zaa (zb8 _ _ (by omega) (by omega)) (by simp) ?_
  exact sgo trivial
def zdw (g : Gr) (x : List Int) : List Int := g.rows.map fun r => r.w * shareR r x
theorem shares_bd {g : Gr} {x : List Int} (hr : ∀ r ∈ g.rows, Right4 r x.length) (k : Nat) : -102400 ≤ (zdw g x).getD k 0 ∧ (zdw g x).getD k 0 ≤ 102400 := by
 by_cases hk : k < g.rows.length
 ·have hrk := hr _ (zaz default hk)
  have e : (zdw g x).getD k 0 = (g.rows.getD k default).w * shareR (g.rows.getD k default) x := by simp [zdw, List.getD_eq_getElem?_getD, hk]
  have b1 := shareR_bd (x := x) hrk.kn
  have b2 := hrk.w
  rw [e]
  have := zee (a := (g.rows.getD k default).w) (b := shareR (g.rows.getD k default) x) (A := 100) (B := 1024) (by omega) (by omega)
  omega
 ·simp [zdw, List.getD_eq_getElem?_getD, List.getElem?_eq_none (Nat.le_of_not_lt hk)]
def curveAt (g : Gr) (x : List Int) (i j : Nat) : Int := zfl g.rows (zdw g x) i j g.rows.length * g.den + at2 g.P i j * 1024
theorem curve_ret (g : Gr) (x : List Int) (hn : g.n = x.length) (hn11 : g.n ≤ 11) (hrows : g.rows.length ≤ 60) (hr : ∀ r ∈ g.rows, Right4 r x.length) (hx : State x) (hP : Sq g.P g.n) (sP : ∀ i j, lim (at2 g.P i j) ≤ 1000000) (hd : lim g.den ≤ 1000000) :
  Ret pg zet [GV g, ints x] (.sl ((mat g.n (curveAt g x)).map ivl)) := by
 have hshl : (zdw g x).length = g.rows.length := by simp [zdw]
 have hsh := shares_bd hr
 refine graph_Graph_Curve.of rfl (W_b ?_)
 unfold graph_Graph_Curve.k graph_Graph_Curve.res Ot kp kd Oy Om Ol OL Oq Oi Oc On ci
 refine sgo ?_
 refine za1 (T := Nat × V × Hp × Nat) (fun t => ⟨E [(1, ints x), (2, .pp (GV g)), (5, .ptr 2 1 0 0), (9, .sl (g.rows.map RV)), (10, .int .i64 g.rows.length), (11, .int .i64 t.1)], t.2.2.1, t.2.2.2, t.2.2.2⟩)
  (fun t => t.1 ≤ g.rows.length ∧ 2 < t.2.2.2 ∧ t.2.2.1 2 = some ⟨[t.2.1], 1⟩ ∧ Row 3 t.2.2.1 t.2.2.2 t.2.1 1 (((zdw g x).take t.1).map (V.int .i64))) (fun t => g.rows.length - t.1) (0, .nil, _, _) rfl ⟨zdo, zdo, rfl, Row.nil _ _ _ _⟩ ?_
 rintro ⟨k, w, H, nx⟩ ⟨k1, k2, k3, k4⟩
 dsimp only at k1 k2 k3 k4
 obtain ⟨w1, w2, w3, w4⟩ := k4.flat
 by_cases hk : k < g.rows.length
 ·have hrk := hr _ (zaz default hk)
  have b1 := shareR_bd (x := x) hrk.kn
  have b2 := hrk.w
  have b3 := zee (a := (g.rows.getD k default).w) (b := shareR (g.rows.getD k default) x) (A := 100) (B := 1024) (by omega) (by omega)
  have ht := zef (l := zdw g x) (i := k) 0 (by omega)
  have e : (zdw g x).getD k 0 = (g.rows.getD k default).w * shareR (g.rows.getD k default) x := by simp [zdw, List.getD_eq_getElem?_getD, hk]
  rw [e] at ht
  simp -dsimp -implicitDefEqProofs (disch := try exact zdE) only [go_sem, k3, w1, w2, w3, w4]
  refine zaa (share_ret g _ x hrk hx) (by simp) ?_
  generalize hZ : (g.rows.getD k default).w * shareR (g.rows.getD k default) x = z at *
  simp -dsimp -implicitDefEqProofs (disch := try exact zdE) only [go_sem, hZ, k3]
  have k4' : Row 3 (H.upd (nx + 3) (some ⟨[RV (g.rows.getD k default)], 4⟩)) nx w 1 (((zdw g x).take k).map (V.int .i64)) := k4.same (fun b hb => Hp.upd_ne _ _ (by omega)) (Nat.le_refl _)
  refine zf7 (lo := 3) (nx := nx) (H0 := H.upd (nx + 3) (some ⟨[RV (g.rows.getD k default)], 4⟩)) (xs := ((zdw g x).take k).map (V.int .i64)) k4' (by omega) rfl (by omega) (by omega) (by simp [rowOk, V.cells, V.cellOk, V.isJunk]) (by decide) (by simp; omega) (by simp; omega) fun v2 H2 r1 _ _ r4 => ?_
  rw [zh1 (V.int .i64), ← ht] at r1
  have j2 := (r4 2 (by omega)).trans ((Hp.upd_ne _ _ (by omega)).trans k3)
  obtain ⟨b', rfl, c1, c2, c3⟩ := r1.own_of (by simp; omega)
  simp -dsimp -implicitDefEqProofs (disch := try exact zdE) only [go_sem, j2, w1, w3]
  generalize hH3 : Hp.upd H2 2 _ = H3
  have q2 := upd_at_same hH3
  have qb := upd_at_ne hH3 c3 (by omega)
  exact ⟨(k + 1, .own b' ((zdw g x).take (k + 1)).length, H3, _), rfl, ⟨zdo, zdo, q2, .inr ⟨b', by rw [List.length_map], c1, zdo, qb⟩⟩, zdo⟩
 ·have hke : k = g.rows.length := by omega
  subst hke
  rw [List.take_of_length_le (by omega)] at k4
  have hr' : ∀ r ∈ g.rows, Right4 r g.n := fun r h => by rw [hn]; exact hr r h
  have hc1 : ∀ (sv : V), V.Pure sv → (0 < g.rows.length → sv = ints (zdw g x)) → Ret pg zcd [GV g, .fn zb7 [.pp (GV g), .pp sv]] (.sl ((mat g.n (curveAt g x)).map ivl)) := fun sv h1 h2 =>
   gmade_ret g zb7 _ (curveAt g x) (by omega) (by simp) fun i j hi hj => curve1_ret g (zdw g x) sv h1 h2 i j hi hj hn11 hrows hr' hshl hsh hP sP hd
  simp -dsimp -implicitDefEqProofs (disch := try exact zdE) only [go_sem, k3, w1, w2, w3, w4]
  rcases k4 with ⟨rfl, h0⟩ | ⟨c, rfl, c1, c2, c3⟩
  ·have h0 := congrArg List.length h0
   rw [List.length_map, hshl] at h0
   refine zg9 (fz1 2 [.nil]) (fz1_ok k3 (by simp)) (by simp -dsimp -implicitDefEqProofs (disch := try exact zdE) only [go_sem]) (hc1 .nil (by simp) fun h => by rw [List.length_nil] at h0; omega) (by simp) ?_
   exact sgo trivial
  ·have h2c : (2 = c) = False := by simp; omega
   refine zg9 (fz2 c ((zdw g x).map (V.int .i64)) 2 (ints (zdw g x))) (fz2_ok (by omega) c3 pure_ints k3 (by simp -dsimp -implicitDefEqProofs (disch := try exact zdE) only [go_sem]; rfl) (by simp)) (by simp -dsimp -implicitDefEqProofs (disch := try exact zdE) only [go_sem, h2c]) (hc1 (ints (zdw g x)) (by simp) fun _ => rfl) (by simp) ?_
   exact sgo trivial
end Go.Gim

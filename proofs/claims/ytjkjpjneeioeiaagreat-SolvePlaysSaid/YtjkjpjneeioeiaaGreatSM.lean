import Derived.Test.YtjkjpjneeioeiaaGreatFA2
import Derived.Test.YtjkjpjneeioeiaaGreatLR5
import Derived.Test.YtjkjpjneeioeiaaGreatGRC
import Derived.Test.YtjkjpjneeioeiaaGreatRL0
import Derived.Test.YtjkjpjneeioeiaaGreatGA7
import Derived.Test.YtjkjpjneeioeiaaGreatSM0
set_option linter.unusedSimpArgs false
set_option linter.unusedVariables false
/- The document's rows: whether they are the same, may be, what they lack, how much they count. -/
set_option maxRecDepth 100000
namespace Go.Gim
open Go.Proofs
theorem rout_ret (n low top : Int) : Ret pg zcq [.int .i64 n, .int .i64 low, .int .i64 top] (.bool (outB n low top)) := by
 refine gimbalref16_out.of rfl (W_b ?_)
 unfold gimbalref16_out.k gimbalref16_out.res Ot kp Og Om outB
 by_cases h : n < low
 ·simp -dsimp -implicitDefEqProofs (disch := try exact zdE) only [go_sem, decide_eq_true h, Bool.true_or]
 ·simp -dsimp -implicitDefEqProofs (disch := try exact zdE) only [go_sem, decide_eq_false h, Bool.false_or]
set_option maxHeartbeats 1000000 in
theorem rright_ret (r : Row4) (n : Int) (hl : r.co.length ≤ 9223372036854775807) : Ret pg zf0 [RV r, .int .i64 n] (.bool (zhh r n)) := by
 refine gimbalref16_Right.of rfl (W_b ?_)
 unfold gimbalref16_Right.k gimbalref16_Right.res Ot kp Og Om Ol Oq Oi Oc On ci zhh
 by_cases h1 : (r.co.length : Int) = n
 ·by_cases h2 : n ≤ 11
  ·subst h1
   refine sgo ?_
   refine zaa (rout_ret _ _ _) (by simp) ?_
   cases hz : outB r.z (-1000000000) 1000000000
   ·refine sgo ?_
    refine zaa (rout_ret _ _ _) (by simp) ?_
    cases hk : outB r.kn 1 32768
    ·refine sgo ?_
     refine zaa (rout_ret _ _ _) (by simp) ?_
     cases hw : outB r.w 1 100
     ·refine sgo ?_
      refine zap (T := Nat × Nat) (fun t => ⟨E [(1, .int .i64 r.co.length), (2, .pp (RV r)), (5, .int .i64 t.1)], fun _ => none, t.2, t.2⟩) (fun t => t.1 ≤ r.co.length ∧ ∀ x ∈ r.co.take t.1, outB x (-1000) 1000 = false) (fun t => r.co.length - t.1) (0, _) rfl ⟨zdo, by simp⟩ ?_
      rintro ⟨i, nx⟩ ⟨i1, i2⟩
      dsimp only at i1 i2
      by_cases hi : i < r.co.length
      ·have hm := zao 0 hi
       have ht := zbl 0 hi
       generalize hX : r.co.getD i 0 = x at *
       simp -dsimp -implicitDefEqProofs (disch := try exact zdE) only [go_sem, hX]
       refine zaa (rout_ret _ _ _) (by simp) ?_
       cases hb : outB x (-1000) 1000
       ·simp -dsimp -implicitDefEqProofs (disch := try exact zdE) only [go_sem, hX]
        refine ⟨(i + 1, _), rfl, ⟨zdo, fun y hy => ?_⟩, zdo⟩
        dsimp only at hy
        rw [ht] at hy
        rcases List.mem_append.1 hy with hy | hy
        ·exact i2 y hy
        ·simp at hy; subst hy; exact hb
       ·have hall : (r.co.all fun a => !outB a (-1000) 1000) = false := List.all_eq_false.2 ⟨x, hm, by simp [hb]⟩
        rw [hall]
        exact sgo trivial
      ·rw [List.take_of_length_le (by omega)] at i2
       have hall : (r.co.all fun a => !outB a (-1000) 1000) = true := List.all_eq_true.2 fun x hx => by simp [i2 x hx]
       rw [hall]
       exact sgo trivial
     ·refine sgo ?_
      simp
    ·refine sgo ?_
     simp
   ·refine sgo ?_
    simp
  ·subst h1
   refine sgo ?_
   simp [h2]
 ·refine sgo ?_
  simp [h1]
def zea (x : List Int) : Bool := x.all fun v => !outB v (-1000000) 1000000
theorem stateB_iff {x : List Int} : zea x = true ↔ State x := by simp [zea, State, outB, Bool.and_eq_true]
theorem rstate_ret (x : List Int) (hl : x.length ≤ 9223372036854775807) : Ret pg zdd [ints x] (.bool (zea x)) := by
 refine gimbalref16_State.of rfl (W_b ?_)
 unfold gimbalref16_State.k gimbalref16_State.res Ot kp Om Ol Oi Oc On ci
 refine sgo ?_
 refine zap (T := Nat × Nat) (fun t => ⟨E [(0, ints x), (3, .int .i64 t.1)], fun _ => none, t.2, t.2⟩) (fun t => t.1 ≤ x.length ∧ ∀ y ∈ x.take t.1, outB y (-1000000) 1000000 = false) (fun t => x.length - t.1) (0, _) rfl ⟨zdo, by simp⟩ ?_
 rintro ⟨i, nx⟩ ⟨i1, i2⟩
 dsimp only at i1 i2
 by_cases hi : i < x.length
 ·have hm := zao 0 hi
  have ht := zbl 0 hi
  generalize hX : x.getD i 0 = v at *
  simp -dsimp -implicitDefEqProofs (disch := try exact zdE) only [go_sem, hX]
  refine zaa (rout_ret _ _ _) (by simp) ?_
  cases hb : outB v (-1000000) 1000000
  ·simp -dsimp -implicitDefEqProofs (disch := try exact zdE) only [go_sem, hX]
   refine ⟨(i + 1, _), rfl, ⟨zdo, fun y hy => ?_⟩, zdo⟩
   dsimp only at hy
   rw [ht] at hy
   rcases List.mem_append.1 hy with hy | hy
   ·exact i2 y hy
   ·simp at hy; subst hy; exact hb
  ·have hall : zea x = false := List.all_eq_false.2 ⟨v, hm, by simp [hb]⟩
   rw [hall]
   exact sgo trivial
 ·rw [List.take_of_length_le (by omega)] at i2
  have hall : zea x = true := List.all_eq_true.2 fun y hy => by simp [i2 y hy]
  rw [hall]
  exact sgo trivial
theorem zi6 (r : Row4) (x : List Int) (hr : Right4 r x.length) (hx : State x) : Ret pg zcm [RV r, ints x] (.int .i64 (zca r x)) := by
 have hz := hr.z
 have hn := hr.le
 have hl := hr.len
 have hb := dotN_bd hr.get hx.get
 refine gimbalref16_Residual.of rfl (W_b ?_)
 unfold gimbalref16_Residual.k gimbalref16_Residual.res Ot kp kd Oy Om Ol OL Oq Oi Oc On ci
 simp -dsimp -implicitDefEqProofs (disch := try exact zdE) only [go_sem, ← zi2]
 refine zaa (r_of _ (by omega)) (by simp) ?_
 simp -dsimp -implicitDefEqProofs (disch := try exact zdE) only [go_sem, ← zi2]
 have bdN : ∀ {a B : Int} {k : Nat}, -B ≤ a → a ≤ B → B ≤ 9223372036854775807 → dlim a ≤ 20 := fun h1 h2 h3 => zbx (by omega)
 refine zap (T := Nat × Nat) (fun t => ⟨E [(1, ints x), (2, .pp (RV r)), (5, .ptr 6 1 0 0), (6, .int .i64 t.1)], Hp.upd (fun _ => none) 6 (some ⟨[DV (-r.z + dotN r.co x t.1)], 2⟩), t.2, t.2⟩) (fun t => t.1 ≤ x.length ∧ 6 < t.2) (fun t => x.length - t.1) (0, _) (by simp [dotN]; rfl) ⟨zdo, zdo⟩ ?_
 rintro ⟨i, nx⟩ ⟨i1, i2⟩
 dsimp only at i1 i2
 by_cases hi : i < x.length
 ·have b1 := hb i
  have p1 := hr.get i
  have p2 := hx.get i
  have p3 := zfl p1 p2
  have hs : dotN r.co x (i + 1) = dotN r.co x i + r.co.getD i 0 * x.getD i 0 := rfl
  have d1 := zbx (x := r.co.getD i 0) (by omega)
  have d2 := zbx (x := x.getD i 0) (by omega)
  have d3 := zbx (x := r.co.getD i 0 * x.getD i 0) (by omega)
  have d4 := zbx (x := -r.z + dotN r.co x i) (by omega)
  refine sgo ?_
  refine zab (r_of _ (by omega)) (by simp) ?_
  refine sgo ?_
  refine zab (r_of _ (by omega)) (by simp) ?_
  refine sgo ?_
  refine zab (r_mul _ _ (by omega) (by omega)) (by simp) ?_
  refine sgo ?_
  refine zab (r_add _ _ (by omega) (by omega)) (by simp) ?_
  rw [Int.add_assoc, ← hs]
  refine sgo ?_
  exact ⟨(i + 1, _), rfl, ⟨zdo, zdo⟩, zdo⟩
 ·have he : i = x.length := by omega
  subst he
  have hraw : -r.z + dotN r.co x x.length = rawR r x := by unfold rawR; rw [hl]
  have b1 := hb x.length
  rw [hraw]
  have b2 : -12000000000 ≤ rawR r x ∧ rawR r x ≤ 12000000000 := by rw [← hraw]; omega
  unfold zca
  generalize rawR r x = w at *
  have d1 := zbx (x := w) (by omega)
  have d2 := zbx (x := 1000000000) (by omega)
  have d3 := zbx (x := -1000000000) (by omega)
  refine sgo ?_
  refine zaa (r_of _ (by omega)) (by simp) ?_
  refine sgo ?_
  refine zaa (r_cmp _ _ (by omega) (by omega)) (by simp) ?_
  refine sgo ?_
  refine zab (r_minus _ (by omega)) (by simp) ?_
  refine sgo ?_
  refine zab (r_cmp _ _ (by omega) (by omega)) (by simp) ?_
  by_cases h1 : 1000000000 < w
  ·have s1 : 0 < (w - 1000000000).sign := by rw [ze5]; omega
   rw [show max (-1000000000) (min w 1000000000) = 1000000000 by omega]
   exact sgo trivial
  ·have s1 : ¬ 0 < (w - 1000000000).sign := by rw [ze5]; omega
   by_cases h2 : w < -1000000000
   ·have s2 : (w - -1000000000).sign < 0 := by rw [sign_neg_iff]; omega
    rw [show max (-1000000000) (min w 1000000000) = -1000000000 by omega]
    exact sgo trivial
   ·have s2 : ¬ (w - -1000000000).sign < 0 := by rw [sign_neg_iff]; omega
    rw [show max (-1000000000) (min w 1000000000) = w by omega]
    refine sgo ?_
    refine zaa (r_small w (by omega)) (by simp) ?_
    exact sgo trivial
end Go.Gim
/- The document's graphs: made of rows; how the cost bends. -/
set_option maxRecDepth 100000
set_option maxHeartbeats 4000000
namespace Go.Gim
open Go.Proofs
theorem rshare_ret (r : Row4) (x : List Int) (hr : Right4 r x.length) (hx : State x) : Ret pg zfy [RV r, ints x] (.int .i64 (zh7 r x)) := by
 have hb := residR_bd r x
 have hk := hr.kn
 have ha : 0 ≤ absR r x ∧ absR r x ≤ 1000000000 := by unfold absR; omega
 have key : ∀ a : Int, a = absR r x → (if a ≤ r.kn then 1024 else max 1 (1024 * r.kn / a)) = zh7 r x := fun a h => by rw [h]; rfl
 refine gimbalref17_Share.of rfl (W_b ?_)
 unfold gimbalref17_Share.k gimbalref17_Share.res Ot kp Om Ol OL Oq Oc ci
 refine sgo ?_
 refine zaa (zi6 r x hr hx) (by simp) ?_
 rw [← key (absR r x) rfl]
 by_cases h0 : zca r x < 0
 ·have e : 0 - zca r x = absR r x := by unfold absR; omega
  simp -dsimp -implicitDefEqProofs (disch := try exact zdE) only [go_sem, e]
  by_cases h : absR r x ≤ r.kn
  ·rw [if_pos h]
   exact sgo trivial
  ·have hq := quoI (a := 1024 * r.kn) (b := absR r x) (by omega) (by omega) (by omega)
   rw [if_neg h]
   simp -dsimp -implicitDefEqProofs (disch := try exact zdE) only [go_sem, hq]
   by_cases h1 : 1024 * r.kn / absR r x < 1
   ·rw [show max 1 (1024 * r.kn / absR r x) = 1 by omega]
    exact sgo trivial
   ·rw [show max 1 (1024 * r.kn / absR r x) = 1024 * r.kn / absR r x by omega]
    exact sgo trivial
 ·have e : zca r x = absR r x := by unfold absR; omega
  rw [e] at h0
  simp -dsimp -implicitDefEqProofs (disch := try exact zdE) only [go_sem, e]
  by_cases h : absR r x ≤ r.kn
  ·rw [if_pos h]
   exact sgo trivial
  ·have hq := quoI (a := 1024 * r.kn) (b := absR r x) (by omega) (by omega) (by omega)
   rw [if_neg h]
   simp -dsimp -implicitDefEqProofs (disch := try exact zdE) only [go_sem, hq]
   by_cases h1 : 1024 * r.kn / absR r x < 1
   ·rw [show max 1 (1024 * r.kn / absR r x) = 1 by omega]
    exact sgo trivial
   ·rw [show max 1 (1024 * r.kn / absR r x) = 1024 * r.kn / absR r x by omega]
    exact sgo trivial
def DGV (g : Gr) : V := .agg [.int .i64 g.n, .sl (g.rows.map RV), .sl (g.P.map dvl), dvl g.Q, .bool (decide (g.c < 0)), .sl (nats .i64 (digs 10 g.c.natAbs)), .bool (decide (g.den < 0)), .sl (nats .i64 (digs 10 g.den.natAbs))]
@[simp] theorem DGV_pure (g) : (DGV g).Pure := by simp [DGV]
theorem sub_DGV (g : Nat → Option (List V)) (x : Gr) : V.sub g (DGV x) = DGV x := zed _ (DGV_pure x)
theorem DGV_cells (g) : (DGV g).cells = [.int .i64 g.n, .sl (g.rows.map RV), .sl (g.P.map dvl), dvl g.Q, .bool (decide (g.c < 0)), .sl (nats .i64 (digs 10 g.c.natAbs)), .bool (decide (g.den < 0)), .sl (nats .i64 (digs 10 g.den.natAbs))] := rfl
theorem DGV_isAgg (g) : (DGV g).isAgg = true := rfl
@[simp] theorem DGV_isJunk (g) : (DGV g).isJunk = false := rfl
theorem part_DGV (g) : V.part (DGV g) 0 8 true = some (DGV g) := rfl
theorem frz_DGV (H : Hp) (n : Nat) (g) : frz H (n + 2) (DGV g) = some (DGV g) := rfl
attribute [go_sem] DGV_cells DGV_isAgg DGV_isJunk part_DGV frz_DGV sub_DGV
theorem DGr0_eq : DGV Gr0 = .agg [.int .i64 0, .sl [], .sl [], .sl [], .bool false, .sl [], .bool false, .sl []] := by
 unfold DGV Gr0
 dsimp only
 rw [show (0 : Int).natAbs = 0 from rfl, zbe]; rfl
theorem rnew_ret (n : Int) (rows : List Row4) (hl : rows.length ≤ 9223372036854775807) (hr : ∀ r ∈ rows, r.co.length ≤ 9223372036854775807) :
  Ret pg zg2 [.int .i64 n, .sl (rows.map RV)] (.tup [DGV (if gnewE n rows = 0 then ⟨n.toNat, rows, mat n.toNat (fun _ _ => 0), List.replicate n.toNat 0, 0, 1⟩ else Gr0), .int .i64 (gnewE n rows)]) := by
 refine gimbalref17_New.of rfl (W_b ?_)
 unfold gimbalref17_New.k gimbalref17_New.res Ot kp Og Oy Om OL Oi Oc On ci
 by_cases h1 : n < 1 ∨ 11 < n
 ·have e : gnewE n rows = 1 := by unfold gnewE; rw [if_pos h1]
  rw [e, if_neg (by decide), DGr0_eq]
  rcases h1 with h1 | h1
  ·exact sgo trivial
  ·by_cases h2 : n < 1
   ·omega
   ·exact sgo trivial
 ·have h2 : 1 ≤ n ∧ n ≤ 11 := by omega
  by_cases h3 : 60 < rows.length
  ·have e : gnewE n rows = 3 := by unfold gnewE; rw [if_neg h1, if_pos h3]
   rw [e, if_neg (by decide), DGr0_eq]
   exact sgo trivial
  ·obtain ⟨m, rfl⟩ : ∃ m : Nat, n = m := ⟨n.toNat, by omega⟩
   have hi64 : m ≤ 11 := by omega
   refine sgo ?_
   refine zap (T := Nat × Nat) (fun t => ⟨E [(0, .int .i64 m), (1, .sl (rows.map RV)), (4, .ptr 0 1 0 0), (6, .int .i64 t.1)], Hp.upd (fun _ => none) 0 (some ⟨[.agg [.int .i64 0, .nil, .nil, .nil, .bool false, .sl [], .bool false, .sl []]], 8⟩), t.2, t.2⟩) (fun t => t.1 ≤ rows.length ∧ 0 < t.2 ∧ ∀ r ∈ rows.take t.1, zhh r m = true) (fun t => rows.length - t.1) (0, _) rfl ⟨zdo, zdo, by simp⟩ ?_
   rintro ⟨i, nx⟩ ⟨i1, i2, i3⟩
   dsimp only at i1 i2 i3
   by_cases hi : i < rows.length
   ·have hm := zao default hi
    have hrl := hr _ hm
    have ht := zbl default hi
    generalize hX : rows.getD i default = r at *
    simp -dsimp -implicitDefEqProofs (disch := try exact zdE) only [go_sem, hX]
    refine zaa (rright_ret r m (by omega)) (by simp) ?_
    cases hb : zhh r m
    ·have e : gnewE m rows = 160 := by
      unfold gnewE
      rw [if_neg h1, if_neg h3, if_pos]
      exact List.any_eq_true.2 ⟨r, hm, by simp [hb]⟩
     rw [e, if_neg (by decide), DGr0_eq]
     exact sgo trivial
    ·refine sgo ?_
     refine ⟨(i + 1, _), rfl, ⟨zdo, zdo, fun y hy => ?_⟩, zdo⟩
     dsimp only at hy
     rw [ht] at hy
     rcases List.mem_append.1 hy with hy | hy
     ·exact i3 y hy
     ·simp at hy; subst hy; exact hb
   ·rw [List.take_of_length_le (by omega)] at i3
    have e : gnewE m rows = 0 := by
     unfold gnewE
     rw [if_neg h1, if_neg h3, if_neg]
     simp only [List.any_eq_true, not_exists, not_and]
     exact fun r hrr => by simp [i3 r hrr]
    rw [e, if_pos rfl]
    refine sgo ?_
    refine zel (T := Nat × Nat) (fun t => ⟨E [(0, .int .i64 m), (1, .sl (rows.map RV)), (4, .ptr 0 1 0 0), (8, .own (nx + 5) m), (9, .int .i64 t.1)], (Hp.upd (fun _ => none) 0 (some ⟨[.agg [.int .i64 0, .nil, .nil, .nil, .bool false, .sl [], .bool false, .sl []]], 8⟩)).upd (nx + 5) (some ⟨els m t.1 (fun _ => ints (List.replicate m 0)), 1⟩), t.2, t.2⟩) (fun t => t.1 ≤ m ∧ nx + 5 < t.2) (fun t => m - t.1) (0, _) (by rw [els_zero]; exact Ghost.refl _) ⟨zdo, zdo⟩ ?_
    rintro ⟨k, nx2⟩ ⟨k1, k2⟩
    dsimp only at k1 k2
    by_cases hk : k < m
    ·simp -dsimp -implicitDefEqProofs (disch := try exact zdE) only [go_sem, storeO_elsO hk]
     generalize hHH : Hp.upd (Hp.upd (Hp.upd (Hp.upd _ 0 _) (nx + 5) _) (nx2 + 6) _) (nx + 5) _ = HH
     have q0 : HH 0 = some ⟨[.agg [.int .i64 0, .nil, .nil, .nil, .bool false, .sl [], .bool false, .sl []]], 8⟩ := by rw [← hHH, Hp.upd_ne _ _ (by omega), Hp.upd_ne _ _ (by omega), Hp.upd_ne _ _ (by omega), Hp.upd_same]
     have q1 : HH (nx2 + 6) = some ⟨(List.replicate m 0).map (V.int .i64), 1⟩ := by rw [← hHH, Hp.upd_ne _ _ (by omega), Hp.upd_same]
     have q2 : HH (nx + 5) = some ⟨(els m k fun x => ints (List.replicate m 0)).set k (.own (nx2 + 6) m), 1⟩ := by rw [← hHH, Hp.upd_same]
     have qt := els_told (n := m) (i := k) (c := nx2 + 6) (f := fun x => ints (List.replicate m 0)) (ys := (List.replicate m 0).map (V.int .i64)) hk (fun _ => by simp) rfl
     rw [List.length_map, List.length_replicate] at qt
     clear hHH
     refine ⟨(k + 1, _), ghost_told (fz1 (nx2 + 6) ((List.replicate m 0).map (V.int .i64))) (zd8 q1 zhj) (by simp -dsimp -implicitDefEqProofs (disch := try exact zdE) only [go_sem]) (fun b => ?_), ⟨zdo, zdo⟩, zdo⟩
     by_cases b5 : b = nx + 5
     ·subst b5
      refine .inr ?_
      rw [sub_at (fz1_ne (by omega)) q2 qt, Hp.upd_same]
     ·by_cases b0 : b = 0
      ·subst b0
       refine .inr ?_
       rw [sub_at (fz1_ne (by omega)) q0 (by simp -dsimp -implicitDefEqProofs (disch := try exact zdE) only [go_sem]; rfl), Hp.upd_ne _ _ (by omega), Hp.upd_same]
      ·refine .inl ?_
       rw [Hp.upd_ne _ _ b5, Hp.upd_ne _ _ b0]
    ·have hke : k = m := by omega
     subst hke
     have hz : (List.replicate k (List.replicate k (0 : Int))) = mat k fun _ _ => 0 := by
      refine List.ext_getElem (by simp [mat]) fun a h1 h2 => ?_
      simp only [mat, List.getElem_replicate, List.getElem_map, List.getElem_range]
      exact List.ext_getElem (by simp) fun b h3 h4 => by simp
     have he : els k k (fun _ => ints (List.replicate k 0)) = (List.replicate k (List.replicate k (0 : Int))).map ints := by
      rw [els_all]
      exact List.ext_getElem (by simp) fun a h1 h2 => by simp
     have h8 := r8of_ret (List.replicate k (List.replicate k 0)) (List.replicate k 0) 0 (by simp; omega) (fun r hr => by obtain ⟨_, rfl⟩ := List.mem_replicate.1 hr; exact ⟨by simp; omega, fun v hv => by obtain ⟨_, rfl⟩ := List.mem_replicate.1 hv; omega⟩) (fun v hv => by obtain ⟨_, rfl⟩ := List.mem_replicate.1 hv; omega) (by simp; omega) (by omega)
     have hA : (nx2 + 7 = nx + 5) = False := by simp; omega
     have hB : (nx + 5 = nx2 + 7) = False := by simp; omega
     have hC : (0 = nx + 5) = False := by simp
     have hD : (0 = nx2 + 7) = False := by simp
     simp -dsimp -implicitDefEqProofs (disch := try exact zdE) only [go_sem, he]
     refine zbo (fzp (nx + 5) ((List.replicate k (List.replicate k 0)).map ints) (nx2 + 7) ((List.replicate k 0).map (V.int .i64))) (fzp_ok (es := 1) (es' := 1) (by rw [Hp.upd_ne _ _ (by omega), Hp.upd_same]) (zbr fun x => by simp) (by rw [Hp.upd_same]) zhj) (by simp -dsimp -implicitDefEqProofs (disch := try exact zdE) only [go_sem, hA, hB]; rfl) h8 (by simp) ?_
     simp -dsimp -implicitDefEqProofs (disch := try exact zdE) only [go_sem, hA, hB, hC, hD]
     refine zaa (r_of 1 (by omega)) (by simp) ?_
     refine sgo ?_
     rw [hz]
     rfl
set_option maxHeartbeats 1000000 in
theorem rcurve_ret (g : Gr) (x : List Int) (hn : g.n = x.length) (hn11 : g.n ≤ 11) (hrows : g.rows.length ≤ 60) (hr : ∀ r ∈ g.rows, Right4 r x.length) (hx : State x) (hP : Sq g.P g.n) (sP : ∀ i j, dlim (at2 g.P i j) ≤ 1000000) (hd : dlim g.den ≤ 1000000) :
  Ret pg zd3 [DGV g, ints x] (.sl ((mat g.n (zbq g x)).map dvl)) := by
 refine gimbalref17_Graph_Curve.of rfl (W_b ?_)
 unfold gimbalref17_Graph_Curve.k gimbalref17_Graph_Curve.res Ot kp kd Oy Om Ol OL Oq Oi Oc On ci
 have hrow : ∀ k, ∀ y ∈ (List.range k).map (fun i => dvl ((List.range g.n).map (zbq g x i))), V.Pure y := fun k => zbr fun x => by simp
 have hbs := fun i j => bendSum_bd (rows := g.rows) (sh := zb6 g x) hr (shares_bd hr) i j
 refine sgo ?_
 refine zap (T := Nat × V × Hp × Nat) (fun t => ⟨E [(1, ints x), (2, .pp (DGV g)), (5, t.2.1), (6, .int .i64 t.1)], t.2.2.1, t.2.2.2, t.2.2.2⟩)
  (fun t => t.1 ≤ g.n ∧ Row 0 t.2.2.1 t.2.2.2 t.2.1 1 ((List.range t.1).map fun i => dvl ((List.range g.n).map (zbq g x i)))) (fun t => g.n - t.1) (0, .nil, _, _) rfl ⟨zdo, Row.nil _ _ _ _⟩ ?_
 rintro ⟨i, w, H, nx⟩ ⟨i1, i2⟩
 dsimp only at i1 i2
 by_cases hi : i < g.n
 ·refine sgo ?_
  refine zap (T := Nat × V × Hp × Nat) (fun t => ⟨E [(1, ints x), (2, .pp (DGV g)), (5, w), (6, .int .i64 i), (7, t.2.1), (8, .int .i64 t.1)], t.2.2.1, t.2.2.2, t.2.2.2⟩)
   (fun t => t.1 ≤ g.n ∧ nx ≤ t.2.2.2 ∧ (∀ b, b < nx → t.2.2.1 b = H b) ∧ Row nx t.2.2.1 t.2.2.2 t.2.1 2 (((List.range t.1).map (zbq g x i)).map DV)) (fun t => g.n - t.1) (0, .nil, H, _) rfl ⟨zdo, zdo, fun _ _ => rfl, Row.nil _ _ _ _⟩ ?_
  rintro ⟨j, u, H', nx'⟩ ⟨j1, j2, j3, j4⟩
  dsimp only at j1 j2 j3 j4
  by_cases hj : j < g.n
  ·refine sgo ?_
   refine zaa (r_of 0 (by omega)) (by simp) ?_
   simp -dsimp -implicitDefEqProofs (disch := try exact zdE) only [go_sem, ← zi2]
   refine zap (T := Nat × Hp × Nat) (fun t => ⟨E [(1, ints x), (2, .pp (DGV g)), (5, w), (6, .int .i64 i), (7, u), (8, .int .i64 j), (9, .ptr (nx' + 5) 1 0 0), (10, .int .i64 t.1)], t.2.1, t.2.2, t.2.2⟩)
    (fun t => t.1 ≤ g.rows.length ∧ nx' + 5 < t.2.2 ∧ (∀ b, b < nx' → t.2.1 b = H' b) ∧ t.2.1 (nx' + 5) = some ⟨[DV (zc0 g.rows (zb6 g x) i j t.1)], 2⟩) (fun t => g.rows.length - t.1) (0, H'.upd (nx' + 5) (some ⟨[DV 0], 2⟩), _) rfl ⟨zdo, zdo, fun b hb => Hp.upd_ne _ _ (by omega), Hp.upd_same _ _ _⟩ ?_
   rintro ⟨k, H3, nx3⟩ ⟨k1, k2, k3, k4⟩
   dsimp only at k1 k2 k3 k4
   have hb2 := hbs i j k
   by_cases hk : k < g.rows.length
   ·have hrk := hr _ (zao default hk)
    have hlen := hrk.len
    have hs := shares_bd (x := x) hr k
    have hb := bendAt_bd hrk hs i j
    have b1 := shareR_bd (x := x) hrk.kn
    have b2 := hrk.w
    have b3 := zfl (a := (g.rows.getD k default).w) (b := zh7 (g.rows.getD k default) x) (A := 100) (B := 1024) (by omega) (by omega)
    have e : (g.rows.getD k default).w * zh7 (g.rows.getD k default) x = (zb6 g x).getD k 0 := by simp [zb6, List.getD_eq_getElem?_getD, hk]
    have hsum : zc0 g.rows (zb6 g x) i j (k + 1) = zc0 g.rows (zb6 g x) i j k + bendAt (g.rows.getD k default) ((zb6 g x).getD k 0) i j := by unfold zc0; rw [sumZ, if_pos hk]
    have hba : (zb6 g x).getD k 0 * (g.rows.getD k default).co.getD i 0 * (g.rows.getD k default).co.getD j 0 = bendAt (g.rows.getD k default) ((zb6 g x).getD k 0) i j := rfl
    have l1 := zbx (x := zc0 g.rows (zb6 g x) i j k) (by omega)
    have l2 := zbx (x := bendAt (g.rows.getD k default) ((zb6 g x).getD k 0) i j) (by omega)
    simp -dsimp -implicitDefEqProofs (disch := try exact zdE) only [go_sem, k4]
    refine zab (rshare_ret _ x hrk hx) (by simp) ?_
    simp -dsimp -implicitDefEqProofs (disch := try exact zdE) only [go_sem, e, hba]
    refine zab (r_of _ ⟨by omega, by omega⟩) (by simp) ?_
    refine sgo ?_
    refine zab (r_add _ _ (by omega) (by omega)) (by simp) ?_
    have hsD : DV (zc0 g.rows (zb6 g x) i j k + bendAt (g.rows.getD k default) ((zb6 g x).getD k 0) i j) = DV (zc0 g.rows (zb6 g x) i j (k + 1)) := congrArg DV hsum.symm
    simp -dsimp -implicitDefEqProofs (disch := try exact zdE) only [go_sem, k4, hsD]
    generalize hH4 : Hp.upd (Hp.upd H3 _ _) (nx' + 5) _ = H4
    have q1 : H4 (nx' + 5) = some ⟨[DV (zc0 g.rows (zb6 g x) i j (k + 1))], 2⟩ := by rw [← hH4, Hp.upd_same]
    have q2 : ∀ b, b < nx' → H4 b = H' b := fun b hb => by rw [← hH4, Hp.upd_ne _ _ (by omega), Hp.upd_ne _ _ (by omega)]; exact k3 b hb
    exact ⟨(k + 1, H4, _), rfl, ⟨zdo, zdo, q2, q1⟩, zdo⟩
   ·have hke : k = g.rows.length := by omega
    subst hke
    have hP1 := hP.1
    have hPr := hP.row hi
    have e1 : (g.P.getD i []).getD j 0 = at2 g.P i j := rfl
    have l1 := zbx (x := zc0 g.rows (zb6 g x) i j g.rows.length) (by omega)
    have l2 := zgs g.den (zc0 g.rows (zb6 g x) i j g.rows.length)
    have l3 := zbx (x := 1024) (by omega)
    have l4 := sP i j
    have l5 := zgs 1024 (at2 g.P i j)
    have ec : g.den * zc0 g.rows (zb6 g x) i j g.rows.length + 1024 * at2 g.P i j = zbq g x i j := by unfold zbq; rw [Int.mul_comm, Int.mul_comm 1024]
    simp -dsimp -implicitDefEqProofs (disch := try exact zdE) only [go_sem, k4]
    refine zab (r_mul _ _ (by omega) (by omega)) (by simp) ?_
    refine sgo ?_
    refine zab (r_of 1024 (by omega)) (by simp) ?_
    simp -dsimp -implicitDefEqProofs (disch := try exact zdE) only [go_sem, e1]
    refine zab (r_mul _ _ (by omega) (by omega)) (by simp) ?_
    refine sgo ?_
    refine zab (r_add _ _ (by omega) (by omega)) (by simp) ?_
    have hec : DV (g.den * zc0 g.rows (zb6 g x) i j g.rows.length + 1024 * at2 g.P i j) = DV (zbq g x i j) := congrArg DV ec
    simp -dsimp -implicitDefEqProofs (disch := try exact zdE) only [go_sem, hec]
    have j5 : Row nx H3 nx3 u 2 (((List.range j).map (zbq g x i)).map DV) := j4.same k3 (by omega)
    refine zaz (lo := nx) (nx := nx3) (H0 := H3) (xs := ((List.range j).map (zbq g x i)).map DV) j5 (by omega) rfl (by omega) (by omega) (by simp [rowOk, V.cells, V.cellOk, DV]) (by decide) (by simp; omega) (by simp; omega) fun v2 H2 r1 _ _ r4 => ?_
    rw [zdf, zci] at r1
    refine sgo ?_
    exact ⟨(j + 1, v2, H2, _), rfl, ⟨zdo, zdo, fun b hb => (r4 b hb).trans ((k3 b (by omega)).trans (j3 b hb)), r1.same (fun _ _ => rfl) zdo⟩, zdo⟩
  ·have hje : j = g.n := by omega
   subst hje
   have i3' : Row 0 H' nx w 1 ((List.range i).map fun i => dvl ((List.range g.n).map (zbq g x i))) := i2.same j3 (Nat.le_refl _)
   refine sgo ?_
   refine gh_row (lo := nx) (ys := ((List.range g.n).map (zbq g x i)).map DV) 7 rfl (j4.same (fun _ _ => rfl) (by omega)) (zbr fun x => by simp) (fun p hp hne c hc => ?_) fun H2 hH2 => ?_
   ·simp only [List.mem_cons, List.not_mem_nil, or_false] at hp
    rcases hp with rfl | rfl | rfl | rfl | rfl | rfl | rfl <;> first | exact absurd rfl hne | (simp [V.sub, sub_ints]; done) | exact i2.sub_ge (by omega)
   ·have i4 := i3'.told (Nat.le_refl _) j2 (hrow i) hH2
    have e7 : V.sl (((List.range g.n).map (zbq g x i)).map DV) = dvl ((List.range g.n).map (zbq g x i)) := rfl
    simp -dsimp -implicitDefEqProofs (disch := try exact zdE) only [go_sem, e7]
    refine zaz (lo := 0) (nx := nx') (H0 := H2) (xs := (List.range i).map fun i => dvl ((List.range g.n).map (zbq g x i))) i4 (by omega) rfl (by omega) (by omega) (by simp [rowOk, V.cells, V.cellOk, dvl, V.isJunk]) (by decide) (by simp; omega) (by simp; omega) fun v2 H3 r1 _ _ r4 => ?_
    rw [zci (fun i => dvl ((List.range g.n).map (zbq g x i)))] at r1
    refine sgo ?_
    exact ⟨(i + 1, v2, H3, _), rfl, ⟨zdo, r1.same (fun _ _ => rfl) zdo⟩, zdo⟩
 ·have hie : i = g.n := by omega
  subst hie
  refine sgo ?_
  rw [i2.frz (zc5 fun x => rfl)]
  simp only [mat, List.map_map]
  rfl
end Go.Gim
/- Mirrored rows, and graphs that are read: what they are. -/
set_option maxRecDepth 100000
set_option maxHeartbeats 4000000
namespace Go.Gim
open Go.Proofs
def newG (n : Int) (rows : List Row4) : Gr := if gnewE n rows = 0 then ⟨n.toNat, rows, mat n.toNat (fun _ _ => 0), List.replicate n.toNat 0, 0, 1⟩ else Gr0
theorem gnewE_ok {n : Int} {rows : List Row4} (h : gnewE n rows = 0) : (1 ≤ n ∧ n ≤ 11) ∧ rows.length ≤ 60 ∧ ∀ r ∈ rows, zhh r n = true := by
 unfold gnewE at h
 split at h
 ·cases h
 ·split at h
  ·cases h
  ·split at h
   ·cases h
   ·rename_i h1 h2 h3
    refine ⟨by omega, by omega, fun r hr => ?_⟩
    cases hb : zhh r n
    ·exact absurd (List.any_eq_true.2 ⟨r, hr, by simp [hb]⟩) h3
    ·rfl
end Go.Gim

import Derived.Test.YtjkjpjneeioeiaaGreatFA2
import Derived.Test.YtjkjpjneeioeiaaGreatLR4
import Derived.Test.YtjkjpjneeioeiaaGreatLR5
import Derived.Test.YtjkjpjneeioeiaaGreatGRR
import Derived.Test.YtjkjpjneeioeiaaGreatRL0
import Derived.Test.YtjkjpjneeioeiaaGreatGA7
import Derived.Test.YtjkjpjneeioeiaaGreatSM0
set_option linter.unusedSimpArgs false
set_option linter.unusedVariables false
/- The document's rows: whether they are the same, may be, what they lack, how much they count. -/
set_option maxRecDepth 100000
namespace Go.Gim
open Go.Proofs
theorem rout_ret (n low top : Int) : Ret pg zbt [.int .i64 n, .int .i64 low, .int .i64 top] (.bool (outB n low top)) := by
 refine gimbalref16_out.of rfl (W_b ?_)
 unfold gimbalref16_out.k gimbalref16_out.res Ot kp Og Om outB
 by_cases h : n < low
 ·simp -dsimp -implicitDefEqProofs (disch := try exact zdE) only [go_sem, decide_eq_true h, Bool.true_or]
 ·simp -dsimp -implicitDefEqProofs (disch := try exact zdE) only [go_sem, decide_eq_false h, Bool.false_or]
set_option maxHeartbeats 1000000 in
theorem rright_ret (r : Row4) (n : Int) (hl : r.co.length ≤ 9223372036854775807) : Ret pg zee [RV r, .int .i64 n] (.bool (zfo r n)) := by
 refine gimbalref16_Right.of rfl (W_b ?_)
 unfold gimbalref16_Right.k gimbalref16_Right.res Ot kp Og Om Ol Oq Oi Oc On ci zfo
 by_cases h1 : (r.co.length : Int) = n
 ·by_cases h2 : n ≤ 11
  ·subst h1
   refine sgo ?_
   refine zaa (rout_ret _ _ _) (by simp) ?_
   cases hz : outB r.z (-1000000000) 1000000000
   ·refine sgo ?_
    refine zaa (rout_ret _ _ _) (by simp) ?_
    cases hk : outB r.kn 1 32768
    ·refine sgo ?_
     refine zaa (rout_ret _ _ _) (by simp) ?_
     cases hw : outB r.w 1 100
     ·refine sgo ?_
      refine zam (T := Nat × Nat) (fun t => ⟨E [(1, .int .i64 r.co.length), (2, .pp (RV r)), (5, .int .i64 t.1)], fun _ => none, t.2, t.2⟩) (fun t => t.1 ≤ r.co.length ∧ ∀ x ∈ r.co.take t.1, outB x (-1000) 1000 = false) (fun t => r.co.length - t.1) (0, _) rfl ⟨zdo, by simp⟩ ?_
      rintro ⟨i, nx⟩ ⟨i1, i2⟩
      dsimp only at i1 i2
      by_cases hi : i < r.co.length
      ·have hm := zai 0 hi
       have ht := zbp 0 hi
       generalize hX : r.co.getD i 0 = x at *
       simp -dsimp -implicitDefEqProofs (disch := try exact zdE) only [go_sem, hX]
       refine zaa (rout_ret _ _ _) (by simp) ?_
       cases hb : outB x (-1000) 1000
       ·simp -dsimp -implicitDefEqProofs (disch := try exact zdE) only [go_sem, hX]
        refine ⟨(i + 1, _), rfl, ⟨zdo, fun y hy => ?_⟩, zdo⟩
        dsimp only at hy
        rw [ht] at hy
        rcases List.mem_append.1 hy with hy | hy
        ·exact i2 y hy
        ·simp at hy; subst hy; exact hb
       ·have hall : (r.co.all fun a => !outB a (-1000) 1000) = false := List.all_eq_false.2 ⟨x, hm, by simp [hb]⟩
        rw [hall]
        exact sgo trivial
      ·rw [List.take_of_length_le (by omega)] at i2
       have hall : (r.co.all fun a => !outB a (-1000) 1000) = true := List.all_eq_true.2 fun x hx => by simp [i2 x hx]
       rw [hall]
       exact sgo trivial
     ·refine sgo ?_
      simp
    ·refine sgo ?_
     simp
   ·refine sgo ?_
    simp
  ·subst h1
   refine sgo ?_
   simp [h2]
 ·refine sgo ?_
  simp [h1]
def zdv (x : List Int) : Bool := x.all fun v => !outB v (-1000000) 1000000
theorem stateB_iff {x : List Int} : zdv x = true ↔ State x := by simp [zdv, State, outB, Bool.and_eq_true]
theorem rstate_ret (x : List Int) (hl : x.length ≤ 9223372036854775807) : Ret pg zcx [ints x] (.bool (zdv x)) := by
 refine gimbalref16_State.of rfl (W_b ?_)
 unfold gimbalref16_State.k gimbalref16_State.res Ot kp Om Ol Oi Oc On ci
 refine sgo ?_
 refine zam (T := Nat × Nat) (fun t => ⟨E [(0, ints x), (3, .int .i64 t.1)], fun _ => none, t.2, t.2⟩) (fun t => t.1 ≤ x.length ∧ ∀ y ∈ x.take t.1, outB y (-1000000) 1000000 = false) (fun t => x.length - t.1) (0, _) rfl ⟨zdo, by simp⟩ ?_
 rintro ⟨i, nx⟩ ⟨i1, i2⟩
 dsimp only at i1 i2
 by_cases hi : i < x.length
 ·have hm := zai 0 hi
  have ht := zbp 0 hi
  generalize hX : x.getD i 0 = v at *
  simp -dsimp -implicitDefEqProofs (disch := try exact zdE) only [go_sem, hX]
  refine zaa (rout_ret _ _ _) (by simp) ?_
  cases hb : outB v (-1000000) 1000000
  ·simp -dsimp -implicitDefEqProofs (disch := try exact zdE) only [go_sem, hX]
   refine ⟨(i + 1, _), rfl, ⟨zdo, fun y hy => ?_⟩, zdo⟩
   dsimp only at hy
   rw [ht] at hy
   rcases List.mem_append.1 hy with hy | hy
   ·exact i2 y hy
   ·simp at hy; subst hy; exact hb
  ·have hall : zdv x = false := List.all_eq_false.2 ⟨v, hm, by simp [hb]⟩
   rw [hall]
   exact sgo trivial
 ·rw [List.take_of_length_le (by omega)] at i2
  have hall : zdv x = true := List.all_eq_true.2 fun y hy => by simp [i2 y hy]
  rw [hall]
  exact sgo trivial
end Go.Gim
/- The document's graphs: made of rows; how the cost bends. -/
set_option maxRecDepth 100000
set_option maxHeartbeats 4000000
namespace Go.Gim
open Go.Proofs
def DGV (g : Gr) : V := .agg [.int .i64 g.n, .sl (g.rows.map RV), .sl (g.P.map dvl), dvl g.Q, .bool (decide (g.c < 0)), .sl (nats .i64 (digs 10 g.c.natAbs)), .bool (decide (g.den < 0)), .sl (nats .i64 (digs 10 g.den.natAbs))]
@[simp] theorem DGV_pure (g) : (DGV g).Pure := by simp [DGV]
theorem sub_DGV (g : Nat → Option (List V)) (x : Gr) : V.sub g (DGV x) = DGV x := zck _ (DGV_pure x)
theorem DGV_cells (g) : (DGV g).cells = [.int .i64 g.n, .sl (g.rows.map RV), .sl (g.P.map dvl), dvl g.Q, .bool (decide (g.c < 0)), .sl (nats .i64 (digs 10 g.c.natAbs)), .bool (decide (g.den < 0)), .sl (nats .i64 (digs 10 g.den.natAbs))] := rfl
theorem DGV_isAgg (g) : (DGV g).isAgg = true := rfl
@[simp] theorem DGV_isJunk (g) : (DGV g).isJunk = false := rfl
theorem part_DGV (g) : V.part (DGV g) 0 8 true = some (DGV g) := rfl
theorem frz_DGV (H : Hp) (n : Nat) (g) : frz H (n + 2) (DGV g) = some (DGV g) := rfl
attribute [go_sem] DGV_cells DGV_isAgg DGV_isJunk part_DGV frz_DGV sub_DGV
theorem DGr0_eq : DGV Gr0 = .agg [.int .i64 0, .sl [], .sl [], .sl [], .bool false, .sl [], .bool false, .sl []] := by
 unfold DGV Gr0
 dsimp only
 rw [show (0 : Int).natAbs = 0 from rfl, zbk]; rfl
theorem rnew_ret (n : Int) (rows : List Row4) (hl : rows.length ≤ 9223372036854775807) (hr : ∀ r ∈ rows, r.co.length ≤ 9223372036854775807) :
  Ret pg zfb [.int .i64 n, .sl (rows.map RV)] (.tup [DGV (if gnewE n rows = 0 then ⟨n.toNat, rows, mat n.toNat (fun _ _ => 0), List.replicate n.toNat 0, 0, 1⟩ else Gr0), .int .i64 (gnewE n rows)]) := by
 refine gimbalref17_New.of rfl (W_b ?_)
 unfold gimbalref17_New.k gimbalref17_New.res Ot kp Og Oy Om OL Oi Oc On ci
 by_cases h1 : n < 1 ∨ 11 < n
 ·have e : gnewE n rows = 1 := by unfold gnewE; rw [if_pos h1]
  rw [e, if_neg (by decide), DGr0_eq]
  rcases h1 with h1 | h1
  ·exact sgo trivial
  ·by_cases h2 : n < 1
   ·omega
   ·exact sgo trivial
 ·have h2 : 1 ≤ n ∧ n ≤ 11 := by omega
  by_cases h3 : 60 < rows.length
  ·have e : gnewE n rows = 3 := by unfold gnewE; rw [if_neg h1, if_pos h3]
   rw [e, if_neg (by decide), DGr0_eq]
   exact sgo trivial
  ·obtain ⟨m, rfl⟩ : ∃ m : Nat, n = m := ⟨n.toNat, by omega⟩
   have hi64 : m ≤ 11 := by omega
   refine sgo ?_
   refine zam (T := Nat × Nat) (fun t => ⟨E [(0, .int .i64 m), (1, .sl (rows.map RV)), (4, .ptr 0 1 0 0), (6, .int .i64 t.1)], Hp.upd (fun _ => none) 0 (some ⟨[.agg [.int .i64 0, .nil, .nil, .nil, .bool false, .sl [], .bool false, .sl []]], 8⟩), t.2, t.2⟩) (fun t => t.1 ≤ rows.length ∧ 0 < t.2 ∧ ∀ r ∈ rows.take t.1, zfo r m = true) (fun t => rows.length - t.1) (0, _) rfl ⟨zdo, zdo, by simp⟩ ?_
   rintro ⟨i, nx⟩ ⟨i1, i2, i3⟩
   dsimp only at i1 i2 i3
   by_cases hi : i < rows.length
   ·have hm := zai default hi
    have hrl := hr _ hm
    have ht := zbp default hi
    generalize hX : rows.getD i default = r at *
    simp -dsimp -implicitDefEqProofs (disch := try exact zdE) only [go_sem, hX]
    refine zaa (rright_ret r m (by omega)) (by simp) ?_
    cases hb : zfo r m
    ·have e : gnewE m rows = 160 := by
      unfold gnewE
      rw [if_neg h1, if_neg h3, if_pos]
      exact List.any_eq_true.2 ⟨r, hm, by simp [hb]⟩
     rw [e, if_neg (by decide), DGr0_eq]
     exact sgo trivial
    ·refine sgo ?_
     refine ⟨(i + 1, _), rfl, ⟨zdo, zdo, fun y hy => ?_⟩, zdo⟩
     dsimp only at hy
     rw [ht] at hy
     rcases List.mem_append.1 hy with hy | hy
     ·exact i3 y hy
     ·simp at hy; subst hy; exact hb
   ·rw [List.take_of_length_le (by omega)] at i3
    have e : gnewE m rows = 0 := by
     unfold gnewE
     rw [if_neg h1, if_neg h3, if_neg]
     simp only [List.any_eq_true, not_exists, not_and]
     exact fun r hrr => by simp [i3 r hrr]
    rw [e, if_pos rfl]
    refine sgo ?_
    refine zff (T := Nat × Nat) (fun t => ⟨E [(0, .int .i64 m), (1, .sl (rows.map RV)), (4, .ptr 0 1 0 0), (8, .own (nx + 5) m), (9, .int .i64 t.1)], (Hp.upd (fun _ => none) 0 (some ⟨[.agg [.int .i64 0, .nil, .nil, .nil, .bool false, .sl [], .bool false, .sl []]], 8⟩)).upd (nx + 5) (some ⟨els m t.1 (fun _ => ints (List.replicate m 0)), 1⟩), t.2, t.2⟩) (fun t => t.1 ≤ m ∧ nx + 5 < t.2) (fun t => m - t.1) (0, _) (by rw [els_zero]; exact Ghost.refl _) ⟨zdo, zdo⟩ ?_
    rintro ⟨k, nx2⟩ ⟨k1, k2⟩
    dsimp only at k1 k2
    by_cases hk : k < m
    ·simp -dsimp -implicitDefEqProofs (disch := try exact zdE) only [go_sem, storeO_elsO hk]
     generalize hHH : Hp.upd (Hp.upd (Hp.upd (Hp.upd _ 0 _) (nx + 5) _) (nx2 + 6) _) (nx + 5) _ = HH
     have q0 : HH 0 = some ⟨[.agg [.int .i64 0, .nil, .nil, .nil, .bool false, .sl [], .bool false, .sl []]], 8⟩ := by rw [← hHH, Hp.upd_ne _ _ (by omega), Hp.upd_ne _ _ (by omega), Hp.upd_ne _ _ (by omega), Hp.upd_same]
     have q1 : HH (nx2 + 6) = some ⟨(List.replicate m 0).map (V.int .i64), 1⟩ := by rw [← hHH, Hp.upd_ne _ _ (by omega), Hp.upd_same]
     have q2 : HH (nx + 5) = some ⟨(els m k fun x => ints (List.replicate m 0)).set k (.own (nx2 + 6) m), 1⟩ := by rw [← hHH, Hp.upd_same]
     have qt := els_told (n := m) (i := k) (c := nx2 + 6) (f := fun x => ints (List.replicate m 0)) (ys := (List.replicate m 0).map (V.int .i64)) hk (fun _ => by simp) rfl
     rw [List.length_map, List.length_replicate] at qt
     clear hHH
     refine ⟨(k + 1, _), ghost_told (fz1 (nx2 + 6) ((List.replicate m 0).map (V.int .i64))) (zdk q1 zep) (by simp -dsimp -implicitDefEqProofs (disch := try exact zdE) only [go_sem]) (fun b => ?_), ⟨zdo, zdo⟩, zdo⟩
     by_cases b5 : b = nx + 5
     ·subst b5
      refine .inr ?_
      rw [sub_at (fz1_ne (by omega)) q2 qt, Hp.upd_same]
     ·by_cases b0 : b = 0
      ·subst b0
       refine .inr ?_
       rw [sub_at (fz1_ne (by omega)) q0 (by simp -dsimp -implicitDefEqProofs (disch := try exact zdE) only [go_sem]; rfl), Hp.upd_ne _ _ (by omega), Hp.upd_same]
      ·refine .inl ?_
       rw [Hp.upd_ne _ _ b5, Hp.upd_ne _ _ b0]
    ·have hke : k = m := by omega
     subst hke
     have hz : (List.replicate k (List.replicate k (0 : Int))) = mat k fun _ _ => 0 := by
      refine List.ext_getElem (by simp [mat]) fun a h1 h2 => ?_
      simp only [mat, List.getElem_replicate, List.getElem_map, List.getElem_range]
      exact List.ext_getElem (by simp) fun b h3 h4 => by simp
     have he : els k k (fun _ => ints (List.replicate k 0)) = (List.replicate k (List.replicate k (0 : Int))).map ints := by
      rw [els_all]
      exact List.ext_getElem (by simp) fun a h1 h2 => by simp
     have h8 := r8of_ret (List.replicate k (List.replicate k 0)) (List.replicate k 0) 0 (by simp; omega) (fun r hr => by obtain ⟨_, rfl⟩ := List.mem_replicate.1 hr; exact ⟨by simp; omega, fun v hv => by obtain ⟨_, rfl⟩ := List.mem_replicate.1 hv; omega⟩) (fun v hv => by obtain ⟨_, rfl⟩ := List.mem_replicate.1 hv; omega) (by simp; omega) (by omega)
     have hA : (nx2 + 7 = nx + 5) = False := by simp; omega
     have hB : (nx + 5 = nx2 + 7) = False := by simp; omega
     have hC : (0 = nx + 5) = False := by simp
     have hD : (0 = nx2 + 7) = False := by simp
     simp -dsimp -implicitDefEqProofs (disch := try exact zdE) only [go_sem, he]
     refine zbf (fzp (nx + 5) ((List.replicate k (List.replicate k 0)).map ints) (nx2 + 7) ((List.replicate k 0).map (V.int .i64))) (fzp_ok (es := 1) (es' := 1) (by rw [Hp.upd_ne _ _ (by omega), Hp.upd_same]) (zd5 fun x => by simp) (by rw [Hp.upd_same]) zep) (by simp -dsimp -implicitDefEqProofs (disch := try exact zdE) only [go_sem, hA, hB]; rfl) h8 (by simp) ?_
     simp -dsimp -implicitDefEqProofs (disch := try exact zdE) only [go_sem, hA, hB, hC, hD]
     refine zaa (r_of 1 (by omega)) (by simp) ?_
     refine sgo ?_
     rw [hz]
     rfl
end Go.Gim
/- Mirrored rows, and graphs that are read: what they are. -/
set_option maxRecDepth 100000
set_option maxHeartbeats 4000000
namespace Go.Gim
open Go.Proofs
def newG (n : Int) (rows : List Row4) : Gr := if gnewE n rows = 0 then ⟨n.toNat, rows, mat n.toNat (fun _ _ => 0), List.replicate n.toNat 0, 0, 1⟩ else Gr0
theorem gnewE_ok {n : Int} {rows : List Row4} (h : gnewE n rows = 0) : (1 ≤ n ∧ n ≤ 11) ∧ rows.length ≤ 60 ∧ ∀ r ∈ rows, zfo r n = true := by
 unfold gnewE at h
 split at h
 ·cases h
 ·split at h
  ·cases h
  ·split at h
   ·cases h
   ·rename_i h1 h2 h3
    refine ⟨by omega, by omega, fun r hr => ?_⟩
    cases hb : zfo r n
    ·exact absurd (List.any_eq_true.2 ⟨r, hr, by simp [hb]⟩) h3
    ·rfl
end Go.Gim

import Derived.Test.YtjkjpjneeioeiaaGreatSM0
import Derived.Test.YtjkjpjneeioeiaaGreatLB2
import Derived.Test.YtjkjpjneeioeiaaGreatQP2
set_option linter.unusedSimpArgs false
set_option linter.unusedVariables false
/- Quadratic functions: parts of matrices, lists times a number, sums. -/
set_option maxRecDepth 100000
set_option maxHeartbeats 4000000
namespace Go.Gim
open Go.Proofs
theorem Row.not_row2 {lo lo' nx nx' es es' : Nat} {H : Hp} {v w : V} {xs ys : List V} (h : Row lo H nx v es xs) (hw : Row lo' H nx' w es' ys) (hne : es ≠ es') : Sep v w := fun b n m h1 h2 => by
 rcases h with ⟨h, _⟩ | ⟨d, e1, e2, e3, e4⟩
 ·rw [h] at h1; cases h1
 ·rw [e1] at h1; cases h1
  rcases hw with ⟨g, _⟩ | ⟨d', g1, g2, g3, g4⟩
  ·rw [g] at h2; cases h2
  ·rw [g1] at h2; cases h2
   rw [e4] at g4; cases g4; exact hne rfl
theorem get_getD (l : List Int) (j : Nat) (h : j < l.length) : l[j] = l.getD j 0 := by simp [List.getD_eq_getElem?_getD, h]
theorem take_F {l : List Int} {n k : Nat} (hl : l.length = n) (hk : k ≤ n) : l.take k = rowF k fun j => l.getD j 0 := by
 refine List.ext_getElem (by rw [List.length_take, hl, zal]; omega) fun j h1 h2 => ?_
 rw [zal] at h2
 have h3 := zbh (w := k) (f := fun j => l.getD j 0) h2
 rw [← get_getD _ _ (by rw [zal]; exact h2)] at h3
 rw [h3, List.getElem_take]
 exact get_getD _ _ _
theorem list_F {l : List Int} {n : Nat} (hl : l.length = n) : l = rowF n fun j => l.getD j 0 := by
 rw [← take_F hl (Nat.le_refl n), ← hl, List.take_length]
theorem slc_ivl {l : List Int} {k : Nat} {ki : IntKind} (h : k ≤ l.length) : redV (.slc 2 false true false) [ivl l, .int ki (k : Int)] = some (ivl (l.take k)) := by
 rw [ivl_eq, zea (by omega) (by rw [List.length_map]; omega) (by decide), Int.toNat_natCast, ← List.map_take]; rfl
theorem slc_ivm {m : List (List Int)} {k : Nat} {ki : IntKind} (h : k ≤ m.length) : redV (.slc 1 false true false) [.sl (m.map ivl), .int ki (k : Int)] = some (.sl ((m.take k).map ivl)) := by
 rw [zea (by omega) (by rw [List.length_map]; omega) (by decide), Int.toNat_natCast, ← List.map_take]
theorem slc3_ivl {l : List Int} {k : Nat} {k1 k2 : IntKind} (h0 : 0 < k) (h : k ≤ l.length) : redV (.slc 2 false true true) [ivl l, .int k1 (k : Int), .int k2 (k : Int)] = some (ivl (l.take k)) := by
 rw [ivl_eq, zcp (by omega) (by rw [List.length_map]; omega) (by decide), Int.toNat_natCast, ← List.map_take]; rfl
theorem qfirst_ret (P : List (List Int)) (n k : Nat) (hn : n ≤ 1000) (hP : Sq P n) (hk : k ≤ n) : Ret pg n_quad_first [.sl (P.map ivl), .int .i64 k] (.sl ((mat k (at2 P)).map ivl)) := by
 have hl := hP.1
 have hs := slc_ivm (m := P) (k := k) (ki := .i64) (by omega)
 have hlt : (P.take k).length = k := by rw [List.length_take]; omega
 have hgt : ∀ j, j < k → (P.take k).getD j [] = P.getD j [] := fun j hj => by simp [List.getD_eq_getElem?_getD, List.getElem?_take, hj]
 refine quad_first.of rfl (W_b ?_)
 unfold quad_first.k quad_first.res Ot kp Om Ol Oi Oc On ci
 simp -dsimp -implicitDefEqProofs (disch := try exact zdE) only [go_sem, hs, hlt]
 generalize P.take k = T at hlt hgt ⊢
 refine zap (T := Nat × V × Hp × Nat) (fun t => ⟨E [(1, .int .i64 k), (5, t.2.1), (10, .sl (T.map ivl)), (11, .int .i64 k), (12, .int .i64 t.1)], t.2.2.1, t.2.2.2, t.2.2.2⟩)
  (fun t => t.1 ≤ k ∧ Row 0 t.2.2.1 t.2.2.2 t.2.1 1 ((List.range t.1).map fun i => ivl (rowF k (at2 P i)))) (fun t => k - t.1) (0, .nil, _, _) rfl ⟨zdo, Row.nil _ _ _ _⟩ ?_
 rintro ⟨i, w, H, nx⟩ ⟨i1, i2⟩
 dsimp only at i1 i2
 by_cases hi : i < k
 ·have hr := hP.row (show i < n by omega)
  have hgi := hgt i hi
  have hs3 := slc3_ivl (l := P.getD i []) (k := k) (k1 := .i64) (k2 := .i64) (by omega) (by omega)
  rw [take_F hr hk] at hs3
  have e : (rowF k fun j => (P.getD i []).getD j 0) = rowF k (at2 P i) := rfl
  rw [e] at hs3
  simp -dsimp -implicitDefEqProofs (disch := try exact zdE) only [go_sem, hlt, hgi]
  refine W_gh0 ?_
  simp -dsimp -implicitDefEqProofs (disch := try exact zdE) only [go_sem, hlt, hgi, hs3]
  refine zaq (lo := 0) (nx := nx) (H0 := H) (xs := (List.range i).map fun i => ivl (rowF k (at2 P i))) i2 (by omega) rfl (by omega) (by omega) (by simp [rowOk, V.cells, V.cellOk, V.isJunk, ivl]) (by decide) (by simp; omega) (by simp; omega) fun v2 H2 r1 _ _ r4 => ?_
  rw [zat (fun i => ivl (rowF k (at2 P i)))] at r1
  refine sgo ?_
  exact ⟨(i + 1, v2, H2, _), rfl, ⟨zdo, r1.same (fun _ _ => rfl) zdo⟩, zdo⟩
 ·have hie : i = k := by omega
  subst hie
  refine sgo ?_
  rw [i2.frz (zdf fun x hx => by obtain ⟨q, _, rfl⟩ := List.mem_map.1 hx; rfl)]
  unfold mat
  rw [List.map_map]
  rfl
def sumTo (x y : List Int) (n i : Nat) : List Int := (List.range n).map fun k => if k < i then x.getD k 0 + y.getD k 0 else x.getD k 0
theorem sumTo_set {x y : List Int} {n i : Nat} : (sumTo x y n i).set i (x.getD i 0 + y.getD i 0) = sumTo x y n (i + 1) := by
 unfold sumTo
 rw [zht]
 refine List.map_congr_left fun k _ => ?_
 by_cases h : k = i
 ·subst h; rw [if_pos rfl, if_pos (by omega)]
 ·rw [if_neg h]
  by_cases h2 : k < i
  ·rw [if_pos h2, if_pos (by omega)]
  ·rw [if_neg h2, if_neg (by omega)]
theorem idxB_one {l : List Int} {dr : Bool} {nx : Nat} {H : Hp} {k : IntKind} {j : Int} {Kn : V → Prop} {u : Dep Kn} (h : j = 0) : idxB dr nx H 1 (.sl [ivl l]) (.int k j) Kn u = Kn (.pp (ivl l)) := by
 subst h; exact zet (f := ivl) (l := [l]) [] (fun _ => rfl) (by decide) (by simp)
theorem qsums_ret (x y : List Int) (hl : x.length ≤ 1000) (hy : x.length ≤ y.length) (sx : ∀ i, lim (x.getD i 0) ≤ 4000000) (sy : ∀ i, lim (y.getD i 0) ≤ 4000000) : Ret pg zg6 [ivl x, .sl [ivl y]] (ivl ((List.range x.length).map fun k => x.getD k 0 + y.getD k 0)) := by
 have hs0 : redV (.slc 2 false true true) [ivl x, .int .i64 0, .int .i64 0] = some .nil := zb0 rfl (by decide)
 refine quad_sums.of rfl (W_b ?_)
 unfold quad_sums.k quad_sums.res Ot kp kd Oy Om Ol OL Oi Oc On ci
 have sumT0 : x = sumTo x y x.length 0 := by
  rw [list_F (l := x) rfl]
  unfold sumTo
  rw [zal]
  exact List.map_congr_left fun k hk => by rw [if_neg (by omega), zbh (List.mem_range.1 hk)]
 have sumTl : ∀ i, (sumTo x y x.length i).length = x.length := fun i => by simp [sumTo]
 have sumTg : ∀ i, i < x.length → (sumTo x y x.length i).getD i 0 = x.getD i 0 := fun i hi => by unfold sumTo; rw [zeg 0 hi, if_neg (by omega)]
 by_cases h0 : x = []
 ·subst h0
  simp -dsimp -implicitDefEqProofs (disch := try exact zdE) only [go_sem, hs0]
  refine zfo (v := .nil) (H := fun _ => none) rfl ?_
  refine sgo ?_
  refine zap (T := Nat × Nat) (fun t => ⟨E [(5, .nil), (13, .sl [ivl y]), (14, .int .i64 1), (15, .int .i64 t.1)], fun _ => none, t.2, t.2⟩) (fun t => t.1 ≤ 1) (fun t => 1 - t.1) (0, _) rfl zdo ?_
  rintro ⟨i, nx⟩ i1
  dsimp only at i1
  by_cases hi : i < 1
  ·obtain rfl : i = 0 := by omega
   simp -dsimp -implicitDefEqProofs (disch := try exact zdE) only [go_sem, idxB_one]
   refine zap (T := Nat) (fun t => ⟨E [(5, .nil), (7, ivl y), (13, .sl [ivl y]), (14, .int .i64 1), (15, .int .i64 0), (20, .int .i64 0), (21, .int .i64 0)], fun _ => none, t, t⟩) (fun _ => True) (fun t => 0) _ rfl trivial ?_
   intro nx' _
   refine sgo ?_
   exact ⟨(1, _), rfl, zdo, zdo⟩
  ·obtain rfl : i = 1 := by omega
   refine sgo ?_
   rfl
 ·have hpos : 0 < x.length := List.length_pos_iff.2 h0
  have hx : ivl x = .sl (x.map IV) := rfl
  simp -dsimp -implicitDefEqProofs (disch := try exact zdE) only [go_sem, hs0]
  obtain ⟨e0, l0, hxe⟩ : ∃ e l, x.map IV = e :: l := by cases x with | nil => exact absurd rfl h0 | cons a l => exact ⟨_, _, rfl⟩
  refine zfo (app_nil (e := e0) (l := l0) (by rw [← hxe]; rfl) (by rw [← hxe]; exact rowOk_iv x) (by decide) ?_ ?_) ?_
  ·have := congrArg List.length hxe; simp at this; omega
  ·have := congrArg List.length hxe; simp at this; omega
  have hle : l0.length + 1 = x.length := by have := congrArg List.length hxe; simp at this; omega
  rw [hle, ← hxe]
  refine sgo ?_
  refine zap (T := Nat × Nat) (fun t => ⟨E [(5, .own 4 x.length), (13, .sl [ivl y]), (14, .int .i64 1), (15, .int .i64 t.1)], Hp.upd (fun _ => none) 4 (some ⟨(if t.1 = 0 then x else sumTo x y x.length x.length).map IV, 2⟩), t.2, t.2⟩) (fun t => t.1 ≤ 1 ∧ 4 < t.2) (fun t => 1 - t.1) (0, _) rfl ⟨zdo, zdo⟩ ?_
  rintro ⟨i, nx⟩ ⟨i1, i2⟩
  dsimp only at i1 i2
  by_cases hi : i < 1
  ·obtain rfl : i = 0 := by omega
   rw [if_pos rfl]
   simp -dsimp -implicitDefEqProofs (disch := try exact zdE) only [go_sem, idxB_one]
   refine zap (T := Nat × Nat) (fun t => ⟨E [(5, .own 4 x.length), (7, ivl y), (13, .sl [ivl y]), (14, .int .i64 1), (15, .int .i64 0), (20, .int .i64 x.length), (21, .int .i64 t.1)], Hp.upd (fun _ => none) 4 (some ⟨(sumTo x y x.length t.1).map IV, 2⟩), t.2, t.2⟩) (fun t => t.1 ≤ x.length ∧ 4 < t.2) (fun t => x.length - t.1) (0, _) (by dsimp only; rw [← sumT0]; rfl) ⟨zdo, zdo⟩ ?_
   rintro ⟨j, nx'⟩ ⟨j1, j2⟩
   dsimp only at j1 j2
   by_cases hj : j < x.length
   ·have b1 := sx j
    have b2 := sy j
    have e1 := sumTg j hj
    have e2 := sumTl j
    simp -dsimp -implicitDefEqProofs (disch := try exact zdE) only [go_sem, e1, e2]
    first | refine zaa (add_ret _ _ (by omega) (by omega)) (by simp) ?_ | refine zab (add_ret _ _ (by omega) (by omega)) (by simp) ?_
    simp -dsimp -implicitDefEqProofs (disch := try exact zdE) only [go_sem, e1, e2, sumTo_set]
    exact ⟨(j + 1, _), rfl, ⟨zdo, zdo⟩, zdo⟩
   ·obtain rfl : j = x.length := by omega
    refine sgo ?_
    exact ⟨(1, _), by dsimp only; rw [if_neg (by omega)]; rfl, ⟨zdo, zdo⟩, zdo⟩
  ·obtain rfl : i = 1 := by omega
   rw [if_neg (by omega)]
   have e2 := sumTl x.length
   simp -dsimp -implicitDefEqProofs (disch := try exact zdE) only [go_sem, e2]
   rw [zdb fun x => zax _ _ _]
   have : sumTo x y x.length x.length = (List.range x.length).map fun k => x.getD k 0 + y.getD k 0 := List.map_congr_left fun k hk => by rw [if_pos (List.mem_range.1 hk)]
   rw [this]
   rfl
theorem effB_row_sl {lo nx : Nat} {H : Hp} {id es bytes : Nat} {v e : V} {xs : List V} {K : V → Hp → Prop} {u : Dep K} (hr : Row lo H nx v es xs) (hlo : lo ≤ nx) (hid : nx ≤ id) (he : rowOk es [e] = true) (h0 : 0 < es)
  (hb : (xs.length + 1) * bytes ≤ 140737488355328) (hb2 : xs.length + 1 ≤ 140737488355328) (hk : ∀ v' H', Row lo H' (id + 1) v' es (xs ++ [e]) → (∀ b n, v' = .own b n → nx ≤ b) → (∀ b, b < nx → (∀ n, v ≠ .own b n) → H' b = H b) → (∀ b, b < lo → H' b = H b) → K v' H') :
  effB (effV H id (.app es bytes) [v, .sl [e]]) K u := by
 have hs : slOf H (.sl [e]) = some [e] := rfl
 have sepn : ∀ n b n', V.own id n = .own b n' → nx ≤ b := fun n b n' h => by cases h; omega
 rcases hr with ⟨rfl, rfl⟩ | ⟨b, rfl, h1, h2, h3⟩
 ·refine zfo (app_nil (e := e) (l := []) hs he h0 (by simpa using hb) (by simp)) (hk _ _ (.inr ⟨id, rfl, by omega, by omega, by simp [Hp.upd_same]⟩) (sepn _) (fun b hb _ => ?_) fun b hb => ?_)
  ·rw [Hp.upd_ne _ _ (by omega)]
  ·rw [Hp.upd_ne _ _ (by omega)]
 ·refine zfo (app_own hs he h0 h3 rfl rfl (by simpa using hb) (by simpa using hb2) rfl) (hk _ _ (.inr ⟨id, by simp, by omega, by omega, by simp [Hp.upd_same]⟩) (sepn _) (fun b' hb' hne => ?_) fun b' hb' => ?_)
  ·have : b' ≠ b := fun e => hne _ (by rw [e])
   rw [Hp.upd_ne _ _ (by omega), Hp.upd_ne _ _ this]
  ·rw [Hp.upd_ne _ _ (by omega), Hp.upd_ne _ _ (by omega)]
end Go.Gim
/- Quadratic functions: both together, where one is least, with numbers told. -/
set_option maxRecDepth 100000
set_option maxHeartbeats 4000000
namespace Go.Gim
open Go.Proofs
theorem bsz_ivl (l : List Int) : redV .bsz [ivl l] = some (.sl [ivl l]) := rfl
theorem qadd_ret (P P2 : List (List Int)) (Q Q2 : List Int) (c c2 : Int) (n : Nat) (hn : n ≤ 1000) (hP : Sq P n) (hP2 : Sq P2 n) (hQ : Q.length = n) (hQ2 : Q2.length = n) (sP : ∀ i j, lim (at2 P i j) ≤ 4000000) (sP2 : ∀ i j, lim (at2 P2 i j) ≤ 4000000) (sQ : ∀ i, lim (Q.getD i 0) ≤ 4000000) (sQ2 : ∀ i, lim (Q2.getD i 0) ≤ 4000000) (sc : lim c ≤ 4000000) (sc2 : lim c2 ≤ 4000000) :
  Ret pg zg7 [QV P Q c, QV P2 Q2 c2] (QV (mat n fun i j => at2 P i j + at2 P2 i j) (rowF n fun k => Q.getD k 0 + Q2.getD k 0) (c + c2)) := by
 have hl := hP.1
 have hl2 := hP2.1
 have hq := qsums_ret Q Q2 (by omega) (by omega) sQ sQ2
 rw [hQ] at hq
 have hr : ∀ i, i < n → Ret pg zg6 [ivl (P.getD i []), .sl [ivl (P2.getD i [])]] (ivl (rowF n fun j => at2 P i j + at2 P2 i j)) := fun i hi => by
  have h1 := hP.row hi
  have h2 := hP2.row hi
  have := qsums_ret (P.getD i []) (P2.getD i []) (by omega) (by omega) (fun j => sP i j) (fun j => sP2 i j)
  rw [h1] at this
  exact this
 refine quad_Quad_Add.of rfl (W_b ?_)
 unfold quad_Quad_Add.k quad_Quad_Add.res Ot kp kd Oy Om Ol OL Oq Oi Oc On ci
 simp -dsimp -implicitDefEqProofs (disch := try exact zdE) only [go_sem, bsz_ivl]
 first | refine zaa (hq) (by simp) ?_ | refine zab (hq) (by simp) ?_
 refine sgo ?_
 first | refine zaa (add_ret c c2 (by omega) (by omega)) (by simp) ?_ | refine zab (add_ret c c2 (by omega) (by omega)) (by simp) ?_
 simp -dsimp -implicitDefEqProofs (disch := try exact zdE) only [go_sem, hl]
 generalize hQQ : (List.range n).map (fun k => Q.getD k 0 + Q2.getD k 0) = QQ
 generalize hcc : c + c2 = cc
 refine zap (T := Nat × V × Hp × Nat) (fun t => ⟨E [(2, .pp (QV P Q c)), (3, .pp (QV P2 Q2 c2)), (4, .ptr 2 1 0 0), (5, .ptr 15 1 0 0), (21, .int .i64 n), (22, .int .i64 t.1)], t.2.2.1, t.2.2.2, t.2.2.2⟩)
  (fun t => t.1 ≤ n ∧ 16 < t.2.2.2 ∧ t.2.2.1 2 = some ⟨[.agg [.nil, .nil, .bool false, .sl []]], 4⟩ ∧ t.2.2.1 15 = some ⟨[.agg [t.2.1, ivl QQ, .bool (decide (cc < 0)), .sl (nats .u32 (digs W32 cc.natAbs))]], 4⟩ ∧ Row 16 t.2.2.1 t.2.2.2 t.2.1 1 ((List.range t.1).map fun i => ivl (rowF n fun j => at2 P i j + at2 P2 i j))) (fun t => n - t.1) (0, .nil, _, _) rfl ⟨zdo, zdo, rfl, rfl, Row.nil _ _ _ _⟩ ?_
 rintro ⟨i, w, H, nx⟩ ⟨i1, i2, i3, i4, i5⟩
 dsimp only at i1 i2 i3 i4 i5
 obtain ⟨hwa, hwc, _, _⟩ := i5.flat
 by_cases hi : i < n
 ·simp -dsimp -implicitDefEqProofs (disch := try exact zdE) only [go_sem, hl]
  refine W_gh0 ?_
  simp -dsimp -implicitDefEqProofs (disch := try exact zdE) only [go_sem, hl, hl2, i4, hwa, bsz_ivl]
  refine zab (hr i hi) (by simp) ?_
  simp -dsimp -implicitDefEqProofs (disch := try exact zdE) only [go_sem, bsz_ivl]
  refine effB_row_sl (lo := 16) (nx := nx) (H := H) (xs := (List.range i).map fun i => ivl (rowF n fun j => at2 P i j + at2 P2 i j)) i5 (by omega) (by omega) (by simp [rowOk, V.cells, V.cellOk, V.isJunk, ivl]) (by decide) (by simp; omega) (by simp; omega) fun v2 H2 r1 _ _ r4 => ?_
  rw [zat (fun i => ivl (rowF n fun j => at2 P i j + at2 P2 i j))] at r1
  have j3 := (r4 2 (by omega)).trans i3
  have j4 := (r4 15 (by omega)).trans i4
  obtain ⟨b', hv2, c1, c3, c4⟩ := r1.own_of (by simp)
  rw [List.length_map, List.length_range] at hv2
  subst hv2
  simp -dsimp -implicitDefEqProofs (disch := try exact zdE) only [go_sem, j3, j4]
  generalize hH3 : Hp.upd H2 15 _ = H3
  have k0 := zaf hH3 j3 (by omega)
  have k6 := za4 hH3
  have kb := zaf hH3 c4 (by omega)
  exact ⟨(i + 1, _, H3, _), rfl, ⟨zdo, zdo, k0, k6, .inr ⟨b', by rw [List.length_map, List.length_range], c1, zdo, kb⟩⟩, zdo⟩
 ·have hie : i = n := by omega
  subst hie
  simp -dsimp -implicitDefEqProofs (disch := try exact zdE) only [go_sem, i3, i4, hwa, hwc]
  rw [(i5.upd (by omega)).frz (zdf fun x hx => by obtain ⟨q, _, rfl⟩ := List.mem_map.1 hx; rfl)]
  unfold mat
  rw [← hQQ]
  simp only [Option.map_some, Option.bind_some, QV, List.map_map]
  rfl
end Go.Gim
/- Quadratic functions: with the last numbers told, without the first ones. -/
set_option maxRecDepth 100000
set_option maxHeartbeats 4000000
namespace Go.Gim
open Go.Proofs
theorem gh_row2 {P : Program} {a : K} {Q : AX → St → Prop} {ud : Dep Q} {l : List (Nat × V)} {H : Hp} {nx lo es : Nat} (s : Nat) {u : V} {ys : List V} (hs : E l s = u) (hu : Row lo H nx u es ys) (hp : ∀ x ∈ ys, V.Pure x) (hoth : ∀ p ∈ l, p.1 ≠ s → ∀ c, lo ≤ c → p.2.sub (fz1 c ys) = p.2)
  (hk : ∀ H' : Hp, (∀ b blk, b < lo → H b = some blk → (∀ x ∈ blk.elems, ∀ c, lo ≤ c → x.sub (fz1 c ys) = x) → H' b = some blk) → Wb P a Q ud ⟨upd (E l) s (.sl ys), H', nx, nx⟩) : Wb P (.gh a) Q ud ⟨E l, H, nx, nx⟩ := by
 rcases hu with ⟨rfl, rfl⟩ | ⟨c, rfl, h1, h2, h3⟩
 ·exact gh_nil s hs (hk H fun _ _ _ h _ => h)
 ·refine W_gh (S0 := ⟨upd (E l) s (.sl ys), H.sub (fz1 c ys), nx, nx⟩) ?_ (hk _ fun b blk hb hH hpb => ?_)
  ·have := Ghost.fz ⟨E l, H, nx, nx⟩ (fz1 c ys) (fz1_ok h3 hp)
   unfold St.fz at this
   have e : (fun t => V.sub (fz1 c ys) (E l t)) = upd (E l) s (.sl ys) := by
    funext t
    by_cases ht : t = s
    ·subst ht; rw [hs]; simp [upd, V.sub, fz1]
    ·simp only [upd, ht, if_false]
     clear hs this hk
     induction l with
     | nil => simp [E, V.sub]
     | cons p l ih =>
      obtain ⟨k, v⟩ := p
      simp only [E]
      split
      ·rename_i hk; subst hk; exact hoth (t, v) (by simp) ht c h1
      ·exact ih fun p hp => hoth p (by simp [hp])
   rw [← e]
   exact this
  ·obtain ⟨xs, es'⟩ := blk
   have : List.map (V.sub (fz1 c ys)) xs = xs := by
    have : xs.map (V.sub (fz1 c ys)) = xs.map id := List.map_congr_left fun x hx => hpb x hx c h1
    simpa using this
   have hf : fz1 c ys b = none := by simp [fz1]; omega
   simp only [Hp.sub, hf, Option.isSome_none, Bool.false_eq_true, if_false, hH, Option.map_some, this]
theorem zgr {c b m i off : Nat} {ys : List V} (h : b ≠ c) : V.sub (fz1 c ys) (.ptr b m i off) = .ptr b m i off := by simp [V.sub, fz1, h]
def qoutV (n k : Nat) (P : Mx) (q : Nat → Int) (c : Int) : V := if defS k P = true then .tup [QV (mat (n - k) (gP k P)) (rowF (n - k) (gQ k P q)) (gC k P q c), IV (det k P), .int .i64 0] else .tup [QV [] [] 0, IV 0, .int .i64 80]
theorem qwithout_ret (P : List (List Int)) (Q : List Int) (c : Int) (n k L : Nat) (hn : n ≤ 12) (hk : k ≤ n) (hL : L ≤ 900000) (hB : 2 ^ k * (L + 1) ≤ 900000) (hP : Sq P n) (hQ : Q.length = n) (sP : ∀ i j, lim (at2 P i j) ≤ L) (sQ : ∀ i, lim (Q.getD i 0) ≤ L) (sc : lim c ≤ L) :
  Ret pg zeu [QV P Q c, .int .i64 k] (qoutV n k (at2 P) (fun i => Q.getD i 0) c) := by
 have hl := hP.1
 have c1 := qfirst_ret P n k (by omega) hP hk
 have hAt : ∀ i j, i < k → j < k → at2 (mat k (at2 P)) i j = at2 P i j := fun i j hi hj => zco hi hj
 have sM := zej (n := k) sP
 have c2 := ldefinite_ret (mat k (at2 P)) k L (by omega) (by omega) (zef _ _) sM
 rw [zf4 hAt] at c2
 have c3 := ldet_ret (mat k (at2 P)) k L (by omega) (by omega) (zef _ _) sM
 rw [detS_eq, zay hAt] at c3
 have sD : lim (det k (at2 P)) ≤ 900000 := by have := det_pw (n := k) sP; omega
 have hsol : ∀ (b : List Int) (f : Nat → Int), b.length = k → (∀ i, i < k → b.getD i 0 = f i) → (∀ i, lim (b.getD i 0) ≤ L) → 0 < det k (at2 P) → Ret pg zec [.sl ((mat k (at2 P)).map ivl), ivl b] (.tup [ivl (rowF k (numF k (at2 P) f)), IV (det k (at2 P)), .int .i64 0]) := fun b f hb hf sb hd => by
  have := lsolve_ret (mat k (at2 P)) b k L (by omega) (by omega) (zef _ _) hb sM sb
  rw [detS_eq, solveS_eq, zay hAt, if_neg (by omega)] at this
  unfold solveV at this
  dsimp only at this
  rw [show (rowF k fun i => det k (setC (at2 (mat k (at2 P))) i fun i => b.getD i 0)) = rowF k (numF k (at2 P) f) from zbm fun j hj => ze2 hAt hf j] at this
  exact this
 have sNum : ∀ (f : Nat → Int), (∀ i, lim (f i) ≤ L) → ∀ j, lim (numF k (at2 P) f j) ≤ 900000 := fun f hf j => by
  have := det_pw (n := k) (setC_lim sP hf j)
  unfold numF; omega
 have hslQ := slc_ivl (l := Q) (k := k) (ki := .i64) (by omega)
 rw [take_F hQ hk] at hslQ
 have hslP : ∀ i, i < n → redV (.slc 2 false true false) [ivl (P.getD i []), .int .i64 (k : Int)] = some (ivl (rowF k (at2 P i))) := fun i hi => by
  have := slc_ivl (l := P.getD i []) (k := k) (ki := .i64) (by rw [hP.row hi]; exact hk)
  rw [take_F (hP.row hi) hk] at this
  exact this
 have hdot : ∀ f g : Nat → Int, (∀ i, lim (f i) ≤ 900000) → (∀ i, lim (g i) ≤ 900000) → Ret pg zgt [ivl (rowF k f), ivl (rowF k g)] (IV (sumZ (fun c => f c * g c) k)) := fun f g hf hg => by
  have := qdot_ret (rowF k f) (rowF k g) (by rw [zal]; omega) (by rw [zal, zal]; omega) (fun i => by have := zfy (n := k) hf i; unfold rowF; omega) (fun i => by have := zfy (n := k) hg i; unfold rowF; omega)
  rw [zal, sumN_sm, zad (g := fun c => f c * g c) fun c hc => by rw [zbh hc, zbh hc]] at this
  exact this
 have sSum : ∀ f g : Nat → Int, (∀ i, lim (f i) ≤ 900000) → (∀ i, lim (g i) ≤ 900000) → lim (sumZ (fun c => f c * g c) k) ≤ 1900000 := fun f g hf hg => by
  rw [← sumN_sm]
  have := sumN_lim (f := f) (p := g) (L := 1800000) (fun i => by have := hf i; have := hg i; omega) k
  omega
 have sQ' : ∀ i, lim (Q.getD i 0) ≤ 900000 := fun i => by have := sQ i; omega
 have sP' : ∀ i j, lim (at2 P i j) ≤ 900000 := fun i j => by have := sP i j; omega
 refine quad_Quad_Without.of rfl (W_b ?_)
 unfold quad_Quad_Without.k quad_Quad_Without.res Ot kp kd Og Oy Om Ol OL Oq Oi Oc On ci qoutV
 simp -dsimp -implicitDefEqProofs (disch := try exact zdE) only [go_sem, hl]
 first | refine zaa (c1) (by simp) ?_ | refine zab (c1) (by simp) ?_
 refine sgo ?_
 first | refine zaa (c2) (by simp) ?_ | refine zab (c2) (by simp) ?_
 by_cases hdf : defS k (at2 P) = true
 ·have hd0 := defS_det hdf
  rw [if_pos hdf, hdf]
  refine sgo ?_
  first | refine zaa (c3) (by simp) ?_ | refine zab (c3) (by simp) ?_
  simp -dsimp -implicitDefEqProofs (disch := try exact zdE) only [go_sem, hslQ]
  first | refine zaa (hsol (rowF k fun j => Q.getD j 0) (fun i => Q.getD i 0) (zal _ _) (fun i hi => zbh hi) (fun i => zfy sQ i) hd0) (by simp) ?_ | refine zab (hsol (rowF k fun j => Q.getD j 0) (fun i => Q.getD i 0) (zal _ _) (fun i hi => zbh hi) (fun i => zfy sQ i) hd0) (by simp) ?_
  simp -dsimp -implicitDefEqProofs (disch := try exact zdE) only [go_sem, hslQ]
  have sm1 := zb4 c (det k (at2 P))
  have ss1 := sSum (fun i => Q.getD i 0) (numF k (at2 P) fun i => Q.getD i 0) sQ' (sNum _ sQ)
  first | refine zaa (zce c _ (by omega) (by omega)) (by simp) ?_ | refine zab (zce c _ (by omega) (by omega)) (by simp) ?_
  simp -dsimp -implicitDefEqProofs (disch := try exact zdE) only [go_sem, hslQ]
  first | refine zaa (hdot (fun i => Q.getD i 0) (numF k (at2 P) fun i => Q.getD i 0) sQ' (sNum _ sQ)) (by simp) ?_ | refine zab (hdot (fun i => Q.getD i 0) (numF k (at2 P) fun i => Q.getD i 0) sQ' (sNum _ sQ)) (by simp) ?_
  simp -dsimp -implicitDefEqProofs (disch := try exact zdE) only [go_sem, hslQ]
  first | refine zaa (zgi _ _ (by omega) (by omega)) (by simp) ?_ | refine zab (zgi _ _ (by omega) (by omega)) (by simp) ?_
  refine sgo ?_
  have egC : c * det k (at2 P) - sumZ (fun c => Q.getD c 0 * numF k (at2 P) (fun i => Q.getD i 0) c) k = gC k (at2 P) (fun i => Q.getD i 0) c := rfl
  rw [egC]
  generalize gC k (at2 P) (fun i => Q.getD i 0) c = gc
  generalize hD : det k (at2 P) = d at *
  obtain ⟨H0, eH0⟩ : ∃ H0 : Hp, H0 = (((Hp.upd (fun x => none) 1 (some ⟨[V.agg [V.nil, V.nil, V.bool false, V.sl []]], 4⟩)).upd 2 (some ⟨[IV d], 2⟩)).upd 34 (some ⟨[IV d], 2⟩)).upd 1 (some ⟨[V.agg [V.nil, V.nil, V.bool (decide (gc < 0)), V.sl (nats .u32 (digs W32 gc.natAbs))]], 4⟩) := ⟨_, rfl⟩
  have b1 : H0 1 = some ⟨[.agg [.nil, .nil, .bool (decide (gc < 0)), .sl (nats .u32 (digs W32 gc.natAbs))]], 4⟩ := by rw [eH0]; exact Hp.upd_same _ _ _
  have b2 : H0 2 = some ⟨[IV d], 2⟩ := by rw [eH0]; rfl
  rw [← eH0]
  clear eH0 egC c1 c2 c3
  refine zap (T := Nat × V × V × Hp × Nat) (fun t => ⟨E [(1, .int .i64 k), (2, .pp (QV P Q c)), (4, .ptr 1 1 0 0), (5, .ptr 2 1 0 0), (7, .sl ((mat k (at2 P)).map ivl)), (8, ivl (rowF k (numF k (at2 P) fun j => Q.getD j 0))), (11, .int .i64 ((k + t.1 : Nat) : Int))], t.2.2.2.1, t.2.2.2.2, t.2.2.2.2⟩)
   (fun t => t.1 ≤ n - k ∧ 53 ≤ t.2.2.2.2 ∧ t.2.2.2.1 1 = some ⟨[.agg [t.2.1, t.2.2.1, .bool (decide (gc < 0)), .sl (nats .u32 (digs W32 gc.natAbs))]], 4⟩ ∧ t.2.2.2.1 2 = some ⟨[IV d], 2⟩ ∧ Row 53 t.2.2.2.1 t.2.2.2.2 t.2.1 1 ((List.range t.1).map fun i => ivl (rowF (n - k) (gP k (at2 P) i))) ∧ Row 53 t.2.2.2.1 t.2.2.2.2 t.2.2.1 2 ((rowF t.1 (gQ k (at2 P) fun i => Q.getD i 0)).map IV)) (fun t => n - k - t.1)
   (0, .nil, .nil, H0, _) rfl ⟨zdo, zdo, b1, b2, Row.nil _ _ _ _, Row.nil _ _ _ _⟩ ?_
  clear b1 b2 H0
  rintro ⟨i, w1, w2, H, nx⟩ ⟨i1, i2, i3, i4, i5, i6⟩
  dsimp only at i1 i2 i3 i4 i5 i6
  obtain ⟨hwa1, hwc1, _, _⟩ := i5.flat
  obtain ⟨hwa2, hwc2, _, _⟩ := i6.flat
  have hsep : Sep w1 w2 := i5.not_row2 i6 (by decide)
  by_cases hi : i < n - k
  ·have hsPi := hslP (k + i) (by omega)
   have hsi := hsol (rowF k (at2 P (k + i))) (at2 P (k + i)) (zal _ _) (fun j hj => zbh hj) (fun j => zfy (sP (k + i)) j) hd0
   simp -dsimp -implicitDefEqProofs (disch := try exact zdE) only [go_sem, hl, hsPi]
   first | refine zaa (hsi) (by simp) ?_ | refine zab (hsi) (by simp) ?_
   refine sgo ?_
   obtain ⟨H1, eH1⟩ : ∃ H1 : Hp, H1 = H.upd (nx + 18) (some ⟨[IV d], 2⟩) := ⟨_, rfl⟩
   have f0 : ∀ b, b < nx → H1 b = H b := fun b hb => by rw [eH1, Hp.upd_ne _ _ (by omega)]
   have f1 := (f0 1 (by omega)).trans i3
   have f2 := (f0 2 (by omega)).trans i4
   have f5 := i5.same (H' := H1) (nx' := nx + 25) f0 (by omega)
   have f6 := i6.same (H' := H1) (nx' := nx + 25) f0 (by omega)
   rw [← eH1]
   clear eH1 f0
   have hN : 78 ≤ nx + 25 := by omega
   have hNn : nx ≤ nx + 25 := by omega
   generalize nx + 25 = N at hN hNn f5 f6 ⊢
   refine zap (T := Nat × V × Hp × Nat) (fun t => ⟨E [(1, .int .i64 k), (2, .pp (QV P Q c)), (4, .ptr 1 1 0 0), (5, .ptr 2 1 0 0), (7, .sl ((mat k (at2 P)).map ivl)), (8, ivl (rowF k (numF k (at2 P) fun j => Q.getD j 0))), (11, .int .i64 ((k + i : Nat) : Int)), (12, ivl (rowF k (numF k (at2 P) (at2 P (k + i))))), (15, t.2.1), (16, .int .i64 ((k + t.1 : Nat) : Int))], t.2.2.1, t.2.2.2, t.2.2.2⟩)
    (fun t => t.1 ≤ n - k ∧ N ≤ t.2.2.2 ∧ (∀ b, b < N → t.2.2.1 b = H1 b) ∧ Row N t.2.2.1 t.2.2.2 t.2.1 2 ((rowF t.1 (gP k (at2 P) i)).map IV)) (fun t => n - k - t.1)
    (0, .nil, H1, _) rfl ⟨zdo, zdo, fun _ _ => rfl, Row.nil _ _ _ _⟩ ?_
   rintro ⟨j, u, H2, nx2⟩ ⟨j1, j2, j3, j4⟩
   dsimp only at j1 j2 j3 j4
   have e1 := (j3 1 (by omega)).trans f1
   have e2 := (j3 2 (by omega)).trans f2
   by_cases hj : j < n - k
   ·have hsPj := hslP (k + j) (by omega)
    have hri := hP.row (show k + i < n by omega)
    have hg : (P.getD (k + i) []).getD (k + j) 0 = at2 P (k + i) (k + j) := rfl
    have s1 := sP' (k + i) (k + j)
    have s2 := zb4 (at2 P (k + i) (k + j)) d
    have s3 := sSum (numF k (at2 P) (at2 P (k + i))) (at2 P (k + j)) (sNum _ (sP _)) (sP' _)
    have eg : at2 P (k + i) (k + j) * d - sumZ (fun c => numF k (at2 P) (at2 P (k + i)) c * at2 P (k + j) c) k = gP k (at2 P) i j := by rw [← hD]; rfl
    simp -dsimp -implicitDefEqProofs (disch := try exact zdE) only [go_sem, hl, hri, hg, e2]
    first | refine zaa (zce _ _ (by omega) (by omega)) (by simp) ?_ | refine zab (zce _ _ (by omega) (by omega)) (by simp) ?_
    simp -dsimp -implicitDefEqProofs (disch := try exact zdE) only [go_sem, hl, hsPj]
    first | refine zaa (hdot (numF k (at2 P) (at2 P (k + i))) (at2 P (k + j)) (sNum _ (sP _)) (sP' _)) (by simp) ?_ | refine zab (hdot (numF k (at2 P) (at2 P (k + i))) (at2 P (k + j)) (sNum _ (sP _)) (sP' _)) (by simp) ?_
    refine sgo ?_
    first | refine zaa (zgi _ _ (by omega) (by omega)) (by simp) ?_ | refine zab (zgi _ _ (by omega) (by omega)) (by simp) ?_
    rw [eg]
    refine sgo ?_
    refine zaq (lo := N) (nx := nx2) (H0 := H2) (xs := (rowF j (gP k (at2 P) i)).map IV) j4 (by omega) rfl (by omega) (by omega) (by simp [rowOk, V.cells, V.cellOk, IV, V.isJunk]) (by decide) (by simp [rowF]; omega) (by simp [rowF]; omega) fun v2 H3 r1 _ _ r4 => ?_
    rw [zc3, show rowF j (gP k (at2 P) i) ++ [gP k (at2 P) i j] = rowF (j + 1) (gP k (at2 P) i) from zat _ _] at r1
    refine sgo ?_
    exact ⟨(j + 1, v2, H3, _), rfl, ⟨zdo, zdo, fun b hb => (r4 b hb).trans (j3 b hb), r1.same (fun _ _ => rfl) zdo⟩, zdo⟩
   ·have hjn : j = n - k := by omega
    rw [hjn] at j4
    have g5 := f5.same (H' := H2) (nx' := nx2) j3 j2
    have g6 := f6.same (H' := H2) (nx' := nx2) j3 j2
    simp -dsimp -implicitDefEqProofs (disch := try exact zdE) only [go_sem, hl]
    refine gh_row2 (lo := N) (ys := (rowF (n - k) (gP k (at2 P) i)).map IV) 15 rfl (j4.same (fun _ _ => rfl) (by omega)) (za3 fun x => by simp) (fun p hp hne c hc => ?_) fun H3 hH3 => ?_
    ·simp only [List.mem_cons, List.not_mem_nil, or_false] at hp
     rcases hp with rfl | rfl | rfl | rfl | rfl | rfl | rfl | rfl | rfl | rfl | rfl <;> first | exact absurd rfl hne | exact sub_ivl _ _ | (simp [V.sub]; done) | exact zgr (by omega)
    ·have e8 : V.sl ((rowF (n - k) (gP k (at2 P) i)).map IV) = ivl (rowF (n - k) (gP k (at2 P) i)) := rfl
     have hH3p : ∀ b blk, b < N → H2 b = some blk → (∀ x ∈ blk.elems, V.Pure x) → H3 b = some blk := fun b blk hb h hp => hH3 b blk hb h fun x hx c _ => zcf _ (hp x hx)
     have q1 : H3 1 = some ⟨[.agg [w1, w2, .bool (decide (gc < 0)), .sl (nats .u32 (digs W32 gc.natAbs))]], 4⟩ := hH3 1 _ (by omega) e1 fun x hx c hc => by
      simp only [List.mem_singleton] at hx
      subst hx
      rw [zdy]
      simp only [List.map_cons, List.map_nil, i5.sub_ge (show nx ≤ c by omega), i6.sub_ge (show nx ≤ c by omega)]
      simp [V.sub]
     have q2 : H3 2 = some ⟨[IV d], 2⟩ := hH3p 2 _ (by omega) e2 (by simp)
     have q5 : Row 53 H3 nx2 w1 1 ((List.range i).map fun i => ivl (rowF (n - k) (gP k (at2 P) i))) := (f5.same (H' := H2) (nx' := N) j3 (Nat.le_refl _)).told (lo := N) (Nat.le_refl _) j2 (za3 fun x => by simp) hH3p
     have q6 : Row 53 H3 nx2 w2 2 ((rowF i (gQ k (at2 P) fun i => Q.getD i 0)).map IV) := (f6.same (H' := H2) (nx' := N) j3 (Nat.le_refl _)).told (lo := N) (Nat.le_refl _) j2 (za3 fun x => by simp) hH3p
     clear hH3 hH3p g5 g6 f5 f6 e1 e2 f1 f2 j3 j4 i3 i4 i5 i6
     simp -dsimp -implicitDefEqProofs (disch := try exact zdE) only [go_sem, e8, q1, hwa1]
     refine zaq (lo := 53) (nx := nx2 + 5) (H0 := H3) (xs := (List.range i).map fun i => ivl (rowF (n - k) (gP k (at2 P) i))) (q5.same (fun _ _ => rfl) (by omega)) (by omega) rfl (by omega) (by omega) (by simp [rowOk, V.cells, V.cellOk, V.isJunk, ivl]) (by decide) (by simp; omega) (by simp; omega) fun v2 H4 r1 r2 r3 r4 => ?_
     rw [zat (fun i => ivl (rowF (n - k) (gP k (at2 P) i)))] at r1
     have p1 := (r4 1 (by omega)).trans q1
     have p2 := (r4 2 (by omega)).trans q2
     have p6 := (q6.same (H' := H3) (nx' := nx2 + 5) (fun _ _ => rfl) (by omega)).keep r3 hsep (Nat.le_refl _)
     obtain ⟨b', hv2, c1, c3, c4⟩ := r1.own_of (by simp)
     rw [List.length_map, List.length_range] at hv2
     subst hv2
     have hri := hP.row (show k + i < n by omega)
     have s1 := sQ' (k + i)
     have s2 := zb4 (Q.getD (k + i) 0) d
     have s3 := sSum (at2 P (k + i)) (numF k (at2 P) fun j => Q.getD j 0) (sP' _) (sNum _ sQ)
     have eg : Q.getD (k + i) 0 * d - sumZ (fun c => at2 P (k + i) c * numF k (at2 P) (fun j => Q.getD j 0) c) k = gQ k (at2 P) (fun i => Q.getD i 0) i := by rw [← hD]; rfl
     simp -dsimp -implicitDefEqProofs (disch := try exact zdE) only [go_sem, p1, p2, hwa1, hwa2]
     first | refine zaa (zce _ _ (by omega) (by omega)) (by simp) ?_ | refine zab (zce _ _ (by omega) (by omega)) (by simp) ?_
     simp -dsimp -implicitDefEqProofs (disch := try exact zdE) only [go_sem, hl, hsPi]
     first | refine zaa (hdot (at2 P (k + i)) (numF k (at2 P) fun j => Q.getD j 0) (sP' _) (sNum _ sQ)) (by simp) ?_ | refine zab (hdot (at2 P (k + i)) (numF k (at2 P) fun j => Q.getD j 0) (sP' _) (sNum _ sQ)) (by simp) ?_
     refine sgo ?_
     first | refine zaa (zgi _ _ (by omega) (by omega)) (by simp) ?_ | refine zab (zgi _ _ (by omega) (by omega)) (by simp) ?_
     rw [eg]
     refine sgo ?_
     refine zaq (lo := 53) (nx := nx2 + 13) (H0 := H4.upd 1 (some ⟨[.agg [.own b' (i + 1), w2, .bool (decide (gc < 0)), .sl (nats .u32 (digs W32 gc.natAbs))]], 4⟩)) (xs := (rowF i (gQ k (at2 P) fun i => Q.getD i 0)).map IV) ((p6.upd (by omega)).same (fun _ _ => rfl) (by omega)) (by omega) rfl (by omega) (by omega) (by simp [rowOk, V.cells, V.cellOk, IV, V.isJunk]) (by decide) (by simp [rowF]; omega) (by simp [rowF]; omega) fun v3 H5 t1 t2 t3 t4 => ?_
     rw [zc3, show rowF i (gQ k (at2 P) fun i => Q.getD i 0) ++ [gQ k (at2 P) (fun i => Q.getD i 0) i] = rowF (i + 1) (gQ k (at2 P) fun i => Q.getD i 0) from zat _ _] at t1
     have u1 : H5 1 = some ⟨[.agg [.own b' (i + 1), w2, .bool (decide (gc < 0)), .sl (nats .u32 (digs W32 gc.natAbs))]], 4⟩ := (t4 1 (by omega)).trans (Hp.upd_same _ _ _)
     have u2 : H5 2 = some ⟨[IV d], 2⟩ := (t4 2 (by omega)).trans ((Hp.upd_ne _ _ (by omega)).trans p2)
     have ub : H5 b' = some ⟨(List.range (i + 1)).map fun i => ivl (rowF (n - k) (gP k (at2 P) i)), 1⟩ := by
      rw [t3 b' (by omega) fun m e => by have h1 := p6.lt e; have h2 := r2 b' _ rfl; omega, Hp.upd_ne _ _ (by omega)]
      exact c4
     obtain ⟨b3, hv3, x1, x3, x4⟩ := t1.own_of (by simp [rowF])
     have hv3' : v3 = .own b3 (i + 1) := by rw [hv3, List.length_map, zal]
     subst hv3'
     clear t1 t2 t3 t4 r1 r2 r3 r4 hv3 p1 p2 p6 q1 q2 q5 q6 c4
     simp -dsimp -implicitDefEqProofs (disch := try exact zdE) only [go_sem, u1, u2, hwa1, hwa2]
     generalize hH6 : Hp.upd H5 1 _ = H6
     have k1 := za4 hH6
     have k2 := zaf hH6 u2 (by omega)
     have k3 := zaf hH6 ub (by omega)
     have k4 := zaf hH6 x4 (by omega)
     exact ⟨(i + 1, _, _, H6, _), rfl, ⟨zdo, zdo, k1, k2, .inr ⟨b', by rw [List.length_map, List.length_range], c1, zdo, k3⟩, .inr ⟨b3, by rw [List.length_map, zal], x1, zdo, k4⟩⟩, zdo⟩
  ·have hin : i = n - k := by omega
   subst hin
   simp -dsimp -implicitDefEqProofs (disch := try exact zdE) only [go_sem, hl, i3, i4, hwa1, hwa2, hwc1, hwc2]
   rw [((i5.upd (by omega)).upd (by omega)).frz (zdf fun x hx => by obtain ⟨q, _, rfl⟩ := List.mem_map.1 hx; rfl), ((i6.upd (by omega)).upd (by omega)).frz (zdb fun x => zax _ _ _)]
   simp only [Option.map_some, Option.bind_some, QV, mat, List.map_map]
   rfl
 ·have hdf' : defS k (at2 P) = false := by simpa using hdf
  rw [if_neg hdf, hdf']
  simp -dsimp -implicitDefEqProofs (disch := try exact zdE) only [go_sem, QV_zero, ze1]
end Go.Gim

import Derived.Test.YtjkjpjneeioeiaaGreatLR5
import Derived.Test.YtjkjpjneeioeiaaGreatDV7
/- The document's whole numbers: quotients, by taking away. -/
set_option maxRecDepth 100000
set_option maxHeartbeats 4000000
set_option linter.unusedSimpArgs false
set_option linter.unusedVariables false
namespace Go.Gim
open Go.Proofs
attribute [local go_sem] IntWalk.i64_in wu64 wu32 wu8 Nat.mod_eq_of_lt shr32 shr63 shl32 or32 quo64 quo32 zfk remk zct zcs zd1 zd0 zb5 Nat.add_assoc za7 lt_ne gt_ne zdu dlt_t dlt_f dle_t dle_f deq_t deq_f zby zec zfd zbf zbk zbc zba zcu zcw zcx zdl zae List.length_set ge_iff_le gt_iff_lt Int.toNat_natCast zcf zdm zcj zdp zdn zcr zb2 zfj zb3 zb4 zdt
theorem set_rep {i c v : Nat} {q : List Nat} : (List.replicate i 0 ++ c :: q).set i v = List.replicate i 0 ++ v :: q := by
 rw [List.set_append_right _ _ (by simp)]; simp
theorem get_rep {i c : Nat} {q : List Nat} : (List.replicate i 0 ++ c :: q).getD i 0 = c := by
 simp [List.getD_eq_getElem?_getD]
theorem rep_succ {i : Nat} {q : List Nat} : List.replicate (i + 1) 0 ++ q = List.replicate i 0 ++ 0 :: q := by
 rw [List.replicate_succ', List.append_assoc]; rfl
theorem fld_DVn (z : Nat) : fldV 1 1 false (DV (z : Int)) = some (.sl (nats .i64 (digs 10 z))) := by simp [fldV, DV, V.part, V.cells, V.isAgg]
theorem r_parted (a : List Nat) (y : Nat) (hy0 : 0 < y) (ha : ∀ x ∈ a, x < 10) (hal : a.length ≤ 1000000000) (hyl : (digs 10 y).length ≤ 1000000000) :
  Ret pg zfm [.sl (nats .i64 a), .sl (nats .i64 (digs 10 y))] (.tup [.sl (nats .i64 (divL 10 y a).1), .sl (nats .i64 (digs 10 (divL 10 y a).2))]) := by
 have hdl : ∀ u, (divL 10 y (a.drop u)).1.length = a.length - u := fun u => by rw [divL_len, List.length_drop]
 have hylt : y < 10 ^ (digs 10 y).length := lt_pow_digs (by decide) y
 have hdR : ∀ R, R < 10 * y → (digs 10 R).length ≤ (digs 10 y).length + 1 := fun R hR => zh0 d2 (by rw [Nat.pow_succ]; omega)
 refine gimbalref01_parted.of rfl (W_b ?_)
 unfold gimbalref01_parted.k gimbalref01_parted.res Ot kp Oy Om Ol Oi On ci
 refine sgd ?_
 refine zap (T := Nat × V × Hp × Nat) (fun t => ⟨E [(0, .sl (nats .i64 a)), (1, .sl (nats .i64 (digs 10 y))), (6, .own 4 a.length), (7, t.2.1), (8, .int .i64 ((t.1 : Int) - 1))], t.2.2.1, t.2.2.2, t.2.2.2⟩)
  (fun t => t.1 ≤ a.length ∧ 4 < t.2.2.2 ∧ t.2.2.1 4 = some ⟨nats .i64 (List.replicate t.1 0 ++ (divL 10 y (a.drop t.1)).1), 1⟩ ∧ ((t.2.1 = .nil ∧ (divL 10 y (a.drop t.1)).2 = 0) ∨ t.2.1 = .sl (nats .i64 (digs 10 (divL 10 y (a.drop t.1)).2)))) (fun t => t.1) (a.length, .nil, _, _) rfl ⟨zdo, zdo, by simp [divL, nats]; rfl, .inl ⟨rfl, by simp [divL]⟩⟩ ?_
 rintro ⟨u, w, H, nx⟩ ⟨i1, i2, i3, i4⟩
 dsimp only at i1 i2 i3 i4
 rcases u with _ | i
 ·simp only [List.drop_zero, List.replicate_zero, List.nil_append] at i3 i4
  have hwf : Gim.frz H 8 w = some (.sl (nats .i64 (digs 10 (divL 10 y a).2))) := by
   rcases i4 with ⟨rfl, h0⟩ | rfl
   ·rw [h0, zbe]; rfl
   ·rfl
  have hl := hdl 0
  rw [List.drop_zero, Nat.sub_zero] at hl
  simp -dsimp -implicitDefEqProofs (disch := try exact zdL) only [go_sem, zaj, zai, zaf, zax, zaq, zac, i3, hwf]
 ·have hi : i < a.length := by omega
  have hx := zbw (i := i) ha (by decide)
  have hdrop := zdg hi
  have hdv : divL 10 y (a.drop i) = (((divL 10 y (a.drop (i + 1))).2 * 10 + a.getD i 0) / y :: (divL 10 y (a.drop (i + 1))).1, ((divL 10 y (a.drop (i + 1))).2 * 10 + a.getD i 0) % y) := by rw [hdrop]; rfl
  have hR := divL_rest (B := 10) hy0 (a.drop (i + 1))
  have hql := hdl (i + 1)
  rw [rep_succ] at i3
  generalize hxi : a.getD i 0 = x at *
  generalize (divL 10 y (a.drop (i + 1))).1 = q at *
  generalize (divL 10 y (a.drop (i + 1))).2 = R at *
  have e8 : (((i + 1 : Nat) : Int) - 1) = (i : Int) := by omega
  have hws : slOf H w = some (nats .i64 (digs 10 R)) := by
   rcases i4 with ⟨rfl, h0⟩ | rfl
   ·rw [h0, zbe]; rfl
   ·rfl
  simp -dsimp -implicitDefEqProofs (disch := try exact zdL) only [go_sem, zaj, zai, zaf, zax, zaq, zac, e8, hxi]
  have hrow : rowOk 1 (nats .i64 (digs 10 R)) = true := nats_row _ _
  have hn1 : w.notIn (nx + 6) = true := by rcases i4 with ⟨rfl, _⟩ | rfl <;> rfl
  have hRl := hdR R (by omega)
  refine effB_of (app_own (blk := ⟨[.int .i64 x], 1⟩) (news := nats .i64 (digs 10 R)) (by rcases i4 with ⟨rfl, h0⟩ | rfl; (rw [h0, zbe]; rfl); rfl) hrow (by decide) (Hp.upd_same _ _ _) rfl rfl (by rw [zae]; omega) (by rw [zae]; omega) hn1) ?_
  have hmd := r_made false (x :: digs 10 R) (by
   intro z hz
   rcases List.mem_cons.1 hz with rfl | hz
   ·exact hx
   ·exact zbp d2 _ z hz) (by rw [List.length_cons]; omega)
  have hval : val 10 (x :: digs 10 R) = R * 10 + x := by rw [val, zau d2]; omega
  rw [hval] at hmd
  have esg : sg false (R * 10 + x) = ((R * 10 + x : Nat) : Int) := by simp [sg]
  rw [esg] at hmd
  have ens : [V.int .i64 (x : Int)] ++ nats .i64 (digs 10 R) = nats .i64 (x :: digs 10 R) := rfl
  rw [ens]
  have elen : 1 + (nats .i64 (digs 10 R)).length = (x :: digs 10 R).length := by rw [zae, List.length_cons]; omega
  rw [elen]
  have e4 : ∀ z1 z2 z3 z4, ((((H.upd (nx + 6) z1).upd (nx + 6) z2).upd (nx + 8) z3).upd (nx + 8) z4) 4 = some ⟨nats .i64 (List.replicate i 0 ++ 0 :: q), 1⟩ := fun z1 z2 z3 z4 => by
   rw [Hp.upd_ne _ _ (by omega), Hp.upd_ne _ _ (by omega), Hp.upd_ne _ _ (by omega), Hp.upd_ne _ _ (by omega)]; exact i3
  refine sgd ?_
  refine zep (nx + 8) (nats .i64 (x :: digs 10 R)) (es := 1) (Hp.upd_same _ _ _) zic (by simp [V.sub, fz1, zae]) hmd (by simp) ?_
  have f4 : ((H.upd (nx + 6) none).upd (nx + 8) none) 4 = some ⟨nats .i64 (List.replicate i 0 ++ 0 :: q), 1⟩ := by
   rw [Hp.upd_ne _ _ (by omega), Hp.upd_ne _ _ (by omega)]; exact i3
  clear e4 i3
  simp -dsimp -implicitDefEqProofs (disch := try exact zdL) only [go_sem, zaj, zai, zaf, zax, zaq, zac, fld_DVn]
  generalize (H.upd (nx + 6) none).upd (nx + 8) none = H1 at f4 ⊢
  refine zap (T := Nat × Nat × Hp × Nat) (fun t => ⟨E [(0, .sl (nats .i64 a)), (1, .sl (nats .i64 (digs 10 y))), (6, .own 4 a.length), (7, .sl (nats .i64 (digs 10 t.2.1))), (8, .int .i64 (i : Int))], t.2.2.1, t.2.2.2, t.2.2.2⟩)
   (fun t => t.2.1 + t.1 * y = R * 10 + x ∧ 4 < t.2.2.2 ∧ t.2.2.1 4 = some ⟨nats .i64 (List.replicate i 0 ++ t.1 :: q), 1⟩) (fun t => t.2.1) (0, R * 10 + x, H1, _) rfl ⟨zdo, zdo, f4⟩ ?_
  rintro ⟨c, R', H2, nx2⟩ ⟨j1, j2, j3⟩
  dsimp only at j1 j2 j3
  have hc9 : c ≤ 9 := by
   refine Decidable.byContradiction fun hn => ?_
   have h1 : 10 * y ≤ c * y := Nat.mul_le_mul_right _ (by omega)
   omega
  have hRl' := hdR R' (by omega)
  have hsz := r_size R' y (by omega) (by omega)
  have hrl : (List.replicate i 0 ++ c :: q).length = a.length := by simp [hql]; omega
  refine sgd ?_
  first | refine zaa (hsz) (by simp) ?_ | refine zab (hsz) (by simp) ?_
  by_cases hge : y ≤ R'
  ·have hnc := ncmp_ge'.2 hge
   have hd := r_less (digs 10 R') (digs 10 y) (zbp d2 _) (zbp d2 _) (by omega) (by omega)
   have hm := r_made false _ (subL_lt d2 _ (digs 10 y) 0 (zbp d2 R')) (by rw [zgd]; omega)
   rw [subL10_abs hge, show sg false (R' - y) = ((R' - y : Nat) : Int) by simp [sg]] at hm
   refine sgd ?_
   first | refine zaa (hd) (by simp) ?_ | refine zab (hd) (by simp) ?_
   refine sgd ?_
   first | refine zaa (hm) (by simp) ?_ | refine zab (hm) (by simp) ?_
   have hgr := get_rep (i := i) (c := c) (q := q)
   have hsr := set_rep (i := i) (c := c) (v := c + 1) (q := q)
   have hst := zbc (b := 4) (i := i) (k := .i64) (l := List.replicate i 0 ++ c :: q) (v := ((c + 1 : Nat) : Int)) hrl hi (by omega)
   rw [Int.toNat_natCast, hsr] at hst
   simp -dsimp -implicitDefEqProofs (disch := try exact zdL) only [go_sem, zaj, zai, zaf, zax, zaq, zac, fld_DVn, j3, hgr, hst]
   generalize hH3 : Hp.upd H2 4 _ = H3
   exact ⟨(c + 1, R' - y, H3, _), rfl, ⟨by dsimp only; rw [Nat.add_mul, Nat.one_mul]; omega, zdo, zdb hH3⟩, zdo⟩
  ·have hnc : ¬ 0 ≤ ncmp R' y := fun h => hge (ncmp_ge'.1 h)
   have hcq : c = (R * 10 + x) / y ∧ R' = (R * 10 + x) % y := by
    rw [← j1, Nat.add_mul_div_right _ _ hy0, Nat.div_eq_of_lt (by omega), Nat.add_mul_mod_self_right, Nat.mod_eq_of_lt (by omega)]; omega
   refine sgd ?_
   rw [← hcq.1, ← hcq.2] at hdv
   exact ⟨(i, .sl (nats .i64 (digs 10 R')), H2, _), rfl, ⟨zdo, zdo, by dsimp only; rw [hdv]; exact j3, .inr (by dsimp only; rw [hdv])⟩, zdo⟩
theorem r_quo (x y : Int) (hy : y ≠ 0) (hx : dlim x ≤ 100000000) (hyl : dlim y ≤ 100000000) : Ret pg zfb [DV x, DV y] (.tup [DV (x.fdiv y), DV (x.fmod y), .int .i64 0]) := by
 have hp := r_parted (digs 10 x.natAbs) y.natAbs (by omega) (zbp d2 _) (by unfold dlim at hx; omega) (by unfold dlim at hyl; omega)
 obtain ⟨v1, v2⟩ := divL_quo (B := 10) (b := y.natAbs) (by omega) (digs 10 x.natAbs)
 have v3 := divL_lt (B := 10) (b := y.natAbs) (by omega) (digs 10 x.natAbs) (zbp d2 _)
 have v5 := divL_len 10 y.natAbs (digs 10 x.natAbs)
 rw [zau d2] at v1 v2
 generalize (divL 10 y.natAbs (digs 10 x.natAbs)).1 = q at *
 rw [v2] at hp
 have hyn : (digs 10 y.natAbs).length ≠ 0 := fun h => by
  have := (zgt d2).1 (List.eq_nil_of_length_eq_zero h); omega
 unfold dlim at hx hyl
 refine gimbalref01_Int_Quo.of rfl (W_b ?_)
 unfold gimbalref01_Int_Quo.k gimbalref01_Int_Quo.res Ot kp kd Oh Oy Om Ol OL Oq Oc On ci
 have hyn' : ¬ ((digs 10 y.natAbs).length : Int) = 0 := by omega
 simp -dsimp -implicitDefEqProofs (disch := try exact zdL) only [go_sem, zaj, zai, zaf, zax, zaq, zac, hyn']
 first | refine zaa (hp) (by simp) ?_ | refine zab (hp) (by simp) ?_
 refine sgd ?_
 have hpl := quo_plain (x := x) hy
 have hmq := r_made (!decide (decide (x < 0) = decide (y < 0))) q v3 (by omega)
 have hrl : (digs 10 (x.natAbs % y.natAbs)).length ≤ (digs 10 y.natAbs).length := zih d2 (Nat.le_of_lt (Nat.mod_lt _ (by omega)))
 have hmr := r_made (decide (x < 0)) (digs 10 (x.natAbs % y.natAbs)) (zbp d2 _) (by omega)
 rw [v1] at hmq
 rw [zau d2] at hmr
 have lq : dlim (sg (!decide (decide (x < 0) = decide (y < 0))) (x.natAbs / y.natAbs)) ≤ 100000000 := by
  unfold dlim; rw [sg_abs]; exact Nat.le_trans (zih d2 (Nat.div_le_self _ _)) hx
 have lr : dlim (sg (decide (x < 0)) (x.natAbs % y.natAbs)) ≤ 100000000 := by
  unfold dlim; rw [sg_abs]; omega
 generalize sg (!decide (decide (x < 0) = decide (y < 0))) (x.natAbs / y.natAbs) = Q at hpl hmq lq
 generalize sg (decide (x < 0)) (x.natAbs % y.natAbs) = R at hpl hmr lr
 first | refine zaa (hmq) (by simp) ?_ | refine zab (hmq) (by simp) ?_
 refine sgd ?_
 first | refine zaa (hmr) (by simp) ?_ | refine zab (hmr) (by simp) ?_
 by_cases hR : R = 0
 ·have hs : (digs 10 R.natAbs).length = 0 := by rw [hR, show Int.natAbs 0 = 0 from rfl, zbe]; rfl
  obtain ⟨e1, e2⟩ := hpl.1 (.inl hR)
  rw [e1, e2]
  simp -dsimp -implicitDefEqProofs (disch := try exact zdL) only [go_sem, zaj, zai, zaf, zax, zaq, zac, hs]
  done
 ·have hs : 0 < (digs 10 R.natAbs).length := Nat.pos_of_ne_zero fun h => hR (by
   have := (zgt d2).1 (List.eq_nil_of_length_eq_zero h); omega)
  by_cases hd : decide (R < 0) = decide (y < 0)
  ·obtain ⟨e1, e2⟩ := hpl.1 (.inr hd)
   rw [e1, e2]
   simp -dsimp -implicitDefEqProofs (disch := try exact zdL) only [go_sem, zaj, zai, zaf, zax, zaq, zac, hs, hd]
   done
  ·obtain ⟨e1, e2⟩ := hpl.2 hR hd
   rw [e1, e2]
   simp -dsimp -implicitDefEqProofs (disch := try exact zdL) only [go_sem, zaj, zai, zaf, zax, zaq, zac, hs, hd]
   first | refine zaa (r_of 1 (by decide)) (by simp) ?_ | refine zab (r_of 1 (by decide)) (by simp) ?_
   refine sgd ?_
   first | refine zaa (r_sub Q 1 (by omega) (by have := zbx (x := 1) (by decide); omega)) (by simp) ?_ | refine zab (r_sub Q 1 (by omega) (by have := zbx (x := 1) (by decide); omega)) (by simp) ?_
   refine sgd ?_
   first | refine zaa (r_add R y (by omega) (by unfold dlim; omega)) (by simp) ?_ | refine zab (r_add R y (by omega) (by unfold dlim; omega)) (by simp) ?_
   exact sgd trivial
   done
end Go.Gim

import Derived.Test.YtjkjpjneeioeiaaGreatLR1
/- The document's whole numbers: made of machine numbers, sums and differences of digits, texts. -/
set_option maxRecDepth 100000
set_option linter.unusedSimpArgs false
set_option linter.unusedVariables false
namespace Go.Gim
open Go.Proofs
attribute [local go_sem] IntWalk.i64_in wu64 wu32 wu8 Nat.mod_eq_of_lt shr32 shr63 shl32 or32 quo64 quo32 zfq remk zcn zcm zdx zdw zb7 Nat.add_assoc za2 lt_ne gt_ne zdn dlt_t dlt_f dle_t dle_f deq_t deq_f zbz ze2 ze1 zbe zbl zbb za7 zco zcq zcr zc9 zah List.length_set ge_iff_le gt_iff_lt Int.toNat_natCast zcg zde zch zdg zdf zcl zb4 zf1 zb5 zb6 zdm
theorem nats_app1 {k : IntKind} {l : List Nat} {m : Nat} {e : V} (h : e = .int k (m : Int)) : nats k l ++ [e] = nats k (l ++ [m]) := by subst h; simp [nats]
theorem DV_zero : DV 0 = .agg [.bool false, .sl []] := by simp [DV, zbk, nats]
theorem r_made_nil (b : Bool) : Ret pg zc6 [.bool b, .nil] (DV 0) := by
 refine gimbalref01_made.of rfl (W_b ?_)
 unfold gimbalref01_made.k gimbalref01_made.res Ot kp Oh Oy Om On ci
 refine sgd ?_
 refine zam (T := Nat) (fun t => ⟨E [(0, .bool b), (1, .nil), (4, .ptr 0 1 0 0), (5, .int .i64 0)], Hp.upd (fun _ => none) 0 (some ⟨[.agg [.bool false, .nil]], 2⟩), t, t⟩) (fun t => 0 < t) (fun t => 0) _ rfl (by omega) ?_
 intro nx h0
 have e1 : redV (.slc 1 false true false) [.nil, .int .i64 0] = some .nil := rfl
 cases b <;> simp -dsimp -implicitDefEqProofs (disch := try exact zdL) only [go_sem, zf6, zf5, zez, frz_DV, part_DV, zae, e1, DV_zero]
theorem rem10i (m : Int) : binV .rem (.int .i64 m) (.int .i64 10) = some (.int .i64 (m.tmod 10)) := by rw [binV_rem, if_neg (by decide)]
theorem quo10i {m : Int} (h : -9223372036854775808 ≤ m ∧ m ≤ 9223372036854775807) : binV .quo (.int .i64 m) (.int .i64 10) = some (.int .i64 (m.tdiv 10)) := by
 rw [binV_quo, if_neg (by decide)]
 have := tdiv_abs m
 generalize m.tdiv 10 = q at *
 rw [IntWalk.i64_in _ (by omega)]
theorem r_of (n : Int) (h : -9223372036854775808 ≤ n ∧ n ≤ 9223372036854775807) : Ret pg zb3 [.int .i64 n] (DV n) := by
 refine gimbalref01_Of.of rfl (W_b ?_)
 unfold gimbalref01_Of.k gimbalref01_Of.res Ot kp Oy Om ci
 have hlen := dlim_i64 h
 unfold dlim at hlen
 refine sgd ?_
 refine zam (T := Int × V × Hp × Nat × List Nat) (fun t => ⟨E [(0, .int .i64 t.1), (2, .ptr 0 1 0 0), (3, t.2.1), (4, .bool (decide (n < 0)))], t.2.2.1, t.2.2.2.1, t.2.2.2.1⟩)
  (fun t => 1 < t.2.2.2.1 ∧ (-9223372036854775808 ≤ t.1 ∧ t.1 ≤ 9223372036854775807) ∧ t.2.2.1 0 = some ⟨[.agg [.bool false, .nil]], 2⟩ ∧ Row 1 t.2.2.1 t.2.2.2.1 t.2.1 1 (nats .i64 t.2.2.2.2) ∧ t.2.2.2.2 ++ digs 10 t.1.natAbs = digs 10 n.natAbs) (fun t => t.1.natAbs) (n, .nil, _, _, []) rfl ⟨zdo, h, rfl, Row.nil _ _ _ _, by simp⟩ ?_
 rintro ⟨m, v, H, nx, ds⟩ ⟨i0, i1, i2, i3, i4⟩
 dsimp only at i0 i1 i2 i3 i4
 have hl : ds.length ≤ 20 := by rw [← i4, List.length_append] at hlen; omega
 by_cases hm : m = 0
 ·subst hm
  rw [Int.natAbs_zero, zbk, List.append_nil] at i4
  subst i4
  have hmd := r_made (decide (n < 0)) (digs 10 n.natAbs) (zdz d2 _) (by omega)
  rw [za4 d2, show sg (decide (n < 0)) n.natAbs = n by unfold sg; split <;> simp_all <;> omega] at hmd
  rcases i3 with ⟨rfl, hd⟩ | ⟨b, rfl, hb1, hb2, hb3⟩
  ·have : n = 0 := by
    have := congrArg List.length hd
    rw [zah] at this
    have := (digs_nil d2).1 (List.length_eq_zero_iff.1 this)
    omega
   subst this
   refine sgd ?_
   refine zaa (r_made_nil _) (by simp) ?_
   simp -dsimp -implicitDefEqProofs (disch := try exact zdL) only [go_sem, zf6, zf5, zez, frz_DV, part_DV, zae, i2]
  ·have hb0 : (0 = b) = False := by simp; omega
   refine sgd ?_
   refine zgk b (nats .i64 (digs 10 n.natAbs)) hb3 nats_pure (by simp [V.sub, fz1, zah, sub_DV, sub_agg]) hmd (by simp) ?_
   simp -dsimp -implicitDefEqProofs (disch := try exact zdL) only [go_sem, zf6, zf5, zez, frz_DV, part_DV, zae, i2, hb0]
 ·have hs := digs_step (v := m.natAbs) (by omega)
  rw [hs] at i4
  have e1 := tmod_abs m
  have e2 := tdiv_abs m
  have e3 : m.natAbs / 10 < m.natAbs := Nat.div_lt_self (by omega) (by decide)
  have q1 := quo10i i1
  have q2 := rem10i m
  generalize m.tmod 10 = c at *
  generalize m.tdiv 10 = q at *
  have e4 : c.natAbs < 10 := by omega
  by_cases hc : c < 0
  ·simp -dsimp -implicitDefEqProofs (disch := try exact zdL) only [go_sem, zf6, zf5, zez, frz_DV, part_DV, zae, q1, q2]
   refine zcc (lo := 1) (nx := nx) (H0 := H) (xs := nats .i64 ds) i3 (by omega) rfl (by omega) (by omega) (by simp [rowOk, V.isJunk, V.cells, V.cellOk]) (by decide) (by simp [zah]; omega) (by simp [zah]; omega) fun v2 H2 r1 _ _ r4 => ?_
   rw [nats_app1 (m := m.natAbs % 10) (by congr 1; omega)] at r1
   simp -dsimp -implicitDefEqProofs (disch := try exact zdL) only [go_sem, zf6, zf5, zez, frz_DV, part_DV, zae, q1, q2]
   exact ⟨(q, v2, H2, _, ds ++ [m.natAbs % 10]), rfl, ⟨zdo, zdo, (r4 0 (by omega)).trans i2, r1.same (fun _ _ => rfl) zdo, by rw [List.append_assoc, e2]; exact i4⟩, zdo⟩
  ·simp -dsimp -implicitDefEqProofs (disch := try exact zdL) only [go_sem, zf6, zf5, zez, frz_DV, part_DV, zae, q1, q2]
   refine zcc (lo := 1) (nx := nx) (H0 := H) (xs := nats .i64 ds) i3 (by omega) rfl (by omega) (by omega) (by simp [rowOk, V.isJunk, V.cells, V.cellOk]) (by decide) (by simp [zah]; omega) (by simp [zah]; omega) fun v2 H2 r1 _ _ r4 => ?_
   rw [nats_app1 (m := m.natAbs % 10) (by congr 1; omega)] at r1
   simp -dsimp -implicitDefEqProofs (disch := try exact zdL) only [go_sem, zf6, zf5, zez, frz_DV, part_DV, zae, q1, q2]
   exact ⟨(q, v2, H2, _, ds ++ [m.natAbs % 10]), rfl, ⟨zdo, zdo, (r4 0 (by omega)).trans i2, r1.same (fun _ _ => rfl) zdo, by rw [List.append_assoc, e2]; exact i4⟩, zdo⟩
end Go.Gim

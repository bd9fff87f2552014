import Derived.Test.YtmfenpedpajfkaaLR2
/- The document's whole numbers: sums, differences, order, texts. -/
set_option maxRecDepth 100000
set_option linter.unusedSimpArgs false
set_option linter.unusedVariables false
namespace Go.Gim
open Go.Proofs
attribute [local go_sem] IntWalk.i64_in wu64 wu32 wu8 Nat.mod_eq_of_lt shr32 shr63 shl32 or32 quo64 quo32 quoi64 remk quo32_10 rem32_10 quoi_10 remi_10 nat_48add Nat.add_assoc add_ne_self lt_ne gt_ne add_inj dlt_t dlt_f dle_t dle_f deq_t deq_f idxB_nats idxO_f idxO_t loadO_natf loadO_natt storeO_nat storeO_natn newB_mkn effV_cpy cpyO_nat upd_upd nats_len List.length_set ge_iff_le gt_iff_lt Int.toNat_natCast nat_sub1 nat_sub nat_add1 nat_add nat_mul slc3_pos slc3_zero slc_to nats_take nats_drop boxB_eq
theorem r_string (x : Int) (hx : dlim x ≤ 1099511627776) : Ret pg n_gimbalref01_Int_String [DV x] (.str (decS x)) := by
  refine gimbalref01_Int_String.of rfl (W_b ?_)
  unfold gimbalref01_Int_String.k gimbalref01_Int_String.res
  by_cases h0 : x = 0
  · subst h0
    have e : digs 10 (Int.natAbs 0) = [] := digs_zero _
    simp -dsimp -implicitDefEqProofs (disch := (first | omega | (simp only [zL] <;> omega) | (apply isPure_intro <;> simp))) only [go_sem, DV_cells, DV_isAgg, DV_isJunk, frz_DV, part_DV, nats_frz, e, List.length_nil]
    rfl
  · have hne : (digs 10 x.natAbs).length ≠ 0 := by rw [digs_pos d2 (by omega)]; simp
    have hlen : (digs 10 x.natAbs).length ≤ 1099511627776 := hx
    have lx := digs_lt d2 x.natAbs
    have hdec : decL x = (if x < 0 then [45] else []) ++ ((digs 10 x.natAbs).map (48 + ·)).reverse := by rw [decL, if_neg h0]
    generalize hD : digs 10 x.natAbs = D at *
    by_cases hn : x < 0
    · rw [if_pos hn] at hdec
      simp -dsimp -implicitDefEqProofs (disch := (first | omega | (simp only [zL] <;> omega) | (apply isPure_intro <;> simp))) only [go_sem, DV_cells, DV_isAgg, DV_isJunk, frz_DV, part_DV, nats_frz, hD]
      refine effB_row (lo := 0) (nx := 10) (H0 := fun _ => none) (xs := []) (Row.nil _ _ _ _) (by omega) rfl (by omega) (by omega) (by simp [rowOk, V.isJunk, V.cells, V.cellOk]) (by decide) (by simp) (by simp) fun v1 H1 r0 _ _ _ => ?_
      simp -dsimp -implicitDefEqProofs (disch := (first | omega | (simp only [zL] <;> omega) | (apply isPure_intro <;> simp))) only [go_sem, DV_cells, DV_isAgg, DV_isJunk, frz_DV, part_DV, nats_frz, hD]
      refine W_loop (T := Nat × V × Hp × Nat) (fun t => ⟨E [(1, .pp (DV x)), (3, t.2.1), (4, .int .i64 ((t.1 : Int) - 1))], t.2.2.1, t.2.2.2, t.2.2.2⟩)
        (fun t => t.1 ≤ D.length ∧ Row 0 t.2.2.1 t.2.2.2 t.2.1 1 (nats .u8 ([45] ++ ((D.map (48 + ·)).drop t.1).reverse))) (fun t => t.1) (D.length, _, _, _) (by dsimp only; rw [nat_sub1 (n := D.length) (by omega)]) ⟨Nat.le_refl _, by dsimp only; rw [List.drop_eq_nil_of_le (by simp)]; exact r0.same (fun _ _ => rfl) (by omega)⟩ ?_
      rintro ⟨j, v, H, nx⟩ ⟨i1, i2⟩
      dsimp only at i1 i2
      by_cases hj : j = 0
      · subst hj
        rw [List.drop_zero, ← hdec] at i2
        simp -dsimp -implicitDefEqProofs (disch := (first | omega | (simp only [zL] <;> omega) | (apply isPure_intro <;> simp))) only [go_sem, DV_cells, DV_isAgg, DV_isJunk, frz_DV, part_DV, nats_frz]
        refine effB_of (effV_b2s i2.slOf) ?_
        simp -dsimp -implicitDefEqProofs (disch := (first | omega | (simp only [zL] <;> omega) | (apply isPure_intro <;> simp))) only [go_sem, DV_cells, DV_isAgg, DV_isJunk, frz_DV, part_DV, nats_frz]
        rfl
      · have g : D.getD (j - 1) 0 < 10 := getD_lt lx (by decide)
        have hd : (D.map (48 + ·)).drop (j - 1) = (48 + D.getD (j - 1) 0) :: (D.map (48 + ·)).drop j := by
          rw [drop_cons (by simp; omega), show j - 1 + 1 = j by omega]
          congr 1
          simp [List.getD_eq_getElem?_getD, show j - 1 < D.length by omega]
        generalize hX : D.getD (j - 1) 0 = z at *
        have hm : (48 + z) % 256 = 48 + z := by omega
        simp -dsimp -implicitDefEqProofs (disch := (first | omega | (simp only [zL] <;> omega) | (apply isPure_intro <;> simp))) only [go_sem, DV_cells, DV_isAgg, DV_isJunk, frz_DV, part_DV, nats_frz, hD, hX, hm]
        refine effB_row (lo := 0) (nx := nx) (H0 := H) (xs := nats .u8 ([45] ++ ((D.map (48 + ·)).drop j).reverse)) i2 (by omega) rfl (by omega) (by omega) (by simp [rowOk, V.isJunk, V.cells, V.cellOk]) (by decide) (by simp [nats_len]; omega) (by simp [nats_len]; omega) fun v2 H2 r1 _ _ _ => ?_
        rw [nats_app1 rfl] at r1
        simp -dsimp -implicitDefEqProofs (disch := (first | omega | (simp only [zL] <;> omega) | (apply isPure_intro <;> simp))) only [go_sem, DV_cells, DV_isAgg, DV_isJunk, frz_DV, part_DV, nats_frz, hD, hX]
        refine ⟨(j - 1, v2, H2, _), rfl, ⟨by dsimp only; omega, ?_⟩, by dsimp only; omega⟩
        dsimp only
        rw [hd, List.reverse_cons]
        exact r1.same (fun _ _ => rfl) (by omega)
    · rw [if_neg hn] at hdec
      simp -dsimp -implicitDefEqProofs (disch := (first | omega | (simp only [zL] <;> omega) | (apply isPure_intro <;> simp))) only [go_sem, DV_cells, DV_isAgg, DV_isJunk, frz_DV, part_DV, nats_frz, hD]
      refine W_loop (T := Nat × V × Hp × Nat) (fun t => ⟨E [(1, .pp (DV x)), (3, t.2.1), (4, .int .i64 ((t.1 : Int) - 1))], t.2.2.1, t.2.2.2, t.2.2.2⟩)
        (fun t => t.1 ≤ D.length ∧ Row 0 t.2.2.1 t.2.2.2 t.2.1 1 (nats .u8 ([] ++ ((D.map (48 + ·)).drop t.1).reverse))) (fun t => t.1) (D.length, _, _, _) (by dsimp only; rw [nat_sub1 (n := D.length) (by omega)]) ⟨Nat.le_refl _, by dsimp only; rw [List.drop_eq_nil_of_le (by simp)]; exact Row.nil _ _ _ _⟩ ?_
      rintro ⟨j, v, H, nx⟩ ⟨i1, i2⟩
      dsimp only at i1 i2
      by_cases hj : j = 0
      · subst hj
        rw [List.drop_zero, ← hdec] at i2
        simp -dsimp -implicitDefEqProofs (disch := (first | omega | (simp only [zL] <;> omega) | (apply isPure_intro <;> simp))) only [go_sem, DV_cells, DV_isAgg, DV_isJunk, frz_DV, part_DV, nats_frz]
        refine effB_of (effV_b2s i2.slOf) ?_
        simp -dsimp -implicitDefEqProofs (disch := (first | omega | (simp only [zL] <;> omega) | (apply isPure_intro <;> simp))) only [go_sem, DV_cells, DV_isAgg, DV_isJunk, frz_DV, part_DV, nats_frz]
        rfl
      · have g : D.getD (j - 1) 0 < 10 := getD_lt lx (by decide)
        have hd : (D.map (48 + ·)).drop (j - 1) = (48 + D.getD (j - 1) 0) :: (D.map (48 + ·)).drop j := by
          rw [drop_cons (by simp; omega), show j - 1 + 1 = j by omega]
          congr 1
          simp [List.getD_eq_getElem?_getD, show j - 1 < D.length by omega]
        generalize hX : D.getD (j - 1) 0 = z at *
        have hm : (48 + z) % 256 = 48 + z := by omega
        simp -dsimp -implicitDefEqProofs (disch := (first | omega | (simp only [zL] <;> omega) | (apply isPure_intro <;> simp))) only [go_sem, DV_cells, DV_isAgg, DV_isJunk, frz_DV, part_DV, nats_frz, hD, hX, hm]
        refine effB_row (lo := 0) (nx := nx) (H0 := H) (xs := nats .u8 ([] ++ ((D.map (48 + ·)).drop j).reverse)) i2 (by omega) rfl (by omega) (by omega) (by simp [rowOk, V.isJunk, V.cells, V.cellOk]) (by decide) (by simp [nats_len]; omega) (by simp [nats_len]; omega) fun v2 H2 r1 _ _ _ => ?_
        rw [nats_app1 rfl] at r1
        simp -dsimp -implicitDefEqProofs (disch := (first | omega | (simp only [zL] <;> omega) | (apply isPure_intro <;> simp))) only [go_sem, DV_cells, DV_isAgg, DV_isJunk, frz_DV, part_DV, nats_frz, hD, hX]
        refine ⟨(j - 1, v2, H2, _), rfl, ⟨by dsimp only; omega, ?_⟩, by dsimp only; omega⟩
        dsimp only
        rw [hd, List.reverse_cons]
        exact r1.same (fun _ _ => rfl) (by omega)
end Go.Gim

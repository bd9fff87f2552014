/- The codec: bytes, and a measurement's. -/
import Derived.Test.YtnaclocpmkldnaaDoorC1
set_option maxRecDepth 100000
set_option linter.unusedSimpArgs false
set_option linter.unusedVariables false
namespace Go.Gim
open Go.Proofs
/-- A number's lower bytes, the highest first. -/
def byt (n : Int) (i : Nat) : Nat := (n / 2 ^ (8 * i) % 256).toNat
def bytL (n : Int) : Nat → List Nat
  | 0 => []
  | j + 1 => byt n j :: bytL n j
theorem bytL_len (n j) : (bytL n j).length = j := by induction j with | zero => rfl | succ j ih => simp [bytL, ih]
theorem byt_lt (n i) : byt n i < 256 := by unfold byt; omega
theorem wrap_u8' (n : Int) : IntKind.u8.wrap n = ((n % 256).toNat : Int) := by rw [IntKind.wrap_u8]; omega
theorem nats_app2 {k : IntKind} {l : List Nat} {m : Nat} {e : V} (h : e = .int k (m : Int)) : nats k l ++ [e] = nats k (l ++ [m]) := by subst h; simp [nats]
theorem shrB (n : Int) {i : Nat} (h : i ≤ 7) : shiftV .shr .i64 n (8 * (i : Int)) = some (.int .i64 (n / 2 ^ (8 * i))) := by
  have e : min (8 * (i : Int)).toNat IntKind.i64.bits = 8 * i := by
    have : IntKind.i64.bits = 64 := rfl
    omega
  simp only [shiftV]
  rw [if_neg (by omega), e, Int.fdiv_eq_ediv_of_nonneg _ (Int.pow_nonneg (by decide))]
theorem bytes_G (v : V) (ahead : List Nat) (n : Int) (many : Nat) (H : Hp) (n0 : Nat) (hv : Row 0 H n0 v 1 (nats .u8 ahead)) (hl : ahead.length ≤ 1099511627776) (hm : many ≤ 7) :
    ∃ r H' n', (Row 0 H' n' r 1 (nats .u8 (ahead ++ bytL n many)) ∧ n0 ≤ n' ∧ ∀ b, b < n0 → (∀ k, v ≠ .own b k) → H' b = H b) ∧ RetG pg n_codec_bytes [v, .int .i64 n, .int .i64 many] H n0 r H' n' := by
  refine codec_bytes.ofG rfl (W_b ?_)
  unfold codec_bytes.k codec_bytes.res
  simp -dsimp -implicitDefEqProofs (disch := (first | omega | (simp only [nats_len, List.length_set, List.length_replicate, List.length_append, List.length_take, List.length_drop, List.length_map, List.length_cons, List.length_nil] <;> omega) | (apply isPure_intro <;> simp))) only [go_sem, reduceIte, reduceCtorEq, Nat.reduceEqDiff, Nat.reduceAdd, Nat.reduceLeDiff, Nat.reduceMul, Nat.reduceSub, Nat.reduceLT, Nat.reduceBEq, Int.reduceToNat, Int.reduceNeg, Int.reduceEq, Int.reduceLT, Int.reduceLE, Bool.and_true, Bool.true_and, Bool.and_self, Bool.not_false, Bool.not_true, and_true, true_and, IntWalk.i64_in, wu64, wu32, wu8, Nat.mod_eq_of_lt, shr32, shr63, shl32, or32, quo64, quo32, quoi64, remk, quo32_10, rem32_10, quoi_10, remi_10, nat_48add, Nat.add_assoc, add_ne_self, lt_ne, gt_ne, add_inj, dlt_t, dlt_f, dle_t, dle_f, deq_t, deq_f, idxB_nats, idxO_f, idxO_t, loadO_natf, loadO_natt, storeO_nat, storeO_natn, newB_mkn, effV_cpy, cpyO_nat, upd_upd, nats_len, List.length_set, ge_iff_le, gt_iff_lt, Int.toNat_natCast, nat_sub1, nat_sub, nat_add1, nat_add, nat_mul, slc3_pos, slc3_zero, slc_to, nats_take, nats_drop, boxB_eq]
  refine W_loop (T := Nat × V × Hp × Nat × List Nat) (fun t => ⟨E [(0, t.2.1), (1, .int .i64 n), (7, .int .i64 ((t.1 : Int) - 1))], t.2.2.1, t.2.2.2.1, t.2.2.2.1⟩)
    (fun t => t.1 ≤ many ∧ n0 ≤ t.2.2.2.1 ∧ t.2.2.2.2.length + t.1 = ahead.length + many ∧ Row 0 t.2.2.1 t.2.2.2.1 t.2.1 1 (nats .u8 t.2.2.2.2) ∧ t.2.2.2.2 ++ bytL n t.1 = ahead ++ bytL n many ∧ ∀ b, b < n0 → (∀ k, v ≠ .own b k) → (∀ k, t.2.1 ≠ .own b k) ∧ t.2.2.1 b = H b) (fun t => t.1) (many, v, H, _, ahead) rfl ⟨Nat.le_refl _, by dsimp only; omega, rfl, hv.same (fun _ _ => rfl) (by dsimp only; omega), rfl, fun b _ h => ⟨h, rfl⟩⟩ ?_
  rintro ⟨j, w, H1, nx, ds⟩ ⟨i0, i1, i2, i3, i4, i5⟩
  dsimp only at i0 i1 i2 i3 i4 i5
  by_cases hj : j = 0
  · subst hj
    rw [bytL, List.append_nil] at i4
    subst i4
    simp -dsimp -implicitDefEqProofs (disch := (first | omega | (simp only [nats_len, List.length_set, List.length_replicate, List.length_append, List.length_take, List.length_drop, List.length_map, List.length_cons, List.length_nil] <;> omega) | (apply isPure_intro <;> simp))) only [go_sem, reduceIte, reduceCtorEq, Nat.reduceEqDiff, Nat.reduceAdd, Nat.reduceLeDiff, Nat.reduceMul, Nat.reduceSub, Nat.reduceLT, Nat.reduceBEq, Int.reduceToNat, Int.reduceNeg, Int.reduceEq, Int.reduceLT, Int.reduceLE, Bool.and_true, Bool.true_and, Bool.and_self, Bool.not_false, Bool.not_true, and_true, true_and, IntWalk.i64_in, wu64, wu32, wu8, Nat.mod_eq_of_lt, shr32, shr63, shl32, or32, quo64, quo32, quoi64, remk, quo32_10, rem32_10, quoi_10, remi_10, nat_48add, Nat.add_assoc, add_ne_self, lt_ne, gt_ne, add_inj, dlt_t, dlt_f, dle_t, dle_f, deq_t, deq_f, idxB_nats, idxO_f, idxO_t, loadO_natf, loadO_natt, storeO_nat, storeO_natn, newB_mkn, effV_cpy, cpyO_nat, upd_upd, nats_len, List.length_set, ge_iff_le, gt_iff_lt, Int.toNat_natCast, nat_sub1, nat_sub, nat_add1, nat_add, nat_mul, slc3_pos, slc3_zero, slc_to, nats_take, nats_drop, boxB_eq]
    exact ⟨_, rfl, by dsimp only; omega, i3.same (fun _ _ => rfl) (by dsimp only; omega), by dsimp only; omega, fun b h1 h2 => (i5 b h1 h2).2⟩
  · obtain ⟨m, rfl⟩ : ∃ m, j = m + 1 := ⟨j - 1, by omega⟩
    have e1 := shrB n (i := m) (by omega)
    have e2 : IntKind.u8.wrap (n / 2 ^ (8 * m)) = (byt n m : Int) := wrap_u8' _
    have e3 := byt_lt n m
    rw [bytL] at i4
    generalize byt n m = y at *
    simp -dsimp -implicitDefEqProofs (disch := (first | omega | (simp only [nats_len, List.length_set, List.length_replicate, List.length_append, List.length_take, List.length_drop, List.length_map, List.length_cons, List.length_nil] <;> omega) | (apply isPure_intro <;> simp))) only [go_sem, reduceIte, reduceCtorEq, Nat.reduceEqDiff, Nat.reduceAdd, Nat.reduceLeDiff, Nat.reduceMul, Nat.reduceSub, Nat.reduceLT, Nat.reduceBEq, Int.reduceToNat, Int.reduceNeg, Int.reduceEq, Int.reduceLT, Int.reduceLE, Bool.and_true, Bool.true_and, Bool.and_self, Bool.not_false, Bool.not_true, and_true, true_and, IntWalk.i64_in, wu64, wu32, wu8, Nat.mod_eq_of_lt, shr32, shr63, shl32, or32, quo64, quo32, quoi64, remk, quo32_10, rem32_10, quoi_10, remi_10, nat_48add, Nat.add_assoc, add_ne_self, lt_ne, gt_ne, add_inj, dlt_t, dlt_f, dle_t, dle_f, deq_t, deq_f, idxB_nats, idxO_f, idxO_t, loadO_natf, loadO_natt, storeO_nat, storeO_natn, newB_mkn, effV_cpy, cpyO_nat, upd_upd, nats_len, List.length_set, ge_iff_le, gt_iff_lt, Int.toNat_natCast, nat_sub1, nat_sub, nat_add1, nat_add, nat_mul, slc3_pos, slc3_zero, slc_to, nats_take, nats_drop, boxB_eq, Nat.add_sub_cancel, e1, e2]
    refine effB_row (lo := 0) (nx := nx) (H0 := H1) (xs := nats .u8 ds) i3 (by omega) rfl (by omega) (by omega) (by simp [rowOk, V.isJunk, V.cells, V.cellOk]) (by decide) (by simp [nats_len]; omega) (by simp [nats_len]; omega) fun v2 H2 r1 r2 r3 _ => ?_
    rw [nats_app2 rfl] at r1
    simp -dsimp -implicitDefEqProofs (disch := (first | omega | (simp only [nats_len, List.length_set, List.length_replicate, List.length_append, List.length_take, List.length_drop, List.length_map, List.length_cons, List.length_nil] <;> omega) | (apply isPure_intro <;> simp))) only [go_sem, reduceIte, reduceCtorEq, Nat.reduceEqDiff, Nat.reduceAdd, Nat.reduceLeDiff, Nat.reduceMul, Nat.reduceSub, Nat.reduceLT, Nat.reduceBEq, Int.reduceToNat, Int.reduceNeg, Int.reduceEq, Int.reduceLT, Int.reduceLE, Bool.and_true, Bool.true_and, Bool.and_self, Bool.not_false, Bool.not_true, and_true, true_and, IntWalk.i64_in, wu64, wu32, wu8, Nat.mod_eq_of_lt, shr32, shr63, shl32, or32, quo64, quo32, quoi64, remk, quo32_10, rem32_10, quoi_10, remi_10, nat_48add, Nat.add_assoc, add_ne_self, lt_ne, gt_ne, add_inj, dlt_t, dlt_f, dle_t, dle_f, deq_t, deq_f, idxB_nats, idxO_f, idxO_t, loadO_natf, loadO_natt, storeO_nat, storeO_natn, newB_mkn, effV_cpy, cpyO_nat, upd_upd, nats_len, List.length_set, ge_iff_le, gt_iff_lt, Int.toNat_natCast, nat_sub1, nat_sub, nat_add1, nat_add, nat_mul, slc3_pos, slc3_zero, slc_to, nats_take, nats_drop, boxB_eq]
    refine ⟨(m, v2, H2, _, ds ++ [y]), rfl, ⟨by dsimp only; omega, by dsimp only; omega, by simp; omega, r1.same (fun _ _ => rfl) (by dsimp only; omega), by rw [List.append_assoc]; exact i4, fun b h1 h2 => ⟨fun k h3 => ?_, ?_⟩⟩, by dsimp only; omega⟩
    · have := r2 b k h3; omega
    · dsimp only
      rw [r3 b (by omega) (i5 b h1 h2).1]; exact (i5 b h1 h2).2
end Go.Gim

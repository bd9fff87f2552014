import Derived.Test.YtjmbcnfhonfpkaaGreatDoorFA2
import Derived.Test.YtjmbcnfhonfpkaaGreatDoorHB
/- Rows: what they cost, and how steep that is. -/
set_option maxRecDepth 100000
set_option maxHeartbeats 4000000
set_option linter.unusedSimpArgs false
set_option linter.unusedVariables false
namespace Go.Gim
open Go.Proofs
theorem hRho_lo (r k : Int) : 0 ≤ hRho r k := by
 unfold hRho
 have h1 := sizeR_bd r
 have h2 := clampK_bd k
 split
 ·rcases Int.le_total 0 (zgf r) with h | h; exact Int.mul_nonneg h h; exact Int.mul_nonneg_of_nonpos_of_nonpos h h
 ·rename_i h
  have h3 := Int.mul_le_mul_of_nonneg_left (show zed k ≤ sizeR r by omega) h2.1
  have h4 : 0 ≤ zed k * sizeR r := Int.mul_nonneg h2.1 h1.1
  have h5 : 2 * zed k * sizeR r = 2 * (zed k * sizeR r) := Int.mul_assoc _ _ _
  omega
theorem hRho_hi {r k : Int} (hr : -1000000000 ≤ r ∧ r ≤ 1000000000) (hk : 1 ≤ k ∧ k ≤ 32768) : hRho r k ≤ 65536000000000 := by
 have hc : zed k = k := by unfold zed; omega
 have hz : 0 ≤ sizeR r ∧ sizeR r ≤ 1000000000 := by unfold sizeR zgf; omega
 have hb := sizeR_bd r
 unfold hRho
 rw [hc]
 split
 ·have := zee (a := zgf r) (b := zgf r) (A := 32768) (B := 32768) (by omega) (by omega)
  omega
 ·have h1 := zee (a := 2 * k) (b := sizeR r) (A := 65536) (B := 1000000000) (by omega) (by omega)
  have h2 : 0 ≤ k * k := Int.mul_nonneg (by omega) (by omega)
  omega
theorem hSlope_bd {r k : Int} (hk : 1 ≤ k ∧ k ≤ 32768) : -32768 ≤ hSlope r k ∧ hSlope r k ≤ 32768 := by
 have hc : zed k = k := by unfold zed; omega
 have hb := sizeR_bd r
 unfold hSlope
 rw [hc]
 split <;> omega
def costR (r : Row4) (x : List Int) : Int := r.w * hRho (zdx r x) r.kn
def zh7 (r : Row4) (x : List Int) : Int := r.w * hSlope (zdx r x) r.kn
def zfn (r : Row4) (x : List Int) : List Int := r.co.map fun a => a * zh7 r x
theorem costR_bd {r : Row4} {x : List Int} {n : Nat} (h : Right4 r n) : 0 ≤ costR r x ∧ costR r x ≤ 6553600000000000 := by
 have h1 := hRho_lo (zdx r x) r.kn
 have h2 := hRho_hi (residR_bd r x) h.kn
 have h3 := h.w
 have h4 := zee (a := r.w) (b := hRho (zdx r x) r.kn) (A := 100) (B := 65536000000000) (by omega) (by omega)
 have h5 : 0 ≤ r.w * hRho (zdx r x) r.kn := Int.mul_nonneg (by omega) h1
 unfold costR
 omega
theorem slopeR_bd {r : Row4} {x : List Int} {n : Nat} (h : Right4 r n) : -3276800 ≤ zh7 r x ∧ zh7 r x ≤ 3276800 := by
 have h2 := hSlope_bd (r := zdx r x) h.kn
 have h3 := h.w
 have h4 := zee (a := r.w) (b := hSlope (zdx r x) r.kn) (A := 100) (B := 32768) (by omega) (by omega)
 unfold zh7
 omega
theorem steepR_bd {r : Row4} {x : List Int} {n : Nat} (h : Right4 r n) : ∀ v ∈ zfn r x, -3276800000 ≤ v ∧ v ≤ 3276800000 := by
 intro v hv
 obtain ⟨a, ha, rfl⟩ := List.mem_map.1 hv
 have h1 := slopeR_bd (x := x) h
 have h2 := zee (a := a) (b := zh7 r x) (A := 1000) (B := 3276800) (by have := h.co a ha; omega) (by omega)
 omega
theorem cost_ret (r : Row4) (x : List Int) (hr : Right4 r x.length) (hx : State x) : Ret pg n_factor_Cost [RV r, ints x] (.int .i64 (costR r x)) := by
 have hb := costR_bd (x := x) hr
 refine factor_Cost.of rfl (W_b ?_)
 unfold factor_Cost.k factor_Cost.res Ot kp kd Om Ol OL Oq Oc
 refine sgo ?_
 first | refine zab (resid_ret r x hr hx) (by simp) ?_ | refine zaa (resid_ret r x hr hx) (by simp) ?_
 refine sgo ?_
 first | refine zab (rho_ret (zdx r x) r.kn) (by simp) ?_ | refine zaa (rho_ret (zdx r x) r.kn) (by simp) ?_
 unfold costR at hb ⊢
 simp -dsimp -implicitDefEqProofs (disch := try exact zdE) only [go_sem, w64 (show -9223372036854775808 ≤ r.w * hRho (zdx r x) r.kn ∧ r.w * hRho (zdx r x) r.kn ≤ 9223372036854775807 by omega)]
theorem steep_ret (r : Row4) (x : List Int) (hr : Right4 r x.length) (hx : State x) : Ret pg zhy [RV r, ints x] (ints (zfn r x)) := by
 have hb := slopeR_bd (x := x) hr
 have hl := hr.len
 have hn := hr.le
 refine factor_Steep.of rfl (W_b ?_)
 unfold factor_Steep.k factor_Steep.res Ot kp kd Om Ol OL Oq Oi Oc On ci
 refine sgo ?_
 first | refine zab (resid_ret r x hr hx) (by simp) ?_ | refine zaa (resid_ret r x hr hx) (by simp) ?_
 refine sgo ?_
 first | refine zab (slope_ret (zdx r x) r.kn) (by simp) ?_ | refine zaa (slope_ret (zdx r x) r.kn) (by simp) ?_
 have hs : r.w * hSlope (zdx r x) r.kn = zh7 r x := rfl
 have e1 := w64 (show -9223372036854775808 ≤ zh7 r x ∧ zh7 r x ≤ 9223372036854775807 by omega)
 simp -dsimp -implicitDefEqProofs (disch := try exact zdE) only [go_sem, hs, e1]
 refine zf0 (T := Nat × V × Hp × Nat) (fun t => ⟨E [(5, .int .i64 (zh7 r x)), (6, t.2.1), (19, ints r.co), (20, .int .i64 r.co.length), (21, .int .i64 t.1)], t.2.2.1, t.2.2.2, t.2.2.2⟩)
  (fun t => t.1 ≤ r.co.length ∧ Row 0 t.2.2.1 t.2.2.2 t.2.1 1 (((zfn r x).take t.1).map (V.int .i64))) (fun t => r.co.length - t.1) (0, .nil, _, _) (Ghost.refl _) ⟨zdo, Row.nil _ _ _ _⟩ ?_
 rintro ⟨i, w, H, nx⟩ ⟨i1, i2⟩
 dsimp only at i1 i2
 have hsl : (zfn r x).length = r.co.length := by simp [zfn]
 by_cases hi : i < r.co.length
 ·have hm := hr.co _ (zaz 0 hi)
  have ht := zef (l := zfn r x) (i := i) 0 (by omega)
  have e : (zfn r x).getD i 0 = r.co.getD i 0 * zh7 r x := by simp [zfn, List.getD_eq_getElem?_getD, hi]
  rw [e] at ht
  have h2 := zee (a := r.co.getD i 0) (b := zh7 r x) (A := 1000) (B := 3276800) (by omega) (by omega)
  generalize hZ : r.co.getD i 0 = z at *
  have e2 := w64 (show -9223372036854775808 ≤ z * zh7 r x ∧ z * zh7 r x ≤ 9223372036854775807 by omega)
  simp -dsimp -implicitDefEqProofs (disch := try exact zdE) only [go_sem, hZ, e2]
  refine zf7 (lo := 0) (nx := nx) (H0 := H) (xs := ((zfn r x).take i).map (V.int .i64)) i2 (by omega) rfl (by omega) (by omega) (by simp [rowOk, V.cells, V.cellOk, V.isJunk]) (by decide) (by simp; omega) (by simp; omega) fun v2 H2 r1 _ _ r4 => ?_
  rw [zh1 (V.int .i64), ← ht] at r1
  refine sgo ?_
  exact ⟨(i + 1, v2, H2, _), Ghost.refl _, ⟨zdo, r1.same (fun _ _ => rfl) zdo⟩, zdo⟩
 ·have hie : i = r.co.length := by omega
  subst hie
  rw [List.take_of_length_le (by omega)] at i2
  refine sgo ?_
  rw [i2.frz (zfk fun x => rfl)]
  rfl
end Go.Gim

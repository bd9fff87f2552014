import Derived.Test.YtjkjpjneeioeiaaGreatSM0
import Derived.Test.YtjkjpjneeioeiaaGreatLB2
/- Quadratic functions: both together, where one is least, with numbers told. -/
set_option maxRecDepth 100000
set_option maxHeartbeats 4000000
set_option linter.unusedSimpArgs false
set_option linter.unusedVariables false
namespace Go.Gim
open Go.Proofs
theorem qleast_ret (P : List (List Int)) (Q : List Int) (c : Int) (n L : Nat) (hn : n ≤ 12) (hL : L ≤ 100) (hP : Sq P n) (hQ : Q.length = n) (sP : ∀ i j, lim (at2 P i j) ≤ L) (sQ : ∀ i, lim (Q.getD i 0) ≤ L) (sc : lim c ≤ L) :
  Ret pg ze9 [QV P Q c] (if defS n (at2 P) = true then .tup [ivl (rowF n fun k => det n (setC (at2 P) k fun i => Q.getD i 0)), IV (det n (at2 P)), IV (c * det n (at2 P) - sumZ (fun k => Q.getD k 0 * det n (setC (at2 P) k fun i => Q.getD i 0)) n), .int .i64 0] else .tup [.sl [], IV 0, IV 0, .int .i64 80]) := by
 have hl := hP.1
 have hd := ldefinite_ret P n L hn (by omega) hP sP
 have hs := lsolve_ret P Q n L hn (by omega) hP hQ sP sQ
 rw [solveS_eq, detS_eq] at hs
 have sD := det_sm (n := n) (L := L) hn hL sP
 have sN : ∀ k, lim (det n (setC (at2 P) k fun i => Q.getD i 0)) ≤ 413696 := fun k => det_sm hn hL (setC_lim sP sQ k)
 have hnl := zd4 n fun k => det n (setC (at2 P) k fun i => Q.getD i 0)
 have hdot := qdot_ret Q (rowF n fun k => det n (setC (at2 P) k fun i => Q.getD i 0)) (by omega) (by omega) (fun i => by have := sQ i; omega) (fun i => by have := rng_lim (n := n) sN i; unfold rowF; omega)
 have hE : sumN (fun k => Q.getD k 0) (fun k => (rowF n fun k => det n (setC (at2 P) k fun i => Q.getD i 0)).getD k 0) Q.length = sumZ (fun k => Q.getD k 0 * det n (setC (at2 P) k fun i => Q.getD i 0)) n := by
  rw [hQ, sumN_sm]; exact zac fun k hk => by rw [rowF_get hk]
 rw [hE] at hdot
 have sS : lim (sumZ (fun k => Q.getD k 0 * det n (setC (at2 P) k fun i => Q.getD i 0)) n) ≤ 500000 := by
  rw [← sumN_sm]
  have := zen (f := fun k => Q.getD k 0) (p := fun k => det n (setC (at2 P) k fun i => Q.getD i 0)) (L := 413796) (fun k => by have := sQ k; have := sN k; omega) n
  omega
 refine quad_Quad_Least.of rfl (W_b ?_)
 unfold quad_Quad_Least.k quad_Quad_Least.res Ot kp kd Oy Om Ol OL Oq Oc
 by_cases hdf : defS n (at2 P) = true
 ·have hd0 := defS_det hdf
  rw [hdf] at hd
  rw [if_neg (by omega)] at hs
  unfold solveV at hs
  dsimp only at hs
  rw [if_pos hdf]
  have sm := zbj c (det n (at2 P))
  generalize det n (at2 P) = d at *
  generalize sumZ (fun k => Q.getD k 0 * det n (setC (at2 P) k fun i => Q.getD i 0)) n = s at *
  generalize rowF n (fun k => det n (setC (at2 P) k fun i => Q.getD i 0)) = num at *
  refine sgo ?_
  first | refine zaa (hd) (by simp) ?_ | refine zab (hd) (by simp) ?_
  refine sgo ?_
  first | refine zaa (hs) (by simp) ?_ | refine zab (hs) (by simp) ?_
  refine sgo ?_
  first | refine zaa (za9 c d (by omega) (by omega)) (by simp) ?_ | refine zab (za9 c d (by omega) (by omega)) (by simp) ?_
  refine sgo ?_
  first | refine zaa (hdot) (by simp) ?_ | refine zab (hdot) (by simp) ?_
  refine sgo ?_
  first | refine zaa (sub_ret _ _ (by omega) (by omega)) (by simp) ?_ | refine zab (sub_ret _ _ (by omega) (by omega)) (by simp) ?_
  exact sgo trivial
 ·have hdf' : defS n (at2 P) = false := by simpa using hdf
  rw [hdf'] at hd
  rw [if_neg hdf]
  refine sgo ?_
  first | refine zaa (hd) (by simp) ?_ | refine zab (hd) (by simp) ?_
  simp -dsimp -implicitDefEqProofs (disch := try exact zdE) only [go_sem, zcz]
end Go.Gim

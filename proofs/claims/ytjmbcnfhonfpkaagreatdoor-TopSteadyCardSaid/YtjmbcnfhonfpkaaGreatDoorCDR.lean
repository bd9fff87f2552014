import Derived.Test.YtjmbcnfhonfpkaaGreatDoorF13
import Derived.Test.YtjmbcnfhonfpkaaGreatDoorF19
import Derived.Test.YtjmbcnfhonfpkaaGreatDoorRows
import Derived.LaidLaws
import Derived.FnData
/- What the rows hand over: numbers, and the counts' variable. -/
set_option maxRecDepth 100000
set_option linter.unusedSimpArgs false
set_option linter.unusedVariables false
namespace Go.Gim
open Go.Proofs Go.Proofs.YtjmbcnfhonfpkaaGreatDoor Go.RowKit Go.WideShapes
theorem int_i64_of {u : V} (h : OkC (.int .i64) u) : ∃ n : Int, (-9223372036854775808 ≤ n ∧ n ≤ 9223372036854775807) ∧ u = .int .i64 n := by
 cases h with
 | int k n hw => exact ⟨n, wf64 hw, rfl⟩
theorem countsN : Tryz.prog.globalNamed "gimbal/codec.counts" = some 0 := by kernel_rfl
theorem countsT : (Tryz.prog.globals[0]?).map (·.type) = some 215 := by kernel_rfl
theorem countsC : cellsTy Tryz.prog 4 215 = some [.int .i64, .int .i64, .int .i64, .int .i64, .int .i64] := by kernel_rfl
theorem countsU : Tryz.prog.underlying 215 = some (.array 5 3) := by kernel_rfl
theorem countsE : Tryz.prog.underlying 3 = some (.int .i64) := by kernel_rfl
theorem countsS : Tryz.prog.cellsOf 215 = 5 := by kernel_rfl
theorem countsS1 : Tryz.prog.cellsOf 3 = 1 := by kernel_rfl
theorem counts_ok {W : World} (h : laidMet Tryz.prog Rows.topSteadyRow.laid W) : GOk (fun _ => False) W := by
 obtain ⟨ps, ⟨g, t, cs, fuel, p, q, hg, ht, hvar, hd, _, _⟩, _⟩ := h
 obtain rfl := Option.some.inj (countsN.symm.trans hg)
 intro x hx
 have hx : x = (0, .agg [.int .i64 0, .int .i64 6, .int .i64 6, .int .i64 1, .int .i64 3]) := by simpa [gvs] using hx
 subst hx
 obtain rfl := Option.some.inj (countsT.symm.trans ht)
 obtain ⟨vs, n1, p1⟩ := opens fuel 4 _ _ _ _ hd countsC
 have hlen : cs.toList.length = 5 := by
  cases fuel with
  | zero => simp [DataW.trod] at hd
  | succ fuel =>
   rw [DataW.trod_step] at hd
   unfold DataW.trodStep at hd
   rw [countsU] at hd
   have h' : (if cs.toList.length = Tryz.prog.cellsOf 215 then _ else none) = some _ := hd
   split at h'
   ·rename_i h; rw [h, countsS]
   ·cases h'
 have hget : ∀ i, i < 5 → ∃ n, cs.toList.getD i Go.undef = .int .i64 n ∧ (Lit.int .i64 n).wf = true := fun i hi => by
  obtain ⟨h1, h2⟩ := p1 i (by simpa using hi)
  have e : ([CT.int .i64, .int .i64, .int .i64, .int .i64, .int .i64].getD i .bool) = .int .i64 := by
   match i, hi with
   | 0, _ => rfl
   | 1, _ => rfl
   | 2, _ => rfl
   | 3, _ => rfl
   | 4, _ => rfl
  rw [e] at h1
  generalize vs.getD i .junk = v at *
  generalize cs.toList.getD i Go.undef = y at *
  cases h1 with
  | int k n hw => cases h2; exact ⟨_, rfl, hw⟩
 obtain ⟨arr⟩ := cs
 simp only at hlen hget hd
 match arr, hlen with
 | [y0, y1, y2, y3, y4], _ =>
  obtain ⟨n0, e0, w0⟩ := hget 0 (by omega)
  obtain ⟨n1', e1, w1⟩ := hget 1 (by omega)
  obtain ⟨n2, e2, w2⟩ := hget 2 (by omega)
  obtain ⟨n3, e3, w3⟩ := hget 3 (by omega)
  obtain ⟨n4, e4, w4⟩ := hget 4 (by omega)
  simp only [List.getD_cons_zero, List.getD_cons_succ] at e0 e1 e2 e3 e4
  subst e0 e1 e2 e3 e4
  have hcell := fun i => World.var?_cell hg hvar i
  clear hvar p1 hget
  have hnum : n0 = 0 ∧ n1' = 6 ∧ n2 = 6 ∧ n3 = 1 ∧ n4 = 3 := by
   have hr : List.range 5 = [0, 1, 2, 3, 4] := by decide
   cases fuel with
   | zero => simp [DataW.trod] at hd
   | succ f =>
    cases f with
    | zero => simp [DataW.trod, countsU, countsS, hr] at hd
    | succ f =>
     simp [DataW.trod, countsU, countsE, countsS, countsS1, hr, Rows.laid_gimbal_codec_counts, w0, w1, w2, w3, w4] at hd
     obtain ⟨⟨h0, h1, h2, h3, h4⟩, _⟩ := hd
     exact ⟨h0, h1, h2, h3, h4⟩
  obtain ⟨rfl, rfl, rfl, rfl, rfl⟩ := hnum
  have h0 := hcell 0
  obtain ⟨c, ty, fr, hb⟩ : ∃ c ty fr, W.heap[0]? = some (.cells c ty fr) := by
   unfold World.cell? at h0
   split at h0
   ·rename_i c ty fr hb; exact ⟨c, ty, fr, hb⟩
   ·simp at h0
  have hc : ∀ i, c[i]? = ([Value.int IntKind.i64 0, .int .i64 6, .int .i64 6, .int .i64 1, .int .i64 3] : List Value)[i]? := fun i => by
   have := hcell i
   simpa [World.cell?, hb] using this
  refine .pp _ _ c ty fr rfl hb (fun h => h) ?_ fun j hj => ?_
  ·have := (Array.getElem?_eq_some_iff.1 (hc 4)).1
   show 0 + 5 ≤ c.size
   omega
  ·have hj : j < 5 := hj
   have := hc j
   simp only [Nat.zero_add, Array.getD_eq_getD_getElem?, this]
   match j, hj with
   | 0, _ => exact .int _ _
   | 1, _ => exact .int _ _
   | 2, _ => exact .int _ _
   | 3, _ => exact .int _ _
   | 4, _ => exact .int _ _
end Go.Gim

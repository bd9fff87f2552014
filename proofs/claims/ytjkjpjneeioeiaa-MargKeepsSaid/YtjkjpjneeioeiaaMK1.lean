import Derived.Test.YtjkjpjneeioeiaaMW
import Derived.Test.YtjkjpjneeioeiaaGMR
/- What the laws on what is left out share; the rows that stay. -/
set_option maxRecDepth 100000
set_option maxHeartbeats 4000000
set_option linter.unusedSimpArgs false
set_option linter.unusedVariables false
namespace Go.Gim
open Go.Proofs
theorem touchB_succ {r : Row4} {i : Nat} (h : i < r.co.length) : touchB r (i + 1) = (touchB r i || decide (r.co.getD i 0 ≠ 0)) := by
  unfold touchB; rw [take_getD 0 h, List.any_append]; simp
theorem touchB_mono {r : Row4} {i k : Nat} (h : touchB r i = true) (hk : i ≤ k) : touchB r k = true := by
  unfold touchB at *
  rw [List.any_eq_true] at *
  obtain ⟨x, hx, h2⟩ := h
  refine ⟨x, ?_, h2⟩
  rw [show r.co.take i = (r.co.take k).take i by rw [List.take_take, Nat.min_eq_left hk]] at hx
  exact List.mem_of_mem_take hx
theorem rtouches_ret (r : Row4) (k : Nat) (hk : k ≤ r.co.length) (hl : r.co.length ≤ 1000000) : Ret pg n_gimbalref20_Touches [RV r, .int .i64 k] (.bool (touchB r k)) := by
  refine gimbalref20_Touches.of rfl (W_b ?_)
  unfold gimbalref20_Touches.k gimbalref20_Touches.res
  simp -dsimp -implicitDefEqProofs (disch := (first | assumption | omega | (simp only [zE] <;> omega) | (apply isPure_intro <;> simp))) only [go_sem]
  refine W_loop (T := Nat × Nat) (fun t => ⟨E [(1, .int .i64 k), (2, .pp (RV r)), (5, .int .i64 t.1)], fun _ => none, t.2, t.2⟩) (fun t => t.1 ≤ k ∧ touchB r t.1 = false) (fun t => k - t.1) (0, _) rfl ⟨by dsimp only; omega, by simp [touchB]⟩ ?_
  rintro ⟨i, nx⟩ ⟨i1, i2⟩
  dsimp only at i1 i2
  by_cases hi : i < k
  · have hs := touchB_succ (r := r) (i := i) (by omega)
    rw [i2, Bool.false_or] at hs
    by_cases h0 : r.co.getD i 0 = 0
    · rw [h0] at hs
      simp -dsimp -implicitDefEqProofs (disch := (first | assumption | omega | (simp only [zE] <;> omega) | (apply isPure_intro <;> simp))) only [go_sem, h0]
      exact ⟨(i + 1, _), rfl, ⟨by dsimp only; omega, by dsimp only; rw [hs]; simp⟩, by dsimp only; omega⟩
    · have ht : touchB r k = true := touchB_mono (i := i + 1) (by rw [hs]; exact decide_eq_true h0) (by omega)
      rw [ht]
      simp -dsimp -implicitDefEqProofs (disch := (first | assumption | omega | (simp only [zE] <;> omega) | (apply isPure_intro <;> simp))) only [go_sem, h0]
  · have hik : i = k := by omega
    subst hik
    rw [i2]
    simp -dsimp -implicitDefEqProofs (disch := (first | assumption | omega | (simp only [zE] <;> omega) | (apply isPure_intro <;> simp))) only [go_sem]
theorem mir_nil (n i j : Nat) : at2 (mirM [] n) i j = 0 := by
  by_cases h : i < n ∧ j < n
  · unfold mirM; rw [mat_at h.1 h.2]; simp [at2]
  · unfold mirM
    rcases Nat.lt_or_ge i n with hi | hi
    · have : n ≤ j := by omega
      simp [at2, mat, List.getD_eq_getElem?_getD, hi, List.getElem?_eq_none, this]
    · simp [at2, mat, List.getD_eq_getElem?_getD, List.getElem?_eq_none, hi]
theorem rep_get (n i : Nat) : (List.replicate n (0 : Int)).getD i 0 = 0 := by
  simp only [List.getD_eq_getElem?_getD, List.getElem?_replicate]
  split <;> rfl
def plainG (n : Nat) (rows : List Row4) : Gr := ⟨n, rows, mirM [] n, List.replicate n 0, 0, 1⟩
theorem read_plain {n : Nat} {most : Int} {rows : List Row4} (h : rd20B n most rows 1 = true) : rd20G n most rows [] 1 = plainG n rows := by
  unfold rd20G; rw [if_pos h]; rfl
theorem plain_ok {n : Nat} {most : Int} {rows : List Row4} {x : List Int} (h : rd20B n most rows 1 = true) (hx : x.length = n) (hs : stateB x = true) : MOk (plainG n rows) x 2 := by
  obtain ⟨h1, h2, _⟩ := rd20_ok.1 h
  obtain ⟨g1, g2, g3⟩ := gnewE_ok h1
  exact { n := hx.symm, n11 := by show n ≤ 11; omega, rows := g2, r := fun r hr => by rw [hx]; exact rightB_iff.1 (g3 r hr), x := stateB_iff.1 hs, P := mirM_sq _ _, Q := by simp [plainG],
          sP := fun i j => by show lim (at2 (mirM [] n) i j) ≤ 2; rw [mir_nil, lim_zero]; omega, sQ := fun i => by show lim ((List.replicate n 0).getD i 0) ≤ 2; rw [rep_get, lim_zero]; omega,
          sc := by show lim 0 ≤ 2; rw [lim_zero]; omega, sd := show lim 1 ≤ 2 from lim_i64 (by decide) }
theorem staysL_zero {rows : List Row4} : (staysL rows 0).length = rows.length := by
  unfold staysL
  rw [List.length_map, List.filter_eq_self.2 fun r _ => by simp [touchB]]
theorem staysL_step {rows : List Row4} {i k : Nat} (hi : i < rows.length) : staysL (rows.take (i + 1)) k = staysL (rows.take i) k ++ if touchB (rows.getD i default) k = true then [] else [cutR k (rows.getD i default)] := by
  rw [take_getD default hi]; unfold staysL
  rw [List.filter_append, List.map_append]
  generalize rows.getD i default = r
  cases hb : touchB r k <;> simp [hb]
theorem staysL_len {rows : List Row4} {i k : Nat} : (staysL (rows.take i) k).length ≤ rows.length := by
  unfold staysL
  rw [List.length_map]
  exact Nat.le_trans (List.length_filter_le _ _) (by rw [List.length_take]; omega)
theorem stays_co {rows : List Row4} {k B : Nat} (h : ∀ r ∈ rows, r.co.length ≤ B) : ∀ r ∈ staysL rows k, r.co.length ≤ B := fun r hr => by
  unfold staysL at hr
  obtain ⟨s, hs, rfl⟩ := List.mem_map.1 hr
  have := h s ((List.mem_filter.1 hs).1)
  show (s.co.drop k).length ≤ B
  rw [List.length_drop]; omega
theorem MargKeeps_true (n : Int) (rows : List Row4) (x : List Int) (k : Int) (hn : In64 n) (hl : rows.length ≤ 9223372036854775807) (hr : ∀ r ∈ rows, r.co.length ≤ 9223372036854775807) (hxl : x.length ≤ 9223372036854775807) (hxv : ∀ v ∈ x, In64 v) (hk : In64 k) :
    Ret pg n_gimballaw20_MargKeeps [.int .i64 n, .sl (rows.map RV), ints x, .int .i64 k] (.bool true) := by
  have c1 := read20_ret n 8 1 rows [] hl hr (by decide) (by decide) (by decide)
  have c2 := rstate_ret x hxl
  refine gimballaw20_MargKeeps.of rfl (W_b ?_)
  unfold gimballaw20_MargKeeps.k gimballaw20_MargKeeps.res
  simp -dsimp -implicitDefEqProofs (disch := (first | assumption | omega | (simp only [zE] <;> omega) | (apply isPure_intro <;> simp))) only [go_sem]
  first | refine callB_of (awake20_ret) (by simp) ?_ | refine callP_of (awake20_ret) (by simp) ?_
  simp -dsimp -implicitDefEqProofs (disch := (first | assumption | omega | (simp only [zE] <;> omega) | (apply isPure_intro <;> simp))) only [go_sem]
  refine callB_of (c1.nn (args := [.int .i64 n, .int .i64 8, .sl (rows.map RV), .nil, .int .i64 1]) rfl) (by simp) ?_
  simp -dsimp -implicitDefEqProofs (disch := (first | assumption | omega | (simp only [zE] <;> omega) | (apply isPure_intro <;> simp))) only [go_sem]
  first | refine callB_of (c2) (by simp) ?_ | refine callP_of (c2) (by simp) ?_
  cases hrd : rd20B n 8 rows 1
  · simp -dsimp -implicitDefEqProofs (disch := (first | assumption | omega | (simp only [zE] <;> omega) | (apply isPure_intro <;> simp))) only [go_sem]
  cases hst : stateB x
  · simp -dsimp -implicitDefEqProofs (disch := (first | assumption | omega | (simp only [zE] <;> omega) | (apply isPure_intro <;> simp))) only [go_sem]
  by_cases hxn : (x.length : Int) = n
  · by_cases hk0 : k < 0
    · simp -dsimp -implicitDefEqProofs (disch := (first | assumption | omega | (simp only [zE] <;> omega) | (apply isPure_intro <;> simp))) only [go_sem, hxn]
    · by_cases hkn : n ≤ k
      · simp -dsimp -implicitDefEqProofs (disch := (first | assumption | omega | (simp only [zE] <;> omega) | (apply isPure_intro <;> simp))) only [go_sem, hxn]
      · by_cases h30 : rows.length ≤ 30
        · obtain ⟨m, rfl⟩ : ∃ m : Nat, n = m := ⟨x.length, hxn.symm⟩
          obtain ⟨q, rfl⟩ : ∃ q : Nat, k = q := ⟨k.toNat, by omega⟩
          have hxm : x.length = m := by omega
          have hq : q < m := by omega
          have hm8 : m ≤ 8 := by have := (rd20_ok.1 hrd).2.1; omega
          have ok := plain_ok hrd hxm hst
          rw [read_plain hrd]
          have hp2 : 2 ^ q ≤ 128 := Nat.pow_le_pow_right (n := 2) (by decide) (show q ≤ 7 by omega)
          have co := mout_ret (plainG m rows) x q 2 (128 * 68) ok hq (Nat.mul_le_mul_right 68 hp2) (by omega) Int.one_pos
          have er : (plainG m rows).rows = rows := rfl
          simp -dsimp -implicitDefEqProofs (disch := (first | assumption | omega | (simp only [zE] <;> omega) | (apply isPure_intro <;> simp))) only [go_sem, hxn]
          first | refine callB_of (co) (by simp) ?_ | refine callP_of (co) (by simp) ?_
          cases hdf : defS q (gW (plainG m rows) x q)
          · have hq0 : 0 < q := by
              rcases Nat.eq_zero_or_pos q with h | h
              · subst h
                have : defS 0 (gW (plainG m rows) x 0) = true := (defS_iff _ _).2 ⟨fun i j hi _ => by omega, fun i hi => by omega⟩
                rw [this] at hdf; cases hdf
              · exact h
            rw [if_neg (by simp)]
            simp -dsimp -implicitDefEqProofs (disch := (first | assumption | omega | (simp only [zE] <;> omega) | (apply isPure_intro <;> simp))) only [go_sem]
          · rw [if_pos rfl]
            simp -dsimp -implicitDefEqProofs (disch := (first | assumption | omega | (simp only [zE] <;> omega) | (apply isPure_intro <;> simp))) only [go_sem]
            obtain ⟨o, eo⟩ : ∃ o, o = outG (plainG m rows) x q := ⟨_, rfl⟩
            have oR : o.rows = staysL rows q := by rw [eo]; rfl
            have oN : o.n = m - q := by rw [eo]; rfl
            have hsub : IntKind.i64.wrap ((m : Int) - q) = ((m - q : Nat) : Int) := by rw [IntWalk.i64_in _ (by omega)]; omega
            rw [← eo]
            clear eo co c1 c2
            refine W_loop (T := Nat × V × Hp × Nat) (fun t => ⟨E [(0, .int .i64 m), (1, .sl (rows.map RV)), (3, .int .i64 q), (9, .bool true), (14, .ptr 51 1 0 0), (16, t.2.1), (17, .int .i64 t.1)], t.2.2.1, t.2.2.2, t.2.2.2⟩)
              (fun t => t.1 ≤ rows.length ∧ 58 ≤ t.2.2.2 ∧ t.2.2.1 51 = some ⟨[GV o], 8⟩ ∧ Row 58 t.2.2.1 t.2.2.2 t.2.1 4 ((staysL (rows.take t.1) q).map RV)) (fun t => rows.length - t.1)
              (0, .nil, _, _) rfl ⟨by dsimp only; omega, by dsimp only; omega, rfl, Row.nil _ _ _ _⟩ ?_
            rintro ⟨i, w, H, nx⟩ ⟨i1, i2, i3, i4⟩
            dsimp only at i1 i2 i3 i4
            by_cases hi : i < rows.length
            · have hm := getD_mem' default hi
              have hr4 := ok.r _ hm
              have hrl := hr4.len
              have ct := rtouches_ret _ q (by omega) (by omega : (rows.getD i default).co.length ≤ 1000000)
              have hstp := staysL_step (k := q) hi
              obtain ⟨r, er⟩ : ∃ r, r = rows.getD i default := ⟨_, rfl⟩
              rw [← er] at hr4 hrl ct hm hstp
              simp -dsimp -implicitDefEqProofs (disch := (first | assumption | omega | (simp only [zE] <;> omega) | (apply isPure_intro <;> simp))) only [go_sem, ← er]
              first | refine callB_of (ct) (by simp) ?_ | refine callP_of (ct) (by simp) ?_
              cases htc : touchB r q
              · rw [htc, if_neg (by simp)] at hstp
                have ecut : V.agg [ints (List.drop q r.co), .int .i64 r.z, .int .i64 r.kn, .int .i64 r.w] = RV (cutR q r) := rfl
                simp -dsimp -implicitDefEqProofs (disch := (first | assumption | omega | (simp only [zE] <;> omega) | (apply isPure_intro <;> simp))) only [go_sem, ← er, slc_intsF (l := r.co) (k := q) (ki := .i64) (by omega), ecut]
                refine W_gh0 ?_
                have j3 := (show (H.upd (nx + 17) (some ⟨[RV (cutR q r)], 4⟩)) 51 = H 51 from Hp.upd_ne _ _ (by omega)).trans i3
                have j10 : (H.upd (nx + 17) (some ⟨[RV (cutR q r)], 4⟩)) (nx + 17) = some ⟨[RV (cutR q r)], 4⟩ := Hp.upd_same _ _ _
                have j4 : Row 58 (H.upd (nx + 17) (some ⟨[RV (cutR q r)], 4⟩)) (nx + 28) w 4 ((staysL (rows.take i) q).map RV) := i4.same (fun b hb => Hp.upd_ne _ _ (by omega)) (by omega)
                generalize H.upd (nx + 17) (some ⟨[RV (cutR q r)], 4⟩) = H2 at j3 j10 j4 ⊢
                simp -dsimp -implicitDefEqProofs (disch := (first | assumption | omega | (simp only [zE] <;> omega) | (apply isPure_intro <;> simp))) only [go_sem, j10]
                have hsl := staysL_len (rows := rows) (i := i) (k := q)
                have hst' : (staysL (rows.take (i + 1)) q).map RV = (staysL (rows.take i) q).map RV ++ [RV (cutR q r)] := by rw [hstp, List.map_append]; rfl
                refine effB_row (lo := 58) (nx := nx + 28) (H0 := H2) (xs := (staysL (rows.take i) q).map RV) j4 (by omega) rfl (by omega) (by omega) (by simp [rowOk, V.cells, V.cellOk, V.isJunk, RV, ints]) (by decide) (by rw [List.length_map]; omega) (by rw [List.length_map]; omega) fun v3 H7 t1 t2 t3 t4 => ?_
                rw [← hst'] at t1
                simp -dsimp -implicitDefEqProofs (disch := (first | assumption | omega | (simp only [zE] <;> omega) | (apply isPure_intro <;> simp))) only [go_sem]
                exact ⟨(i + 1, v3, H7, _), rfl, ⟨by dsimp only; omega, by dsimp only; omega, (t4 51 (by omega)).trans j3, t1.same (fun _ _ => rfl) (by dsimp only; omega)⟩, by dsimp only; omega⟩
              · rw [htc, if_pos rfl, List.append_nil] at hstp
                simp -dsimp -implicitDefEqProofs (disch := (first | assumption | omega | (simp only [zE] <;> omega) | (apply isPure_intro <;> simp))) only [go_sem]
                exact ⟨(i + 1, w, H, _), rfl, ⟨by dsimp only; omega, by dsimp only; omega, i3, by dsimp only; rw [hstp]; exact i4.same (fun _ _ => rfl) (by omega)⟩, by dsimp only; omega⟩
            · have hie : i = rows.length := by omega
              subst hie
              rw [List.take_length] at i4
              have cs := same20_ret o.rows (staysL rows q) (by rw [oR]; have := staysL_len (rows := rows) (i := rows.length) (k := q); rw [List.take_length] at this; omega) (by have := staysL_len (rows := rows) (i := rows.length) (k := q); rw [List.take_length] at this; omega) (by rw [oR]; exact stays_co hr) (stays_co hr)
              rw [oR, decide_eq_true rfl] at cs
              have hz : q = 0 → (staysL rows q).length = rows.length := fun h => by rw [h]; exact staysL_zero
              simp -dsimp -implicitDefEqProofs (disch := (first | assumption | omega | (simp only [zE] <;> omega) | (apply isPure_intro <;> simp))) only [go_sem, i3, oR]
              by_cases hq0 : q = 0
              · have hz' := hz hq0
                rcases i4 with ⟨rfl, hnil⟩ | ⟨b, rfl, b1, b2, b3⟩
                · have hnil' : staysL rows q = [] := List.map_eq_nil_iff.1 hnil
                  rw [hnil'] at cs ⊢
                  have hz0 : rows = [] := by rw [hnil'] at hz'; exact List.length_eq_zero_iff.1 hz'.symm
                  refine callB_of (cs.nn (args := [.sl [], .nil]) rfl) (by simp) ?_
                  simp -dsimp -implicitDefEqProofs (disch := (first | assumption | omega | (simp only [zE] <;> omega) | (apply isPure_intro <;> simp))) only [go_sem, hsub, oN, oR, i3, hq0]
                  subst hz0; rfl
                · refine callB_frE (fz1 b ((staysL rows q).map RV)) (fz1_ok b3 (pure_map fun x => by simp)) (by simp -dsimp -implicitDefEqProofs (disch := (first | assumption | omega | (simp only [zE] <;> omega) | (apply isPure_intro <;> simp))) only [go_sem]) cs (by simp) ?_
                  have hb51 : (51 = b) = False := by simp; omega
                  have f51 : Hp.sub (fz1 b ((staysL rows q).map RV)) H 51 = some ⟨[GV o], 8⟩ := sub_at (fz1_ne (by omega)) i3 (by simp [sub_GV])
                  generalize Hp.sub (fz1 b ((staysL rows q).map RV)) H = H9 at f51 ⊢
                  simp -dsimp -implicitDefEqProofs (disch := (first | assumption | omega | (simp only [zE] <;> omega) | (apply isPure_intro <;> simp))) only [go_sem, hsub, oN, oR, f51, hq0, hb51]
                  rw [staysL_zero, decide_eq_true rfl]
              · rcases i4 with ⟨rfl, hnil⟩ | ⟨b, rfl, b1, b2, b3⟩
                · have hnil' : staysL rows q = [] := List.map_eq_nil_iff.1 hnil
                  rw [hnil'] at cs ⊢
                  refine callB_of (cs.nn (args := [.sl [], .nil]) rfl) (by simp) ?_
                  simp -dsimp -implicitDefEqProofs (disch := (first | assumption | omega | (simp only [zE] <;> omega) | (apply isPure_intro <;> simp))) only [go_sem, hsub, oN, oR, i3]
                · refine callB_frE (fz1 b ((staysL rows q).map RV)) (fz1_ok b3 (pure_map fun x => by simp)) (by simp -dsimp -implicitDefEqProofs (disch := (first | assumption | omega | (simp only [zE] <;> omega) | (apply isPure_intro <;> simp))) only [go_sem]) cs (by simp) ?_
                  have hb51 : (51 = b) = False := by simp; omega
                  have f51 : Hp.sub (fz1 b ((staysL rows q).map RV)) H 51 = some ⟨[GV o], 8⟩ := sub_at (fz1_ne (by omega)) i3 (by simp [sub_GV])
                  generalize Hp.sub (fz1 b ((staysL rows q).map RV)) H = H9 at f51 ⊢
                  simp -dsimp -implicitDefEqProofs (disch := (first | assumption | omega | (simp only [zE] <;> omega) | (apply isPure_intro <;> simp))) only [go_sem, hsub, oN, oR, f51, hb51]
        · have h30' : (30 : Int) < rows.length := by omega
          simp -dsimp -implicitDefEqProofs (disch := (first | assumption | omega | (simp only [zE] <;> omega) | (apply isPure_intro <;> simp))) only [go_sem, hxn]
  · simp -dsimp -implicitDefEqProofs (disch := (first | assumption | omega | (simp only [zE] <;> omega) | (apply isPure_intro <;> simp))) only [go_sem]
end Go.Gim

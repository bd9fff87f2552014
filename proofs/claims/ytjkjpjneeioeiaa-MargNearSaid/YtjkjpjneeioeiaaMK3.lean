import Derived.Test.YtjkjpjneeioeiaaMW
import Derived.Test.YtjkjpjneeioeiaaGN
import Derived.Test.YtjkjpjneeioeiaaMG5
/- What the laws on what is left out share; the rows that stay. -/
set_option maxRecDepth 100000
set_option maxHeartbeats 4000000
set_option linter.unusedSimpArgs false
set_option linter.unusedVariables false
namespace Go.Gim
open Go.Proofs
theorem mir_nil (n i j : Nat) : at2 (mirM [] n) i j = 0 := by
  by_cases h : i < n ∧ j < n
  · unfold mirM; rw [mat_at h.1 h.2]; simp [at2]
  · unfold mirM
    rcases Nat.lt_or_ge i n with hi | hi
    · have : n ≤ j := by omega
      simp [at2, mat, List.getD_eq_getElem?_getD, hi, List.getElem?_eq_none, this]
    · simp [at2, mat, List.getD_eq_getElem?_getD, List.getElem?_eq_none, hi]
theorem rep_get (n i : Nat) : (List.replicate n (0 : Int)).getD i 0 = 0 := by
  simp only [List.getD_eq_getElem?_getD, List.getElem?_replicate]
  split <;> rfl
def plainG (n : Nat) (rows : List Row4) : Gr := ⟨n, rows, mirM [] n, List.replicate n 0, 0, 1⟩
theorem read_plain {n : Nat} {most : Int} {rows : List Row4} (h : rd20B n most rows 1 = true) : rd20G n most rows [] 1 = plainG n rows := by
  unfold rd20G; rw [if_pos h]; rfl
theorem plain_ok {n : Nat} {most : Int} {rows : List Row4} {x : List Int} (h : rd20B n most rows 1 = true) (hx : x.length = n) (hs : stateB x = true) : MOk (plainG n rows) x 2 := by
  obtain ⟨h1, h2, _⟩ := rd20_ok.1 h
  obtain ⟨g1, g2, g3⟩ := gnewE_ok h1
  exact { n := hx.symm, n11 := by show n ≤ 11; omega, rows := g2, r := fun r hr => by rw [hx]; exact rightB_iff.1 (g3 r hr), x := stateB_iff.1 hs, P := mirM_sq _ _, Q := by simp [plainG],
          sP := fun i j => by show lim (at2 (mirM [] n) i j) ≤ 2; rw [mir_nil, lim_zero]; omega, sQ := fun i => by show lim ((List.replicate n 0).getD i 0) ≤ 2; rw [rep_get, lim_zero]; omega,
          sc := by show lim 0 ≤ 2; rw [lim_zero]; omega, sd := show lim 1 ≤ 2 from lim_i64 (by decide) }
end Go.Gim
/- What is left tells no more than was known, and nearly all: in plain Lean. -/
set_option maxRecDepth 100000
set_option maxHeartbeats 4000000
set_option linter.unusedSimpArgs false
set_option linter.unusedVariables false
namespace Go.Gim
open Go.Proofs
structure MPos (g : Gr) : Prop where
  s : SymM g.n (at2 g.P)
  p : PSD g.n (at2 g.P)
  d : 0 < g.den
theorem MPos.whole {g : Gr} {x : List Int} {L : Nat} (h : MPos g) (ok : MOk g x L) (k : Nat) : PSD g.n (gW g x k) := PSD.whole h.p (Nat.le_refl _) fun r hr => by
  have h1 := share_bd (ok.r r hr)
  exact Int.mul_nonneg (by have := h.d; omega) (by omega)
theorem kept_near {g : Gr} {x : List Int} {k L : Nat} (h : MPos g) (ok : MOk g x L) (hk : k ≤ g.n) (hd : defS k (gW g x k) = true) (y : Nat → Int) {i j : Nat} (hne : kpP g x k i j ≠ 0) : qS (g.n - k) (gP k (gW g x k)) y * 1024 ≤ (qS (g.n - k) (kpP g x k) y + sqs y (g.n - k) * (2 * (g.n - k : Nat))) * (g.den * 1024) * det k (gW g x k) := by
  have h0 := defS_det hd
  have hden := h.d
  have hov : 0 < ovM g x k := Int.mul_pos (by omega) h0
  rw [Int.mul_assoc]
  cases hdd : kpD g x k
  · exact absurd (by unfold kpP; rw [hdd]; rfl) hne
  · have e : kpP g x k = kpR g x k := by funext i j; unfold kpP; rw [hdd]; rfl
    rw [e]
    have := (rnd_bd (g.n - k) (gP k (gW g x k)) hov y).2
    rw [Int.mul_comm (sqs y (g.n - k))]
    exact this
theorem plain_pos {n : Nat} {rows : List Row4} (hP : ∀ i j, at2 (mirM [] n) i j = 0) : MPos ⟨n, rows, mirM [] n, List.replicate n 0, 0, 1⟩ where
  s := fun i j _ _ => by show at2 (mirM [] n) i j = at2 (mirM [] n) j i; rw [hP, hP]
  p := (psd_zero n).congr fun i j _ _ => (hP i j).symm
  d := Int.one_pos
theorem quad_mat {m : Nat} {f : Mx} {y : List Int} : quadV (mat m f) y m = qS m f fun i => y.getD i 0 := by
  rw [quadV_qS]; exact qS_congr (fun i j hi hj => mat_at hi hj) fun _ _ => rfl
theorem quad_lim {m : Nat} {P : List (List Int)} {y : List Int} {A B : Nat} (hP : ∀ i j, lim (at2 P i j) ≤ A) (hy : ∀ i, lim (y.getD i 0) ≤ B) : lim (quadV P y m) ≤ A + 2 * B + 2 * m := by
  have := sumN_lim (f := fun k => y.getD k 0) (p := applyAt P y m) (L := A + 2 * B + m) (fun i => by
    have h1 := applyAt_lim (n := m) (i := i) hP hy
    have h2 := hy i
    omega) m
  unfold quadV; omega
theorem out_lim {g : Gr} {x : List Int} {k L D : Nat} (ok : MOk g x L) (hk : k < g.n) (hD : 2 ^ k * (L + 66) ≤ D) : (∀ i j, lim (gP k (gW g x k) i j) ≤ L + 65 + D + k + 1) ∧ (∀ i j, lim (kpP g x k i j) ≤ L + 65 + D + k + 5) ∧ (∀ i, lim (kpQ g x k i) ≤ L + 65 + D + k + 5) ∧ lim (kpC g x k) ≤ L + 65 + D + k + 5 ∧ lim (det k (gW g x k)) ≤ D := by
  obtain ⟨m1, m2, m3⟩ := ok.lims k (t := g.rows.length) (Nat.le_refl _)
  have h11 := ok.n11
  obtain ⟨s1, s2, s3⟩ := g_lim (k := k) (D := D) hD m1 m2 m3
  refine ⟨s1, fun i j => ?_, fun i => ?_, ?_, Nat.le_trans (det_pw (n := k) m1) hD⟩
  · unfold kpP
    split
    · exact Nat.le_trans (rndP_lim (by omega) (s1 i j)) (by omega)
    · rw [lim_zero]; omega
  · unfold kpQ
    split
    · exact Nat.le_trans (downF_lim (s2 i)) (by omega)
    · rw [lim_zero]; omega
  · unfold kpC
    split
    · exact Nat.le_trans (downF_lim s3) (by omega)
    · rw [lim_zero]; omega
end Go.Gim
/- What is left never tells more than was known. -/
set_option maxRecDepth 100000
set_option maxHeartbeats 4000000
set_option linter.unusedSimpArgs false
set_option linter.unusedVariables false
namespace Go.Gim
open Go.Proofs
theorem sign_le {a : Int} (h : a ≤ 0) : a.sign ≤ 0 := by
  rcases Int.lt_or_eq_of_le h with h | h
  · rw [Int.sign_eq_neg_one_of_neg h]; decide
  · rw [h]; decide
theorem y_lim {y : List Int} (h : ∀ v ∈ y, In64 v) (i : Nat) : lim (y.getD i 0) ≤ 2 := lim_i64 (getD_in h i)
theorem mleft_ret (g : Gr) (x : List Int) (k L D : Nat) (h : MOk g x L) (hk : k < g.n) (hD : 2 ^ k * (L + 66) ≤ D) (hD2 : L + 65 + D + k + 1 ≤ 890000) (hdf : defS k (gW g x k) = true) :
    Ret pg n_quad_Quad_Without [QV (mat g.n (gW g x k)) (rowF g.n (gwQ g x k g.rows.length)) (gwC g x k g.rows.length), .int .i64 k] (.tup [QV (mat (g.n - k) (gP k (gW g x k))) (rowF (g.n - k) (gQ k (gW g x k) (gwQ g x k g.rows.length))) (gC k (gW g x k) (gwQ g x k g.rows.length) (gwC g x k g.rows.length)), IV (det k (gW g x k)), .int .i64 0]) := by
  have h11 := h.n11
  obtain ⟨m1, m2, m3⟩ := h.lims k (t := g.rows.length) (Nat.le_refl _)
  have hB : 2 ^ k * (L + 65 + 1) ≤ D := hD
  have co := qwithout_ret (mat g.n (gW g x k)) (rowF g.n (gwQ g x k g.rows.length)) (gwC g x k g.rows.length) g.n k (L + 65) (by omega) (by omega) (by omega) (by omega) (mat_sq _ _) (rowF_len _ _) (fun a b => lim_at_mat m1 a b) (fun a => rng_lim m2 a) m3
  unfold qoutV at co
  have ed : defS k (at2 (mat g.n (gW g x k))) = defS k (gW g x k) := defS_congr fun i j hi hj => mat_at (by omega) (by omega)
  rw [ed, hdf, if_pos rfl] at co
  have e1 : mat (g.n - k) (gP k (at2 (mat g.n (gW g x k)))) = mat (g.n - k) (gP k (gW g x k)) := mat_congr fun i j hi hj => gP_congr (by omega) (by omega) (by omega) fun i j hi hj => mat_at hi hj
  have e2 : rowF (g.n - k) (gQ k (at2 (mat g.n (gW g x k))) fun i => (rowF g.n (gwQ g x k g.rows.length)).getD i 0) = rowF (g.n - k) (gQ k (gW g x k) (gwQ g x k g.rows.length)) := rowF_congr fun i hi => gQ_congr (n := g.n) (by omega) (by omega) (fun i j hi hj => mat_at hi hj) fun i hi => rowF_get hi
  have e3 : gC k (at2 (mat g.n (gW g x k))) (fun i => (rowF g.n (gwQ g x k g.rows.length)).getD i 0) (gwC g x k g.rows.length) = gC k (gW g x k) (gwQ g x k g.rows.length) (gwC g x k g.rows.length) := gC_congr (n := g.n) (by omega) (fun i j hi hj => mat_at hi hj) fun i hi => rowF_get hi
  have e4 : det k (at2 (mat g.n (gW g x k))) = det k (gW g x k) := det_congr fun i j hi hj => mat_at (by omega) (by omega)
  rw [e1, e2, e3, e4] at co
  exact co
end Go.Gim
/- What is left tells nearly all. -/
set_option maxRecDepth 100000
set_option maxHeartbeats 4000000
set_option linter.unusedSimpArgs false
set_option linter.unusedVariables false
namespace Go.Gim
open Go.Proofs
theorem MargNear_true (n : Int) (rows : List Row4) (x : List Int) (k : Int) (y : List Int) (hn : In64 n) (hl : rows.length ≤ 9223372036854775807) (hr : ∀ r ∈ rows, r.co.length ≤ 9223372036854775807) (hxl : x.length ≤ 9223372036854775807) (hxv : ∀ v ∈ x, In64 v) (hk : In64 k) (hyl : y.length ≤ 9223372036854775807) (hyv : ∀ v ∈ y, In64 v) :
    Ret pg n_gimballaw20_MargNear [.int .i64 n, .sl (rows.map RV), ints x, .int .i64 k, ints y] (.bool true) := by
  have c1 := read20_ret n 8 1 rows [] hl hr (by decide) (by decide) (by decide)
  refine gimballaw20_MargNear.of rfl (W_b ?_)
  unfold gimballaw20_MargNear.k gimballaw20_MargNear.res
  simp -dsimp -implicitDefEqProofs (disch := (first | assumption | omega | (simp only [zE] <;> omega) | (apply isPure_intro <;> simp))) only [go_sem]
  first | refine callB_of (awake20_ret) (by simp) ?_ | refine callP_of (awake20_ret) (by simp) ?_
  simp -dsimp -implicitDefEqProofs (disch := (first | assumption | omega | (simp only [zE] <;> omega) | (apply isPure_intro <;> simp))) only [go_sem]
  refine callB_of (c1.nn (args := [.int .i64 n, .int .i64 8, .sl (rows.map RV), .nil, .int .i64 1]) rfl) (by simp) ?_
  cases hrd : rd20B n 8 rows 1
  · simp -dsimp -implicitDefEqProofs (disch := (first | assumption | omega | (simp only [zE] <;> omega) | (apply isPure_intro <;> simp))) only [go_sem]
  by_cases h30 : rows.length ≤ 30
  · obtain ⟨h1, h2, _⟩ := rd20_ok.1 hrd
    obtain ⟨g1, _, _⟩ := gnewE_ok h1
    obtain ⟨m, rfl⟩ : ∃ m : Nat, n = m := ⟨n.toNat, by omega⟩
    rw [read_plain hrd]
    have gn : (plainG m rows).n = m := rfl
    have pos : MPos (plainG m rows) := plain_pos (mir_nil m)
    simp -dsimp -implicitDefEqProofs (disch := (first | assumption | omega | (simp only [zE] <;> omega) | (apply isPure_intro <;> simp))) only [go_sem]
    by_cases hx : x.length = m ∧ stateB x = true
    · obtain ⟨hxm, hst⟩ := hx
      have ok := plain_ok hrd hxm hst
      by_cases hkk : k < 0 ∨ m ≤ k
      · have co := mout_bad2 (plainG m rows) x k hxl hxm hst hkk
        first | refine callB_of (co) (by simp) ?_ | refine callP_of (co) (by simp) ?_
        simp -dsimp -implicitDefEqProofs (disch := (first | assumption | omega | (simp only [zE] <;> omega) | (apply isPure_intro <;> simp))) only [go_sem]
      · obtain ⟨q, rfl⟩ : ∃ q : Nat, k = q := ⟨k.toNat, by omega⟩
        have hq : q < m := by omega
        have hp2 : 2 ^ q ≤ 128 := Nat.pow_le_pow_right (n := 2) (by decide) (show q ≤ 7 by omega)
        have hD : 2 ^ q * (2 + 66) ≤ 128 * 68 := Nat.mul_le_mul_right 68 hp2
        have co := mout_ret (plainG m rows) x q 2 (128 * 68) ok hq hD (by omega) Int.one_pos
        first | refine callB_of (co) (by simp) ?_ | refine callP_of (co) (by simp) ?_
        cases hdf : defS q (gW (plainG m rows) x q)
        · rw [if_neg (by simp)]
          simp -dsimp -implicitDefEqProofs (disch := (first | assumption | omega | (simp only [zE] <;> omega) | (apply isPure_intro <;> simp))) only [go_sem]
        rw [if_pos rfl]
        have hsub : IntKind.i64.wrap ((m : Int) - q) = ((m - q : Nat) : Int) := by rw [IntWalk.i64_in _ (by omega)]; omega
        by_cases hym : y.length = m - q
        · have hym' : (y.length : Int) = ((m - q : Nat) : Int) := by omega
          have cw := mwhole_ret (plainG m rows) x q 2 (by decide) ok (by omega)
          have cl := mleft_ret (plainG m rows) x q 2 (128 * 68) ok hq hD (by omega) hdf
          have cli := list20_ret y (by omega) hyv
          have kl := fun i j => kept_near (i := i) (j := j) pos ok (Nat.le_of_lt hq) hdf fun i => y.getD i 0
          obtain ⟨l1, l2, _, _, l5⟩ := out_lim ok hq hD
          rw [gn] at cw cl kl
          have eo : GV (outG (plainG m rows) x q) = .agg [.int .i64 ((m - q : Nat) : Int), .sl ((staysL rows q).map RV), .sl ((mat (m - q) (kpP (plainG m rows) x q)).map ivl), ivl (rowF (m - q) (kpQ (plainG m rows) x q)), .bool (decide (kpC (plainG m rows) x q < 0)), .sl (nats .u32 (digs W32 (kpC (plainG m rows) x q).natAbs)), .bool (decide ((1024 : Int) < 0)), .sl (nats .u32 (digs W32 (Int.natAbs 1024)))] := rfl
          have oP : (outG (plainG m rows) x q).P = mat (m - q) (kpP (plainG m rows) x q) := rfl
          have oN : (outG (plainG m rows) x q).n = m - q := rfl
          have hsq := y_lim hyv
          have lq1 := quad_lim (m := m - q) (y := y) (P := mat (m - q) (gP q (gW (plainG m rows) x q))) (lim_at_mat (n := m - q) l1) hsq
          have lq2 := quad_lim (m := m - q) (y := y) (P := mat (m - q) (kpP (plainG m rows) x q)) (lim_at_mat (n := m - q) l2) hsq
          have cq1 := lquad_ret (mat (m - q) (gP q (gW (plainG m rows) x q))) y (m - q) (by omega) (mat_sq _ _) hym (fun i j => by have := lim_at_mat (n := m - q) l1 i j; omega) (fun i => by have := hsq i; omega)
          have cq2 := lquad_ret (mat (m - q) (kpP (plainG m rows) x q)) y (m - q) (by omega) (mat_sq _ _) hym (fun i j => by have := lim_at_mat (n := m - q) l2 i j; omega) (fun i => by have := hsq i; omega)
          rw [quad_mat] at cq1 cq2 lq1 lq2
          have gd : (plainG m rows).den * 1024 = 1024 := rfl
          rw [gd] at cw kl
          have lkp : ∀ i j, lim (at2 (mat (m - q) (kpP (plainG m rows) x q)) i j) ≤ 1000000 := fun i j => by have := lim_at_mat (n := m - q) l2 i j; omega
          have hKP : Sq (mat (m - q) (kpP (plainG m rows) x q)) (m - q) := mat_sq _ _
          have hat : ∀ i j, i < m - q → j < m - q → at2 (mat (m - q) (kpP (plainG m rows) x q)) i j = kpP (plainG m rows) x q i j := fun i j hi hj => mat_at hi hj
          generalize outG (plainG m rows) x q = o at *
          generalize mat (m - q) (kpP (plainG m rows) x q) = KP at *
          generalize kpP (plainG m rows) x q = kpm at *
          generalize qS (m - q) kpm (fun i => y.getD i 0) = kept at *
          generalize qS (m - q) (gP q (gW (plainG m rows) x q)) (fun i => y.getD i 0) = exa at *
          generalize det q (gW (plainG m rows) x q) = dt at *
          have l1024 := lim_i64 (x := 1024) (by decide)
          have hKl := hKP.1
          simp -dsimp -implicitDefEqProofs (disch := (first | assumption | omega | (simp only [zE] <;> omega) | (apply isPure_intro <;> simp))) only [go_sem, hsub, hym', oN, ← IV_zero]
          have cw' := cw
          have hss : ∀ i, sqs (fun i => y.getD i 0) (i + 1) = sqs (fun i => y.getD i 0) i + y.getD i 0 * y.getD i 0 := fun i => rfl
          have lss : ∀ i, lim (sqs (fun i => y.getD i 0) i) ≤ 4 + i := fun i => sumZ_lim fun a _ => by have := lim_mul (y.getD a 0) (y.getD a 0); have := hsq a; show lim (y.getD a 0 * y.getD a 0) ≤ 4; omega
          obtain ⟨sq, esq⟩ : ∃ sq, sq = fun i => sqs (fun i => y.getD i 0) i := ⟨_, rfl⟩
          have esq' : ∀ i, sqs (fun i => y.getD i 0) i = sq i := fun i => by rw [esq]
          simp only [esq'] at hss lss kl
          have sq0 : sq 0 = 0 := by rw [esq]; rfl
          clear esq esq' cw'
          refine W_loop (T := Nat × Bool × Hp × Nat) (fun t => ⟨E [(2, ints x), (3, .int .i64 q), (4, ints y), (11, .bool true), (12, .ptr 10 1 0 0), (15, .ptr 29 1 0 0), (17, .bool t.2.1), (18, .ptr 52 1 0 0), (19, .int .i64 t.1)], t.2.2.1, t.2.2.2, t.2.2.2⟩)
            (fun t => t.1 ≤ m - q ∧ 55 ≤ t.2.2.2 ∧ t.2.2.1 10 = some ⟨[GV (plainG m rows)], 8⟩ ∧ t.2.2.1 29 = some ⟨[GV o], 8⟩ ∧ t.2.2.1 52 = some ⟨[IV (sq t.1)], 2⟩ ∧ (t.2.1 = false → ∃ i j, kpm i j ≠ 0)) (fun t => m - q - t.1) (0, true, _, _) rfl ⟨by dsimp only; omega, by dsimp only; omega, rfl, rfl, by dsimp only; rw [sq0]; rfl, fun h => by cases h⟩ ?_
          rintro ⟨i, b, H, nx⟩ ⟨i1, i2, i3, i4, i5, i6⟩
          dsimp only at i1 i2 i3 i4 i5 i6
          by_cases hi : i < m - q
          · have hri := hKP.row hi
            have hyi := getD_in hyv i
            have s1 := lss i
            have s2 := hsq i
            have s3 := lim_mul (y.getD i 0) (y.getD i 0)
            simp -dsimp -implicitDefEqProofs (disch := (first | assumption | omega | (simp only [zE] <;> omega) | (apply isPure_intro <;> simp))) only [go_sem, i4, i5, oN]
            first | refine callB_of (of_ret (y.getD i 0) hyi) (by simp) ?_ | refine callP_of (of_ret (y.getD i 0) hyi) (by simp) ?_
            simp -dsimp -implicitDefEqProofs (disch := (first | assumption | omega | (simp only [zE] <;> omega) | (apply isPure_intro <;> simp))) only [go_sem]
            first | refine callB_of (of_ret (y.getD i 0) hyi) (by simp) ?_ | refine callP_of (of_ret (y.getD i 0) hyi) (by simp) ?_
            simp -dsimp -implicitDefEqProofs (disch := (first | assumption | omega | (simp only [zE] <;> omega) | (apply isPure_intro <;> simp))) only [go_sem]
            first | refine callB_of (mul_ret (y.getD i 0) (y.getD i 0) (by omega) (by omega)) (by simp) ?_ | refine callP_of (mul_ret (y.getD i 0) (y.getD i 0) (by omega) (by omega)) (by simp) ?_
            simp -dsimp -implicitDefEqProofs (disch := (first | assumption | omega | (simp only [zE] <;> omega) | (apply isPure_intro <;> simp))) only [go_sem]
            first | refine callB_of (add_ret (sq i) (y.getD i 0 * y.getD i 0) (by omega) (by omega)) (by simp) ?_ | refine callP_of (add_ret (sq i) (y.getD i 0 * y.getD i 0) (by omega) (by omega)) (by simp) ?_
            simp -dsimp -implicitDefEqProofs (disch := (first | assumption | omega | (simp only [zE] <;> omega) | (apply isPure_intro <;> simp))) only [go_sem, i5]
            rw [← hss]
            have j3 := (Hp.upd_ne H (some ⟨[IV (sq (i + 1))], 2⟩) (show 10 ≠ 52 by decide)).trans i3
            have j4 := (Hp.upd_ne H (some ⟨[IV (sq (i + 1))], 2⟩) (show 29 ≠ 52 by decide)).trans i4
            have j5 := Hp.upd_same H 52 (some ⟨[IV (sq (i + 1))], 2⟩)
            generalize Hp.upd H 52 (some ⟨[IV (sq (i + 1))], 2⟩) = H1 at j3 j4 j5 ⊢
            clear i3 i4 i5
            refine W_loop (T := Nat × Bool × Hp × Nat) (fun t => ⟨E [(2, ints x), (3, .int .i64 q), (4, ints y), (11, .bool true), (12, .ptr 10 1 0 0), (15, .ptr 29 1 0 0), (17, .bool t.2.1), (18, .ptr 52 1 0 0), (19, .int .i64 i), (20, .int .i64 t.1)], t.2.2.1, t.2.2.2, t.2.2.2⟩)
              (fun t => t.1 ≤ m - q ∧ 55 ≤ t.2.2.2 ∧ t.2.2.1 10 = some ⟨[GV (plainG m rows)], 8⟩ ∧ t.2.2.1 29 = some ⟨[GV o], 8⟩ ∧ t.2.2.1 52 = some ⟨[IV (sq (i + 1))], 2⟩ ∧ (t.2.1 = false → ∃ i j, kpm i j ≠ 0)) (fun t => m - q - t.1) (0, b, _, _) rfl ⟨by dsimp only; omega, by dsimp only; omega, j3, j4, j5, i6⟩ ?_
            clear i6 j3 j4 j5
            rintro ⟨j, b, H, nx⟩ ⟨j1, j2, j3, j4, j5, j6⟩
            dsimp only at j1 j2 j3 j4 j5 j6
            by_cases hj : j < m - q
            · have hg : (KP.getD i []).getD j 0 = kpm i j := hat i j hi hj
              have s4 := lkp i j
              rw [hat i j hi hj] at s4
              have hsg : decide ((kpm i j).sign = 0) = decide (kpm i j = 0) := by
                by_cases h : kpm i j = 0
                · rw [h]; rfl
                · rw [decide_eq_false h, decide_eq_false fun h2 => h (Int.sign_eq_zero_iff_zero.1 h2)]
              simp -dsimp -implicitDefEqProofs (disch := (first | assumption | omega | (simp only [zE] <;> omega) | (apply isPure_intro <;> simp))) only [go_sem, j4, oN, oP, hri, hKl, hg]
              first | refine callB_of (sign_ret (kpm i j) (by omega)) (by simp) ?_ | refine callP_of (sign_ret (kpm i j) (by omega)) (by simp) ?_
              simp -dsimp -implicitDefEqProofs (disch := (first | assumption | omega | (simp only [zE] <;> omega) | (apply isPure_intro <;> simp))) only [go_sem, j4]
              cases b
              · simp -dsimp -implicitDefEqProofs (disch := (first | assumption | omega | (simp only [zE] <;> omega) | (apply isPure_intro <;> simp))) only [go_sem]
                exact ⟨(j + 1, false, H, _), rfl, ⟨by dsimp only; omega, by dsimp only; omega, j3, j4, j5, fun _ => j6 rfl⟩, by dsimp only; omega⟩
              · simp -dsimp -implicitDefEqProofs (disch := (first | assumption | omega | (simp only [zE] <;> omega) | (apply isPure_intro <;> simp))) only [go_sem, hsg]
                exact ⟨(j + 1, decide (kpm i j = 0), H, _), rfl, ⟨by dsimp only; omega, by dsimp only; omega, j3, j4, j5, fun h => ⟨i, j, of_decide_eq_false h⟩⟩, by dsimp only; omega⟩
            · simp -dsimp -implicitDefEqProofs (disch := (first | assumption | omega | (simp only [zE] <;> omega) | (apply isPure_intro <;> simp))) only [go_sem, j4, oN]
              exact ⟨(i + 1, b, H, _), rfl, ⟨by dsimp only; omega, by dsimp only; omega, j3, j4, j5, j6⟩, by dsimp only; omega⟩
          · have hie : i = m - q := by omega
            cases b
            · obtain ⟨a, c, hne⟩ := i6 rfl
              have fin := kl a c hne
              rw [hie] at i5
              have s1 := lss (m - q)
              have s2 := lim_i64 (x := 2 * ((m - q : Nat) : Int)) (by omega)
              have s3 := lim_mul (sq (m - q)) (2 * ((m - q : Nat) : Int))
              have s4 := lim_add kept (sq (m - q) * (2 * ((m - q : Nat) : Int)))
              have s5 := lim_mul (kept + sq (m - q) * (2 * ((m - q : Nat) : Int))) 1024
              have s6 := lim_mul ((kept + sq (m - q) * (2 * ((m - q : Nat) : Int))) * 1024) dt
              have s7 := lim_mul exa 1024
              have hw : IntKind.i64.wrap (2 * ((m - q : Nat) : Int)) = 2 * ((m - q : Nat) : Int) := IntWalk.i64_in _ (by omega)
              have fin1 := sign_le (show exa * 1024 - (kept + sq (m - q) * (2 * ((m - q : Nat) : Int))) * 1024 * dt ≤ 0 by omega)
              simp -dsimp -implicitDefEqProofs (disch := (first | assumption | omega | (simp only [zE] <;> omega) | (apply isPure_intro <;> simp))) only [go_sem, i3, i4, i5, oN]
              first | refine callB_of (cw) (by simp) ?_ | refine callP_of (cw) (by simp) ?_
              simp -dsimp -implicitDefEqProofs (disch := (first | assumption | omega | (simp only [zE] <;> omega) | (apply isPure_intro <;> simp))) only [go_sem]
              first | refine callB_of (cl) (by simp) ?_ | refine callP_of (cl) (by simp) ?_
              simp -dsimp -implicitDefEqProofs (disch := (first | assumption | omega | (simp only [zE] <;> omega) | (apply isPure_intro <;> simp))) only [go_sem, i4, i5, oN]
              first | refine callB_of (cli) (by simp) ?_ | refine callP_of (cli) (by simp) ?_
              simp -dsimp -implicitDefEqProofs (disch := (first | assumption | omega | (simp only [zE] <;> omega) | (apply isPure_intro <;> simp))) only [go_sem, i4, i5, oN]
              first | refine callB_of (cq1) (by simp) ?_ | refine callP_of (cq1) (by simp) ?_
              simp -dsimp -implicitDefEqProofs (disch := (first | assumption | omega | (simp only [zE] <;> omega) | (apply isPure_intro <;> simp))) only [go_sem, i4, i5, oN]
              first | refine callB_of (of_ret 1024 (by decide)) (by simp) ?_ | refine callP_of (of_ret 1024 (by decide)) (by simp) ?_
              simp -dsimp -implicitDefEqProofs (disch := (first | assumption | omega | (simp only [zE] <;> omega) | (apply isPure_intro <;> simp))) only [go_sem, i4, i5, oN]
              first | refine callB_of (mul_ret exa 1024 (by omega) (by omega)) (by simp) ?_ | refine callP_of (mul_ret exa 1024 (by omega) (by omega)) (by simp) ?_
              simp -dsimp -implicitDefEqProofs (disch := (first | assumption | omega | (simp only [zE] <;> omega) | (apply isPure_intro <;> simp))) only [go_sem, i4, i5, oN, oP]
              first | refine callB_of (cq2) (by simp) ?_ | refine callP_of (cq2) (by simp) ?_
              simp -dsimp -implicitDefEqProofs (disch := (first | assumption | omega | (simp only [zE] <;> omega) | (apply isPure_intro <;> simp))) only [go_sem, i4, i5, oN, oP, hw]
              first | refine callB_of (of_ret (2 * ((m - q : Nat) : Int)) (by omega)) (by simp) ?_ | refine callP_of (of_ret (2 * ((m - q : Nat) : Int)) (by omega)) (by simp) ?_
              simp -dsimp -implicitDefEqProofs (disch := (first | assumption | omega | (simp only [zE] <;> omega) | (apply isPure_intro <;> simp))) only [go_sem, i4, i5, oN, oP]
              first | refine callB_of (mul_ret (sq (m - q)) (2 * ((m - q : Nat) : Int)) (by omega) (by omega)) (by simp) ?_ | refine callP_of (mul_ret (sq (m - q)) (2 * ((m - q : Nat) : Int)) (by omega) (by omega)) (by simp) ?_
              simp -dsimp -implicitDefEqProofs (disch := (first | assumption | omega | (simp only [zE] <;> omega) | (apply isPure_intro <;> simp))) only [go_sem, i4, i5, oN, oP]
              first | refine callB_of (add_ret kept _ (by omega) (by omega)) (by simp) ?_ | refine callP_of (add_ret kept _ (by omega) (by omega)) (by simp) ?_
              simp -dsimp -implicitDefEqProofs (disch := (first | assumption | omega | (simp only [zE] <;> omega) | (apply isPure_intro <;> simp))) only [go_sem, i4, i5, oN, oP]
              first | refine callB_of (mul_ret _ 1024 (by omega) (by omega)) (by simp) ?_ | refine callP_of (mul_ret _ 1024 (by omega) (by omega)) (by simp) ?_
              simp -dsimp -implicitDefEqProofs (disch := (first | assumption | omega | (simp only [zE] <;> omega) | (apply isPure_intro <;> simp))) only [go_sem]
              first | refine callB_of (mul_ret _ dt (by omega) (by omega)) (by simp) ?_ | refine callP_of (mul_ret _ dt (by omega) (by omega)) (by simp) ?_
              simp -dsimp -implicitDefEqProofs (disch := (first | assumption | omega | (simp only [zE] <;> omega) | (apply isPure_intro <;> simp))) only [go_sem]
              first | refine callB_of (icmp_ret (exa * 1024) _ (by omega) (by omega)) (by simp) ?_ | refine callP_of (icmp_ret (exa * 1024) _ (by omega) (by omega)) (by simp) ?_
              simp -dsimp -implicitDefEqProofs (disch := (first | assumption | omega | (simp only [zE] <;> omega) | (apply isPure_intro <;> simp))) only [go_sem]
            · simp -dsimp -implicitDefEqProofs (disch := (first | assumption | omega | (simp only [zE] <;> omega) | (apply isPure_intro <;> simp))) only [go_sem, i4, oN]
        · have hym' : ¬ (y.length : Int) = ((m - q : Nat) : Int) := by omega
          simp -dsimp -implicitDefEqProofs (disch := (first | assumption | omega | (simp only [zE] <;> omega) | (apply isPure_intro <;> simp))) only [go_sem, hsub, hym']
    · have co := mout_bad1 (plainG m rows) x k hxl (by
        rcases Decidable.em (x.length = m) with h | h
        · exact .inr (by cases h2 : stateB x; rfl; exact absurd ⟨h, h2⟩ hx)
        · exact .inl h)
      first | refine callB_of (co) (by simp) ?_ | refine callP_of (co) (by simp) ?_
      simp -dsimp -implicitDefEqProofs (disch := (first | assumption | omega | (simp only [zE] <;> omega) | (apply isPure_intro <;> simp))) only [go_sem]
  · have h30' : (30 : Int) < rows.length := by omega
    simp -dsimp -implicitDefEqProofs (disch := (first | assumption | omega | (simp only [zE] <;> omega) | (apply isPure_intro <;> simp))) only [go_sem]
end Go.Gim

import Derived.Test.YtjkjpjneeioeiaaMW
import Derived.Test.YtjkjpjneeioeiaaGN
import Derived.Test.YtjkjpjneeioeiaaMG5
/- What the laws on what is left out share; the rows that stay. -/
set_option maxRecDepth 100000
set_option maxHeartbeats 4000000
set_option linter.unusedSimpArgs false
set_option linter.unusedVariables false
namespace Go.Gim
open Go.Proofs
theorem mir_nil (n i j : Nat) : at2 (mirM [] n) i j = 0 := by
  by_cases h : i < n ∧ j < n
  · unfold mirM; rw [mat_at h.1 h.2]; simp [at2]
  · unfold mirM
    rcases Nat.lt_or_ge i n with hi | hi
    · have : n ≤ j := by omega
      simp [at2, mat, List.getD_eq_getElem?_getD, hi, List.getElem?_eq_none, this]
    · simp [at2, mat, List.getD_eq_getElem?_getD, List.getElem?_eq_none, hi]
theorem rep_get (n i : Nat) : (List.replicate n (0 : Int)).getD i 0 = 0 := by
  simp only [List.getD_eq_getElem?_getD, List.getElem?_replicate]
  split <;> rfl
def plainG (n : Nat) (rows : List Row4) : Gr := ⟨n, rows, mirM [] n, List.replicate n 0, 0, 1⟩
theorem read_plain {n : Nat} {most : Int} {rows : List Row4} (h : rd20B n most rows 1 = true) : rd20G n most rows [] 1 = plainG n rows := by
  unfold rd20G; rw [if_pos h]; rfl
theorem plain_ok {n : Nat} {most : Int} {rows : List Row4} {x : List Int} (h : rd20B n most rows 1 = true) (hx : x.length = n) (hs : stateB x = true) : MOk (plainG n rows) x 2 := by
  obtain ⟨h1, h2, _⟩ := rd20_ok.1 h
  obtain ⟨g1, g2, g3⟩ := gnewE_ok h1
  exact { n := hx.symm, n11 := by show n ≤ 11; omega, rows := g2, r := fun r hr => by rw [hx]; exact rightB_iff.1 (g3 r hr), x := stateB_iff.1 hs, P := mirM_sq _ _, Q := by simp [plainG],
          sP := fun i j => by show lim (at2 (mirM [] n) i j) ≤ 2; rw [mir_nil, lim_zero]; omega, sQ := fun i => by show lim ((List.replicate n 0).getD i 0) ≤ 2; rw [rep_get, lim_zero]; omega,
          sc := by show lim 0 ≤ 2; rw [lim_zero]; omega, sd := show lim 1 ≤ 2 from lim_i64 (by decide) }
end Go.Gim
/- What is left tells no more than was known, and nearly all: in plain Lean. -/
set_option maxRecDepth 100000
set_option maxHeartbeats 4000000
set_option linter.unusedSimpArgs false
set_option linter.unusedVariables false
namespace Go.Gim
open Go.Proofs
structure MPos (g : Gr) : Prop where
  s : SymM g.n (at2 g.P)
  p : PSD g.n (at2 g.P)
  d : 0 < g.den
theorem MPos.whole_sym {g : Gr} (h : MPos g) (x : List Int) (k t : Nat) : SymM g.n (gwP g x k t) := Gim.whole_sym h.s _ _ _ _
theorem MPos.whole {g : Gr} {x : List Int} {L : Nat} (h : MPos g) (ok : MOk g x L) (k : Nat) : PSD g.n (gW g x k) := PSD.whole h.p (Nat.le_refl _) fun r hr => by
  have h1 := share_bd (ok.r r hr)
  exact Int.mul_nonneg (by have := h.d; omega) (by omega)
theorem kept_sym {g : Gr} {x : List Int} {k : Nat} (h : MPos g) (hk : k ≤ g.n) : SymM (g.n - k) (kpP g x k) := fun i j hi hj => by
  unfold kpP
  split
  · exact rnd_sym (gP_sym hk (h.whole_sym x k _)) _ _ i j hi hj
  · rfl
theorem kept_nonneg (g : Gr) (x : List Int) (k : Nat) : PSD (g.n - k) (kpP g x k) := fun y => by
  cases hd : kpD g x k
  · have e : kpP g x k = fun _ _ => 0 := by funext i j; unfold kpP; rw [hd]; rfl
    rw [e]; exact psd_zero _ y
  · have e : kpP g x k = kpR g x k := by funext i j; unfold kpP; rw [hd]; rfl
    rw [e]
    exact ((defS_pd _ _).1 hd).2.nonneg y
theorem kept_less {g : Gr} {x : List Int} {k L : Nat} (h : MPos g) (ok : MOk g x L) (hk : k ≤ g.n) (hd : defS k (gW g x k) = true) (y : Nat → Int) : qS (g.n - k) (kpP g x k) y * (g.den * 1024) * det k (gW g x k) ≤ qS (g.n - k) (gP k (gW g x k)) y * 1024 := by
  have h0 := defS_det hd
  have hden := h.d
  have hov : 0 < ovM g x k := Int.mul_pos (by omega) h0
  rw [Int.mul_assoc]
  cases hdd : kpD g x k
  · have e : kpP g x k = fun _ _ => 0 := by funext i j; unfold kpP; rw [hdd]; rfl
    rw [e, show qS (g.n - k) (fun _ _ => 0) y = 0 from sg_zero fun i _ => by unfold appS; rw [sg_zero fun j _ => Int.zero_mul _]; simp, Int.zero_mul]
    have hz : 0 ≤ qS (g.n - k) (gP k (gW g x k)) y := PSD.left hk (h.whole_sym x k _) (h.whole ok k) h0 y
    omega
  · have e : kpP g x k = kpR g x k := by funext i j; unfold kpP; rw [hdd]; rfl
    rw [e]
    exact (rnd_bd _ _ hov y).1
theorem plain_pos {n : Nat} {rows : List Row4} (hP : ∀ i j, at2 (mirM [] n) i j = 0) : MPos ⟨n, rows, mirM [] n, List.replicate n 0, 0, 1⟩ where
  s := fun i j _ _ => by show at2 (mirM [] n) i j = at2 (mirM [] n) j i; rw [hP, hP]
  p := (psd_zero n).congr fun i j _ _ => (hP i j).symm
  d := Int.one_pos
theorem quad_mat {m : Nat} {f : Mx} {y : List Int} : quadV (mat m f) y m = qS m f fun i => y.getD i 0 := by
  rw [quadV_qS]; exact qS_congr (fun i j hi hj => mat_at hi hj) fun _ _ => rfl
theorem quad_lim {m : Nat} {P : List (List Int)} {y : List Int} {A B : Nat} (hP : ∀ i j, lim (at2 P i j) ≤ A) (hy : ∀ i, lim (y.getD i 0) ≤ B) : lim (quadV P y m) ≤ A + 2 * B + 2 * m := by
  have := sumN_lim (f := fun k => y.getD k 0) (p := applyAt P y m) (L := A + 2 * B + m) (fun i => by
    have h1 := applyAt_lim (n := m) (i := i) hP hy
    have h2 := hy i
    omega) m
  unfold quadV; omega
theorem out_lim {g : Gr} {x : List Int} {k L D : Nat} (ok : MOk g x L) (hk : k < g.n) (hD : 2 ^ k * (L + 66) ≤ D) : (∀ i j, lim (gP k (gW g x k) i j) ≤ L + 65 + D + k + 1) ∧ (∀ i j, lim (kpP g x k i j) ≤ L + 65 + D + k + 5) ∧ (∀ i, lim (kpQ g x k i) ≤ L + 65 + D + k + 5) ∧ lim (kpC g x k) ≤ L + 65 + D + k + 5 ∧ lim (det k (gW g x k)) ≤ D := by
  obtain ⟨m1, m2, m3⟩ := ok.lims k (t := g.rows.length) (Nat.le_refl _)
  have h11 := ok.n11
  obtain ⟨s1, s2, s3⟩ := g_lim (k := k) (D := D) hD m1 m2 m3
  refine ⟨s1, fun i j => ?_, fun i => ?_, ?_, Nat.le_trans (det_pw (n := k) m1) hD⟩
  · unfold kpP
    split
    · exact Nat.le_trans (rndP_lim (by omega) (s1 i j)) (by omega)
    · rw [lim_zero]; omega
  · unfold kpQ
    split
    · exact Nat.le_trans (downF_lim (s2 i)) (by omega)
    · rw [lim_zero]; omega
  · unfold kpC
    split
    · exact Nat.le_trans (downF_lim s3) (by omega)
    · rw [lim_zero]; omega
theorem right_cut {r : Row4} {n k : Nat} (h : Right4 r n) (hk : k ≤ n) : Right4 (cutR k r) (n - k) where
  len := by show (r.co.drop k).length = n - k; rw [List.length_drop, h.len]
  le := by have := h.le; omega
  z := h.z
  kn := h.kn
  w := h.w
  co := fun a ha => h.co a (List.mem_of_mem_drop ha)
theorem out_ok {g : Gr} {x : List Int} {k L D : Nat} (ok : MOk g x L) (hk : k < g.n) (hD : 2 ^ k * (L + 66) ≤ D) : MOk (outG g x k) (x.drop k) (L + 65 + D + k + 5) := by
  obtain ⟨_, h2, h3, h4, _⟩ := out_lim ok hk hD
  have hn := ok.n
  have h11 := ok.n11
  have hl : (x.drop k).length = g.n - k := by rw [List.length_drop]; omega
  exact { n := by rw [hl]; rfl, n11 := by show g.n - k ≤ 11; omega, rows := by
            show (staysL g.rows k).length ≤ 60
            unfold staysL
            rw [List.length_map]
            exact Nat.le_trans (List.length_filter_le _ _) ok.rows,
          r := fun r hr => by
            obtain ⟨s, hs, rfl⟩ := List.mem_map.1 hr
            rw [hl]
            exact right_cut (by rw [hn]; exact ok.r s (List.mem_filter.1 hs).1) (by omega),
          x := fun v hv => ok.x v (List.mem_of_mem_drop hv), P := mat_sq _ _, Q := rowF_len _ _, sP := fun i j => lim_at_mat h2 i j, sQ := fun i => rng_lim h3 i, sc := h4, sd := Nat.le_trans (lim_i64 (show In64 1024 by decide)) (by omega) }
theorem out_pos {g : Gr} {x : List Int} {k : Nat} (h : MPos g) (hk : k ≤ g.n) : MPos (outG g x k) where
  s := fun i j hi hj => by
    show at2 (mat (g.n - k) (kpP g x k)) i j = at2 (mat (g.n - k) (kpP g x k)) j i
    have hi' : i < g.n - k := hi
    have hj' : j < g.n - k := hj
    rw [mat_at hi' hj', mat_at hj' hi']; exact kept_sym h hk i j hi' hj'
  p := (kept_nonneg g x k).congr fun i j hi hj => (mat_at hi hj).symm
  d := by show (0 : Int) < 1024; decide
end Go.Gim
/- What is left never tells more than was known. -/
set_option maxRecDepth 100000
set_option maxHeartbeats 4000000
set_option linter.unusedSimpArgs false
set_option linter.unusedVariables false
namespace Go.Gim
open Go.Proofs
theorem sign_le {a : Int} (h : a ≤ 0) : a.sign ≤ 0 := by
  rcases Int.lt_or_eq_of_le h with h | h
  · rw [Int.sign_eq_neg_one_of_neg h]; decide
  · rw [h]; decide
theorem y_lim {y : List Int} (h : ∀ v ∈ y, In64 v) (i : Nat) : lim (y.getD i 0) ≤ 2 := lim_i64 (getD_in h i)
theorem mleft_ret (g : Gr) (x : List Int) (k L D : Nat) (h : MOk g x L) (hk : k < g.n) (hD : 2 ^ k * (L + 66) ≤ D) (hD2 : L + 65 + D + k + 1 ≤ 890000) (hdf : defS k (gW g x k) = true) :
    Ret pg n_quad_Quad_Without [QV (mat g.n (gW g x k)) (rowF g.n (gwQ g x k g.rows.length)) (gwC g x k g.rows.length), .int .i64 k] (.tup [QV (mat (g.n - k) (gP k (gW g x k))) (rowF (g.n - k) (gQ k (gW g x k) (gwQ g x k g.rows.length))) (gC k (gW g x k) (gwQ g x k g.rows.length) (gwC g x k g.rows.length)), IV (det k (gW g x k)), .int .i64 0]) := by
  have h11 := h.n11
  obtain ⟨m1, m2, m3⟩ := h.lims k (t := g.rows.length) (Nat.le_refl _)
  have hB : 2 ^ k * (L + 65 + 1) ≤ D := hD
  have co := qwithout_ret (mat g.n (gW g x k)) (rowF g.n (gwQ g x k g.rows.length)) (gwC g x k g.rows.length) g.n k (L + 65) (by omega) (by omega) (by omega) (by omega) (mat_sq _ _) (rowF_len _ _) (fun a b => lim_at_mat m1 a b) (fun a => rng_lim m2 a) m3
  unfold qoutV at co
  have ed : defS k (at2 (mat g.n (gW g x k))) = defS k (gW g x k) := defS_congr fun i j hi hj => mat_at (by omega) (by omega)
  rw [ed, hdf, if_pos rfl] at co
  have e1 : mat (g.n - k) (gP k (at2 (mat g.n (gW g x k)))) = mat (g.n - k) (gP k (gW g x k)) := mat_congr fun i j hi hj => gP_congr (by omega) (by omega) (by omega) fun i j hi hj => mat_at hi hj
  have e2 : rowF (g.n - k) (gQ k (at2 (mat g.n (gW g x k))) fun i => (rowF g.n (gwQ g x k g.rows.length)).getD i 0) = rowF (g.n - k) (gQ k (gW g x k) (gwQ g x k g.rows.length)) := rowF_congr fun i hi => gQ_congr (n := g.n) (by omega) (by omega) (fun i j hi hj => mat_at hi hj) fun i hi => rowF_get hi
  have e3 : gC k (at2 (mat g.n (gW g x k))) (fun i => (rowF g.n (gwQ g x k g.rows.length)).getD i 0) (gwC g x k g.rows.length) = gC k (gW g x k) (gwQ g x k g.rows.length) (gwC g x k g.rows.length) := gC_congr (n := g.n) (by omega) (fun i j hi hj => mat_at hi hj) fun i hi => rowF_get hi
  have e4 : det k (at2 (mat g.n (gW g x k))) = det k (gW g x k) := det_congr fun i j hi hj => mat_at (by omega) (by omega)
  rw [e1, e2, e3, e4] at co
  exact co
end Go.Gim
/- What is left out again never tells more than was known. -/
set_option maxRecDepth 100000
set_option maxHeartbeats 4000000
set_option linter.unusedSimpArgs false
set_option linter.unusedVariables false
namespace Go.Gim
open Go.Proofs
theorem MOk.mono {g : Gr} {x : List Int} {L L' : Nat} (h : MOk g x L) (hl : L ≤ L') : MOk g x L' :=
  { n := h.n, n11 := h.n11, rows := h.rows, r := h.r, x := h.x, P := h.P, Q := h.Q, sP := fun i j => Nat.le_trans (h.sP i j) hl, sQ := fun i => Nat.le_trans (h.sQ i) hl, sc := Nat.le_trans h.sc hl, sd := Nat.le_trans h.sd hl }
theorem MargAgain_true (n : Int) (rows : List Row4) (x : List Int) (k m : Int) (y : List Int) (hn : In64 n) (hl : rows.length ≤ 9223372036854775807) (hr : ∀ r ∈ rows, r.co.length ≤ 9223372036854775807) (hxl : x.length ≤ 9223372036854775807) (hxv : ∀ v ∈ x, In64 v) (hk : In64 k) (hm : In64 m) (hyl : y.length ≤ 9223372036854775807) (hyv : ∀ v ∈ y, In64 v) :
    Ret pg n_gimballaw20_MargAgain [.int .i64 n, .sl (rows.map RV), ints x, .int .i64 k, .int .i64 m, ints y] (.bool true) := by
  have c1 := read20_ret n 7 1 rows [] hl hr (by decide) (by decide) (by decide)
  refine gimballaw20_MargAgain.of rfl (W_b ?_)
  unfold gimballaw20_MargAgain.k gimballaw20_MargAgain.res
  simp -dsimp -implicitDefEqProofs (disch := (first | assumption | omega | (simp only [zE] <;> omega) | (apply isPure_intro <;> simp))) only [go_sem]
  first | refine callB_of (awake20_ret) (by simp) ?_ | refine callP_of (awake20_ret) (by simp) ?_
  simp -dsimp -implicitDefEqProofs (disch := (first | assumption | omega | (simp only [zE] <;> omega) | (apply isPure_intro <;> simp))) only [go_sem]
  refine callB_of (c1.nn (args := [.int .i64 n, .int .i64 7, .sl (rows.map RV), .nil, .int .i64 1]) rfl) (by simp) ?_
  cases hrd : rd20B n 7 rows 1
  · simp -dsimp -implicitDefEqProofs (disch := (first | assumption | omega | (simp only [zE] <;> omega) | (apply isPure_intro <;> simp))) only [go_sem]
  by_cases h30 : rows.length ≤ 30
  · obtain ⟨h1, h2, _⟩ := rd20_ok.1 hrd
    obtain ⟨g1, _, _⟩ := gnewE_ok h1
    obtain ⟨N, rfl⟩ : ∃ N : Nat, n = N := ⟨n.toNat, by omega⟩
    rw [read_plain hrd]
    have gn : (plainG N rows).n = N := rfl
    have pos : MPos (plainG N rows) := plain_pos (mir_nil N)
    simp -dsimp -implicitDefEqProofs (disch := (first | assumption | omega | (simp only [zE] <;> omega) | (apply isPure_intro <;> simp))) only [go_sem]
    by_cases hx : x.length = N ∧ stateB x = true
    · obtain ⟨hxm, hst⟩ := hx
      have ok := plain_ok hrd hxm hst
      by_cases hkk : k < 0 ∨ N ≤ k
      · have co := mout_bad2 (plainG N rows) x k hxl hxm hst hkk
        first | refine callB_of (co) (by simp) ?_ | refine callP_of (co) (by simp) ?_
        simp -dsimp -implicitDefEqProofs (disch := (first | assumption | omega | (simp only [zE] <;> omega) | (apply isPure_intro <;> simp))) only [go_sem]
      · obtain ⟨q, rfl⟩ : ∃ q : Nat, k = q := ⟨k.toNat, by omega⟩
        have hq : q < N := by omega
        have hp2 : 2 ^ q ≤ 64 := Nat.pow_le_pow_right (n := 2) (by decide) (show q ≤ 6 by omega)
        have hD : 2 ^ q * (2 + 66) ≤ 64 * 68 := Nat.mul_le_mul_right 68 hp2
        have co := mout_ret (plainG N rows) x q 2 (64 * 68) ok hq hD (by omega) Int.one_pos
        first | refine callB_of (co) (by simp) ?_ | refine callP_of (co) (by simp) ?_
        cases hdf : defS q (gW (plainG N rows) x q)
        · rw [if_neg (by simp)]
          simp -dsimp -implicitDefEqProofs (disch := (first | assumption | omega | (simp only [zE] <;> omega) | (apply isPure_intro <;> simp))) only [go_sem]
        rw [if_pos rfl]
        have ok2 := out_ok ok hq hD
        have pos2 := out_pos (x := x) pos (Nat.le_of_lt hq)
        have oN : (outG (plainG N rows) x q).n = N - q := rfl
        have oD : (outG (plainG N rows) x q).den = 1024 := rfl
        have hxs := slc_intsF (l := x) (k := q) (ki := .i64) (by omega)
        have hxd : (x.drop q).length = N - q := by rw [List.length_drop]; omega
        generalize outG (plainG N rows) x q = o at *
        generalize x.drop q = x2 at *
        by_cases hm0 : m < 0
        · simp -dsimp -implicitDefEqProofs (disch := (first | assumption | omega | (simp only [zE] <;> omega) | (apply isPure_intro <;> simp))) only [go_sem]
        by_cases hmN : N - q ≤ m.toNat
        · have hmN' : ((N - q : Nat) : Int) ≤ m := by omega
          simp -dsimp -implicitDefEqProofs (disch := (first | assumption | omega | (simp only [zE] <;> omega) | (apply isPure_intro <;> simp))) only [go_sem, oN]
        obtain ⟨p, rfl⟩ : ∃ p : Nat, m = p := ⟨m.toNat, by omega⟩
        have hp : p < o.n := by omega
        have hpp : 2 ^ p ≤ 64 := Nat.pow_le_pow_right (n := 2) (by decide) (show p ≤ 6 by omega)
        have hL2 : 2 + 65 + 64 * 68 + q + 5 ≤ 4430 := by omega
        have ok3 : MOk o x2 4430 := ok2.mono hL2
        have hD2 : 2 ^ p * (4430 + 66) ≤ 64 * 4496 := Nat.mul_le_mul_right 4496 hpp
        have co2 := mout_ret o x2 p 4430 (64 * 4496) ok3 hp hD2 (by omega) (by rw [oD]; decide)
        simp -dsimp -implicitDefEqProofs (disch := (first | assumption | omega | (simp only [zE] <;> omega) | (apply isPure_intro <;> simp))) only [go_sem, oN, hxs]
        first | refine callB_of (co2) (by simp) ?_ | refine callP_of (co2) (by simp) ?_
        cases hdf2 : defS p (gW o x2 p)
        · rw [if_neg (by simp)]
          simp -dsimp -implicitDefEqProofs (disch := (first | assumption | omega | (simp only [zE] <;> omega) | (apply isPure_intro <;> simp))) only [go_sem]
        rw [if_pos rfl]
        have hsub : IntKind.i64.wrap (((N - q : Nat) : Int) - p) = ((N - q - p : Nat) : Int) := by rw [IntWalk.i64_in _ (by omega)]; omega
        by_cases hym : y.length = N - q - p
        · have hym' : (y.length : Int) = ((N - q - p : Nat) : Int) := by omega
          have cw := mwhole_ret o x2 p 4430 (by decide) ok3 (by omega)
          have cl := mleft_ret o x2 p 4430 (64 * 4496) ok3 hp hD2 (by omega) hdf2
          have cli := list20_ret y (by omega) hyv
          have kl := kept_less pos2 ok3 (Nat.le_of_lt hp) hdf2 fun i => y.getD i 0
          obtain ⟨l1, l2, _, _, l5⟩ := out_lim ok3 hp hD2
          rw [oN] at cw cl kl
          have oP2 : (outG o x2 p).P = mat (N - q - p) (kpP o x2 p) := by rw [← oN]; rfl
          have oN2 : (outG o x2 p).n = N - q - p := by rw [← oN]; rfl
          have oD2 : (outG o x2 p).den = 1024 := rfl
          have hsq := y_lim hyv
          have lq1 := quad_lim (m := N - q - p) (y := y) (P := mat (N - q - p) (gP p (gW o x2 p))) (lim_at_mat (n := N - q - p) l1) hsq
          have lq2 := quad_lim (m := N - q - p) (y := y) (P := mat (N - q - p) (kpP o x2 p)) (lim_at_mat (n := N - q - p) l2) hsq
          have cq1 := lquad_ret (mat (N - q - p) (gP p (gW o x2 p))) y (N - q - p) (by omega) (mat_sq _ _) hym (fun i j => by have := lim_at_mat (n := N - q - p) l1 i j; omega) (fun i => by have := hsq i; omega)
          have cq2 := lquad_ret (mat (N - q - p) (kpP o x2 p)) y (N - q - p) (by omega) (mat_sq _ _) hym (fun i j => by have := lim_at_mat (n := N - q - p) l2 i j; omega) (fun i => by have := hsq i; omega)
          rw [quad_mat] at cq1 cq2 lq1 lq2
          rw [oD] at cw kl
          generalize outG o x2 p = o2 at *
          generalize mat (N - q - p) (kpP o x2 p) = KP at *
          generalize qS (N - q - p) (kpP o x2 p) (fun i => y.getD i 0) = kept at *
          generalize qS (N - q - p) (gP p (gW o x2 p)) (fun i => y.getD i 0) = exa at *
          generalize det p (gW o x2 p) = dt at *
          have l1024 := lim_i64 (x := 1024) (by decide)
          have lov := lim_i64 (x := 1024 * 1024) (by decide)
          have m1 := lim_mul kept (1024 * 1024)
          have m2 := lim_mul (kept * (1024 * 1024)) dt
          have m3 := lim_mul exa 1024
          have fin := sign_le (show kept * (1024 * 1024) * dt - exa * 1024 ≤ 0 by omega)
          simp -dsimp -implicitDefEqProofs (disch := (first | assumption | omega | (simp only [zE] <;> omega) | (apply isPure_intro <;> simp))) only [go_sem, hsub, hym', oN]
          first | refine callB_of (cw) (by simp) ?_ | refine callP_of (cw) (by simp) ?_
          simp -dsimp -implicitDefEqProofs (disch := (first | assumption | omega | (simp only [zE] <;> omega) | (apply isPure_intro <;> simp))) only [go_sem]
          first | refine callB_of (cl) (by simp) ?_ | refine callP_of (cl) (by simp) ?_
          simp -dsimp -implicitDefEqProofs (disch := (first | assumption | omega | (simp only [zE] <;> omega) | (apply isPure_intro <;> simp))) only [go_sem, hsub, oN, oN2]
          first | refine callB_of (cli) (by simp) ?_ | refine callP_of (cli) (by simp) ?_
          simp -dsimp -implicitDefEqProofs (disch := (first | assumption | omega | (simp only [zE] <;> omega) | (apply isPure_intro <;> simp))) only [go_sem, oP2]
          first | refine callB_of (cq2) (by simp) ?_ | refine callP_of (cq2) (by simp) ?_
          simp -dsimp -implicitDefEqProofs (disch := (first | assumption | omega | (simp only [zE] <;> omega) | (apply isPure_intro <;> simp))) only [go_sem]
          first | refine callB_of (mul_ret kept (1024 * 1024) (by omega) (by omega)) (by simp) ?_ | refine callP_of (mul_ret kept (1024 * 1024) (by omega) (by omega)) (by simp) ?_
          simp -dsimp -implicitDefEqProofs (disch := (first | assumption | omega | (simp only [zE] <;> omega) | (apply isPure_intro <;> simp))) only [go_sem]
          first | refine callB_of (mul_ret _ dt (by omega) (by omega)) (by simp) ?_ | refine callP_of (mul_ret _ dt (by omega) (by omega)) (by simp) ?_
          simp -dsimp -implicitDefEqProofs (disch := (first | assumption | omega | (simp only [zE] <;> omega) | (apply isPure_intro <;> simp))) only [go_sem]
          first | refine callB_of (cq1) (by simp) ?_ | refine callP_of (cq1) (by simp) ?_
          simp -dsimp -implicitDefEqProofs (disch := (first | assumption | omega | (simp only [zE] <;> omega) | (apply isPure_intro <;> simp))) only [go_sem]
          first | refine callB_of (of_ret 1024 (by decide)) (by simp) ?_ | refine callP_of (of_ret 1024 (by decide)) (by simp) ?_
          simp -dsimp -implicitDefEqProofs (disch := (first | assumption | omega | (simp only [zE] <;> omega) | (apply isPure_intro <;> simp))) only [go_sem]
          first | refine callB_of (mul_ret exa 1024 (by omega) (by omega)) (by simp) ?_ | refine callP_of (mul_ret exa 1024 (by omega) (by omega)) (by simp) ?_
          simp -dsimp -implicitDefEqProofs (disch := (first | assumption | omega | (simp only [zE] <;> omega) | (apply isPure_intro <;> simp))) only [go_sem]
          first | refine callB_of (icmp_ret (kept * (1024 * 1024) * dt) (exa * 1024) (by omega) (by omega)) (by simp) ?_ | refine callP_of (icmp_ret (kept * (1024 * 1024) * dt) (exa * 1024) (by omega) (by omega)) (by simp) ?_
          have q2 : strV .eql (bst (decL 1024)) ⟨#[49, 48, 50, 52]⟩ = some (.bool true) := bst_eq (b := [49, 48, 50, 52]) (by rw [decL_decF (by decide)]; decide)
          simp -dsimp -implicitDefEqProofs (disch := (first | assumption | omega | (simp only [zE] <;> omega) | (apply isPure_intro <;> simp))) only [go_sem, oD2]
          refine callB_of (string_ret 1024 (by omega)) (by simp) ?_
          simp -dsimp -implicitDefEqProofs (disch := (first | assumption | omega | (simp only [zE] <;> omega) | (apply isPure_intro <;> simp))) only [go_sem, decS_bst, q2]
        · have hym' : ¬ (y.length : Int) = ((N - q - p : Nat) : Int) := by omega
          simp -dsimp -implicitDefEqProofs (disch := (first | assumption | omega | (simp only [zE] <;> omega) | (apply isPure_intro <;> simp))) only [go_sem, hsub, hym', oN]
    · have co := mout_bad1 (plainG N rows) x k hxl (by
        rcases Decidable.em (x.length = N) with h | h
        · exact .inr (by cases h2 : stateB x; rfl; exact absurd ⟨h, h2⟩ hx)
        · exact .inl h)
      first | refine callB_of (co) (by simp) ?_ | refine callP_of (co) (by simp) ?_
      simp -dsimp -implicitDefEqProofs (disch := (first | assumption | omega | (simp only [zE] <;> omega) | (apply isPure_intro <;> simp))) only [go_sem]
  · have h30' : (30 : Int) < rows.length := by omega
    simp -dsimp -implicitDefEqProofs (disch := (first | assumption | omega | (simp only [zE] <;> omega) | (apply isPure_intro <;> simp))) only [go_sem]
end Go.Gim

import Derived.Test.YtjkjpjneeioeiaaGreatMW
import Derived.Test.YtjkjpjneeioeiaaGreatGMR
import Derived.Test.YtjkjpjneeioeiaaGreatQP2
/- What the laws on what is left out share; the rows that stay. -/
set_option maxRecDepth 100000
set_option maxHeartbeats 4000000
set_option linter.unusedSimpArgs false
set_option linter.unusedVariables false
namespace Go.Gim
open Go.Proofs
theorem touchB_succ {r : Row4} {i : Nat} (h : i < r.co.length) : zdf r (i + 1) = (zdf r i || decide (r.co.getD i 0 ≠ 0)) := by
 unfold zdf; rw [zb4 0 h, List.any_append]; simp
theorem touchB_mono {r : Row4} {i k : Nat} (h : zdf r i = true) (hk : i ≤ k) : zdf r k = true := by
 unfold zdf at *
 rw [List.any_eq_true] at *
 obtain ⟨x, hx, h2⟩ := h
 refine ⟨x, ?_, h2⟩
 rw [show r.co.take i = (r.co.take k).take i by rw [List.take_take, Nat.min_eq_left hk]] at hx
 exact List.mem_of_mem_take hx
theorem rtouches_ret (r : Row4) (k : Nat) (hk : k ≤ r.co.length) (hl : r.co.length ≤ 1000000) : Ret pg zdl [RV r, .int .i64 k] (.bool (zdf r k)) := by
 refine gimbalref20_Touches.of rfl (W_b ?_)
 unfold gimbalref20_Touches.k gimbalref20_Touches.res Ot
 simp -dsimp -implicitDefEqProofs (disch := first | assumption | omega | (simp only [zE] <;> omega) | (apply zaa <;> simp)) only [go_sem]
 refine zaq (T := Nat × Nat) (fun t => ⟨E [(1, .int .i64 k), (2, .pp (RV r)), (5, .int .i64 t.1)], fun _ => none, t.2, t.2⟩) (fun t => t.1 ≤ k ∧ zdf r t.1 = false) (fun t => k - t.1) (0, _) rfl ⟨by dsimp only; omega, by simp [zdf]⟩ ?_
 rintro ⟨i, nx⟩ ⟨i1, i2⟩
 dsimp only at i1 i2
 by_cases hi : i < k
 ·have hs := touchB_succ (r := r) (i := i) (by omega)
  rw [i2, Bool.false_or] at hs
  by_cases h0 : r.co.getD i 0 = 0
  ·rw [h0] at hs
   simp -dsimp -implicitDefEqProofs (disch := first | assumption | omega | (simp only [zE] <;> omega) | (apply zaa <;> simp)) only [go_sem, h0]
   exact ⟨(i + 1, _), rfl, ⟨by dsimp only; omega, by dsimp only; rw [hs]; simp⟩, by dsimp only; omega⟩
  ·have ht : zdf r k = true := touchB_mono (i := i + 1) (by rw [hs]; exact decide_eq_true h0) (by omega)
   rw [ht]
   simp -dsimp -implicitDefEqProofs (disch := first | assumption | omega | (simp only [zE] <;> omega) | (apply zaa <;> simp)) only [go_sem, h0]
 ·have hik : i = k := by omega
  subst hik
  rw [i2]
  simp -dsimp -implicitDefEqProofs (disch := first | assumption | omega | (simp only [zE] <;> omega) | (apply zaa <;> simp)) only [go_sem]
theorem mir_nil (n i j : Nat) : at2 (mirM [] n) i j = 0 := by
 by_cases h : i < n ∧ j < n
 ·unfold mirM; rw [zfu h.1 h.2]; simp [at2]
 ·unfold mirM
  rcases Nat.lt_or_ge i n with hi | hi
  ·have : n ≤ j := by omega
   simp [at2, mat, List.getD_eq_getElem?_getD, hi, List.getElem?_eq_none, this]
  ·simp [at2, mat, List.getD_eq_getElem?_getD, List.getElem?_eq_none, hi]
theorem rep_get (n i : Nat) : (List.replicate n (0 : Int)).getD i 0 = 0 := by
 simp only [List.getD_eq_getElem?_getD, List.getElem?_replicate]
 split <;> rfl
def zcd (n : Nat) (rows : List Row4) : Gr := ⟨n, rows, mirM [] n, List.replicate n 0, 0, 1⟩
theorem read_plain {n : Nat} {most : Int} {rows : List Row4} (h : rd20B n most rows 1 = true) : rd20G n most rows [] 1 = zcd n rows := by
 unfold rd20G; rw [if_pos h]; rfl
theorem plain_ok {n : Nat} {most : Int} {rows : List Row4} {x : List Int} (h : rd20B n most rows 1 = true) (hx : x.length = n) (hs : stateB x = true) : MOk (zcd n rows) x 2 := by
 obtain ⟨h1, h2, _⟩ := rd20_ok.1 h
 obtain ⟨g1, g2, g3⟩ := gnewE_ok h1
 exact { n := hx.symm, n11 := by show n ≤ 11; omega, rows := g2, r := fun r hr => by rw [hx]; exact rightB_iff.1 (g3 r hr), x := stateB_iff.1 hs, P := mirM_sq _ _, Q := by simp [zcd],
         sP := fun i j => by show lim (at2 (mirM [] n) i j) ≤ 2; rw [mir_nil, za5]; omega, sQ := fun i => by show lim ((List.replicate n 0).getD i 0) ≤ 2; rw [rep_get, za5]; omega,
         sc := by show lim 0 ≤ 2; rw [za5]; omega, sd := show lim 1 ≤ 2 from za1 (by decide) }
end Go.Gim
/- What the rows that go tell: squares of what they lack. -/
set_option maxRecDepth 100000
set_option maxHeartbeats 4000000
set_option linter.unusedSimpArgs false
set_option linter.unusedVariables false
namespace Go.Gim
open Go.Proofs
theorem MargWhole_true (n : Int) (rows : List Row4) (x : List Int) (k : Int) (y : List Int) (hn : In64 n) (hl : rows.length ≤ 9223372036854775807) (hr : ∀ r ∈ rows, r.co.length ≤ 9223372036854775807) (hxl : x.length ≤ 9223372036854775807) (hxv : ∀ v ∈ x, In64 v) (hk : In64 k) (hyl : y.length ≤ 9223372036854775807) (hyv : ∀ v ∈ y, In64 v) :
  Ret pg zew [.int .i64 n, .sl (rows.map RV), ints x, .int .i64 k, ints y] (.bool true) := by
 have c1 := read20_ret n 11 1 rows [] hl hr (by decide) (by decide) (by decide)
 have c2 := rstate_ret x hxl
 refine gimballaw20_MargWhole.of rfl (W_b ?_)
 unfold gimballaw20_MargWhole.k gimballaw20_MargWhole.res Ot
 simp -dsimp -implicitDefEqProofs (disch := first | assumption | omega | (simp only [zE] <;> omega) | (apply zaa <;> simp)) only [go_sem]
 first | refine zac (awake20_ret) (by simp) ?_ | refine zae (awake20_ret) (by simp) ?_
 simp -dsimp -implicitDefEqProofs (disch := first | assumption | omega | (simp only [zE] <;> omega) | (apply zaa <;> simp)) only [go_sem]
 refine zac (c1.nn (args := [.int .i64 n, .int .i64 11, .sl (rows.map RV), .nil, .int .i64 1]) rfl) (by simp) ?_
 simp -dsimp -implicitDefEqProofs (disch := first | assumption | omega | (simp only [zE] <;> omega) | (apply zaa <;> simp)) only [go_sem]
 first | refine zac (c2) (by simp) ?_ | refine zae (c2) (by simp) ?_
 cases hrd : rd20B n 11 rows 1
 ·simp -dsimp -implicitDefEqProofs (disch := first | assumption | omega | (simp only [zE] <;> omega) | (apply zaa <;> simp)) only [go_sem]
 cases hst : stateB x
 ·simp -dsimp -implicitDefEqProofs (disch := first | assumption | omega | (simp only [zE] <;> omega) | (apply zaa <;> simp)) only [go_sem]
 by_cases hxn : (x.length : Int) = n
 ·by_cases hyn : (y.length : Int) = n
  ·by_cases hk0 : k < 0
   ·simp -dsimp -implicitDefEqProofs (disch := first | assumption | omega | (simp only [zE] <;> omega) | (apply zaa <;> simp)) only [go_sem, hxn, hyn]
   ·by_cases hkn : n ≤ k
    ·simp -dsimp -implicitDefEqProofs (disch := first | assumption | omega | (simp only [zE] <;> omega) | (apply zaa <;> simp)) only [go_sem, hxn, hyn]
    ·obtain ⟨m, rfl⟩ : ∃ m : Nat, n = m := ⟨x.length, hxn.symm⟩
     obtain ⟨q, rfl⟩ : ∃ q : Nat, k = q := ⟨k.toNat, by omega⟩
     have hxm : x.length = m := by omega
     have hym : y.length = m := by omega
     have hq : q < m := by omega
     have ok := plain_ok hrd hxm hst
     rw [read_plain hrd]
     have gn : (zcd m rows).n = m := rfl
     have m11 : m ≤ 11 := ok.n11
     have h60 : rows.length ≤ 60 := ok.rows
     have gd : (zcd m rows).den * 1024 = 1024 := rfl
     have gr : (zcd m rows).rows = rows := rfl
     have hsq : ∀ i, lim (y.getD i 0) ≤ 2 := fun i => za1 (getD_in hyv i)
     have cw := mwhole_ret (zcd m rows) x q 2 (by decide) ok (by omega)
     obtain ⟨l1, l2, l3⟩ := ok.lims q (t := rows.length) (Nat.le_refl _)
     have cli := list20_ret y (by omega) hyv
     rw [gn, gd] at cw
     have cv := qvalue_ret (mat m (gwP (zcd m rows) x q rows.length)) (rowF m (gwQ (zcd m rows) x q rows.length)) y (gwC (zcd m rows) x q rows.length) m (by omega) (zgg _ _) (zau _ _) hym (fun i j => by have := zc4 (n := m) l1 i j; omega) (fun i => by have := zfy (n := m) l2 i; unfold rowF; omega) (by omega) (fun i => by have := hsq i; omega)
     have hval : qval (mat m (gwP (zcd m rows) x q rows.length)) (rowF m (gwQ (zcd m rows) x q rows.length)) (gwC (zcd m rows) x q rows.length) y = goes rows q (fun r => r.w * zcr r x) (fun r => (-r.z + dotF r (fun i => y.getD i 0) m) * (-r.z + dotF r (fun i => y.getD i 0) m)) rows.length := by
      rw [qval_val (zgg _ _) (zau _ _), valF_congr (P' := gwP (zcd m rows) x q rows.length) (q' := gwQ (zcd m rows) x q rows.length) (x' := fun i => y.getD i 0) (fun i j hi hj => zfu hi hj) (fun i hi => zci hi) fun _ _ => rfl]
      have := whole_val m (at2 (zcd m rows).P) (fun i => (zcd m rows).Q.getD i 0) (zcd m rows).c rows q (scR (zcd m rows).den x) rows.length fun i => y.getD i 0
      have e0 : valF m (at2 (zcd m rows).P) (fun i => (zcd m rows).Q.getD i 0) (zcd m rows).c (fun i => y.getD i 0) = 0 := by
       unfold valF qS
       have z1 : ∀ i j, at2 (zcd m rows).P i j = 0 := mir_nil m
       have z2 : ∀ i, (zcd m rows).Q.getD i 0 = 0 := rep_get m
       rw [zej fun i _ => by unfold appS; rw [zej fun j _ => by rw [z1]; exact Int.zero_mul _]; exact Int.mul_zero _, zej fun i _ => by dsimp only; rw [z2]; exact Int.zero_mul _]
       rfl
      rw [e0, Int.zero_mul, Int.zero_add] at this
      refine this.trans (goes_congr (Nat.le_refl _) fun r _ => ?_)
      congr 1
      unfold scR
      exact Int.one_mul _
     rw [hval] at cv
     have hgs := goes_succ rows q (fun r => r.w * zcr r x) (fun r => (-r.z + dotF r (fun i => y.getD i 0) m) * (-r.z + dotF r (fun i => y.getD i 0) m))
     have hg0 : goes rows q (fun r => r.w * zcr r x) (fun r => (-r.z + dotF r (fun i => y.getD i 0) m) * (-r.z + dotF r (fun i => y.getD i 0) m)) 0 = 0 := rfl
     have ldot : ∀ r ∈ rows, ∀ j, lim (-r.z + dotF r (fun i => y.getD i 0) j) ≤ 6 + j := fun r hr j => by
      have h4 := ok.r r hr
      have h5 : lim (dotF r (fun i => y.getD i 0) j) ≤ 4 + j := sumZ_lim fun i _ => by
       have a1 := h4.get i
       have := zbb (r.co.getD i 0) (y.getD i 0)
       have := za1 (x := r.co.getD i 0) (by omega)
       have := hsq i
       show lim (r.co.getD i 0 * y.getD i 0) ≤ 4
       omega
      have h6 := h4.z
      have h7 := za1 (x := -r.z) (by omega)
      have h8 := lim_add (-r.z) (dotF r (fun i => y.getD i 0) j)
      omega
     have lgo : ∀ t, t ≤ rows.length → lim (goes rows q (fun r => r.w * zcr r x) (fun r => (-r.z + dotF r (fun i => y.getD i 0) m) * (-r.z + dotF r (fun i => y.getD i 0) m)) t) ≤ 40 + t := fun t ht => goes_lim ht fun r hr => by
      have h1 := ldot r hr m
      have h2 := zbb (-r.z + dotF r (fun i => y.getD i 0) m) (-r.z + dotF r (fun i => y.getD i 0) m)
      have h3 := share_bd (ok.r r hr)
      have h4 := za1 (x := r.w * zcr r x) (by omega)
      have h5 := zbb ((-r.z + dotF r (fun i => y.getD i 0) m) * (-r.z + dotF r (fun i => y.getD i 0) m)) (r.w * zcr r x)
      omega
     generalize hS : goes rows q (fun r => r.w * zcr r x) (fun r => (-r.z + dotF r (fun i => y.getD i 0) m) * (-r.z + dotF r (fun i => y.getD i 0) m)) = S at *
     clear hS hval
     simp -dsimp -implicitDefEqProofs (disch := first | assumption | omega | (simp only [zE] <;> omega) | (apply zaa <;> simp)) only [go_sem, hxn, hyn]
     first | refine zac (cw) (by simp) ?_ | refine zae (cw) (by simp) ?_
     simp -dsimp -implicitDefEqProofs (disch := first | assumption | omega | (simp only [zE] <;> omega) | (apply zaa <;> simp)) only [go_sem]
     first | refine zac (cli) (by simp) ?_ | refine zae (cli) (by simp) ?_
     simp -dsimp -implicitDefEqProofs (disch := first | assumption | omega | (simp only [zE] <;> omega) | (apply zaa <;> simp)) only [go_sem, ← zc6]
     refine zaq (T := Nat × Hp × Nat) (fun t => ⟨E [(0, .int .i64 m), (1, .sl (rows.map RV)), (2, ints x), (3, .int .i64 q), (11, .bool true), (16, .ptr 52 1 0 0), (17, .ptr 53 1 0 0), (18, ivl y), (19, .ptr 60 1 0 0), (20, .int .i64 t.1)], t.2.1, t.2.2, t.2.2⟩)
      (fun t => t.1 ≤ rows.length ∧ 63 ≤ t.2.2 ∧ t.2.1 52 = some ⟨[QV (mat m (gwP (zcd m rows) x q rows.length)) (rowF m (gwQ (zcd m rows) x q rows.length)) (gwC (zcd m rows) x q rows.length)], 4⟩ ∧ t.2.1 53 = some ⟨[IV 1024], 2⟩ ∧ t.2.1 60 = some ⟨[IV (S t.1)], 2⟩) (fun t => rows.length - t.1) (0, _, _) rfl ⟨by dsimp only; omega, by dsimp only; omega, rfl, rfl, by dsimp only; rw [hg0]; rfl⟩ ?_
     rintro ⟨i, H, nx⟩ ⟨i1, i2, i3, i4, i5⟩
     dsimp only at i1 i2 i3 i4 i5
     by_cases hi : i < rows.length
     ·have hm := zas default hi
      have hr4 := ok.r _ hm
      have hrl := hr4.len
      have ld := ldot _ hm
      have ct := rtouches_ret _ q (by omega) (by omega : (rows.getD i default).co.length ≤ 1000000)
      have hst := hgs i
      obtain ⟨r, er⟩ : ∃ r, r = rows.getD i default := ⟨_, rfl⟩
      rw [← er] at hr4 hrl ct hm hst ld
      have hz := hr4.z
      have hwz : IntKind.i64.wrap (0 - r.z) = -r.z := by rw [IntWalk.i64_in _ (by omega)]; omega
      simp -dsimp -implicitDefEqProofs (disch := first | assumption | omega | (simp only [zE] <;> omega) | (apply zaa <;> simp)) only [go_sem, ← er]
      first | refine zac (ct) (by simp) ?_ | refine zae (ct) (by simp) ?_
      cases htc : zdf r q
      ·rw [htc, if_neg (by simp), Int.add_zero] at hst
       simp -dsimp -implicitDefEqProofs (disch := first | assumption | omega | (simp only [zE] <;> omega) | (apply zaa <;> simp)) only [go_sem]
       exact ⟨(i + 1, H, _), rfl, ⟨by dsimp only; omega, by dsimp only; omega, i3, i4, by dsimp only; rw [hst]; exact i5⟩, by dsimp only; omega⟩
      ·rw [htc, if_pos rfl] at hst
       simp -dsimp -implicitDefEqProofs (disch := first | assumption | omega | (simp only [zE] <;> omega) | (apply zaa <;> simp)) only [go_sem, ← er, hwz]
       first | refine zac (zbg (-r.z) (by omega)) (by simp) ?_ | refine zae (zbg (-r.z) (by omega)) (by simp) ?_
       simp -dsimp -implicitDefEqProofs (disch := first | assumption | omega | (simp only [zE] <;> omega) | (apply zaa <;> simp)) only [go_sem]
       have hshb := share_bd hr4
       have hws : IntKind.i64.wrap (r.w * zcr r x) = r.w * zcr r x := IntWalk.i64_in _ (by omega)
       have csh := rshare_ret r x hr4 ok.x
       have j3 := (Hp.upd_ne H (some ⟨[IV (-r.z)], 2⟩) (show 52 ≠ nx + 20 by omega)).trans i3
       have j4 := (Hp.upd_ne H (some ⟨[IV (-r.z)], 2⟩) (show 53 ≠ nx + 20 by omega)).trans i4
       have j5 := (Hp.upd_ne H (some ⟨[IV (-r.z)], 2⟩) (show 60 ≠ nx + 20 by omega)).trans i5
       have j6 := Hp.upd_same H (nx + 20) (some ⟨[IV (-r.z)], 2⟩)
       generalize Hp.upd H (nx + 20) (some ⟨[IV (-r.z)], 2⟩) = H1 at j3 j4 j5 j6 ⊢
       clear i3 i4 i5
       refine zaq (T := Nat × Hp × Nat) (fun t => ⟨E [(0, .int .i64 m), (1, .sl (rows.map RV)), (2, ints x), (3, .int .i64 q), (11, .bool true), (16, .ptr 52 1 0 0), (17, .ptr 53 1 0 0), (18, ivl y), (19, .ptr 60 1 0 0), (20, .int .i64 i), (22, .ptr (nx + 20) 1 0 0), (23, .int .i64 t.1)], t.2.1, t.2.2, t.2.2⟩)
        (fun t => t.1 ≤ m ∧ nx + 23 ≤ t.2.2 ∧ t.2.1 52 = some ⟨[QV (mat m (gwP (zcd m rows) x q rows.length)) (rowF m (gwQ (zcd m rows) x q rows.length)) (gwC (zcd m rows) x q rows.length)], 4⟩ ∧ t.2.1 53 = some ⟨[IV 1024], 2⟩ ∧ t.2.1 60 = some ⟨[IV (S i)], 2⟩ ∧ t.2.1 (nx + 20) = some ⟨[IV (-r.z + dotF r (fun i => y.getD i 0) t.1)], 2⟩) (fun t => m - t.1) (0, H1, _) rfl ⟨by dsimp only; omega, by dsimp only; omega, j3, j4, j5, by dsimp only; rw [show dotF r (fun i => y.getD i 0) 0 = 0 from rfl, Int.add_zero]; exact j6⟩ ?_
       clear j3 j4 j5 j6
       rintro ⟨j, H2, nx2⟩ ⟨j1, j2, j3, j4, j5, j6⟩
       dsimp only at j1 j2 j3 j4 j5 j6
       have ldj := ld j
       by_cases hj : j < m
       ·have hcj := hr4.get j
        have hds : -r.z + dotF r (fun i => y.getD i 0) (j + 1) = -r.z + dotF r (fun i => y.getD i 0) j + r.co.getD j 0 * y.getD j 0 := by unfold dotF; rw [sumZ]; dsimp only; omega
        have b1 := za1 (x := r.co.getD j 0) (by omega)
        have b2 := hsq j
        have b3 := zbb (r.co.getD j 0) (y.getD j 0)
        simp -dsimp -implicitDefEqProofs (disch := first | assumption | omega | (simp only [zE] <;> omega) | (apply zaa <;> simp)) only [go_sem, ← er, j6]
        first | refine zac (zbg (r.co.getD j 0) (by omega)) (by simp) ?_ | refine zae (zbg (r.co.getD j 0) (by omega)) (by simp) ?_
        simp -dsimp -implicitDefEqProofs (disch := first | assumption | omega | (simp only [zE] <;> omega) | (apply zaa <;> simp)) only [go_sem, ← er, j6]
        first | refine zac (zba (r.co.getD j 0) (y.getD j 0) (by omega) (by omega)) (by simp) ?_ | refine zae (zba (r.co.getD j 0) (y.getD j 0) (by omega) (by omega)) (by simp) ?_
        simp -dsimp -implicitDefEqProofs (disch := first | assumption | omega | (simp only [zE] <;> omega) | (apply zaa <;> simp)) only [go_sem, ← er, j6]
        first | refine zac (zey _ (r.co.getD j 0 * y.getD j 0) (by omega) (by omega)) (by simp) ?_ | refine zae (zey _ (r.co.getD j 0 * y.getD j 0) (by omega) (by omega)) (by simp) ?_
        simp -dsimp -implicitDefEqProofs (disch := first | assumption | omega | (simp only [zE] <;> omega) | (apply zaa <;> simp)) only [go_sem, ← er, j6]
        generalize hH3 : Hp.upd H2 (nx + 20) _ = H3
        exact ⟨(j + 1, H3, _), rfl, ⟨by dsimp only; omega, by dsimp only; omega, zar hH3 j3 (by omega), zar hH3 j4 (by omega), zar hH3 j5 (by omega), by dsimp only; rw [hds]; exact za9 hH3⟩, by dsimp only; omega⟩
       ·have hje : j = m := by omega
        subst hje
        have b1 := zbb (-r.z + dotF r (fun i => y.getD i 0) j) (-r.z + dotF r (fun i => y.getD i 0) j)
        have b2 := za1 (x := r.w * zcr r x) (by omega)
        have b3 := zbb ((-r.z + dotF r (fun i => y.getD i 0) j) * (-r.z + dotF r (fun i => y.getD i 0) j)) (r.w * zcr r x)
        have b4 := lgo i (by omega)
        simp -dsimp -implicitDefEqProofs (disch := first | assumption | omega | (simp only [zE] <;> omega) | (apply zaa <;> simp)) only [go_sem, ← er, j5, j6]
        first | refine zac (zba _ _ (by omega) (by omega)) (by simp) ?_ | refine zae (zba _ _ (by omega) (by omega)) (by simp) ?_
        simp -dsimp -implicitDefEqProofs (disch := first | assumption | omega | (simp only [zE] <;> omega) | (apply zaa <;> simp)) only [go_sem, ← er, j5, j6]
        first | refine zac (csh) (by simp) ?_ | refine zae (csh) (by simp) ?_
        simp -dsimp -implicitDefEqProofs (disch := first | assumption | omega | (simp only [zE] <;> omega) | (apply zaa <;> simp)) only [go_sem, ← er, j5, j6, hws]
        first | refine zac (zbg _ (by omega)) (by simp) ?_ | refine zae (zbg _ (by omega)) (by simp) ?_
        simp -dsimp -implicitDefEqProofs (disch := first | assumption | omega | (simp only [zE] <;> omega) | (apply zaa <;> simp)) only [go_sem, ← er, j5, j6]
        first | refine zac (zba _ _ (by omega) (by omega)) (by simp) ?_ | refine zae (zba _ _ (by omega) (by omega)) (by simp) ?_
        simp -dsimp -implicitDefEqProofs (disch := first | assumption | omega | (simp only [zE] <;> omega) | (apply zaa <;> simp)) only [go_sem, ← er, j5, j6]
        first | refine zac (zey (S i) _ (by omega) (by omega)) (by simp) ?_ | refine zae (zey (S i) _ (by omega) (by omega)) (by simp) ?_
        simp -dsimp -implicitDefEqProofs (disch := first | assumption | omega | (simp only [zE] <;> omega) | (apply zaa <;> simp)) only [go_sem, ← er, j5, j6]
        rw [← hst]
        generalize hH3 : Hp.upd H2 60 _ = H3
        exact ⟨(i + 1, H3, _), rfl, ⟨by dsimp only; omega, by dsimp only; omega, zar hH3 j3 (by omega), zar hH3 j4 (by omega), za9 hH3⟩, by dsimp only; omega⟩
     ·have hie : i = rows.length := by omega
      subst hie
      have lgL := lgo rows.length (Nat.le_refl _)
      have cc1 := icmp_ret 1024 1024 (by have := za1 (x := 1024) (by decide); omega) (by have := za1 (x := 1024) (by decide); omega)
      have cc2 := icmp_ret (S rows.length) (S rows.length) (by omega) (by omega)
      rw [Int.sub_self, Int.sign_zero] at cc1 cc2
      simp -dsimp -implicitDefEqProofs (disch := first | assumption | omega | (simp only [zE] <;> omega) | (apply zaa <;> simp)) only [go_sem, i3, i4, i5]
      first | refine zac (zbg 1024 (by decide)) (by simp) ?_ | refine zae (zbg 1024 (by decide)) (by simp) ?_
      simp -dsimp -implicitDefEqProofs (disch := first | assumption | omega | (simp only [zE] <;> omega) | (apply zaa <;> simp)) only [go_sem, i3, i4, i5]
      first | refine zac (cc1) (by simp) ?_ | refine zae (cc1) (by simp) ?_
      simp -dsimp -implicitDefEqProofs (disch := first | assumption | omega | (simp only [zE] <;> omega) | (apply zaa <;> simp)) only [go_sem, i3, i4, i5]
      first | refine zac (cv) (by simp) ?_ | refine zae (cv) (by simp) ?_
      simp -dsimp -implicitDefEqProofs (disch := first | assumption | omega | (simp only [zE] <;> omega) | (apply zaa <;> simp)) only [go_sem, i3, i4, i5]
      first | refine zac (cc2) (by simp) ?_ | refine zae (cc2) (by simp) ?_
      simp -dsimp -implicitDefEqProofs (disch := first | assumption | omega | (simp only [zE] <;> omega) | (apply zaa <;> simp)) only [go_sem]
  ·simp -dsimp -implicitDefEqProofs (disch := first | assumption | omega | (simp only [zE] <;> omega) | (apply zaa <;> simp)) only [go_sem, hxn]
 ·simp -dsimp -implicitDefEqProofs (disch := first | assumption | omega | (simp only [zE] <;> omega) | (apply zaa <;> simp)) only [go_sem]
end Go.Gim

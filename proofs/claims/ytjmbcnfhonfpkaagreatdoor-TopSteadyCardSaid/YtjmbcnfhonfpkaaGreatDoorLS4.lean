import Derived.Test.YtjmbcnfhonfpkaaGreatDoorSM0
import Derived.Test.YtjmbcnfhonfpkaaGreatDoorDV7
set_option linter.unusedSimpArgs false
set_option linter.unusedVariables false
/- Own lists, and own rows of own lists, that a function tells. -/
set_option maxRecDepth 100000
namespace Go.Gim
open Go.Proofs
def rowF (w : Nat) (f : Nat → Int) : List Int := (List.range w).map f
theorem zgl (w : Nat) (f : Nat → Int) : (rowF w f).length = w := by simp [rowF]
theorem rowF_get {w i : Nat} {f : Nat → Int} (h : i < w) : (rowF w f).getD i 0 = f i := zbh 0 h
theorem rowF_set {w i : Nat} {f : Nat → Int} {v : Int} : (rowF w f).set i v = rowF w fun k => if k = i then v else f k := zia
theorem zh9 {w : Nat} {f g : Nat → Int} (h : ∀ k, k < w → f k = g k) : rowF w f = rowF w g := List.map_congr_left fun k hk => h k (by simpa using hk)
def NewL (H : Hp) (n0 : Nat) (H' : Hp) (n' id : Nat) (l : List Int) : Prop := n0 ≤ id ∧ id < n' ∧ H' id = some ⟨l.map IV, 2⟩ ∧ ∀ c, c < n0 → H' c = H c
theorem list_G (n : Nat) (g : Nat) (caps : List V) (f : Nat → Int) (H : Hp) (n0 : Nat) (hn : n ≤ 1000000) (hc : ∀ v ∈ caps, V.Pure v) (h : ∀ i : Nat, i < n → Ret pg g (.int .i64 i :: caps) (IV (f i))) :
  ∃ H' n' id, NewL H n0 H' n' id (rowF n f) ∧ RetG pg za2 [.int .i64 n, .fn g caps] H n0 (.own id n) H' n' := by
 suffices h : ∃ r H' n', (∃ id, r = .own id n ∧ NewL H n0 H' n' id (rowF n f)) ∧ RetG pg za2 [.int .i64 n, .fn g caps] H n0 r H' n' by
  obtain ⟨_, H', n', ⟨id, rfl, h1⟩, h⟩ := h
  exact ⟨H', n', id, h1, h⟩
 refine lin_list_long_Int.ofG rfl (W_b ?_)
 unfold lin_list_long_Int.k lin_list_long_Int.res Ot kp Oy Om Oi Oc On ci
 refine sgo ?_
 refine za1 (T := Nat × Nat) (fun t => ⟨E [(1, .fn g caps), (5, .own (n0 + 2) n), (10, .int .i64 n), (11, .int .i64 t.1)], Hp.upd H (n0 + 2) (some ⟨(upto n t.1 f).map IV, 2⟩), t.2, t.2⟩) (fun t => t.1 ≤ n ∧ n0 + 2 < t.2) (fun t => n - t.1) (0, _) (by rw [upto_zero]; rfl) ⟨zdo, zdo⟩ ?_
 rintro ⟨i, nx⟩ ⟨i1, i2⟩
 dsimp only at i1 i2
 by_cases hi : i < n
 ·refine sgo ?_
  refine zda (h i hi) (ze4 hc _ _) ?_
  simp -dsimp -implicitDefEqProofs (disch := try exact zdE) only [go_sem, upto_set hi]
  exact ⟨(i + 1, _), rfl, ⟨zdo, zdo⟩, zdo⟩
 ·have he : i = n := by omega
  subst he
  refine sgo ?_
  exact ⟨_, rfl, zdo, _, rfl, by omega, zdo, by dsimp only; rw [Hp.upd_same, upto_all]; rfl, fun c hc => Hp.upd_ne _ _ (by omega)⟩
theorem swept11_ret (A : List (List Int)) (b : List Int) (n i j : Nat) (hn : n ≤ 1000000) (hA : Sq A n) (hb : b.length = n) (hi : i < n) : Ret pg zdi [.int .i64 j, .pp (.int .i64 n), .pp (.sl (A.map ivl)), .pp (.int .i64 i), .pp (ivl b)] (IV (if j < n then at2 A i j else b.getD i 0)) := by
 have hl := hA.1
 have hr := hA.row hi
 refine lin_Mat_swept_1_1.of rfl (W_b ?_)
 unfold lin_Mat_swept_1_1.k lin_Mat_swept_1_1.res Ot kp Oy Om Ol OL Oi
 by_cases hj : j < n
 ·rw [if_pos hj]
  refine sgo ?_
  rfl
 ·rw [if_neg hj]
  exact sgo trivial
def aug (A : List (List Int)) (b : List Int) (n i j : Nat) : Int := if j < n then at2 A i j else b.getD i 0
theorem swept1_G (A : List (List Int)) (b : List Int) (n i : Nat) (H : Hp) (n0 : Nat) (hn : n ≤ 1000) (hA : Sq A n) (hb : b.length = n) (hi : i < n) :
  ∃ H' n' id, NewL H n0 H' n' id (rowF (n + 1) (aug A b n i)) ∧ RetG pg zb4 [.int .i64 i, .pp (.int .i64 n), .pp (.sl (A.map ivl)), .pp (ivl b)] H n0 (.own id (n + 1)) H' n' := by
 suffices h : ∃ r H' n', (∃ id, r = .own id (n + 1) ∧ NewL H n0 H' n' id (rowF (n + 1) (aug A b n i))) ∧ RetG pg zb4 [.int .i64 i, .pp (.int .i64 n), .pp (.sl (A.map ivl)), .pp (ivl b)] H n0 r H' n' by
  obtain ⟨_, H', n', ⟨id, rfl, h1⟩, h⟩ := h
  exact ⟨H', n', id, h1, h⟩
 refine lin_Mat_swept_1.ofG rfl (W_b ?_)
 unfold lin_Mat_swept_1.k lin_Mat_swept_1.res Ot kp Om Ol ci
 refine sgo ?_
 obtain ⟨H1, n1, id, ⟨c1, c2, c3, c4⟩, hc⟩ := list_G (n + 1) zdi [.pp (.int .i64 n), .pp (.sl (A.map ivl)), .pp (.int .i64 i), .pp (ivl b)] (aug A b n i) H (n0 + 7) (by omega) (by simp) fun j hj => swept11_ret A b n i j (by omega) hA hb hi
 refine zd3 hc ?_
 refine sgo ?_
 exact ⟨_, rfl, zdo, id, rfl, by omega, zdo, c3, fun c hc => c4 c (by omega)⟩
structure LayM (G : Hp) (lo nx n w bm : Nat) (r : Nat → Nat) (M : Nat → Nat → Int) : Prop where
 hm : G bm = some ⟨(List.range n).map fun i => .own (r i) w, 1⟩
 hr : ∀ i, i < n → G (r i) = some ⟨(rowF w (M i)).map IV, 2⟩
 inj : ∀ i j, i < n → j < n → r i = r j → i = j
 ne : ∀ i, i < n → r i ≠ bm
 lt : ∀ i, i < n → lo ≤ r i ∧ r i < nx
 lm : lo ≤ bm ∧ bm < nx
theorem els_congr {n i : Nat} {f g : Nat → V} (h : ∀ k, k < i → f k = g k) : els n i f = els n i g := by
 refine List.map_congr_left fun k hk => ?_
 split
 ·rename_i h1; exact h k h1
 ·rfl
theorem storeO_elsR {b n i w : Nat} {r : Nat → Nat} {id : Nat} (hi : i < n) : zf8 b (some ⟨els n i (fun k => .own (r k) w), 1⟩) n i 0 1 (.own id w) = some (b, ⟨els n (i + 1) (fun k => .own (if k = i then id else r k) w), 1⟩) := by
 rw [els_congr (g := fun k => .own (if k = i then id else r k) w) (fun k hk => by rw [if_neg (by omega)])]
 exact storeO_els (f := fun k => .own (if k = i then id else r k) w) hi (by simp) rfl rfl rfl
theorem list2_G (A : List (List Int)) (b : List Int) (n : Nat) (H : Hp) (n0 : Nat) (hn : n ≤ 1000) (hA : Sq A n) (hb : b.length = n) :
  ∃ H' n' bm r, (n0 ≤ n' ∧ LayM H' n0 n' n (n + 1) bm r (aug A b n)) ∧ RetG pg zbm [.int .i64 n, .fn zb4 [.pp (.int .i64 n), .pp (.sl (A.map ivl)), .pp (ivl b)]] H n0 (.own bm n) H' n' := by
 suffices h : ∃ v H' n', (∃ bm r, v = .own bm n ∧ n0 ≤ n' ∧ LayM H' n0 n' n (n + 1) bm r (aug A b n)) ∧ RetG pg zbm [.int .i64 n, .fn zb4 [.pp (.int .i64 n), .pp (.sl (A.map ivl)), .pp (ivl b)]] H n0 v H' n' by
  obtain ⟨_, H', n', ⟨bm, r, rfl, h1⟩, h⟩ := h
  exact ⟨H', n', bm, r, h1, h⟩
 refine lin_list_Llong_Int.ofG rfl (W_b ?_)
 unfold lin_list_Llong_Int.k lin_list_Llong_Int.res Ot kp Oy Om Oi Oc On ci
 refine sgo ?_
 refine za1 (T := Nat × (Nat → Nat) × Hp × Nat) (fun t => ⟨E [(1, .fn zb4 [.pp (.int .i64 n), .pp (.sl (A.map ivl)), .pp (ivl b)]), (5, .own (n0 + 2) n), (10, .int .i64 n), (11, .int .i64 t.1)], t.2.2.1, t.2.2.2, t.2.2.2⟩)
  (fun t => t.1 ≤ n ∧ n0 + 2 < t.2.2.2 ∧ t.2.2.1 (n0 + 2) = some ⟨els n t.1 (fun i => .own (t.2.1 i) (n + 1)), 1⟩ ∧ (∀ i, i < t.1 → n0 + 2 < t.2.1 i ∧ t.2.1 i < t.2.2.2 ∧ t.2.2.1 (t.2.1 i) = some ⟨(rowF (n + 1) (aug A b n i)).map IV, 2⟩) ∧ ∀ i j, i < t.1 → j < t.1 → t.2.1 i = t.2.1 j → i = j) (fun t => n - t.1)
  (0, fun _ => 0, Hp.upd H (n0 + 2) (some ⟨List.replicate n .nil, 1⟩), _) rfl ⟨zdo, zdo, by dsimp only; rw [els_zero, Hp.upd_same], fun i hi => by dsimp only at hi; omega, fun i j hi => by dsimp only at hi; omega⟩ ?_
 rintro ⟨i, r, G, nx⟩ ⟨i1, i2, i3, i4, i5⟩
 dsimp only at i1 i2 i3 i4 i5
 by_cases hi : i < n
 ·refine sgo ?_
  obtain ⟨G1, n1, id, ⟨c1, c2, c3, c4⟩, hc⟩ := swept1_G A b n i G (nx + 10) hn hA hb hi
  refine callV_G hc ?_
  have hg : G1 (n0 + 2) = some ⟨els n i (fun i => .own (r i) (n + 1)), 1⟩ := by rw [c4 _ (by omega)]; exact i3
  simp -dsimp -implicitDefEqProofs (disch := try exact zdE) only [go_sem, hg, storeO_elsR hi]
  generalize hG2 : Hp.upd G1 (n0 + 2) _ = G2
  have g2 : ∀ c, c ≠ n0 + 2 → G2 c = G1 c := fun c hc => by rw [← hG2, Hp.upd_ne _ _ hc]
  refine ⟨(i + 1, fun k => if k = i then id else r k, G2, _), rfl, ⟨zdo, zdo, by dsimp only; rw [← hG2, Hp.upd_same], fun k hk => ?_, fun k l hk hl e => ?_⟩, zdo⟩
  ·dsimp only at hk ⊢
   by_cases h : k = i
   ·subst h
    rw [if_pos rfl, g2 _ (by omega)]
    exact ⟨by omega, by omega, c3⟩
   ·obtain ⟨a1, a2, a3⟩ := i4 k (by omega)
    rw [if_neg h, g2 _ (by omega), c4 _ (by omega)]
    exact ⟨by omega, by omega, a3⟩
  ·dsimp only at hk hl e
   by_cases h : k = i <;> by_cases h' : l = i
   ·omega
   ·rw [if_pos h, if_neg h'] at e
    have := (i4 l (by omega)).2.1
    omega
   ·rw [if_neg h, if_pos h'] at e
    have := (i4 k (by omega)).2.1
    omega
   ·rw [if_neg h, if_neg h'] at e
    exact i5 k l (by omega) (by omega) e
 ·obtain rfl : i = n := by omega
  refine sgo ?_
  exact ⟨_, rfl, zdo, n0 + 2, r, rfl, zdo, ⟨by dsimp only; rw [i3, els_all], fun k hk => (i4 k hk).2.2, i5, fun k hk => by have := (i4 k hk).1; omega, fun k hk => by have := i4 k hk; dsimp only; omega, zdo⟩⟩
end Go.Gim
/- A matrix in own rows: read, written, its rows changed; the sweep as a plain function. -/
set_option maxRecDepth 100000
namespace Go.Gim
open Go.Proofs
theorem LayM.mono {G G' : Hp} {lo nx nx' n w bm : Nat} {r : Nat → Nat} {M : Nat → Nat → Int} (h : LayM G lo nx n w bm r M) (hG : ∀ c, lo ≤ c → c < nx → G' c = G c) (hnx : nx ≤ nx') : LayM G' lo nx' n w bm r M :=
 ⟨by rw [hG _ h.lm.1 h.lm.2]; exact h.hm, fun i hi => by rw [hG _ (h.lt i hi).1 (h.lt i hi).2]; exact h.hr i hi, h.inj, h.ne, fun i hi => ⟨(h.lt i hi).1, Nat.lt_of_lt_of_le (h.lt i hi).2 hnx⟩, ⟨h.lm.1, Nat.lt_of_lt_of_le h.lm.2 hnx⟩⟩
theorem LayM.congr {G : Hp} {lo nx n w bm : Nat} {r : Nat → Nat} {M M' : Nat → Nat → Int} (h : LayM G lo nx n w bm r M) (hM : ∀ i j, i < n → j < w → M i j = M' i j) : LayM G lo nx n w bm r M' :=
 ⟨h.hm, fun i hi => by rw [h.hr i hi, zh9 fun k hk => hM i k hi hk], h.inj, h.ne, h.lt, h.lm⟩
theorem LayM.set {G G' : Hp} {lo nx n w bm i j : Nat} {r : Nat → Nat} {M : Nat → Nat → Int} {v : Int} (h : LayM G lo nx n w bm r M) (hi : i < n) (hG : G.upd (r i) (some ⟨((rowF w (M i)).set j v).map IV, 2⟩) = G') : LayM G' lo nx n w bm r (fun a b => if a = i ∧ b = j then v else M a b) := by
 subst hG
 refine ⟨by rw [Hp.upd_ne _ _ (fun e => h.ne i hi e.symm)]; exact h.hm, fun k hk => ?_, h.inj, h.ne, h.lt, h.lm⟩
 by_cases e : k = i
 ·subst e
  rw [Hp.upd_same, rowF_set]
  congr 3
  exact zh9 fun b hb => by simp
 ·rw [Hp.upd_ne _ _ (fun e' => e (h.inj _ _ hk hi e')), h.hr k hk]
  congr 3
  exact zh9 fun b hb => by simp [e]
def swpN {α : Type} (f : Nat → α) (p k : Nat) : Nat → α := fun i => if i = k then f p else if i = p then f k else f i
theorem LayM.swap {G G' : Hp} {lo nx n w bm p k : Nat} {r : Nat → Nat} {M : Nat → Nat → Int} (h : LayM G lo nx n w bm r M) (hp : p < n) (hk : k < n) (hG : G.upd bm (some ⟨(List.range n).map fun i => .own (swpN r p k i) w, 1⟩) = G') : LayM G' lo nx n w bm (swpN r p k) (swpN M p k) := by
 subst hG
 have hb : ∀ i, i < n → ∃ a, a < n ∧ swpN r p k i = r a ∧ swpN M p k i = M a ∧ (i = k ∧ a = p ∨ i = p ∧ a = k ∧ i ≠ k ∨ i ≠ k ∧ i ≠ p ∧ a = i) := fun i hi => by
  unfold swpN
  by_cases h1 : i = k
  ·exact ⟨p, hp, by simp [h1], by simp [h1], .inl ⟨h1, rfl⟩⟩
  ·by_cases h2 : i = p
   ·exact ⟨k, hk, by rw [if_neg h1, if_pos h2], by rw [if_neg h1, if_pos h2], .inr (.inl ⟨h2, rfl, h1⟩)⟩
   ·exact ⟨i, hi, by rw [if_neg h1, if_neg h2], by rw [if_neg h1, if_neg h2], .inr (.inr ⟨h1, h2, rfl⟩)⟩
 refine ⟨Hp.upd_same _ _ _, fun i hi => ?_, fun i j hi hj e => ?_, fun i hi => ?_, fun i hi => ?_, h.lm⟩
 ·obtain ⟨a, ha, e1, e2, _⟩ := hb i hi
  rw [e1, e2, Hp.upd_ne _ _ (h.ne a ha)]; exact h.hr a ha
 ·obtain ⟨a, ha, e1, _, c1⟩ := hb i hi
  obtain ⟨b, hb', e3, _, c2⟩ := hb j hj
  rw [e1, e3] at e
  have := h.inj a b ha hb' e
  omega
 ·obtain ⟨a, ha, e1, _⟩ := hb i hi
  rw [e1]; exact h.ne a ha
 ·obtain ⟨a, ha, e1, _⟩ := hb i hi
  rw [e1]; exact h.lt a ha
theorem loadO_rowf {nx b n i w : Nat} {r : Nat → Nat} (hi : i < n) : loadO false nx b (some ⟨(List.range n).map fun i => V.own (r i) w, 1⟩) n i 0 1 false = some (.own (r i) w) :=
 loadO_gen (fun h => by cases h) (by simp) (by simp [hi]) rfl rfl
theorem zgu {nx b n i w : Nat} {r : Nat → Nat} (hi : i < n) (hd : b < nx) : loadO true nx b (some ⟨(List.range n).map fun i => V.own (r i) w, 1⟩) n i 0 1 false = some (.own (r i) w) :=
 loadO_gen (fun _ => hd) (by simp) (by simp [hi]) rfl rfl
theorem storeO_row {b n i w id : Nat} {r : Nat → Nat} (hi : i < n) : zf8 b (some ⟨(List.range n).map fun i => V.own (r i) w, 1⟩) n i 0 1 (.own id w) = some (b, ⟨(List.range n).map fun k => V.own (if k = i then id else r k) w, 1⟩) := by
 rw [zh5 (size := 1) (es := 1) (x := .own id w) (e := .own (r i) w) (by simp) (by simp [hi]) rfl rfl rfl rfl, zia]
 congr 4
 funext k
 split <;> rfl
theorem loadO_cf {nx b i w : Nat} {f : Nat → Int} (hi : i < w) : loadO false nx b (some ⟨(rowF w f).map IV, 2⟩) w i 0 2 true = some (IV (f i)) := by rw [loadO_ivf (zgl _ _) hi, rowF_get hi]
theorem loadO_ct {nx b i w : Nat} {f : Nat → Int} (hi : i < w) (hd : b < nx) : loadO true nx b (some ⟨(rowF w f).map IV, 2⟩) w i 0 2 true = some (IV (f i)) := by rw [loadO_ivt (zgl _ _) hi hd, rowF_get hi]
theorem storeO_c {b i w : Nat} {f : Nat → Int} {y : Int} (hi : i < w) : zf8 b (some ⟨(rowF w f).map IV, 2⟩) w i 0 2 (IV y) = some (b, ⟨((rowF w f).set i y).map IV, 2⟩) := storeO_iv (zgl _ _) hi
theorem idxO_cf {nx b w : Nat} {f : Nat → Int} {j : Int} {Kn : V → Prop} {u : Dep Kn} (h0 : 0 ≤ j) (h1 : j < w) : idxO false nx (some ⟨(rowF w f).map IV, 2⟩) 2 b w j Kn u = Kn (.ptr b w j.toNat 0) := zec (by simp [zgl]) h0 h1
theorem idxO_ct {nx b w : Nat} {f : Nat → Int} {j : Int} {Kn : V → Prop} {u : Dep Kn} (h0 : 0 ≤ j) (h1 : j < w) (hb : b < nx) : idxO true nx (some ⟨(rowF w f).map IV, 2⟩) 2 b w j Kn u = Kn (.ptr b w j.toNat 0) := zeb (by simp [zgl]) h0 h1 hb
theorem lenO_c {nx b w : Nat} {f : Nat → Int} : lenO false nx b w (some ⟨(rowF w f).map IV, 2⟩) = some (.int .i64 w) := lenO_f (by simp [zgl]) _ _ _
theorem frz_own_ne {H : Hp} {k b n : Nat} {xs ys : List V} {es : Nat} (h : H b = some ⟨xs, es⟩) (hl : xs.length = n) (hf : allOf (frz H k) xs = some ys) : frz H (k + 1) (.own b n) = some (.sl ys) := by
 simp only [frz, h, hl, if_true, hf, Option.map_some]
theorem LayM.frz {G : Hp} {lo nx n w bm : Nat} {r : Nat → Nat} {M : Nat → Nat → Int} (h : LayM G lo nx n w bm r M) (k : Nat) : Gim.frz G (k + 4) (.own bm n) = some (.sl ((List.range n).map fun i => ivl (rowF w (M i)))) := by
 refine frz_own_ne h.hm (by simp) (allOf_map fun i hi => ?_)
 exact frz_own_ne (h.hr i (by simpa using hi)) (by simp [zgl]) (zfk fun x => zas _ _ _)
def findGo (M : Nat → Nat → Int) (k : Nat) : Nat → Nat → Nat
 | 0, p => p
 | f + 1, p => if M p k = 0 then findGo M k f (p + 1) else p
def findP (n : Nat) (M : Nat → Nat → Int) (k : Nat) : Nat := findGo M k (n - k) k
theorem findGo_spec (M : Nat → Nat → Int) (k : Nat) : ∀ f p, p ≤ findGo M k f p ∧ findGo M k f p ≤ p + f ∧ (∀ q, p ≤ q → q < findGo M k f p → M q k = 0) ∧ (findGo M k f p < p + f → M (findGo M k f p) k ≠ 0)
 | 0, p => by simp [findGo]; omega
 | f + 1, p => by
  unfold findGo
  split
  ·rename_i h
   obtain ⟨h1, h2, h3, h4⟩ := findGo_spec M k f (p + 1)
   refine ⟨by omega, by omega, fun q hq1 hq2 => ?_, fun hl => h4 (by omega)⟩
   by_cases e : q = p
   ·subst e; exact h
   ·exact h3 q (by omega) hq2
  ·rename_i h
   exact ⟨Nat.le_refl _, by omega, fun q h1 h2 => by omega, fun _ => h⟩
theorem findP_spec {n k : Nat} (M : Nat → Nat → Int) (hk : k ≤ n) : k ≤ findP n M k ∧ findP n M k ≤ n ∧ (∀ q, k ≤ q → q < findP n M k → M q k = 0) ∧ (findP n M k < n → M (findP n M k) k ≠ 0) := by
 obtain ⟨h1, h2, h3, h4⟩ := findGo_spec M k (n - k) k
 exact ⟨h1, by unfold findP; omega, h3, fun h => h4 (by unfold findP at h; omega)⟩
def stepV (M : Nat → Nat → Int) (k : Nat) (last : Int) (i j : Nat) : Int := (M k k * M i j - M i k * M k j).fdiv last
def stepM (M : Nat → Nat → Int) (k : Nat) (last : Int) (i j : Nat) : Int := if i = k then M i j else stepV M k last i j
def ze2 (n : Nat) : Nat → Nat → (Nat → Nat → Int) → Int → Bool → Option ((Nat → Nat → Int) × Bool)
 | 0, _, M, _, odd => some (M, odd)
 | f + 1, k, M, last, odd =>
  if findP n M k = n then none
  else ze2 n f (k + 1) (stepM (swpN M (findP n M k) k) k last) (M (findP n M k) k) (if findP n M k = k then odd else !odd)
def sweep (n : Nat) (M : Nat → Nat → Int) : Option ((Nat → Nat → Int) × Bool) := ze2 n n 0 M 1 false
def sweptV (n : Nat) : Option ((Nat → Nat → Int) × Bool) → V
 | none => .tup [.sl [], .bool false, .bool false]
 | some (M, odd) => .tup [.sl ((List.range n).map fun i => ivl (rowF (n + 1) (M i))), .bool odd, .bool true]
theorem lim_fdiv (x y : Int) : lim (x.fdiv y) ≤ lim x := by
 refine lim_mono ?_
 match x, y with
 | 0, _ => simp
 | .ofNat (m + 1), .ofNat n => exact Nat.div_le_self _ _
 | .ofNat (m + 1), .negSucc n =>
  show m / (n + 1) + 1 ≤ m + 1
  have := Nat.div_le_self m (n + 1)
  omega
 | .negSucc m, 0 => simp
 | .negSucc m, .ofNat (n + 1) =>
  show m / (n + 1) + 1 ≤ m + 1
  have := Nat.div_le_self m (n + 1)
  omega
 | .negSucc m, .negSucc n => exact Nat.div_le_self _ _
end Go.Gim
/- The elimination without fractions: what it hands back. -/
set_option maxRecDepth 100000
set_option maxHeartbeats 4000000
namespace Go.Gim
open Go.Proofs
theorem callB_fzE {P : Program} {env : Nat → V} {hi h : Nat} {H H' : Hp} {f : Nat} {args args2 : List V} {r : V} {K : (Nat → V) → V → Hp → Nat → Prop} {u : Dep K} (g : Nat → Option (List V)) (hg : Fz H g) (ha : args.map (V.sub g) = args2) (hr : RetG P f args2 (H.sub g) hi r H' h) (hk : K (subE g env) r H' h) : callB P false env H hi f args K u :=
 callB_fz g hg ha hr hk
theorem W_hideS {P : Program} {a c x y l d Z inc : K} {n : Nat} {Q : AX → St → Prop} {u : Dep Q} {S : St} (h : ∀ R, R = Z → Wb P (.seq a (.seq c (.seq (.block n (.seq x (.seq y (.seq l (.seq d R))))) inc))) Q u S) : Wb P (.seq a (.seq c (.seq (.block n (.seq x (.seq y (.seq l (.seq d Z))))) inc))) Q u S := h _ rfl
theorem swpN_self {α : Type} (f : Nat → α) (k : Nat) : swpN f k k = f := by funext i; unfold swpN; by_cases h : i = k <;> simp [h]
theorem W_cutE {P : Program} {a b : K} {Q : AX → St → Prop} {u : Dep Q} {S : St} (I : (Nat → V) → Hp → Nat → Prop) (h1 : Wb P a (thn (fun S' => I S'.env S'.H S'.nx ∧ S'.hi = S'.nx) Q dp u) dp S) (h2 : ∀ env H nx, I env H nx → Wb P b Q u ⟨env, H, nx, nx⟩) : Wb P (.seq a b) Q u S :=
 W_cutQ _ h1 fun S' h => by
  obtain ⟨env, H, nx, hi⟩ := S'
  obtain ⟨h, e⟩ := h
  dsimp only at h e
  subst e
  exact h2 env H _ h
def zfp (M : Nat → Nat → Int) (k : Nat) (last : Int) (i a b : Nat) : Int := if a < i ∧ a ≠ k then stepV M k last a b else M a b
def zhs (M : Nat → Nat → Int) (k : Nat) (last : Int) (i j a b : Nat) : Int := if a = i ∧ b < j then stepV M k last a b else zfp M k last i a b
theorem swept_ret (A : List (List Int)) (b : List Int) (n L : Nat) (hn : n ≤ 12) (hL : L ≤ 1000000) (hL1 : 1 ≤ L) (hA : Sq A n) (hb : b.length = n) (hlim : ∀ i j, lim (aug A b n i j) ≤ L) :
  Ret pg zfa [.sl (A.map ivl), ivl b] (sweptV n (sweep n (aug A b n))) := by
 have hl := hA.1
 refine lin_Mat_swept.of rfl (W_b ?_)
 unfold lin_Mat_swept.k lin_Mat_swept.res Ot kp kd Oh Oy Om Ol OL Oi Oc On ci
 refine W_hide4 fun R hR => ?_
 simp -dsimp -implicitDefEqProofs (disch := try exact zdE) only [go_sem, hl]
 obtain ⟨G0, n1, bm, r0, ⟨c0, c1⟩, hc⟩ := list2_G A b n ((Hp.upd (fun _ => none) 7 (some ⟨[.int .i64 n], 1⟩)).sub (fz1 7 [.int .i64 n])) 13 (by omega) hA hb
 refine callB_fzE (fz1 7 [.int .i64 n]) (fz1_ok (es := 1) rfl (by simp)) (by simp [V.sub, fz1, sub_fn]) hc ?_
 refine sgo ?_
 refine zab (zbf 1 (by omega)) (by simp) ?_
 simp -dsimp -implicitDefEqProofs (disch := try exact zdE) only [go_sem, ← zdl]
 have l0 : LayM (G0.upd (n1 + 1) (some ⟨[IV 1], 2⟩)) 13 n1 n (n + 1) bm r0 (aug A b n) := c1.mono (fun c h1 h2 => Hp.upd_ne _ _ (by omega)) (Nat.le_refl _)
 generalize hG : Hp.upd G0 _ _ = G at l0 ⊢
 have g1 : G (n1 + 1) = some ⟨[IV 1], 2⟩ := zcs hG
 clear hG hc c1 G0
 subst hR
 refine sgo ?_
 have hlast0 : lim 1 + 1 ≤ 2 ^ 0 * (L + 1) := by have : lim 1 ≤ 1 := lim_of (by decide); omega
 refine za1 (T := Nat × (Nat → Nat → Int) × (Nat → Nat) × Bool × Int × Hp × Nat) (fun t => ⟨E [(4, .own bm n), (5, .bool t.2.2.2.1), (7, .pp (.int .i64 n)), (8, .ptr (n1 + 1) 1 0 0), (21, .int .i64 n), (22, .int .i64 (t.1 : Int))], t.2.2.2.2.2.1, t.2.2.2.2.2.2, t.2.2.2.2.2.2⟩)
  (fun t => t.1 ≤ n ∧ n1 + 3 ≤ t.2.2.2.2.2.2 ∧ LayM t.2.2.2.2.2.1 13 n1 n (n + 1) bm t.2.2.1 t.2.1 ∧ t.2.2.2.2.2.1 (n1 + 1) = some ⟨[IV t.2.2.2.2.1], 2⟩ ∧ t.2.2.2.2.1 ≠ 0 ∧ lim t.2.2.2.2.1 + 1 ≤ 2 ^ t.1 * (L + 1) ∧ (∀ i j, i < n → j < n + 1 → lim (t.2.1 i j) + 1 ≤ 2 ^ t.1 * (L + 1)) ∧ ze2 n (n - t.1) t.1 t.2.1 t.2.2.2.2.1 t.2.2.2.1 = sweep n (aug A b n)) (fun t => n - t.1)
  (0, aug A b n, r0, false, 1, G, _) rfl ⟨zdo, zdo, l0, g1, (by dsimp only; decide), hlast0, fun i j _ _ => by have := hlim i j; dsimp only; omega, rfl⟩ ?_
 clear g1 l0 hlast0 G r0
 rintro ⟨k, M, r, odd, last, G, nx⟩ ⟨i1, i2, i3, i4, i5, i6, i7, i8⟩
 dsimp only at i1 i2 i3 i4 i5 i6 i7 i8
 refine W_hideS fun R hR => ?_
 by_cases hk : k < n
 ·have hpow : 2 ^ k ≤ 2 ^ 12 := Nat.pow_le_pow_right (by decide) (by omega)
  have hD : 2 ^ k * (L + 1) ≤ 4096 * 1000001 := Nat.mul_le_mul hpow (by omega)
  have hD2 : 2 ^ (k + 1) * (L + 1) = 2 * (2 ^ k * (L + 1)) := by rw [Nat.pow_succ, Nat.mul_comm (2 ^ k) 2, Nat.mul_assoc]
  generalize hDD : 2 ^ k * (L + 1) = D at *
  refine sgo ?_
  obtain ⟨p1, p2, p3, p4⟩ := findP_spec M i1
  have hrow := i3.hr
  have hmm := i3.hm
  have hbm := i3.lm
  refine za1 (T := Nat × Nat) (fun t => ⟨E [(4, .own bm n), (5, .bool odd), (7, .pp (.int .i64 n)), (8, .ptr (n1 + 1) 1 0 0), (9, .int .i64 (k : Int)), (10, .int .i64 (t.1 : Int)), (21, .int .i64 n), (22, .int .i64 (k : Int))], G, t.2, t.2⟩)
   (fun t => k ≤ t.1 ∧ t.1 ≤ findP n M k ∧ n1 + 3 ≤ t.2) (fun t => n - t.1) (k, _) rfl ⟨Nat.le_refl _, p1, zdo⟩ ?_
  rintro ⟨p, nx'⟩ ⟨j1, j2, j3⟩
  dsimp only at j1 j2 j3
  by_cases hp : p < n
  ·have hrp := i3.lt p hp
   have hMl := i7 p k hp (by omega)
   simp -dsimp -implicitDefEqProofs (disch := try exact zdE) only [go_sem, hmm, loadO_rowf, loadO_cf, hrow, idxO_cf]
   refine zab (zhc _ (by omega)) (by simp) ?_
   by_cases hz : M p k = 0
   ·simp -dsimp -implicitDefEqProofs (disch := try exact zdE) only [go_sem, hz, Int.sign_zero]
    have : p ≠ findP n M k := fun e => p4 (by omega) (by rw [← e]; exact hz)
    exact ⟨(p + 1, _), rfl, ⟨zdo, zdo, zdo⟩, zdo⟩
   ·have hs : (M p k).sign ≠ 0 := by rw [Ne, Int.sign_eq_zero_iff_zero]; exact hz
    have hP : findP n M k = p := Nat.le_antisymm (Nat.not_lt.1 fun h => hz (p3 p j1 h)) j2
    simp -dsimp -implicitDefEqProofs (disch := try exact zdE) only [go_sem, hs]
    subst hR
    refine W_cutE (fun env G' nx' => env 4 = .own bm n ∧ env 5 = .bool (if p = k then odd else !odd) ∧ env 7 = .pp (.int .i64 n) ∧ env 8 = .ptr (n1 + 1) 1 0 0 ∧ env 9 = .int .i64 (k : Int) ∧ env 21 = .int .i64 n ∧ env 22 = .int .i64 (k : Int) ∧
     n1 + 3 ≤ nx' ∧ LayM G' 13 n1 n (n + 1) bm (swpN r p k) (swpN M p k) ∧ G' (n1 + 1) = some ⟨[IV last], 2⟩) ?_ ?_
    ·by_cases hpk : p = k
     ·subst hpk
      refine sgo ?_
      exact ⟨by omega, by rw [swpN_self, swpN_self]; exact i3, i4⟩
     ·simp -dsimp -implicitDefEqProofs (disch := try exact zdE) only [go_sem, hmm, zgu, storeO_row]
      generalize hG : Hp.upd G bm _ = G'
      exact ⟨by rw [if_neg hpk], by omega, i3.swap hp hk hG, i4⟩
    ·have h7 : ∀ i j, i < n → j < n + 1 → lim (swpN M p k i j) + 1 ≤ D := fun i j hi hj => by
      unfold swpN
      by_cases h1 : i = k
      ·rw [if_pos h1]; exact i7 p j hp hj
      ·rw [if_neg h1]
       by_cases h2 : i = p
       ·rw [if_pos h2]; exact i7 k j hk hj
       ·rw [if_neg h2]; exact i7 i j hi hj
     have hpv : swpN M p k k k ≠ 0 := by unfold swpN; rw [if_pos rfl]; exact hz
     have h8 : ze2 n (n - (k + 1)) (k + 1) (stepM (swpN M p k) k last) (swpN M p k k k) (if p = k then odd else !odd) = sweep n (aug A b n) := by
      obtain ⟨f, hf⟩ : ∃ f, n - k = f + 1 := ⟨n - (k + 1), by omega⟩
      rw [hf, ze2, hP, if_neg (by omega)] at i8
      rw [show n - (k + 1) = f by omega, ← i8]
      unfold swpN; rw [if_pos rfl]
     refine Exists.elim (⟨_, rfl⟩ : ∃ M1, M1 = swpN M p k) fun M1 hM1 => ?_
     refine Exists.elim (⟨_, rfl⟩ : ∃ r1, r1 = swpN r p k) fun r1 hr1 => ?_
     refine Exists.elim (⟨_, rfl⟩ : ∃ odd1, odd1 = if p = k then odd else !odd) fun odd1 hodd1 => ?_
     rw [← hM1] at h7 hpv h8
     rw [← hodd1] at h8
     clear i8 i7 i3 i4 hmm hrow hMl hz hs p1 p2 p3 p4
     intro env G1 nx1 hI
     rw [← hM1, ← hr1, ← hodd1] at hI
     have e4 := hI.1
     have e5 := hI.2.1
     have e7 := hI.2.2.1
     have e8 := hI.2.2.2.1
     have e9 := hI.2.2.2.2.1
     have e21 := hI.2.2.2.2.2.1
     have e22 := hI.2.2.2.2.2.2.1
     have b1 := hI.2.2.2.2.2.2.2.1
     have b2 := hI.2.2.2.2.2.2.2.2.1
     have b3 := hI.2.2.2.2.2.2.2.2.2
     clear hI hM1 hr1 hodd1
     have hrow := b2.hr
     have hmm := b2.hm
     have hrk := b2.lt k hk
     simp -dsimp -implicitDefEqProofs (disch := try exact zdE) only [go_sem, e4, e5, e7, e8, e9, e21, e22, hmm, hrow, loadO_rowf, loadO_cf, idxO_cf]
     have L0 : LayM (G1.upd (nx1 + 7) (some ⟨[IV (M1 k k)], 2⟩)) 13 n1 n (n + 1) bm r1 (zfp M1 k last 0) := (b2.mono (fun c h1 h2 => Hp.upd_ne _ _ (by omega)) (Nat.le_refl _)).congr fun a b _ _ => by unfold zfp; rw [if_neg (by omega)]
     have L1 : G1.upd (nx1 + 7) (some ⟨[IV (M1 k k)], 2⟩) (n1 + 1) = some ⟨[IV last], 2⟩ := by rw [Hp.upd_ne _ _ (by omega)]; exact b3
     have L2 : G1.upd (nx1 + 7) (some ⟨[IV (M1 k k)], 2⟩) (nx1 + 7) = some ⟨[IV (M1 k k)], 2⟩ := Hp.upd_same _ _ _
     have hbp : n1 + 3 ≤ nx1 + 7 := by omega
     have hbp2 : nx1 + 7 < nx1 + 11 := by omega
     generalize hG3 : Hp.upd G1 _ _ = G3 at L0 L1 L2 ⊢
     generalize nx1 + 7 = bp at hbp hbp2 L0 L1 L2 ⊢
     clear hG3 b1 b2 b3 hrow hmm
     refine za1 (T := Nat × Hp × Nat) (fun t => ⟨E [(4, .own bm n), (5, .bool odd1), (7, .pp (.int .i64 n)), (8, .ptr (n1 + 1) 1 0 0), (9, .int .i64 (k : Int)), (11, .ptr bp 1 0 0), (21, .int .i64 n), (22, .int .i64 (k : Int)), (71, .int .i64 n), (72, .int .i64 (t.1 : Int))], t.2.1, t.2.2, t.2.2⟩)
      (fun t => t.1 ≤ n ∧ bp < t.2.2 ∧ LayM t.2.1 13 n1 n (n + 1) bm r1 (zfp M1 k last t.1) ∧ t.2.1 (n1 + 1) = some ⟨[IV last], 2⟩ ∧ t.2.1 bp = some ⟨[IV (M1 k k)], 2⟩) (fun t => n - t.1) (0, G3, _) rfl ⟨zdo, zdo, L0, L1, L2⟩ ?_
     clear L0 L1 L2 G3
     rintro ⟨i, G3, nx3⟩ ⟨m1, m2, m3, m4, m5⟩
     dsimp only at m1 m2 m3 m4 m5
     have hrow := m3.hr
     have hmm := m3.hm
     by_cases hi : i < n
     ·by_cases hik : i = k
      ·subst hik
       have m3' : LayM G3 13 n1 n (n + 1) bm r1 (zfp M1 i last (i + 1)) := m3.congr fun a b _ _ => by
        unfold zfp
        by_cases h : a < i
        ·rw [if_pos ⟨h, by omega⟩, if_pos ⟨by omega, by omega⟩]
        ·rw [if_neg (by omega), if_neg (by omega)]
       refine sgo ?_
       exact ⟨(i + 1, G3, _), rfl, ⟨zdo, zdo, m3', m4, m5⟩, zdo⟩
      ·have hri := m3.lt i hi
       have eik : zfp M1 k last i i k = M1 i k := by unfold zfp; rw [if_neg (by omega)]
       have hlf := h7 i k hi (by omega)
       have hc1 : ((n : Int) + 1) = ((n + 1 : Nat) : Int) := by omega
       simp -dsimp -implicitDefEqProofs (disch := try exact zdE) only [go_sem, hmm, hrow, loadO_rowf, loadO_cf, idxO_cf, eik, lenO_c]
       have L0 : LayM (G3.upd (nx3 + 13) (some ⟨[IV (M1 i k)], 2⟩)) 13 n1 n (n + 1) bm r1 (zhs M1 k last i 0) := (m3.mono (fun c h1 h2 => Hp.upd_ne _ _ (by omega)) (Nat.le_refl _)).congr fun a b _ _ => by unfold zhs; rw [if_neg (by omega)]
       have L1 : G3.upd (nx3 + 13) (some ⟨[IV (M1 i k)], 2⟩) (n1 + 1) = some ⟨[IV last], 2⟩ := by rw [Hp.upd_ne _ _ (by omega)]; exact m4
       have L2 : G3.upd (nx3 + 13) (some ⟨[IV (M1 i k)], 2⟩) bp = some ⟨[IV (M1 k k)], 2⟩ := by rw [Hp.upd_ne _ _ (by omega)]; exact m5
       have L3 : G3.upd (nx3 + 13) (some ⟨[IV (M1 i k)], 2⟩) (nx3 + 13) = some ⟨[IV (M1 i k)], 2⟩ := Hp.upd_same _ _ _
       have hbf : bp < nx3 + 13 := by omega
       have hbf2 : nx3 + 13 < nx3 + 21 := by omega
       generalize hG4 : Hp.upd G3 _ _ = G4 at L0 L1 L2 L3 ⊢
       generalize nx3 + 13 = bf at hbf hbf2 L0 L1 L2 L3 ⊢
       clear hG4 m3 m4 m5 hrow hmm
       refine za1 (T := Nat × Hp × Nat) (fun t => ⟨E [(4, .own bm n), (5, .bool odd1), (7, .pp (.int .i64 n)), (8, .ptr (n1 + 1) 1 0 0), (9, .int .i64 (k : Int)), (11, .ptr bp 1 0 0), (12, .int .i64 (i : Int)), (13, .ptr bf 1 0 0), (21, .int .i64 n), (22, .int .i64 (k : Int)), (71, .int .i64 n), (72, .int .i64 (i : Int)), (89, .int .i64 ((n + 1 : Nat) : Int)), (90, .int .i64 (t.1 : Int))], t.2.1, t.2.2, t.2.2⟩)
        (fun t => t.1 ≤ n + 1 ∧ bf < t.2.2 ∧ LayM t.2.1 13 n1 n (n + 1) bm r1 (zhs M1 k last i t.1) ∧ t.2.1 (n1 + 1) = some ⟨[IV last], 2⟩ ∧ t.2.1 bp = some ⟨[IV (M1 k k)], 2⟩ ∧ t.2.1 bf = some ⟨[IV (M1 i k)], 2⟩) (fun t => n + 1 - t.1) (0, G4, _) rfl ⟨zdo, zdo, L0, L1, L2, L3⟩ ?_
       clear L0 L1 L2 L3 hbf2 G4
       rintro ⟨j, G4, nx4⟩ ⟨q1, q2, q3, q4, q5, q6⟩
       dsimp only at q1 q2 q3 q4 q5 q6
       have hrow := q3.hr
       have hmm := q3.hm
       by_cases hj : j < n + 1
       ·have e1 : zhs M1 k last i j i j = M1 i j := by unfold zhs zfp; rw [if_neg (by omega), if_neg (by omega)]
        have e2 : zhs M1 k last i j k j = M1 k j := by unfold zhs zfp; rw [if_neg (by omega), if_neg (by omega)]
        have v1 := h7 k k hk (by omega)
        have v2 := h7 i j hi hj
        have v3 := h7 k j hk hj
        have v4 := za5 (M1 k k) (M1 i j)
        have v5 := za5 (M1 i k) (M1 k j)
        have v6 := lim_sub (M1 k k * M1 i j) (M1 i k * M1 k j)
        simp -dsimp -implicitDefEqProofs (disch := try exact zdE) only [go_sem, hmm, hrow, zgu, loadO_ct, idxO_ct, e1, e2, q4, q5, q6]
        refine zaa (zbe _ _ (by omega) (by omega)) (by simp) ?_
        simp -dsimp -implicitDefEqProofs (disch := try exact zdE) only [go_sem, hmm, hrow, zgu, loadO_ct, idxO_ct, e1, e2, q4, q5, q6]
        refine zaa (zbe _ _ (by omega) (by omega)) (by simp) ?_
        simp -dsimp -implicitDefEqProofs (disch := try exact zdE) only [go_sem, hmm, hrow, zgu, loadO_ct, idxO_ct, e1, e2, q4, q5, q6]
        refine zaa (sub_ret _ _ (by omega) (by omega)) (by simp) ?_
        simp -dsimp -implicitDefEqProofs (disch := try exact zdE) only [go_sem, hmm, hrow, zgu, loadO_ct, idxO_ct, e1, e2, q4, q5, q6]
        refine zaa (quo_ret _ _ i5 (by omega) (by omega)) (by simp) ?_
        simp -dsimp -implicitDefEqProofs (disch := try exact zdE) only [go_sem, hmm, hrow, zgu, loadO_ct, idxO_ct, e1, e2, q4, q5, q6, storeO_c]
        generalize hG5 : Hp.upd G4 (r1 i) _ = G5
        have hri' := hri.2
        have s0 : LayM G5 13 n1 n (n + 1) bm r1 (zhs M1 k last i (j + 1)) := (q3.set hi hG5).congr fun a b _ _ => by
         unfold zhs
         by_cases h1 : a = i
         ·subst h1
          by_cases h2 : b = j
          ·subst h2; rw [if_pos ⟨rfl, rfl⟩, if_pos ⟨rfl, by omega⟩]; rfl
          ·rw [if_neg (by omega)]
           by_cases h3 : b < j
           ·rw [if_pos ⟨rfl, h3⟩, if_pos ⟨rfl, by omega⟩]
           ·rw [if_neg (by omega), if_neg (by omega)]
         ·rw [if_neg (by omega), if_neg (by omega), if_neg (by omega)]
        have s1 : G5 (n1 + 1) = some ⟨[IV last], 2⟩ := by rw [← hG5, Hp.upd_ne _ _ (by omega)]; exact q4
        have s2 : G5 bp = some ⟨[IV (M1 k k)], 2⟩ := by rw [← hG5, Hp.upd_ne _ _ (by omega)]; exact q5
        have s3 : G5 bf = some ⟨[IV (M1 i k)], 2⟩ := by rw [← hG5, Hp.upd_ne _ _ (by omega)]; exact q6
        exact ⟨(j + 1, G5, _), rfl, ⟨zdo, zdo, s0, s1, s2, s3⟩, zdo⟩
       ·obtain rfl : j = n + 1 := by omega
        refine sgo ?_
        have s0 : LayM G4 13 n1 n (n + 1) bm r1 (zfp M1 k last (i + 1)) := q3.congr fun a b _ hb => by
         unfold zhs zfp
         by_cases h1 : a = i
         ·rw [if_pos ⟨h1, hb⟩, if_pos ⟨by omega, by omega⟩]
         ·rw [if_neg (by omega)]
          by_cases h2 : a < i ∧ a ≠ k
          ·rw [if_pos h2, if_pos ⟨by omega, h2.2⟩]
          ·rw [if_neg h2, if_neg (by omega)]
        exact ⟨(i + 1, G4, _), rfl, ⟨zdo, zdo, s0, q4, q5⟩, zdo⟩
     ·obtain rfl : i = n := by omega
      have hst : ∀ a b, a < i → b < i + 1 → lim (stepM M1 k last a b) + 1 ≤ 2 ^ (k + 1) * (L + 1) := fun a b ha hb => by
       have v1 := h7 k k hk (by omega)
       have v2 := h7 a b ha hb
       have v3 := h7 k b hk hb
       have v3' := h7 a k ha (by omega)
       have v4 := za5 (M1 k k) (M1 a b)
       have v5 := za5 (M1 a k) (M1 k b)
       have v6 := lim_sub (M1 k k * M1 a b) (M1 a k * M1 k b)
       have v7 := lim_fdiv (M1 k k * M1 a b - M1 a k * M1 k b) last
       unfold stepM stepV
       split <;> omega
      have hpl := h7 k k hk (by omega)
      simp -dsimp -implicitDefEqProofs (disch := try exact zdE) only [go_sem, m4, m5]
      generalize hG4 : Hp.upd G3 _ _ = G4
      have L0 : LayM G4 13 n1 i (i + 1) bm r1 (stepM M1 k last) := by
       rw [← hG4]
       refine (m3.mono (fun c h1 h2 => Hp.upd_ne _ _ (by omega)) (Nat.le_refl _)).congr fun a b ha _ => ?_
       unfold zfp stepM
       by_cases h : a = k
       ·rw [if_neg (by omega), if_pos h]
       ·rw [if_pos ⟨ha, h⟩, if_neg h]
      exact ⟨(k + 1, stepM M1 k last, r1, odd1, M1 k k, G4, _), rfl, ⟨zdo, zdo, L0, by dsimp only; rw [← hG4, Hp.upd_same], hpv, zdo, hst, h8⟩, zdo⟩
  ·obtain rfl : p = n := by omega
   have hP : findP p M k = p := by omega
   refine sgo ?_
   obtain ⟨f, hf⟩ : ∃ f, p - k = f + 1 := ⟨p - (k + 1), by omega⟩
   rw [hf, ze2, if_pos hP] at i8
   rw [← i8]; rfl
 ·obtain rfl : k = n := by omega
  rw [Nat.sub_self, ze2] at i8
  simp -dsimp -implicitDefEqProofs (disch := try exact zdE) only [go_sem, i3.frz 4]
  rw [← i8]; rfl
end Go.Gim
/- Determinants, equations, what is definite, products: what the code computes. -/
set_option maxRecDepth 100000
set_option maxHeartbeats 4000000
namespace Go.Gim
open Go.Proofs
def augF (n : Nat) (M : Nat → Nat → Int) (c : Nat → Int) (i j : Nat) : Int := if j < n then M i j else c i
def sgnO (odd : Bool) (x : Int) : Int := if odd then -x else x
def detS (n : Nat) (M : Nat → Nat → Int) : Int :=
 match sweep n (augF n M fun _ => 0) with
 | none => 0
 | some (X, odd) => if n = 0 then 1 else sgnO odd (X (n - 1) (n - 1))
theorem swpN_lim {n p k D : Nat} {M : Nat → Nat → Int} (h : ∀ i j, i < n → j < n + 1 → lim (M i j) + 1 ≤ D) (hp : p < n) (hk : k < n) : ∀ i j, i < n → j < n + 1 → lim (swpN M p k i j) + 1 ≤ D := fun i j hi hj => by
 unfold swpN
 by_cases h1 : i = k
 ·rw [if_pos h1]; exact h p j hp hj
 ·rw [if_neg h1]
  by_cases h2 : i = p
  ·rw [if_pos h2]; exact h k j hk hj
  ·rw [if_neg h2]; exact h i j hi hj
theorem stepM_lim {n k D : Nat} {M : Nat → Nat → Int} {last : Int} (h : ∀ i j, i < n → j < n + 1 → lim (M i j) + 1 ≤ D) (hk : k < n) : ∀ a b, a < n → b < n + 1 → lim (stepM M k last a b) + 1 ≤ 2 * D := fun a b ha hb => by
 have v1 := h k k hk (by omega)
 have v2 := h a b ha hb
 have v3 := h k b hk hb
 have v3' := h a k ha (by omega)
 have v4 := za5 (M k k) (M a b)
 have v5 := za5 (M a k) (M k b)
 have v6 := lim_sub (M k k * M a b) (M a k * M k b)
 have v7 := lim_fdiv (M k k * M a b - M a k * M k b) last
 unfold stepM stepV
 split <;> omega
theorem sweepGo_lim {n : Nat} : ∀ {f k D : Nat} {M X : Nat → Nat → Int} {last : Int} {odd o : Bool}, k + f = n → (∀ i j, i < n → j < n + 1 → lim (M i j) + 1 ≤ D) → ze2 n f k M last odd = some (X, o) → ∀ i j, i < n → j < n + 1 → lim (X i j) + 1 ≤ 2 ^ f * D
 | 0, k, D, M, X, last, odd, o, hk, h, hs => by
  simp only [ze2, Option.some.injEq, Prod.mk.injEq] at hs
  rw [← hs.1]; simpa using h
 | f + 1, k, D, M, X, last, odd, o, hk, h, hs => by
  rw [ze2] at hs
  split at hs
  ·cases hs
  ·rename_i hp
   have hP := findP_spec M (show k ≤ n by omega)
   have := sweepGo_lim (f := f) (k := k + 1) (D := 2 * D) (by omega) (stepM_lim (swpN_lim h (by omega) (by omega)) (by omega)) hs
   intro i j hi hj
   have := this i j hi hj
   rw [Nat.pow_succ, Nat.mul_assoc]
   exact this
theorem sweep_lim {n L : Nat} {M X : Nat → Nat → Int} {o : Bool} (hn : n ≤ 12) (hL : L ≤ 1000000) (h : ∀ i j, i < n → j < n + 1 → lim (M i j) ≤ L) (hs : sweep n M = some (X, o)) : ∀ i j, i < n → j < n + 1 → lim (X i j) + 1 ≤ 4096004096 := fun i j hi hj => by
 have h1 := sweepGo_lim (k := 0) (D := L + 1) (by omega) (fun i j hi hj => by have := h i j hi hj; omega) hs i j hi hj
 have h2 : 2 ^ n ≤ 2 ^ 12 := Nat.pow_le_pow_right (by decide) hn
 have h3 : 2 ^ n * (L + 1) ≤ 4096 * 1000001 := Nat.mul_le_mul h2 (by omega)
 omega
theorem zh2 (n : Nat) (hn : n ≤ 1000000) : Ret pg n_lin_zeros [.int .i64 n] (ivl (List.replicate n 0)) := by
 refine lin_zeros.of rfl (W_b ?_)
 unfold lin_zeros.k lin_zeros.res Ot kp Om
 refine sgo ?_
 rw [zfk fun x => zas _ _ _]
 rfl
theorem lturned_ret (x : Int) (odd : Bool) (hx : lim x ≤ 35184372088832) : Ret pg zhf [IV x, .bool odd] (IV (sgnO odd x)) := by
 refine lin_turned.of rfl (W_b ?_)
 unfold lin_turned.k lin_turned.res Ot kp Oy Om OL
 cases odd
 ·simp -dsimp -implicitDefEqProofs (disch := try exact zdE) only [go_sem, ← zdl]
  rfl
 ·refine sgo ?_
  refine zab (neg_ret _ hx) (by simp) ?_
  simp -dsimp -implicitDefEqProofs (disch := try exact zdE) only [go_sem, ← zdl]
  rfl
theorem aug_eq (A : List (List Int)) (b : List Int) (n : Nat) : aug A b n = augF n (at2 A) fun i => b.getD i 0 := rfl
theorem aug_zero (A : List (List Int)) (n : Nat) : aug A (List.replicate n 0) n = augF n (at2 A) fun _ => 0 := by
 funext i j
 unfold aug augF
 split
 ·rfl
 ·simp [List.getD_eq_getElem?_getD, List.getElem?_replicate]; split <;> rfl
theorem augF_lim {n L : Nat} {M : Nat → Nat → Int} {c : Nat → Int} (h : ∀ i j, lim (M i j) ≤ L) (hc : ∀ i, lim (c i) ≤ L) : ∀ i j, lim (augF n M c i j) ≤ L := fun i j => by
 unfold augF
 split
 ·exact h i j
 ·exact hc i
theorem idxB_gen' {n : Nat} {f : Nat → V} {dr : Bool} {nx : Nat} {H : Hp} {k : IntKind} {j : Int} {es : Nat} {Kn : V → Prop} {u : Dep Kn} (hc : ∀ i, (f i).cells.length = es) (h0 : 0 ≤ j) (h1 : j < n) :
  idxB dr nx H es (.sl ((List.range n).map f)) (.int k j) Kn u = Kn (.pp (f j.toNat)) := by
 have := zgs (f := f) (es := es) 0 (fun i => hc i) (l := List.range n) (dr := dr) (nx := nx) (H := H) (k := k) (Kn := Kn) (u := u) h0 (by simpa using h1)
 rw [this]
 congr 3
 have : j.toNat < n := by omega
 simp [List.getD_eq_getElem?_getD, this]
theorem idxB_rows {n w : Nat} {M : Nat → Nat → Int} {dr : Bool} {nx : Nat} {H : Hp} {k : IntKind} {j : Int} {Kn : V → Prop} {u : Dep Kn} (h0 : 0 ≤ j) (h1 : j < n) :
  idxB dr nx H 1 (.sl ((List.range n).map fun i => ivl (rowF w (M i)))) (.int k j) Kn u = Kn (.pp (ivl (rowF w (M j.toNat)))) := idxB_gen' (f := fun i => ivl (rowF w (M i))) (fun _ => rfl) h0 h1
theorem idxB_rowF {w : Nat} {f : Nat → Int} {dr : Bool} {nx : Nat} {H : Hp} {k : IntKind} {j : Int} {Kn : V → Prop} {u : Dep Kn} (h0 : 0 ≤ j) (h1 : j < w) :
  idxB dr nx H 2 (ivl (rowF w f)) (.int k j) Kn u = Kn (.pp (IV (f j.toNat))) := by
 rw [ivl_eq, idxB_iv h0 (by rw [zgl]; exact h1), rowF_get (by omega)]
theorem ldet_ret (A : List (List Int)) (n L : Nat) (hn : n ≤ 12) (hL : L ≤ 999999) (hA : Sq A n) (hlim : ∀ i j, lim (at2 A i j) ≤ L) : Ret pg zgn [.sl (A.map ivl)] (IV (detS n (at2 A))) := by
 have hl := hA.1
 have hsw := swept_ret A (List.replicate n 0) n (L + 1) hn (by omega) (by omega) hA (by simp) (by
  rw [aug_zero]; exact augF_lim (fun i j => by have := hlim i j; omega) (fun i => by rw [zbk]; omega))
 rw [aug_zero] at hsw
 have hX : ∀ X o, sweep n (augF n (at2 A) fun _ => 0) = some (X, o) → ∀ i j, i < n → j < n + 1 → lim (X i j) + 1 ≤ 4096004096 := fun X o hs => sweep_lim hn (show L + 1 ≤ 1000000 by omega) (fun i j _ _ => augF_lim (fun i j => by have := hlim i j; omega) (fun i => by rw [zbk]; omega) i j) hs
 unfold detS
 refine lin_Mat_Det.of rfl (W_b ?_)
 unfold lin_Mat_Det.k lin_Mat_Det.res Ot kp Oy Om Ol OL Oi On ci
 generalize sweep n (augF n (at2 A) fun _ => 0) = o at hsw hX ⊢
 rcases o with _ | ⟨X, odd⟩
 ·unfold sweptV at hsw
  simp -dsimp -implicitDefEqProofs (disch := try exact zdE) only [go_sem, hl]
  first | refine zab (zh2 n (by omega)) (by simp) ?_ | refine zaa (zh2 n (by omega)) (by simp) ?_
  refine sgo ?_
  first | refine zab (hsw) (by simp) ?_ | refine zaa (hsw) (by simp) ?_
  simp -dsimp -implicitDefEqProofs (disch := try exact zdE) only [go_sem, ← zdl]
 ·have hX := hX X odd rfl
  unfold sweptV at hsw
  dsimp only at hsw ⊢
  by_cases hn0 : n = 0
  ·rw [if_pos hn0]
   simp -dsimp -implicitDefEqProofs (disch := try exact zdE) only [go_sem, hl]
   first | refine zab (zh2 n (by omega)) (by simp) ?_ | refine zaa (zh2 n (by omega)) (by simp) ?_
   refine sgo ?_
   first | refine zab (hsw) (by simp) ?_ | refine zaa (hsw) (by simp) ?_
   simp -dsimp -implicitDefEqProofs (disch := try exact zdE) only [go_sem, hl, hn0]
   first | refine zab (zbf 1 (by omega)) (by simp) ?_ | refine zaa (zbf 1 (by omega)) (by simp) ?_
   simp -dsimp -implicitDefEqProofs (disch := try exact zdE) only [go_sem, ← zdl]
  ·rw [if_neg hn0]
   have hlx := hX (n - 1) (n - 1) (by omega) (by omega)
   simp -dsimp -implicitDefEqProofs (disch := try exact zdE) only [go_sem, hl]
   first | refine zab (zh2 n (by omega)) (by simp) ?_ | refine zaa (zh2 n (by omega)) (by simp) ?_
   refine sgo ?_
   first | refine zab (hsw) (by simp) ?_ | refine zaa (hsw) (by simp) ?_
   simp -dsimp -implicitDefEqProofs (disch := try exact zdE) only [go_sem, hl, hn0, idxB_rows, idxB_rowF]
   first | refine zab (lturned_ret _ odd (by omega)) (by simp) ?_ | refine zaa (lturned_ret _ odd (by omega)) (by simp) ?_
   simp -dsimp -implicitDefEqProofs (disch := try exact zdE) only [go_sem, ← zdl]
def solveS (n : Nat) (M : Nat → Nat → Int) (c : Nat → Int) : Option (List Int) :=
 match sweep n (augF n M c) with
 | none => none
 | some (X, odd) => some (rowF n fun i => sgnO odd (X i n))
def solveV (o : Option (List Int)) (d : Int) : V :=
 match o with
 | none => .tup [.sl [], IV 0, .int .i64 11]
 | some l => .tup [ivl l, IV d, .int .i64 0]
theorem gh_fz2 {P : Program} {a : K} {Q : AX → St → Prop} {u : Dep Q} {l l1 l2 : List (Nat × V)} {H : Hp} {nx es es' : Nat} (c d : Nat) (xs ys : List V) (hb : H c = some ⟨xs, es⟩) (hp : ∀ x ∈ xs, V.Pure x) (hd : H d = some ⟨ys, es'⟩) (hcd : d ≠ c) (hq : ∀ x ∈ ys, V.Pure x)
  (hl : l.map (fun p => (p.1, p.2.sub (fz1 c xs))) = l1) (hl2 : l1.map (fun p => (p.1, p.2.sub (fz1 d ys))) = l2) (hk : ∀ H', (∀ e blk, e ≠ c → e ≠ d → H e = some blk → (∀ x ∈ blk.elems, V.Pure x) → H' e = some blk) → Wb P a Q u ⟨E l2, H', nx, nx⟩) : Wb P (.gh a) Q u ⟨E l, H, nx, nx⟩ := by
 refine W_gh (S0 := ⟨E l2, (H.sub (fz1 c xs)).sub (fz1 d ys), nx, nx⟩) ?_ (hk _ fun e blk h1 h2 h3 h4 => by
  have f1 : fz1 c xs e = none := by simp [fz1, h1]
  have f2 : fz1 d ys e = none := by simp [fz1, h2]
  simp only [Hp.sub, f1, f2, Option.isSome_none, Bool.false_eq_true, if_false, h3, Option.map_some, zex h4])
 have h1 := Ghost.fz ⟨E l, H, nx, nx⟩ (fz1 c xs) (fz1_ok hb hp)
 unfold St.fz at h1
 rw [E_subl, hl] at h1
 have hd' : H.sub (fz1 c xs) d = some ⟨ys, es'⟩ := by
  have hf : fz1 c xs d = none := by simp [fz1, hcd]
  simp only [Hp.sub, hf, Option.isSome_none, Bool.false_eq_true, if_false, hd, Option.map_some, zex hq]
 have h2 := Ghost.fz ⟨E l1, H.sub (fz1 c xs), nx, nx⟩ (fz1 d ys) (fz1_ok hd' hq)
 unfold St.fz at h2
 rw [E_subl, hl2] at h2
 exact h1.trans h2
theorem lsolve_ret (A : List (List Int)) (b : List Int) (n L : Nat) (hn : n ≤ 12) (hL : L ≤ 999999) (hA : Sq A n) (hb : b.length = n) (hlim : ∀ i j, lim (at2 A i j) ≤ L) (hlb : ∀ i, lim (b.getD i 0) ≤ L) :
  Ret pg zfb [.sl (A.map ivl), ivl b] (solveV (solveS n (at2 A) fun i => b.getD i 0) (detS n (at2 A))) := by
 have hl := hA.1
 have hbl : (b.map IV).length = n := by simp [hb]
 have hsw := swept_ret A b n (L + 1) hn (by omega) (by omega) hA hb (by
  rw [aug_eq]; exact augF_lim (fun i j => by have := hlim i j; omega) (fun i => by have := hlb i; omega))
 rw [aug_eq] at hsw
 have hX : ∀ X o, sweep n (augF n (at2 A) fun i => b.getD i 0) = some (X, o) → ∀ i j, i < n → j < n + 1 → lim (X i j) + 1 ≤ 4096004096 := fun X o hs => sweep_lim hn (show L + 1 ≤ 1000000 by omega) (fun i j _ _ => augF_lim (fun i j => by have := hlim i j; omega) (fun i => by have := hlb i; omega) i j) hs
 have hdet := ldet_ret A n L hn hL hA hlim
 unfold solveS
 refine lin_Mat_Solve.of rfl (W_b ?_)
 unfold lin_Mat_Solve.k lin_Mat_Solve.res Ot kp kd Oy Om Ol Oc On
 generalize sweep n (augF n (at2 A) fun i => b.getD i 0) = o at hsw hX ⊢
 rcases o with _ | ⟨X, odd⟩
 ·unfold sweptV at hsw
  dsimp only at hsw ⊢
  unfold solveV
  simp -dsimp -implicitDefEqProofs (disch := try exact zdE) only [go_sem, hl, hb, hbl]
  first | refine zab (hsw) (by simp) ?_ | refine zaa (hsw) (by simp) ?_
  simp -dsimp -implicitDefEqProofs (disch := try exact zdE) only [go_sem, ← zdl]
 ·have hX := hX X odd rfl
  unfold sweptV at hsw
  dsimp only at hsw ⊢
  unfold solveV
  have r1 : ∀ i : Nat, i < n → Ret pg zd6 [.int .i64 i, .pp (.sl ((List.range n).map fun i => ivl (rowF (n + 1) (X i)))), .pp (.sl (A.map ivl)), .pp (.bool odd)] (IV (sgnO odd (X i n))) := fun i hi => by
   have hlx := hX i n hi (by omega)
   refine lin_Mat_Solve_1.of rfl (W_b ?_)
   unfold lin_Mat_Solve_1.k lin_Mat_Solve_1.res Ot kp kd Oy Om Ol OL Oi On
   simp -dsimp -implicitDefEqProofs (disch := try exact zdE) only [go_sem, hl, idxB_rows, idxB_rowF]
   first | refine zab (lturned_ret _ odd (by omega)) (by simp) ?_ | refine zaa (lturned_ret _ odd (by omega)) (by simp) ?_
   simp -dsimp -implicitDefEqProofs (disch := try exact zdE) only [go_sem, ← zdl]
  have hls := list_ret n zd6 [.pp (.sl ((List.range n).map fun i => ivl (rowF (n + 1) (X i)))), .pp (.sl (A.map ivl)), .pp (.bool odd)] (fun i => sgnO odd (X i n)) (by omega) (by simp) r1
  simp -dsimp -implicitDefEqProofs (disch := try exact zdE) only [go_sem, hl, hb, hbl]
  first | refine zab (hsw) (by simp) ?_ | refine zaa (hsw) (by simp) ?_
  simp -dsimp -implicitDefEqProofs (disch := try exact zdE) only [go_sem, ← zdl]
  refine gh_fz2 16 17 [.sl ((List.range n).map fun i => ivl (rowF (n + 1) (X i)))] [.bool odd] (es := 1) (es' := 1) (by simp [Hp.upd]) (by simp) (by simp [Hp.upd]) (by decide) (by simp) (by simp [V.sub, fz1]; rfl) (by simp [V.sub, fz1]; rfl) fun H' hH' => ?_
  have h2 : H' 2 = some ⟨[IV 0], 2⟩ := hH' 2 _ (by decide) (by decide) (by simp [Hp.upd]) (by simp)
  clear hH'
  simp -dsimp -implicitDefEqProofs (disch := try exact zdE) only [go_sem, hl]
  first | refine zab (hls) (by simp) ?_ | refine zaa (hls) (by simp) ?_
  simp -dsimp -implicitDefEqProofs (disch := try exact zdE) only [go_sem, hl]
  first | refine zab (hdet) (by simp) ?_ | refine zaa (hdet) (by simp) ?_
  simp -dsimp -implicitDefEqProofs (disch := try exact zdE) only [go_sem, h2]
  rfl
def lead (M : Nat → Nat → Int) (i : Nat) : Nat → Nat → Int := at2 (mat i M)
theorem lead_at {M : Nat → Nat → Int} {i a b : Nat} (ha : a < i) (hb : b < i) : lead M i a b = M a b := mat_at ha hb
def defS (n : Nat) (M : Nat → Nat → Int) : Bool := decide (∀ i, i < n → (∀ j, j < i → M i j = M j i) ∧ 0 < detS (i + 1) (lead M (i + 1)))
theorem ldet_lim {n L : Nat} {M : Nat → Nat → Int} (hn : n ≤ 12) (hL : L ≤ 999999) (hlim : ∀ i j, lim (M i j) ≤ L) : lim (detS n M) ≤ 4096004096 := by
 unfold detS
 have hX : ∀ X o, sweep n (augF n M fun _ => 0) = some (X, o) → ∀ i j, i < n → j < n + 1 → lim (X i j) + 1 ≤ 4096004096 := fun X o hs => sweep_lim hn (show L + 1 ≤ 1000000 by omega) (fun i j _ _ => augF_lim (fun i j => by have := hlim i j; omega) (fun i => by rw [zbk]; omega) i j) hs
 generalize sweep n (augF n M fun _ => 0) = o at hX ⊢
 rcases o with _ | ⟨X, odd⟩
 ·dsimp only; rw [zbk]; omega
 ·have hX := hX X odd rfl
  dsimp only
  split
  ·have : lim 1 ≤ 1 := lim_of (by decide)
   omega
  ·have := hX (n - 1) (n - 1) (by omega) (by omega)
   unfold sgnO
   split
   ·rw [lim_neg]; omega
   ·omega
theorem lim_lead {M : Nat → Nat → Int} {L : Nat} (h : ∀ i j, lim (M i j) ≤ L) (k i j : Nat) : lim (lead M k i j) ≤ L := by
 unfold lead
 by_cases hi : i < k
 ·by_cases hj : j < k
  ·rw [mat_at hi hj]; exact h i j
  ·unfold at2 mat; rw [zbh [] hi]; simp [List.getD_eq_getElem?_getD, hj, zbk]
 ·unfold at2 mat; simp [List.getD_eq_getElem?_getD, hi, zbk]
theorem ldefinite_ret (A : List (List Int)) (n L : Nat) (hn : n ≤ 12) (hL : L ≤ 999999) (hA : Sq A n) (hlim : ∀ i j, lim (at2 A i j) ≤ L) : Ret pg zfc [.sl (A.map ivl)] (.bool (defS n (at2 A))) := by
 have hl := hA.1
 refine lin_Mat_Definite.of rfl (W_b ?_)
 unfold lin_Mat_Definite.k lin_Mat_Definite.res Ot kp kd Om Ol OL Oi Oc On ci
 simp -dsimp -implicitDefEqProofs (disch := try exact zdE) only [go_sem, hl]
 refine za1 (T := Nat × Nat) (fun t => ⟨E [(1, .pp (.sl (A.map ivl))), (7, .int .i64 n), (8, .int .i64 t.1)], fun _ => none, t.2, t.2⟩) (fun t => t.1 ≤ n ∧ ∀ i, i < t.1 → (∀ j, j < i → at2 A i j = at2 A j i) ∧ 0 < detS (i + 1) (lead (at2 A) (i + 1))) (fun t => n - t.1) (0, _) rfl ⟨zdo, fun i h => by dsimp only at h; omega⟩ ?_
 rintro ⟨i, nx⟩ ⟨i1, i2⟩
 dsimp only at i1 i2
 by_cases hi : i < n
 ·have hri := hA.row hi
  refine sgo ?_
  refine za1 (T := Nat × Nat) (fun t => ⟨E [(1, .pp (.sl (A.map ivl))), (3, .int .i64 i), (7, .int .i64 n), (8, .int .i64 i), (11, .int .i64 i), (12, .int .i64 t.1)], fun _ => none, t.2, t.2⟩) (fun t => t.1 ≤ i ∧ ∀ j, j < t.1 → at2 A i j = at2 A j i) (fun t => i - t.1) (0, _) rfl ⟨zdo, fun j h => by dsimp only at h; omega⟩ ?_
  rintro ⟨j, nx'⟩ ⟨j1, j2⟩
  dsimp only at j1 j2
  by_cases hj : j < i
  ·have hrj := hA.row (show j < n by omega)
   have s1 := hlim i j
   have s2 := hlim j i
   have e1 : (A.getD i []).getD j 0 = at2 A i j := rfl
   have e2 : (A.getD j []).getD i 0 = at2 A j i := rfl
   simp -dsimp -implicitDefEqProofs (disch := try exact zdE) only [go_sem, e1, e2]
   refine zaa (zcw _ _ (by omega) (by omega)) (by simp) ?_
   by_cases h : at2 A i j = at2 A j i
   ·have hs : (at2 A i j - at2 A j i).sign = 0 := by rw [h]; simp
    simp -dsimp -implicitDefEqProofs (disch := try exact zdE) only [go_sem, hs]
    exact ⟨(j + 1, _), rfl, ⟨zdo, fun k hk => by dsimp only at hk; by_cases hkj : k = j; (subst hkj; exact h); exact j2 k (by omega)⟩, zdo⟩
   ·have hs : (at2 A i j - at2 A j i).sign ≠ 0 := by rw [Ne, Int.sign_eq_zero_iff_zero]; omega
    have hne : defS n (at2 A) = false := decide_eq_false fun e => h ((e i hi).1 j hj)
    rw [hne]
    exact sgo trivial
  ·have hje : j = i := by omega
   subst hje
   have r0 : ∀ p q : Nat, p < j + 1 → q < j + 1 → Ret pg zc9 [.int .i64 p, .int .i64 q, .pp (.sl (A.map ivl))] (IV (at2 A p q)) := fun p q hp hq => by
    have hrl := hA.row (show p < n by omega)
    refine lin_Mat_Definite_1.of rfl (W_b ?_)
    unfold lin_Mat_Definite_1.k lin_Mat_Definite_1.res Ot kp Oy Om Ol OL Oi
    simp -dsimp -implicitDefEqProofs (disch := try exact zdE) only [go_sem, ← zdl]
    rfl
   have hmade := lmade_ret (j + 1) zc9 [.pp (.sl (A.map ivl))] (at2 A) (by omega) (by simp) r0
   have hdet := ldet_ret (mat (j + 1) (at2 A)) (j + 1) L (by omega) hL (mat_sq _ _) (lim_lead hlim (j + 1))
   have hdl := ldet_lim (n := j + 1) (by omega) hL (lim_lead hlim (j + 1))
   have hc1 : ((j : Int) + 1) = ((j + 1 : Nat) : Int) := by omega
   refine sgo ?_
   first | refine zab (hmade) (by simp) ?_ | refine zaa (hmade) (by simp) ?_
   refine sgo ?_
   first | refine zab (hdet) (by simp) ?_ | refine zaa (hdet) (by simp) ?_
   refine sgo ?_
   first | refine zab (zhc _ (by unfold lead at hdl; omega)) (by simp) ?_ | refine zaa (zhc _ (by unfold lead at hdl; omega)) (by simp) ?_
   have e3 : at2 (mat (j + 1) (at2 A)) = lead (at2 A) (j + 1) := rfl
   rw [e3]
   by_cases hpos : 0 < detS (j + 1) (lead (at2 A) (j + 1))
   ·have hs : (detS (j + 1) (lead (at2 A) (j + 1))).sign = 1 := Int.sign_eq_one_of_pos hpos
    simp -dsimp -implicitDefEqProofs (disch := try exact zdE) only [go_sem, hs]
    exact ⟨(j + 1, _), rfl, ⟨zdo, fun k hk => by dsimp only at hk; by_cases hkj : k = j; (subst hkj; exact ⟨j2, hpos⟩); exact i2 k (by omega)⟩, zdo⟩
   ·have hs : (detS (j + 1) (lead (at2 A) (j + 1))).sign ≤ 0 := by
     rcases Int.lt_trichotomy (detS (j + 1) (lead (at2 A) (j + 1))) 0 with h | h | h
     ·rw [Int.sign_eq_neg_one_of_neg h]; decide
     ·rw [h]; decide
     ·exact absurd h hpos
    have hne : defS n (at2 A) = false := decide_eq_false fun e => hpos (e j hi).2
    rw [hne]
    simp -dsimp -implicitDefEqProofs (disch := try exact zdE) only [go_sem, hs]
 ·have hie : i = n := by omega
  subst hie
  have : defS i (at2 A) = true := decide_eq_true i2
  rw [this]
  exact sgo trivial
end Go.Gim

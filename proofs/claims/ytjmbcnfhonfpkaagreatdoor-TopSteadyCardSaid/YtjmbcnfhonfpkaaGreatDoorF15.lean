import Derived.Test.YtjmbcnfhonfpkaaGreatDoorF14
import Derived.Laws.BytesArg
/- Rows made, copied; parts of rows, of strings, of arrays. -/
set_option linter.unusedVariables false
set_option linter.unusedSimpArgs false
namespace Go.Gim
open Go.RowKit

theorem zhd {P : Program} {φ : Nat → Option Nat} {M U : Nat → Prop} {w : World} {H : Hp} {t : TypeId} {v u : V} {off size : Nat} {ag : Bool} (hp : V.part v off size ag = some u) (h1 : tySz P t size = true) (h2 : tyAg P t ag = true) {arr : Array Value} {k : Nat}
  (hin : k + v.cells.length ≤ arr.size) (hc : ∀ j, j < v.cells.length → Sim φ M w H U (v.cells.getD j .junk) (arr.getD (k + j) Go.undef)) :
  Sim φ M w H U u (if ag then .agg ((List.range size).map fun j => arr.getD (k + off + j) Go.undef).toArray else arr.getD (k + off + 0) Go.undef) ∧ k + off + size ≤ arr.size ∧ (ag = false → 0 < size) := by
 obtain ⟨p1, p2, p3, p4⟩ := part_cells hp
 refine ⟨mk_sim p1 p2 fun j hj => ?_, by omega, fun ha => ?_⟩
 ·rw [p4 j hj, show k + off + j = k + (off + j) by omega]
  exact hc _ (by omega)
 ·subst ha
  have := zey p2
  rw [this] at p1; simp at p1; omega

theorem zgk {P : Program} {t e : TypeId} (h : zea P t = some e) : P.underlying t = some (.slice e) := by
 unfold zea at h
 split at h
 ·rename_i e' h'; cases h; exact h'
 ·cases h
theorem str_of {P : Program} {t : TypeId} (h : tyIsStr P t = true) : P.underlying t = some .string := by
 unfold tyIsStr at h
 split at h
 ·assumption
 ·cases h
theorem kind_of {P : Program} {t : TypeId} {k : IntKind} (h : tyKind P t k = true) : P.underlying t = some (.int k) := by
 unfold tyKind at h
 split at h
 ·rename_i k'' hk; simp at h; subst h; exact hk
 ·cases h

/-! ### copy -/
theorem cpy_own {P : Program} {t t' e ty : TypeId} {es : Nat} (ht : P.underlying t = some (.slice e)) (hsz : tySz P e es = true)
  {φ : Nat → Option Nat} {M U U' : Nat → Prop} {w : World} {H H' : Hp} {id : Nat} {x y v : V} {vx vy : Value} (hp : HpOk φ M w H U) (hU : ∀ b, U b → U' b)
  {b n : Nat} {src : List V} (hsrc : slOf H y = some src) (hxo : x = .own b n) (h : effV H id (.cpy es) [x, y] = some (v, H')) (hx : Sim φ M w H U x vx) (hy : Sim φ M w H U y vy) :
  ∃ r w', (Builtin.copy_ #[t, t'] ty #[vx, vy]).run P w = .ok r w' ∧ Trans φ φ M M U U' w w' H H' ∧ Sim φ M w' H' U' v r := by
 subst hxo
 simp only [effV, hsrc] at h
 split at h
 rotate_left
 ·cases h
 rename_i blk hb
 split at h
 rotate_left
 ·cases h
 rename_i hcond
 obtain ⟨hrow, h0, hn, hs, hnot⟩ := hcond
 simp only [Option.some.injEq, Prod.mk.injEq] at h
 obtain ⟨rfl, rfl⟩ := h
 obtain ⟨nv, n1, n2, n3, n4, n5⟩ := row_news (P := P) hp hsrc hy hrow h0
 have hlenY : (Builtin.lenOf vy).run P w = .ok src.length w := by
  rcases n5 with ⟨ad, cap, rfl, _⟩ | ⟨rfl, a, c, rfl⟩ <;> simp [Builtin.lenOf]
 have hk : min src.length n ≤ src.length := Nat.min_le_left _ _
 have hfc := n4 _ hk
 have hown : OwnOk φ w blk b n vx := by
  cases hx with
  | pur hx => cases hx
  | own b n x _ _ ho => exact ho blk hb hn
 obtain ⟨hUb, hbs, hbk⟩ := hp.blk b blk hb
 have hmin : Nat.min src.length n = min src.length n := rfl
 rcases hown with ⟨hφ, rfl, rfl⟩ | ⟨g, cap, arr, ty', a1, rfl, a3, a4, a5⟩
 ·have hel : blk.elems = [] := List.eq_nil_of_length_eq_zero hn
  have hH : H.upd b (some ⟨src.take (min src.length 0) ++ blk.elems.drop (min src.length 0), es⟩) = H := by
   funext c
   by_cases hc : c = b
   ·subst hc
    rw [Hp.upd_same, hb]
    cases blk
    simp at hel hs ⊢
    subst hel; subst hs
    simp
   ·rw [Hp.upd_ne _ _ hc]
  rw [hH]
  refine ⟨.int .i64 (min src.length 0 : Nat), w, ?_, Trans.refl hp hU, .pur (.int _ _)⟩
  simp only [Builtin.copy_]
  simp [run_underlying ht, hlenY, zbu hsz, goInt]
  simp at hfc
  simp [hfc]
 ·rcases hbk with ⟨z1, z2⟩ | ⟨g', arr', ty2, e1, e2, e3, e4, e5⟩
  ·rw [z1] at a1; cases a1
  rw [a1] at e1; cases e1
  rw [a3] at e2; cases e2
  have hkn : min src.length n ≤ n := Nat.min_le_right _ _
  have htl : (nv.take (min src.length n * es)).length = min src.length n * es := by
   rw [List.length_take, n1]
   exact Nat.min_eq_left (Nat.mul_le_mul_right _ hk)
  obtain ⟨w', arr', s1, s2, s3, s4, s5, s6, s7, s8, s9⟩ := ze3 (P := P) (g := g) (k := 0) (nv.take (min src.length n * es)) 0 arr w a3 (by
   rw [htl]
   have : min src.length n * es ≤ n * es := Nat.mul_le_mul_right _ hkn
   rw [hn, hs] at e3; omega) (fun u hu => n3 u (List.mem_of_mem_take hu))
  simp only [Nat.zero_add] at s4
  have htk : ∀ m, m < min src.length n * es → (nv.take (min src.length n * es)).getD m Go.undef = nv.getD m Go.undef := fun m hm => by
   rw [List.getD_eq_getElem?_getD, List.getElem?_take, if_pos hm, ← List.getD_eq_getElem?_getD]
  have hlen : (src.take (min src.length n) ++ blk.elems.drop (min src.length n)).length = blk.elems.length := by simp; omega
  have hg1 : ∀ i, i < min src.length n → (src.take (min src.length n) ++ blk.elems.drop (min src.length n)).getD i .junk = src.getD i .junk := fun i hi => by
   rw [List.getD_eq_getElem?_getD, List.getElem?_append_left (by simp; omega), List.getElem?_take, if_pos hi, ← List.getD_eq_getElem?_getD]
  have hg2 : ∀ i, min src.length n ≤ i → (src.take (min src.length n) ++ blk.elems.drop (min src.length n)).getD i .junk = blk.elems.getD i .junk := fun i hi => by
   have hl : (src.take (min src.length n)).length = min src.length n := by simp
   rw [List.getD_eq_getElem?_getD, List.getElem?_append_right (by omega), hl, List.getElem?_drop, show min src.length n + (i - min src.length n) = i by omega, ← List.getD_eq_getElem?_getD]
  have t := Trans.store (w' := w') hp hU hb a1 a3 s2 s3 s5 s6 s7 s8 s9 (src.take (min src.length n) ++ blk.elems.drop (min src.length n)) hlen (fun i hi => by
    by_cases hik : i < min src.length n
    ·rw [hg1 i hik, hs]; exact (zf2 hrow (by omega)).1
    ·rw [hg2 i (by omega)]; exact hbs i (by omega)) (fun i j hi hj => by
    rw [s4, htl]
    by_cases hik : i < min src.length n
    ·have hlt := row_lt hik hj (Nat.le_refl (min src.length n * blk.size))
     rw [hg1 i hik, if_pos (by rw [← hs]; omega)]
     have := n2 i j (by omega) (by omega)
     rw [Nat.sub_zero, htk _ (by rw [← hs]; omega), hs]
     exact this
    ·rw [hg2 i (by omega), if_neg]
     ·exact e4 i j (by omega) hj
     ·have : min src.length n * es ≤ i * blk.size := by rw [hs]; exact Nat.mul_le_mul_right _ (by omega)
      omega)
  rw [hs] at t
  refine ⟨.int .i64 (min src.length n : Nat), w', ?_, t, .pur (.int _ _)⟩
  simp [Builtin.copy_, run_underlying ht, hlenY, hmin, zbu hsz, hfc, s1, goInt]

theorem cpy_win {P : Program} {t t' e ty : TypeId} {es : Nat} (ht : P.underlying t = some (.slice e)) (hsz : tySz P e es = true)
  {φ : Nat → Option Nat} {M U U' : Nat → Prop} {w : World} {H H' : Hp} {id : Nat} {x y v : V} {vx vy : Value} (hp : HpOk φ M w H U) (hU : ∀ b, U b → U' b)
  {b n off len : Nat} {src : List V} (hsrc : slOf H y = some src) (hxo : x = .win b n off len) (h : effV H id (.cpy es) [x, y] = some (v, H')) (hx : Sim φ M w H U x vx) (hy : Sim φ M w H U y vy) :
  ∃ r w', (Builtin.copy_ #[t, t'] ty #[vx, vy]).run P w = .ok r w' ∧ Trans φ φ M M U U' w w' H H' ∧ Sim φ M w' H' U' v r := by
 subst hxo
 simp only [effV, hsrc] at h
 split at h
 rotate_left
 ·cases h
 rename_i blk hb
 split at h
 rotate_left
 ·cases h
 rename_i hcond
 obtain ⟨hrow, h0, hn, hol, hs, hnot⟩ := hcond
 simp only [Option.some.injEq, Prod.mk.injEq] at h
 obtain ⟨rfl, rfl⟩ := h
 obtain ⟨nv, n1, n2, n3, n4, n5⟩ := row_news (P := P) hp hsrc hy hrow h0
 have hlenY : (Builtin.lenOf vy).run P w = .ok src.length w := by
  rcases n5 with ⟨ad, cap, rfl, _⟩ | ⟨rfl, a, c, rfl⟩ <;> simp [Builtin.lenOf]
 generalize hk0 : min src.length len = k
 have hk : k ≤ src.length := by omega
 have hkn : k ≤ len := by omega
 have hfc := n4 _ hk
 obtain ⟨g, a1, _, cap, hcap, rfl⟩ : ∃ g, φ b = some g ∧ (off + len ≤ n ∧ ∃ c, len ≤ c ∧ vx = .slice (some ⟨g, off * blk.size, none⟩) len c) := by
  cases hx with
  | pur hx => cases hx
  | win b n off len x _ _ ho => exact ho blk hb hn
 obtain ⟨hUb, hbs, hbk⟩ := hp.blk b blk hb
 have hmin : Nat.min src.length len = k := hk0
 rcases hbk with ⟨z1, z2⟩ | ⟨g', arr, ty', e1, a3, e3, e4, e5⟩
 ·rw [z1] at a1; cases a1
 rw [a1] at e1; cases e1
 have htl : (nv.take (k * es)).length = k * es := by
  rw [List.length_take, n1]
  exact Nat.min_eq_left (Nat.mul_le_mul_right _ hk)
 have hle : off * es + k * es ≤ arr.size := by
  have : (off + k) * es ≤ n * es := Nat.mul_le_mul_right _ (by omega)
  rw [Nat.add_mul] at this
  rw [hn, hs] at e3; omega
 obtain ⟨w', arr', s1, s2, s3, s4, s5, s6, s7, s8, s9⟩ := ze3 (P := P) (g := g) (k := off * es) (nv.take (k * es)) 0 arr w a3 (by rw [htl]; omega) (fun u hu => n3 u (List.mem_of_mem_take hu))
 simp only [Nat.add_zero] at s4
 have htk : ∀ m, m < k * es → (nv.take (k * es)).getD m Go.undef = nv.getD m Go.undef := fun m hm => by
  rw [List.getD_eq_getElem?_getD, List.getElem?_take, if_pos hm, ← List.getD_eq_getElem?_getD]
 have hlen : (blk.elems.take off ++ src.take k ++ blk.elems.drop (off + k)).length = blk.elems.length := by simp; omega
 have hsl : (src.take k).length = k := by simp; omega
 have hget := fun i => laid_getD blk.elems (src.take k) off (by rw [hsl]; omega) i
 rw [hsl] at hget
 have hg1 : ∀ i, off ≤ i → i < off + k → (blk.elems.take off ++ src.take k ++ blk.elems.drop (off + k)).getD i .junk = src.getD (i - off) .junk := fun i hi hi2 => by
  rw [hget i, if_pos ⟨hi, hi2⟩, List.getD_eq_getElem?_getD, List.getElem?_take, if_pos (by omega), ← List.getD_eq_getElem?_getD]
 have hg2 : ∀ i, ¬ (off ≤ i ∧ i < off + k) → (blk.elems.take off ++ src.take k ++ blk.elems.drop (off + k)).getD i .junk = blk.elems.getD i .junk := fun i hi => by
  rw [hget i, if_neg hi]
 have t := Trans.store (w' := w') hp hU hb a1 a3 s2 s3 s5 s6 s7 s8 s9 (blk.elems.take off ++ src.take k ++ blk.elems.drop (off + k)) hlen (fun i hi => by
   by_cases hik : off ≤ i ∧ i < off + k
   ·rw [hg1 i hik.1 hik.2, hs]; exact (zf2 hrow (by omega)).1
   ·rw [hg2 i hik]; exact hbs i (by omega)) (fun i j hi hj => by
   rw [s4, htl]
   by_cases hik : off ≤ i ∧ i < off + k
   ·obtain ⟨m, rfl⟩ : ∃ m, i = off + m := ⟨i - off, by omega⟩
    have hlt := row_lt (show m < k by omega) hj (Nat.le_refl (k * blk.size))
    rw [hg1 _ hik.1 hik.2, Nat.add_sub_cancel_left, if_pos (by rw [Nat.add_mul, ← hs]; omega)]
    have := n2 m j (by omega) (by omega)
    rw [show (off + m) * blk.size + j - off * es = m * es + j by rw [Nat.add_mul, hs]; omega, htk _ (by rw [hs] at hlt; omega)]
    exact this
   ·rw [hg2 i hik, if_neg]
    ·exact e4 i j (by omega) hj
    ·intro hc
     rcases Nat.lt_or_ge i off with hlt | hge
     ·have : (i + 1) * blk.size ≤ off * blk.size := Nat.mul_le_mul_right _ hlt
      rw [Nat.add_mul, Nat.one_mul] at this
      rw [← hs] at hc; omega
     ·have : (off + k) * blk.size ≤ i * blk.size := Nat.mul_le_mul_right _ (by omega)
      rw [Nat.add_mul] at this
      rw [← hs] at hc; omega)
 rw [hs] at t
 refine ⟨.int .i64 (k : Nat), w', ?_, t, .pur (.int _ _)⟩
 rw [hs]
 simp [Builtin.copy_, run_underlying ht, hlenY, hmin, zbu hsz, hfc, s1, goInt]
theorem cpy_sound {P : Program} {t t' e ty : TypeId} {es : Nat} (ht : P.underlying t = some (.slice e)) (hsz : tySz P e es = true)
  {φ : Nat → Option Nat} {M U U' : Nat → Prop} {w : World} {H H' : Hp} {id : Nat} {x y v : V} {vx vy : Value} (hp : HpOk φ M w H U) (hU : ∀ b, U b → U' b)
  (h : effV H id (.cpy es) [x, y] = some (v, H')) (hx : Sim φ M w H U x vx) (hy : Sim φ M w H U y vy) :
  ∃ r w', (Builtin.copy_ #[t, t'] ty #[vx, vy]).run P w = .ok r w' ∧ Trans φ φ M M U U' w w' H H' ∧ Sim φ M w' H' U' v r := by
 have h' := h
 simp only [effV] at h
 split at h
 ·rename_i src b n hsrc; exact cpy_own ht hsz hp hU hsrc rfl h' hx hy
 ·rename_i src b n off len hsrc; exact cpy_win ht hsz hp hU hsrc rfl h' hx hy
 ·cases h

/-! ### rows made -/
theorem fill_row {es : Nat} (h0 : 0 < es) : ∀ (vals : List Value) (k : Nat) (arr : Array Value), (k + vals.length) * es ≤ arr.size → (∀ v ∈ vals, v.cells.size = es) →
  ∃ arr', Instr.fill (fun i => some (i * es, es)) arr ((List.range' k vals.length).zip vals) = some arr' ∧ arr'.size = arr.size ∧ (∀ j, j < k * es → arr'.getD j Go.undef = arr.getD j Go.undef) ∧
   ∀ i j, i < vals.length → j < es → arr'.getD ((k + i) * es + j) Go.undef = (vals.getD i Go.undef).cells.getD j Go.undef
 | [], k, arr, _, _ => ⟨arr, by simp [Instr.fill], rfl, fun _ _ => rfl, fun i j hi => by simp at hi⟩
 | v :: vals, k, arr, hl, hv => by
  have hvs := hv v (by simp)
  have hle : k * es + v.cells.toList.length ≤ arr.size := by
   have : (k + 1) * es ≤ (k + (v :: vals).length) * es := Nat.mul_le_mul_right _ (by simp)
   rw [Nat.add_mul, Nat.one_mul] at this
   rw [Array.length_toList, hvs]; omega
  have hlay := lay_at (k * es) v.cells.toList 0 arr (by simpa using hle)
  obtain ⟨arr', f1, f2, f3, f4⟩ := fill_row h0 vals (k + 1) ((v.cells.toList.zipIdx 0).foldl (fun cs (p : Value × Nat) => cs.setIfInBounds (k * es + p.2) p.1) arr)
   (by rw [hlay.1]; simp only [List.length_cons] at hl; rw [show k + 1 + vals.length = k + (vals.length + 1) by omega]; exact hl) (fun u hu => hv u (by simp [hu]))
  refine ⟨arr', ?_, by rw [f2, hlay.1], fun j hj => ?_, fun i j hi hj => ?_⟩
  ·simp only [List.length_cons, List.range'_succ, List.zip_cons_cons, Instr.fill]
   rw [if_neg (by simp [hvs]; rw [Array.length_toList, hvs] at hle; omega)]
   have : v.cells.zipIdx.foldl (fun cs (p : Value × Nat) => cs.setIfInBounds (k * es + p.2) p.1) arr = (v.cells.toList.zipIdx 0).foldl (fun cs (p : Value × Nat) => cs.setIfInBounds (k * es + p.2) p.1) arr := by
    rw [← Array.foldl_toList]; simp
   first | (rw [← this] at f1; exact f1) | (simpa using f1)
  ·have hk1 : j < (k + 1) * es := by rw [Nat.add_mul, Nat.one_mul]; omega
   rw [f3 j hk1, hlay.2 j, if_neg (by omega)]
  ·cases i with
   | zero =>
    rw [Nat.add_zero, f3 _ (by rw [Nat.add_mul, Nat.one_mul]; omega), hlay.2, if_pos (by rw [Array.length_toList, hvs]; omega)]
    simp [List.getD_eq_getElem?_getD, Array.getD_eq_getD_getElem?]
   | succ i =>
    have := f4 i j (by simpa using hi) hj
    rw [show k + (i + 1) = k + 1 + i by omega]
    simpa using this

theorem row_info {P : Program} {e : TypeId} {es : Nat} {bytes : Option Nat} {z : Option V} (h : tyRow P e es bytes z = true) : ∃ (i : TypeInfo) (zv : Value), P.info? e = some i ∧ i.size = es ∧ i.zero = some zv ∧ zv.cells.size = es ∧ (∀ b, bytes = some b → i.bytes = b) ∧ (∀ v, z = some v → mV 4 zv v = true) := by
 unfold tyRow at h
 cases hi : P.info? e with
 | none => simp [hi] at h
 | some i =>
  cases hz : i.zero with
  | none => simp [hi, hz] at h
  | some zv =>
   simp only [hi, hz, Bool.and_eq_true, beq_iff_eq] at h
   obtain ⟨⟨h1, h2⟩, h3, h4⟩ := h
   exact ⟨i, zv, rfl, h1, hz, h3, fun b hb => by subst hb; simpa using h2, fun v hv => by subst hv; simpa using h4⟩

theorem new_row {φ : Nat → Option Nat} {M U U' : Nat → Prop} {w : World} {H : Hp} (hp : HpOk φ M w H U) (Mb : ∀ g, M g → g < w.heap.size) (hU : ∀ b, U b → U' b) {id : Nat} (hid : U' id) (hnew : ¬ U id) {els : List V} {es cap : Nat} {arr : Array Value} (e : TypeId)
  (hsz : ∀ i, i < els.length → (els.getD i .junk).cells.length = es) (hcap : els.length ≤ cap) (harr : arr.size = cap * es)
  (hc : ∀ i j, i < els.length → j < es → Sim φ M w H U ((els.getD i .junk).cells.getD j .junk) (arr.getD (i * es + j) Go.undef)) :
  ∃ φ' M', Trans φ φ' M M' U U' w (w.alloc (.cells arr e)) H (H.upd id (some ⟨els, es⟩)) ∧ Sim φ' M' (w.alloc (.cells arr e)) (H.upd id (some ⟨els, es⟩)) U' (.own id els.length) (.slice (some ⟨w.heap.size, 0, none⟩) els.length cap) := by
 refine ⟨_, _, Trans.alloc hp Mb hU hid hnew arr e ⟨els, es⟩ hsz (by show els.length * es ≤ _; rw [harr]; exact Nat.mul_le_mul_right _ hcap) hc, .own _ _ _ hid ⟨_, _, _, rfl⟩ fun blk hb hn => ?_⟩
 rw [Hp.upd_same] at hb; cases hb
 refine .inr ⟨w.heap.size, cap, arr, e, by simp, rfl, ?_, harr, hcap⟩
 show (w.heap.push _)[w.heap.size]? = _
 simp

theorem bsl_sound {P : Program} {t e : TypeId} {es : Nat} (ht : P.underlying t = some (.slice e)) (hr : tyRow P e es none none = true) {φ : Nat → Option Nat} {M U U' : Nat → Prop} {w : World} {H : Hp} {id n : Nat} {vs : List V} {vals : List Value} {blk : Blk}
  (hp : HpOk φ M w H U) (Mb : ∀ g, M g → g < w.heap.size) (hU : ∀ b, U b → U' b) (hid : U' id) (hnew : ¬ U id) (h : newV (.bsl es) vs = some (n, blk)) (hl : vals.length = vs.length)
  (hs : ∀ i, i < vs.length → Sim φ M w H U (vs.getD i .junk) (vals.getD i Go.undef)) :
  ∃ r w' φ' M', (Instr.buildSlice t vals.length ((List.range vals.length).zip vals).toArray).run P w = .ok r w' ∧ Trans φ φ' M M' U U' w w' H (H.upd id (some blk)) ∧ Sim φ' M' w' (H.upd id (some blk)) U' (.own id n) r := by
 obtain ⟨i, zv, hi, his, hz, hzs, _, _⟩ := row_info hr
 simp only [newV] at h
 split at h
 rotate_left
 ·cases h
 rename_i hcond
 obtain ⟨hall, hbig, h0⟩ := hcond
 simp only [Option.some.injEq, Prod.mk.injEq] at h
 obtain ⟨rfl, rfl⟩ := h
 have hat : ∀ i, i < vs.length → (vs.getD i .junk).cells.length = es ∧ vs.getD i .junk ≠ .junk := fun i hi => by
  have := List.all_eq_true.1 hall _ (zce (d := V.junk) hi)
  simp only [Bool.and_eq_true, Bool.not_eq_true', beq_iff_eq] at this
  exact ⟨this.2, fun e => by rw [e] at this; cases this.1⟩
 have hcell : ∀ i, i < vs.length → (vals.getD i Go.undef).cells.size = es ∧ ∀ j, j < es → Sim φ M w H U ((vs.getD i .junk).cells.getD j .junk) ((vals.getD i Go.undef).cells.getD j Go.undef) := fun i hi => by
  obtain ⟨h1, h2⟩ := (hs i hi).cell (hat i hi).2
  exact ⟨by rw [h1, (hat i hi).1], fun j hj => h2 j (by rw [(hat i hi).1]; exact hj)⟩
 have hsize : ((Array.range (vals.length * es)).map (zv.cells[· % zv.cells.size]!)).size = vals.length * es := by simp
 have hvs : ∀ v ∈ vals, v.cells.size = es := fun v hv => by
  obtain ⟨k, hk, rfl⟩ := List.mem_iff_getElem.1 hv
  have := (hcell k (by omega)).1
  simpa [List.getD_eq_getElem?_getD, hk] using this
 obtain ⟨arr', f1, f2, f3, f4⟩ := fill_row h0 vals 0 ((Array.range (vals.length * es)).map (zv.cells[· % zv.cells.size]!)) (by rw [hsize]; simp) hvs
 obtain ⟨φ', M', t1, t2⟩ := new_row hp Mb hU hid hnew (els := vs) (es := es) (cap := vs.length) (arr := arr') e (fun i hi => (hat i hi).1) (Nat.le_refl _) (by rw [f2, hsize, hl]) (fun i j hi hj => by
  have := f4 i j (by omega) hj
  rw [Nat.zero_add] at this
  rw [this]
  exact (hcell i hi).2 j hj)
 refine ⟨_, _, φ', M', ?_, t1, t2⟩
 rw [← List.range_eq_range'] at f1
 by_cases hn : vals.length * es = 0
 ·have hv0 : vals.length = 0 := by
   rcases Nat.mul_eq_zero.1 hn with h | h
   ·exact h
   ·omega
  have : vals = [] := List.eq_nil_of_length_eq_zero hv0
  subst this
  have hvs0 : vs = [] := List.eq_nil_of_length_eq_zero (by simpa using hl.symm)
  subst hvs0
  have ha : arr' = #[] := by
   have : arr'.size = 0 := by rw [f2]; simp
   exact Array.eq_empty_of_size_eq_zero this
  subst ha
  simp [Instr.buildSlice, run_underlying ht, sizeOf, typeInfo, hi, his, Instr.fill, newRow, Array.range_zero']
 ·have hb2 : ¬ (vals.length * es > 2 ^ 24) := by rw [hl]; omega
  have hr2 : ∀ w, (zeroValue e).run P w = .ok zv w := fun w => by simp [zeroValue, typeInfo, hi, hz]
  have hr3 : ∀ w, (sizeOf e).run P w = .ok es w := fun w => by simp [sizeOf, typeInfo, hi, his]
  simp only [Instr.buildSlice, Sem.run_bind, run_underlying ht, Result.andThen_ok, hr3, if_neg hb2, if_neg hn, hr2, Sem.run_pure, f1, newRow]
  simp [hl]

theorem mV_junk {n : Nat} {x : Value} : mV n x .junk = false := by
 cases n with
 | zero => rfl
 | succ n => cases x <;> simp [mV]
theorem made_get (z : Array Value) (n k j es : Nat) (hz : z.size = es) (hj : j < es) (hk : k * es + j < n) : (madeCells z n).getD (k * es + j) Go.undef = z.getD j Go.undef := by
 have h1 : (k * es + j) % es = j := by rw [Nat.mul_comm, Nat.mul_add_mod, Nat.mod_eq_of_lt hj]
 have h2 : j < z.size := by omega
 simp [madeCells, Array.getD_eq_getD_getElem?, hk, hz, h1]
 rw [getElem!_pos z j h2, getElem?_pos z j h2]; rfl

theorem mks_sound {P : Program} {t e : TypeId} {es bytes : Nat} {zero : V} (ht : P.underlying t = some (.slice e)) (hr : tyRow P e es (some bytes) (some zero) = true) {φ : Nat → Option Nat} {M U U' : Nat → Prop} {w : World} {H : Hp} {id n : Nat} {l c : V} {vl vc : Value} {blk : Blk}
  (hp : HpOk φ M w H U) (Mb : ∀ g, M g → g < w.heap.size) (hU : ∀ b, U b → U' b) (hid : U' id) (hnew : ¬ U id) (h : newV (.mks es bytes zero) [l, c] = some (n, blk)) (hl : Sim φ M w H U l vl) (hc : Sim φ M w H U c vc) :
  ∃ r w' φ' M', (Instr.makeSlice t vl vc).run P w = .ok r w' ∧ Trans φ φ' M M' U U' w w' H (H.upd id (some blk)) ∧ Sim φ' M' w' (H.upd id (some blk)) U' (.own id n) r := by
 obtain ⟨i, zv, hi, his, hz, hzs, hby, hmv⟩ := row_info hr
 have hby := hby _ rfl
 have hmv := hmv _ rfl
 unfold newV at h
 split at h
 ·cases (by assumption : NOp.mks es bytes zero = NOp.bsl _)
 ·rename_i es' bytes' zero' kl lv kc cv heq heq2
  cases heq
  simp only [List.cons.injEq, and_true] at heq2
  obtain ⟨rfl, rfl⟩ := heq2
  split at h
  rotate_left
  ·cases h
  rename_i hcond
  obtain ⟨c1, c2, c3, c4, c5, c6⟩ := hcond
  simp only [Option.some.injEq, Prod.mk.injEq] at h
  obtain ⟨rfl, rfl⟩ := h
  have e1 := hl.int_inv; have e2 := hc.int_inv
  subst e1; subst e2
  have hrun := run_make (P := P) w t e i zv ht hi hz kl kc lv cv c1 c2 (by rw [hby]; omega) (by omega)
  have hzp := (Sim.cell (φ := φ) (M := M) (w := w) (H := H) (U := U) (.pur (mV_pur hmv)) (fun e => by rw [e, mV_junk] at hmv; cases hmv)).2
  obtain ⟨φ', M', t1, t2⟩ := new_row hp Mb hU hid hnew (els := List.replicate lv.toNat zero) (es := es) (cap := cv.toNat) (arr := madeCells zv.cells (cv.toNat * i.size)) e (fun k hk => by
   simp at hk
   simp [List.getD_eq_getElem?_getD, hk, c5]) (by simp; omega) (by rw [size_madeCells, his]) (fun k j hk hj => by
   simp at hk
   have hlt := row_lt (show k < cv.toNat by omega) hj (Nat.le_refl (cv.toNat * es))
   rw [made_get zv.cells _ k j es hzs hj (by rw [his]; exact hlt)]
   have : (List.replicate lv.toNat zero).getD k .junk = zero := by simp [List.getD_eq_getElem?_getD, hk]
   rw [this]
   exact hzp j (by omega))
  simp only [List.length_replicate] at t2
  exact ⟨_, _, φ', M', hrun, t1, t2⟩
 ·cases h

/-! ### parts of strings, slices, arrays -/
theorem idxS_run {P : Program} {t : TypeId} (ht : P.underlying t = some .string) {s : ByteArray} {k : IntKind} {j : Int} {c : UInt8} (h0 : 0 ≤ j) (hc : s.data.toList[j.toNat]? = some c) (w : World) :
  (Instr.index t (.string s) (.int k j)).run P w = .ok (.int .u8 c.toNat) w := by
 have hlt : j.toNat < s.data.toList.length := (List.getElem?_eq_some_iff.1 hc).1
 have hlt' : j.toNat < s.size := by rw [Array.length_toList] at hlt; exact hlt
 have hg : s[j.toNat]? = some c := by
  rw [getElem?_pos s j.toNat hlt']
  have h2 := (List.getElem?_eq_some_iff.1 hc).2
  exact congrArg some h2
 simp [Instr.index, asIntOf, run_underlying ht, h0, hg]

theorem arr_of {P : Program} {t : TypeId} {n size : Nat} {ag : Bool} (h : tyArr P t n size ag = true) : ∃ e, P.underlying t = some (.array n e) ∧ tySz P e size = true ∧ tyAg P e ag = true ∧ 0 < size := by
 unfold tyArr at h
 split at h
 ·rename_i n' e he
  simp only [Bool.and_eq_true, beq_iff_eq, decide_eq_true_eq] at h
  obtain ⟨⟨⟨rfl, h1⟩, h2⟩, h3⟩ := h
  exact ⟨e, he, h1, h2, h3⟩
 ·cases h

theorem part_run {P : Program} {φ : Nat → Option Nat} {M U : Nat → Prop} {w : World} {H : Hp} {t : TypeId} {cs : List V} {u : V} {off size : Nat} {ag : Bool} {arr : Array Value} (hp : V.part (.agg cs) off size ag = some u) (hsz : tySz P t size = true) (hag : tyAg P t ag = true)
  (h2 : arr.size = cs.length) (h3 : ∀ j, j < cs.length → Sim φ M w H U (cs.getD j .junk) (arr.getD j Go.undef)) : ∃ r, (part t arr off).run P w = .ok r w ∧ Sim φ M w H U u r := by
 obtain ⟨q1, q2, q3⟩ := zhd hp hsz hag (arr := arr) (k := 0) (by simp [V.cells, h2]) (fun j hj => by simpa [V.cells] using h3 j hj)
 refine ⟨_, ?_, q1⟩
 simp only [part, Sem.run_bind, run_isAgg hag, Result.andThen_ok]
 cases ag with
 | true =>
  simp only [if_true, Sem.run_bind, zbu hsz, Result.andThen_ok, Sem.run_pure]
  congr 2
  apply Array.ext
  ·simp; omega
  ·intro j h1 h2
   simp at h1 h2 ⊢
   simp [Array.getD, show off + j < arr.size by omega]
 | false =>
  simp only [Bool.false_eq_true, if_false]
  rw [zdu (d := Go.undef) (show off < arr.size by have := q3 rfl; omega)]
  simp

theorem slc_args {φ : Nat → Option Nat} {M U : Nat → Prop} {w : World} {H : Hp} {a b c : Bool} {l : List V} {q : Option Int × Option Int × Option Int} (h : slcArgs a b c l = some q) {lo hi mx : Option Value} (ha : a = lo.isSome) (hb : b = hi.isSome) (hc : c = mx.isSome)
  (hl : (lo.toList ++ hi.toList ++ mx.toList).length = l.length) (hs : ∀ i, i < l.length → Sim φ M w H U (l.getD i .junk) ((lo.toList ++ hi.toList ++ mx.toList).getD i Go.undef)) :
  (∃ kl kh km : IntKind, lo = q.1.map (Value.int kl) ∧ hi = q.2.1.map (Value.int kh) ∧ mx = q.2.2.map (Value.int km)) ∧ (q.2.2.isSome = true → q.2.1.isSome = true) := by
 unfold slcArgs at h
 split at h
 all_goals first | (cases h; done) | skip
 all_goals
  cases lo <;> cases hi <;> cases mx <;> simp at ha hb hc <;> cases h
 ·exact ⟨⟨.i64, .i64, .i64, rfl, rfl, rfl⟩, fun h => by simp at h⟩
 ·rename_i k l x
  have e1 := Sim.int_inv (hs 0 (by simp)); simp at e1; subst e1
  exact ⟨⟨k, .i64, .i64, rfl, rfl, rfl⟩, fun h => by simp at h⟩
 ·rename_i k l x
  have e1 := Sim.int_inv (hs 0 (by simp)); simp at e1; subst e1
  exact ⟨⟨.i64, k, .i64, rfl, rfl, rfl⟩, fun h => by simp at h⟩
 ·rename_i k l k' l' x y
  have e1 := Sim.int_inv (hs 0 (by simp)); simp at e1; subst e1
  have e2 := Sim.int_inv (hs 1 (by simp)); simp at e2; subst e2
  exact ⟨⟨k, k', .i64, rfl, rfl, rfl⟩, fun h => by simp at h⟩
 ·rename_i k l k' l' x y
  have e1 := Sim.int_inv (hs 0 (by simp)); simp at e1; subst e1
  have e2 := Sim.int_inv (hs 1 (by simp)); simp at e2; subst e2
  exact ⟨⟨.i64, k, k', rfl, rfl, rfl⟩, fun h => rfl⟩
 ·rename_i k l k' l' k2 l2 x y z
  have e1 := Sim.int_inv (hs 0 (by simp)); simp at e1; subst e1
  have e2 := Sim.int_inv (hs 1 (by simp)); simp at e2; subst e2
  have e3 := Sim.int_inv (hs 2 (by simp)); simp at e3; subst e3
  exact ⟨⟨k, k', k2, rfl, rfl, rfl⟩, fun h => rfl⟩

theorem bounds_run {P : Program} {isS : Bool} {len cap : Nat} {q : Option Int × Option Int × Option Int} {kl kh km : IntKind} (hm : q.2.2.isSome = true → q.2.1.isSome = true) (h1 : 0 ≤ q.1.getD 0) (h2 : q.1.getD 0 ≤ q.2.1.getD len) (h3 : q.2.1.getD len ≤ q.2.2.getD cap) (h4 : q.2.2.getD cap ≤ cap) (w : World) :
  (Instr.sliceBounds isS len cap (q.1.map (Value.int kl)) (q.2.1.map (Value.int kh)) (q.2.2.map (Value.int km))).run P w = .ok ((q.1.getD 0).toNat, (q.2.1.getD len).toNat, (q.2.2.getD cap).toNat) w := by
 have hb : ∀ (k : IntKind) (i : Int) (y : Nat) (code : BoundsCode) (w : World), 0 ≤ i → i ≤ y → (Instr.sliceBound (.int k i) y code).run P w = .ok i.toNat w := fun k i y code w h0 h1 => by
  simp [Instr.sliceBound, asIntOf, h0, h1]
 obtain ⟨lo, hi, mx⟩ := q
 cases lo <;> cases hi <;> cases mx <;> simp at hm h1 h2 h3 h4 ⊢ <;> simp only [Instr.sliceBounds, Option.isSome, Sem.run_bind, Sem.run_pure, Result.andThen_ok]
 all_goals repeat (first | rw [hb _ _ _ _ _ (by omega) (by omega)] | simp only [Sem.run_bind, Sem.run_pure, Result.andThen_ok])

theorem zb1 {ad : Addr} (h : ad.spot = none) (n : Nat) : ad.add n = ⟨ad.block, ad.off + n, none⟩ := by
 unfold Addr.add
 split
 ·rename_i hn; subst hn; cases ad; simp at h; subst h; rfl
 ·rfl

theorem getD_drop_take {α : Type} {l : List α} {a b i : Nat} {d : α} (h : a + i < b) : ((l.take b).drop a).getD i d = l.getD (a + i) d := by
 rw [List.getD_eq_getElem?_getD, List.getElem?_drop, List.getElem?_take, if_pos h, ← List.getD_eq_getElem?_getD]

theorem slc_run {P : Program} {t : TypeId} {es : Nat} (ht : (if es = 0 then tyIsStr P t else (match zea P t with | some e => tySz P e es | none => false)) = true) {φ : Nat → Option Nat} {M U : Nat → Prop} {w : World} {H : Hp} {x v : V} {vx : Value} {q : Option Int × Option Int × Option Int} {kl kh km : IntKind}
  (h : slcV es x q.1 q.2.1 q.2.2 = some v) (hm : q.2.2.isSome = true → q.2.1.isSome = true) (hx : Sim φ M w H U x vx) :
  ∃ r, (Instr.sliceAt t vx (q.1.map (Value.int kl)) (q.2.1.map (Value.int kh)) (q.2.2.map (Value.int km))).run P w = .ok r w ∧ Sim φ M w H U v r := by
 have hel : 0 < es → ∃ e, P.underlying t = some (.slice e) ∧ tySz P e es = true := fun h0 => by
  rw [if_neg (by omega)] at ht
  split at ht
  ·rename_i e he; exact ⟨e, zgk he, ht⟩
  ·cases ht
 unfold slcV at h
 split at h
 ·-- a string
  rename_i s
  split at h
  rotate_left
  ·cases h
  rename_i hc
  obtain ⟨h0, hmx, h1, h2, h3⟩ := hc
  subst h0
  have ht' := str_of (by simpa using ht)
  have e1 := hx.str_inv
  subst e1
  cases h
  refine ⟨_, ?_, .pur (.str _)⟩
  have hb := bounds_run (P := P) (isS := false) (len := s.size) (cap := s.size) (q := (q.1, q.2.1, none)) (kl := kl) (kh := kh) (km := km) (fun h => by simp at h) h1 h2 (by simpa using h3) (by simp) w
  simp only [Option.map_none] at hb
  simp [Instr.sliceAt, Instr.slice, run_underlying ht', hmx, hb]
 ·-- a slice
  rename_i xs
  split at h
  rotate_left
  ·cases h
  rename_i hc
  obtain ⟨h0, h1, h2, h3, h4, h5⟩ := hc
  obtain ⟨e, he, hsz⟩ := hel h0
  have key : ∀ (a : Option Addr) (cap : Nat), vx = .slice a xs.length cap → xs.length ≤ cap → ∃ m : Nat, (Instr.sliceAt t vx (q.1.map (Value.int kl)) (q.2.1.map (Value.int kh)) (q.2.2.map (Value.int km))).run P w =
    .ok (.slice (if m = (q.1.getD 0).toNat then a else a.map (·.add ((q.1.getD 0).toNat * es))) ((q.2.1.getD xs.length).toNat - (q.1.getD 0).toNat) (m - (q.1.getD 0).toNat)) w ∧ (q.2.1.getD xs.length).toNat ≤ m ∧ (q.2.2 = some (q.1.getD 0) → m = (q.1.getD 0).toNat) := by
   rintro a cap rfl hcap
   have hb := bounds_run (P := P) (isS := true) (len := xs.length) (cap := cap) (q := q) (kl := kl) (kh := kh) (km := km) hm h1 h2 (by cases hq : q.2.2 with | none => (simp [hq] at h3 ⊢; omega) | some m => (simp [hq] at h3 ⊢; omega)) (by cases hq : q.2.2 with | none => simp | some m => (simp [hq] at h4 ⊢; omega)) w
   refine ⟨(q.2.2.getD cap).toNat, ?_, ?_, fun hq => by rw [hq]; rfl⟩
   ·simp only [Instr.sliceAt, Instr.slice, Sem.run_bind, run_underlying he, Result.andThen_ok, hb, zbu hsz, Sem.run_pure]
   ·cases hq : q.2.2 with
    | none => simp [hq] at h3 ⊢; omega
    | some m => simp [hq] at h3 ⊢; omega
  cases hx with
  | pur hx =>
   split at h
   ·rename_i hq
    cases h
    have hlh : q.2.1.getD xs.length = q.1.getD 0 := by rw [hq] at h3; simp at h3; omega
    cases hx with
    | sl0 a cap =>
     obtain ⟨m, k1, k2, k3⟩ := key a cap rfl (by simp)
     refine ⟨_, k1, ?_⟩
     rw [hlh, k3 hq, Nat.sub_self, if_pos rfl]
     exact .pur (.nil _)
    | sl xs ad cap size arr ty fr hs hb hmm hsz' hin hcap hc =>
     obtain ⟨m, k1, k2, k3⟩ := key (some ad) cap rfl hcap
     refine ⟨_, k1, ?_⟩
     rw [hlh, k3 hq, Nat.sub_self, if_pos rfl]
     exact .pur (.nil _)
   ·cases h
    cases hx with
    | sl0 a cap =>
     obtain ⟨m, k1, k2, k3⟩ := key a cap rfl (by simp)
     refine ⟨_, k1, ?_⟩
     have : (q.2.1.getD ([] : List V).length).toNat - (q.1.getD 0).toNat = 0 := by
      have : q.2.1.getD ([] : List V).length ≤ 0 := by cases hq : q.2.2 with | none => (simp [hq] at h3 ⊢; omega) | some m => (simp [hq] at h3 h4 ⊢; omega)
      omega
     rw [this]
     simp only [List.take_nil, List.drop_nil]
     exact .pur (.sl0 _ _)
    | sl xs ad cap size arr ty fr hs hb hmm hsz' hin hcap hc =>
     obtain ⟨m, k1, k2, k3⟩ := key (some ad) cap rfl hcap
     refine ⟨_, k1, .pur ?_⟩
     have hlo : ((q.1.getD 0).toNat : Int) = q.1.getD 0 := Int.toNat_of_nonneg h1
     have hhi : ((q.2.1.getD xs.length).toNat : Int) = q.2.1.getD xs.length := Int.toNat_of_nonneg (by omega)
     have hhx : (q.2.1.getD xs.length).toNat ≤ xs.length := by cases hq : q.2.2 with | none => (simp [hq] at h3; omega) | some m => (simp [hq] at h3 h4; omega)
     generalize (q.1.getD 0).toNat = lo at *
     generalize (q.2.1.getD xs.length).toNat = hi at *
     have hle : lo ≤ hi := by omega
     have hlen : ((xs.take hi).drop lo).length = hi - lo := by simp; omega
     by_cases hz : hi - lo = 0
     ·have : (xs.take hi).drop lo = [] := List.eq_nil_of_length_eq_zero (by omega)
      rw [this, hz]
      exact .sl0 _ _
     ·have hml : m ≠ lo := by omega
      rw [if_neg hml, Option.map_some, zb1 hs]
      have hso : lo * es = lo * size := by
       rcases h5 with h5 | h5
       ·have : lo = 0 := by omega
        rw [this]; simp
       ·have h6 := List.all_eq_true.1 h5 _ (zce (d := V.junk) (show 0 < xs.length by omega))
        rw [beq_iff_eq] at h6
        rw [← h6, hsz' 0 (by omega)]
      rw [hso]
      have := Pur.sl (M := M) (w := w) ((xs.take hi).drop lo) ⟨ad.block, ad.off + lo * size, none⟩ (m - lo) size arr ty fr rfl hb hmm (fun i hi' => by
       rw [getD_drop_take (by omega)]
       exact hsz' _ (by omega)) (by
       rw [hlen]
       show ad.off + lo * size + (hi - lo) * size ≤ arr.size
       have : lo * size + (hi - lo) * size = hi * size := by rw [← Nat.add_mul]; congr 1; omega
       have : hi * size ≤ xs.length * size := Nat.mul_le_mul_right _ hhx
       omega) (by rw [hlen]; omega) (fun i j hi' hj => by
       rw [hlen] at hi'
       rw [getD_drop_take (by omega)]
       show Pur M w _ (arr.getD (ad.off + lo * size + i * size + j) Go.undef)
       have := hc (lo + i) j (by omega) hj
       rw [show ad.off + lo * size + i * size + j = ad.off + (lo + i) * size + j by rw [Nat.add_mul]; omega]
       exact this)
      rwa [hlen] at this
 ·-- nil
  split at h
  rotate_left
  ·cases h
  rename_i hc
  obtain ⟨h0, h1, h2, h3⟩ := hc
  obtain ⟨e, he, hsz⟩ := hel h0
  cases h
  cases hx with
  | pur hx =>
   cases hx with
   | nil a =>
    have hq1 : q.2.1.getD ((0 : Nat) : Int) = 0 := by simpa using h2
    have hq2 : q.2.2.getD ((0 : Nat) : Int) = 0 := by simpa using h3
    have hb := bounds_run (P := P) (isS := true) (len := 0) (cap := 0) (q := q) (kl := kl) (kh := kh) (km := km) hm (by omega) (by omega) (by omega) (by omega) w
    rw [hq1, hq2, h1] at hb
    refine ⟨.slice a 0 0, ?_, .pur (.nil a)⟩
    simp only [Instr.sliceAt, Instr.slice, Sem.run_bind, run_underlying he, Result.andThen_ok, hb, zbu hsz, Sem.run_pure]
    simp
 ·cases h

theorem byte_at {xs : List V} {l : List UInt8} (h : allOf byteV xs = some l) : ∃ ns : List Int, xs = ns.map (V.int .u8) ∧ l = ns.map fun n => UInt8.ofNat n.toNat := by
 induction xs generalizing l with
 | nil => simp [allOf] at h; subst h; exact ⟨[], rfl, rfl⟩
 | cons x xs ih =>
  simp only [allOf] at h
  split at h
  ·rename_i y ys h1 h2
   cases h
   obtain ⟨ns, rfl, rfl⟩ := ih h2
   unfold byteV at h1
   split at h1
   ·rename_i n
    cases h1
    exact ⟨n :: ns, rfl, rfl⟩
   ·cases h1
  ·cases h

theorem b2s_run {P : Program} {s d e : TypeId} (hs : P.underlying s = some (.slice e)) (he : P.underlying e = some (.int .u8)) (hd : P.underlying d = some .string) {φ : Nat → Option Nat} {M U : Nat → Prop} {w : World} {H : Hp} {x v : V} {vx : Value}
  (h : redV .b2s [x] = some v) (hx : Sim φ M w H U x vx) : ∃ r, (convert s d vx).run P w = .ok r w ∧ Sim φ M w H U v r := by
 unfold redV at h
 split at h
 all_goals first | (cases h; done) | skip
 all_goals rename_i heq heq2
 all_goals first | (cases heq; done) | (cases heq2; done) | skip
 ·rename_i xs
  simp only [List.cons.injEq, and_true] at heq2
  subst heq2
  simp only [Option.map_eq_some_iff] at h
  obtain ⟨l, h1, rfl⟩ := h
  obtain ⟨ns, rfl, rfl⟩ := byte_at h1
  cases hx with
  | pur hx =>
   generalize hxs : ns.map (V.int .u8) = xs at hx
   cases hx with
   | sl0 a cap =>
    have : ns = [] := by simpa using hxs
    subst this
    refine ⟨.string (strOfNums []), ?_, .pur (.str _)⟩
    cases a with
    | none => exact run_convert_bytes_nil (P := P) w s e hs he 0 cap d hd
    | some a =>
     simp [convert, run_underlying hs, run_underlying hd, run_underlying he, Conv.bytesToString, loadCells, loadCellsFrom, strOfNums]
     rfl
   | sl xs ad cap size arr ty fr hsp hb hm hsz hin hcap hc =>
    obtain ⟨b, off, sp⟩ := ad
    simp at hsp; subst hsp
    have hl : xs.length = ns.length := by rw [← hxs]; simp
    refine ⟨.string (strOfNums ns), run_convert_bytes_arg (P := P) w s e hs he b off xs.length cap ns hl.symm (fun i hi => ?_) d hd, .pur (.str _)⟩
    have hxi : xs.getD i .junk = .int .u8 (ns.getD i 0) := by
     rw [← hxs]
     simp [List.getD_eq_getElem?_getD, show i < ns.length by omega]
    have h1 : size = 1 := by rw [← hsz i hi, hxi]; rfl
    subst h1
    have := hc i 0 hi (by omega)
    rw [hxi] at this
    simp only [V.cells, List.getD_cons_zero, Nat.mul_one, Nat.add_zero] at this
    have h2 := (Sim.int_inv (φ := φ) (M := M) (w := w) (H := H) (U := U) (.pur this))
    have hlt : off + i < arr.size := by simp at hin; omega
    simp only [World.cell?] 
    simp at hb
    rw [hb]
    show arr[off + i]? = _
    rw [zdu (d := Go.undef) hlt, h2]
 ·simp only [List.cons.injEq, and_true] at heq2
  subst heq2
  cases h
  cases hx with
  | pur hx =>
   cases hx with
   | nil a =>
    refine ⟨.string (strOfNums []), ?_, .pur (.str _)⟩
    cases a with
    | none => exact run_convert_bytes_nil (P := P) w s e hs he 0 0 d hd
    | some a =>
     simp [convert, run_underlying hs, run_underlying hd, run_underlying he, Conv.bytesToString, loadCells, loadCellsFrom, strOfNums]
     rfl

theorem s2b_sound {P : Program} {s d e : TypeId} {u : TypeDesc} (hs : P.underlying s = some u) (hd : P.underlying d = some (.slice e)) (he : P.underlying e = some (.int .u8)) {φ : Nat → Option Nat} {M U U' : Nat → Prop} {w : World} {H : Hp} {b : ByteArray}
  (hp : HpOk φ M w H U) (Mb : ∀ g, M g → g < w.heap.size) (hU : ∀ b, U b → U' b) :
  ∃ r w', (convert s d (.string b)).run P w = .ok r w' ∧ Trans φ φ M M U U' w w' H H ∧ Sim φ M w' H U' (.sl (b.data.toList.map fun c => .int .u8 c.toNat)) r := by
 have hbel : Below w.heap.size w (Lib.bytesWorld w e b) := ⟨rfl, rfl, rfl, by rw [Lib.bytesWorld_size]; omega, fun k hk => Lib.bytesWorld_at_old w e b k hk⟩
 refine ⟨_, _, Lib.run_convert_string_bytes w s d e b hs hd he, Trans.below hp hU hbel, .pur ?_⟩
 have hlen : (b.data.toList.map fun c => V.int .u8 c.toNat).length = b.size := by rw [List.length_map, Array.length_toList]; rfl
 have hg : ∀ i, i < b.size → (b.data.toList.map fun c => V.int .u8 c.toNat).getD i .junk = .int .u8 (b.data.toList.getD i 0).toNat := fun i hi => by
  have hi' : i < b.data.size := hi
  have h2 : b.data[i]? = some b.data[i] := Array.getElem?_eq_getElem hi'
  simp [List.getD_eq_getElem?_getD, h2]
 have := Pur.sl (M := M) (w := Lib.bytesWorld w e b) (b.data.toList.map fun c => V.int .u8 c.toNat) ⟨w.heap.size, 0, none⟩ (grownCap w b.size 0 e) 1 _ e _ rfl (Lib.bytesWorld_at_new w e b) (fun hM => by have := Mb _ hM; simp at this) (fun i hi => by
  rw [hg i (by omega)]; rfl) (by rw [hlen]; show 0 + b.size * 1 ≤ _; unfold Lib.bytesCells; rw [Array.size_append, Array.size_map]; show 0 + b.size * 1 ≤ b.size + _; omega) (by rw [hlen]; exact grownCap_ge w _ _ _) (fun i j hi hj => by
  obtain rfl : j = 0 := by omega
  rw [hlen] at hi
  rw [hg i hi]
  show Pur M _ (.int .u8 _) ((Lib.bytesCells w e b).getD (0 + i * 1 + 0) Go.undef)
  have hi' : i < b.data.size := hi
  have : (Lib.bytesCells w e b).getD (0 + i * 1 + 0) Go.undef = .int .u8 (b.data.toList.getD i 0).toNat := by
   have h2 : b.data[i]? = some b.data[i] := Array.getElem?_eq_getElem hi'
   simp [Lib.bytesCells, Array.getD_eq_getD_getElem?, Array.getElem?_append, hi, h2, List.getD_eq_getElem?_getD]
  rw [this]
  exact .int _ _)
 rwa [hlen] at this

theorem byte_row {xs : List V} {l : List UInt8} (h : allOf byteV xs = some l) : rowOk 1 xs = true := by
 obtain ⟨ns, rfl, _⟩ := byte_at h
 unfold rowOk
 simp [List.all_eq_true, V.isJunk, V.cells, V.cellOk]
theorem b2sO_run {P : Program} {s d e : TypeId} (hs : P.underlying s = some (.slice e)) (he : P.underlying e = some (.int .u8)) (hd : P.underlying d = some .string) {φ : Nat → Option Nat} {M U : Nat → Prop} {w : World} {H H' : Hp} {id : Nat} {x v : V} {vx : Value}
  (hp : HpOk φ M w H U) (h : effV H id .b2sO [x] = some (v, H')) (hx : Sim φ M w H U x vx) : H' = H ∧ ∃ r, (convert s d vx).run P w = .ok r w ∧ Sim φ M w H U v r := by
 simp only [effV, Option.map_eq_some_iff, Prod.mk.injEq] at h
 obtain ⟨l, h1, rfl, rfl⟩ := h
 rw [Option.bind_eq_some_iff] at h1
 obtain ⟨xs, h2, h3⟩ := h1
 refine ⟨rfl, ?_⟩
 have hrow := byte_row h3
 obtain ⟨ns, hns, rfl⟩ := byte_at h3
 have key : Sim φ (fun _ => False) w H U (.sl xs) vx := by
  rcases row_cells hp h2 hx hrow with ⟨ad, cap, arr, ty, fr, rfl, q1, q2, q3, q4, q5⟩ | ⟨rfl, a, c, rfl⟩
  ·refine .pur (.sl xs ad cap 1 arr ty fr q1 q2 (fun h => h) (fun i hi => (zf2 hrow hi).1) q3 q4 fun i j hi hj => ?_)
   have h5 := q5 i j hi hj
   obtain rfl : j = 0 := by omega
   have hxi : xs.getD i .junk = .int .u8 (ns.getD i 0) := by
    rw [hns]
    have hi' : i < ns.length := by rw [hns] at hi; simpa using hi
    simp [List.getD_eq_getElem?_getD, hi']
   rw [hxi] at h5 ⊢
   simp only [V.cells, List.getD_cons_zero] at h5 ⊢
   rw [h5.int_inv]
   exact .int _ _
  ·exact .pur (.sl0 _ _)
 obtain ⟨r, hr, hrs⟩ := b2s_run (P := P) hs he hd (x := .sl xs) (v := .str ⟨(ns.map fun n => UInt8.ofNat n.toNat).toArray⟩) (by simp only [redV, h3, Option.map_some]) key
 exact ⟨r, hr, by
  have := hrs.str_inv
  subst this
  exact .pur (.str _)⟩
def Hp.minus (g : Nat → Option (List V)) (H : Hp) : Hp := fun b => if (g b).isSome then none else H b
theorem Trans.frd {φ : Nat → Option Nat} {M U : Nat → Prop} {w : World} {H : Hp} {g : Nat → Option (List V)} (hp : HpOk φ M w H U) (hg : Fz H g) : Trans φ φ M (Mz φ M g) U U w w H (H.minus g) := by
 have back : ∀ b x, H.minus g b = some x → H b = some x ∧ g b = none := fun b x h => by
  unfold Hp.minus at h
  split at h
  ·cases h
  ·rename_i hgb; exact ⟨h, by simpa using hgb⟩
 have ne : ∀ b, H.minus g b ≠ none → H b ≠ none := fun b hx => by
  cases he : H.minus g b with
  | none => exact absurd he hx
  | some x => obtain ⟨h1, _⟩ := back b x he; simp [h1]
 have K : Carry φ φ M (Mz φ M g) w w H (H.minus g) U U := ⟨fun k o h1 h2 => ⟨h1, fun h3 => h2 h3.1⟩, fun _ h => h, fun b n x _ h blk h1 h2 => h blk (back _ _ h1).1 h2, fun b n p _ h blk h1 h2 => h blk (back _ _ h1).1 h2⟩
 refine { carry := K, hp := ⟨fun b x hx => ?_, fun b c k hb hc e1 e2 => hp.inj b c k (ne b hb) (ne c hc) e1 e2⟩, Mb := fun h k hk => h k hk.1, M1 := fun k hk => .inl hk.1, M2 := fun k hk => ?_, os := rfl, tape := rfl, output := rfl, size := Nat.le_refl _, old := fun _ _ _ => rfl, loc := fun b k hb hk => .inl ⟨b, ne b hb, hk⟩ }
 ·obtain ⟨k1, hgb⟩ := back b x hx
  obtain ⟨q1, q2, q3⟩ := hp.blk b x k1
  refine ⟨q1, q2, ?_⟩
  rcases q3 with q3 | ⟨k, arr, ty, e1, e2, e3, e4, e5⟩
  ·exact .inl q3
  ·refine .inr ⟨k, arr, ty, e1, e2, e3, fun i j hi hj => (e4 i j hi hj).carry K, e5, fun ⟨c, c1, c2⟩ => ?_⟩
   obtain ⟨xs, hxs⟩ := Option.isSome_iff_exists.1 c1
   obtain ⟨blk2, d1, _⟩ := hg c xs hxs
   have := hp.inj b c k (by simp [k1]) (by simp [d1]) e1 c2
   subst this
   rw [hgb] at c1; simp at c1
 ·by_cases hc : ∃ b, (g b).isSome = true ∧ φ b = some k
  ·obtain ⟨b, h1, h2⟩ := hc
   obtain ⟨xs, hxs⟩ := Option.isSome_iff_exists.1 h1
   obtain ⟨blk, d1, _⟩ := hg b xs hxs
   exact .inr ⟨b, by simp [d1], h2⟩
  ·exact .inl ⟨hk, hc⟩
theorem Trans.then_frd {φ φ' : Nat → Option Nat} {M M' U U' : Nat → Prop} {w w' : World} {H H' : Hp} {g : Nat → Option (List V)} (Mb : ∀ k, M k → k < w.heap.size) (t : Trans φ φ' M M' U U' w w' H H') (hg : Fz H' g) : Trans φ φ' M (Mz φ' M' g) U U' w w' H (H'.minus g) := by
 have t2 := Trans.frd t.hp hg
 have ne : ∀ b, H'.minus g b ≠ none → H' b ≠ none := fun b hx e => hx (by unfold Hp.minus; split <;> first | rfl | exact e)
 exact { carry := t.carry.trans t2.carry, hp := t2.hp, Mb := fun h => t2.Mb (t.Mb h), M1 := fun k hk => t.M1 k hk.1, M2 := fun k hk => (by
  rcases t.M2 k hk with h | h
  ·rcases t2.M2 k h with h | ⟨b, h1, h2⟩
   ·exact .inl h
   ·rcases t.loc b k h1 h2 with h | h
    ·exact .inr h
    ·have := Mb k hk; omega
  ·exact .inr h), os := t.os, tape := t.tape, output := t.output, size := t.size, old := t.old, loc := fun b k hb hk => t.loc b k (ne b hb) hk }
theorem mkz_sound {P : Program} {t e : TypeId} {bytes : Nat} {k : IntKind} (ht : P.underlying t = some (.slice e)) (hr : tyRow P e 1 (some bytes) (some (.int k 0)) = true) {φ : Nat → Option Nat} {M U U' : Nat → Prop} {w : World} {H : Hp} {id : Nat} {l c v : V} {vl vc : Value}
  (hp : HpOk φ M w H U) (Mb : ∀ g, M g → g < w.heap.size) (hU : ∀ b, U b → U' b) (hid : U' id) (hnew : ¬ U id) (h : redV (.mkz bytes k) [l, c] = some v) (hl : Sim φ M w H U l vl) (hc : Sim φ M w H U c vc) :
  ∃ r w' φ' M', (Instr.makeSlice t vl vc).run P w = .ok r w' ∧ Trans φ φ' M M' U U' w w' H H ∧ Sim φ' M' w' H U' v r := by
 obtain ⟨n, hn, rfl⟩ : ∃ n, newV (.mks 1 bytes (.int k 0)) [l, c] = some (n, ⟨List.replicate n (.int k 0), 1⟩) ∧ v = .sl (List.replicate n (.int k 0)) := by
  obtain ⟨kl, lv, kc, cv, rfl, rfl⟩ : ∃ kl lv kc cv, l = .int kl lv ∧ c = .int kc cv := by
   cases l <;> cases c <;> simp [redV] at h
   exact ⟨_, _, _, _, rfl, rfl⟩
  simp only [redV] at h
  split at h
  ·rename_i hcond
   cases h
   refine ⟨lv.toNat, ?_, rfl⟩
   simp only [newV]
   rw [if_pos ⟨hcond.1, hcond.2.1, hcond.2.2.1, hcond.2.2.2, rfl, by decide⟩]
  ·cases h
 obtain ⟨r, w', φ', M', h1, h2, h3⟩ := mks_sound ht hr hp Mb hU hid hnew hn hl hc
 have hH : H id = none := by
  cases hx : H id with
  | none => rfl
  | some x => exact absurd (hp.blk id x hx).1 hnew
 let g : Nat → Option (List V) := fun b => if b = id then some (List.replicate n (.int k 0)) else none
 have hz : (List.replicate n (V.int k 0)).map (V.sub g) = List.replicate n (.int k 0) := by rw [List.map_replicate]; simp [V.sub]
 have hg : Fz (H.upd id (some ⟨List.replicate n (.int k 0), 1⟩)) g := fun b xs hb => by
  by_cases hbi : b = id
  ·subst hbi
   have : xs = List.replicate n (.int k 0) := by simpa [g] using hb.symm
   subst this
   refine ⟨_, Hp.upd_same _ _ _, hz.symm, fun x hx y hy => ?_⟩
   obtain ⟨_, rfl⟩ := List.mem_replicate.1 hx
   simp [V.cells] at hy
   subst hy
   exact .int _ _
  ·simp [g, hbi] at hb
 have t := Trans.then_frd Mb h2 hg
 have e : (H.upd id (some ⟨List.replicate n (.int k 0), 1⟩)).minus g = H := by
  funext b
  by_cases hbi : b = id
  ·subst hbi; simp [Hp.minus, g, hH]
  ·simp [Hp.minus, g, hbi, Hp.upd_ne _ _ hbi]
 rw [e] at t
 have s := sub_sim h2.hp hg h3
 have e2 : V.sub g (.own id n) = .sl (List.replicate n (.int k 0)) := by simp [V.sub, g]
 rw [e2] at s
 exact ⟨r, w', φ', _, h1, t, .pur (s.toPur (.sl _))⟩
theorem bsz_sound {P : Program} {t e : TypeId} (ht : P.underlying t = some (.slice e)) (hr : tyRow P e 1 none none = true) {φ : Nat → Option Nat} {M U U' : Nat → Prop} {w : World} {H : Hp} {id : Nat} {vs : List V} {vals : List Value} {v : V}
  (hp : HpOk φ M w H U) (Mb : ∀ g, M g → g < w.heap.size) (hU : ∀ b, U b → U' b) (hid : U' id) (hnew : ¬ U id) (h : redV .bsz vs = some v) (hl : vals.length = vs.length)
  (hs : ∀ i, i < vs.length → Sim φ M w H U (vs.getD i .junk) (vals.getD i Go.undef)) :
  ∃ r w' φ' M', (Instr.buildSlice t vals.length ((List.range vals.length).zip vals).toArray).run P w = .ok r w' ∧ Trans φ φ' M M' U U' w w' H H ∧ Sim φ' M' w' H U' v r := by
 simp only [redV] at h
 split at h
 rotate_left
 ·cases h
 rename_i hcond
 cases h
 have hsl : ∀ x ∈ vs, (∃ xs, x = .sl xs) ∨ ∃ k n, x = .int k n := fun x hx => by
  have := List.all_eq_true.1 hcond.1 x hx
  cases x <;> simp [V.isSl] at this
  ·exact .inr ⟨_, _, rfl⟩
  ·exact .inl ⟨_, rfl⟩
 have hn : newV (.bsl 1) vs = some (vs.length, ⟨vs, 1⟩) := by
  simp only [newV]
  rw [if_pos ⟨List.all_eq_true.2 fun x hx => by rcases hsl x hx with ⟨xs, rfl⟩ | ⟨k, n, rfl⟩ <;> rfl, by omega, by decide⟩]
 obtain ⟨r, w', φ', M', h1, h2, h3⟩ := bsl_sound ht hr hp Mb hU hid hnew hn hl hs
 have hH : H id = none := by
  cases hx : H id with
  | none => rfl
  | some x => exact absurd (hp.blk id x hx).1 hnew
 let g : Nat → Option (List V) := fun b => if b = id then some vs else none
 have hz : vs.map (V.sub g) = vs := by
  have : vs.map (V.sub g) = vs.map _root_.id := List.map_congr_left fun x hx => by rcases hsl x hx with ⟨xs, rfl⟩ | ⟨k, n, rfl⟩ <;> simp [V.sub]
  simpa using this
 have hg : Fz (H.upd id (some ⟨vs, 1⟩)) g := fun b xs hb => by
  by_cases hbi : b = id
  ·subst hbi
   have : xs = vs := by simpa [g] using hb.symm
   subst this
   refine ⟨_, Hp.upd_same _ _ _, hz.symm, fun x hx y hy => ?_⟩
   rcases hsl x hx with ⟨ys, rfl⟩ | ⟨k, n, rfl⟩
   ·simp [V.cells] at hy
    subst hy
    exact .sl _
   ·simp [V.cells] at hy
    subst hy
    exact .int _ _
  ·simp [g, hbi] at hb
 have t := Trans.then_frd Mb h2 hg
 have e : (H.upd id (some ⟨vs, 1⟩)).minus g = H := by
  funext b
  by_cases hbi : b = id
  ·subst hbi; simp [Hp.minus, g, hH]
  ·simp [Hp.minus, g, hbi, Hp.upd_ne _ _ hbi]
 rw [e] at t
 have s := sub_sim h2.hp hg h3
 have e2 : V.sub g (.own id vs.length) = .sl vs := by simp [V.sub, g]
 rw [e2] at s
 exact ⟨r, w', φ', _, h1, t, .pur (s.toPur (.sl _))⟩
end Go.Gim

import Derived.Test.YtjmbcnfhonfpkaaGreatDoorF5
import Derived.Laws.MakeOwn
import Derived.Laws.AppendOwn
import Derived.Lib.ConvBytes
import Derived.Laws.Slices
/- What one operation does, rows: what is told to others is written no more; rows made, turned, put on. -/
set_option linter.unusedVariables false
set_option linter.unusedSimpArgs false
namespace Go.Gim
open Go.RowKit

theorem allOf_at {α β : Type} {f : α → Option β} : ∀ {l : List α} {r : List β}, allOf f l = some r → r.length = l.length ∧ ∀ (i : Nat) (da : α) (db : β), i < l.length → f (l.getD i da) = some (r.getD i db)
 | [], r, h => by simp [allOf] at h; subst h; exact ⟨rfl, fun i _ _ hi => by simp at hi⟩
 | x :: l, r, h => by
  simp only [allOf] at h
  split at h
  ·rename_i y ys h1 h2
   simp at h; subst h
   obtain ⟨h3, h4⟩ := allOf_at h2
   refine ⟨by simp [h3], fun i da db hi => ?_⟩
   cases i with
   | zero => simpa using h1
   | succ i => simpa using h4 i da db (by simpa using hi)
  ·cases h

theorem frz_cells {H : Hp} {n : Nat} {v r : V} (h : frz H n v = some r) : r.cells.length = v.cells.length ∧ ∀ j, j < v.cells.length → ∃ m, m ≤ n ∧ frz H m (v.cells.getD j .junk) = some (r.cells.getD j .junk) := by
 cases n with
 | zero => simp [frz] at h
 | succ n =>
  have self : ∀ (v r : V), frz H (n + 1) v = some r → v.isAgg = false → r.isAgg = false → r.cells.length = v.cells.length ∧ ∀ j, j < v.cells.length → ∃ m, m ≤ n + 1 ∧ frz H m (v.cells.getD j .junk) = some (r.cells.getD j .junk) := fun v r h h1 h2 => by
   rw [zey h1, zey h2]
   refine ⟨rfl, fun j hj => ⟨n + 1, Nat.le_refl _, ?_⟩⟩
   obtain rfl : j = 0 := by simpa using hj
   simpa using h
  have h' := h
  simp only [frz] at h
  split at h
  ·simp only [Option.map_eq_some_iff] at h
   obtain ⟨cs', h1, rfl⟩ := h
   obtain ⟨h2, h3⟩ := allOf_at h1
   exact ⟨h2, fun j hj => ⟨n, by omega, h3 j .junk .junk hj⟩⟩
  ·simp only [Option.map_eq_some_iff] at h
   obtain ⟨cs', h1, rfl⟩ := h
   exact self _ _ h' rfl rfl
  ·simp only [Option.map_eq_some_iff] at h
   obtain ⟨cs', h1, rfl⟩ := h
   exact self _ _ h' rfl rfl
  ·simp at h; subst h; exact self _ _ h' rfl rfl
  ·split at h
   ·split at h
    ·simp only [Option.map_eq_some_iff] at h
     obtain ⟨cs', h1, rfl⟩ := h
     exact self _ _ h' rfl rfl
    ·cases h
   ·cases h
  ·split at h
   ·split at h
    ·split at h
     ·simp only [Option.map_eq_some_iff] at h
      obtain ⟨cs', h1, rfl⟩ := h
      exact self _ _ h' rfl rfl
     ·cases h
    ·cases h
   ·cases h
  ·cases h
  ·rename_i hne _ _ _ _ _ _
   simp at h; subst h
   have : v.isAgg = false := by cases v <;> first | rfl | exact absurd rfl (hne _)
   exact self _ _ h' this this

theorem frz_sound {φ : Nat → Option Nat} {M U : Nat → Prop} {w : World} {H : Hp} {M0 : Nat → Prop} (hp : HpOk φ M w H U) (h0 : ∀ g, M0 g → M g) (hl : ∀ b g, H b ≠ none → φ b = some g → ¬ M0 g) : ∀ (n : Nat) (v r : V) (x : Value), frz H n v = some r → Sim φ M w H U v x → Pur M0 w r x := by
 intro n
 induction n using Nat.strongRecOn with
 | _ n ih =>
  intro v r x h hs
  have toM0 : ∀ {v x}, Pur M w v x → Pur M0 w v x := fun h => h.mono fun g o h1 h2 => ⟨h1, fun h3 => h2 (h0 g h3)⟩
  cases n with
  | zero => simp [frz] at h
  | succ n =>
   simp only [frz] at h
   -- the cells of an own block
   have block : ∀ b blk, H b = some blk → ∀ (xs : List V), allOf (frz H n) blk.elems = some xs → ∀ g arr ty, φ b = some g → w.heap[g]? = some (.cells arr ty (0, 0)) → 
     (∀ i, i < xs.length → (xs.getD i .junk).cells.length = blk.size) ∧ xs.length = blk.elems.length ∧ blk.elems.length * blk.size ≤ arr.size ∧ ¬ M0 g ∧
     ∀ i j, i < xs.length → j < blk.size → Pur M0 w ((xs.getD i .junk).cells.getD j .junk) (arr.getD (i * blk.size + j) Go.undef) := by
    intro b blk hb xs hxs g arr ty hg ha
    obtain ⟨k1, k2, k3⟩ := hp.blk b blk hb
    obtain ⟨x1, x2⟩ := allOf_at hxs
    rcases k3 with ⟨k3, _⟩ | ⟨g', arr', ty', e1, e2, e3, e4, e5⟩
    ·rw [k3] at hg; cases hg
    ·rw [hg] at e1; cases e1
     rw [ha] at e2; cases e2
     refine ⟨fun i hi => ?_, x1, e3, hl b g (by simp [hb]) hg, fun i j hi hj => ?_⟩
     ·rw [(frz_cells (x2 i .junk .junk (by omega))).1]
      exact k2 i (by omega)
     ·obtain ⟨m, hm, hf⟩ := (frz_cells (x2 i .junk .junk (by omega))).2 j (by rw [k2 i (by omega)]; exact hj)
      exact ih m (by omega) _ _ _ hf (e4 i j (by omega) hj)
   split at h
   ·-- agg
    simp only [Option.map_eq_some_iff] at h
    obtain ⟨cs', h1, rfl⟩ := h
    obtain ⟨h2, h3⟩ := allOf_at h1
    obtain ⟨arr, rfl, e1, e2⟩ := hs.agg_inv
    exact .agg _ _ (by omega) fun i hi => ih n (by omega) _ _ _ (h3 i .junk .junk (by omega)) (e2 i (by omega))
   ·simp only [Option.map_eq_some_iff] at h
    obtain ⟨cs', h1, rfl⟩ := h
    obtain ⟨h2, h3⟩ := allOf_at h1
    obtain ⟨arr, rfl, e1, e2⟩ := hs.tup_inv
    exact .tup _ _ (by omega) fun i hi => ih n (by omega) _ _ _ (h3 i .junk .junk (by omega)) (e2 i (by omega))
   ·simp only [Option.map_eq_some_iff] at h
    obtain ⟨cs', h1, rfl⟩ := h
    obtain ⟨h2, h3⟩ := allOf_at h1
    obtain ⟨arr, rfl, e1, e2⟩ := hs.fn_inv
    exact .fn _ _ _ (by omega) fun i hi => ih n (by omega) _ _ _ (h3 i .junk .junk (by omega)) (e2 i (by omega))
   ·simp at h; subst h
    cases hs with
    | pur h => cases h; exact .sl0 _ _
   ·-- own
    rename_i b m
    cases hb : H b with
    | none => simp [hb] at h
    | some blk =>
     simp only [hb] at h
     split at h
     ·rename_i hm
      simp only [Option.map_eq_some_iff] at h
      obtain ⟨xs, h1, rfl⟩ := h
      cases hs with
      | pur h => cases h
      | own b n' x hUb hx ho =>
       rcases ho blk hb hm with ⟨_, rfl, rfl⟩ | ⟨g, cap, arr, ty, a1, rfl, a3, a4, a5⟩
       ·have : blk.elems = [] := by simpa using hm
        rw [this] at h1
        simp [allOf] at h1; subst h1
        exact .sl0 _ _
       ·obtain ⟨b1, b2, b3, b4, b5⟩ := block b blk hb xs h1 g arr ty a1 a3
        have hlen : xs.length = m := by omega
        have := Pur.sl (M := M0) (w := w) xs ⟨g, 0, none⟩ cap blk.size arr ty (0, 0) rfl a3 b4 b1 (by rw [b2]; show 0 + _ ≤ _; omega) (by omega) (fun i j hi hj => by
         show Pur M0 w _ (arr.getD (0 + i * blk.size + j) Go.undef)
         rw [Nat.zero_add]; exact b5 i j hi hj)
        rwa [hlen] at this
     ·cases h
   ·-- ptr
    rename_i b m i off
    cases hb : H b with
    | none => simp [hb] at h
    | some blk =>
     simp only [hb] at h
     split at h
     ·rename_i hm
      obtain ⟨hm, rfl⟩ := hm
      split at h
      ·rename_i e he
       simp only [Option.map_eq_some_iff] at h
       obtain ⟨u, h1, rfl⟩ := h
       obtain ⟨g, arr, ty, p1, rfl, p3, p4, p5, p6, p7, p8⟩ := zib hp hs hb hm he
       obtain ⟨f1, f2⟩ := frz_cells h1
       have hrow : i * blk.size + blk.size ≤ arr.size := by
        have : (i + 1) * blk.size ≤ blk.elems.length * blk.size := Nat.mul_le_mul_right _ (by omega)
        rw [Nat.add_mul, Nat.one_mul] at this; omega
       refine .pp u ⟨g, i * blk.size + 0, none⟩ arr ty (0, 0) rfl p3 (hl b g (by simp [hb]) p1) (by show i * blk.size + 0 + _ ≤ _; omega) fun j hj => ?_
       obtain ⟨k, hk, hf⟩ := f2 j (by omega)
       have := ih k (by omega) _ _ _ hf (p7 j (by omega))
       simpa using this
      ·cases h
     ·cases h
   ·cases h
   ·-- all else is data as it stands
    rename_i h1 h2 h3 h4 h5 h6 h7
    simp at h; subst h
    cases hs with
    | pur h => exact toM0 h
    | own b n x _ _ _ => exact absurd rfl (h5 _ _)
    | ptr b n i off x _ _ _ => exact absurd rfl (h6 _ _ _ _)
    | win b n off len x _ _ _ => exact absurd rfl (h7 _ _ _ _)
    | agg cs arr _ _ => exact absurd rfl (h1 _)
    | tup cs arr _ _ => exact absurd rfl (h2 _)
    | fn f cs arr _ _ => exact absurd rfl (h3 _ _)


theorem getD_map {α β : Type} (f : α → β) {l : List α} {i : Nat} {d : α} {e : β} (h : i < l.length) : (l.map f).getD i e = f (l.getD i d) := by simp [List.getD_eq_getElem?_getD, h]
/-! ### Rows that are written no more -/
theorem zgw (g : Nat → Option (List V)) (v : V) : (v.sub g).cells = v.cells.map (V.sub g) := by
 cases v with
 | agg cs => rw [sub_agg]; rfl
 | tup cs => rw [sub_tup]; simp [V.cells, sub_tup]
 | fn f cs => rw [sub_fn]; simp [V.cells, sub_fn]
 | own b m =>
  have : ∀ u : V, u.isAgg = false → u.cells = [u] := fun u h => zey h
  rw [this]
  ·rfl
  ·simp only [V.sub]
   split
   ·split <;> rfl
   ·rfl
 | ptr b m i off =>
  have : ∀ u : V, u.isAgg = false → u.cells = [u] := fun u h => zey h
  rw [this]
  ·rfl
  ·simp only [V.sub]
   split
   ·split
    ·split <;> rfl
    ·rfl
   ·rfl
 | _ => simp [V.sub, V.cells]
theorem zct (g : Nat → Option (List V)) : ∀ {v : V}, v.Pure → v.sub g = v := by
 intro v h
 induction h with
 | agg cs _ ih => rw [sub_agg]; congr 1; simpa using List.map_congr_left (g := id) (fun c hc => ih c hc)
 | tup cs _ ih => rw [sub_tup]; congr 1; simpa using List.map_congr_left (g := id) (fun c hc => ih c hc)
 | fn f cs _ ih => rw [sub_fn]; congr 1; simpa using List.map_congr_left (g := id) (fun c hc => ih c hc)
 | _ => simp [V.sub]
theorem Pur.pure {M : Nat → Prop} {w : World} {v : V} {x : Value} (h : Pur M w v x) : v.Pure := by
 induction h with
 | int k n => simp
 | bool b => simp
 | str s => simp
 | undef => simp
 | junk x => simp
 | nilptr => simp
 | nilfn => simp
 | nil a => simp
 | agg cs arr hn _ ih => rw [V.pure_agg]; intro c hc; obtain ⟨i, hi, rfl⟩ := List.mem_iff_getElem.1 hc; simpa [List.getD_eq_getElem?_getD, hi] using ih i hi
 | tup cs arr hn _ ih => rw [V.pure_tup]; intro c hc; obtain ⟨i, hi, rfl⟩ := List.mem_iff_getElem.1 hc; simpa [List.getD_eq_getElem?_getD, hi] using ih i hi
 | fn f cs arr hn _ ih => rw [V.pure_fn]; intro c hc; obtain ⟨i, hi, rfl⟩ := List.mem_iff_getElem.1 hc; simpa [List.getD_eq_getElem?_getD, hi] using ih i hi
 | sl0 => simp
 | sl => simp
 | pp => simp
theorem cell_size {e c : V} (h : c ∈ e.cells) : SizeOf.sizeOf c ≤ SizeOf.sizeOf e := by
 cases e with
 | agg cs => have := List.sizeOf_lt_of_mem (show c ∈ cs from h); simp; omega
 | _ => simp only [V.cells, List.mem_singleton] at h; rw [h]; exact Nat.le_refl _
def Mz (φ : Nat → Option Nat) (M : Nat → Prop) (g : Nat → Option (List V)) : Nat → Prop := fun k => M k ∧ ¬ ∃ b, (g b).isSome = true ∧ φ b = some k
theorem sub_pur {φ : Nat → Option Nat} {M U : Nat → Prop} {w : World} {H : Hp} {g : Nat → Option (List V)} (hp : HpOk φ M w H U) (hg : Fz H g) : ∀ (n : Nat) (v : V) (x : Value), SizeOf.sizeOf (v.sub g) ≤ n → (v.sub g).Pure → Sim φ M w H U v x → Pur (Mz φ M g) w (v.sub g) x := by
 intro n
 induction n with
 | zero =>
  intro v x hn
  exfalso
  cases h : v.sub g <;> rw [h] at hn <;> simp at hn
 | succ n ih =>
  intro v x hn hpu hs
  have asis : v.Pure → v.sub g = v → Pur (Mz φ M g) w (v.sub g) x := fun h e => by rw [e]; exact (hs.toPur h).mono fun k o h1 h2 => ⟨h1, fun h3 => h2 h3.1⟩
  have szm : ∀ {cs : List V} {c : V}, c ∈ cs → SizeOf.sizeOf c < SizeOf.sizeOf cs := fun h => List.sizeOf_lt_of_mem h
  cases v with
  | agg cs =>
   rw [sub_agg] at hn hpu ⊢
   rw [V.pure_agg] at hpu
   obtain ⟨arr, rfl, e1, e2⟩ := hs.agg_inv
   refine .agg _ _ (by simpa using e1) fun i hi => ?_
   have hi' : i < cs.length := by simpa using hi
   have he : (cs.map (V.sub g)).getD i .junk = (cs.getD i .junk).sub g := by simp [List.getD_eq_getElem?_getD, hi']
   have hm : (cs.getD i .junk).sub g ∈ cs.map (V.sub g) := List.mem_map.2 ⟨_, zce hi', rfl⟩
   rw [he]
   have := szm hm
   exact ih _ _ (by simp at hn; omega) (hpu _ hm) (e2 i hi')
  | tup cs =>
   rw [sub_tup] at hn hpu ⊢
   rw [V.pure_tup] at hpu
   obtain ⟨arr, rfl, e1, e2⟩ := hs.tup_inv
   refine .tup _ _ (by simpa using e1) fun i hi => ?_
   have hi' : i < cs.length := by simpa using hi
   have he : (cs.map (V.sub g)).getD i .junk = (cs.getD i .junk).sub g := by simp [List.getD_eq_getElem?_getD, hi']
   have hm : (cs.getD i .junk).sub g ∈ cs.map (V.sub g) := List.mem_map.2 ⟨_, zce hi', rfl⟩
   rw [he]
   have := szm hm
   exact ih _ _ (by simp at hn; omega) (hpu _ hm) (e2 i hi')
  | fn f cs =>
   rw [sub_fn] at hn hpu ⊢
   rw [V.pure_fn] at hpu
   obtain ⟨arr, rfl, e1, e2⟩ := hs.fn_inv
   refine .fn _ _ _ (by simpa using e1) fun i hi => ?_
   have hi' : i < cs.length := by simpa using hi
   have he : (cs.map (V.sub g)).getD i .junk = (cs.getD i .junk).sub g := by simp [List.getD_eq_getElem?_getD, hi']
   have hm : (cs.getD i .junk).sub g ∈ cs.map (V.sub g) := List.mem_map.2 ⟨_, zce hi', rfl⟩
   rw [he]
   have := szm hm
   exact ih _ _ (by simp at hn; omega) (hpu _ hm) (e2 i hi')
  | own b m =>
   cases hgb : g b with
   | none => simp [V.sub, hgb] at hpu
   | some xs =>
    by_cases hm : xs.length = m
    ·have hv : (V.own b m).sub g = .sl xs := by simp [V.sub, hgb, hm]
     rw [hv] at hn ⊢
     obtain ⟨blk, hb, hxs, hxp⟩ := hg b xs hgb
     have hbl : blk.elems.length = xs.length := by rw [hxs]; simp
     cases hs with
     | pur h => cases h
     | own b m x hU hx ho =>
      rcases ho blk hb (by omega) with ⟨_, rfl, rfl⟩ | ⟨k, cap, arr, ty, a1, rfl, a3, a4, a5⟩
      ·have : xs = [] := List.eq_nil_of_length_eq_zero hm
       subst this; exact .sl0 _ _
      ·obtain ⟨k1, k2, k3⟩ := hp.blk b blk hb
       rcases k3 with ⟨z1, _⟩ | ⟨k', arr', ty', e1, e2, e3, e4, e5⟩
       ·rw [z1] at a1; cases a1
       rw [a1] at e1; cases e1
       rw [a3] at e2; cases e2
       have hel : ∀ i, i < xs.length → xs.getD i .junk = (blk.elems.getD i .junk).sub g := fun i hi => by
        have : i < blk.elems.length := by omega
        rw [hxs]; simp [List.getD_eq_getElem?_getD, this]
       have := Pur.sl (M := Mz φ M g) (w := w) xs ⟨k, 0, none⟩ cap blk.size arr ty (0, 0) rfl a3 (fun h => h.2 ⟨b, by simp [hgb], a1⟩) (fun i hi => by
        rw [hel i hi, zgw, List.length_map]; exact k2 i (by omega)) (by show 0 + _ ≤ _; rw [← hbl]; omega) (by omega) (fun i j hi hj => by
        show Pur _ w _ (arr.getD (0 + i * blk.size + j) Go.undef)
        rw [Nat.zero_add]
        have hjl : j < (blk.elems.getD i .junk).cells.length := by rw [k2 i (by omega)]; exact hj
        have hc : ((xs.getD i .junk).cells).getD j .junk = ((blk.elems.getD i .junk).cells.getD j .junk).sub g := by
         rw [hel i hi, zgw, getD_map (V.sub g) hjl]
        have hmem : ((xs.getD i .junk).cells).getD j .junk ∈ (xs.getD i .junk).cells := zce (by rw [hel i hi, zgw, List.length_map]; exact hjl)
        have hp1 := hxp _ (zce hi) _ hmem
        have s1 := szm (zce (d := V.junk) hi)
        have s2 := cell_size hmem
        rw [hc] at hp1 s2 ⊢
        exact ih _ _ (by simp at hn; omega) hp1 (e4 i j (by omega) hj))
       rw [← hm]; exact this
    ·simp [V.sub, hgb, hm] at hpu
  | ptr b m i off =>
   cases hgb : g b with
   | none => simp [V.sub, hgb] at hpu
   | some xs =>
    by_cases hm : xs.length = m ∧ off = 0
    ·obtain ⟨hm, rfl⟩ := hm
     cases hxi : xs[i]? with
     | none => simp [V.sub, hgb, hm, hxi] at hpu
     | some e =>
      have hv : (V.ptr b m i 0).sub g = .pp e := by simp [V.sub, hgb, hm, hxi]
      rw [hv] at hn ⊢
      obtain ⟨blk, hb, hxs, hxp⟩ := hg b xs hgb
      obtain ⟨e0, he0, hee⟩ : ∃ e0, blk.elems[i]? = some e0 ∧ e = e0.sub g := by
       rw [hxs, List.getElem?_map, Option.map_eq_some_iff] at hxi
       obtain ⟨e0, h1, h2⟩ := hxi; exact ⟨e0, h1, h2.symm⟩
      have hbl : blk.elems.length = xs.length := by rw [hxs]; simp
      obtain ⟨k, arr, ty, p1, rfl, p3, p4, p5, p6, p7, p8⟩ := zib hp hs hb (by omega) he0
      have hrow : i * blk.size + blk.size ≤ arr.size := by
       have : (i + 1) * blk.size ≤ blk.elems.length * blk.size := Nat.mul_le_mul_right _ (by omega)
       rw [Nat.add_mul, Nat.one_mul] at this; omega
      have hcl : e.cells.length = blk.size := by rw [hee, zgw, List.length_map]; exact p4
      refine .pp e ⟨k, i * blk.size + 0, none⟩ arr ty (0, 0) rfl p3 (fun h => h.2 ⟨b, by simp [hgb], p1⟩) (by show i * blk.size + 0 + _ ≤ _; omega) fun j hj => ?_
      have hmem : e.cells.getD j .junk ∈ e.cells := zce hj
      have hp1 := hxp e (List.mem_of_getElem? hxi) _ hmem
      have hc : e.cells.getD j .junk = (e0.cells.getD j .junk).sub g := by
       have : j < e0.cells.length := by omega
       rw [hee, zgw, getD_map (V.sub g) this]
      have s2 := cell_size hmem
      rw [hc] at hp1 s2 ⊢
      have := ih _ _ (by simp at hn; omega) hp1 (p7 j (by omega))
      simpa using this
    ·simp [V.sub, hgb, hm] at hpu
  | win b n off len => simp [V.sub] at hpu
  | _ => exact asis (by simp) (by simp [V.sub])
theorem sub_sim {φ : Nat → Option Nat} {M U : Nat → Prop} {w : World} {H : Hp} {g : Nat → Option (List V)} (hp : HpOk φ M w H U) (hg : Fz H g) {v : V} {x : Value} (hs : Sim φ M w H U v x) : Sim φ (Mz φ M g) w (H.sub g) U (v.sub g) x := by
 have back : ∀ b blk', H.sub g b = some blk' → ∃ blk, H b = some blk ∧ blk'.elems.length = blk.elems.length ∧ blk'.size = blk.size ∧ g b = none := fun b blk' h => by
  unfold Hp.sub at h
  split at h
  ·cases h
  ·rename_i hgb
   rw [Option.map_eq_some_iff] at h
   obtain ⟨blk, h1, rfl⟩ := h
   exact ⟨blk, h1, by simp, rfl, by simpa using hgb⟩
 induction hs with
 | pur h => rw [zct g h.pure]; exact .pur (h.mono fun k o h1 h2 => ⟨h1, fun h3 => h2 h3.1⟩)
 | own b n x hb hx h =>
  have hs : Sim φ M w H U (.own b n) x := .own b n x hb hx h
  have keep : Sim φ (Mz φ M g) w (H.sub g) U (.own b n) x := .own b n x hb hx fun blk' h1 h2 => by
   obtain ⟨blk, k1, k2, k3, _⟩ := back b blk' h1
   have := h blk k1 (by omega)
   simpa [OwnOk, k3] using this
  cases hgb : g b with
  | none => simpa [V.sub, hgb] using keep
  | some xs =>
   by_cases hm : xs.length = n
   ·have hv : (V.own b n).sub g = .sl xs := by simp [V.sub, hgb, hm]
    exact .pur (sub_pur hp hg _ _ _ (Nat.le_refl _) (by rw [hv]; simp) hs)
   ·simpa [V.sub, hgb, hm] using keep
 | ptr b n i off x hb hx h =>
  have hs : Sim φ M w H U (.ptr b n i off) x := .ptr b n i off x hb hx h
  have keep : Sim φ (Mz φ M g) w (H.sub g) U (.ptr b n i off) x := .ptr b n i off x hb hx fun blk' h1 h2 => by
   obtain ⟨blk, k1, k2, k3, _⟩ := back b blk' h1
   have := h blk k1 (by omega)
   simpa [k3] using this
  cases hgb : g b with
  | none => simpa [V.sub, hgb] using keep
  | some xs =>
   by_cases hm : xs.length = n ∧ off = 0
   ·cases hxi : xs[i]? with
    | none => simpa [V.sub, hgb, hm, hxi] using keep
    | some e =>
     have hv : (V.ptr b n i off).sub g = .pp e := by simp [V.sub, hgb, hm, hxi]
     exact .pur (sub_pur hp hg _ _ _ (Nat.le_refl _) (by rw [hv]; simp) hs)
   ·simpa [V.sub, hgb, hm] using keep
 | win b n off len x hb hx h =>
  have e : V.sub g (.win b n off len) = .win b n off len := by simp [V.sub]
  rw [e]
  refine .win b n off len x hb hx fun blk' h1 h2 => ?_
  obtain ⟨blk, k1, k2, k3, _⟩ := back b blk' h1
  have := h blk k1 (by omega)
  simpa [k3] using this
 | agg cs arr hn _ ih =>
  rw [sub_agg]
  refine .agg _ _ (by simpa using hn) fun i hi => ?_
  have hi' : i < cs.length := by simpa using hi
  have := ih i hi'
  simpa [List.getD_eq_getElem?_getD, hi'] using this
 | tup cs arr hn _ ih =>
  rw [sub_tup]
  refine .tup _ _ (by simpa using hn) fun i hi => ?_
  have hi' : i < cs.length := by simpa using hi
  have := ih i hi'
  simpa [List.getD_eq_getElem?_getD, hi'] using this
 | fn f cs arr hn _ ih =>
  rw [sub_fn]
  refine .fn _ _ _ (by simpa using hn) fun i hi => ?_
  have hi' : i < cs.length := by simpa using hi
  have := ih i hi'
  simpa [List.getD_eq_getElem?_getD, hi'] using this
theorem Trans.fz {φ : Nat → Option Nat} {M U : Nat → Prop} {w : World} {H : Hp} {g : Nat → Option (List V)} (hp : HpOk φ M w H U) (hg : Fz H g) : Trans φ φ M (Mz φ M g) U U w w H (H.sub g) := by
 have back : ∀ b blk', H.sub g b = some blk' → ∃ blk, H b = some blk ∧ blk' = ⟨blk.elems.map (V.sub g), blk.size⟩ ∧ g b = none := fun b blk' h => by
  unfold Hp.sub at h
  split at h
  ·cases h
  ·rename_i hgb
   rw [Option.map_eq_some_iff] at h
   obtain ⟨blk, h1, rfl⟩ := h
   exact ⟨blk, h1, rfl, by simpa using hgb⟩
 have ne : ∀ b, H.sub g b ≠ none → H b ≠ none := fun b hx => by
  cases he : H.sub g b with
  | none => exact absurd he hx
  | some x => obtain ⟨y, h1, _⟩ := back b x he; simp [h1]
 refine { carry := ⟨fun k o h1 h2 => ⟨h1, fun h3 => h2 h3.1⟩, fun _ h => h, fun b n x _ h blk' e1 e2 => ?_, fun b n p _ h blk' e1 e2 => ?_⟩, hp := ⟨fun b blk' hx => ?_, fun b c k hb hc e1 e2 => hp.inj b c k (ne b hb) (ne c hc) e1 e2⟩, Mb := fun h k hk => h k hk.1, M1 := fun k hk => .inl hk.1, M2 := fun k hk => ?_, os := rfl, tape := rfl, output := rfl, size := Nat.le_refl _, old := fun _ _ _ => rfl, loc := fun b k hb hk => .inl ⟨b, ne b hb, hk⟩ }
 ·obtain ⟨blk, k1, rfl, _⟩ := back b blk' e1
  have := h blk k1 (by simpa using e2)
  simpa [OwnOk] using this
 ·obtain ⟨blk, k1, rfl, _⟩ := back b blk' e1
  exact h blk k1 (by simpa using e2)
 ·obtain ⟨blk, k1, rfl, hgb⟩ := back b blk' hx
  obtain ⟨q1, q2, q3⟩ := hp.blk b blk k1
  have hel : ∀ i, i < blk.elems.length → (blk.elems.map (V.sub g)).getD i .junk = (blk.elems.getD i .junk).sub g := fun i hi => by simp [List.getD_eq_getElem?_getD, hi]
  refine ⟨q1, fun i hi => ?_, ?_⟩
  ·have hi' : i < blk.elems.length := by simpa using hi
   show ((blk.elems.map (V.sub g)).getD i .junk).cells.length = blk.size
   rw [hel i hi', zgw, List.length_map]; exact q2 i hi'
  ·rcases q3 with ⟨z1, z2⟩ | ⟨k, arr, ty, e1, e2, e3, e4, e5⟩
   ·exact .inl ⟨z1, by simp [z2]⟩
   ·refine .inr ⟨k, arr, ty, e1, e2, by simpa using e3, fun i j hi hj => ?_, e5, fun ⟨c, c1, c2⟩ => ?_⟩
    ·have hi' : i < blk.elems.length := by simpa using hi
     have hjl : j < (blk.elems.getD i .junk).cells.length := by rw [q2 i hi']; exact hj
     have := sub_sim hp hg (e4 i j hi' hj)
     show Sim _ _ w _ U (((blk.elems.map (V.sub g)).getD i .junk).cells.getD j .junk) _
     rw [hel i hi', zgw, getD_map (V.sub g) hjl]
     exact this
    ·obtain ⟨xs, hxs⟩ := Option.isSome_iff_exists.1 c1
     obtain ⟨blk2, d1, _⟩ := hg c xs hxs
     have := hp.inj b c k (by simp [k1]) (by simp [d1]) e1 c2
     subst this
     rw [hgb] at c1; simp at c1
 ·by_cases hc : ∃ b, (g b).isSome = true ∧ φ b = some k
  ·obtain ⟨b, h1, h2⟩ := hc
   obtain ⟨xs, hxs⟩ := Option.isSome_iff_exists.1 h1
   obtain ⟨blk, d1, _⟩ := hg b xs hxs
   exact .inr ⟨b, by simp [d1], h2⟩
  ·exact .inl ⟨hk, hc⟩
theorem Trans.drop {φ : Nat → Option Nat} {M U : Nat → Prop} {w : World} {H H' : Hp} (hp : HpOk φ M w H U) (h : ∀ b, H' b = none ∨ H' b = H b) : Trans φ φ M M U U w w H H' := by
 have back : ∀ b x, H' b = some x → H b = some x := fun b x hx => by
  rcases h b with h | h
  ·rw [h] at hx; cases hx
  ·rw [← h]; exact hx
 have ne : ∀ b, H' b ≠ none → H b ≠ none := fun b hx => by
  rcases h b with h | h
  ·exact absurd h hx
  ·rwa [← h]
 have K : Carry φ φ M M w w H H' U U := ⟨fun _ _ h1 h2 => ⟨h1, h2⟩, fun _ h => h, fun b n x _ h blk h1 h2 => h blk (back _ _ h1) h2, fun b n p _ h blk h1 h2 => h blk (back _ _ h1) h2⟩
 refine { carry := K, hp := ⟨fun b x hx => ?_, fun b c k hb hc e1 e2 => hp.inj b c k (ne b hb) (ne c hc) e1 e2⟩, Mb := fun h => h, M1 := fun _ => .inl, M2 := fun _ => .inl, os := rfl, tape := rfl, output := rfl, size := Nat.le_refl _, old := fun _ _ _ => rfl, loc := fun b k hb hk => .inl ⟨b, ne b hb, hk⟩ }
 obtain ⟨q1, q2, q3⟩ := hp.blk b x (back b x hx)
 refine ⟨q1, q2, ?_⟩
 rcases q3 with q3 | ⟨k, arr, ty, e1, e2, e3, e4, e5⟩
 ·exact .inl q3
 ·exact .inr ⟨k, arr, ty, e1, e2, e3, fun i j hi hj => (e4 i j hi hj).carry K, e5⟩

theorem Trans.kill {φ φ' : Nat → Option Nat} {M M' U U' : Nat → Prop} {w w' : World} {H H' : Hp} (t : Trans φ φ' M M' U U' w w' H H') (b : Nat) : Trans φ φ' M M' U U' w w' H (H'.upd b none) := by
 have back : ∀ c x, H'.upd b none c = some x → H' c = some x := fun c x hx => by
  by_cases hc : c = b
  ·subst hc; rw [Hp.upd_same] at hx; cases hx
  ·rwa [Hp.upd_ne _ _ hc] at hx
 have ne : ∀ c, H'.upd b none c ≠ none → H' c ≠ none := fun c hx => by
  by_cases hc : c = b
  ·subst hc; rw [Hp.upd_same] at hx; exact absurd rfl hx
  ·rwa [Hp.upd_ne _ _ hc] at hx
 have K2 : Carry φ' φ' M' M' w' w' H' (H'.upd b none) U' U' := ⟨fun _ _ h1 h2 => ⟨h1, h2⟩, fun _ h => h, fun c n x _ h blk h1 h2 => h blk (back _ _ h1) h2, fun c n p _ h blk h1 h2 => h blk (back _ _ h1) h2⟩
 refine { t with carry := ⟨t.carry.pur, t.carry.used, fun c n x hc h blk h1 h2 => t.carry.own c n x hc h blk (back _ _ h1) h2, fun c n p hc h blk h1 h2 => t.carry.adr c n p hc h blk (back _ _ h1) h2⟩, hp := ⟨fun c x hx => ?_, fun c d g hc hd e1 e2 => t.hp.inj c d g (ne c hc) (ne d hd) e1 e2⟩, loc := fun c g hc hg => t.loc c g (ne c hc) hg }
 obtain ⟨k1, k2, k3⟩ := t.hp.blk c x (back c x hx)
 refine ⟨k1, k2, ?_⟩
 rcases k3 with k3 | ⟨g, arr, ty, e1, e2, e3, e4, e5⟩
 ·exact .inl k3
 ·exact .inr ⟨g, arr, ty, e1, e2, e3, fun i j hi hj => (e4 i j hi hj).carry K2, e5⟩

theorem HpOk.drew {φ : Nat → Option Nat} {M U : Nat → Prop} {w : World} {H : Hp} (h : HpOk φ M w H U) : HpOk φ M w.drew H U :=
 (Trans.below h (fun _ h => h) (U' := U) (w' := w.drew) ⟨rfl, rfl, rfl, Nat.le_refl _, fun _ _ => rfl⟩).hp
theorem Sim.drew {φ : Nat → Option Nat} {M U : Nat → Prop} {w : World} {H : Hp} {v : V} {x : Value} (h : Sim φ M w H U v x) : Sim φ M w.drew H U v x :=
 h.carry (Carry.below (w := w) (w' := w.drew) ⟨rfl, rfl, rfl, Nat.le_refl _, fun _ _ => rfl⟩ fun _ h => h)
theorem Trans.drew {φ φ' : Nat → Option Nat} {M M' U U' : Nat → Prop} {w w' : World} {H H' : Hp} (t : Trans φ φ' M M' U U' w.drew w' H H') : Trans φ φ' M M' U U' w w' H H' :=
 {carry := ⟨t.carry.pur, t.carry.used, fun b n x hb h => t.carry.own b n x hb h, t.carry.adr⟩, hp := t.hp, Mb := t.Mb, M1 := t.M1, M2 := t.M2, os := t.os, tape := t.tape, output := t.output, size := t.size, old := t.old, loc := t.loc }

theorem Trans.appendIn {φ : Nat → Option Nat} {M U U' : Nat → Prop} {w w' : World} {H : Hp} (hp : HpOk φ M w H U) (hU : ∀ b, U b → U' b) {b id g : Nat} {blk : Blk} (hb : H b = some blk)
  (hid : U' id) (hnew : ¬ U id) (hg : φ b = some g) {arr arr' : Array Value} {ty : TypeId} (h0 : w.heap[g]? = some (.cells arr ty (0, 0))) (h1 : w'.heap[g]? = some (.cells arr' ty (0, 0))) (h2 : arr'.size = arr.size)
  (h3 : ∀ g', g' ≠ g → w'.heap[g']? = w.heap[g']?) (h4 : w'.heap.size = w.heap.size) (ho : w'.os = w.os) (ht : w'.tape = w.tape) (hou : w'.output = w.output)
  (els : List V) (hlen : els.length * blk.size ≤ arr.size) (hsz : ∀ i, i < els.length → (els.getD i .junk).cells.length = blk.size)
  (hc : ∀ i j, i < els.length → j < blk.size → Sim φ M w H U ((els.getD i .junk).cells.getD j .junk) (arr'.getD (i * blk.size + j) Go.undef)) :
  Trans φ (fun c => if c = id then some g else φ c) M M U U' w w' H ((H.upd b none).upd id (some ⟨els, blk.size⟩)) := by
 obtain ⟨hUb, hbs, hbk⟩ := hp.blk b blk hb
 have hM : M g := by
  rcases hbk with ⟨h, _⟩ | ⟨g', a, t, e1, e2, e3, e4, e5⟩
  ·rw [h] at hg; cases hg
  ·rw [hg] at e1; cases e1
   exact e5
 have hne : ∀ c, U c → c ≠ id := fun c hc e => hnew (e ▸ hc)
 have hused : ∀ c x, H c = some x → U c := fun c x hx => (hp.blk c x hx).1
 have back : ∀ c x, c ≠ id → (H.upd b none).upd id (some ⟨els, blk.size⟩) c = some x → H c = some x ∧ c ≠ b := fun c x hci hx => by
  rw [Hp.upd_ne _ _ hci] at hx
  by_cases hcb : c = b
  ·subst hcb; rw [Hp.upd_same] at hx; cases hx
  ·rw [Hp.upd_ne _ _ hcb] at hx; exact ⟨hx, hcb⟩
 have hgne : ∀ c x g', H c = some x → c ≠ b → φ c = some g' → g' ≠ g := fun c x g' hx hcb hg' e => hcb (hp.inj c b g (by simp [hx]) (by simp [hb]) (e ▸ hg') hg)
 have K : Carry φ (fun c => if c = id then some g else φ c) M M w w' H ((H.upd b none).upd id (some ⟨els, blk.size⟩)) U U' := by
  refine ⟨fun g' o k1 k2 => ⟨by rw [h3 g' (fun e => k2 (e ▸ hM))]; exact k1, k2⟩, hU, fun c n x hc' h d k1 k2 => ?_, fun c n p hc' h d k1 k2 => ?_⟩
  ·obtain ⟨k1, hcb⟩ := back c d (hne c hc') k1
   rcases h d k1 k2 with ⟨z1, z2, z3⟩ | ⟨g', cap, ar, t, a1, a2, a3, a4, a5⟩
   ·exact .inl ⟨by simpa [hne c hc'] using z1, z2, z3⟩
   ·exact .inr ⟨g', cap, ar, t, by simpa [hne c hc'] using a1, a2, by rw [h3 g' (hgne c d g' k1 hcb a1)]; exact a3, a4, a5⟩
  ·obtain ⟨k1, hcb⟩ := back c d (hne c hc') k1
   simpa [hne c hc'] using h d k1 k2
 refine { carry := K, hp := ⟨fun c x hx => ?_, fun c d g' hcn hdn e1 e2 => ?_⟩, Mb := fun h g' hg' => by rw [h4]; exact h g' hg', M1 := fun _ => .inl, M2 := fun _ => .inl, os := ho, tape := ht, output := hou, size := by omega, old := fun g' _ hn => ?_, loc := fun c g' hcn hg' => ?_ }
 ·by_cases hci : c = id
  ·subst hci; rw [Hp.upd_same] at hx; cases hx
   exact ⟨hid, hsz, .inr ⟨g, arr', ty, by simp, h1, by rw [h2]; exact hlen, fun i j hi hj => (hc i j hi hj).carry K, hM⟩⟩
  ·obtain ⟨hx, hcb⟩ := back c x hci hx
   obtain ⟨k1, k2, k3⟩ := hp.blk c x hx
   refine ⟨hU _ k1, k2, ?_⟩
   rcases k3 with ⟨z1, z2⟩ | ⟨g', ar, t, e1, e2, e3, e4, e5⟩
   ·exact .inl ⟨by simpa [hci] using z1, z2⟩
   ·exact .inr ⟨g', ar, t, by simpa [hci] using e1, by rw [h3 g' (hgne c x g' hx hcb e1)]; exact e2, e3, fun i j hi hj => (e4 i j hi hj).carry K, e5⟩
 ·have key : ∀ c g', (H.upd b none).upd id (some ⟨els, blk.size⟩) c ≠ none → (if c = id then some g else φ c) = some g' → (c = id ∧ g' = g) ∨ (c ≠ id ∧ H c ≠ none ∧ c ≠ b ∧ φ c = some g') := fun c g' hcn e => by
   by_cases hci : c = id
   ·simp [hci] at e; exact .inl ⟨hci, e.symm⟩
   ·simp [hci] at e
    cases hx : (H.upd b none).upd id (some ⟨els, blk.size⟩) c with
    | none => exact absurd hx hcn
    | some x => obtain ⟨q1, q2⟩ := back c x hci hx; exact .inr ⟨hci, by simp [q1], q2, e⟩
  rcases key c g' hcn e1 with ⟨c1, c2⟩ | ⟨c1, c2, c3, c4⟩ <;> rcases key d g' hdn e2 with ⟨d1, d2⟩ | ⟨d1, d2, d3, d4⟩
  ·rw [c1, d1]
  ·exact absurd (hp.inj d b g d2 (by simp [hb]) (c2 ▸ d4) hg) d3
  ·exact absurd (hp.inj c b g c2 (by simp [hb]) (d2 ▸ c4) hg) c3
  ·exact hp.inj c d g' c2 d2 c4 d4
 ·exact h3 g' fun e => hn b (by simp [hb]) (e ▸ hg)
 ·by_cases hci : c = id
  ·simp [hci] at hg'
   exact .inl ⟨b, by simp [hb], hg' ▸ hg⟩
  ·simp [hci] at hg'
   cases hx : (H.upd b none).upd id (some ⟨els, blk.size⟩) c with
   | none => exact absurd hx hcn
   | some x => obtain ⟨q1, q2⟩ := back c x hci hx; exact .inl ⟨c, by simp [q1], hg'⟩

/-! ### What a slice holds -/
theorem zf2 {es : Nat} {xs : List V} (h : rowOk es xs = true) {i : Nat} (hi : i < xs.length) : (xs.getD i .junk).cells.length = es ∧ (∀ c ∈ (xs.getD i .junk).cells, c.cellOk = true) ∧ (xs.getD i .junk).isJunk = false := by
 have := List.all_eq_true.1 h _ (zce (d := V.junk) hi)
 simp only [Bool.and_eq_true, Bool.not_eq_true', beq_iff_eq, List.all_eq_true] at this
 exact ⟨this.1.2, this.2, this.1.1⟩

theorem oneCell_of {φ : Nat → Option Nat} {M U : Nat → Prop} {w : World} {H : Hp} {c : V} {x : Value} (h : Sim φ M w H U c x) (hc : c.cellOk = true) : x.oneCell' = true := by
 cases h with
 | pur h => cases h <;> first | rfl | (simp [V.cellOk] at hc)
 | own b n x hb hx h => obtain ⟨a, l, c, rfl⟩ := hx; rfl
 | ptr b n i off x hb hx h => obtain ⟨a, rfl⟩ := hx; rfl
 | win b n off len x hb hx h => obtain ⟨a, c, rfl⟩ := hx; rfl
 | agg cs arr hn hc' => simp [V.cellOk] at hc
 | tup cs arr hn hc' => simp [V.cellOk] at hc
 | fn f cs arr hn hc' => rfl

theorem row_cells {φ : Nat → Option Nat} {M U : Nat → Prop} {w : World} {H : Hp} (hp : HpOk φ M w H U) {v : V} {x : Value} {xs : List V} {es : Nat} (h : slOf H v = some xs) (hs : Sim φ M w H U v x) (hr : rowOk es xs = true) :
  (∃ ad cap arr ty fr, x = .slice (some ad) xs.length cap ∧ ad.spot = none ∧ w.heap[ad.block]? = some (.cells arr ty fr) ∧ ad.off + xs.length * es ≤ arr.size ∧ xs.length ≤ cap ∧
   (∀ i j, i < xs.length → j < es → Sim φ M w H U ((xs.getD i .junk).cells.getD j .junk) (arr.getD (ad.off + i * es + j) Go.undef))) ∨
  (xs = [] ∧ ∃ a c, x = .slice a 0 c) := by
 unfold slOf at h
 split at h
 ·rename_i ys
  cases h
  cases hs with
  | pur hs =>
   cases hs with
   | sl0 a cap => exact .inr ⟨rfl, _, _, rfl⟩
   | sl xs ad cap size arr ty fr hs hb hm hsz hin hcap hc =>
    cases hx : xs with
    | nil => exact .inr ⟨rfl, _, _, rfl⟩
    | cons e l =>
     rw [← hx]
     have h0 : 0 < xs.length := by rw [hx]; simp
     have : size = es := by rw [← hsz 0 h0]; exact (zf2 hr h0).1
     subst this
     exact .inl ⟨ad, cap, arr, ty, fr, rfl, hs, hb, hin, hcap, fun i j hi hj => .pur (hc i j hi hj)⟩
 ·cases h
  cases hs with
  | pur hs => cases hs; exact .inr ⟨rfl, _, _, rfl⟩
 ·rename_i b n
  split at h
  ·rename_i blk hb
   split at h
   ·rename_i hn
    cases h
    cases hs with
    | pur hs => cases hs
    | own b n x hU hx ho =>
     rcases ho blk hb hn with ⟨_, rfl, rfl⟩ | ⟨g, cap, arr, ty, a1, rfl, a3, a4, a5⟩
     ·exact .inr ⟨List.eq_nil_of_length_eq_zero hn, _, _, rfl⟩
     ·cases hx' : blk.elems with
      | nil => rw [hx'] at hn; simp at hn; subst hn; exact .inr ⟨rfl, _, _, rfl⟩
      | cons e l =>
       rw [← hx']
       obtain ⟨k1, k2, k3⟩ := hp.blk b blk hb
       have h0 : 0 < blk.elems.length := by rw [hx']; simp
       have hsz : blk.size = es := by rw [← k2 0 h0]; exact (zf2 hr h0).1
       rcases k3 with ⟨z1, z2⟩ | ⟨g', arr', ty', e1, e2, e3, e4, e5⟩
       ·rw [z2] at h0; simp at h0
       ·rw [a1] at e1; cases e1
        rw [a3] at e2; cases e2
        refine .inl ⟨⟨g, 0, none⟩, cap, arr, ty, (0, 0), by rw [hn], rfl, a3, by rw [← hsz]; simpa using e3, by omega, fun i j hi hj => ?_⟩
        show Sim φ M w H U _ (arr.getD (0 + i * es + j) Go.undef)
        rw [Nat.zero_add, ← hsz]
        exact e4 i j hi (by omega)
   ·cases h
  ·cases h
 ·rename_i b n off len
  split at h
  ·rename_i blk hb
   split at h
   ·rename_i hn
    cases h
    cases hs with
    | pur hs => cases hs
    | win b n off len x hU hx ho =>
     obtain ⟨g, a1, hol, c, hc, rfl⟩ := ho blk hb hn.1
     have hlen : ((blk.elems.drop off).take len).length = len := by simp; omega
     by_cases h0 : len = 0
     ·subst h0; exact .inr ⟨by simp, _, _, rfl⟩
     obtain ⟨k1, k2, k3⟩ := hp.blk b blk hb
     have hget : ∀ i, i < len → ((blk.elems.drop off).take len).getD i .junk = blk.elems.getD (off + i) .junk := fun i hi => by
      simp [List.getD_eq_getElem?_getD, List.getElem?_take, hi]
     have hsz : blk.size = es := by
      rw [← k2 off (by omega), ← Nat.add_zero off, ← hget 0 (by omega)]
      exact (zf2 hr (by omega)).1
     rcases k3 with ⟨z1, z2⟩ | ⟨g', arr', ty', e1, e2, e3, e4, e5⟩
     ·rw [z1] at a1; cases a1
     ·rw [a1] at e1; cases e1
      have hoff : (off + len) * es ≤ arr'.size := by
       have : (off + len) * blk.size ≤ blk.elems.length * blk.size := Nat.mul_le_mul_right _ (by omega)
       rw [hsz] at this e3; omega
      rw [Nat.add_mul] at hoff
      refine .inl ⟨⟨g, off * blk.size, none⟩, c, arr', ty', (0, 0), by rw [hlen], rfl, e2, by show off * blk.size + _ ≤ _; rw [hlen, hsz]; exact hoff, by omega, fun i j hi hj => ?_⟩
      rw [hlen] at hi
      show Sim φ M w H U _ (arr'.getD (off * blk.size + i * es + j) Go.undef)
      have := e4 (off + i) j (by omega) (by omega)
      rw [hget i hi, ← hsz, ← Nat.add_mul]
      exact this
   ·cases h
  ·cases h
 ·cases h

theorem div_row {es j : Nat} (h : 0 < es) : j / es * es + j % es = j ∧ j % es < es := ⟨by rw [Nat.mul_comm]; exact Nat.div_add_mod j es, Nat.mod_lt _ h⟩

theorem row_news {P : Program} {φ : Nat → Option Nat} {M U : Nat → Prop} {w : World} {H : Hp} (hp : HpOk φ M w H U) {v : V} {x : Value} {xs : List V} {es : Nat} (h : slOf H v = some xs) (hs : Sim φ M w H U v x) (hr : rowOk es xs = true) (h0 : 0 < es) :
  ∃ news : List Value, news.length = xs.length * es ∧ (∀ i j, i < xs.length → j < es → Sim φ M w H U ((xs.getD i .junk).cells.getD j .junk) (news.getD (i * es + j) Go.undef)) ∧ (∀ u ∈ news, u.oneCell' = true) ∧
   (∀ k, k ≤ xs.length → (Builtin.firstCells es k x).run P w = .ok (news.take (k * es)).toArray w) ∧
   ((∃ ad cap, x = .slice (some ad) xs.length cap ∧ ∀ j u, news[j]? = some u → w.cell? (ad.add j) = some u) ∨ (xs = [] ∧ ∃ a c, x = .slice a 0 c)) := by
 rcases row_cells hp h hs hr with ⟨ad, cap, arr, ty, fr, rfl, h1, h2, h3, h4, h5⟩ | ⟨rfl, a, c, rfl⟩
 ·have hcell : ∀ j u, ((List.range (xs.length * es)).map fun j => arr.getD (ad.off + j) Go.undef)[j]? = some u → w.cell? (ad.add j) = some u := fun j u hj => by
   rw [zhr h1 h2]
   simp only [List.getElem?_map, Option.map_eq_some_iff] at hj
   obtain ⟨k, hk, rfl⟩ := hj
   have hk' := List.getElem?_eq_some_iff.1 hk
   obtain ⟨hlt, hke⟩ := hk'
   simp at hlt hke
   subst hke
   exact zdu (by omega)
  have hsim : ∀ i j, i < xs.length → j < es → Sim φ M w H U ((xs.getD i .junk).cells.getD j .junk) (((List.range (xs.length * es)).map fun j => arr.getD (ad.off + j) Go.undef).getD (i * es + j) Go.undef) := fun i j hi hj => by
   have hlt := row_lt hi hj (Nat.le_refl (xs.length * es))
   have := h5 i j hi hj
   rw [Nat.add_assoc] at this
   simpa [List.getD_eq_getElem?_getD, List.getElem?_range, hlt] using this
  refine ⟨(List.range (xs.length * es)).map fun j => arr.getD (ad.off + j) Go.undef, by simp, hsim, fun u hu => ?_, fun k hk => ?_, .inl ⟨ad, cap, rfl, hcell⟩⟩
  ·obtain ⟨j, hj, rfl⟩ := List.mem_map.1 hu
   simp at hj
   have hd := div_row (j := j) h0
   have hi : j / es < xs.length := (Nat.div_lt_iff_lt_mul h0).2 hj
   have := h5 (j / es) (j % es) hi hd.2
   rw [Nat.add_assoc, hd.1] at this
   refine oneCell_of this ((zf2 hr hi).2.1 _ (zce ?_))
   rw [(zf2 hr hi).1]; exact hd.2
  ·refine run_firstCells_some (P := P) w es k ad xs.length cap _ ?_ fun j u hj => hcell j u ?_
   ·have : k * es ≤ xs.length * es := Nat.mul_le_mul_right _ hk
    rw [List.length_take, List.length_map, List.length_range, Nat.min_eq_left this]
   ·rw [List.getElem?_take] at hj
    split at hj
    ·exact hj
    ·cases hj
 ·refine ⟨[], by simp, fun i j hi => by simp at hi, fun u hu => by simp at hu, fun k hk => ?_, .inr ⟨rfl, a, c, rfl⟩⟩
  simp at hk; subst hk
  cases a with
  | none => simp [Builtin.firstCells]
  | some a => simpa using run_firstCells_some (P := P) w es 0 a 0 c [] (by simp) (by simp)

theorem zeroCells_size (z : Array Value) (n : Nat) : (Builtin.zeroCells z n).size = n * z.size := by simp [Builtin.zeroCells]

theorem rows_append {φ : Nat → Option Nat} {M U : Nat → Prop} {w : World} {H : Hp} {xs ys : List V} {es : Nat} {f : Nat → Value} (h1 : ∀ i j, i < xs.length → j < es → Sim φ M w H U ((xs.getD i .junk).cells.getD j .junk) (f (i * es + j)))
  (h2 : ∀ i j, i < ys.length → j < es → Sim φ M w H U ((ys.getD i .junk).cells.getD j .junk) (f ((xs.length + i) * es + j))) :
  ∀ i j, i < (xs ++ ys).length → j < es → Sim φ M w H U (((xs ++ ys).getD i .junk).cells.getD j .junk) (f (i * es + j)) := by
 intro i j hi hj
 by_cases hx : i < xs.length
 ·have : (xs ++ ys).getD i .junk = xs.getD i .junk := by simp [List.getD_eq_getElem?_getD, List.getElem?_append_left hx]
  rw [this]; exact h1 i j hx hj
 ·simp only [List.length_append] at hi
  have : (xs ++ ys).getD i .junk = ys.getD (i - xs.length) .junk := by simp [List.getD_eq_getElem?_getD, List.getElem?_append_right (show xs.length ≤ i by omega)]
  rw [this]
  have := h2 (i - xs.length) j (by omega) hj
  rwa [show xs.length + (i - xs.length) = i by omega] at this

theorem run_app_room {P : Program} {t e : TypeId} {i : TypeInfo} (ht : P.underlying t = some (.slice e)) (hi : P.info? e = some i) {g n cap m : Nat} {y : Value} {news : List Value} {w w' : World} (ty : TypeId)
  (hlen : (Builtin.lenOf y).run P w = .ok m w) (hfc : (Builtin.firstCells i.size m y).run P w = .ok news.toArray w) (hroom : n + m ≤ cap) (hst : (storeCells ⟨g, n * i.size, none⟩ news).run P w = .ok () w') :
  (Builtin.append_ #[t, t] ty #[.slice (some ⟨g, 0, none⟩) n cap, y]).run P w = .ok (.slice (some ⟨g, 0, none⟩) (n + m) cap) w' := by
 have hadd : (⟨g, 0, none⟩ : Addr).add (n * i.size) = ⟨g, n * i.size, none⟩ := by
  unfold Addr.add
  split
  ·rename_i h; rw [h]
  ·simp
 simp [Builtin.append_, run_underlying ht, sizeOf, typeInfo, hi, hlen, hroom, hfc, hadd, hst]

theorem Sim.kill {φ : Nat → Option Nat} {M U : Nat → Prop} {w : World} {H : Hp} {v : V} {x : Value} (h : Sim φ M w H U v x) (b : Nat) : Sim φ M w (H.upd b none) U v x := by
 have back : ∀ c x, H.upd b none c = some x → H c = some x := fun c x hx => by
  by_cases hc : c = b
  ·subst hc; rw [Hp.upd_same] at hx; cases hx
  ·rwa [Hp.upd_ne _ _ hc] at hx
 exact h.carry ⟨fun _ _ h1 h2 => ⟨h1, h2⟩, fun _ h => h, fun c n x _ h blk h1 h2 => h blk (back _ _ h1) h2, fun c n p _ h blk h1 h2 => h blk (back _ _ h1) h2⟩

theorem Trans.nilNew {φ : Nat → Option Nat} {M U U' : Nat → Prop} {w : World} {H : Hp} (hp : HpOk φ M w H U) (hU : ∀ b, U b → U' b) {id : Nat} (hid : U' id) (hnew : ¬ U id) (s : Nat) :
  Trans φ (fun c => if c = id then none else φ c) M M U U' w w H (H.upd id (some ⟨[], s⟩)) := by
 have hne : ∀ c, U c → c ≠ id := fun c hc e => hnew (e ▸ hc)
 have K : Carry φ (fun c => if c = id then none else φ c) M M w w H (H.upd id (some ⟨[], s⟩)) U U' := by
  refine ⟨fun _ _ h1 h2 => ⟨h1, h2⟩, hU, fun c n x hc h d k1 k2 => ?_, fun c n p hc h d k1 k2 => ?_⟩
  ·rw [Hp.upd_ne _ _ (hne c hc)] at k1
   simpa [OwnOk, hne c hc] using h d k1 k2
  ·rw [Hp.upd_ne _ _ (hne c hc)] at k1
   simpa [hne c hc] using h d k1 k2
 have key : ∀ c g, H.upd id (some ⟨[], s⟩) c ≠ none → (if c = id then none else φ c) = some g → H c ≠ none ∧ φ c = some g := fun c g h1 h2 => by
  by_cases hci : c = id
  ·simp [hci] at h2
  ·rw [Hp.upd_ne _ _ hci] at h1; exact ⟨h1, by simpa [hci] using h2⟩
 refine { carry := K, hp := ⟨fun c x hx => ?_, fun c d g hc hd e1 e2 => hp.inj c d g (key c g hc e1).1 (key d g hd e2).1 (key c g hc e1).2 (key d g hd e2).2⟩, Mb := fun h => h, M1 := fun _ => .inl, M2 := fun _ => .inl, os := rfl, tape := rfl, output := rfl, size := Nat.le_refl _, old := fun _ _ _ => rfl, loc := fun c g hc hg => .inl ⟨c, key c g hc hg⟩ }
 by_cases hci : c = id
 ·subst hci; rw [Hp.upd_same] at hx; cases hx
  exact ⟨hid, fun i hi => by simp at hi, .inl ⟨by simp, rfl⟩⟩
 ·rw [Hp.upd_ne _ _ hci] at hx
  obtain ⟨k1, k2, k3⟩ := hp.blk c x hx
  refine ⟨hU _ k1, k2, ?_⟩
  rcases k3 with ⟨z1, z2⟩ | ⟨g, arr, ty, e1, e2, e3, e4, e5⟩
  ·exact .inl ⟨by simpa [hci] using z1, z2⟩
  ·exact .inr ⟨g, arr, ty, by simpa [hci] using e1, e2, e3, fun i j hi hj => (e4 i j hi hj).carry K, e5⟩

theorem app_sound {P : Program} {t e ty : TypeId} {i : TypeInfo} {z : Value} (ht : P.underlying t = some (.slice e)) (hi : P.info? e = some i) (hz : i.zero = some z) (hzs : z.cells.size = i.size) (hs0 : 0 < i.size)
  {φ : Nat → Option Nat} {M U U' : Nat → Prop} {w : World} {H H' : Hp} {id : Nat} {x y v : V} {vx vy : Value} (hp : HpOk φ M w H U) (Mb : ∀ g, M g → g < w.heap.size) (hU : ∀ b, U b → U' b) (hid : U' id) (hnew : ¬ U id)
  (h : effV H id (.app i.size i.bytes) [x, y] = some (v, H')) (hx : Sim φ M w H U x vx) (hy : Sim φ M w H U y vy) :
  ∃ r w' φ' M', (Builtin.append_ #[t, t] ty #[vx, vy]).run P w = .ok r w' ∧ Trans φ φ' M M' U U' w w' H H' ∧ Sim φ' M' w' H' U' v r := by
 simp only [effV] at h
 split at h
 ·cases h
 rename_i news hnews
 split at h
 rotate_left
 ·cases h
 rename_i hrow
 obtain ⟨hrow, _⟩ := hrow
 obtain ⟨nv, n1, n2, n3, n4, n5⟩ := row_news (P := P) hp hnews hy hrow hs0
 have hlenY : (Builtin.lenOf vy).run P w = .ok news.length w := by
  rcases n5 with ⟨ad, cap, rfl, _⟩ | ⟨rfl, a, c, rfl⟩ <;> simp [Builtin.lenOf]
 have hfcY := n4 news.length (Nat.le_refl _)
 rw [List.take_of_length_le (by omega)] at hfcY
 have hfcD : (Builtin.firstCells i.size news.length vy).run P w.drew = .ok nv.toArray w.drew := by
  obtain ⟨nv', m1, m2, m3, m4, m5⟩ := row_news (P := P) hp.drew hnews hy.drew hrow hs0
  rcases n5 with ⟨ad, cap, rfl, hn5⟩ | ⟨rfl, a, c, rfl⟩
  ·exact run_firstCells_some (P := P) w.drew i.size news.length ad news.length cap nv n1 (by simpa using hn5)
  ·have e1 : nv = [] := List.eq_nil_of_length_eq_zero (by simpa using n1)
   have e2 : nv' = [] := List.eq_nil_of_length_eq_zero (by simpa using m1)
   have := m4 0 (by simp)
   rw [e2] at this
   rw [e1]; simpa using this
 have hUid : ∀ b, U b → b ≠ id := fun b hb e => hnew (e ▸ hb)
 -- a new row
 have fresh : ∀ (olds : List V) (ov : List Value) (old need cap : Nat), ov.length = olds.length * i.size → (∀ k j, k < olds.length → j < i.size → Sim φ M w H U ((olds.getD k .junk).cells.getD j .junk) (ov.getD (k * i.size + j) Go.undef)) →
   (∀ k, k < olds.length → (olds.getD k .junk).cells.length = i.size) → need = olds.length + news.length → need ≤ cap →
   Trans φ (fun c => if c = id then some w.heap.size else φ c) M (fun g => M g ∨ g = w.heap.size) U U' w (w.drew.alloc (.cells (ov.toArray ++ nv.toArray ++ Builtin.zeroCells z.cells (cap - need)) e)) H (H.upd id (some ⟨olds ++ news, i.size⟩)) ∧
   Sim (fun c => if c = id then some w.heap.size else φ c) (fun g => M g ∨ g = w.heap.size) (w.drew.alloc (.cells (ov.toArray ++ nv.toArray ++ Builtin.zeroCells z.cells (cap - need)) e)) (H.upd id (some ⟨olds ++ news, i.size⟩)) U' (.own id need) (.slice (some ⟨w.heap.size, 0, none⟩) need cap) := by
  intro olds ov old need cap hov hsim hcl hneed hcap
  have hsize : (ov.toArray ++ nv.toArray ++ Builtin.zeroCells z.cells (cap - need)).size = cap * i.size := by
   simp only [Array.size_append, List.size_toArray, zeroCells_size, hzs, hov, n1]
   rw [← Nat.add_mul, ← Nat.add_mul, ← hneed]
   congr 1; omega
  have hget : ∀ j, j < (ov ++ nv).length → (ov.toArray ++ nv.toArray ++ Builtin.zeroCells z.cells (cap - need)).getD j Go.undef = (ov ++ nv).getD j Go.undef := fun j hj => by
   rw [Array.getD_eq_getD_getElem?, Array.getElem?_append_left (by simpa using hj)]
   simp [List.getD_eq_getElem?_getD]
  refine ⟨(Trans.alloc hp.drew Mb hU hid hnew _ e ⟨olds ++ news, i.size⟩ (fun k hk => ?_) ?_ ?_).drew, .own _ _ _ hid ⟨_, _, _, rfl⟩ fun blk hb hn => ?_⟩
  ·by_cases hko : k < olds.length
   ·have : (olds ++ news).getD k .junk = olds.getD k .junk := by simp [List.getD_eq_getElem?_getD, List.getElem?_append_left hko]
    show ((olds ++ news).getD k .junk).cells.length = i.size
    rw [this]; exact hcl k hko
   ·have hk' : k < olds.length + news.length := by simpa using hk
    have : (olds ++ news).getD k .junk = news.getD (k - olds.length) .junk := by simp [List.getD_eq_getElem?_getD, List.getElem?_append_right (show olds.length ≤ k by omega)]
    show ((olds ++ news).getD k .junk).cells.length = i.size
    rw [this]; exact (zf2 hrow (by omega)).1
  ·show (olds ++ news).length * i.size ≤ _
   rw [hsize, List.length_append, ← hneed]
   exact Nat.mul_le_mul_right _ hcap
  ·refine rows_append (es := i.size) (f := fun k => (ov.toArray ++ nv.toArray ++ Builtin.zeroCells z.cells (cap - need)).getD k Go.undef) (fun k j hk hj => ?_) (fun k j hk hj => ?_)
   ·have hlt := row_lt hk hj (Nat.le_refl (olds.length * i.size))
    have e := hget (k * i.size + j) (by rw [List.length_append, hov]; omega)
    have := (hsim k j hk hj).drew
    show Sim φ M w.drew H U _ ((ov.toArray ++ nv.toArray ++ Builtin.zeroCells z.cells (cap - need)).getD (k * i.size + j) Go.undef)
    rw [e]
    simpa [List.getD_eq_getElem?_getD, List.getElem?_append_left (show k * i.size + j < ov.length by omega)] using this
   ·have hlt := row_lt hk hj (Nat.le_refl (news.length * i.size))
    have e0 : (olds.length + k) * i.size + j = ov.length + (k * i.size + j) := by rw [hov, Nat.add_mul]; omega
    have e := hget ((olds.length + k) * i.size + j) (by rw [List.length_append, n1, e0]; omega)
    have := (n2 k j hk hj).drew
    show Sim φ M w.drew H U _ ((ov.toArray ++ nv.toArray ++ Builtin.zeroCells z.cells (cap - need)).getD ((olds.length + k) * i.size + j) Go.undef)
    rw [e, e0]
    simpa [List.getD_eq_getElem?_getD, List.getElem?_append_right (show ov.length ≤ ov.length + (k * i.size + j) by omega)] using this
  ·rw [Hp.upd_same] at hb; cases hb
   refine .inr ⟨w.heap.size, cap, _, e, by simp, rfl, ?_, hsize, hcap⟩
   show (w.drew.heap.push _)[w.heap.size]? = _
   show (w.heap.push _)[w.heap.size]? = _
   simp
 split at h
 ·-- onto an own row
  rename_i b n
  split at h
  rotate_left
  ·cases h
  rename_i blk hb
  split at h
  rotate_left
  ·cases h
  rename_i hcond
  obtain ⟨hn, hsz, hby, h63, hnot⟩ := hcond
  simp only [Option.some.injEq, Prod.mk.injEq] at h
  obtain ⟨rfl, rfl⟩ := h
  obtain ⟨hUb, hbs, hbk⟩ := hp.blk b blk hb
  have hbid : b ≠ id := hUid b hUb
  have hswap : (H.upd b none).upd id (some ⟨blk.elems ++ news, i.size⟩) = (H.upd id (some ⟨blk.elems ++ news, i.size⟩)).upd b none := by
   funext c
   simp only [Hp.upd]
   by_cases h1 : c = id
   ·by_cases h2 : c = b
    ·exact absurd (h2 ▸ h1) hbid
    ·simp [h1, Ne.symm hbid]
   ·simp [h1]
  have hown : OwnOk φ w blk b n vx := by
   cases hx with
   | pur hx => cases hx
   | own b n x _ _ ho => exact ho blk hb hn
  rcases hown with ⟨hφ, rfl, rfl⟩ | ⟨g, cap, arr, ty', a1, rfl, a3, a4, a5⟩
  ·-- it is nil in the machine
   have hel : blk.elems = [] := List.eq_nil_of_length_eq_zero hn
   by_cases hm : news.length = 0
   ·have hnn : news = [] := List.eq_nil_of_length_eq_zero hm
    subst hnn
    have e1 : nv = [] := List.eq_nil_of_length_eq_zero (by simpa using n1)
    rw [e1] at hfcY
    have t := Trans.nilNew (w := w) hp hU hid hnew i.size
    refine ⟨.slice none 0 0, w, _, M, ?_, by rw [hswap, hel]; exact t.kill b, ?_⟩
    ·have hfc0 : (Builtin.firstCells i.size 0 vy).run P w = .ok #[] w := by simpa using hfcY
     have hl0 : (Builtin.lenOf vy).run P w = .ok 0 w := by simpa using hlenY
     simp [Builtin.append_, run_underlying ht, sizeOf, typeInfo, hi, hl0, hfc0, storeCells]
    ·rw [hswap, hel]
     exact Sim.kill (.own _ _ _ hid ⟨_, _, _, rfl⟩ fun blk' hb' hn' => .inl ⟨by simp, rfl, rfl⟩) b
   ·rcases n5 with ⟨ad, cap, rfl, hn5⟩ | ⟨rfl, a, c, rfl⟩
    ·obtain ⟨t1, t2⟩ := fresh [] [] 0 (0 + news.length) (grownCap w news.length 0 e) (by simp) (fun k j hk => by simp at hk) (fun k hk => by simp at hk) (by simp) (by rw [Nat.zero_add]; exact grownCap_ge w _ _ _)
     have hr := run_append_nil (P := P) w t ty e i z ht hi hz ad news.length cap nv n1 hn5 (by omega) (by omega) (by rw [Nat.zero_add] at hby; omega)
     rw [Nat.zero_add] at t1 t2
     simp only [List.nil_append] at t1 t2
     rw [hswap, hel, Nat.zero_add]
     simp only [List.nil_append]
     exact ⟨_, _, _, _, hr, by simpa using t1.kill b, by simpa using t2.kill b⟩
    ·simp at hm
  ·by_cases hroom : n + news.length ≤ cap
   ·-- there is room
    rcases hbk with ⟨z1, z2⟩ | ⟨g', arr', ty2, e1, e2, e3, e4, e5⟩
    ·rw [z1] at a1; cases a1
    rw [a1] at e1; cases e1
    rw [a3] at e2; cases e2
    have hnl : n * i.size + nv.length ≤ arr.size := by
     rw [n1, ← Nat.add_mul, a4, hsz]
     exact Nat.mul_le_mul_right _ hroom
    obtain ⟨w', arr', s1, s2, s3, s4, s5, s6, s7, s8, s9⟩ := ze3 (P := P) (g := g) (k := n * i.size) nv 0 arr w a3 (by simpa using hnl) n3
    have hr := run_app_room (P := P) ht hi (n := n) ty hlenY hfcY hroom s1
    simp only [Nat.add_zero] at s4
    have t := Trans.appendIn (w' := w') hp hU (id := id) hb hid hnew a1 a3 s2 s3 s5 s6 s7 s8 s9 (blk.elems ++ news) (by
      rw [List.length_append, hn, a4]; exact Nat.mul_le_mul_right _ hroom) (fun k hk => by
      by_cases hko : k < blk.elems.length
      ·have : (blk.elems ++ news).getD k .junk = blk.elems.getD k .junk := by simp [List.getD_eq_getElem?_getD, List.getElem?_append_left hko]
       rw [this]; exact hbs k hko
      ·have hk' : k < blk.elems.length + news.length := by simpa using hk
       have : (blk.elems ++ news).getD k .junk = news.getD (k - blk.elems.length) .junk := by simp [List.getD_eq_getElem?_getD, List.getElem?_append_right (show blk.elems.length ≤ k by omega)]
       rw [this, hsz]; exact (zf2 hrow (by omega)).1) (by
      refine rows_append (es := blk.size) (f := fun k => arr'.getD k Go.undef) (fun k j hk hj => ?_) (fun k j hk hj => ?_)
      ·have hlt := row_lt hk hj (Nat.le_refl (blk.elems.length * blk.size))
       show Sim φ M w H U _ (arr'.getD (k * blk.size + j) Go.undef)
       rw [s4, if_neg (by rw [← hn, ← hsz]; omega)]
       exact e4 k j hk hj
      ·have hlt := row_lt hk hj (Nat.le_refl (news.length * blk.size))
       show Sim φ M w H U _ (arr'.getD ((blk.elems.length + k) * blk.size + j) Go.undef)
       have e0 : (blk.elems.length + k) * blk.size + j = n * i.size + (k * i.size + j) := by rw [← hn, ← hsz, Nat.add_mul]; omega
       rw [s4, e0, if_pos (by rw [n1, ← hsz]; omega)]
       rw [show n * i.size + (k * i.size + j) - n * i.size = k * i.size + j by omega]
       exact n2 k j hk (by omega))
    rw [hsz] at t
    refine ⟨_, w', _, M, hr, t, .own _ _ _ hid ⟨_, _, _, rfl⟩ fun blk' hb' hn' => .inr ⟨g, cap, arr', ty', by simp, rfl, s2, ?_, hroom⟩⟩
    rw [Hp.upd_same] at hb'; cases hb'
    rw [s3, a4, hsz]
   ·-- a new row
    rcases n5 with ⟨ad, capy, rfl, hn5⟩ | ⟨rfl, a, c, rfl⟩
    rotate_left
    ·simp at hroom; omega
    rcases hbk with ⟨z1, z2⟩ | ⟨g', arr', ty2, e1, e2, e3, e4, e5⟩
    ·rw [z1] at a1; cases a1
    rw [a1] at e1; cases e1
    rw [a3] at e2; cases e2
    have hov : ∀ j, j < n * i.size → ((List.range (n * i.size)).map fun j => arr.getD j Go.undef).getD j Go.undef = arr.getD j Go.undef := fun j hj => by
     simp [List.getD_eq_getElem?_getD, List.getElem?_range, hj]
    have holds : ∀ j u, ((List.range (n * i.size)).map fun j => arr.getD j Go.undef)[j]? = some u → w.cell? ((⟨g, 0, none⟩ : Addr).add j) = some u := fun j u hj => by
     rw [zhr rfl a3]
     simp only [List.getElem?_map, Option.map_eq_some_iff] at hj
     obtain ⟨k, hk, rfl⟩ := hj
     obtain ⟨hlt, hke⟩ := List.getElem?_eq_some_iff.1 hk
     simp at hlt hke
     subst hke
     show arr[0 + j]? = _
     rw [Nat.zero_add]
     refine zdu ?_
     rw [hn, hsz] at e3; omega
    obtain ⟨t1, t2⟩ := fresh blk.elems ((List.range (n * i.size)).map fun j => arr.getD j Go.undef) cap (n + news.length) (grownCap w (n + news.length) cap e) (by simp [hn]) (fun k j hk hj => by
     have hlt := row_lt hk hj (Nat.le_refl (blk.elems.length * i.size))
     rw [hov _ (by rw [← hn]; omega), ← hsz]
     exact e4 k j hk (by omega)) (fun k hk => by rw [← hsz]; exact hbs k hk) (by rw [hn]) (grownCap_ge w _ _ _)
    have hr := run_append_grow (P := P) w t ty e i z ht hi hz ⟨g, 0, none⟩ n cap ((List.range (n * i.size)).map fun j => arr.getD j Go.undef) (by simp) holds ad news.length capy nv n1 hn5 (by omega) (by omega) (growslice_fits (by omega) hby)
    rw [hswap]
    exact ⟨_, _, _, _, hr, t1.kill b, t2.kill b⟩
 ·-- onto nothing
  have hnil : ∃ a, vx = .slice a 0 0 := by
   cases hx with
   | pur hx => cases hx; exact ⟨_, rfl⟩
  obtain ⟨a, rfl⟩ := hnil
  split at h
  ·simp only [Option.some.injEq, Prod.mk.injEq] at h
   obtain ⟨rfl, rfl⟩ := h
   have e1 : nv = [] := List.eq_nil_of_length_eq_zero (by simpa using n1)
   rw [e1] at hfcY
   refine ⟨.slice a 0 0, w, φ, M, ?_, Trans.refl hp hU, .pur (.nil a)⟩
   have hfc0 : (Builtin.firstCells i.size 0 vy).run P w = .ok #[] w := by simpa using hfcY
   have hl0 : (Builtin.lenOf vy).run P w = .ok 0 w := by simpa using hlenY
   cases a <;> simp [Builtin.append_, run_underlying ht, sizeOf, typeInfo, hi, hl0, hfc0, storeCells]
  ·rename_i e0 l0
   split at h
   rotate_left
   ·cases h
   rename_i hcond
   simp only [Option.some.injEq, Prod.mk.injEq] at h
   obtain ⟨rfl, rfl⟩ := h
   rcases n5 with ⟨ad, capy, rfl, hn5⟩ | ⟨h0, a, c, rfl⟩
   rotate_left
   ·cases h0
   cases a with
   | none =>
    obtain ⟨t1, t2⟩ := fresh [] [] 0 (l0.length + 1) (grownCap w (l0.length + 1) 0 e) (by simp) (fun k j hk => by simp at hk) (fun k hk => by simp at hk) (by simp) (grownCap_ge w _ _ _)
    have hr := run_append_nil (P := P) w t ty e i z ht hi hz ad (l0.length + 1) capy nv n1 hn5 (by omega) (by omega) (by omega)
    exact ⟨_, _, _, _, hr, by simpa using t1, by simpa using t2⟩
   | some a =>
    obtain ⟨t1, t2⟩ := fresh [] [] 0 (l0.length + 1) (grownCap w (l0.length + 1) 0 e) (by simp) (fun k j hk => by simp at hk) (fun k hk => by simp at hk) (by simp) (grownCap_ge w _ _ _)
    have hr := run_append_grow (P := P) w t ty e i z ht hi hz a 0 0 [] (by simp) (by simp) ad (l0.length + 1) capy nv n1 hn5 (by omega) (by omega) (by rw [Nat.zero_add]; exact growslice_fits (by omega) (by omega))
    rw [Nat.zero_add] at hr
    exact ⟨_, _, _, _, hr, by simpa using t1, by simpa using t2⟩
 ·cases h
end Go.Gim

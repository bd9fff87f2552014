import Derived.Test.YtjmbcnfhonfpkaaGreatDoorF4
/- What one operation does, the rest: new blocks, stores; all of them together. -/
set_option linter.unusedVariables false
set_option linter.unusedSimpArgs false
namespace Go.Gim
open Go.RowKit

theorem Trans.alloc {φ : Nat → Option Nat} {M U U' : Nat → Prop} {w : World} {H : Hp} (hp : HpOk φ M w H U) (Mb : ∀ g, M g → g < w.heap.size) (hU : ∀ b, U b → U' b) {id : Nat} (hid : U' id) (hnew : ¬ U id)
  (arr : Array Value) (ty : TypeId) (blk : Blk) (hsz : ∀ i, i < blk.elems.length → (blk.elems.getD i .junk).cells.length = blk.size) (hlen : blk.elems.length * blk.size ≤ arr.size)
  (hc : ∀ i j, i < blk.elems.length → j < blk.size → Sim φ M w H U ((blk.elems.getD i .junk).cells.getD j .junk) (arr.getD (i * blk.size + j) Go.undef)) :
  Trans φ (fun c => if c = id then some w.heap.size else φ c) M (fun g => M g ∨ g = w.heap.size) U U' w (w.alloc (.cells arr ty)) H (H.upd id (some blk)) := by
 have hold : ∀ (g : Nat), g < w.heap.size → (w.alloc (.cells arr ty)).heap[g]? = w.heap[g]? := fun g hg => Below.heap_alloc w _ g hg
 have hnewb : (w.alloc (.cells arr ty)).heap[w.heap.size]? = some (.cells arr ty (0, 0)) := by
  show (w.heap.push _)[w.heap.size]? = _
  simp
 have hfree : ∀ b, U b → b ≠ id := fun b hb e => hnew (e ▸ hb)
 have hused : ∀ b x, H b = some x → U b := fun b x hx => (hp.blk b x hx).1
 have K : Carry φ (fun c => if c = id then some w.heap.size else φ c) M (fun g => M g ∨ g = w.heap.size) w (w.alloc (.cells arr ty)) H (H.upd id (some blk)) U U' := by
  refine ⟨fun g o h1 h2 => ?_, hU, fun b n x hb h c h1 h2 => ?_, fun b n p hb h c h1 h2 => ?_⟩
  ·have hg := (Array.getElem?_eq_some_iff.1 h1).1
   exact ⟨by rw [hold g hg]; exact h1, fun h => h.elim h2 (fun e => by omega)⟩
  ·rw [Hp.upd_ne _ _ (hfree b hb)] at h1
   rcases h c h1 h2 with h | ⟨g, cap, ar, t, a1, a2, a3, a4, a5⟩
   ·exact .inl (by simpa [hfree b hb] using h)
   ·exact .inr ⟨g, cap, ar, t, by simpa [hfree b hb] using a1, a2, by rw [hold g (Array.getElem?_eq_some_iff.1 a3).1]; exact a3, a4, a5⟩
  ·rw [Hp.upd_ne _ _ (hfree b hb)] at h1
   simpa [hfree b hb] using h c h1 h2
 refine { carry := K, hp := ⟨fun b x hx => ?_, fun b c g hb hcn e1 e2 => ?_⟩, Mb := fun h g hg => ?_, M1 := fun g hg => ?_, M2 := fun g hg => .inl (.inl hg), os := rfl, tape := rfl, output := rfl, size := by simp, old := fun g hg _ => hold g hg, loc := fun b g hb hg => ?_ }
 ·by_cases hbi : b = id
  ·subst hbi
   rw [Hp.upd_same] at hx; cases hx
   refine ⟨hid, hsz, .inr ⟨w.heap.size, arr, ty, by simp, hnewb, hlen, fun i j hi hj => (hc i j hi hj).carry K, Or.inr rfl⟩⟩
  ·rw [Hp.upd_ne _ _ hbi] at hx
   obtain ⟨h1, h2, h3⟩ := hp.blk b x hx
   refine ⟨hU _ h1, h2, ?_⟩
   rcases h3 with h3 | ⟨g, ar, t, e1, e2, e3, e4, e5⟩
   ·exact .inl (by simpa [hbi] using h3)
   ·exact .inr ⟨g, ar, t, by simpa [hbi] using e1, by rw [hold g (Array.getElem?_eq_some_iff.1 e2).1]; exact e2, e3, fun i j hi hj => (e4 i j hi hj).carry K, Or.inl e5⟩
 ·have hlt : ∀ b g, H b ≠ none → φ b = some g → g < w.heap.size := fun b g hb hg => by
   cases hx : H b with
   | none => exact absurd hx hb
   | some x =>
    obtain ⟨_, _, h3⟩ := hp.blk b x hx
    rcases h3 with ⟨h3, _⟩ | ⟨g', _, _, e1, e2, _⟩
    ·rw [h3] at hg; cases hg
    ·rw [hg] at e1; cases e1
     exact (Array.getElem?_eq_some_iff.1 e2).1
  by_cases hbi : b = id <;> by_cases hci : c = id
  ·rw [hbi, hci]
  ·simp [hbi] at e1; simp [hci] at e2
   rw [Hp.upd_ne _ _ hci] at hcn
   have := hlt c g hcn e2; omega
  ·simp [hbi] at e1; simp [hci] at e2
   rw [Hp.upd_ne _ _ hbi] at hb
   have := hlt b g hb e1; omega
  ·simp [hbi] at e1; simp [hci] at e2
   rw [Hp.upd_ne _ _ hci] at hcn; rw [Hp.upd_ne _ _ hbi] at hb
   exact hp.inj b c g hb hcn e1 e2
 ·rcases hg with hg | hg
  ·have := h g hg; simp; omega
  ·simp; omega
 ·rcases hg with hg | hg
  ·exact .inl hg
  ·exact .inr (by omega)
 ·by_cases hbi : b = id
  ·simp [hbi] at hg; exact .inr (by omega)
  ·simp [hbi] at hg; rw [Hp.upd_ne _ _ hbi] at hb
   exact .inl ⟨b, hb, hg⟩

theorem ze3 {P : Program} {g k : Nat} {ty : TypeId} : ∀ (vs : List Value) (i : Nat) (arr : Array Value) (w : World), w.heap[g]? = some (.cells arr ty (0, 0)) → k + i + vs.length ≤ arr.size →
  (∀ v ∈ vs, v.oneCell' = true) → ∃ w' arr', (storeCells ⟨g, k, none⟩ vs i).run P w = .ok () w' ∧ w'.heap[g]? = some (.cells arr' ty (0, 0)) ∧ arr'.size = arr.size ∧
   (∀ j, arr'.getD j Go.undef = if k + i ≤ j ∧ j < k + i + vs.length then vs.getD (j - (k + i)) Go.undef else arr.getD j Go.undef) ∧
   (∀ g', g' ≠ g → w'.heap[g']? = w.heap[g']?) ∧ w'.heap.size = w.heap.size ∧ w'.os = w.os ∧ w'.tape = w.tape ∧ w'.output = w.output
 | [], i, arr, w, hb, _, _ => ⟨w, arr, by simp [storeCells], hb, rfl, fun j => by rw [if_neg (by simp)], fun _ _ => rfl, rfl, rfl, rfl, rfl⟩
 | v :: vs, i, arr, w, hb, hl, hv => by
  have hk : k + i < arr.size := by simp at hl; omega
  have ha : (⟨g, k, none⟩ : Addr).add i = ⟨g, k + i, none⟩ := by
   unfold Addr.add; split
   ·rename_i h; subst h; rfl
   ·rfl
  have hcell : w.cell? ⟨g, k + i, none⟩ = some arr[k + i] := by simp [World.cell?, hb, hk]
  have hfr : w.frozen? ⟨g, k + i, none⟩ = false := by simp [World.frozen?, hb]
  have hb' : (w.setCell ⟨g, k + i, none⟩ v).heap[g]? = some (.cells (arr.setIfInBounds (k + i) v) ty (0, 0)) := by
   simp [World.setCell, Array.getElem?_modify, hb]
  have hl' : k + (i + 1) + vs.length ≤ (arr.setIfInBounds (k + i) v).size := by
   rw [Array.size_setIfInBounds]; simp only [List.length_cons] at hl; omega
  obtain ⟨w', arr', h1, h2, h3, h4, h5, h6, h7, h8, h9⟩ := ze3 (P := P) (g := g) (k := k) vs (i + 1) (arr.setIfInBounds (k + i) v) (w.setCell ⟨g, k + i, none⟩ v) hb' hl' (fun u hu => hv u (by simp [hu]))
  refine ⟨w', arr', ?_, h2, by simpa using h3, fun j => ?_, fun g' hg' => ?_, by simpa using h6, h7, h8, h9⟩
  ·simp only [storeCells, Sem.run_bind, ha, run_store P w _ v .plain (hv v (by simp)), hcell, hfr]
   simpa using h1
  ·rw [h4 j]
   have e : k + (i + 1) = k + i + 1 := by omega
   rw [e]
   by_cases hj : j = k + i
   ·subst hj
    rw [if_neg (by omega), if_pos (by simp)]
    simp [Array.getD, hk]
   ·by_cases hj2 : k + i + 1 ≤ j ∧ j < k + i + 1 + vs.length
    ·rw [if_pos hj2, if_pos (by simp; omega)]
     obtain ⟨m, rfl⟩ : ∃ m, j = k + i + 1 + m := ⟨j - (k + i + 1), by omega⟩
     rw [show k + i + 1 + m - (k + i + 1) = m by omega, show k + i + 1 + m - (k + i) = m + 1 by omega]
     simp
    ·rw [if_neg hj2, if_neg (by simp; omega)]
     simp only [Array.getD_eq_getD_getElem?, Array.getElem?_setIfInBounds]
     rw [if_neg (by omega)]
  ·rw [h5 g' hg']
   exact Below.heap_setCell _ _ _ _ hg'

theorem Trans.store {φ : Nat → Option Nat} {M U U' : Nat → Prop} {w w' : World} {H : Hp} (hp : HpOk φ M w H U) (hU : ∀ b, U b → U' b) {b g : Nat} {blk : Blk} (hb : H b = some blk)
  (hg : φ b = some g) {arr arr' : Array Value} {ty : TypeId} (h0 : w.heap[g]? = some (.cells arr ty (0, 0))) (h1 : w'.heap[g]? = some (.cells arr' ty (0, 0))) (h2 : arr'.size = arr.size)
  (h3 : ∀ g', g' ≠ g → w'.heap[g']? = w.heap[g']?) (h4 : w'.heap.size = w.heap.size) (ho : w'.os = w.os) (ht : w'.tape = w.tape) (hou : w'.output = w.output)
  (els : List V) (hel : els.length = blk.elems.length) (hsz : ∀ i, i < els.length → (els.getD i .junk).cells.length = blk.size)
  (hc : ∀ i j, i < els.length → j < blk.size → Sim φ M w H U ((els.getD i .junk).cells.getD j .junk) (arr'.getD (i * blk.size + j) Go.undef)) :
  Trans φ φ M M U U' w w' H (H.upd b (some ⟨els, blk.size⟩)) := by
 obtain ⟨hUb, hbs, hbk⟩ := hp.blk b blk hb
 have hM : M g ∧ blk.elems.length * blk.size ≤ arr.size := by
  rcases hbk with ⟨h, _⟩ | ⟨g', a, t, e1, e2, e3, e4, e5⟩
  ·rw [h] at hg; cases hg
  ·rw [hg] at e1; cases e1
   rw [h0] at e2; cases e2
   exact ⟨e5, e3⟩
 have K : Carry φ φ M M w w' H (H.upd b (some ⟨els, blk.size⟩)) U U' := by
  refine ⟨fun g' o k1 k2 => ⟨by rw [h3 g' (fun e => k2 (e ▸ hM.1))]; exact k1, k2⟩, hU, fun c n x hc' h d k1 k2 => ?_, fun c n p hc' h d k1 k2 => ?_⟩
  ·have hd : ∃ d0, H c = some d0 ∧ d0.elems.length = n ∧ d0.size = d.size := by
    by_cases hcb : c = b
    ·subst hcb; rw [Hp.upd_same] at k1; cases k1
     exact ⟨blk, hb, by rw [← hel]; exact k2, rfl⟩
    ·rw [Hp.upd_ne _ _ hcb] at k1; exact ⟨d, k1, k2, rfl⟩
   obtain ⟨d0, d1, d2, d3⟩ := hd
   rcases h d0 d1 d2 with h | ⟨g', cap, ar, t, a1, a2, a3, a4, a5⟩
   ·exact .inl h
   ·by_cases hgg : g' = g
    ·subst hgg
     rw [h0] at a3; cases a3
     exact .inr ⟨g', cap, arr', ty, a1, a2, h1, by rw [h2, a4, d3], a5⟩
    ·exact .inr ⟨g', cap, ar, t, a1, a2, by rw [h3 g' hgg]; exact a3, by rw [a4, d3], a5⟩
  ·by_cases hcb : c = b
   ·subst hcb; rw [Hp.upd_same] at k1; cases k1
    exact h blk hb (by rw [← hel]; exact k2)
   ·rw [Hp.upd_ne _ _ hcb] at k1; exact h d k1 k2
 refine { carry := K, hp := ⟨fun c x hx => ?_, fun c d g' hcn hdn e1 e2 => ?_⟩, Mb := fun h g' hg' => by rw [h4]; exact h g' hg', M1 := fun _ => .inl, M2 := fun _ => .inl, os := ho, tape := ht, output := hou, size := by omega, old := fun g' _ hne => ?_, loc := fun c g' hcn hg' => ?_ }
 ·by_cases hcb : c = b
  ·subst hcb; rw [Hp.upd_same] at hx; cases hx
   exact ⟨hU _ hUb, hsz, .inr ⟨g, arr', ty, hg, h1, by simp only [hel, h2]; exact hM.2, fun i j hi hj => (hc i j hi hj).carry K, hM.1⟩⟩
  ·rw [Hp.upd_ne _ _ hcb] at hx
   obtain ⟨k1, k2, k3⟩ := hp.blk c x hx
   refine ⟨hU _ k1, k2, ?_⟩
   rcases k3 with k3 | ⟨g', ar, t, e1, e2, e3, e4, e5⟩
   ·exact .inl k3
   ·have hgg : g' ≠ g := fun e => hcb (hp.inj c b g (by simp [hx]) (by simp [hb]) (e ▸ e1) hg)
    exact .inr ⟨g', ar, t, e1, by rw [h3 g' hgg]; exact e2, e3, fun i j hi hj => (e4 i j hi hj).carry K, e5⟩
 ·have hne : ∀ c, H.upd b (some ⟨els, blk.size⟩) c ≠ none → H c ≠ none := fun c hc' => by
   by_cases hcb : c = b
   ·subst hcb; simp [hb]
   ·rwa [Hp.upd_ne _ _ hcb] at hc'
  exact hp.inj c d g' (hne c hcn) (hne d hdn) e1 e2
 ·exact h3 g' fun e => hne b (by simp [hb]) (e ▸ hg)
 ·refine .inl ⟨c, ?_, hg'⟩
  by_cases hcb : c = b
  ·subst hcb; simp [hb]
  ·rwa [Hp.upd_ne _ _ hcb] at hcn

theorem zfz {φ : Nat → Option Nat} {M U : Nat → Prop} {w : World} {H : Hp} {S : St} {a : Act} (henv : EnvOk φ M w H U S a) :
  ∀ {os : List Operand} {xs : List X}, mXs mX os xs = true → os.length = xs.length ∧ ∀ i, i < xs.length → Sim φ M w H U ((xs.map S.ev).getD i .junk) ((os.map a.eval).getD i Go.undef)
 | [], [], _ => ⟨rfl, fun i hi => by simp at hi⟩
 | o :: os, x :: xs, h => by
  simp only [mXs, Bool.and_eq_true] at h
  obtain ⟨h1, h2⟩ := zfz henv h.2
  refine ⟨by simp [h1], fun i hi => ?_⟩
  cases i with
  | zero => simpa using za4 henv h.1
  | succ i => simpa using h2 i (by simpa using hi)

theorem mm_run {P : Program} {φ : Nat → Option Nat} {M U : Nat → Prop} {w : World} {H : Hp} {mx : Bool} : ∀ {l : List V} {ys : List Value} {v r : V} {x : Value}, mmV mx v l = some r → l.length = ys.length →
  (∀ i, i < l.length → Sim φ M w H U (l.getD i .junk) (ys.getD i Go.undef)) → Sim φ M w H U v x →
  ∃ z, (List.foldlM (if mx then Builtin.max2 else Builtin.min2) x ys).run P w = .ok z w ∧ Sim φ M w H U r z
 | [], ys, v, r, x, h, hl, _, hx => by
  have : ys = [] := by simpa using hl.symm
  subst this
  unfold mmV at h; simp at h; subst h
  exact ⟨x, by simp, hx⟩
 | u :: l, ys, v, r, x, h, hl, hs, hx => by
  obtain ⟨y, ys, rfl⟩ : ∃ y ys', ys = y :: ys' := by cases ys <;> simp_all
  unfold mmV at h
  split at h
  ·simp_all
  ·rename_i k a k' b l' heq
   cases heq
   have e1 := hx.int_inv
   have e2 := Sim.int_inv (hs 0 (by simp))
   simp at e2
   subst e1; subst e2
   obtain ⟨z, h1, h2⟩ := mm_run (P := P) h (by simpa using hl) (fun i hi => by simpa using hs (i + 1) (by simpa using hi)) (.pur (.int k _))
   refine ⟨z, ?_, h2⟩
   cases mx
   ·simpa [Builtin.min2] using h1
   ·simpa [Builtin.max2] using h1
  ·simp at h

theorem lay_at (off : Nat) : ∀ (l : List Value) (k : Nat) (arr : Array Value), off + k + l.length ≤ arr.size →
  ((l.zipIdx k).foldl (fun cs (p : Value × Nat) => cs.setIfInBounds (off + p.2) p.1) arr).size = arr.size ∧
  ∀ j, ((l.zipIdx k).foldl (fun cs (p : Value × Nat) => cs.setIfInBounds (off + p.2) p.1) arr).getD j Go.undef = if off + k ≤ j ∧ j < off + k + l.length then l.getD (j - (off + k)) Go.undef else arr.getD j Go.undef
 | [], k, arr, _ => ⟨rfl, fun j => by rw [if_neg (by simp)]; rfl⟩
 | v :: l, k, arr, h => by
  have hl' : off + (k + 1) + l.length ≤ (arr.setIfInBounds (off + k) v).size := by
   rw [Array.size_setIfInBounds]; simp only [List.length_cons] at h; omega
  obtain ⟨h1, h2⟩ := lay_at off l (k + 1) (arr.setIfInBounds (off + k) v) hl'
  simp only [List.zipIdx_cons, List.foldl_cons]
  refine ⟨by rw [h1]; simp, fun j => ?_⟩
  rw [h2 j]
  have e : off + (k + 1) = off + k + 1 := by omega
  rw [e]
  have hk : off + k < arr.size := by simp only [List.length_cons] at h; omega
  by_cases hj : j = off + k
  ·subst hj
   rw [if_neg (by omega), if_pos (by simp)]
   simp [Array.getD, hk]
  ·by_cases hj2 : off + k + 1 ≤ j ∧ j < off + k + 1 + l.length
   ·rw [if_pos hj2, if_pos (by simp; omega)]
    obtain ⟨m, rfl⟩ : ∃ m, j = off + k + 1 + m := ⟨j - (off + k + 1), by omega⟩
    rw [show off + k + 1 + m - (off + k + 1) = m by omega, show off + k + 1 + m - (off + k) = m + 1 by omega]
    simp
   ·rw [if_neg hj2, if_neg (by simp; omega)]
    simp only [Array.getD_eq_getD_getElem?, Array.getElem?_setIfInBounds]
    rw [if_neg (by omega)]

theorem laid_getD (l a : List V) (off : Nat) (h : off + a.length ≤ l.length) (j : Nat) :
  (l.take off ++ a ++ l.drop (off + a.length)).getD j .junk = if off ≤ j ∧ j < off + a.length then a.getD (j - off) .junk else l.getD j .junk := by
 simp only [List.getD_eq_getElem?_getD]
 congr 1
 by_cases h1 : j < off
 ·rw [if_neg (by omega), List.append_assoc, List.getElem?_append_left (by simp; omega)]
  simp [h1]
 ·by_cases h2 : j < off + a.length
  ·rw [if_pos (by omega), List.append_assoc, List.getElem?_append_right (by simp; omega), List.getElem?_append_left (by simp; omega)]
   rw [List.length_take, Nat.min_eq_left (by omega)]
  ·rw [if_neg (by omega), List.getElem?_append_right (by simp; omega)]
   simp only [List.getElem?_drop]
   rw [show off + a.length + (j - (l.take off ++ a).length) = j by simp; omega]

theorem fill_ok {φ : Nat → Option Nat} {M U : Nat → Prop} {w : World} {H : Hp} {P : Program} {a : Act} {S : St} (henv : EnvOk φ M w H U S a) (pl : Nat → Option (Nat × TypeId)) (place : Nat → Option (Nat × Nat)) (hpl : ∀ i off ft size, pl i = some (off, ft) → tySz P ft size = true → place i = some (off, size)) :
  ∀ {ops : List (Nat × Operand)} {parts : List (Nat × Nat × X)} {cs r : List V} {arr : Array Value}, mParts P pl ops parts = true → fillV cs (parts.map fun p => (p.1, p.2.1, S.ev p.2.2)) = some r → arr.size = cs.length →
   (∀ i, i < cs.length → Sim φ M w H U (cs.getD i .junk) (arr.getD i Go.undef)) → ∃ arr', Instr.fill place arr (ops.map fun p => (p.1, a.eval p.2)) = some arr' ∧ arr'.size = r.length ∧
   ∀ i, i < r.length → Sim φ M w H U (r.getD i .junk) (arr'.getD i Go.undef)
 | [], [], cs, r, arr, _, h, hs, hc => by
  simp [fillV] at h; subst h
  exact ⟨arr, by simp [Instr.fill], hs, hc⟩
 | (i, o) :: ops, (off, size, x) :: parts, cs, r, arr, hm, h, hs, hc => by
  simp only [mParts, Bool.and_eq_true] at hm
  obtain ⟨⟨hm1, hm2⟩, hm3⟩ := hm
  have hp : place i = some (off, size) := by
   cases hf : pl i with
   | none => simp [hf] at hm1
   | some q =>
    obtain ⟨off', ft⟩ := q
    simp [hf] at hm1
    obtain ⟨rfl, hsz⟩ := hm1
    exact hpl i off ft size hf hsz
  simp only [List.map_cons, fillV] at h
  split at h
  ·rename_i hcond
   obtain ⟨hc0, hc1, hc2⟩ := hcond
   have hx := za4 henv hm2
   have hj : S.ev x ≠ .junk := fun e => by rw [e] at hc0; cases hc0
   ·obtain ⟨hz1, hz2⟩ := hx.cell hj
    have hlay := lay_at off (a.eval o).cells.toList 0 arr (by simp [hz1]; omega)
    have hlen : (cs.take off ++ (S.ev x).cells ++ cs.drop (off + size)).length = cs.length := by simp; omega
    obtain ⟨arr', e1, e2, e3⟩ := fill_ok henv pl place hpl (ops := ops) (parts := parts) (arr := ((a.eval o).cells.toList.zipIdx 0).foldl (fun cs (p : Value × Nat) => cs.setIfInBounds (off + p.2) p.1) arr) hm3 h (by rw [hlay.1, hs, hlen]) (fun k hk => by
     rw [hlen] at hk
     rw [hlay.2 k, ← hc1, laid_getD _ _ _ (by omega)]
     have : (a.eval o).cells.toList.length = (S.ev x).cells.length := by simpa using hz1
     rw [this]
     simp only [Nat.add_zero]
     split
     ·rename_i hin
      have := hz2 (k - off) (by omega)
      simpa [Array.getD_eq_getD_getElem?, List.getD_eq_getElem?_getD] using this
     ·exact hc k hk)
    refine ⟨arr', ?_, e2, e3⟩
    simp only [List.map_cons, Instr.fill, hp]
    have hno : ¬ ((a.eval o).cells.size ≠ size ∨ off + (a.eval o).cells.size > arr.size) := by
     rw [hs]; clear hlay e1 e2 e3 hlen; omega
    rw [if_neg (by simp only [Bool.or_eq_true, decide_eq_true_eq]; exact hno)]
    rw [← e1]
    congr 1
    rw [← Array.foldl_toList]
    simp [Array.toList_zipIdx]
  ·simp at h
end Go.Gim

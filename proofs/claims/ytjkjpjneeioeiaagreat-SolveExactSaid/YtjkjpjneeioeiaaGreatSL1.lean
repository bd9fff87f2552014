import Derived.Test.YtjkjpjneeioeiaaGreatSM
import Derived.Test.YtjkjpjneeioeiaaGreatLI4
import Derived.Test.YtjkjpjneeioeiaaGreatB2
import Derived.Test.YtjkjpjneeioeiaaGreatGSL
import Derived.Test.YtjkjpjneeioeiaaGreatLR4
import Derived.Test.YtjkjpjneeioeiaaGreatSM0
import Derived.Test.YtjkjpjneeioeiaaGreatLB2
import Derived.Test.YtjkjpjneeioeiaaGreatRL0
import Derived.Test.YtjkjpjneeioeiaaGreatGN
set_option linter.unusedSimpArgs false
set_option linter.unusedVariables false
/- What the laws on looking for less use: mirrored rows. -/
set_option maxRecDepth 100000
set_option maxHeartbeats 4000000
namespace Go.Gim
open Go.Proofs
set_option maxHeartbeats 2000000 in
theorem mirror19_ret (rows : List (List Int)) (n : Nat) (hn : n ≤ 12) (hl : rows.length ≤ 9223372036854775807) (hr : ∀ r ∈ rows, r.length ≤ 9223372036854775807) : Ret pg zdy [.sl (rows.map ints), .int .i64 n] (.sl ((mirM rows n).map ints)) := by
 refine gimballaw19_mirror.of rfl (W_b ?_)
 unfold gimballaw19_mirror.k gimballaw19_mirror.res Ot kp kd Oh Oy Om Ol Oi Oc ci
 refine sgo ?_
 refine zam (T := Nat × V × (Nat → Nat) × Hp × Nat) (fun t => ⟨E [(0, .sl (rows.map ints)), (1, .int .i64 n), (5, t.2.1), (6, .int .i64 t.1)], t.2.2.2.1, t.2.2.2.2, t.2.2.2.2⟩)
  (fun t => t.1 ≤ n ∧ Row 0 t.2.2.2.1 t.2.2.2.2 t.2.1 1 ((List.range t.1).map fun k => .own (t.2.2.1 k) n) ∧ ∀ k, k < t.1 → t.2.2.2.1 (t.2.2.1 k) = some ⟨(List.replicate n 0).map (V.int .i64), 1⟩ ∧ t.2.2.1 k < t.2.2.2.2 ∧ (∀ m, t.2.1 ≠ .own (t.2.2.1 k) m) ∧ ∀ m, m < t.1 → m ≠ k → t.2.2.1 m ≠ t.2.2.1 k) (fun t => n - t.1) (0, .nil, fun _ => 0, _, _) rfl ⟨zdo, Row.nil _ _ _ _, fun k h => by dsimp only at h; omega⟩ ?_
 rintro ⟨i, w, ids, H, nx⟩ ⟨i1, i2, i3⟩
 dsimp only at i1 i2 i3
 by_cases hi : i < n
 ·refine sgo ?_
  refine W_gh0 ?_
  refine sgo ?_
  have i2' : Row 0 (H.upd (nx + 5) (some ⟨(List.replicate n 0).map (V.int .i64), 1⟩)) (nx + 6) w 1 ((List.range i).map fun k => .own (ids k) n) := i2.same (fun b hb => Hp.upd_ne _ _ (by omega)) (by omega)
  refine zcc (lo := 0) (nx := nx + 6) (H0 := H.upd (nx + 5) (some ⟨(List.replicate n 0).map (V.int .i64), 1⟩)) (xs := (List.range i).map fun k => .own (ids k) n) i2' (by omega) rfl (by omega) (by omega) (by simp [rowOk, V.cells, V.cellOk, V.isJunk]) (by decide) (by simp; omega) (by simp; omega) fun v2 H2 r1 r2 r3 r4 => ?_
  have hids : (List.range i).map (fun k => V.own (ids k) n) = (List.range i).map (fun k => V.own (if k = i then nx + 5 else ids k) n) := List.map_congr_left fun k hk => by simp at hk; rw [if_neg (by omega)]
  have hlast : V.own (nx + 5) n = (fun k => V.own (if k = i then nx + 5 else ids k) n) i := by simp
  rw [hids, hlast, ze6] at r1
  have hw5 : ∀ m, w ≠ .own (nx + 5) m := fun m e => by
   rcases i2 with ⟨h, _⟩ | ⟨b, h, _, hb, _⟩
   ·rw [h] at e; cases e
   ·rw [h] at e; cases e; omega
  refine sgo ?_
  refine ⟨(i + 1, v2, fun k => if k = i then nx + 5 else ids k, H2, _), rfl, ⟨zdo, r1.same (fun _ _ => rfl) zdo, fun k hk => ?_⟩, zdo⟩
  dsimp only at hk ⊢
  by_cases hki : k = i
  ·subst hki
   rw [if_pos rfl]
   refine ⟨?_, by omega, fun m e => ?_, fun m hm hmk => ?_⟩
   ·rw [r3 _ (by omega) hw5, Hp.upd_same]
   ·have := r2 _ _ e; omega
   ·rw [if_neg hmk]
    have := (i3 m (by omega)).2.1; omega
  ·rw [if_neg hki]
   obtain ⟨h1, h2, h3, h4⟩ := i3 k (by omega)
   refine ⟨?_, by omega, fun m e => ?_, fun m hm hmk => ?_⟩
   ·rw [r3 _ (by omega) (fun m => h3 m), Hp.upd_ne _ _ (by omega)]; exact h1
   ·have := r2 _ _ e; omega
   ·by_cases hmi : m = i
    ·rw [if_pos hmi]; omega
    ·rw [if_neg hmi]; exact h4 m (by omega) hmk
 ·have hie : n = i := by omega
  subst hie
  have hd : ∀ k m, k < n → m < n → m ≠ k → ids m ≠ ids k := fun k m hk hm hmk => (i3 k hk).2.2.2 m hm hmk
  have hw : ∀ k m, k < n → w ≠ .own (ids k) m := fun k m hk => (i3 k hk).2.2.1 m
  have hz : ∀ k, (List.replicate n (0 : Int)) = (List.range n).map (mirF rows 0 0 k) := fun k => by
   refine List.ext_getElem (by simp) fun a h1 h2 => ?_
   simp [mirF]
  have hi0 : ∀ k, k < n → H (ids k) = some ⟨((List.range n).map (mirF rows 0 0 k)).map (V.int .i64), 1⟩ ∧ ids k < nx := fun k hk => ⟨by rw [← hz k]; exact (i3 k hk).1, (i3 k hk).2.1⟩
  clear i3
  refine sgo ?_
  refine zam (T := Nat × Hp × Nat) (fun t => ⟨E [(0, .sl (rows.map ints)), (1, .int .i64 n), (5, w), (7, .int .i64 t.1)], t.2.1, t.2.2, t.2.2⟩)
   (fun t => t.1 ≤ n ∧ Row 0 t.2.1 t.2.2 w 1 ((List.range n).map fun k => .own (ids k) n) ∧ ∀ k, k < n → t.2.1 (ids k) = some ⟨((List.range n).map (mirF rows t.1 0 k)).map (V.int .i64), 1⟩ ∧ ids k < t.2.2) (fun t => n - t.1) (0, H, _) rfl ⟨zdo, i2.same (fun _ _ => rfl) zdo, fun k hk => ⟨(hi0 k hk).1, by have := (hi0 k hk).2; dsimp only; omega⟩⟩ ?_
  clear i2 hi0 hz
  rintro ⟨i, H, nx⟩ ⟨i1, i2, i3⟩
  dsimp only at i1 i2 i3
  have hend : (i = n ∨ rows.length ≤ i) → ∀ a c, a < n → c < n → mirF rows i 0 a c = at2 rows (max a c) (min a c) := fun h a c ha hc => by
   unfold mirF
   by_cases hm : max a c < i
   ·rw [if_pos (.inl hm)]
   ·rw [if_neg (by omega)]
    rcases h with h | h
    ·omega
    ·refine (at2_zero fun r hr => ?_).symm
     rw [List.getElem?_eq_none (by omega)] at hr; cases hr
  have fin : (i = n ∨ rows.length ≤ i) → frz H 8 w = some (.sl ((mirM rows n).map ints)) := fun h => by
   have e : (mirM rows n).map ints = (List.range n).map fun k => ints ((List.range n).map fun c => at2 rows (max k c) (min k c)) := by simp only [mirM, mat, List.map_map]; rfl
   rw [e]
   refine i2.frz (allOf_map fun k hk => ?_)
   have hk := List.mem_range.1 hk
   have e2 : (List.range n).map (mirF rows i 0 k) = (List.range n).map fun c => at2 rows (max k c) (min k c) := List.map_congr_left fun c hc => hend h k c hk (List.mem_range.1 hc)
   have h1 := (i3 k hk).1
   rw [e2] at h1
   rw [frz_own, h1, frzO_some (by simp), zc3 fun x => rfl]
   rfl
  by_cases hi : i < n
  ·by_cases hir : i < rows.length
   ·have hrm := zai [] hir
    have hrl := hr _ hrm
    obtain ⟨b, rfl, b1, b2, b3⟩ := i2.own_of (by simp; omega)
    rw [List.length_map, List.length_range] at hw ⊢
    have hbn : ∀ k, k < n → b ≠ ids k := fun k hk e => hw k n hk (by rw [e])
    refine sgo ?_
    refine zam (T := Nat × Hp × Nat) (fun t => ⟨E [(0, .sl (rows.map ints)), (1, .int .i64 n), (5, .own b n), (7, .int .i64 i), (8, .int .i64 t.1)], t.2.1, t.2.2, t.2.2⟩)
     (fun t => t.1 ≤ i + 1 ∧ t.1 ≤ (rows.getD i []).length ∧ b < t.2.2 ∧ t.2.1 b = some ⟨(List.range n).map fun k => .own (ids k) n, 1⟩ ∧ ∀ k, k < n → t.2.1 (ids k) = some ⟨((List.range n).map (mirF rows i t.1 k)).map (V.int .i64), 1⟩ ∧ ids k < t.2.2) (fun t => i + 1 - t.1) (0, H, _) rfl ⟨zdo, zdo, zdo, b3, fun k hk => ⟨(i3 k hk).1, by have := (i3 k hk).2; dsimp only; omega⟩⟩ ?_
    clear i2 i3 fin
    rintro ⟨k, H, nx⟩ ⟨k1, k2, k3, k4, k5⟩
    dsimp only at k1 k2 k3 k4 k5
    have hload : ∀ (m nx : Nat), m < n → b < nx → loadO true nx b (some ⟨(List.range n).map fun k => .own (ids k) n, 1⟩) n m 0 1 false = some (.own (ids m) n) := fun m nx hm hb => zgj (fun _ => hb) (by simp) (by simp [hm]) rfl rfl
    by_cases hki : k ≤ i
    ·by_cases hkr : k < (rows.getD i []).length
     ·obtain ⟨q1, q2⟩ := k5 i hi
      have hv : (rows.getD i []).getD k 0 = at2 rows i k := rfl
      have e1 : ((List.range n).map (mirF rows i k i)).set k (at2 rows i k) = (List.range n).map (mirF rows i (k + 1) i) := by
       rw [zdc]
       refine List.map_congr_left fun c hc => ?_
       by_cases hck : c = k
       ·subst hck; rw [if_pos rfl, mirF_at (by omega)]
       ·rw [if_neg hck, mirF_step (by omega)]
      have hbi : (b = ids i) = False := by simpa using hbn i hi
      by_cases hik : k = i
      ·subst hik
       have e2 : ((List.range n).map (mirF rows k (k + 1) k)).set k (at2 rows k k) = (List.range n).map (mirF rows k (k + 1) k) := by
        rw [zdc]
        refine List.map_congr_left fun c hc => ?_
        by_cases hck : c = k
        ·subst hck; rw [if_pos rfl, mirF_at (by omega)]
        ·rw [if_neg hck]
       simp -dsimp -implicitDefEqProofs (disch := try exact zdE) only [go_sem, k4, hload, q1, hv, hbi, e1, e2]
       generalize hH2 : Hp.upd H (ids k) _ = H2
       have s1 := zd9 hH2
       have s2 := zbw hH2 k4 (hbn k hi)
       refine ⟨(k + 1, H2, _), rfl, ⟨zdo, zdo, zdo, s2, fun a ha => ?_⟩, zdo⟩
       dsimp only
       obtain ⟨y1, y2⟩ := k5 a ha
       refine ⟨?_, by omega⟩
       by_cases hak : a = k
       ·subst hak; exact s1
       ·have z1 := zbw hH2 y1 (hd k a hi ha hak)
        rw [z1, List.map_congr_left (g := mirF rows k (k + 1) a) fun c hc => mirF_step (by omega)]
      ·obtain ⟨t1, t2⟩ := k5 k (by omega)
       have hki' : (ids k = ids i) = False := by simpa using hd i k hi (by omega) hik
       have e2 : ((List.range n).map (mirF rows i k k)).set i (at2 rows i k) = (List.range n).map (mirF rows i (k + 1) k) := by
        rw [zdc]
        refine List.map_congr_left fun c hc => ?_
        by_cases hci : c = i
        ·subst hci; rw [if_pos rfl, mirF_at (by omega)]
        ·rw [if_neg hci, mirF_step (by omega)]
       simp -dsimp -implicitDefEqProofs (disch := try exact zdE) only [go_sem, k4, hload, q1, hv, hbi, e1, hki', t1, e2]
       generalize hH1 : Hp.upd H (ids i) _ = H1
       generalize hH2 : Hp.upd H1 (ids k) _ = H2
       have p1 := zd9 hH1
       have p2 := zbw hH1 k4 (hbn i hi)
       have s1 := zd9 hH2
       have s2 := zbw hH2 p2 (hbn k (by omega))
       have s3 := zbw hH2 p1 (hd k i (by omega) hi (Ne.symm hik))
       refine ⟨(k + 1, H2, _), rfl, ⟨zdo, zdo, zdo, s2, fun a ha => ?_⟩, zdo⟩
       dsimp only
       obtain ⟨y1, y2⟩ := k5 a ha
       refine ⟨?_, by omega⟩
       by_cases hak : a = k
       ·subst hak; exact s1
       ·by_cases hai : a = i
        ·subst hai; exact s3
        ·have z1 := zbw hH1 y1 (hd i a hi ha hai)
         have z2 := zbw hH2 z1 (hd k a (by omega) ha hak)
         rw [z2, List.map_congr_left (g := mirF rows i (k + 1) a) fun c hc => mirF_step (by omega)]
     ·refine sgo ?_
      have hzr : ∀ m, k ≤ m → m ≤ i → at2 rows i m = 0 := fun m h1 h2 => at2_zero fun r h => by
       have : rows.getD i [] = r := by simp [List.getD_eq_getElem?_getD, h]
       rw [← this]; omega
      refine ⟨(i + 1, H, _), rfl, ⟨zdo, .inr ⟨b, by simp, by omega, zdo, k4⟩, fun a ha => ?_⟩, zdo⟩
      dsimp only
      obtain ⟨y1, y2⟩ := k5 a ha
      exact ⟨by rw [y1, List.map_congr_left (g := mirF rows (i + 1) 0 a) fun c hc => mirF_row hzr], by omega⟩
    ·refine sgo ?_
     refine ⟨(i + 1, H, _), rfl, ⟨zdo, .inr ⟨b, by simp, by omega, zdo, k4⟩, fun a ha => ?_⟩, zdo⟩
     dsimp only
     obtain ⟨y1, y2⟩ := k5 a ha
     exact ⟨by rw [y1, List.map_congr_left (g := mirF rows (i + 1) 0 a) fun c hc => mirF_row fun m h1 h2 => by omega], by omega⟩
   ·have hf := fin (.inr (by omega))
    refine sgo ?_
    rw [hf]
    rfl
  ·have hie : i = n := by omega
   have hf := fin (.inl hie)
   refine sgo ?_
   rw [hf]
   rfl
end Go.Gim
/- What the laws on looking for less use: a graph that is read. -/
set_option maxRecDepth 100000
set_option maxHeartbeats 4000000
namespace Go.Gim
open Go.Proofs
def rd19B (n most : Int) (rows : List Row4) (den : Int) : Bool := decide (gnewE n rows = 0) && decide (n ≤ most) && decide (0 < den)
def rd19G (n most : Int) (rows : List Row4) (prior : List (List Int)) (den : Int) : Gr := if rd19B n most rows den = true then ⟨n.toNat, rows, mirM prior n.toNat, List.replicate n.toNat 0, 0, den⟩ else newG n rows
theorem rd19_ok {n most : Int} {rows : List Row4} {den : Int} : rd19B n most rows den = true ↔ gnewE n rows = 0 ∧ n ≤ most ∧ 0 < den := by
 unfold rd19B; simp only [Bool.and_eq_true, decide_eq_true_eq]; exact ⟨fun ⟨⟨a, b⟩, c⟩ => ⟨a, b, c⟩, fun ⟨a, b, c⟩ => ⟨⟨a, b⟩, c⟩⟩
theorem read19_ret (n most den : Int) (rows : List Row4) (prior : List (List Int)) (hl : rows.length ≤ 9223372036854775807) (hr : ∀ r ∈ rows, r.co.length ≤ 9223372036854775807) (hpl : prior.length ≤ 9223372036854775807) (hp : ∀ r ∈ prior, r.length ≤ 9223372036854775807 ∧ ∀ v ∈ r, In64 v) (hd : In64 den) :
  Ret pg zex [.int .i64 n, .int .i64 most, .sl (rows.map RV), .sl (prior.map ints), .int .i64 den] (.tup [GV (rd19G n most rows prior den), DGV (rd19G n most rows prior den), .bool (rd19B n most rows den)]) := by
 have g1 := gnew_ret n rows hl hr
 have g2 := rnew_ret n rows hl hr
 refine gimballaw19_read.of rfl (W_b ?_)
 unfold gimballaw19_read.k gimballaw19_read.res Ot kp kd Og Oh Oy Om OL ci
 refine sgo ?_
 refine zaa (r := .tup [GV (newG n rows), .int .i64 (gnewE n rows)]) g1 (by simp) ?_
 refine sgo ?_
 refine zaa (r := .tup [DGV (newG n rows), .int .i64 (gnewE n rows)]) g2 (by simp) ?_
 have no : ∀ {p : Prop}, ¬ p → (rd19B n most rows den = true → p) → rd19B n most rows den = false := fun h1 h2 => by
  cases h : rd19B n most rows den
  ·rfl
  ·exact absurd (h2 h) h1
 have nog : rd19B n most rows den = false → rd19G n most rows prior den = newG n rows := fun h => by unfold rd19G; rw [h]; rfl
 by_cases h1 : gnewE n rows = 0
 ·by_cases h2 : n ≤ most
  ·by_cases h3 : 0 < den
   ·have hb := rd19_ok.2 ⟨h1, h2, h3⟩
    obtain ⟨hn, _, _⟩ := gnewE_ok h1
    obtain ⟨m, rfl⟩ : ∃ m : Nat, n = m := ⟨n.toNat, by omega⟩
    have hG : rd19G m most rows prior den = ⟨m, rows, mirM prior m, List.replicate m 0, 0, den⟩ := by unfold rd19G; rw [if_pos hb]; rfl
    rw [hb, hG]
    have hm12 : m ≤ 12 := by omega
    have q0 := qofE_mir prior hm12 (q := List.replicate m 0) (by simp)
    have hpi : ∀ v ∈ List.replicate m (0 : Int), In64 v := fun v hv => by rw [(List.mem_replicate.1 hv).2]; omega
    have hsq := mirM_sq prior m
    have hin := mirM_in (rows := prior) (fun r h => (hp r h).2) m
    have hlen : ∀ r ∈ mirM prior m, r.length = m := hsq.2
    have q1 := qof_ret (mirM prior m) (List.replicate m 0) 0 (by rw [hsq.1]; omega) (fun r h => ⟨by rw [hlen r h]; omega, hin r h⟩) hpi (by simp; omega) (by omega)
    rw [q0, if_pos rfl] at q1
    have q2 := r8of_ret (mirM prior m) (List.replicate m 0) 0 (by rw [hsq.1]; omega) (fun r h => ⟨by rw [hlen r h]; omega, hin r h⟩) hpi (by simp; omega) (by omega)
    have hng : newG m rows = ⟨m, rows, mat m (fun _ _ => 0), List.replicate m 0, 0, 1⟩ := by unfold newG; rw [if_pos h1]; rfl
    have q3 := with_ret (newG m rows) (mirM prior m) (List.replicate m 0) 0 den (by rw [hng]; dsimp only; omega) (by rw [hsq.1]; omega) (by simp; omega) (by have := zat hd; omega)
    rw [if_pos (by rw [hng]; exact ⟨hsq.1, by simp, h3⟩), if_pos (by rw [hng]; exact ⟨hsq.1, by simp, h3⟩)] at q3
    have hGe : GV { newG m rows with P := mirM prior m, Q := List.replicate m 0, c := 0, den := den } = GV ⟨m, rows, mirM prior m, List.replicate m 0, 0, den⟩ := by rw [hng]
    rw [hGe] at q3
    have er : ints (List.replicate m 0) = .sl ((List.replicate m 0).map (V.int .i64)) := rfl
    rw [er] at q1 q2
    simp -dsimp -implicitDefEqProofs (disch := try exact zdE) only [go_sem, h1, h2, h3]
    first | refine zaa (mirror19_ret prior m hm12 hpl fun r h => (hp r h).1) (by simp) ?_ | refine zab (mirror19_ret prior m hm12 hpl fun r h => (hp r h).1) (by simp) ?_
    refine sgo ?_
    refine zbf (fz1 38 ((List.replicate m 0).map (V.int .i64))) (zdk (es := 1) (by rfl) zep) (by simp -dsimp -implicitDefEqProofs (disch := try exact zdE) only [go_sem] <;> rfl) q1 (by simp) ?_
    refine sgo ?_
    first | refine zaa (zax den hd) (by simp) ?_ | refine zab (zax den hd) (by simp) ?_
    refine sgo ?_
    first | refine zaa (q3) (by simp) ?_ | refine zab (q3) (by simp) ?_
    refine sgo ?_
    refine zbf (fz1 59 ((List.replicate m 0).map (V.int .i64))) (zdk (es := 1) (by rfl) zep) (by simp -dsimp -implicitDefEqProofs (disch := try exact zdE) only [go_sem] <;> rfl) q2 (by simp) ?_
    refine sgo ?_
    first | refine zaa (r_of den hd) (by simp) ?_ | refine zab (r_of den hd) (by simp) ?_
    refine sgo ?_
    have hd0 : decide (den < 0) = false := decide_eq_false (by omega)
    rw [hng]
    simp only [DGV, hd0]
    rfl
   ·have hb := no h3 fun h => (rd19_ok.1 h).2.2
    rw [nog hb, hb]
    simp -dsimp -implicitDefEqProofs (disch := try exact zdE) only [go_sem, h1, h2]
  ·have hb := no h2 fun h => (rd19_ok.1 h).2.1
   rw [nog hb, hb]
   simp -dsimp -implicitDefEqProofs (disch := try exact zdE) only [go_sem, h1]
 ·have hb := no h1 fun h => (rd19_ok.1 h).1
  rw [nog hb, hb]
  exact sgo trivial
theorem same19_ret (a b : List Int) (ha : a.length ≤ 9223372036854775807) (hb : b.length ≤ 9223372036854775807) : Ret pg zbi [ints a, ints b] (.bool (decide (a = b))) := by
 refine gimballaw19_same.of rfl (W_b ?_)
 unfold gimballaw19_same.k gimballaw19_same.res Ot kp kd Om Ol Oi Oc On ci
 by_cases hl : (a.length : Int) = b.length
 ·simp -dsimp -implicitDefEqProofs (disch := try exact zdE) only [go_sem, hl]
  refine zam (T := Nat × Nat) (fun t => ⟨E [(0, ints a), (1, ints b), (5, .int .i64 t.1)], fun _ => none, t.2, t.2⟩) (fun t => t.1 ≤ a.length ∧ ∀ k, k < t.1 → a.getD k 0 = b.getD k 0) (fun t => a.length - t.1) (0, _) rfl ⟨zdo, fun k h => by dsimp only at h; omega⟩ ?_
  rintro ⟨i, nx⟩ ⟨i1, i2⟩
  dsimp only at i1 i2
  by_cases hi : i < a.length
  ·by_cases he : a.getD i 0 = b.getD i 0
   ·simp -dsimp -implicitDefEqProofs (disch := try exact zdE) only [go_sem, he]
    exact ⟨(i + 1, _), rfl, ⟨zdo, fun k hk => by dsimp only at hk; by_cases hki : k = i; (subst hki; exact he); exact i2 k (by omega)⟩, zdo⟩
   ·have hn : decide (a = b) = false := decide_eq_false fun h => he (by rw [h])
    rw [hn]
    simp -dsimp -implicitDefEqProofs (disch := try exact zdE) only [go_sem, he]
    done
  ·have hie : i = a.length := by omega
   have hy : decide (a = b) = true := decide_eq_true (List.ext_getElem (by omega) fun k h1 h2 => by
    have := i2 k (by omega)
    simpa [List.getD_eq_getElem?_getD, h1, h2] using this)
   rw [hy]
   exact sgo trivial
   done
 ·have hn : decide (a = b) = false := decide_eq_false fun h => hl (by rw [h])
  rw [hn]
  simp -dsimp -implicitDefEqProofs (disch := try exact zdE) only [go_sem, hl]
  done
end Go.Gim

import Derived.Test.YtjkjpjneeioeiaaGreatSM
import Derived.Test.YtjkjpjneeioeiaaGreatSB
import Derived.Test.YtjkjpjneeioeiaaGreatGMR
import Derived.Test.YtjkjpjneeioeiaaGreatLR4
import Derived.Test.YtjkjpjneeioeiaaGreatQA3
import Derived.Test.YtjkjpjneeioeiaaGreatRL0
import Derived.Test.YtjkjpjneeioeiaaGreatSM0
import Derived.Test.YtjkjpjneeioeiaaGreatGN
import Derived.Test.YtjkjpjneeioeiaaGreatMG5
set_option linter.unusedSimpArgs false
set_option linter.unusedVariables false
/- What the laws on what is left out use: mirrored rows. -/
set_option maxRecDepth 100000
set_option maxHeartbeats 4000000
namespace Go.Gim
open Go.Proofs
set_option maxHeartbeats 2000000 in
theorem mirror20_ret (rows : List (List Int)) (n : Nat) (hn : n ≤ 12) (hl : rows.length ≤ 9223372036854775807) (hr : ∀ r ∈ rows, r.length ≤ 9223372036854775807) : Ret pg zen [.sl (rows.map ints), .int .i64 n] (.sl ((mirM rows n).map ints)) := by
 refine gimballaw20_mirror.of rfl (W_b ?_)
 unfold gimballaw20_mirror.k gimballaw20_mirror.res Ot kp kd Oh Oy Om Ol Oi Oc ci
 refine sgo ?_
 refine zap (T := Nat × V × (Nat → Nat) × Hp × Nat) (fun t => ⟨E [(0, .sl (rows.map ints)), (1, .int .i64 n), (5, t.2.1), (6, .int .i64 t.1)], t.2.2.2.1, t.2.2.2.2, t.2.2.2.2⟩)
  (fun t => t.1 ≤ n ∧ Row 0 t.2.2.2.1 t.2.2.2.2 t.2.1 1 ((List.range t.1).map fun k => .own (t.2.2.1 k) n) ∧ ∀ k, k < t.1 → t.2.2.2.1 (t.2.2.1 k) = some ⟨(List.replicate n 0).map (V.int .i64), 1⟩ ∧ t.2.2.1 k < t.2.2.2.2 ∧ (∀ m, t.2.1 ≠ .own (t.2.2.1 k) m) ∧ ∀ m, m < t.1 → m ≠ k → t.2.2.1 m ≠ t.2.2.1 k) (fun t => n - t.1) (0, .nil, fun _ => 0, _, _) rfl ⟨zdo, Row.nil _ _ _ _, fun k h => by dsimp only at h; omega⟩ ?_
 rintro ⟨i, w, ids, H, nx⟩ ⟨i1, i2, i3⟩
 dsimp only at i1 i2 i3
 by_cases hi : i < n
 ·refine sgo ?_
  refine W_gh0 ?_
  refine sgo ?_
  have i2' : Row 0 (H.upd (nx + 5) (some ⟨(List.replicate n 0).map (V.int .i64), 1⟩)) (nx + 6) w 1 ((List.range i).map fun k => .own (ids k) n) := i2.same (fun b hb => Hp.upd_ne _ _ (by omega)) (by omega)
  refine zaq (lo := 0) (nx := nx + 6) (H0 := H.upd (nx + 5) (some ⟨(List.replicate n 0).map (V.int .i64), 1⟩)) (xs := (List.range i).map fun k => .own (ids k) n) i2' (by omega) rfl (by omega) (by omega) (by simp [rowOk, V.cells, V.cellOk, V.isJunk]) (by decide) (by simp; omega) (by simp; omega) fun v2 H2 r1 r2 r3 r4 => ?_
  have hids : (List.range i).map (fun k => V.own (ids k) n) = (List.range i).map (fun k => V.own (if k = i then nx + 5 else ids k) n) := List.map_congr_left fun k hk => by simp at hk; rw [if_neg (by omega)]
  have hlast : V.own (nx + 5) n = (fun k => V.own (if k = i then nx + 5 else ids k) n) i := by simp
  rw [hids, hlast, zat] at r1
  have hw5 : ∀ m, w ≠ .own (nx + 5) m := fun m e => by
   rcases i2 with ⟨h, _⟩ | ⟨b, h, _, hb, _⟩
   ·rw [h] at e; cases e
   ·rw [h] at e; cases e; omega
  refine sgo ?_
  refine ⟨(i + 1, v2, fun k => if k = i then nx + 5 else ids k, H2, _), rfl, ⟨zdo, r1.same (fun _ _ => rfl) zdo, fun k hk => ?_⟩, zdo⟩
  dsimp only at hk ⊢
  by_cases hki : k = i
  ·subst hki
   rw [if_pos rfl]
   refine ⟨?_, by omega, fun m e => ?_, fun m hm hmk => ?_⟩
   ·rw [r3 _ (by omega) hw5, Hp.upd_same]
   ·have := r2 _ _ e; omega
   ·rw [if_neg hmk]
    have := (i3 m (by omega)).2.1; omega
  ·rw [if_neg hki]
   obtain ⟨h1, h2, h3, h4⟩ := i3 k (by omega)
   refine ⟨?_, by omega, fun m e => ?_, fun m hm hmk => ?_⟩
   ·rw [r3 _ (by omega) (fun m => h3 m), Hp.upd_ne _ _ (by omega)]; exact h1
   ·have := r2 _ _ e; omega
   ·by_cases hmi : m = i
    ·rw [if_pos hmi]; omega
    ·rw [if_neg hmi]; exact h4 m (by omega) hmk
 ·have hie : n = i := by omega
  subst hie
  have hd : ∀ k m, k < n → m < n → m ≠ k → ids m ≠ ids k := fun k m hk hm hmk => (i3 k hk).2.2.2 m hm hmk
  have hw : ∀ k m, k < n → w ≠ .own (ids k) m := fun k m hk => (i3 k hk).2.2.1 m
  have hz : ∀ k, (List.replicate n (0 : Int)) = (List.range n).map (mirF rows 0 0 k) := fun k => by
   refine List.ext_getElem (by simp) fun a h1 h2 => ?_
   simp [mirF]
  have hi0 : ∀ k, k < n → H (ids k) = some ⟨((List.range n).map (mirF rows 0 0 k)).map (V.int .i64), 1⟩ ∧ ids k < nx := fun k hk => ⟨by rw [← hz k]; exact (i3 k hk).1, (i3 k hk).2.1⟩
  clear i3
  refine sgo ?_
  refine zap (T := Nat × Hp × Nat) (fun t => ⟨E [(0, .sl (rows.map ints)), (1, .int .i64 n), (5, w), (7, .int .i64 t.1)], t.2.1, t.2.2, t.2.2⟩)
   (fun t => t.1 ≤ n ∧ Row 0 t.2.1 t.2.2 w 1 ((List.range n).map fun k => .own (ids k) n) ∧ ∀ k, k < n → t.2.1 (ids k) = some ⟨((List.range n).map (mirF rows t.1 0 k)).map (V.int .i64), 1⟩ ∧ ids k < t.2.2) (fun t => n - t.1) (0, H, _) rfl ⟨zdo, i2.same (fun _ _ => rfl) zdo, fun k hk => ⟨(hi0 k hk).1, by have := (hi0 k hk).2; dsimp only; omega⟩⟩ ?_
  clear i2 hi0 hz
  rintro ⟨i, H, nx⟩ ⟨i1, i2, i3⟩
  dsimp only at i1 i2 i3
  have hend : (i = n ∨ rows.length ≤ i) → ∀ a c, a < n → c < n → mirF rows i 0 a c = at2 rows (max a c) (min a c) := fun h a c ha hc => by
   unfold mirF
   by_cases hm : max a c < i
   ·rw [if_pos (.inl hm)]
   ·rw [if_neg (by omega)]
    rcases h with h | h
    ·omega
    ·refine (at2_zero fun r hr => ?_).symm
     rw [List.getElem?_eq_none (by omega)] at hr; cases hr
  have fin : (i = n ∨ rows.length ≤ i) → frz H 8 w = some (.sl ((mirM rows n).map ints)) := fun h => by
   have e : (mirM rows n).map ints = (List.range n).map fun k => ints ((List.range n).map fun c => at2 rows (max k c) (min k c)) := by simp only [mirM, mat, List.map_map]; rfl
   rw [e]
   refine i2.frz (allOf_map fun k hk => ?_)
   have hk := List.mem_range.1 hk
   have e2 : (List.range n).map (mirF rows i 0 k) = (List.range n).map fun c => at2 rows (max k c) (min k c) := List.map_congr_left fun c hc => hend h k c hk (List.mem_range.1 hc)
   have h1 := (i3 k hk).1
   rw [e2] at h1
   rw [frz_own, h1, frzO_some (by simp), zdb fun x => rfl]
   rfl
  by_cases hi : i < n
  ·by_cases hir : i < rows.length
   ·have hrm := zau [] hir
    have hrl := hr _ hrm
    obtain ⟨b, rfl, b1, b2, b3⟩ := i2.own_of (by simp; omega)
    rw [List.length_map, List.length_range] at hw ⊢
    have hbn : ∀ k, k < n → b ≠ ids k := fun k hk e => hw k n hk (by rw [e])
    refine sgo ?_
    refine zap (T := Nat × Hp × Nat) (fun t => ⟨E [(0, .sl (rows.map ints)), (1, .int .i64 n), (5, .own b n), (7, .int .i64 i), (8, .int .i64 t.1)], t.2.1, t.2.2, t.2.2⟩)
     (fun t => t.1 ≤ i + 1 ∧ t.1 ≤ (rows.getD i []).length ∧ b < t.2.2 ∧ t.2.1 b = some ⟨(List.range n).map fun k => .own (ids k) n, 1⟩ ∧ ∀ k, k < n → t.2.1 (ids k) = some ⟨((List.range n).map (mirF rows i t.1 k)).map (V.int .i64), 1⟩ ∧ ids k < t.2.2) (fun t => i + 1 - t.1) (0, H, _) rfl ⟨zdo, zdo, zdo, b3, fun k hk => ⟨(i3 k hk).1, by have := (i3 k hk).2; dsimp only; omega⟩⟩ ?_
    clear i2 i3 fin
    rintro ⟨k, H, nx⟩ ⟨k1, k2, k3, k4, k5⟩
    dsimp only at k1 k2 k3 k4 k5
    have hload : ∀ (m nx : Nat), m < n → b < nx → loadO true nx b (some ⟨(List.range n).map fun k => .own (ids k) n, 1⟩) n m 0 1 false = some (.own (ids m) n) := fun m nx hm hb => zhx (fun _ => hb) (by simp) (by simp [hm]) rfl rfl
    by_cases hki : k ≤ i
    ·by_cases hkr : k < (rows.getD i []).length
     ·obtain ⟨q1, q2⟩ := k5 i hi
      have hv : (rows.getD i []).getD k 0 = at2 rows i k := rfl
      have e1 : ((List.range n).map (mirF rows i k i)).set k (at2 rows i k) = (List.range n).map (mirF rows i (k + 1) i) := by
       rw [zht]
       refine List.map_congr_left fun c hc => ?_
       by_cases hck : c = k
       ·subst hck; rw [if_pos rfl, mirF_at (by omega)]
       ·rw [if_neg hck, mirF_step (by omega)]
      have hbi : (b = ids i) = False := by simpa using hbn i hi
      by_cases hik : k = i
      ·subst hik
       have e2 : ((List.range n).map (mirF rows k (k + 1) k)).set k (at2 rows k k) = (List.range n).map (mirF rows k (k + 1) k) := by
        rw [zht]
        refine List.map_congr_left fun c hc => ?_
        by_cases hck : c = k
        ·subst hck; rw [if_pos rfl, mirF_at (by omega)]
        ·rw [if_neg hck]
       simp -dsimp -implicitDefEqProofs (disch := try exact zdE) only [go_sem, k4, hload, q1, hv, hbi, e1, e2]
       generalize hH2 : Hp.upd H (ids k) _ = H2
       have s1 := za4 hH2
       have s2 := zaf hH2 k4 (hbn k hi)
       refine ⟨(k + 1, H2, _), rfl, ⟨zdo, zdo, zdo, s2, fun a ha => ?_⟩, zdo⟩
       dsimp only
       obtain ⟨y1, y2⟩ := k5 a ha
       refine ⟨?_, by omega⟩
       by_cases hak : a = k
       ·subst hak; exact s1
       ·have z1 := zaf hH2 y1 (hd k a hi ha hak)
        rw [z1, List.map_congr_left (g := mirF rows k (k + 1) a) fun c hc => mirF_step (by omega)]
      ·obtain ⟨t1, t2⟩ := k5 k (by omega)
       have hki' : (ids k = ids i) = False := by simpa using hd i k hi (by omega) hik
       have e2 : ((List.range n).map (mirF rows i k k)).set i (at2 rows i k) = (List.range n).map (mirF rows i (k + 1) k) := by
        rw [zht]
        refine List.map_congr_left fun c hc => ?_
        by_cases hci : c = i
        ·subst hci; rw [if_pos rfl, mirF_at (by omega)]
        ·rw [if_neg hci, mirF_step (by omega)]
       simp -dsimp -implicitDefEqProofs (disch := try exact zdE) only [go_sem, k4, hload, q1, hv, hbi, e1, hki', t1, e2]
       generalize hH1 : Hp.upd H (ids i) _ = H1
       generalize hH2 : Hp.upd H1 (ids k) _ = H2
       have p1 := za4 hH1
       have p2 := zaf hH1 k4 (hbn i hi)
       have s1 := za4 hH2
       have s2 := zaf hH2 p2 (hbn k (by omega))
       have s3 := zaf hH2 p1 (hd k i (by omega) hi (Ne.symm hik))
       refine ⟨(k + 1, H2, _), rfl, ⟨zdo, zdo, zdo, s2, fun a ha => ?_⟩, zdo⟩
       dsimp only
       obtain ⟨y1, y2⟩ := k5 a ha
       refine ⟨?_, by omega⟩
       by_cases hak : a = k
       ·subst hak; exact s1
       ·by_cases hai : a = i
        ·subst hai; exact s3
        ·have z1 := zaf hH1 y1 (hd i a hi ha hai)
         have z2 := zaf hH2 z1 (hd k a (by omega) ha hak)
         rw [z2, List.map_congr_left (g := mirF rows i (k + 1) a) fun c hc => mirF_step (by omega)]
     ·refine sgo ?_
      have hzr : ∀ m, k ≤ m → m ≤ i → at2 rows i m = 0 := fun m h1 h2 => at2_zero fun r h => by
       have : rows.getD i [] = r := by simp [List.getD_eq_getElem?_getD, h]
       rw [← this]; omega
      refine ⟨(i + 1, H, _), rfl, ⟨zdo, .inr ⟨b, by simp, by omega, zdo, k4⟩, fun a ha => ?_⟩, zdo⟩
      dsimp only
      obtain ⟨y1, y2⟩ := k5 a ha
      exact ⟨by rw [y1, List.map_congr_left (g := mirF rows (i + 1) 0 a) fun c hc => mirF_row hzr], by omega⟩
    ·refine sgo ?_
     refine ⟨(i + 1, H, _), rfl, ⟨zdo, .inr ⟨b, by simp, by omega, zdo, k4⟩, fun a ha => ?_⟩, zdo⟩
     dsimp only
     obtain ⟨y1, y2⟩ := k5 a ha
     exact ⟨by rw [y1, List.map_congr_left (g := mirF rows (i + 1) 0 a) fun c hc => mirF_row fun m h1 h2 => by omega], by omega⟩
   ·have hf := fin (.inr (by omega))
    refine sgo ?_
    rw [hf]
    rfl
  ·have hie : i = n := by omega
   have hf := fin (.inl hie)
   refine sgo ?_
   rw [hf]
   rfl
end Go.Gim
/- What the laws on what is left out use: a graph that is read, numbers, rows held against rows, a function as a text. -/
set_option maxRecDepth 100000
set_option maxHeartbeats 4000000
namespace Go.Gim
open Go.Proofs
def rd20B (n most : Int) (rows : List Row4) (den : Int) : Bool := decide (gnewE n rows = 0) && decide (n ≤ most) && decide (0 < den)
def rd20G (n most : Int) (rows : List Row4) (prior : List (List Int)) (den : Int) : Gr := if rd20B n most rows den = true then ⟨n.toNat, rows, mirM prior n.toNat, List.replicate n.toNat 0, 0, den⟩ else newG n rows
theorem rd20_ok {n most : Int} {rows : List Row4} {den : Int} : rd20B n most rows den = true ↔ gnewE n rows = 0 ∧ n ≤ most ∧ 0 < den := by
 unfold rd20B; simp only [Bool.and_eq_true, decide_eq_true_eq]; exact ⟨fun ⟨⟨a, b⟩, c⟩ => ⟨a, b, c⟩, fun ⟨a, b, c⟩ => ⟨⟨a, b⟩, c⟩⟩
theorem read20_ret (n most den : Int) (rows : List Row4) (prior : List (List Int)) (hl : rows.length ≤ 9223372036854775807) (hr : ∀ r ∈ rows, r.co.length ≤ 9223372036854775807) (hpl : prior.length ≤ 9223372036854775807) (hp : ∀ r ∈ prior, r.length ≤ 9223372036854775807 ∧ ∀ v ∈ r, In64 v) (hd : In64 den) :
  Ret pg zfl [.int .i64 n, .int .i64 most, .sl (rows.map RV), .sl (prior.map ints), .int .i64 den] (.tup [GV (rd20G n most rows prior den), DGV (rd20G n most rows prior den), .bool (rd20B n most rows den)]) := by
 have g1 := gnew_ret n rows hl hr
 have g2 := rnew_ret n rows hl hr
 refine gimballaw20_read.of rfl (W_b ?_)
 unfold gimballaw20_read.k gimballaw20_read.res Ot kp kd Og Oh Oy Om OL ci
 refine sgo ?_
 refine zaa (r := .tup [GV (newG n rows), .int .i64 (gnewE n rows)]) g1 (by simp) ?_
 refine sgo ?_
 refine zaa (r := .tup [DGV (newG n rows), .int .i64 (gnewE n rows)]) g2 (by simp) ?_
 have no : ∀ {p : Prop}, ¬ p → (rd20B n most rows den = true → p) → rd20B n most rows den = false := fun h1 h2 => by
  cases h : rd20B n most rows den
  ·rfl
  ·exact absurd (h2 h) h1
 have nog : rd20B n most rows den = false → rd20G n most rows prior den = newG n rows := fun h => by unfold rd20G; rw [h]; rfl
 by_cases h1 : gnewE n rows = 0
 ·by_cases h2 : n ≤ most
  ·by_cases h3 : 0 < den
   ·have hb := rd20_ok.2 ⟨h1, h2, h3⟩
    obtain ⟨hn, _, _⟩ := gnewE_ok h1
    obtain ⟨m, rfl⟩ : ∃ m : Nat, n = m := ⟨n.toNat, by omega⟩
    have hG : rd20G m most rows prior den = ⟨m, rows, mirM prior m, List.replicate m 0, 0, den⟩ := by unfold rd20G; rw [if_pos hb]; rfl
    rw [hb, hG]
    have hm12 : m ≤ 12 := by omega
    have q0 := qofE_mir prior hm12 (q := List.replicate m 0) (by simp)
    have hpi : ∀ v ∈ List.replicate m (0 : Int), In64 v := fun v hv => by rw [(List.mem_replicate.1 hv).2]; omega
    have hsq := mirM_sq prior m
    have hin := mirM_in (rows := prior) (fun r h => (hp r h).2) m
    have hlen : ∀ r ∈ mirM prior m, r.length = m := hsq.2
    have q1 := qof_ret (mirM prior m) (List.replicate m 0) 0 (by rw [hsq.1]; omega) (fun r h => ⟨by rw [hlen r h]; omega, hin r h⟩) hpi (by simp; omega) (by omega)
    rw [q0, if_pos rfl] at q1
    have q2 := r8of_ret (mirM prior m) (List.replicate m 0) 0 (by rw [hsq.1]; omega) (fun r h => ⟨by rw [hlen r h]; omega, hin r h⟩) hpi (by simp; omega) (by omega)
    have hng : newG m rows = ⟨m, rows, mat m (fun _ _ => 0), List.replicate m 0, 0, 1⟩ := by unfold newG; rw [if_pos h1]; rfl
    have q3 := with_ret (newG m rows) (mirM prior m) (List.replicate m 0) 0 den (by rw [hng]; dsimp only; omega) (by rw [hsq.1]; omega) (by simp; omega) (by have := zbp hd; omega)
    rw [if_pos (by rw [hng]; exact ⟨hsq.1, by simp, h3⟩), if_pos (by rw [hng]; exact ⟨hsq.1, by simp, h3⟩)] at q3
    have hGe : GV { newG m rows with P := mirM prior m, Q := List.replicate m 0, c := 0, den := den } = GV ⟨m, rows, mirM prior m, List.replicate m 0, 0, den⟩ := by rw [hng]
    rw [hGe] at q3
    have er : ints (List.replicate m 0) = .sl ((List.replicate m 0).map (V.int .i64)) := rfl
    rw [er] at q1 q2
    simp -dsimp -implicitDefEqProofs (disch := try exact zdE) only [go_sem, h1, h2, h3]
    first | refine zaa (mirror20_ret prior m hm12 hpl fun r h => (hp r h).1) (by simp) ?_ | refine zab (mirror20_ret prior m hm12 hpl fun r h => (hp r h).1) (by simp) ?_
    refine sgo ?_
    refine zfq (fz1 38 ((List.replicate m 0).map (V.int .i64))) (fz1_ok (es := 1) (by rfl) pure_ints) (by simp -dsimp -implicitDefEqProofs (disch := try exact zdE) only [go_sem] <;> rfl) q1 (by simp) ?_
    refine sgo ?_
    first | refine zaa (zcm den hd) (by simp) ?_ | refine zab (zcm den hd) (by simp) ?_
    refine sgo ?_
    first | refine zaa (q3) (by simp) ?_ | refine zab (q3) (by simp) ?_
    refine sgo ?_
    refine zfq (fz1 59 ((List.replicate m 0).map (V.int .i64))) (fz1_ok (es := 1) (by rfl) pure_ints) (by simp -dsimp -implicitDefEqProofs (disch := try exact zdE) only [go_sem] <;> rfl) q2 (by simp) ?_
    refine sgo ?_
    first | refine zaa (r_of den hd) (by simp) ?_ | refine zab (r_of den hd) (by simp) ?_
    refine sgo ?_
    have hd0 : decide (den < 0) = false := decide_eq_false (by omega)
    rw [hng]
    simp only [DGV, hd0]
    rfl
   ·have hb := no h3 fun h => (rd20_ok.1 h).2.2
    rw [nog hb, hb]
    simp -dsimp -implicitDefEqProofs (disch := try exact zdE) only [go_sem, h1, h2]
  ·have hb := no h2 fun h => (rd20_ok.1 h).2.1
   rw [nog hb, hb]
   simp -dsimp -implicitDefEqProofs (disch := try exact zdE) only [go_sem, h1]
 ·have hb := no h1 fun h => (rd20_ok.1 h).1
  rw [nog hb, hb]
  exact sgo trivial
theorem same20_ret (a b : List Row4) (ha : a.length ≤ 9223372036854775807) (hb : b.length ≤ 9223372036854775807) (hca : ∀ r ∈ a, r.co.length ≤ 9223372036854775807) (hcb : ∀ r ∈ b, r.co.length ≤ 9223372036854775807) : Ret pg zd8 [.sl (a.map RV), .sl (b.map RV)] (.bool (decide (a = b))) := by
 refine gimballaw20_same.of rfl (W_b ?_)
 unfold gimballaw20_same.k gimballaw20_same.res Ot kp kd Om OL Oi Oc On ci
 by_cases hl : a.length = b.length
 ·simp -dsimp -implicitDefEqProofs (disch := try exact zdE) only [go_sem, hl]
  refine zap (T := Nat × Nat) (fun t => ⟨E [(0, .sl (a.map RV)), (1, .sl (b.map RV)), (5, .int .i64 t.1)], fun _ => none, t.2, t.2⟩) (fun t => t.1 ≤ a.length ∧ a.take t.1 = b.take t.1) (fun t => a.length - t.1) (0, _) rfl ⟨zdo, by simp⟩ ?_
  rintro ⟨i, nx⟩ ⟨i1, i2⟩
  dsimp only at i1 i2
  by_cases hi : i < a.length
  ·have hib : i < b.length := by omega
   have ma := zau default hi
   have mb := zau default hib
   have ta := zci default hi
   have tb := zci default hib
   have hs := rsame_ret _ _ (hca _ ma) (hcb _ mb)
   by_cases he : a.getD i default = b.getD i default
   ·rw [decide_eq_true he] at hs
    simp -dsimp -implicitDefEqProofs (disch := try exact zdE) only [go_sem, hl]
    first | refine zaa (hs) (by simp) ?_ | refine zab (hs) (by simp) ?_
    simp -dsimp -implicitDefEqProofs (disch := try exact zdE) only [go_sem, hl]
    exact ⟨(i + 1, _), rfl, ⟨zdo, by dsimp only; rw [ta, tb, i2, he]⟩, zdo⟩
   ·have hne : decide (a = b) = false := decide_eq_false fun h => he (by rw [h])
    rw [decide_eq_false he] at hs
    rw [hne]
    simp -dsimp -implicitDefEqProofs (disch := try exact zdE) only [go_sem, hl]
    first | refine zaa (hs) (by simp) ?_ | refine zab (hs) (by simp) ?_
    simp -dsimp -implicitDefEqProofs (disch := try exact zdE) only [go_sem, hl]
  ·have hie : i = a.length := by omega
   subst hie
   rw [List.take_length, hl, List.take_length] at i2
   rw [decide_eq_true i2]
   simp -dsimp -implicitDefEqProofs (disch := try exact zdE) only [go_sem, hl]
 ·have hne : decide (a = b) = false := decide_eq_false fun h => hl (by rw [h])
  rw [hne]
  exact sgo trivial
def lineT (r : List Int) (x : Int) : List Nat := numsL r ++ (59 :: (decL x ++ [59]))
def zhl (m : List (List Int)) (q : List Int) (c : Int) : List Nat := ((List.range m.length).flatMap fun i => lineT (m.getD i []) (q.getD i 0)) ++ decL c
def linesT (m : List (List Int)) (q : List Int) (t : Nat) : List Nat := (List.range t).flatMap fun i => lineT (m.getD i []) (q.getD i 0)
theorem linesT_succ (m q t) : linesT m q (t + 1) = linesT m q t ++ lineT (m.getD t []) (q.getD t 0) := by simp [linesT, List.range_succ]
theorem lineT_len {r : List Int} {x : Int} (hr : r.length ≤ 12) (h : ∀ y ∈ r, dlim y ≤ 10000000) (hx : dlim x ≤ 10000000) : (lineT r x).length ≤ 200000000 := by
 have h1 := numsL_len h
 have h2 : r.length * (10000000 + 2) ≤ 12 * 10000002 := Nat.mul_le_mul_right _ hr
 have h3 := zhg x
 unfold lineT
 simp only [List.length_append, List.length_cons, List.length_nil]
 omega
theorem linesT_len {m : List (List Int)} {q : List Int} (hm : ∀ r ∈ m, r.length ≤ 12) (sm : ∀ r ∈ m, ∀ x ∈ r, dlim x ≤ 10000000) (sq : ∀ i, dlim (q.getD i 0) ≤ 10000000) : ∀ t, t ≤ m.length → (linesT m q t).length ≤ t * 200000000
 | 0, _ => by simp [linesT]
 | t + 1, h => by
  rw [linesT_succ, List.length_append]
  have := linesT_len hm sm sq t (by omega)
  have hr := zau (l := m) (i := t) [] (by omega)
  have := lineT_len (hm _ hr) (sm _ hr) (sq t)
  omega
theorem whole20_ret (m : List (List Int)) (q : List Int) (c : Int) (hn : m.length ≤ 12) (hq : q.length = m.length) (hm : ∀ r ∈ m, r.length ≤ 12) (sm : ∀ r ∈ m, ∀ x ∈ r, lim x ≤ 1000000) (sq : ∀ i, lim (q.getD i 0) ≤ 1000000) (sc : lim c ≤ 1000000) : Ret pg zbv [QV m q c] (.str (bst (zhl m q c))) := by
 have hd : ∀ r ∈ m, ∀ x ∈ r, dlim x ≤ 10000000 := fun r hr x hx => by have := sm r hr x hx; have := dlim_lim x; omega
 have hdq : ∀ i, dlim (q.getD i 0) ≤ 10000000 := fun i => by have := sq i; have := dlim_lim (q.getD i 0); omega
 have hll := linesT_len hm hd hdq
 have e59 : (⟨#[59]⟩ : ByteArray) = bst [59] := rfl
 have e32 : (⟨#[32]⟩ : ByteArray) = bst [32] := rfl
 refine gimballaw20_whole.of rfl (W_b ?_)
 unfold gimballaw20_whole.k gimballaw20_whole.res Ot kp Om Ol OL Oq Oi Oc On ci
 simp -dsimp -implicitDefEqProofs (disch := try exact zdE) only [go_sem, bst_nil]
 refine zap (T := Nat × List Nat × Nat) (fun t => ⟨E [(1, .pp (QV m q c)), (3, .str (bst t.2.1)), (4, .int .i64 t.1)], fun _ => none, t.2.2, t.2.2⟩) (fun t => t.1 ≤ m.length ∧ t.2.1 = linesT m q t.1) (fun t => m.length - t.1) (0, [], _) rfl ⟨zdo, by simp [linesT]⟩ ?_
 rintro ⟨i, z, nx⟩ ⟨i1, i2⟩
 dsimp only at i1 i2
 have hz := hll i i1
 rw [← i2] at hz
 by_cases hi : i < m.length
 ·have hr := zau [] hi
  have hrl := hm _ hr
  have hdr := hd _ hr
  have hsr := sm _ hr
  have hnl := numsL_len hdr
  have hnl2 : (m.getD i []).length * (10000000 + 2) ≤ 12 * 10000002 := Nat.mul_le_mul_right _ hrl
  have sqi := sq i
  have hdqi := hdq i
  have hsu := linesT_succ m q i
  rw [← i2] at hsu
  generalize hX : m.getD i [] = r at *
  generalize hY : q.getD i 0 = y at *
  simp -dsimp -implicitDefEqProofs (disch := try exact zdE) only [go_sem, hX, bst_nil]
  refine zap (T := Nat × List Nat × Nat) (fun t => ⟨E [(1, .pp (QV m q c)), (3, .str (bst t.2.1)), (4, .int .i64 i), (5, .int .i64 t.1)], fun _ => none, t.2.2, t.2.2⟩) (fun t => t.1 ≤ r.length ∧ t.2.1 = z ++ numsL (r.take t.1)) (fun t => r.length - t.1) (0, z, _) rfl ⟨zdo, by simp [numsL]⟩ ?_
  rintro ⟨j, z1, nx'⟩ ⟨j1, j2⟩
  dsimp only at j1 j2
  have hnj := numsL_len (r := r.take j) (fun x h => hdr x (List.mem_of_mem_take h))
  have hnj2 : (r.take j).length * (10000000 + 2) ≤ 12 * 10000002 := Nat.mul_le_mul_right _ (by rw [List.length_take]; omega)
  have hz1 : z1.length = z.length + (numsL (r.take j)).length := by rw [j2, List.length_append]
  by_cases hj : j < r.length
  ·have hv := zau 0 hj
   have htj := zci 0 hj
   have s1 := hsr _ hv
   have s2 := hdr _ hv
   have s3 := zhg (r.getD j 0)
   generalize hU : r.getD j 0 = u at *
   have a1 : strV .add (bst z1) (bst (decL u)) = some (.str (bst (z1 ++ decL u))) := zer (by omega)
   have a2 : strV .add (bst (z1 ++ decL u)) (bst [32]) = some (.str (bst ((z1 ++ decL u) ++ [32]))) := zer (by rw [List.length_append, List.length_singleton]; omega)
   have a3 : (z1 ++ decL u) ++ [32] = z ++ numsL (r.take (j + 1)) := by rw [htj, numsL_snoc, j2]; simp
   simp -dsimp -implicitDefEqProofs (disch := try exact zdE) only [go_sem, hX, hU]
   refine zaa (zfw u (by omega)) (by simp) ?_
   simp -dsimp -implicitDefEqProofs (disch := try exact zdE) only [go_sem, zhf, a1, e32, a2]
   exact ⟨(j + 1, z1 ++ (decL u ++ [32]), _), rfl, ⟨zdo, by dsimp only; rw [← a3]; simp⟩, zdo⟩
  ·have hje : j = r.length := by omega
   subst hje
   rw [List.take_length] at j2 hz1
   have s3 := zhg y
   have a1 : strV .add (bst z1) (bst [59]) = some (.str (bst (z1 ++ [59]))) := zer (by rw [List.length_singleton]; omega)
   have a2 : strV .add (bst (z1 ++ [59])) (bst (decL y)) = some (.str (bst ((z1 ++ [59]) ++ decL y))) := zer (by rw [List.length_append, List.length_singleton]; omega)
   have a4 : strV .add (bst (z1 ++ 59 :: decL y)) (bst [59]) = some (.str (bst (z1 ++ (59 :: (decL y ++ [59]))))) := by
    rw [zer (by simp only [List.length_append, List.length_cons, List.length_nil]; omega)]; simp
   have a3 : z1 ++ (59 :: (decL y ++ [59])) = linesT m q (i + 1) := by rw [hsu, j2]; unfold lineT; simp
   simp -dsimp -implicitDefEqProofs (disch := try exact zdE) only [go_sem, hX, hY, e59, a1]
   refine zaa (zfw y (by omega)) (by simp) ?_
   simp -dsimp -implicitDefEqProofs (disch := try exact zdE) only [go_sem, zhf, a2, e59, a4]
   exact ⟨(i + 1, _, _), rfl, ⟨zdo, by dsimp only; rw [← a3]⟩, zdo⟩
 ·have hie : i = m.length := by omega
  subst hie
  have s3 := zhg c
  have hdc : dlim c ≤ 10000000 := by have := dlim_lim c; omega
  have a1 : strV .add (bst z) (bst (decL c)) = some (.str (bst (z ++ decL c))) := zer (by omega)
  have eT : zhl m q c = z ++ decL c := by rw [i2]; rfl
  rw [eT]
  refine sgo ?_
  first | refine zaa (zfw c (by omega)) (by simp) ?_ | refine zab (zfw c (by omega)) (by simp) ?_
  simp -dsimp -implicitDefEqProofs (disch := try exact zdE) only [go_sem, zhf, a1]
end Go.Gim
/- The examples of the laws on what is left out. -/
set_option maxRecDepth 100000
set_option maxHeartbeats 4000000
namespace Go.Gim
open Go.Proofs
def wr1 : Row4 := ⟨[1, 0], 10, 32768, 100⟩
def wr2 : Row4 := ⟨[-1, 1], 5, 32768, 100⟩
def wr3 : Row4 := ⟨[0, 1], 15, 32768, 100⟩
def wr4 : Row4 := ⟨[1], 15, 32768, 100⟩
def wG : Gr := ⟨2, [wr1, wr2, wr3], [[0, 0], [0, 0]], [0, 0], 0, 1⟩
def wN : Gr := ⟨2, [], [[0, 0], [0, 0]], [0, 0], 0, 1⟩
theorem w_st : State [10, 15] := fun v hv => by simp at hv; omega
theorem w_at (i j : Nat) : at2 [[0, 0], [0, 0]] i j = 0 := by
 rcases i with _ | _ | i <;> rcases j with _ | _ | j <;> rfl
theorem w_get (i : Nat) : [(0 : Int), 0].getD i 0 = 0 := by rcases i with _ | _ | i <;> rfl
theorem wG_ok : MOk wG [10, 15] 2 where
 n := rfl
 n11 := by decide
 rows := by decide
 r := fun r hr => by
  simp only [wG, List.mem_cons, List.not_mem_nil, or_false] at hr
  rcases hr with rfl | rfl | rfl <;> exact rightB_iff.1 (by decide)
 x := w_st
 P := ⟨rfl, fun r hr => by simp [wG] at hr; rw [hr]; rfl⟩
 Q := rfl
 sP := fun i j => by show lim (at2 [[0, 0], [0, 0]] i j) ≤ 2; rw [w_at, za6]; omega
 sQ := fun i => by show lim ([(0 : Int), 0].getD i 0) ≤ 2; rw [w_get, za6]; omega
 sc := by show lim 0 ≤ 2; rw [za6]; omega
 sd := zbp (by decide)
theorem wN_ok : MOk wN [10, 15] 2 where
 n := rfl
 n11 := by decide
 rows := by decide
 r := fun r hr => by simp [wN] at hr
 x := w_st
 P := ⟨rfl, fun r hr => by simp [wN] at hr; rw [hr]; rfl⟩
 Q := rfl
 sP := fun i j => by show lim (at2 [[0, 0], [0, 0]] i j) ≤ 2; rw [w_at, za6]; omega
 sQ := fun i => by show lim ([(0 : Int), 0].getD i 0) ≤ 2; rw [w_get, za6]; omega
 sc := by show lim 0 ≤ 2; rw [za6]; omega
 sd := zbp (by decide)
theorem w_P : mat 2 (gwP wG [10, 15] 1 3) = [[204800, -102400], [-102400, 102400]] := by decide +kernel
theorem w_Q : rowF 2 (gwQ wG [10, 15] 1 3) = [512000, 512000] := by decide +kernel
theorem w_C : gwC wG [10, 15] 1 3 = 12800000 := by decide +kernel
theorem w_def : defS 1 (gW wG [10, 15] 1) = true := by decide +kernel
theorem w_defN : defS 1 (gW wN [10, 15] 1) = false := by decide +kernel
theorem w_oP : mat 1 (kpP wG [10, 15] 1) = [[51199]] := by decide +kernel
theorem w_oQ : rowF 1 (kpQ wG [10, 15] 1) = [768000] := by decide +kernel
theorem w_oC : kpC wG [10, 15] 1 = 11520000 := by decide +kernel
theorem w_oR : zc0 [wr1, wr2, wr3] 1 = [wr4] := by decide +kernel
def lineF (r : List Int) (x : Int) : List Nat := (r.flatMap fun x => decF x ++ [32]) ++ (59 :: (decF x ++ [59]))
def quadF20 (m : List (List Int)) (q : List Int) (c : Int) : List Nat := ((List.range m.length).flatMap fun i => lineF (m.getD i []) (q.getD i 0)) ++ decF c
theorem quadT20_F {m : List (List Int)} {q : List Int} {c : Int} (h : (m.all (fun r => r.all fun x => decide (x.natAbs < 100000000000000000000)) && (List.range m.length).all (fun i => decide ((q.getD i 0).natAbs < 100000000000000000000)) && decide (c.natAbs < 100000000000000000000)) = true) : zhl m q c = quadF20 m q c := by
 rw [Bool.and_eq_true, Bool.and_eq_true, decide_eq_true_eq] at h
 unfold zhl quadF20
 rw [decL_decF h.2]
 congr 1
 refine flat_congr fun i hi => ?_
 unfold lineT lineF
 rw [decL_decF (of_decide_eq_true (List.all_eq_true.1 h.1.2 i hi))]
 congr 1
 exact flat_congr fun x hx => by rw [decL_decF (of_decide_eq_true (List.all_eq_true.1 (List.all_eq_true.1 h.1.1 _ (zau [] (List.mem_range.1 hi))) x hx))]
theorem awake20_ret : Ret pg ze0 [] (.bool true) := by
 have g1 := gnew_ret 2 [wr1, wr2, wr3] (by decide) (by decide)
 rw [show gnewE 2 [wr1, wr2, wr3] = 0 by decide, if_pos rfl] at g1
 have g2 := gnew_ret 2 [] (by decide) (by decide)
 rw [show gnewE 2 [] = 0 by decide, if_pos rfl] at g2
 have cw := mwhole_ret wG [10, 15] 1 2 (by decide) wG_ok (by decide)
 have ew : Ret pg ze3 [GV wG, ints [10, 15], .int .i64 1] (.tup [QV [[204800, -102400], [-102400, 102400]] [512000, 512000] 12800000, IV 1024]) := by
  have e1 : mat wG.n (gwP wG [10, 15] 1 wG.rows.length) = [[204800, -102400], [-102400, 102400]] := w_P
  have e2 : rowF wG.n (gwQ wG [10, 15] 1 wG.rows.length) = [512000, 512000] := w_Q
  have e3 : gwC wG [10, 15] 1 wG.rows.length = 12800000 := w_C
  rw [e1, e2, e3] at cw
  exact cw
 have co := mout_ret wG [10, 15] 1 2 136 wG_ok (by decide) (by decide) (by decide) (by decide)
 have eo : Ret pg zeh [GV wG, ints [10, 15], .int .i64 1] (.tup [GV ⟨1, [wr4], [[51199]], [768000], 11520000, 1024⟩, .int .i64 0]) := by
  rw [if_pos w_def] at co
  have e : outG wG [10, 15] 1 = ⟨1, [wr4], [[51199]], [768000], 11520000, 1024⟩ := by
   have e1 : mat (wG.n - 1) (kpP wG [10, 15] 1) = [[51199]] := w_oP
   have e2 : rowF (wG.n - 1) (kpQ wG [10, 15] 1) = [768000] := w_oQ
   have e3 : zc0 wG.rows 1 = [wr4] := w_oR
   unfold outG
   rw [e1, e2, e3, w_oC]; rfl
  rw [e] at co
  exact co
 have eb := mout_bad2 wG [10, 15] 2 (by decide) rfl (by decide) (.inr (by decide))
 have cn := mout_ret wN [10, 15] 1 2 136 wN_ok (by decide) (by decide) (by decide) (by decide)
 rw [if_neg (by rw [w_defN]; simp)] at cn
 have st : ∀ v : Int, In64 v → Ret pg zbb [IV v] (.str (bst (decL v))) := fun v hv => zfw v (by have := zbp hv; omega)
 have cs := same20_ret [wr4] [wr4] (by decide) (by decide) (by decide) (by decide)
 rw [decide_eq_true rfl] at cs
 have wh1 := whole20_ret [[204800, -102400], [-102400, 102400]] [512000, 512000] 12800000 (by decide) rfl (by decide) (by decide +kernel) (fun i => by rcases i with _ | _ | i <;> first | exact Nat.le_trans (zbp (by decide)) (by decide) | (show lim 0 ≤ _; rw [za6]; omega)) (Nat.le_trans (zbp (by decide)) (by decide))
 have wh2 := whole20_ret [[51199]] [768000] 11520000 (by decide) rfl (by decide) (by decide +kernel) (fun i => by rcases i with _ | i <;> first | exact Nat.le_trans (zbp (by decide)) (by decide) | (show lim 0 ≤ _; rw [za6]; omega)) (Nat.le_trans (zbp (by decide)) (by decide))
 rw [quadT20_F (by decide)] at wh1 wh2
 have q1 : strV .eql (bst (quadF20 [[204800, -102400], [-102400, 102400]] [512000, 512000] 12800000)) ⟨#[50, 48, 52, 56, 48, 48, 32, 45, 49, 48, 50, 52, 48, 48, 32, 59, 53, 49, 50, 48, 48, 48, 59, 45, 49, 48, 50, 52, 48, 48, 32, 49, 48, 50, 52, 48, 48, 32, 59, 53, 49, 50, 48, 48, 48, 59, 49, 50, 56, 48, 48, 48, 48, 48]⟩ = some (.bool true) := bst_eq (b := [50, 48, 52, 56, 48, 48, 32, 45, 49, 48, 50, 52, 48, 48, 32, 59, 53, 49, 50, 48, 48, 48, 59, 45, 49, 48, 50, 52, 48, 48, 32, 49, 48, 50, 52, 48, 48, 32, 59, 53, 49, 50, 48, 48, 48, 59, 49, 50, 56, 48, 48, 48, 48, 48]) (by decide)
 have q3 : strV .eql (bst (quadF20 [[51199]] [768000] 11520000)) ⟨#[53, 49, 49, 57, 57, 32, 59, 55, 54, 56, 48, 48, 48, 59, 49, 49, 53, 50, 48, 48, 48, 48]⟩ = some (.bool true) := bst_eq (b := [53, 49, 49, 57, 57, 32, 59, 55, 54, 56, 48, 48, 48, 59, 49, 49, 53, 50, 48, 48, 48, 48]) (by decide)
 have q2 : strV .eql (bst (decL 1024)) ⟨#[49, 48, 50, 52]⟩ = some (.bool true) := bst_eq (b := [49, 48, 50, 52]) (by rw [decL_decF (by decide)]; decide)
 refine gimballaw20_awake.of rfl (W_b ?_)
 unfold gimballaw20_awake.k gimballaw20_awake.res Ot kp Og Oh Oy Om OL ci
 refine sgo ?_
 refine zfq (fzl [(1, [.int .i64 1, .int .i64 0]), (3, [.int .i64 (-1), .int .i64 1]), (5, [.int .i64 0, .int .i64 1]), (7, [RV wr1, RV wr2, RV wr3])]) (fzl_ok fun p hp => by
  simp only [List.mem_cons, List.not_mem_nil, or_false] at hp
  rcases hp with rfl | rfl | rfl | rfl <;> exact ⟨⟨_, _, rfl, by simp -dsimp -implicitDefEqProofs (disch := try exact zdE) only [go_sem] <;> rfl⟩, by simp⟩) (by simp -dsimp -implicitDefEqProofs (disch := try exact zdE) only [go_sem] <;> rfl) g1 (by simp) ?_
 refine sgo ?_
 refine zaa (g2.nn (args := [.int .i64 2, .nil]) rfl) (by simp) ?_
 refine sgo ?_
 refine zfq (fz1 30 [.int .i64 10, .int .i64 15]) (fz1_ok (es := 1) (by rfl) (by simp)) (by simp -dsimp -implicitDefEqProofs (disch := try exact zdE) only [go_sem] <;> rfl) ew (by simp) ?_
 refine sgo ?_
 refine zaa eo (by simp) ?_
 refine sgo ?_
 refine zaa eb (by simp) ?_
 refine sgo ?_
 refine zaa cn (by simp) ?_
 refine sgo ?_
 first | refine zaa (st 1024 (by decide)) (by simp) ?_ | refine zab (st 1024 (by decide)) (by simp) ?_
 refine sgo ?_
 refine zaa (st 1024 (by decide)) (by simp) ?_
 refine sgo ?_
 refine zaa wh1 (by simp) ?_
 simp -dsimp -implicitDefEqProofs (disch := try exact zdE) only [go_sem, q1, q2]
 refine zaa wh2 (by simp) ?_
 simp -dsimp -implicitDefEqProofs (disch := try exact zdE) only [go_sem, q2, q3]
 refine zfq (fzl [(103, [.int .i64 1]), (105, [RV wr4])]) (fzl_ok fun p hp => by
  simp only [List.mem_cons, List.not_mem_nil, or_false] at hp
  rcases hp with rfl | rfl <;> exact ⟨⟨_, _, rfl, by simp -dsimp -implicitDefEqProofs (disch := try exact zdE) only [go_sem] <;> rfl⟩, by simp⟩) (by simp -dsimp -implicitDefEqProofs (disch := try exact zdE) only [go_sem] <;> rfl) cs (by simp) ?_
 exact sgo trivial
end Go.Gim

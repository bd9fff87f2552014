import Derived.Test.YtjkjpjneeioeiaaGreatMW
import Derived.Test.YtjkjpjneeioeiaaGreatGMR
import Derived.Test.YtjkjpjneeioeiaaGreatMG5
import Derived.Test.YtjkjpjneeioeiaaGreatLB4
import Derived.Test.YtjkjpjneeioeiaaGreatSM
import Derived.Test.YtjkjpjneeioeiaaGreatQW2
import Derived.Test.YtjkjpjneeioeiaaGreatLR4
import Derived.Test.YtjkjpjneeioeiaaGreatDV7
import Derived.Test.YtjkjpjneeioeiaaGreatQT2
set_option linter.unusedSimpArgs false
set_option linter.unusedVariables false
/- What the laws on what is left out share; the rows that stay. -/
set_option maxRecDepth 100000
set_option maxHeartbeats 4000000
namespace Go.Gim
open Go.Proofs
theorem touchB_succ {r : Row4} {i : Nat} (h : i < r.co.length) : zdg r (i + 1) = (zdg r i || decide (r.co.getD i 0 ≠ 0)) := by
 unfold zdg; rw [zci 0 h, List.any_append]; simp
theorem touchB_mono {r : Row4} {i k : Nat} (h : zdg r i = true) (hk : i ≤ k) : zdg r k = true := by
 unfold zdg at *
 rw [List.any_eq_true] at *
 obtain ⟨x, hx, h2⟩ := h
 refine ⟨x, ?_, h2⟩
 rw [show r.co.take i = (r.co.take k).take i by rw [List.take_take, Nat.min_eq_left hk]] at hx
 exact List.mem_of_mem_take hx
theorem rtouches_ret (r : Row4) (k : Nat) (hk : k ≤ r.co.length) (hl : r.co.length ≤ 1000000) : Ret pg zc7 [RV r, .int .i64 k] (.bool (zdg r k)) := by
 refine gimbalref20_Touches.of rfl (W_b ?_)
 unfold gimbalref20_Touches.k gimbalref20_Touches.res Ot kp Om Ol Oq Oi Oc ci
 refine sgo ?_
 refine zap (T := Nat × Nat) (fun t => ⟨E [(1, .int .i64 k), (2, .pp (RV r)), (5, .int .i64 t.1)], fun _ => none, t.2, t.2⟩) (fun t => t.1 ≤ k ∧ zdg r t.1 = false) (fun t => k - t.1) (0, _) rfl ⟨zdo, by simp [zdg]⟩ ?_
 rintro ⟨i, nx⟩ ⟨i1, i2⟩
 dsimp only at i1 i2
 by_cases hi : i < k
 ·have hs := touchB_succ (r := r) (i := i) (by omega)
  rw [i2, Bool.false_or] at hs
  by_cases h0 : r.co.getD i 0 = 0
  ·rw [h0] at hs
   simp -dsimp -implicitDefEqProofs (disch := try exact zdE) only [go_sem, h0]
   exact ⟨(i + 1, _), rfl, ⟨zdo, by dsimp only; rw [hs]; simp⟩, zdo⟩
  ·have ht : zdg r k = true := touchB_mono (i := i + 1) (by rw [hs]; exact decide_eq_true h0) (by omega)
   rw [ht]
   simp -dsimp -implicitDefEqProofs (disch := try exact zdE) only [go_sem, h0]
 ·have hik : i = k := by omega
  subst hik
  rw [i2]
  exact sgo trivial
theorem rep_get (n i : Nat) : (List.replicate n (0 : Int)).getD i 0 = 0 := by
 simp only [List.getD_eq_getElem?_getD, List.getElem?_replicate]
 split <;> rfl
theorem staysL_step {rows : List Row4} {i k : Nat} (hi : i < rows.length) : zc0 (rows.take (i + 1)) k = zc0 (rows.take i) k ++ if zdg (rows.getD i default) k = true then [] else [cutR k (rows.getD i default)] := by
 rw [zci default hi]; unfold zc0
 rw [List.filter_append, List.map_append]
 generalize rows.getD i default = r
 cases hb : zdg r k <;> simp [hb]
theorem staysL_len {rows : List Row4} {i k : Nat} : (zc0 (rows.take i) k).length ≤ rows.length := by
 unfold zc0
 rw [List.length_map]
 exact Nat.le_trans (List.length_filter_le _ _) (by rw [List.length_take]; omega)
theorem stays_co {rows : List Row4} {k B : Nat} (h : ∀ r ∈ rows, r.co.length ≤ B) : ∀ r ∈ zc0 rows k, r.co.length ≤ B := fun r hr => by
 unfold zc0 at hr
 obtain ⟨s, hs, rfl⟩ := List.mem_map.1 hr
 have := h s ((List.mem_filter.1 hs).1)
 show (s.co.drop k).length ≤ B
 rw [List.length_drop]; omega
end Go.Gim
/- What is left tells no more than was known, and nearly all: in plain Lean. -/
set_option maxRecDepth 100000
set_option maxHeartbeats 4000000
namespace Go.Gim
open Go.Proofs
structure MPos (g : Gr) : Prop where
 s : SymM g.n (at2 g.P)
 p : PSD g.n (at2 g.P)
 d : 0 < g.den
theorem MPos.whole_sym {g : Gr} (h : MPos g) (x : List Int) (k t : Nat) : SymM g.n (gwP g x k t) := Gim.whole_sym h.s _ _ _ _
theorem MPos.whole {g : Gr} {x : List Int} {L : Nat} (h : MPos g) (ok : MOk g x L) (k : Nat) : PSD g.n (gW g x k) := PSD.whole h.p (Nat.le_refl _) fun r hr => by
 have h1 := share_bd (ok.r r hr)
 exact Int.mul_nonneg (by have := h.d; omega) (by omega)
theorem out_lim {g : Gr} {x : List Int} {k L D : Nat} (ok : MOk g x L) (hk : k < g.n) (hD : 2 ^ k * (L + 66) ≤ D) : (∀ i j, lim (gP k (gW g x k) i j) ≤ L + 65 + D + k + 1) ∧ (∀ i j, lim (kpP g x k i j) ≤ L + 65 + D + k + 5) ∧ (∀ i, lim (kpQ g x k i) ≤ L + 65 + D + k + 5) ∧ lim (kpC g x k) ≤ L + 65 + D + k + 5 ∧ lim (det k (gW g x k)) ≤ D := by
 obtain ⟨m1, m2, m3⟩ := ok.lims k (t := g.rows.length) (Nat.le_refl _)
 have h11 := ok.n11
 obtain ⟨s1, s2, s3⟩ := g_lim (k := k) (D := D) hD m1 m2 m3
 refine ⟨s1, fun i j => ?_, fun i => ?_, ?_, Nat.le_trans (det_pw (n := k) m1) hD⟩
 ·unfold kpP
  split
  ·exact Nat.le_trans (rndP_lim (by omega) (s1 i j)) (by omega)
  ·rw [za6]; omega
 ·unfold kpQ
  split
  ·exact Nat.le_trans (zhz (s2 i)) (by omega)
  ·rw [za6]; omega
 ·unfold kpC
  split
  ·exact Nat.le_trans (zhz s3) (by omega)
  ·rw [za6]; omega
end Go.Gim
/- A function made of rows of one's own, place by place. -/
set_option maxRecDepth 100000
set_option maxHeartbeats 4000000
namespace Go.Gim
open Go.Proofs
structure LayF (G : Hp) (lo nx n bx bm bq : Nat) (r : Nat → Nat) (M : Mx) (q : Nat → Int) (c : Int) : Prop where
 hb : G bx = some ⟨[.agg [.own bm n, .own bq n, .bool (decide (c < 0)), .sl (nats .i64 (digs 10 c.natAbs))]], 4⟩
 hm : G bm = some ⟨(List.range n).map fun i => .own (r i) n, 1⟩
 hq : G bq = some ⟨(rowF n q).map DV, 2⟩
 hr : ∀ i, i < n → G (r i) = some ⟨(rowF n (M i)).map DV, 2⟩
 inj : ∀ i j, i < n → j < n → r i = r j → i = j
 nq : ∀ i, i < n → r i ≠ bq
 lt : ∀ i, i < n → lo ≤ r i ∧ r i < nx
 lm : lo ≤ bm ∧ bm < nx
 lq : lo ≤ bq ∧ bq < nx
 lb : bx < lo
theorem LayF.nm {G : Hp} {lo nx n bx bm bq : Nat} {r : Nat → Nat} {M : Mx} {q : Nat → Int} {c : Int} (h : LayF G lo nx n bx bm bq r M q c) {i : Nat} (hi : i < n) : r i ≠ bm := fun e => by
 have h1 := h.hr i hi
 rw [e, h.hm] at h1
 have := congrArg Blk.size (Option.some.inj h1)
 cases this
theorem LayF.qm {G : Hp} {lo nx n bx bm bq : Nat} {r : Nat → Nat} {M : Mx} {q : Nat → Int} {c : Int} (h : LayF G lo nx n bx bm bq r M q c) : bq ≠ bm := fun e => by
 have h1 := h.hq
 rw [e, h.hm] at h1
 have := congrArg Blk.size (Option.some.inj h1)
 cases this
theorem LayF.mono {G G' : Hp} {lo nx nx' n bx bm bq : Nat} {r : Nat → Nat} {M : Mx} {q : Nat → Int} {c : Int} (h : LayF G lo nx n bx bm bq r M q c) (hx : G' bx = G bx) (hG : ∀ b, lo ≤ b → b < nx → G' b = G b) (hn : nx ≤ nx') : LayF G' lo nx' n bx bm bq r M q c where
 hb := hx.trans h.hb
 hm := (hG bm h.lm.1 h.lm.2).trans h.hm
 hq := (hG bq h.lq.1 h.lq.2).trans h.hq
 hr := fun i hi => (hG _ (h.lt i hi).1 (h.lt i hi).2).trans (h.hr i hi)
 inj := h.inj
 nq := h.nq
 lt := fun i hi => ⟨(h.lt i hi).1, by have := (h.lt i hi).2; omega⟩
 lm := ⟨h.lm.1, by have := h.lm.2; omega⟩
 lq := ⟨h.lq.1, by have := h.lq.2; omega⟩
 lb := h.lb
theorem LayF.congr {G : Hp} {lo nx n bx bm bq : Nat} {r : Nat → Nat} {M M' : Mx} {q q' : Nat → Int} {c c' : Int} (h : LayF G lo nx n bx bm bq r M q c) (hM : ∀ i j, i < n → j < n → M i j = M' i j) (hq : ∀ i, i < n → q i = q' i) (hc : c = c') : LayF G lo nx n bx bm bq r M' q' c' where
 hb := by rw [← hc]; exact h.hb
 hm := h.hm
 hq := by rw [← zbm hq]; exact h.hq
 hr := fun i hi => by rw [← zbm fun j hj => hM i j hi hj]; exact h.hr i hi
 inj := h.inj
 nq := h.nq
 lt := h.lt
 lm := h.lm
 lq := h.lq
 lb := h.lb
theorem LayF.setC {G G' : Hp} {lo nx n bx bm bq : Nat} {r : Nat → Nat} {M : Mx} {q : Nat → Int} {c c' : Int} (h : LayF G lo nx n bx bm bq r M q c) (hG : G.upd bx (some ⟨[.agg [.own bm n, .own bq n, .bool (decide (c' < 0)), .sl (nats .i64 (digs 10 c'.natAbs))]], 4⟩) = G') : LayF G' lo nx n bx bm bq r M q c' := by
 have k : ∀ b, lo ≤ b → G' b = G b := fun b hb => by rw [← hG]; exact Hp.upd_ne _ _ (by have := h.lb; omega)
 exact { hb := by rw [← hG]; exact Hp.upd_same _ _ _, hm := (k bm h.lm.1).trans h.hm, hq := (k bq h.lq.1).trans h.hq, hr := fun i hi => (k _ (h.lt i hi).1).trans (h.hr i hi), inj := h.inj, nq := h.nq, lt := h.lt, lm := h.lm, lq := h.lq, lb := h.lb }
theorem LayF.setQ {G G' : Hp} {lo nx n bx bm bq i : Nat} {r : Nat → Nat} {M : Mx} {q : Nat → Int} {c v : Int} (h : LayF G lo nx n bx bm bq r M q c) (hG : G.upd bq (some ⟨((rowF n q).set i v).map DV, 2⟩) = G') : LayF G' lo nx n bx bm bq r M (fun k => if k = i then v else q k) c := by
 have k : ∀ b, b ≠ bq → G' b = G b := fun b hb => by rw [← hG]; exact Hp.upd_ne _ _ hb
 exact { hb := (k bx (by have := h.lb; have := h.lq; omega)).trans h.hb, hm := (k bm h.qm.symm).trans h.hm, hq := by rw [← hG, ← rowF_set]; exact Hp.upd_same _ _ _, hr := fun i hi => (k _ (h.nq i hi)).trans (h.hr i hi), inj := h.inj, nq := h.nq, lt := h.lt, lm := h.lm, lq := h.lq, lb := h.lb }
theorem LayF.setP {G G' : Hp} {lo nx n bx bm bq i j : Nat} {r : Nat → Nat} {M : Mx} {q : Nat → Int} {c v : Int} (h : LayF G lo nx n bx bm bq r M q c) (hi : i < n) (hG : G.upd (r i) (some ⟨((rowF n (M i)).set j v).map DV, 2⟩) = G') : LayF G' lo nx n bx bm bq r (fun a b => if a = i ∧ b = j then v else M a b) q c := by
 have k : ∀ b, b ≠ r i → G' b = G b := fun b hb => by rw [← hG]; exact Hp.upd_ne _ _ hb
 refine { hb := (k bx (by have := h.lb; have := (h.lt i hi).1; omega)).trans h.hb, hm := (k bm (Ne.symm (h.nm hi))).trans h.hm, hq := (k bq (Ne.symm (h.nq i hi))).trans h.hq, hr := fun a ha => ?_, inj := h.inj, nq := h.nq, lt := h.lt, lm := h.lm, lq := h.lq, lb := h.lb }
 by_cases e : a = i
 ·subst e
  rw [← hG, Hp.upd_same, rowF_set]
  have : (rowF n fun k => if k = j then v else M a k) = rowF n fun b => if a = a ∧ b = j then v else M a b := zbm fun b _ => by simp
  rw [this]
 ·rw [k _ fun h2 => e (h.inj a i ha hi h2), h.hr a ha]
  have : rowF n (M a) = rowF n fun b => if a = i ∧ b = j then v else M a b := zbm fun b _ => by rw [if_neg fun h => e h.1]
  rw [this]
theorem LayF.frz {G : Hp} {lo nx n bx bm bq : Nat} {r : Nat → Nat} {M : Mx} {q : Nat → Int} {c : Int} (h : LayF G lo nx n bx bm bq r M q c) (k : Nat) : Gim.frz G (k + 4) (.own bm n) = some (.sl ((mat n M).map dvl)) ∧ Gim.frz G (k + 4) (.own bq n) = some (dvl (rowF n q)) := by
 constructor
 ·refine zgu h.hm (by simp) ?_
  rw [show (mat n M).map dvl = (List.range n).map fun i => dvl (rowF n (M i)) by unfold mat; rw [List.map_map]; rfl]
  refine allOf_map fun i hi => ?_
  exact zgu (h.hr i (List.mem_range.1 hi)) (by rw [List.length_map, zal]) (zdb fun x => zaz _ _ _)
 ·exact zgu h.hq (by rw [List.length_map, zal]) (zdb fun x => zaz _ _ _)
theorem loadO_dt {nx b i w : Nat} {f : Nat → Int} (hi : i < w) (hd : b < nx) : loadO true nx b (some ⟨(rowF w f).map DV, 2⟩) w i 0 2 true = some (DV (f i)) := by rw [loadO_dvt (zal _ _) hi hd, zbh hi]
theorem storeO_d {b i w : Nat} {f : Nat → Int} {y : Int} (hi : i < w) : zfs b (some ⟨(rowF w f).map DV, 2⟩) w i 0 2 (DV y) = some (b, ⟨((rowF w f).set i y).map DV, 2⟩) := storeO_dv (zal _ _) hi
theorem idxO_dt {nx b w : Nat} {f : Nat → Int} {j : Int} {Kn : V → Prop} {u : Dep Kn} (h0 : 0 ≤ j) (h1 : j < w) (hb : b < nx) : idxO true nx (some ⟨(rowF w f).map DV, 2⟩) 2 b w j Kn u = Kn (.ptr b w j.toNat 0) := zel (by simp [zal]) h0 h1 hb
theorem idxO_rt {nx b n w : Nat} {r : Nat → Nat} {j : Int} {Kn : V → Prop} {u : Dep Kn} (h0 : 0 ≤ j) (h1 : j < n) (hb : b < nx) : idxO true nx (some ⟨(List.range n).map fun i => V.own (r i) w, 1⟩) 1 b n j Kn u = Kn (.ptr b n j.toNat 0) := zel (by simp) h0 h1 hb
structure LayS (G : Hp) (lo nx n i : Nat) (w : V) (r : Nat → Nat) (M : Mx) : Prop where
 hr : ∀ a, a < i → G (r a) = some ⟨(rowF n (M a)).map DV, 2⟩
 inj : ∀ a b, a < i → b < i → r a = r b → a = b
 lt : ∀ a, a < i → lo ≤ r a ∧ r a < nx
 nw : ∀ a m, a < i → w ≠ .own (r a) m
theorem LayS.mono {G G' : Hp} {lo nx nx' n i : Nat} {w w' : V} {r : Nat → Nat} {M : Mx} (h : LayS G lo nx n i w r M) (hG : ∀ a, a < i → G' (r a) = G (r a)) (hn : nx ≤ nx') (hw : ∀ a m, a < i → w' ≠ .own (r a) m) : LayS G' lo nx' n i w' r M :=
 ⟨fun a ha => (hG a ha).trans (h.hr a ha), h.inj, fun a ha => ⟨(h.lt a ha).1, by have := (h.lt a ha).2; omega⟩, hw⟩
theorem LayS.snoc {G : Hp} {lo nx n i id : Nat} {w : V} {r : Nat → Nat} {M : Mx} (h : LayS G lo nx n i w r M) (hid : ∀ a, a < i → r a ≠ id) (hlo : lo ≤ id) (hlt : id < nx) (hG : G id = some ⟨(rowF n (M i)).map DV, 2⟩) (hw : ∀ m, w ≠ .own id m) : LayS G lo nx n (i + 1) w (fun a => if a = i then id else r a) M where
 hr := fun a ha => by
  by_cases e : a = i
  ·subst e; simpa using hG
  ·simpa [e] using h.hr a (by omega)
 inj := fun a b ha hb he => by
  by_cases e : a = i <;> by_cases e2 : b = i
  ·omega
  ·simp only [e, e2, if_true, if_false] at he; exact absurd he.symm (hid b (by omega))
  ·simp only [e, e2, if_true, if_false] at he; exact absurd he (hid a (by omega))
  ·simp only [e, e2, if_false] at he; exact h.inj a b (by omega) (by omega) he
 lt := fun a ha => by
  by_cases e : a = i
  ·simp only [e, if_true]; exact ⟨hlo, hlt⟩
  ·simp only [e, if_false]; exact h.lt a (by omega)
 nw := fun a m ha => by
  by_cases e : a = i
  ·simp only [e, if_true]; exact hw m
  ·simp only [e, if_false]; exact h.nw a m (by omega)
end Go.Gim
/- The document's answer: what the rows that go, and the prior, tell. -/
set_option maxRecDepth 100000
set_option maxHeartbeats 4000000
namespace Go.Gim
open Go.Proofs
structure DOk (g : Gr) (L : Nat) : Prop where
 sP : ∀ i j, dlim (at2 g.P i j) ≤ L
 sQ : ∀ i, dlim (g.Q.getD i 0) ≤ L
 sc : dlim g.c ≤ L
 sd : dlim g.den ≤ L
theorem goes_dlim {rows : List Row4} {k : Nat} {s f : Row4 → Int} {t B : Nat} (ht : t ≤ rows.length) (h : ∀ r ∈ rows, dlim (f r * s r) ≤ B) : dlim (goes rows k s f t) ≤ B + t := zhr fun i hi => by
 split
 ·exact h _ (zau default (by omega))
 ·rw [zfp]; omega
theorem dlims {g : Gr} {x : List Int} {L M : Nat} (h : MOk g x M) (hd : DOk g L) (k : Nat) {t : Nat} (ht : t ≤ g.rows.length) : (∀ i j, dlim (gwP g x k t i j) ≤ L + 110) ∧ (∀ i, dlim (gwQ g x k t i) ≤ L + 110) ∧ dlim (gwC g x k t) ≤ L + 110 := by
 have h1024 := zbe (x := 1024) (by decide)
 have h60 := h.rows
 have hsd := hd.sd
 have key : ∀ (a : Int) (f : Row4 → Int), dlim a ≤ L → (∀ r ∈ g.rows, In64 (f r)) → dlim (a * 1024 + goes g.rows k (scR g.den x) f t) ≤ L + 110 := fun a f ha hf => by
  have h1 := goes_dlim (k := k) (s := scR g.den x) (f := f) (B := L + 40) ht fun r hr => by
   have a1 := zba (f r) (scR g.den x r)
   have a2 := zbe (hf r hr)
   have a3 := share_bd (h.r r hr)
   have a4 := zbe (x := r.w * zd3 r x) (by omega)
   have a5 := zba g.den (r.w * zd3 r x)
   have a6 : scR g.den x r = g.den * (r.w * zd3 r x) := rfl
   rw [← a6] at a5
   omega
  have h2 := zba a 1024
  have h3 := dlim_add (a * 1024) (goes g.rows k (scR g.den x) f t)
  omega
 have b1 : ∀ r ∈ g.rows, ∀ i, -1000 ≤ r.co.getD i 0 ∧ r.co.getD i 0 ≤ 1000 := fun r hr i => (h.r r hr).get i
 refine ⟨fun i j => key _ _ (hd.sP i j) fun r hr => ?_, fun i => key _ _ (hd.sQ i) fun r hr => ?_, key _ _ hd.sc fun r hr => ?_⟩
 ·have := zg4 (A := 1000) (B := 1000) (b1 r hr i) (b1 r hr j); omega
 ·have := zg4 (A := 1000) (B := 1000000000) (b1 r hr i) (h.r r hr).z; omega
 ·have := zg4 (A := 1000000000) (B := 1000000000) (h.r r hr).z (h.r r hr).z; omega
theorem DQV_fold (P Q c) : V.agg [.sl (P.map dvl), dvl Q, .bool (decide (c < 0)), .sl (nats .i64 (digs 10 c.natAbs))] = DQV P Q c := rfl
theorem rwhole_ret (g : Gr) (x : List Int) (k L M : Nat) (hL : L ≤ 100000) (h : MOk g x M) (hd : DOk g L) (hn0 : 0 < g.n) (hk : k ≤ g.n) :
  Ret pg zdm [DGV g, ints x, .int .i64 k] (.tup [DQV (mat g.n (gwP g x k g.rows.length)) (rowF g.n (gwQ g x k g.rows.length)) (gwC g x k g.rows.length), DV (g.den * 1024)]) := by
 obtain ⟨n, en⟩ : ∃ n, n = g.n := ⟨_, rfl⟩
 have hP := h.P
 have hQ := h.Q
 have h11 := h.n11
 have hPl := hP.1
 rw [← en] at hP hQ h11 hn0 hk hPl ⊢
 have h60 := h.rows
 have l1024 := zbe (x := 1024) (by decide)
 have hsc := hd.sc
 have hsd := hd.sd
 refine gimbalref20_Whole.of rfl (W_b ?_)
 unfold gimbalref20_Whole.k gimbalref20_Whole.res Ot kp kd Oy Om Ol OL Oq Oi Oc On ci
 simp -dsimp -implicitDefEqProofs (disch := try exact zdE) only [go_sem, DQV_fold, zgn]
 first | refine zaa (r_of 1024 (by decide)) (by simp) ?_ | refine zab (r_of 1024 (by decide)) (by simp) ?_
 simp -dsimp -implicitDefEqProofs (disch := try exact zdE) only [go_sem, DQV_fold, zgn]
 first | refine zaa (r_mul g.c 1024 (by omega) (by omega)) (by simp) ?_ | refine zab (r_mul g.c 1024 (by omega) (by omega)) (by simp) ?_
 simp -dsimp -implicitDefEqProofs (disch := try exact zdE) only [go_sem, DQV_fold, zgn]
 have lP := hd.sP
 have lQ := hd.sQ
 obtain ⟨cc, ecc⟩ : ∃ cc, cc = g.c * 1024 := ⟨_, rfl⟩
 rw [← ecc]
 refine zap (T := Nat × V × V × (Nat → Nat) × Hp × Nat) (fun t => ⟨E [(1, ints x), (2, .int .i64 k), (3, .pp (DGV g)), (6, .ptr 1 1 0 0), (7, .ptr 2 1 0 0), (8, .ptr 4 1 0 0), (9, .ptr 12 1 0 0), (10, .int .i64 t.1)], t.2.2.2.2.1, t.2.2.2.2.2, t.2.2.2.2.2⟩)
  (fun t => t.1 ≤ n ∧ 15 ≤ t.2.2.2.2.2 ∧ t.2.2.2.2.1 1 = some ⟨[.agg [.nil, .nil, .bool false, .sl []]], 4⟩ ∧ t.2.2.2.2.1 2 = some ⟨[.agg [.bool false, .sl []]], 2⟩ ∧ t.2.2.2.2.1 4 = some ⟨[DV 1024], 2⟩ ∧ t.2.2.2.2.1 12 = some ⟨[.agg [t.2.1, t.2.2.1, .bool (decide (cc < 0)), .sl (nats .i64 (digs 10 cc.natAbs))]], 4⟩ ∧ Row 15 t.2.2.2.2.1 t.2.2.2.2.2 t.2.1 1 ((List.range t.1).map fun a => .own (t.2.2.2.1 a) n) ∧ Row 15 t.2.2.2.2.1 t.2.2.2.2.2 t.2.2.1 2 ((rowF t.1 fun a => g.Q.getD a 0 * 1024).map DV) ∧ LayS t.2.2.2.2.1 15 t.2.2.2.2.2 n t.1 t.2.2.1 t.2.2.2.1 (fun a b => at2 g.P a b * 1024)) (fun t => n - t.1)
  (0, .nil, .nil, fun _ => 0, _, _) rfl ⟨zdo, zdo, rfl, rfl, rfl, rfl, Row.nil _ _ _ _, Row.nil _ _ _ _, ⟨fun a h => by dsimp only at h; omega, fun a b h => by dsimp only at h; omega, fun a h => by dsimp only at h; omega, fun a m h => by dsimp only at h; omega⟩⟩ ?_
 rintro ⟨i, w1, w2, r, H, nx⟩ ⟨i1, i2, i3, i4, i5, i6, i7, i8, i9⟩
 dsimp only at i1 i2 i3 i4 i5 i6 i7 i8 i9
 obtain ⟨hwa1, hwc1, _, _⟩ := i7.flat
 obtain ⟨hwa2, hwc2, _, _⟩ := i8.flat
 have hsep : Sep w1 w2 := i7.not_row2 i8 (by decide)
 have hw1r : ∀ a m, a < i → w1 ≠ .own (r a) m := fun a m ha => i7.ne_size (i9.hr a ha) (by decide) m
 by_cases hi : i < n
 ·have hPi := hP.row hi
  have s1 := lQ i
  have s2 := zba (g.Q.getD i 0) 1024
  simp -dsimp -implicitDefEqProofs (disch := try exact zdE) only [go_sem, i5, i6, hwa1, hwa2, hQ, ← en]
  first | refine zaa (r_mul (g.Q.getD i 0) 1024 (by omega) (by omega)) (by simp) ?_ | refine zab (r_mul (g.Q.getD i 0) 1024 (by omega) (by omega)) (by simp) ?_
  simp -dsimp -implicitDefEqProofs (disch := try exact zdE) only [go_sem, i5, i6, hwa1, hwa2]
  refine zaq (lo := 15) (nx := nx) (H0 := H) (xs := (rowF i fun a => g.Q.getD a 0 * 1024).map DV) i8 (by omega) rfl (by omega) (by omega) (by simp [rowOk, V.cells, V.cellOk, DV, V.isJunk]) (by decide) (by simp [rowF]; omega) (by simp [rowF]; omega) fun v2 H2 r1 r2 r3 r4 => ?_
  rw [zc3, show rowF i (fun a => g.Q.getD a 0 * 1024) ++ [g.Q.getD i 0 * 1024] = rowF (i + 1) (fun a => g.Q.getD a 0 * 1024) from zat _ _] at r1
  have p1 := (r4 1 (by omega)).trans i3
  have p2 := (r4 2 (by omega)).trans i4
  have p4 := (r4 4 (by omega)).trans i5
  have p12 := (r4 12 (by omega)).trans i6
  have p7 := (i7.same (H' := H) (nx' := nx) (fun _ _ => rfl) (by omega)).keep r3 hsep.symm (Nat.le_refl _)
  obtain ⟨b', hv2, c1, c3, c4⟩ := r1.own_of (by simp [rowF])
  have hv2' : v2 = .own b' (i + 1) := by rw [hv2, List.length_map, zal]
  subst hv2'
  have hb' := r2 b' _ rfl
  have p9 : LayS H2 15 nx n i (.own b' (i + 1)) r (fun a b => at2 g.P a b * 1024) := i9.mono (fun a ha => r3 _ (i9.lt a ha).2 fun m => i9.nw a m ha) (Nat.le_refl _) fun a m ha e => by cases e; have := (i9.lt a ha).2; omega
  simp -dsimp -implicitDefEqProofs (disch := try exact zdE) only [go_sem, p12, hwa1, hwa2]
  generalize hH3 : Hp.upd H2 12 _ = H3
  have k1 := zaf hH3 p1 (by omega)
  have k2 := zaf hH3 p2 (by omega)
  have k4 := zaf hH3 p4 (by omega)
  have k12 := za4 hH3
  have kb := zaf hH3 c4 (by omega)
  have g7 : Row 15 H3 nx w1 1 ((List.range i).map fun a => .own (r a) n) := by rw [← hH3]; exact p7.upd (by omega)
  have g9 : LayS H3 15 nx n i (.own b' (i + 1)) r (fun a b => at2 g.P a b * 1024) := p9.mono (fun a ha => by rw [← hH3]; exact Hp.upd_ne _ _ (by have := (i9.lt a ha).1; omega)) (Nat.le_refl _) p9.nw
  clear r1 r2 r3 r4 p1 p2 p4 p12 p7 p9 c4 i3 i4 i5 i6 i7 i8 i9 hH3 hv2 hsep hwa2 hwc2
  have hN : 35 ≤ nx + 20 := by omega
  have hbN : b' < nx + 20 := by omega
  have g7' : Row 15 H3 (nx + 20) w1 1 ((List.range i).map fun a => .own (r a) n) := g7.same (fun _ _ => rfl) (by omega)
  have g9' : LayS H3 15 (nx + 20) n i (.own b' (i + 1)) r (fun a b => at2 g.P a b * 1024) := g9.mono (fun _ _ => rfl) (by omega) g9.nw
  clear g7 g9
  generalize nx + 20 = N at hN hbN g7' g9' ⊢
  refine zap (T := Nat × V × Hp × Nat) (fun t => ⟨E [(1, ints x), (2, .int .i64 k), (3, .pp (DGV g)), (6, .ptr 1 1 0 0), (7, .ptr 2 1 0 0), (8, .ptr 4 1 0 0), (9, .ptr 12 1 0 0), (10, .int .i64 i), (11, t.2.1), (12, .int .i64 t.1)], t.2.2.1, t.2.2.2, t.2.2.2⟩)
   (fun t => t.1 ≤ n ∧ N ≤ t.2.2.2 ∧ (∀ b, b < N → t.2.2.1 b = H3 b) ∧ Row N t.2.2.1 t.2.2.2 t.2.1 2 ((rowF t.1 fun j => at2 g.P i j * 1024).map DV)) (fun t => n - t.1)
   (0, .nil, H3, _) rfl ⟨zdo, zdo, fun _ _ => rfl, Row.nil _ _ _ _⟩ ?_
  rintro ⟨j, u, H4, nx2⟩ ⟨j1, j2, j3, j4⟩
  dsimp only at j1 j2 j3 j4
  have e4 := (j3 4 (by omega)).trans k4
  by_cases hj : j < n
  ·have hg : (g.P.getD i []).getD j 0 = at2 g.P i j := rfl
   have s3 := lP i j
   have s4 := zba (at2 g.P i j) 1024
   simp -dsimp -implicitDefEqProofs (disch := try exact zdE) only [go_sem, hPi, hg, e4, hPl, ← en]
   first | refine zaa (r_mul (at2 g.P i j) 1024 (by omega) (by omega)) (by simp) ?_ | refine zab (r_mul (at2 g.P i j) 1024 (by omega) (by omega)) (by simp) ?_
   simp -dsimp -implicitDefEqProofs (disch := try exact zdE) only [go_sem, e4]
   refine zaq (lo := N) (nx := nx2) (H0 := H4) (xs := (rowF j fun j => at2 g.P i j * 1024).map DV) j4 (by omega) rfl (by omega) (by omega) (by simp [rowOk, V.cells, V.cellOk, DV, V.isJunk]) (by decide) (by simp [rowF]; omega) (by simp [rowF]; omega) fun v2 H6 r1 _ _ r4 => ?_
   rw [zc3, show rowF j (fun j => at2 g.P i j * 1024) ++ [at2 g.P i j * 1024] = rowF (j + 1) (fun j => at2 g.P i j * 1024) from zat _ _] at r1
   refine sgo ?_
   exact ⟨(j + 1, v2, H6, _), rfl, ⟨zdo, zdo, fun b hb => (r4 b hb).trans (j3 b hb), r1.same (fun _ _ => rfl) zdo⟩, zdo⟩
  ·have hjn : j = n := by omega
   rw [hjn] at j4
   obtain ⟨bu, hu, z1, z2, z3⟩ := j4.own_of (by simp [rowF]; omega)
   rw [List.length_map, zal] at hu
   subst hu
   have q12 := (j3 12 (by omega)).trans k12
   have q7 : Row 15 H4 N w1 1 ((List.range i).map fun a => .own (r a) n) := g7'.same j3 (Nat.le_refl _)
   have hw1u : ∀ m, w1 ≠ .own bu m := fun m e => by have := Row.lt q7 e; omega
   have hrr : (List.range i).map (fun a => V.own (r a) n) = (List.range i).map (fun a => V.own (if a = i then bu else r a) n) := List.map_congr_left fun a ha => by simp at ha; rw [if_neg (by omega)]
   have hlast : V.own bu n = (fun a => V.own (if a = i then bu else r a) n) i := by simp
   simp -dsimp -implicitDefEqProofs (disch := try exact zdE) only [go_sem, ← en]
   refine W_gh0 ?_
   simp -dsimp -implicitDefEqProofs (disch := try exact zdE) only [go_sem, q12, hwa1]
   refine zaq (lo := 15) (nx := nx2) (H0 := H4) (xs := (List.range i).map fun a => .own (r a) n) (q7.same (fun _ _ => rfl) (by omega)) (by omega) rfl (by omega) (by omega) (by simp [rowOk, V.cells, V.cellOk, V.isJunk]) (by decide) (by simp; omega) (by simp; omega) fun v3 H7 t1 t2 t3 t4 => ?_
   rw [hrr, hlast, zat] at t1
   have u1 := (t4 1 (by omega)).trans ((j3 1 (by omega)).trans k1)
   have u2 := (t4 2 (by omega)).trans ((j3 2 (by omega)).trans k2)
   have u4 := (t4 4 (by omega)).trans e4
   have u12 := (t4 12 (by omega)).trans q12
   have eb' := (j3 b' hbN).trans kb
   have ub' := (t3 b' (by omega) fun m => q7.ne_size eb' (by decide) m).trans eb'
   have ubu := (t3 bu (by omega) hw1u).trans z3
   have s9 : LayS H7 15 (nx2 + 9) n i (.own b' (i + 1)) r (fun a b => at2 g.P a b * 1024) := g9'.mono (fun a ha => (t3 _ (by have := (g9'.lt a ha).2; omega) fun m => q7.ne_size ((j3 _ (g9'.lt a ha).2).trans (g9'.hr a ha)) (by decide) m).trans (j3 _ (g9'.lt a ha).2)) (by omega) g9'.nw
   have s9' := s9.snoc (id := bu) (fun a ha e => by have := (g9'.lt a ha).2; omega) (by omega) (by omega) ubu fun m e => by cases e; omega
   obtain ⟨hva, hvc, hvs, _⟩ := t1.flat
   simp -dsimp -implicitDefEqProofs (disch := try exact zdE) only [go_sem, u12, hwa1, hva, hvc, hvs]
   generalize hH8 : Hp.upd H7 12 _ = H8
   exact ⟨(i + 1, v3, .own b' (i + 1), fun a => if a = i then bu else r a, H8, _), rfl, ⟨zdo, zdo, zaf hH8 u1 (by omega), zaf hH8 u2 (by omega), zaf hH8 u4 (by omega), za4 hH8, by dsimp only; rw [← hH8]; exact (t1.upd (by omega)).same (fun _ _ => rfl) (by omega), .inr ⟨b', by rw [List.length_map, zal], c1, zdo, zaf hH8 ub' (by omega)⟩, by dsimp only; rw [← hH8]; exact s9'.mono (fun a ha => Hp.upd_ne _ _ (by have := (s9'.lt a ha).1; omega)) (by omega) s9'.nw⟩, zdo⟩
 ·have hie : i = n := by omega
  subst hie
  simp -dsimp -implicitDefEqProofs (disch := try exact zdE) only [go_sem, i3, ← en]
  obtain ⟨bm, hv1, x1, x2, x3⟩ := i7.own_of (by simp; omega)
  obtain ⟨bq, hv2, y1, y2, y3⟩ := i8.own_of (by simp [rowF]; omega)
  rw [List.length_map, List.length_range] at hv1
  rw [List.length_map, zal] at hv2
  subst hv1 hv2
  have lay : LayF H 15 nx i 12 bm bq r (gwP g x k 0) (gwQ g x k 0) (gwC g x k 0) := by
   have z : ∀ f, goes g.rows k (scR g.den x) f 0 = 0 := fun f => rfl
   refine LayF.congr (M := fun a b => at2 g.P a b * 1024) (q := fun a => g.Q.getD a 0 * 1024) (c := cc) ⟨i6, x3, y3, i9.hr, i9.inj, fun a ha e => i9.nw a i ha (by rw [e]), i9.lt, ⟨x1, x2⟩, ⟨y1, y2⟩, by omega⟩ (fun a b _ _ => ?_) (fun a _ => ?_) ?_
   ·unfold gwP wholeP; rw [z, Int.add_zero]
   ·unfold gwQ wholeQ; rw [z, Int.add_zero]
   ·unfold gwC wholeC; rw [z, Int.add_zero, ecc]
  have i5' := i5
  clear i5 i6 i7 i8 i9 x3 y3 ecc hsep hw1r
  refine zap (T := Nat × Hp × Nat) (fun t => ⟨E [(1, ints x), (2, .int .i64 k), (3, .pp (DGV g)), (6, .ptr 1 1 0 0), (7, .ptr 2 1 0 0), (8, .ptr 4 1 0 0), (9, .ptr 12 1 0 0), (13, .int .i64 t.1)], t.2.1, t.2.2, t.2.2⟩)
   (fun t => t.1 ≤ g.rows.length ∧ nx ≤ t.2.2 ∧ t.2.1 1 = some ⟨[.agg [.nil, .nil, .bool false, .sl []]], 4⟩ ∧ t.2.1 2 = some ⟨[.agg [.bool false, .sl []]], 2⟩ ∧ t.2.1 4 = some ⟨[DV 1024], 2⟩ ∧ LayF t.2.1 15 nx i 12 bm bq r (gwP g x k t.1) (gwQ g x k t.1) (gwC g x k t.1)) (fun t => g.rows.length - t.1)
   (0, H, _) rfl ⟨zdo, zdo, i3, i4, i5', lay⟩ ?_
  rintro ⟨t, H1, nx1⟩ ⟨t1, t2, t3, t4, t5, t6⟩
  dsimp only at t1 t2 t3 t4 t5 t6
  by_cases ht : t < g.rows.length
  ·have hm := zau default ht
   have hr4 := h.r _ hm
   have hrl := hr4.len
   have hn := h.n
   have ct := rtouches_ret _ k (by omega) (by omega : (g.rows.getD t default).co.length ≤ 1000000)
   obtain ⟨r0, er⟩ : ∃ r0, r0 = g.rows.getD t default := ⟨_, rfl⟩
   rw [← er] at hr4 hrl ct hm
   simp -dsimp -implicitDefEqProofs (disch := try exact zdE) only [go_sem, ← er]
   first | refine zaa (ct) (by simp) ?_ | refine zab (ct) (by simp) ?_
   have u1 := (Hp.upd_ne H1 (some ⟨[RV r0], 4⟩) (show 1 ≠ nx1 + 10 by omega)).trans t3
   have u2 := (Hp.upd_ne H1 (some ⟨[RV r0], 4⟩) (show 2 ≠ nx1 + 10 by omega)).trans t4
   have u4 := (Hp.upd_ne H1 (some ⟨[RV r0], 4⟩) (show 4 ≠ nx1 + 10 by omega)).trans t5
   have u14 := Hp.upd_same H1 (nx1 + 10) (some ⟨[RV r0], 4⟩)
   have lay2 : LayF (H1.upd (nx1 + 10) (some ⟨[RV r0], 4⟩)) 15 nx i 12 bm bq r (gwP g x k t) (gwQ g x k t) (gwC g x k t) := t6.mono (Hp.upd_ne _ _ (by omega)) (fun b hb hb2 => Hp.upd_ne _ _ (by omega)) (Nat.le_refl _)
   generalize H1.upd (nx1 + 10) (some ⟨[RV r0], 4⟩) = H2 at u1 u2 u4 u14 lay2 ⊢
   clear t3 t4 t5 t6
   cases htc : zdg r0 k
   ·have hst := gw_stay (g := g) (x := x) (k := k) (t := t) (by rw [← er]; exact htc)
    refine sgo ?_
    exact ⟨(t + 1, H2, _), rfl, ⟨zdo, zdo, u1, u2, u4, by dsimp only; rw [hst.1, hst.2.1, hst.2.2]; exact lay2⟩, zdo⟩
   ·obtain ⟨g1, g2, g3⟩ := gw_go (g := g) (x := x) (k := k) (t := t) (by rw [← er]; exact htc) r0 er.symm
    have hshb := share_bd hr4
    have hws : IntKind.i64.wrap (r0.w * zd3 r0 x) = r0.w * zd3 r0 x := IntWalk.i64_in _ (by omega)
    have csh := rshare_ret r0 x hr4 h.x
    have hz := hr4.z
    have dz := zbe (x := r0.z) (by omega)
    have dw := zbe (x := r0.w * zd3 r0 x) (by omega)
    have ds := zba g.den (r0.w * zd3 r0 x)
    have es : g.den * (r0.w * zd3 r0 x) = scR g.den x r0 := rfl
    rw [es] at ds
    obtain ⟨l1, l2, l3⟩ := dlims h hd k (t := t) (by omega)
    obtain ⟨l1', l2', l3'⟩ := dlims h hd k (t := t + 1) (by omega)
    have dsz := zba (scR g.den x r0) r0.z
    have dszz := zba (scR g.den x r0 * r0.z) r0.z
    simp -dsimp -implicitDefEqProofs (disch := try exact zdE) only [go_sem, u14]
    first | refine zaa (csh) (by simp) ?_ | refine zab (csh) (by simp) ?_
    simp -dsimp -implicitDefEqProofs (disch := try exact zdE) only [go_sem, u14, hws, zgn]
    first | refine zaa (r_of _ (by omega)) (by simp) ?_ | refine zab (r_of _ (by omega)) (by simp) ?_
    simp -dsimp -implicitDefEqProofs (disch := try exact zdE) only [go_sem, zgn]
    first | refine zaa (r_mul g.den _ (by omega) (by omega)) (by simp) ?_ | refine zab (r_mul g.den _ (by omega) (by omega)) (by simp) ?_
    simp -dsimp -implicitDefEqProofs (disch := try exact zdE) only [go_sem, u14, es]
    first | refine zaa (r_of r0.z (by omega)) (by simp) ?_ | refine zab (r_of r0.z (by omega)) (by simp) ?_
    have hb12 := lay2.hb
    simp -dsimp -implicitDefEqProofs (disch := try exact zdE) only [go_sem, u14, hb12, zgn]
    first | refine zaa (r_mul (scR g.den x r0) r0.z (by omega) (by omega)) (by simp) ?_ | refine zab (r_mul (scR g.den x r0) r0.z (by omega) (by omega)) (by simp) ?_
    simp -dsimp -implicitDefEqProofs (disch := try exact zdE) only [go_sem, u14, hb12, zgn]
    first | refine zaa (r_mul (scR g.den x r0 * r0.z) r0.z (by omega) (by omega)) (by simp) ?_ | refine zab (r_mul (scR g.den x r0 * r0.z) r0.z (by omega) (by omega)) (by simp) ?_
    simp -dsimp -implicitDefEqProofs (disch := try exact zdE) only [go_sem, u14, hb12, zgn]
    first | refine zaa (r_add (gwC g x k t) (scR g.den x r0 * r0.z * r0.z) (by omega) (by omega)) (by simp) ?_ | refine zab (r_add (gwC g x k t) (scR g.den x r0 * r0.z * r0.z) (by omega) (by omega)) (by simp) ?_
    simp -dsimp -implicitDefEqProofs (disch := try exact zdE) only [go_sem, u14, hb12, zgn]
    have eC : gwC g x k t + scR g.den x r0 * r0.z * r0.z = gwC g x k (t + 1) := by rw [g3]; grind
    rw [eC]
    obtain ⟨H3, eH3⟩ : ∃ H3 : Hp, H3 = (H2.upd (nx1 + 28) (some ⟨[DV (scR g.den x r0)], 2⟩)).upd (nx1 + 33) (some ⟨[DV r0.z], 2⟩) := ⟨_, rfl⟩
    have v3 : ∀ b, b < nx1 + 28 → H3 b = H2 b := fun b hb => by rw [eH3, Hp.upd_ne _ _ (by omega), Hp.upd_ne _ _ (by omega)]
    have v16 : H3 (nx1 + 28) = some ⟨[DV (scR g.den x r0)], 2⟩ := by rw [eH3, Hp.upd_ne _ _ (by omega), Hp.upd_same]
    have v17 : H3 (nx1 + 33) = some ⟨[DV r0.z], 2⟩ := by rw [eH3, Hp.upd_same]
    rw [← eH3]
    have lay3 : LayF H3 15 nx i 12 bm bq r (gwP g x k t) (gwQ g x k t) (gwC g x k t) := lay2.mono (v3 12 (by omega)) (fun b hb hb2 => v3 b (by omega)) (Nat.le_refl _)
    generalize hH4 : Hp.upd H3 12 _ = H4
    have lay4 := lay3.setC hH4
    have w1' : H4 1 = some ⟨[.agg [.nil, .nil, .bool false, .sl []]], 4⟩ := zaf hH4 ((v3 1 (by omega)).trans u1) (by omega)
    have w2' : H4 2 = some ⟨[.agg [.bool false, .sl []]], 2⟩ := zaf hH4 ((v3 2 (by omega)).trans u2) (by omega)
    have w4' : H4 4 = some ⟨[DV 1024], 2⟩ := zaf hH4 ((v3 4 (by omega)).trans u4) (by omega)
    have w14' : H4 (nx1 + 10) = some ⟨[RV r0], 4⟩ := zaf hH4 ((v3 _ (by omega)).trans u14) (by omega)
    have w16' : H4 (nx1 + 28) = some ⟨[DV (scR g.den x r0)], 2⟩ := zaf hH4 v16 (by omega)
    have w17' : H4 (nx1 + 33) = some ⟨[DV r0.z], 2⟩ := zaf hH4 v17 (by omega)
    clear u1 u2 u4 u14 lay2 lay3 v16 v17 hH4 eH3 v3 hb12
    refine zap (T := Nat × Hp × Nat) (fun s => ⟨E [(1, ints x), (2, .int .i64 k), (3, .pp (DGV g)), (6, .ptr 1 1 0 0), (7, .ptr 2 1 0 0), (8, .ptr 4 1 0 0), (9, .ptr 12 1 0 0), (13, .int .i64 t), (14, .ptr (nx1 + 10) 1 0 0), (16, .ptr (nx1 + 28) 1 0 0), (17, .ptr (nx1 + 33) 1 0 0), (18, .int .i64 s.1)], s.2.1, s.2.2, s.2.2⟩)
     (fun s => s.1 ≤ i ∧ nx1 + 46 ≤ s.2.2 ∧ s.2.1 1 = some ⟨[.agg [.nil, .nil, .bool false, .sl []]], 4⟩ ∧ s.2.1 2 = some ⟨[.agg [.bool false, .sl []]], 2⟩ ∧ s.2.1 4 = some ⟨[DV 1024], 2⟩ ∧ s.2.1 (nx1 + 10) = some ⟨[RV r0], 4⟩ ∧ s.2.1 (nx1 + 28) = some ⟨[DV (scR g.den x r0)], 2⟩ ∧ s.2.1 (nx1 + 33) = some ⟨[DV r0.z], 2⟩ ∧ LayF s.2.1 15 nx i 12 bm bq r (fun a b => if a < s.1 then gwP g x k (t + 1) a b else gwP g x k t a b) (fun a => if a < s.1 then gwQ g x k (t + 1) a else gwQ g x k t a) (gwC g x k (t + 1))) (fun s => i - s.1)
     (0, H4, _) rfl ⟨zdo, zdo, w1', w2', w4', w14', w16', w17', by simpa using lay4⟩ ?_
    clear w1' w2' w4' w14' w16' w17' lay4
    rintro ⟨p, H5, nx5⟩ ⟨p1, p2, p3, p4, p5, p6, p7, p8, p9⟩
    dsimp only at p1 p2 p3 p4 p5 p6 p7 p8 p9
    by_cases hp : p < i
    ·have hcp := hr4.get p
     have dcp := zbe (x := r0.co.getD p 0) (by omega)
     have da := zba (scR g.den x r0) (r0.co.getD p 0)
     have daz := zba (scR g.den x r0 * r0.co.getD p 0) r0.z
     simp -dsimp -implicitDefEqProofs (disch := try exact zdE) only [go_sem, p6, p7, p8, ← en]
     first | refine zaa (r_of (r0.co.getD p 0) (by omega)) (by simp) ?_ | refine zab (r_of (r0.co.getD p 0) (by omega)) (by simp) ?_
     simp -dsimp -implicitDefEqProofs (disch := try exact zdE) only [go_sem, p6, p7, p8]
     first | refine zaa (r_mul (scR g.den x r0) (r0.co.getD p 0) (by omega) (by omega)) (by simp) ?_ | refine zab (r_mul (scR g.den x r0) (r0.co.getD p 0) (by omega) (by omega)) (by simp) ?_
     have hb12 := p9.hb
     have hbq := p9.hq
     have hqm := p9.qm
     have hlq := p9.lq
     have l2p := l2 p
     have eqp : (if p < p then gwQ g x k (t + 1) p else gwQ g x k t p) = gwQ g x k t p := by simp
     simp -dsimp -implicitDefEqProofs (disch := try exact zdE) only [go_sem, p6, p7, p8, hb12, hbq, loadO_dt, idxO_dt, eqp]
     first | refine zaa (r_mul (scR g.den x r0 * r0.co.getD p 0) r0.z (by omega) (by omega)) (by simp) ?_ | refine zab (r_mul (scR g.den x r0 * r0.co.getD p 0) r0.z (by omega) (by omega)) (by simp) ?_
     simp -dsimp -implicitDefEqProofs (disch := try exact zdE) only [go_sem, p6, p7, p8, hb12, hbq, loadO_dt, idxO_dt, eqp]
     first | refine zaa (r_add (gwQ g x k t p) (scR g.den x r0 * r0.co.getD p 0 * r0.z) (by omega) (by omega)) (by simp) ?_ | refine zab (r_add (gwQ g x k t p) (scR g.den x r0 * r0.co.getD p 0 * r0.z) (by omega) (by omega)) (by simp) ?_
     simp -dsimp -implicitDefEqProofs (disch := try exact zdE) only [go_sem, p6, p7, p8, hb12, hbq, loadO_dt, idxO_dt, storeO_d, eqp]
     obtain ⟨H6, eH6⟩ : ∃ H6 : Hp, H6 = H5.upd (nx5 + 12) (some ⟨[DV (scR g.den x r0 * r0.co.getD p 0)], 2⟩) := ⟨_, rfl⟩
     have v6 : ∀ b, b < nx5 → H6 b = H5 b := fun b hb => by rw [eH6, Hp.upd_ne _ _ (by omega)]
     have v19 : H6 (nx5 + 12) = some ⟨[DV (scR g.den x r0 * r0.co.getD p 0)], 2⟩ := by rw [eH6, Hp.upd_same]
     rw [← eH6]
     have lay6 := p9.mono (v6 12 (by omega)) (fun b hb hb2 => v6 b (by omega)) (Nat.le_refl _)
     generalize hH7 : Hp.upd H6 bq _ = H7
     have lay7 := lay6.setQ hH7
     have k1 := zaf hH7 ((v6 1 (by omega)).trans p3) (by omega)
     have k2 := zaf hH7 ((v6 2 (by omega)).trans p4) (by omega)
     have k4 := zaf hH7 ((v6 4 (by omega)).trans p5) (by omega)
     have k14 := zaf hH7 ((v6 _ (by omega)).trans p6) (by omega)
     have k16 := zaf hH7 ((v6 _ (by omega)).trans p7) (by omega)
     have k17 := zaf hH7 ((v6 _ (by omega)).trans p8) (by omega)
     have k19 := zaf hH7 v19 (by omega)
     have lay8 := lay7.congr (M' := fun a b => if a < p ∨ (a = p ∧ b < 0) then gwP g x k (t + 1) a b else gwP g x k t a b) (q' := fun a => if a < p + 1 then gwQ g x k (t + 1) a else gwQ g x k t a) (fun a b _ _ => by
      by_cases e : a < p
      ·rw [if_pos e, if_pos (.inl e)]
      ·rw [if_neg e, if_neg (by omega)]) (fun a _ => by
      by_cases e : a = p
      ·subst e; rw [if_pos rfl, if_pos (by omega), g2]; grind
      ·rw [if_neg e]
       by_cases e2 : a < p
       ·rw [if_pos e2, if_pos (by omega)]
       ·rw [if_neg e2, if_neg (by omega)]) rfl
     clear lay6 lay7 v6 v19 eH6 hH7 p3 p4 p5 p6 p7 p8 p9 hb12 hbq
     refine zap (T := Nat × Hp × Nat) (fun s => ⟨E [(1, ints x), (2, .int .i64 k), (3, .pp (DGV g)), (6, .ptr 1 1 0 0), (7, .ptr 2 1 0 0), (8, .ptr 4 1 0 0), (9, .ptr 12 1 0 0), (13, .int .i64 t), (14, .ptr (nx1 + 10) 1 0 0), (16, .ptr (nx1 + 28) 1 0 0), (17, .ptr (nx1 + 33) 1 0 0), (18, .int .i64 p), (19, .ptr (nx5 + 12) 1 0 0), (20, .int .i64 s.1)], s.2.1, s.2.2, s.2.2⟩)
      (fun s => s.1 ≤ i ∧ nx5 + 29 ≤ s.2.2 ∧ s.2.1 1 = some ⟨[.agg [.nil, .nil, .bool false, .sl []]], 4⟩ ∧ s.2.1 2 = some ⟨[.agg [.bool false, .sl []]], 2⟩ ∧ s.2.1 4 = some ⟨[DV 1024], 2⟩ ∧ s.2.1 (nx1 + 10) = some ⟨[RV r0], 4⟩ ∧ s.2.1 (nx1 + 28) = some ⟨[DV (scR g.den x r0)], 2⟩ ∧ s.2.1 (nx1 + 33) = some ⟨[DV r0.z], 2⟩ ∧ s.2.1 (nx5 + 12) = some ⟨[DV (scR g.den x r0 * r0.co.getD p 0)], 2⟩ ∧ LayF s.2.1 15 nx i 12 bm bq r (fun a b => if a < p ∨ (a = p ∧ b < s.1) then gwP g x k (t + 1) a b else gwP g x k t a b) (fun a => if a < p + 1 then gwQ g x k (t + 1) a else gwQ g x k t a) (gwC g x k (t + 1))) (fun s => i - s.1)
      (0, H7, _) rfl ⟨zdo, zdo, k1, k2, k4, k14, k16, k17, k19, lay8⟩ ?_
     clear k1 k2 k4 k14 k16 k17 k19 lay8
     rintro ⟨s, H8, nx8⟩ ⟨s1, s2, s3, s4, s5, s6, s7, s8, s9, s10⟩
     dsimp only at s1 s2 s3 s4 s5 s6 s7 s8 s9 s10
     by_cases hs : s < i
     ·have hcs := hr4.get s
      have dcs := zbe (x := r0.co.getD s 0) (by omega)
      have dac := zba (scR g.den x r0 * r0.co.getD p 0) (r0.co.getD s 0)
      have hb12 := s10.hb
      have hbm := s10.hm
      have hrp := s10.hr p hp
      have hlm := s10.lm
      have hlr := s10.lt p hp
      have hnm := s10.nm hp
      have lps := l1 p s
      have eps : (if p < p ∨ s < s then gwP g x k (t + 1) p s else gwP g x k t p s) = gwP g x k t p s := by rw [if_neg (by omega)]
      simp -dsimp -implicitDefEqProofs (disch := try exact zdE) only [go_sem, s6, s7, s8, s9, hb12, hbm, hrp, zdx, loadO_dt, idxO_rt, idxO_dt, eps, ← en]
      first | refine zaa (r_of (r0.co.getD s 0) (by omega)) (by simp) ?_ | refine zab (r_of (r0.co.getD s 0) (by omega)) (by simp) ?_
      simp -dsimp -implicitDefEqProofs (disch := try exact zdE) only [go_sem, s6, s7, s8, s9, hb12, hbm, hrp, zdx, loadO_dt, idxO_rt, idxO_dt, eps]
      first | refine zaa (r_mul (scR g.den x r0 * r0.co.getD p 0) (r0.co.getD s 0) (by omega) (by omega)) (by simp) ?_ | refine zab (r_mul (scR g.den x r0 * r0.co.getD p 0) (r0.co.getD s 0) (by omega) (by omega)) (by simp) ?_
      simp -dsimp -implicitDefEqProofs (disch := try exact zdE) only [go_sem, s6, s7, s8, s9, hb12, hbm, hrp, zdx, loadO_dt, idxO_rt, idxO_dt, eps]
      first | refine zaa (r_add (gwP g x k t p s) (scR g.den x r0 * r0.co.getD p 0 * r0.co.getD s 0) (by omega) (by omega)) (by simp) ?_ | refine zab (r_add (gwP g x k t p s) (scR g.den x r0 * r0.co.getD p 0 * r0.co.getD s 0) (by omega) (by omega)) (by simp) ?_
      simp -dsimp -implicitDefEqProofs (disch := try exact zdE) only [go_sem, s6, s7, s8, s9, hb12, hbm, hrp, zdx, loadO_dt, idxO_rt, idxO_dt, storeO_d, eps]
      generalize hH9 : Hp.upd H8 (r p) _ = H9
      have e3 : (fun b => if p < p ∨ b < s then gwP g x k (t + 1) p b else gwP g x k t p b) = fun b => if p < p ∨ p = p ∧ b < s then gwP g x k (t + 1) p b else gwP g x k t p b := by funext b; simp
      rw [e3] at hH9
      have lay9 := s10.setP hp hH9
      refine ⟨(s + 1, H9, _), rfl, ⟨zdo, zdo, zaf hH9 s3 (by omega), zaf hH9 s4 (by omega), zaf hH9 s5 (by omega), zaf hH9 s6 (by omega), zaf hH9 s7 (by omega), zaf hH9 s8 (by omega), zaf hH9 s9 (by omega), ?_⟩, zdo⟩
      exact lay9.congr (fun a b ha hb => by
       dsimp only
       by_cases e : a = p ∧ b = s
       ·obtain ⟨rfl, rfl⟩ := e
        rw [if_pos ⟨rfl, rfl⟩, if_pos (by omega), g1]; grind
       ·rw [if_neg e]
        by_cases e2 : a < p ∨ (a = p ∧ b < s)
        ·rw [if_pos e2, if_pos (by omega)]
        ·rw [if_neg e2, if_neg (by omega)]) (fun a ha => rfl) rfl
     ·have hsi : s = i := by omega
      simp -dsimp -implicitDefEqProofs (disch := try exact zdE) only [go_sem, ← en]
      refine ⟨(p + 1, H8, _), rfl, ⟨zdo, zdo, s3, s4, s5, s6, s7, s8, ?_⟩, zdo⟩
      exact s10.congr (fun a b ha hb => by
       dsimp only
       by_cases e : a < p + 1
       ·rw [if_pos e, if_pos (by omega)]
       ·rw [if_neg e, if_neg (by omega)]) (fun a ha => rfl) rfl
    ·have hpi : p = i := by omega
     subst hpi
     simp -dsimp -implicitDefEqProofs (disch := try exact zdE) only [go_sem, ← en]
     refine ⟨(t + 1, H5, _), rfl, ⟨zdo, zdo, p3, p4, p5, ?_⟩, zdo⟩
     exact p9.congr (fun a b ha hb => by rw [if_pos ha]) (fun a ha => by rw [if_pos ha]) rfl
  ·have hte : t = g.rows.length := by omega
   subst hte
   have hb12 := t6.hb
   obtain ⟨f1, f2⟩ := (t6.mono (G' := (H1.upd 1 (some ⟨[.agg [.own bm i, .own bq i, .bool (decide (gwC g x k g.rows.length < 0)), .sl (nats .i64 (digs 10 (gwC g x k g.rows.length).natAbs))]], 4⟩)).upd 2 (some ⟨[DV (g.den * 1024)], 2⟩)) (by rw [Hp.upd_ne _ _ (by omega), Hp.upd_ne _ _ (by omega)]) (fun b hb hb2 => by rw [Hp.upd_ne _ _ (by omega), Hp.upd_ne _ _ (by omega)]) (Nat.le_refl _)).frz 3
   obtain ⟨vm, evm⟩ : ∃ v, v = V.own bm i := ⟨_, rfl⟩
   obtain ⟨vq, evq⟩ : ∃ v, v = V.own bq i := ⟨_, rfl⟩
   rw [← evm, ← evq] at hb12 f1 f2
   have vm1 : vm.isAgg = false ∧ vm.cellOk = true ∧ vm.cells = [vm] ∧ vm.isJunk = false := by rw [evm]; exact ⟨rfl, rfl, rfl, rfl⟩
   have vq1 : vq.isAgg = false ∧ vq.cellOk = true ∧ vq.cells = [vq] ∧ vq.isJunk = false := by rw [evq]; exact ⟨rfl, rfl, rfl, rfl⟩
   obtain ⟨vma, vmc, vms, _⟩ := vm1
   obtain ⟨vqa, vqc, vqs, _⟩ := vq1
   clear evm evq
   simp -dsimp -implicitDefEqProofs (disch := try exact zdE) only [go_sem, t3, t4, t5, hb12, zgn, ← en]
   first | refine zaa (r_mul g.den 1024 (by omega) (by omega)) (by simp) ?_ | refine zab (r_mul g.den 1024 (by omega) (by omega)) (by simp) ?_
   simp -dsimp -implicitDefEqProofs (disch := try exact zdE) only [go_sem, t3, t4, t5, hb12, zgn, vma, vmc, vms, vqa, vqc, vqs, ← en]
   rw [f1, f2]
   rfl
end Go.Gim
/- The document's whole numbers: quotients, by taking away. -/
set_option maxRecDepth 100000
set_option maxHeartbeats 4000000
namespace Go.Gim
open Go.Proofs
attribute [local go_sem] IntWalk.i64_in wu64 wu32 wu8 Nat.mod_eq_of_lt shr32 shr63 shl32 or32 quo64 quo32 zfb remk zcw zcv zd0 zdz zb9 Nat.add_assoc za8 lt_ne gt_ne zds dlt_t dlt_f dle_t dle_f deq_t deq_f zca zep zel zbr zbq zbf zbc zcx zcy zcz zdh zae List.length_set ge_iff_le gt_iff_lt Int.toNat_natCast zcg zdi zcq zdk zdj zcp zb0 zea zb7 zb8 zdr
theorem set_rep {i c v : Nat} {q : List Nat} : (List.replicate i 0 ++ c :: q).set i v = List.replicate i 0 ++ v :: q := by
 rw [List.set_append_right _ _ (by simp)]; simp
theorem get_rep {i c : Nat} {q : List Nat} : (List.replicate i 0 ++ c :: q).getD i 0 = c := by
 simp [List.getD_eq_getElem?_getD]
theorem rep_succ {i : Nat} {q : List Nat} : List.replicate (i + 1) 0 ++ q = List.replicate i 0 ++ 0 :: q := by
 rw [List.replicate_succ', List.append_assoc]; rfl
theorem fld_DVn (z : Nat) : fldV 1 1 false (DV (z : Int)) = some (.sl (nats .i64 (digs 10 z))) := by simp [fldV, DV, V.part, V.cells, V.isAgg]
theorem r_parted (a : List Nat) (y : Nat) (hy0 : 0 < y) (ha : ∀ x ∈ a, x < 10) (hal : a.length ≤ 1000000000) (hyl : (digs 10 y).length ≤ 1000000000) :
  Ret pg zem [.sl (nats .i64 a), .sl (nats .i64 (digs 10 y))] (.tup [.sl (nats .i64 (divL 10 y a).1), .sl (nats .i64 (digs 10 (divL 10 y a).2))]) := by
 have hdl : ∀ u, (divL 10 y (a.drop u)).1.length = a.length - u := fun u => by rw [divL_len, List.length_drop]
 have hylt : y < 10 ^ (digs 10 y).length := zg9 (by decide) y
 have hdR : ∀ R, R < 10 * y → (digs 10 R).length ≤ (digs 10 y).length + 1 := fun R hR => zgd d2 (by rw [Nat.pow_succ]; omega)
 refine gimbalref01_parted.of rfl (W_b ?_)
 unfold gimbalref01_parted.k gimbalref01_parted.res Ot kp Oy Om Ol Oi On ci
 refine sgd ?_
 refine zap (T := Nat × V × Hp × Nat) (fun t => ⟨E [(0, .sl (nats .i64 a)), (1, .sl (nats .i64 (digs 10 y))), (6, .own 4 a.length), (7, t.2.1), (8, .int .i64 ((t.1 : Int) - 1))], t.2.2.1, t.2.2.2, t.2.2.2⟩)
  (fun t => t.1 ≤ a.length ∧ 4 < t.2.2.2 ∧ t.2.2.1 4 = some ⟨nats .i64 (List.replicate t.1 0 ++ (divL 10 y (a.drop t.1)).1), 1⟩ ∧ ((t.2.1 = .nil ∧ (divL 10 y (a.drop t.1)).2 = 0) ∨ t.2.1 = .sl (nats .i64 (digs 10 (divL 10 y (a.drop t.1)).2)))) (fun t => t.1) (a.length, .nil, _, _) rfl ⟨zdo, zdo, by simp [divL, nats]; rfl, .inl ⟨rfl, by simp [divL]⟩⟩ ?_
 rintro ⟨u, w, H, nx⟩ ⟨i1, i2, i3, i4⟩
 dsimp only at i1 i2 i3 i4
 rcases u with _ | i
 ·simp only [List.drop_zero, List.replicate_zero, List.nil_append] at i3 i4
  have hwf : Gim.frz H 8 w = some (.sl (nats .i64 (digs 10 (divL 10 y a).2))) := by
   rcases i4 with ⟨rfl, h0⟩ | rfl
   ·rw [h0, zav]; rfl
   ·rfl
  have hl := hdl 0
  rw [List.drop_zero, Nat.sub_zero] at hl
  simp -dsimp -implicitDefEqProofs (disch := try exact zdL) only [go_sem, zao, zan, zah, zaz, zas, zac, i3, hwf]
 ·have hi : i < a.length := by omega
  have hx := zbt (i := i) ha (by decide)
  have hdrop := zcu hi
  have hdv : divL 10 y (a.drop i) = (((divL 10 y (a.drop (i + 1))).2 * 10 + a.getD i 0) / y :: (divL 10 y (a.drop (i + 1))).1, ((divL 10 y (a.drop (i + 1))).2 * 10 + a.getD i 0) % y) := by rw [hdrop]; rfl
  have hR := divL_rest (B := 10) hy0 (a.drop (i + 1))
  have hql := hdl (i + 1)
  rw [rep_succ] at i3
  generalize hxi : a.getD i 0 = x at *
  generalize (divL 10 y (a.drop (i + 1))).1 = q at *
  generalize (divL 10 y (a.drop (i + 1))).2 = R at *
  have e8 : (((i + 1 : Nat) : Int) - 1) = (i : Int) := by omega
  have hws : slOf H w = some (nats .i64 (digs 10 R)) := by
   rcases i4 with ⟨rfl, h0⟩ | rfl
   ·rw [h0, zav]; rfl
   ·rfl
  simp -dsimp -implicitDefEqProofs (disch := try exact zdL) only [go_sem, zao, zan, zah, zaz, zas, zac, e8, hxi]
  have hrow : rowOk 1 (nats .i64 (digs 10 R)) = true := nats_row _ _
  have hn1 : w.notIn (nx + 6) = true := by rcases i4 with ⟨rfl, _⟩ | rfl <;> rfl
  have hRl := hdR R (by omega)
  refine zfo (app_own (blk := ⟨[.int .i64 x], 1⟩) (news := nats .i64 (digs 10 R)) (by rcases i4 with ⟨rfl, h0⟩ | rfl; (rw [h0, zav]; rfl); rfl) hrow (by decide) (Hp.upd_same _ _ _) rfl rfl (by rw [zae]; omega) (by rw [zae]; omega) hn1) ?_
  have hmd := r_made false (x :: digs 10 R) (by
   intro z hz
   rcases List.mem_cons.1 hz with rfl | hz
   ·exact hx
   ·exact zbl d2 _ z hz) (by rw [List.length_cons]; omega)
  have hval : val 10 (x :: digs 10 R) = R * 10 + x := by rw [val, zaw d2]; omega
  rw [hval] at hmd
  have esg : sg false (R * 10 + x) = ((R * 10 + x : Nat) : Int) := by simp [sg]
  rw [esg] at hmd
  have ens : [V.int .i64 (x : Int)] ++ nats .i64 (digs 10 R) = nats .i64 (x :: digs 10 R) := rfl
  rw [ens]
  have elen : 1 + (nats .i64 (digs 10 R)).length = (x :: digs 10 R).length := by rw [zae, List.length_cons]; omega
  rw [elen]
  have e4 : ∀ z1 z2 z3 z4, ((((H.upd (nx + 6) z1).upd (nx + 6) z2).upd (nx + 8) z3).upd (nx + 8) z4) 4 = some ⟨nats .i64 (List.replicate i 0 ++ 0 :: q), 1⟩ := fun z1 z2 z3 z4 => by
   rw [Hp.upd_ne _ _ (by omega), Hp.upd_ne _ _ (by omega), Hp.upd_ne _ _ (by omega), Hp.upd_ne _ _ (by omega)]; exact i3
  refine sgd ?_
  refine zfr (nx + 8) (nats .i64 (x :: digs 10 R)) (es := 1) (Hp.upd_same _ _ _) zg5 (by simp [V.sub, fz1, zae]) hmd (by simp) ?_
  have f4 : ((H.upd (nx + 6) none).upd (nx + 8) none) 4 = some ⟨nats .i64 (List.replicate i 0 ++ 0 :: q), 1⟩ := by
   rw [Hp.upd_ne _ _ (by omega), Hp.upd_ne _ _ (by omega)]; exact i3
  clear e4 i3
  simp -dsimp -implicitDefEqProofs (disch := try exact zdL) only [go_sem, zao, zan, zah, zaz, zas, zac, fld_DVn]
  generalize (H.upd (nx + 6) none).upd (nx + 8) none = H1 at f4 ⊢
  refine zap (T := Nat × Nat × Hp × Nat) (fun t => ⟨E [(0, .sl (nats .i64 a)), (1, .sl (nats .i64 (digs 10 y))), (6, .own 4 a.length), (7, .sl (nats .i64 (digs 10 t.2.1))), (8, .int .i64 (i : Int))], t.2.2.1, t.2.2.2, t.2.2.2⟩)
   (fun t => t.2.1 + t.1 * y = R * 10 + x ∧ 4 < t.2.2.2 ∧ t.2.2.1 4 = some ⟨nats .i64 (List.replicate i 0 ++ t.1 :: q), 1⟩) (fun t => t.2.1) (0, R * 10 + x, H1, _) rfl ⟨zdo, zdo, f4⟩ ?_
  rintro ⟨c, R', H2, nx2⟩ ⟨j1, j2, j3⟩
  dsimp only at j1 j2 j3
  have hc9 : c ≤ 9 := by
   refine Decidable.byContradiction fun hn => ?_
   have h1 : 10 * y ≤ c * y := Nat.mul_le_mul_right _ (by omega)
   omega
  have hRl' := hdR R' (by omega)
  have hsz := r_size R' y (by omega) (by omega)
  have hrl : (List.replicate i 0 ++ c :: q).length = a.length := by simp [hql]; omega
  refine sgd ?_
  first | refine zaa (hsz) (by simp) ?_ | refine zab (hsz) (by simp) ?_
  by_cases hge : y ≤ R'
  ·have hnc := ncmp_ge'.2 hge
   have hd := r_less (digs 10 R') (digs 10 y) (zbl d2 _) (zbl d2 _) (by omega) (by omega)
   have hm := r_made false _ (subL_lt d2 _ (digs 10 y) 0 (zbl d2 R')) (by rw [ze9]; omega)
   rw [subL10_abs hge, show sg false (R' - y) = ((R' - y : Nat) : Int) by simp [sg]] at hm
   refine sgd ?_
   first | refine zaa (hd) (by simp) ?_ | refine zab (hd) (by simp) ?_
   refine sgd ?_
   first | refine zaa (hm) (by simp) ?_ | refine zab (hm) (by simp) ?_
   have hgr := get_rep (i := i) (c := c) (q := q)
   have hsr := set_rep (i := i) (c := c) (v := c + 1) (q := q)
   have hst := zbf (b := 4) (i := i) (k := .i64) (l := List.replicate i 0 ++ c :: q) (v := ((c + 1 : Nat) : Int)) hrl hi (by omega)
   rw [Int.toNat_natCast, hsr] at hst
   simp -dsimp -implicitDefEqProofs (disch := try exact zdL) only [go_sem, zao, zan, zah, zaz, zas, zac, fld_DVn, j3, hgr, hst]
   generalize hH3 : Hp.upd H2 4 _ = H3
   exact ⟨(c + 1, R' - y, H3, _), rfl, ⟨by dsimp only; rw [Nat.add_mul, Nat.one_mul]; omega, zdo, za4 hH3⟩, zdo⟩
  ·have hnc : ¬ 0 ≤ ncmp R' y := fun h => hge (ncmp_ge'.1 h)
   have hcq : c = (R * 10 + x) / y ∧ R' = (R * 10 + x) % y := by
    rw [← j1, Nat.add_mul_div_right _ _ hy0, Nat.div_eq_of_lt (by omega), Nat.add_mul_mod_self_right, Nat.mod_eq_of_lt (by omega)]; omega
   refine sgd ?_
   rw [← hcq.1, ← hcq.2] at hdv
   exact ⟨(i, .sl (nats .i64 (digs 10 R')), H2, _), rfl, ⟨zdo, zdo, by dsimp only; rw [hdv]; exact j3, .inr (by dsimp only; rw [hdv])⟩, zdo⟩
theorem r_quo (x y : Int) (hy : y ≠ 0) (hx : dlim x ≤ 100000000) (hyl : dlim y ≤ 100000000) : Ret pg zee [DV x, DV y] (.tup [DV (x.fdiv y), DV (x.fmod y), .int .i64 0]) := by
 have hp := r_parted (digs 10 x.natAbs) y.natAbs (by omega) (zbl d2 _) (by unfold dlim at hx; omega) (by unfold dlim at hyl; omega)
 obtain ⟨v1, v2⟩ := divL_quo (B := 10) (b := y.natAbs) (by omega) (digs 10 x.natAbs)
 have v3 := divL_lt (B := 10) (b := y.natAbs) (by omega) (digs 10 x.natAbs) (zbl d2 _)
 have v5 := divL_len 10 y.natAbs (digs 10 x.natAbs)
 rw [zaw d2] at v1 v2
 generalize (divL 10 y.natAbs (digs 10 x.natAbs)).1 = q at *
 rw [v2] at hp
 have hyn : (digs 10 y.natAbs).length ≠ 0 := fun h => by
  have := (zgp d2).1 (List.eq_nil_of_length_eq_zero h); omega
 unfold dlim at hx hyl
 refine gimbalref01_Int_Quo.of rfl (W_b ?_)
 unfold gimbalref01_Int_Quo.k gimbalref01_Int_Quo.res Ot kp kd Oh Oy Om Ol OL Oq Oc On ci
 have hyn' : ¬ ((digs 10 y.natAbs).length : Int) = 0 := by omega
 simp -dsimp -implicitDefEqProofs (disch := try exact zdL) only [go_sem, zao, zan, zah, zaz, zas, zac, hyn']
 first | refine zaa (hp) (by simp) ?_ | refine zab (hp) (by simp) ?_
 refine sgd ?_
 have hpl := quo_plain (x := x) hy
 have hmq := r_made (!decide (decide (x < 0) = decide (y < 0))) q v3 (by omega)
 have hrl : (digs 10 (x.natAbs % y.natAbs)).length ≤ (digs 10 y.natAbs).length := zeq d2 (Nat.le_of_lt (Nat.mod_lt _ (by omega)))
 have hmr := r_made (decide (x < 0)) (digs 10 (x.natAbs % y.natAbs)) (zbl d2 _) (by omega)
 rw [v1] at hmq
 rw [zaw d2] at hmr
 have lq : dlim (sg (!decide (decide (x < 0) = decide (y < 0))) (x.natAbs / y.natAbs)) ≤ 100000000 := by
  unfold dlim; rw [sg_abs]; exact Nat.le_trans (zeq d2 (Nat.div_le_self _ _)) hx
 have lr : dlim (sg (decide (x < 0)) (x.natAbs % y.natAbs)) ≤ 100000000 := by
  unfold dlim; rw [sg_abs]; omega
 generalize sg (!decide (decide (x < 0) = decide (y < 0))) (x.natAbs / y.natAbs) = Q at hpl hmq lq
 generalize sg (decide (x < 0)) (x.natAbs % y.natAbs) = R at hpl hmr lr
 first | refine zaa (hmq) (by simp) ?_ | refine zab (hmq) (by simp) ?_
 refine sgd ?_
 first | refine zaa (hmr) (by simp) ?_ | refine zab (hmr) (by simp) ?_
 by_cases hR : R = 0
 ·have hs : (digs 10 R.natAbs).length = 0 := by rw [hR, show Int.natAbs 0 = 0 from rfl, zav]; rfl
  obtain ⟨e1, e2⟩ := hpl.1 (.inl hR)
  rw [e1, e2]
  simp -dsimp -implicitDefEqProofs (disch := try exact zdL) only [go_sem, zao, zan, zah, zaz, zas, zac, hs]
  done
 ·have hs : 0 < (digs 10 R.natAbs).length := Nat.pos_of_ne_zero fun h => hR (by
   have := (zgp d2).1 (List.eq_nil_of_length_eq_zero h); omega)
  by_cases hd : decide (R < 0) = decide (y < 0)
  ·obtain ⟨e1, e2⟩ := hpl.1 (.inr hd)
   rw [e1, e2]
   simp -dsimp -implicitDefEqProofs (disch := try exact zdL) only [go_sem, zao, zan, zah, zaz, zas, zac, hs, hd]
   done
  ·obtain ⟨e1, e2⟩ := hpl.2 hR hd
   rw [e1, e2]
   simp -dsimp -implicitDefEqProofs (disch := try exact zdL) only [go_sem, zao, zan, zah, zaz, zas, zac, hs, hd]
   first | refine zaa (r_of 1 (by decide)) (by simp) ?_ | refine zab (r_of 1 (by decide)) (by simp) ?_
   refine sgd ?_
   first | refine zaa (r_sub Q 1 (by omega) (by have := zbe (x := 1) (by decide); omega)) (by simp) ?_ | refine zab (r_sub Q 1 (by omega) (by have := zbe (x := 1) (by decide); omega)) (by simp) ?_
   refine sgd ?_
   first | refine zaa (r_add R y (by omega) (by unfold dlim; omega)) (by simp) ?_ | refine zab (r_add R y (by omega) (by unfold dlim; omega)) (by simp) ?_
   exact sgd trivial
   done
end Go.Gim
/- The document's answer: rounding down, a function of noughts. -/
set_option maxRecDepth 100000
set_option maxHeartbeats 4000000
namespace Go.Gim
open Go.Proofs
theorem rdown_ret (x ov : Int) (h0 : ov ≠ 0) (hx : dlim x ≤ 1000000) (ho : dlim ov ≤ 1000000) : Ret pg zcj [DV x, DV ov] (DV (downF x ov)) := by
 have l1 := zbe (x := 1024) (by decide)
 have l2 := zba x 1024
 refine gimbalref20_down.of rfl (W_b ?_)
 unfold gimbalref20_down.k gimbalref20_down.res Ot kp kd Oy Om OL ci downF
 refine sgo ?_
 first | refine zaa (r_of 1024 (by decide)) (by simp) ?_ | refine zab (r_of 1024 (by decide)) (by simp) ?_
 refine sgo ?_
 first | refine zaa (r_mul x 1024 (by omega) (by omega)) (by simp) ?_ | refine zab (r_mul x 1024 (by omega) (by omega)) (by simp) ?_
 refine sgo ?_
 first | refine zaa (r_quo (x * 1024) ov h0 (by omega) (by omega)) (by simp) ?_ | refine zab (r_quo (x * 1024) ov h0 (by omega) (by omega)) (by simp) ?_
 exact sgo trivial
theorem rep_rowF (n : Nat) : List.replicate n (DV 0) = (rowF n fun _ => 0).map DV := by
 unfold rowF; rw [List.map_map]
 refine List.ext_getElem (by simp) fun a h1 h2 => by simp
theorem rzero_ret (n : Nat) (hn : n ≤ 1000) : Ret pg zfj [.int .i64 n] (DQV (mat n fun _ _ => 0) (rowF n fun _ => 0) 0) := by
 refine gimbalref20_Zero.of rfl (W_b ?_)
 unfold gimbalref20_Zero.k gimbalref20_Zero.res Ot kp Oy Om Oc ci
 refine sgo ?_
 refine zap (T := Nat × V × (Nat → Nat) × Hp × Nat) (fun t => ⟨E [(0, .int .i64 n), (2, .ptr 0 1 0 0), (3, t.2.1), (4, .int .i64 t.1)], t.2.2.2.1, t.2.2.2.2, t.2.2.2.2⟩)
  (fun t => t.1 ≤ n ∧ 1 ≤ t.2.2.2.2 ∧ t.2.2.2.1 0 = some ⟨[.agg [.nil, .nil, .bool false, .sl []]], 4⟩ ∧ Row 1 t.2.2.2.1 t.2.2.2.2 t.2.1 1 ((List.range t.1).map fun a => .own (t.2.2.1 a) n) ∧ LayS t.2.2.2.1 1 t.2.2.2.2 n t.1 .nil t.2.2.1 (fun _ _ => 0)) (fun t => n - t.1)
  (0, .nil, fun _ => 0, _, _) rfl ⟨zdo, zdo, rfl, Row.nil _ _ _ _, ⟨fun a h => by dsimp only at h; omega, fun a b h => by dsimp only at h; omega, fun a h => by dsimp only at h; omega, fun a m h => by dsimp only at h; omega⟩⟩ ?_
 rintro ⟨i, w, r, H, nx⟩ ⟨i1, i2, i3, i4, i5⟩
 dsimp only at i1 i2 i3 i4 i5
 obtain ⟨hwa, hwc, hws, hwj⟩ := i4.flat
 have ez : V.agg [.bool false, .sl []] = DV 0 := DV_zz.symm
 have hmk : newV (.mks 2 32 (DV 0)) [.int .i64 (n : Int), .int .i64 (n : Int)] = some (n, ⟨(rowF n fun _ => 0).map DV, 2⟩) := by
  rw [← rep_rowF]
  show (if _ then _ else _) = _
  rw [if_pos ⟨by omega, by omega, by omega, by omega, rfl, by decide⟩, Int.toNat_natCast]
 by_cases hi : i < n
 ·refine sgo ?_
  refine W_gh0 ?_
  simp -dsimp -implicitDefEqProofs (disch := try exact zdE) only [go_sem, ez, hmk]
  have i4' : Row 1 (H.upd (nx + 5) (some ⟨(rowF n fun _ => 0).map DV, 2⟩)) (nx + 6) w 1 ((List.range i).map fun a => .own (r a) n) := i4.same (fun b hb => Hp.upd_ne _ _ (by omega)) (by omega)
  refine zaq (lo := 1) (nx := nx + 6) (H0 := H.upd (nx + 5) (some ⟨(rowF n fun _ => 0).map DV, 2⟩)) (xs := (List.range i).map fun a => .own (r a) n) i4' (by omega) rfl (by omega) (by omega) (by simp [rowOk, V.cells, V.cellOk, V.isJunk]) (by decide) (by simp; omega) (by simp; omega) fun v3 H7 t1 t2 t3 t4 => ?_
  have hrr : (List.range i).map (fun a => V.own (r a) n) = (List.range i).map (fun a => V.own (if a = i then nx + 5 else r a) n) := List.map_congr_left fun a ha => by simp at ha; rw [if_neg (by omega)]
  have hlast : V.own (nx + 5) n = (fun a => V.own (if a = i then nx + 5 else r a) n) i := by simp
  rw [hrr, hlast, zat] at t1
  have hw5 : ∀ m, w ≠ .own (nx + 5) m := fun m e => by have := Row.lt i4 e; omega
  have s5 : LayS H7 1 (nx + 8) n i .nil r (fun _ _ => 0) := i5.mono (fun a ha => (t3 _ (by have := (i5.lt a ha).2; omega) fun m => i4.ne_size (i5.hr a ha) (by decide) m).trans (Hp.upd_ne _ _ (by have := (i5.lt a ha).2; omega))) (by omega) i5.nw
  have s5' := s5.snoc (id := nx + 5) (fun a ha e => by have := (i5.lt a ha).2; omega) (by omega) (by omega) ((t3 _ (by omega) hw5).trans (Hp.upd_same _ _ _)) fun m e => by cases e
  have u0 := (t4 0 (by omega)).trans ((Hp.upd_ne _ _ (by omega)).trans i3)
  refine sgo ?_
  exact ⟨(i + 1, v3, fun a => if a = i then nx + 5 else r a, H7, _), rfl, ⟨zdo, zdo, u0, t1.same (fun _ _ => rfl) zdo, s5'.mono (fun _ _ => rfl) zdo s5'.nw⟩, zdo⟩
 ·have hie : i = n := by omega
  subst hie
  have fz : ∀ G : Hp, (∀ b, 1 ≤ b → b < nx → G b = H b) → Gim.frz G 7 w = some (.sl ((mat i fun _ _ => 0).map dvl)) := fun G hG => by
   have i4' : Row 1 G nx w 1 ((List.range i).map fun a => .own (r a) i) := by
    rcases i4 with ⟨h1, h2⟩ | ⟨b, h1, h2, h3, h4⟩
    ·exact .inl ⟨h1, h2⟩
    ·exact .inr ⟨b, h1, h2, h3, (hG b h2 h3).trans h4⟩
   rw [show (mat i fun _ _ => 0).map dvl = (List.range i).map fun _ => dvl (rowF i fun _ => 0) by unfold mat; rw [List.map_map]; rfl]
   refine i4'.frz (allOf_map fun a ha => ?_)
   have ha := List.mem_range.1 ha
   exact zgu ((hG _ (i5.lt a ha).1 (i5.lt a ha).2).trans (i5.hr a ha)) (by rw [List.length_map, zal]) (zdb fun x => zaz _ _ _)
  simp -dsimp -implicitDefEqProofs (disch := try exact zdE) only [go_sem, i3, hwa, hwc, hws, hwj, ez, hmk]
  rw [fz _ fun b h1 h2 => by rw [Hp.upd_ne _ _ (by omega), Hp.upd_ne _ _ (by omega)], frzO_some (by rw [List.length_map, zal]), zdb fun x => zaz _ _ _]
  have ed : digs 10 (Int.natAbs 0) = [] := by rw [show Int.natAbs 0 = 0 from rfl, zav]
  simp only [Option.map_some, Option.bind_some, DQV, ed]
  rfl
end Go.Gim
/- The document's answer: a graph without its first numbers. -/
set_option maxRecDepth 100000
set_option maxHeartbeats 40000000
namespace Go.Gim
open Go.Proofs
theorem rout_bad1 (g : Gr) (x : List Int) (k : Int) (hl : x.length ≤ 9223372036854775807) (h : x.length ≠ g.n ∨ zft x = false) : Ret pg zdd [DGV g, ints x, .int .i64 k] (.tup [DGV Gr0, .int .i64 170]) := by
 have c := rstate_ret x hl
 refine gimbalref20_Out.of rfl (W_b ?_)
 unfold gimbalref20_Out.k gimbalref20_Out.res Ot kp kd Og Oy Om Ol OL Oq Oi Oc On ci
 rw [DGr0_eq]
 refine sgo ?_
 first | refine zaa (c) (by simp) ?_ | refine zab (c) (by simp) ?_
 by_cases hx : (x.length : Int) = g.n
 ·have hs : zft x = false := by rcases h with h | h; omega; exact h
  simp -dsimp -implicitDefEqProofs (disch := try exact zdE) only [go_sem, hx, hs]
 ·simp -dsimp -implicitDefEqProofs (disch := try exact zdE) only [go_sem, hx]
theorem rout_bad2 (g : Gr) (x : List Int) (k : Int) (hl : x.length ≤ 9223372036854775807) (hx : x.length = g.n) (hs : zft x = true) (h : k < 0 ∨ g.n ≤ k) : Ret pg zdd [DGV g, ints x, .int .i64 k] (.tup [DGV Gr0, .int .i64 1]) := by
 have c := rstate_ret x hl
 rw [hs] at c
 have hx' : (x.length : Int) = g.n := by omega
 refine gimbalref20_Out.of rfl (W_b ?_)
 unfold gimbalref20_Out.k gimbalref20_Out.res Ot kp kd Og Oy Om Ol OL Oq Oi Oc On ci
 rw [DGr0_eq]
 refine sgo ?_
 first | refine zaa (c) (by simp) ?_ | refine zab (c) (by simp) ?_
 by_cases h0 : k < 0
 ·simp -dsimp -implicitDefEqProofs (disch := try exact zdE) only [go_sem, hx']
 ·have h1 : (g.n : Int) ≤ k := by omega
  simp -dsimp -implicitDefEqProofs (disch := try exact zdE) only [go_sem, hx']
theorem csel_join {P : Program} {b : Bool} {A B : K} {Kn : St → Prop} {Q : AX → St → Prop} {u : Dep Kn} {u' : Dep Q} {S : St} (I : (Nat → V) → Hp → Nat → Prop) (hA : b = true → Wb P A (fun x S' => x = .normal ∧ S'.hi = S'.nx ∧ I S'.env S'.H S'.nx) dp S) (hB : b = false → Wb P B (fun x S' => x = .normal ∧ S'.hi = S'.nx ∧ I S'.env S'.H S'.nx) dp S) (hK : ∀ env H nx, I env H nx → Kn ⟨env, H, nx, nx⟩) :
  csel (.bool b) (Wb P A (thn Kn Q u u') dp S) (Wb P B (thn Kn Q u u') dp S) dp dp := by
 have key : ∀ (x : AX) (S' : St), (x = .normal ∧ S'.hi = S'.nx ∧ I S'.env S'.H S'.nx) → thn Kn Q u u' x S' := fun x S' hx => by
  obtain ⟨rfl, h1, h2⟩ := hx
  have := hK _ _ _ h2
  obtain ⟨e, H, n, h⟩ := S'
  dsimp only at h1 this
  subst h1
  exact this
 exact ⟨b, rfl, fun h => ze7 key (hA h), fun h => ze7 key (hB h)⟩
theorem fdiv_abs (x y : Int) : (x.fdiv y).natAbs ≤ x.natAbs := by
 match x, y with
 | 0, _ => simp
 | .ofNat (m + 1), .ofNat n => exact Nat.div_le_self _ _
 | .ofNat (m + 1), .negSucc n =>
  show m / (n + 1) + 1 ≤ m + 1
  have := Nat.div_le_self m (n + 1)
  omega
 | .negSucc m, 0 => simp
 | .negSucc m, .ofNat (n + 1) =>
  show m / (n + 1) + 1 ≤ m + 1
  have := Nat.div_le_self m (n + 1)
  omega
 | .negSucc m, .negSucc n => exact Nat.div_le_self _ _
theorem dlim_fdiv (x y : Int) : dlim (x.fdiv y) ≤ dlim x := by
 have h : (x.fdiv y).natAbs ≤ x.natAbs := fdiv_abs x y
 unfold dlim; exact zeq d2 h
theorem rout20_ret (g : Gr) (x : List Int) (k L M : Nat) (hL : L ≤ 90) (h : MOk g x M) (hd : DOk g L) (hd0 : 0 < g.den) (hk : k < g.n) (hs : SymM g.n (at2 g.P)) :
  Ret pg zdd [DGV g, ints x, .int .i64 k] (if defS k (gW g x k) = true then .tup [DGV (outG g x k), .int .i64 0] else .tup [DGV Gr0, .int .i64 80]) := by
 have hx := h.n
 have h11 := h.n11
 have h60 := h.rows
 have hst := stateB_iff.2 h.x
 have c := rstate_ret x (by omega)
 rw [hst] at c
 have hx' : (x.length : Int) = g.n := by omega
 obtain ⟨m1, m2, m3⟩ : (∀ i j, dlim (gW g x k i j) ≤ L + 110) ∧ (∀ i, dlim (gwQ g x k g.rows.length i) ≤ L + 110) ∧ dlim (gwC g x k g.rows.length) ≤ L + 110 := dlims h hd k (Nat.le_refl _)
 have cw := rwhole_ret g x k L M (by omega) h hd (by omega) (by omega)
 have hsW : SymM g.n (at2 (mat g.n (gW g x k))) := fun i j hi hj => by rw [zco hi hj, zco hj hi]; exact whole_sym hs _ _ _ _ i j hi hj
 have rngd : ∀ {n : Nat} {f : Nat → Int} {B : Nat}, (∀ i, dlim (f i) ≤ B) → ∀ i, dlim ((rowF n f).getD i 0) ≤ B := fun {n f B} h i => by
  unfold rowF
  rw [zfz]; split
  ·exact h i
  ·rw [zfp]; omega
 have co := rqwithout_big (mat g.n (gW g x k)) (rowF g.n (gwQ g x k g.rows.length)) (gwC g x k g.rows.length) g.n k (by omega) (by omega) (zef _ _) hsW (zal _ _) (fun a b => Nat.le_trans (dlim_at_mat (n := g.n) m1 a b) (by omega)) (fun a => by have := rngd (n := g.n) m2 a; omega) (by omega)
 unfold routV at co
 have ed : defS k (at2 (mat g.n (gW g x k))) = defS k (gW g x k) := zf4 fun i j hi hj => zco (by omega) (by omega)
 rw [ed] at co
 refine gimbalref20_Out.of rfl (W_b ?_)
 unfold gimbalref20_Out.k gimbalref20_Out.res Ot kp kd Og Oy Om Ol OL Oq Oi Oc On ci
 refine sgo ?_
 first | refine zaa (c) (by simp) ?_ | refine zab (c) (by simp) ?_
 simp -dsimp -implicitDefEqProofs (disch := try exact zdE) only [go_sem, hx']
 first | refine zaa (cw) (by simp) ?_ | refine zab (cw) (by simp) ?_
 refine sgo ?_
 cases hdf : defS k (gW g x k)
 ·rw [hdf, if_neg (by simp)] at co
  rw [if_neg (by simp), DGr0_eq]
  first | refine zaa (co) (by simp) ?_ | refine zab (co) (by simp) ?_
  exact sgo trivial
 ·rw [hdf, if_pos rfl] at co
  rw [if_pos rfl]
  have e1 : mat (g.n - k) (gP k (at2 (mat g.n (gW g x k)))) = mat (g.n - k) (gP k (gW g x k)) := zfn fun i j hi hj => gP_congr (by omega) (by omega) (by omega) fun i j hi hj => zco hi hj
  have e2 : rowF (g.n - k) (gQ k (at2 (mat g.n (gW g x k))) fun i => (rowF g.n (gwQ g x k g.rows.length)).getD i 0) = rowF (g.n - k) (gQ k (gW g x k) (gwQ g x k g.rows.length)) := zbm fun i hi => gQ_congr (n := g.n) (by omega) (by omega) (fun i j hi hj => zco hi hj) fun i hi => zbh hi
  have e3 : gC k (at2 (mat g.n (gW g x k))) (fun i => (rowF g.n (gwQ g x k g.rows.length)).getD i 0) (gwC g x k g.rows.length) = gC k (gW g x k) (gwQ g x k g.rows.length) (gwC g x k g.rows.length) := gC_congr (n := g.n) (by omega) (fun i j hi hj => zco hi hj) fun i hi => zbh hi
  have e4 : det k (at2 (mat g.n (gW g x k))) = det k (gW g x k) := zay fun i j hi hj => zco (by omega) (by omega)
  rw [e1, e2, e3, e4] at co
  clear e1 e2 e3 e4
  have hdt := defS_det hdf
  have l1024 := zbe (x := 1024) (by decide)
  have hkk : k * (L + 110 + k) ≤ 11 * 211 := Nat.mul_le_mul (by omega) (by omega)
  have sD : dlim (det k (gW g x k)) ≤ 2400 := by have := det_dlim (n := k) (M := gW g x k) (L := L + 110) fun i j _ _ => m1 i j; omega
  have sNum : ∀ (f : Nat → Int), (∀ i, dlim (f i) ≤ L + 110) → ∀ j, dlim (numF k (gW g x k) f j) ≤ 2400 := fun f hf j => by
   have := det_dlim (n := k) (M := setC (gW g x k) j f) (L := L + 110) fun a b _ _ => by unfold setC; split; exact hf a; exact m1 a b
   unfold numF; omega
  have sSum : ∀ f g : Nat → Int, (∀ i, dlim (f i) ≤ 2400) → (∀ i, dlim (g i) ≤ 2400) → dlim (sumZ (fun c => f c * g c) k) ≤ 4900 := fun f g hf hg => by
   have := zhr (f := fun c => f c * g c) (B := 4800) (n := k) fun i _ => by have := zba (f i) (g i); have := hf i; have := hg i; omega
   omega
  have sP : ∀ i j, dlim (gP k (gW g x k) i j) ≤ 5000 := fun i j => by
   have a1 := sSum (numF k (gW g x k) (gW g x k (k + i))) (gW g x k (k + j)) (sNum _ (m1 _)) (fun c => by have := m1 (k + j) c; omega)
   have a2 := zba (gW g x k (k + i) (k + j)) (det k (gW g x k))
   have a3 := m1 (k + i) (k + j)
   have a4 := dlim_sub (gW g x k (k + i) (k + j) * det k (gW g x k)) (sumZ (fun c => numF k (gW g x k) (gW g x k (k + i)) c * gW g x k (k + j) c) k)
   unfold gP; omega
  have sQ : ∀ i, dlim (gQ k (gW g x k) (gwQ g x k g.rows.length) i) ≤ 5000 := fun i => by
   have a1 := sSum (gW g x k (k + i)) (numF k (gW g x k) (gwQ g x k g.rows.length)) (fun c => by have := m1 (k + i) c; omega) (sNum _ m2)
   have a2 := zba (gwQ g x k g.rows.length (k + i)) (det k (gW g x k))
   have a3 := m2 (k + i)
   have a4 := dlim_sub (gwQ g x k g.rows.length (k + i) * det k (gW g x k)) (sumZ (fun c => gW g x k (k + i) c * numF k (gW g x k) (gwQ g x k g.rows.length) c) k)
   unfold gQ; omega
  have sC : dlim (gC k (gW g x k) (gwQ g x k g.rows.length) (gwC g x k g.rows.length)) ≤ 5000 := by
   have a1 := sSum (gwQ g x k g.rows.length) (numF k (gW g x k) (gwQ g x k g.rows.length)) (fun c => by have := m2 c; omega) (sNum _ m2)
   have a2 := zba (gwC g x k g.rows.length) (det k (gW g x k))
   have a4 := dlim_sub (gwC g x k g.rows.length * det k (gW g x k)) (sumZ (fun i => gwQ g x k g.rows.length i * numF k (gW g x k) (gwQ g x k g.rows.length) i) k)
   unfold gC; omega
  have hsd := hd.sd
  have dov := zba (g.den * 1024) (det k (gW g x k))
  have dd := zba g.den 1024
  have hov : ovM g x k ≠ 0 := Int.mul_ne_zero (by omega) (by omega)
  have eov : g.den * 1024 * det k (gW g x k) = ovM g x k := rfl
  rw [eov] at dov
  have cdn : ∀ y, dlim y ≤ 5000 → Ret pg zcj [DV y, DV (ovM g x k)] (DV (downF y (ovM g x k))) := fun y hy => rdown_ret y _ hov (by omega) (by omega)
  obtain ⟨m, em⟩ : ∃ m, m = g.n - k := ⟨_, rfl⟩
  have hsub : IntKind.i64.wrap ((g.n : Int) - k) = (m : Int) := by rw [IntWalk.i64_in _ (by omega)]; omega
  have hm0 : 0 < m := by omega
  rw [← em] at co
  first | refine zaa (co) (by simp) ?_ | refine zab (co) (by simp) ?_
  refine sgo ?_
  first | refine zaa (r_mul (g.den * 1024) (det k (gW g x k)) (by omega) (by omega)) (by simp) ?_ | refine zab (r_mul (g.den * 1024) (det k (gW g x k)) (by omega) (by omega)) (by simp) ?_
  simp -dsimp -implicitDefEqProofs (disch := try exact zdE) only [go_sem, hsub]
  first | refine zaa (r_of 1024 (by decide)) (by simp) ?_ | refine zab (r_of 1024 (by decide)) (by simp) ?_
  simp -dsimp -implicitDefEqProofs (disch := try exact zdE) only [go_sem, eov]
  first | refine zaa (cdn _ sC) (by simp) ?_ | refine zab (cdn _ sC) (by simp) ?_
  refine sgo ?_
  rw [← em]
  obtain ⟨GP, eGP⟩ : ∃ GP, GP = gP k (gW g x k) := ⟨_, rfl⟩
  obtain ⟨GQ, eGQ⟩ : ∃ GQ, GQ = gQ k (gW g x k) (gwQ g x k g.rows.length) := ⟨_, rfl⟩
  obtain ⟨GC, eGC⟩ : ∃ GC, GC = gC k (gW g x k) (gwQ g x k g.rows.length) (gwC g x k g.rows.length) := ⟨_, rfl⟩
  obtain ⟨ov, eo⟩ : ∃ ov, ov = ovM g x k := ⟨_, rfl⟩
  have eR : kpR g x k = rndP m GP ov := by unfold kpR; rw [← em, ← eGP, ← eo]
  rw [← eGP] at sP
  rw [← eGQ] at sQ
  rw [← eGC] at sC
  rw [← eo] at cdn dov
  rw [← eGC, ← eGP, ← eGQ, ← eo]
  clear co cw
  refine zap (T := Nat × V × V × Hp × Nat) (fun t => ⟨E [(2, .int .i64 k), (3, .pp (DGV g)), (6, .ptr 1 1 0 0), (10, .ptr 31 1 0 0), (11, .ptr 41 1 0 0), (14, .int .i64 m), (15, .ptr 60 1 0 0), (16, .ptr 67 1 0 0), (17, .int .i64 t.1)], t.2.2.2.1, t.2.2.2.2, t.2.2.2.2⟩)
   (fun t => t.1 ≤ m ∧ 70 ≤ t.2.2.2.2 ∧ t.2.2.2.1 1 = some ⟨[.agg [.int .i64 0, .nil, .nil, .nil, .bool false, .sl [], .bool false, .sl []]], 8⟩ ∧ t.2.2.2.1 31 = some ⟨[DV ov], 2⟩ ∧ t.2.2.2.1 41 = some ⟨[DQV (mat m GP) (rowF m GQ) GC], 4⟩ ∧ t.2.2.2.1 60 = some ⟨[.agg [.int .i64 m, .nil, .nil, .nil, .bool false, .sl [], .bool false, .sl (nats .i64 (digs 10 (Int.natAbs 1024)))]], 8⟩ ∧ t.2.2.2.1 67 = some ⟨[.agg [t.2.1, t.2.2.1, .bool (decide (downF GC ov < 0)), .sl (nats .i64 (digs 10 (downF GC ov).natAbs))]], 4⟩ ∧ Row 70 t.2.2.2.1 t.2.2.2.2 t.2.1 1 ((List.range t.1).map fun i => dvl (rowF m (rndP m GP ov i))) ∧ Row 70 t.2.2.2.1 t.2.2.2.2 t.2.2.1 2 ((rowF t.1 fun i => downF (GQ i) ov).map DV)) (fun t => m - t.1)
   (0, .nil, .nil, _, _) rfl ⟨zdo, zdo, rfl, rfl, rfl, rfl, rfl, Row.nil _ _ _ _, Row.nil _ _ _ _⟩ ?_
  generalize hcc : downF GC ov = cc
  rintro ⟨i, w1, w2, H, nx⟩ ⟨i1, i2, i3, i31, i41, i60, i4, i5, i6⟩
  dsimp only at i1 i2 i3 i31 i41 i60 i4 i5 i6
  obtain ⟨hwa1, hwc1, _, _⟩ := i5.flat
  obtain ⟨hwa2, hwc2, _, _⟩ := i6.flat
  have hsep : Sep w1 w2 := i5.not_row2 i6 (by decide)
  by_cases hi : i < m
  ·have gq : (rowF m GQ).getD i 0 = GQ i := zbh hi
   have hql := zal m GQ
   have hpl := zal m (GP i)
   have ml : (mat m GP).length = m := by simp [mat]
   have mr : (mat m GP).getD i [] = rowF m (GP i) := zeg [] hi
   have s1 := sQ i
   simp -dsimp -implicitDefEqProofs (disch := try exact zdE) only [go_sem, i31, i41, i4, hwa1, hwa2, gq]
   first | refine zaa (cdn _ s1) (by simp) ?_ | refine zab (cdn _ s1) (by simp) ?_
   simp -dsimp -implicitDefEqProofs (disch := try exact zdE) only [go_sem, i31, i41, i4, hwa1, hwa2, gq]
   refine zaq (lo := 70) (nx := nx) (H0 := H) (xs := (rowF i fun i => downF (GQ i) ov).map DV) i6 (by omega) rfl (by omega) (by omega) (by simp [rowOk, V.cells, V.cellOk, DV, V.isJunk]) (by decide) (by simp [rowF]; omega) (by simp [rowF]; omega) fun v2 H2 r1 r2 r3 r4 => ?_
   rw [zc3, show rowF i (fun i => downF (GQ i) ov) ++ [downF (GQ i) ov] = rowF (i + 1) (fun i => downF (GQ i) ov) from zat _ _] at r1
   have p1 := (r4 1 (by omega)).trans i3
   have p31 := (r4 31 (by omega)).trans i31
   have p41 := (r4 41 (by omega)).trans i41
   have p60 := (r4 60 (by omega)).trans i60
   have p67 := (r4 67 (by omega)).trans i4
   have p5 := (i5.same (H' := H) (nx' := nx) (fun _ _ => rfl) (by omega)).keep r3 hsep.symm (Nat.le_refl _)
   obtain ⟨b', hv2, c1, c3, c4⟩ := r1.own_of (by simp [rowF])
   have hv2' : v2 = .own b' (i + 1) := by rw [hv2, List.length_map, zal]
   subst hv2'
   simp -dsimp -implicitDefEqProofs (disch := try exact zdE) only [go_sem, p67, hwa1, hwa2]
   generalize hH3 : Hp.upd H2 67 _ = H3
   have k1 := zaf hH3 p1 (by omega)
   have k31 := zaf hH3 p31 (by omega)
   have k41 := zaf hH3 p41 (by omega)
   have k60 := zaf hH3 p60 (by omega)
   have k67 := za4 hH3
   have kb := zaf hH3 c4 (by omega)
   have g5 : Row 70 H3 nx w1 1 ((List.range i).map fun i => dvl (rowF m (rndP m GP ov i))) := by rw [← hH3]; exact p5.upd (by omega)
   clear r1 r2 r3 r4 p1 p31 p41 p60 p67 p5 c4 hH3 i3 i31 i41 i60 i4 i5 i6 hv2 hsep hwa2 hwc2
   have hN : 88 ≤ nx + 18 := by omega
   have hbN : b' < nx + 18 := by omega
   have g5' : Row 70 H3 (nx + 18) w1 1 ((List.range i).map fun i => dvl (rowF m (rndP m GP ov i))) := g5.same (fun _ _ => rfl) (by omega)
   have g6' : Row 70 H3 (nx + 18) (.own b' (i + 1)) 2 ((rowF (i + 1) fun i => downF (GQ i) ov).map DV) := .inr ⟨b', by rw [List.length_map, zal], c1, hbN, kb⟩
   have hsep2 : Sep w1 (.own b' (i + 1)) := g5'.not_row2 g6' (by decide)
   clear g5
   generalize nx + 18 = N at hN hbN g5' g6' ⊢
   refine zap (T := Nat × V × Hp × Nat) (fun t => ⟨E [(2, .int .i64 k), (3, .pp (DGV g)), (6, .ptr 1 1 0 0), (10, .ptr 31 1 0 0), (11, .ptr 41 1 0 0), (14, .int .i64 m), (15, .ptr 60 1 0 0), (16, .ptr 67 1 0 0), (17, .int .i64 i), (18, t.2.1), (19, .int .i64 t.1)], t.2.2.1, t.2.2.2, t.2.2.2⟩)
    (fun t => t.1 ≤ m ∧ N ≤ t.2.2.2 ∧ (∀ b, b < N → t.2.2.1 b = H3 b) ∧ Row N t.2.2.1 t.2.2.2 t.2.1 2 ((rowF t.1 (rndP m GP ov i)).map DV)) (fun t => m - t.1)
    (0, .nil, H3, _) rfl ⟨zdo, zdo, fun _ _ => rfl, Row.nil _ _ _ _⟩ ?_
   rintro ⟨j, u, H4, nx2⟩ ⟨j1, j2, j3, j4⟩
   dsimp only at j1 j2 j3 j4
   have q31 := (j3 31 (by omega)).trans k31
   have q41 := (j3 41 (by omega)).trans k41
   by_cases hj : j < m
   ·have gp : (rowF m (GP i)).getD j 0 = GP i j := zbh hj
    have s3 := sP i j
    simp -dsimp -implicitDefEqProofs (disch := try exact zdE) only [go_sem, q31, q41, ml, mr, gp]
    first | refine zaa (cdn _ s3) (by simp) ?_ | refine zab (cdn _ s3) (by simp) ?_
    simp -dsimp -implicitDefEqProofs (disch := try exact zdE) only [go_sem, q31, q41, ml, mr, gp]
    by_cases hij : i = j
    ·subst hij
     have er : downF (GP i i) ov - (m : Int) = rndP m GP ov i i := by unfold rndP; rw [if_pos rfl]
     have sdn : dlim (downF (GP i i) ov) ≤ 6000 := by
      have a1 := zba (GP i i) 1024
      have a2 := dlim_fdiv (GP i i * 1024) ov
      unfold downF; omega
     have dm := zbe (x := (m : Int)) (by omega)
     refine sgo ?_
     first | refine zaa (r_of (m : Int) (by omega)) (by simp) ?_ | refine zab (r_of (m : Int) (by omega)) (by simp) ?_
     refine sgo ?_
     first | refine zaa (r_sub (downF (GP i i) ov) (m : Int) (by omega) (by omega)) (by simp) ?_ | refine zab (r_sub (downF (GP i i) ov) (m : Int) (by omega) (by omega)) (by simp) ?_
     simp -dsimp -implicitDefEqProofs (disch := try exact zdE) only [go_sem, er]
     refine zaq (lo := N) (nx := nx2 + 14) (H0 := H4.upd (nx2 + 13) (some ⟨[DV (rndP m GP ov i i)], 2⟩)) (xs := (rowF i (rndP m GP ov i)).map DV) (j4.same (fun b hb => Hp.upd_ne _ _ (by omega)) (by omega)) (by omega) rfl (by omega) (by omega) (by simp [rowOk, V.cells, V.cellOk, DV, V.isJunk]) (by decide) (by simp [rowF]; omega) (by simp [rowF]; omega) fun v2 H6 r1 _ _ r4 => ?_
     rw [zc3, show rowF i (rndP m GP ov i) ++ [rndP m GP ov i i] = rowF (i + 1) (rndP m GP ov i) from zat _ _] at r1
     refine sgo ?_
     exact ⟨(i + 1, v2, H6, _), rfl, ⟨zdo, zdo, fun b hb => (r4 b hb).trans ((Hp.upd_ne _ _ (by omega)).trans (j3 b hb)), r1.same (fun _ _ => rfl) zdo⟩, zdo⟩
    ·have hij' : ¬ (i : Int) = j := by omega
     have er : downF (GP i j) ov = rndP m GP ov i j := by unfold rndP; rw [if_neg hij, Int.sub_zero]
     simp -dsimp -implicitDefEqProofs (disch := try exact zdE) only [go_sem, hij', er]
     refine zaq (lo := N) (nx := nx2 + 14) (H0 := H4.upd (nx2 + 13) (some ⟨[DV (rndP m GP ov i j)], 2⟩)) (xs := (rowF j (rndP m GP ov i)).map DV) (j4.same (fun b hb => Hp.upd_ne _ _ (by omega)) (by omega)) (by omega) rfl (by omega) (by omega) (by simp [rowOk, V.cells, V.cellOk, DV, V.isJunk]) (by decide) (by simp [rowF]; omega) (by simp [rowF]; omega) fun v2 H6 r1 _ _ r4 => ?_
     rw [zc3, show rowF j (rndP m GP ov i) ++ [rndP m GP ov i j] = rowF (j + 1) (rndP m GP ov i) from zat _ _] at r1
     refine sgo ?_
     exact ⟨(j + 1, v2, H6, _), rfl, ⟨zdo, zdo, fun b hb => (r4 b hb).trans ((Hp.upd_ne _ _ (by omega)).trans (j3 b hb)), r1.same (fun _ _ => rfl) zdo⟩, zdo⟩
   ·have hjm : j = m := by omega
    rw [hjm] at j4
    refine sgo ?_
    refine gh_row2 (lo := N) (ys := (rowF m (rndP m GP ov i)).map DV) 18 rfl (j4.same (fun _ _ => rfl) (by omega)) (za3 fun x => by simp) (fun p hp hne c hc => ?_) fun H5 hH5 => ?_
    ·simp only [List.mem_cons, List.not_mem_nil, or_false] at hp
     rcases hp with rfl | rfl | rfl | rfl | rfl | rfl | rfl | rfl | rfl | rfl | rfl | rfl <;> first | exact absurd rfl hne | (simp [V.sub]; done) | exact zgr (by omega)
    ·have e8 : V.sl ((rowF m (rndP m GP ov i)).map DV) = dvl (rowF m (rndP m GP ov i)) := rfl
     have hH5p : ∀ b blk, b < N → H4 b = some blk → (∀ x ∈ blk.elems, V.Pure x) → H5 b = some blk := fun b blk hb h hp => hH5 b blk hb h fun x hx c _ => zcf _ (hp x hx)
     have pz : ∀ b es y, b < 70 → (∀ c, 70 ≤ c → ∀ ys, V.sub (fz1 c ys) y = y) → H4 b = some ⟨[y], es⟩ → H5 b = some ⟨[y], es⟩ := fun b es y hb hy h => hH5 b _ (by omega) h fun x hx c hc => by
      simp only [List.mem_singleton] at hx
      rw [hx]; exact hy c (by omega) _
     have q1 := pz 1 _ _ (by omega) (fun c _ ys => by rw [zdy]; simp [V.sub]) ((j3 1 (by omega)).trans k1)
     have q31' := pz 31 _ _ (by omega) (fun c _ ys => sub_DV _ _) q31
     have q41' := pz 41 _ _ (by omega) (fun c _ ys => zcf _ (by simp [DQV])) q41
     have q60 := pz 60 _ _ (by omega) (fun c _ ys => by rw [zdy]; simp [V.sub]) ((j3 60 (by omega)).trans k60)
     have q67 : H5 67 = some ⟨[.agg [w1, .own b' (i + 1), .bool (decide (cc < 0)), .sl (nats .i64 (digs 10 cc.natAbs))]], 4⟩ := hH5 67 _ (by omega) ((j3 67 (by omega)).trans k67) fun x hx c hc => by
      simp only [List.mem_singleton] at hx
      subst hx
      rw [zdy]
      simp only [List.map_cons, List.map_nil, g5'.sub_ge hc, g6'.sub_ge hc]
      simp [V.sub]
     have q5 : Row 70 H5 nx2 w1 1 ((List.range i).map fun i => dvl (rowF m (rndP m GP ov i))) := (g5'.same (H' := H4) (nx' := N) j3 (Nat.le_refl _)).told (lo := N) (Nat.le_refl _) j2 (za3 fun x => by simp) hH5p
     have q6 : Row 70 H5 nx2 (.own b' (i + 1)) 2 ((rowF (i + 1) fun i => downF (GQ i) ov).map DV) := (g6'.same (H' := H4) (nx' := N) j3 (Nat.le_refl _)).told (lo := N) (Nat.le_refl _) j2 (za3 fun x => by simp) hH5p
     clear hH5 hH5p pz g5' g6' j3 j4 k1 k31 k41 k60 k67 kb q31 q41
     simp -dsimp -implicitDefEqProofs (disch := try exact zdE) only [go_sem, e8, q67, hwa1]
     refine zaq (lo := 70) (nx := nx2 + 6) (H0 := H5) (xs := (List.range i).map fun i => dvl (rowF m (rndP m GP ov i))) (q5.same (fun _ _ => rfl) (by omega)) (by omega) rfl (by omega) (by omega) (by simp [rowOk, V.cells, V.cellOk, V.isJunk, dvl]) (by decide) (by simp; omega) (by simp; omega) fun v3 H7 t1 t2 t3 t4 => ?_
     rw [zat (fun i => dvl (rowF m (rndP m GP ov i)))] at t1
     have u1 := (t4 1 (by omega)).trans q1
     have u31 := (t4 31 (by omega)).trans q31'
     have u41 := (t4 41 (by omega)).trans q41'
     have u60 := (t4 60 (by omega)).trans q60
     have u67 := (t4 67 (by omega)).trans q67
     have ub := ((q6.same (H' := H5) (nx' := nx2 + 6) (fun _ _ => rfl) (by omega)).keep t3 hsep2 (Nat.le_refl _)).own_at rfl
     obtain ⟨b3, hv3, x1, x3, x4⟩ := t1.own_of (by simp)
     rw [List.length_map, List.length_range] at hv3
     subst hv3
     clear t1 t2 t3 t4 q1 q31' q41' q60 q67 q5 q6
     simp -dsimp -implicitDefEqProofs (disch := try exact zdE) only [go_sem, u67, hwa1]
     generalize hH8 : Hp.upd H7 67 _ = H8
     exact ⟨(i + 1, _, _, H8, _), rfl, ⟨zdo, zdo, zaf hH8 u1 (by omega), zaf hH8 u31 (by omega), zaf hH8 u41 (by omega), zaf hH8 u60 (by omega), za4 hH8, .inr ⟨b3, by rw [List.length_map, List.length_range], x1, zdo, zaf hH8 x4 (by omega)⟩, .inr ⟨b', by rw [List.length_map, zal], c1, zdo, zaf hH8 ub (by omega)⟩⟩, zdo⟩
  ·have him : i = m := by omega
   subst him
   obtain ⟨b1, hv1, x1, x2, x3⟩ := i5.own_of (by simp; omega)
   obtain ⟨b2, hv2, y1, y2, y3⟩ := i6.own_of (by simp [rowF]; omega)
   rw [List.length_map, List.length_range] at hv1
   rw [List.length_map, zal] at hv2
   subst hv1 hv2
   have hb12 : b2 ≠ b1 := fun e => hsep b1 i i rfl (by rw [e])
   have sR : ∀ a b, dlim (rndP i GP ov a b) ≤ 6000 := fun a b => by
    have a1 := zba (GP a b) 1024
    have a2 := dlim_fdiv (GP a b * 1024) ov
    have a3 := sP a b
    have a4 := dlim_sub (downF (GP a b) ov) (if a = b then (i : Int) else 0)
    have a5 : dlim (if a = b then (i : Int) else 0) ≤ 20 := zbe (by split <;> omega)
    have a6 : dlim (downF (GP a b) ov) ≤ 5020 := by unfold downF; omega
    unfold rndP; omega
   have hdef := rdefinite_ret (L := 6000) (by omega) (mat i (rndP i GP ov)) i (by omega) (zef _ _) fun a b => dlim_at_mat (n := i) sR a b
   rw [zf4 fun a b ha hb => zco ha hb] at hdef
   have hmp : (mat i (rndP i GP ov)).map dvl = (List.range i).map fun k => dvl (rowF i (rndP i GP ov k)) := by unfold mat; rw [List.map_map]; rfl
   rw [hmp] at hdef
   simp -dsimp -implicitDefEqProofs (disch := try exact zdE) only [go_sem, i4, hwa1, hwc1]
   obtain ⟨gf, eg⟩ : ∃ gf, gf = fzl [(b1, (List.range i).map fun k => dvl (rowF i (rndP i GP ov k))), (b2, (rowF i fun k => downF (GQ k) ov).map DV)] := ⟨_, rfl⟩
   have g1 : gf b1 = some ((List.range i).map fun k => dvl (rowF i (rndP i GP ov k))) := by rw [eg]; simp [fzl]
   have g2 : gf b2 = some ((rowF i fun k => downF (GQ k) ov).map DV) := by rw [eg]; simp [fzl, hb12]
   have gn : ∀ b, b < 70 → gf b = none := fun b hb => by rw [eg]; simp only [fzl]; rw [if_neg (by omega), if_neg (by omega)]
   have gok : Fz H gf := by
    rw [eg]
    refine fzl_ok fun p hp => ?_
    simp only [List.mem_cons, List.not_mem_nil, or_false] at hp
    rcases hp with rfl | rfl
    ·exact ⟨⟨_, _, x3, by rw [List.map_map]; exact List.map_congr_left fun k _ => sub_dvl _ _⟩, za3 fun x => by simp⟩
    ·exact ⟨⟨_, _, y3, by rw [List.map_map]; exact List.map_congr_left fun k _ => sub_DV _ _⟩, za3 fun x => by simp⟩
   have s1 : V.sub gf (.own b1 i) = .sl ((List.range i).map fun k => dvl (rowF i (rndP i GP ov k))) := by simp [V.sub, g1]
   have s2 : V.sub gf (.own b2 i) = dvl (rowF i fun k => downF (GQ k) ov) := by simp [V.sub, g2, zal, dvl]
   have pp1 : V.sub gf (.ptr 1 1 0 0) = .ptr 1 1 0 0 := by simp [V.sub, gn]
   have pp31 : V.sub gf (.ptr 31 1 0 0) = .ptr 31 1 0 0 := by simp [V.sub, gn]
   have pp41 : V.sub gf (.ptr 41 1 0 0) = .ptr 41 1 0 0 := by simp [V.sub, gn]
   have pp60 : V.sub gf (.ptr 60 1 0 0) = .ptr 60 1 0 0 := by simp [V.sub, gn]
   have pp67 : V.sub gf (.ptr 67 1 0 0) = .ptr 67 1 0 0 := by simp [V.sub, gn]
   refine zfq gf gok (by simp only [List.map_cons, List.map_nil, s1]) hdef (by simp) ?_
   obtain ⟨G, eG⟩ : ∃ G, G = Hp.sub gf H := ⟨_, rfl⟩
   have v1 : G 1 = some ⟨[.agg [.int .i64 0, .nil, .nil, .nil, .bool false, .sl [], .bool false, .sl []]], 8⟩ := by rw [eG]; exact sub_at (gn 1 (by omega)) i3 (by simp [V.sub])
   have v60 : G 60 = some ⟨[.agg [.int .i64 i, .nil, .nil, .nil, .bool false, .sl [], .bool false, .sl (nats .i64 (digs 10 (Int.natAbs 1024)))]], 8⟩ := by rw [eG]; exact sub_at (gn 60 (by omega)) i60 (by simp [V.sub])
   have v67 : G 67 = some ⟨[DQV (mat i (rndP i GP ov)) (rowF i fun k => downF (GQ k) ov) cc], 4⟩ := by
    rw [eG]
    refine sub_at (gn 67 (by omega)) i4 ?_
    simp only [List.map_cons, List.map_nil, zdy, s1, s2, DQV, hmp]
    simp [V.sub]
   rw [← eG]
   clear eG gok x3 y3 i3 i31 i41 i60 i4 i5 i6
   have ed : (fun a b => rndP i GP ov a b) = rndP i GP ov := rfl
   rw [ed] at *
   simp -dsimp -implicitDefEqProofs (disch := try exact zdE) only [go_sem, pp1, pp31, pp41, pp60, pp67]
   have oP : (outG g x k).P = mat i (fun a b => if defS i (rndP i GP ov) = true then rndP i GP ov a b else 0) := by
    show mat (g.n - k) (kpP g x k) = _
    rw [← em]
    refine zfn fun a b _ _ => ?_
    unfold kpP kpD; rw [eR, ← em]
   have oQ : (outG g x k).Q = rowF i (fun a => if defS i (rndP i GP ov) = true then downF (GQ a) ov else 0) := by
    show rowF (g.n - k) (kpQ g x k) = _
    rw [← em]
    refine zbm fun a _ => ?_
    unfold kpQ kpD; rw [eR, ← em, ← eGQ, ← eo]
   have oC : (outG g x k).c = if defS i (rndP i GP ov) = true then cc else 0 := by
    show kpC g x k = _
    unfold kpC kpD; rw [eR, ← em, ← eGC, ← eo, hcc]
   have oN : (outG g x k).n = i := em.symm
   have oR : (outG g x k).rows = zc0 g.rows k := rfl
   have oD : (outG g x k).den = 1024 := rfl
   generalize outG g x k = og at oP oQ oC oN oR oD ⊢
   refine csel_join (fun env G nx => env 2 = .int .i64 k ∧ env 3 = .pp (DGV g) ∧ env 6 = .ptr 1 1 0 0 ∧ env 15 = .ptr 60 1 0 0 ∧ env 16 = .ptr 67 1 0 0 ∧ 70 ≤ nx ∧ G 1 = some ⟨[.agg [.int .i64 0, .nil, .nil, .nil, .bool false, .sl [], .bool false, .sl []]], 8⟩ ∧ G 60 = some ⟨[.agg [.int .i64 i, .nil, .nil, .nil, .bool false, .sl [], .bool false, .sl (nats .i64 (digs 10 (Int.natAbs 1024)))]], 8⟩ ∧ G 67 = some ⟨[DQV og.P og.Q og.c], 4⟩) (fun hdd => ?_) (fun hdd => ?_) ?_
   ·have hdd' : defS i (rndP i GP ov) = false := by simpa using hdd
    rw [hdd'] at oP oQ oC
    simp only [Bool.false_eq_true, if_false] at oP oQ oC
    refine sgo ?_
    first | refine zaa (rzero_ret i (by omega)) (by simp) ?_ | refine zab (rzero_ret i (by omega)) (by simp) ?_
    simp -dsimp -implicitDefEqProofs (disch := try exact zdE) only [go_sem, v67]
    exact ⟨by omega, v1, v60, by rw [oP, oQ, oC]⟩
   ·have hdd' : defS i (rndP i GP ov) = true := by simpa using hdd
    rw [hdd'] at oP oQ oC
    simp only [if_true] at oP oQ oC
    refine sgo ?_
    exact ⟨by omega, v1, v60, by rw [oP, oQ, oC]; exact v67⟩
   ·rintro env G2 nx2 ⟨f2, f3, f6, f15, f16, f70, f1, f60, f67⟩
    simp -dsimp -implicitDefEqProofs (disch := try exact zdE) only [go_sem, f2, f3, f6, f15, f16, f1, f60, f67]
    have k1 := (Hp.upd_ne G2 (some ⟨[.agg [.int .i64 i, .nil, .sl (og.P.map dvl), dvl og.Q, .bool (decide (og.c < 0)), .sl (nats .i64 (digs 10 og.c.natAbs)), .bool false, .sl (nats .i64 (digs 10 (Int.natAbs 1024)))]], 8⟩) (show 1 ≠ 60 by decide)).trans f1
    have k60 := Hp.upd_same G2 60 (some ⟨[.agg [.int .i64 i, .nil, .sl (og.P.map dvl), dvl og.Q, .bool (decide (og.c < 0)), .sl (nats .i64 (digs 10 og.c.natAbs)), .bool false, .sl (nats .i64 (digs 10 (Int.natAbs 1024)))]], 8⟩)
    generalize Hp.upd G2 60 (some ⟨[.agg [.int .i64 i, .nil, .sl (og.P.map dvl), dvl og.Q, .bool (decide (og.c < 0)), .sl (nats .i64 (digs 10 og.c.natAbs)), .bool false, .sl (nats .i64 (digs 10 (Int.natAbs 1024)))]], 8⟩) = G3 at k1 k60 ⊢
    clear f1 f60 f67
    refine zap (T := Nat × V × Hp × Nat) (fun t => ⟨E [(2, .int .i64 k), (3, .pp (DGV g)), (6, .ptr 1 1 0 0), (15, .ptr 60 1 0 0), (22, .int .i64 t.1)], t.2.2.1, t.2.2.2, t.2.2.2⟩)
     (fun t => t.1 ≤ g.rows.length ∧ 74 ≤ t.2.2.2 ∧ t.2.2.1 1 = some ⟨[.agg [.int .i64 0, .nil, .nil, .nil, .bool false, .sl [], .bool false, .sl []]], 8⟩ ∧ t.2.2.1 60 = some ⟨[.agg [.int .i64 i, t.2.1, .sl (og.P.map dvl), dvl og.Q, .bool (decide (og.c < 0)), .sl (nats .i64 (digs 10 og.c.natAbs)), .bool false, .sl (nats .i64 (digs 10 (Int.natAbs 1024)))]], 8⟩ ∧ Row 70 t.2.2.1 t.2.2.2 t.2.1 4 ((zc0 (g.rows.take t.1) k).map RV)) (fun t => g.rows.length - t.1)
     (0, .nil, G3, _) rfl ⟨zdo, zdo, k1, k60, Row.nil _ _ _ _⟩ ?_
    clear k1 k60
    rintro ⟨t, w, H2, nx3⟩ ⟨t1, t2, t3, t4, t5⟩
    dsimp only at t1 t2 t3 t4 t5
    obtain ⟨hwa, hwc, _, _⟩ := t5.flat
    by_cases ht : t < g.rows.length
    ·have hmr := zau default ht
     have hr4 := h.r _ hmr
     have hrl := hr4.len
     have ct := rtouches_ret _ k (by omega) (by omega : (g.rows.getD t default).co.length ≤ 1000000)
     have hstp := staysL_step (k := k) ht
     obtain ⟨r, er⟩ : ∃ r, r = g.rows.getD t default := ⟨_, rfl⟩
     rw [← er] at hr4 hrl ct hmr hstp
     simp -dsimp -implicitDefEqProofs (disch := try exact zdE) only [go_sem, ← er]
     first | refine zaa (ct) (by simp) ?_ | refine zab (ct) (by simp) ?_
     cases htc : zdg r k
     ·rw [htc, if_neg (by simp)] at hstp
      have hst' : (zc0 (g.rows.take (t + 1)) k).map RV = (zc0 (g.rows.take t) k).map RV ++ [RV (cutR k r)] := by rw [hstp, List.map_append]; rfl
      have ecut : V.agg [ints (List.drop k r.co), .int .i64 r.z, .int .i64 r.kn, .int .i64 r.w] = RV (cutR k r) := rfl
      simp -dsimp -implicitDefEqProofs (disch := try exact zdE) only [go_sem, ← er, slc_intsF (l := r.co) (k := k) (ki := .i64) (by omega), ecut]
      refine W_gh0 ?_
      obtain ⟨H3, eH3⟩ : ∃ H3 : Hp, H3 = H2.upd (nx3 + 20) (some ⟨[RV (cutR k r)], 4⟩) := ⟨_, rfl⟩
      have u1 := (show H3 1 = H2 1 by rw [eH3, Hp.upd_ne _ _ (by omega)]).trans t3
      have u60 := (show H3 60 = H2 60 by rw [eH3, Hp.upd_ne _ _ (by omega)]).trans t4
      have u24 : H3 (nx3 + 20) = some ⟨[RV (cutR k r)], 4⟩ := by rw [eH3, Hp.upd_same]
      have u5 : Row 70 H3 (nx3 + 32) w 4 ((zc0 (g.rows.take t) k).map RV) := t5.same (fun b hb => by rw [eH3, Hp.upd_ne _ _ (by omega)]) (by omega)
      rw [← eH3]
      clear eH3 t3 t4 t5
      simp -dsimp -implicitDefEqProofs (disch := try exact zdE) only [go_sem, u60, u24, hwa]
      have hsl := staysL_len (rows := g.rows) (i := t) (k := k)
      refine zaq (lo := 70) (nx := nx3 + 32) (H0 := H3) (xs := (zc0 (g.rows.take t) k).map RV) u5 (by omega) rfl (by omega) (by omega) (by simp [rowOk, V.cells, V.cellOk, V.isJunk, RV, ints]) (by decide) (by rw [List.length_map]; omega) (by rw [List.length_map]; omega) fun v3 H7 q1 q2 q3 q4 => ?_
      rw [← hst'] at q1
      have w1 := (q4 1 (by omega)).trans u1
      have w60 := (q4 60 (by omega)).trans u60
      obtain ⟨hva, hvc, hvs, _⟩ := q1.flat
      simp -dsimp -implicitDefEqProofs (disch := try exact zdE) only [go_sem, w60, hwa, hva, hvc, hvs]
      generalize hH8 : Hp.upd H7 60 _ = H8
      exact ⟨(t + 1, v3, H8, _), rfl, ⟨zdo, zdo, zaf hH8 w1 (by omega), za4 hH8, by dsimp only; rw [← hH8]; exact (q1.upd (by omega)).same (fun _ _ => rfl) (by omega)⟩, zdo⟩
     ·rw [htc, if_pos rfl, List.append_nil] at hstp
      refine sgo ?_
      exact ⟨(t + 1, w, H2, _), rfl, ⟨zdo, zdo, t3, t4, by dsimp only; rw [hstp]; exact t5.same (fun _ _ => rfl) (by omega)⟩, zdo⟩
    ·have hte : t = g.rows.length := by omega
     subst hte
     rw [List.take_length] at t5
     simp -dsimp -implicitDefEqProofs (disch := try exact zdE) only [go_sem, t3, t4, hwa, hwc]
     rw [(t5.upd (by omega)).frz (zdb fun x => rfl)]
     have ez : decide ((1024 : Int) < 0) = false := by decide
     simp only [Option.map_some, Option.bind_some, DGV, oN, oR, oD, ez, List.map_map]
     rfl
end Go.Gim
/- Leaving out is as the document says. -/
set_option maxRecDepth 100000
set_option maxHeartbeats 4000000
namespace Go.Gim
open Go.Proofs
theorem wholes20_ret (m : List (List Int)) (q : List Int) (c : Int) (hn : m.length ≤ 12) (hq : q.length = m.length) (hm : ∀ r ∈ m, r.length ≤ 12) (sm : ∀ r ∈ m, ∀ x ∈ r, dlim x ≤ 10000000) (sq : ∀ i, dlim (q.getD i 0) ≤ 10000000) (sc : dlim c ≤ 10000000) : Ret pg zcn [DQV m q c] (.str (bst (zhl m q c))) := by
 have hd := sm
 have hdq := sq
 have hll := linesT_len hm hd hdq
 have e59 : (⟨#[59]⟩ : ByteArray) = bst [59] := rfl
 have e32 : (⟨#[32]⟩ : ByteArray) = bst [32] := rfl
 refine gimballaw20_wholes.of rfl (W_b ?_)
 unfold gimballaw20_wholes.k gimballaw20_wholes.res Ot kp Om Ol OL Oq Oi Oc On ci
 simp -dsimp -implicitDefEqProofs (disch := try exact zdE) only [go_sem, bst_nil]
 refine zap (T := Nat × List Nat × Nat) (fun t => ⟨E [(1, .pp (DQV m q c)), (3, .str (bst t.2.1)), (4, .int .i64 t.1)], fun _ => none, t.2.2, t.2.2⟩) (fun t => t.1 ≤ m.length ∧ t.2.1 = linesT m q t.1) (fun t => m.length - t.1) (0, [], _) rfl ⟨zdo, by simp [linesT]⟩ ?_
 rintro ⟨i, z, nx⟩ ⟨i1, i2⟩
 dsimp only at i1 i2
 have hz := hll i i1
 rw [← i2] at hz
 by_cases hi : i < m.length
 ·have hr := zau [] hi
  have hrl := hm _ hr
  have hdr := hd _ hr
  have hnl := numsL_len hdr
  have hnl2 : (m.getD i []).length * (10000000 + 2) ≤ 12 * 10000002 := Nat.mul_le_mul_right _ hrl
  have sqi := sq i
  have hdqi := hdq i
  have hsu := linesT_succ m q i
  rw [← i2] at hsu
  generalize hX : m.getD i [] = r at *
  generalize hY : q.getD i 0 = y at *
  simp -dsimp -implicitDefEqProofs (disch := try exact zdE) only [go_sem, hX, bst_nil]
  refine zap (T := Nat × List Nat × Nat) (fun t => ⟨E [(1, .pp (DQV m q c)), (3, .str (bst t.2.1)), (4, .int .i64 i), (5, .int .i64 t.1)], fun _ => none, t.2.2, t.2.2⟩) (fun t => t.1 ≤ r.length ∧ t.2.1 = z ++ numsL (r.take t.1)) (fun t => r.length - t.1) (0, z, _) rfl ⟨zdo, by simp [numsL]⟩ ?_
  rintro ⟨j, z1, nx'⟩ ⟨j1, j2⟩
  dsimp only at j1 j2
  have hnj := numsL_len (r := r.take j) (fun x h => hdr x (List.mem_of_mem_take h))
  have hnj2 : (r.take j).length * (10000000 + 2) ≤ 12 * 10000002 := Nat.mul_le_mul_right _ (by rw [List.length_take]; omega)
  have hz1 : z1.length = z.length + (numsL (r.take j)).length := by rw [j2, List.length_append]
  by_cases hj : j < r.length
  ·have hv := zau 0 hj
   have htj := zci 0 hj
   have s2 := hdr _ hv
   have s3 := zhg (r.getD j 0)
   generalize hU : r.getD j 0 = u at *
   have a1 : strV .add (bst z1) (bst (decL u)) = some (.str (bst (z1 ++ decL u))) := zer (by omega)
   have a2 : strV .add (bst (z1 ++ decL u)) (bst [32]) = some (.str (bst ((z1 ++ decL u) ++ [32]))) := zer (by rw [List.length_append, List.length_singleton]; omega)
   have a3 : (z1 ++ decL u) ++ [32] = z ++ numsL (r.take (j + 1)) := by rw [htj, numsL_snoc, j2]; simp
   simp -dsimp -implicitDefEqProofs (disch := try exact zdE) only [go_sem, hX, hU]
   refine zaa (r_string u (by omega)) (by simp) ?_
   simp -dsimp -implicitDefEqProofs (disch := try exact zdE) only [go_sem, zhf, a1, e32, a2]
   exact ⟨(j + 1, z1 ++ (decL u ++ [32]), _), rfl, ⟨zdo, by dsimp only; rw [← a3]; simp⟩, zdo⟩
  ·have hje : j = r.length := by omega
   subst hje
   rw [List.take_length] at j2 hz1
   have s3 := zhg y
   have a1 : strV .add (bst z1) (bst [59]) = some (.str (bst (z1 ++ [59]))) := zer (by rw [List.length_singleton]; omega)
   have a2 : strV .add (bst (z1 ++ [59])) (bst (decL y)) = some (.str (bst ((z1 ++ [59]) ++ decL y))) := zer (by rw [List.length_append, List.length_singleton]; omega)
   have a4 : strV .add (bst (z1 ++ 59 :: decL y)) (bst [59]) = some (.str (bst (z1 ++ (59 :: (decL y ++ [59]))))) := by
    rw [zer (by simp only [List.length_append, List.length_cons, List.length_nil]; omega)]; simp
   have a3 : z1 ++ (59 :: (decL y ++ [59])) = linesT m q (i + 1) := by rw [hsu, j2]; unfold lineT; simp
   simp -dsimp -implicitDefEqProofs (disch := try exact zdE) only [go_sem, hX, hY, e59, a1]
   refine zaa (r_string y (by omega)) (by simp) ?_
   simp -dsimp -implicitDefEqProofs (disch := try exact zdE) only [go_sem, zhf, a2, e59, a4]
   exact ⟨(i + 1, _, _), rfl, ⟨zdo, by dsimp only; rw [← a3]⟩, zdo⟩
 ·have hie : i = m.length := by omega
  subst hie
  have s3 := zhg c
  have hdc := sc
  have a1 : strV .add (bst z) (bst (decL c)) = some (.str (bst (z ++ decL c))) := zer (by omega)
  have eT : zhl m q c = z ++ decL c := by rw [i2]; rfl
  rw [eT]
  refine sgo ?_
  first | refine zaa (r_string c (by omega)) (by simp) ?_ | refine zab (r_string c (by omega)) (by simp) ?_
  simp -dsimp -implicitDefEqProofs (disch := try exact zdE) only [go_sem, zhf, a1]
theorem MargPlays_true (n : Int) (rows : List Row4) (prior : List (List Int)) (den : Int) (x : List Int) (k : Int) (hn : In64 n) (hl : rows.length ≤ 9223372036854775807) (hr : ∀ r ∈ rows, r.co.length ≤ 9223372036854775807) (hpl : prior.length ≤ 9223372036854775807) (hp : ∀ r ∈ prior, r.length ≤ 9223372036854775807 ∧ ∀ v ∈ r, In64 v) (hden : In64 den) (hxl : x.length ≤ 9223372036854775807) (hxv : ∀ v ∈ x, In64 v) (hk : In64 k) :
  Ret pg zfm [.int .i64 n, .sl (rows.map RV), .sl (prior.map ints), .int .i64 den, ints x, .int .i64 k] (.bool true) := by
 have c1 := read20_ret n 5 den rows prior hl hr hpl hp hden
 have c2 := rstate_ret x hxl
 refine gimballaw20_MargPlays.of rfl (W_b ?_)
 unfold gimballaw20_MargPlays.k gimballaw20_MargPlays.res Ot kp kd Og Oh Oy Om OL On ci
 refine sgo ?_
 first | refine zaa (awake20_ret) (by simp) ?_ | refine zab (awake20_ret) (by simp) ?_
 refine sgo ?_
 first | refine zaa (c1) (by simp) ?_ | refine zab (c1) (by simp) ?_
 cases hrd : rd20B n 5 rows den
 ·exact sgo trivial
 obtain ⟨h1, h2, h3⟩ := rd20_ok.1 hrd
 obtain ⟨g1, g2, g3⟩ := gnewE_ok h1
 obtain ⟨m, rfl⟩ : ∃ m : Nat, n = m := ⟨n.toNat, by omega⟩
 have hG : rd20G m 5 rows prior den = ⟨m, rows, mirM prior m, List.replicate m 0, 0, den⟩ := by unfold rd20G; rw [if_pos hrd]; rfl
 obtain ⟨g, eg⟩ : ∃ g : Gr, g = ⟨m, rows, mirM prior m, List.replicate m 0, 0, den⟩ := ⟨_, rfl⟩
 rw [hG, ← eg]
 have gn : g.n = m := by rw [eg]
 have gr : g.rows = rows := by rw [eg]
 have gd : g.den = den := by rw [eg]
 have gP : g.P = mirM prior m := by rw [eg]
 have hd1 : DOk g 20 := ⟨fun i j => by rw [gP]; exact zbe (at2_in (fun r h => mirM_in (rows := prior) (fun r h => (hp r h).2) m r h) i j), fun i => by rw [eg]; show dlim ((List.replicate m 0).getD i 0) ≤ 20; rw [rep_get, zfp]; omega, by rw [eg]; show dlim 0 ≤ 20; rw [zfp]; omega, by rw [gd]; exact zbe hden⟩
 have gz1 : ((Gr0.n : Nat) : Int) = 0 := rfl
 have gz2 : Gr0.rows = [] := rfl
 have hs : SymM g.n (at2 g.P) := by rw [gP, gn]; exact mir_sym prior m
 refine sgo ?_
 by_cases hx : x.length = m ∧ zft x = true
 ·obtain ⟨hxm, hst⟩ := hx
  have ok : MOk g x 2 := { n := by rw [gn]; exact hxm.symm, n11 := by rw [gn]; omega, rows := by rw [gr]; exact g2, r := fun r hr => by rw [hxm]; rw [gr] at hr; exact rightB_iff.1 (g3 r hr), x := stateB_iff.1 hst, P := by rw [gP, gn]; exact mirM_sq _ _, Q := by rw [eg]; simp, sP := fun i j => by rw [gP]; exact zbp (at2_in (fun r h => mirM_in (rows := prior) (fun r h => (hp r h).2) m r h) i j), sQ := fun i => by rw [eg]; show lim ((List.replicate m 0).getD i 0) ≤ 2; rw [rep_get, za6]; omega, sc := by rw [eg]; show lim 0 ≤ 2; rw [za6]; omega, sd := by rw [gd]; exact zbp hden }
  have hxm' : (x.length : Int) = m := by omega
  rw [hst] at c2
  by_cases hkk : k < 0 ∨ m ≤ k
  ·have co := mout_bad2 g x k hxl (by rw [gn]; exact hxm) hst (by rw [gn]; exact hkk)
   have cr := rout_bad2 g x k hxl (by rw [gn]; exact hxm) hst (by rw [gn]; exact hkk)
   first | refine zaa (co) (by simp) ?_ | refine zab (co) (by simp) ?_
   refine sgo ?_
   first | refine zaa (cr) (by simp) ?_ | refine zab (cr) (by simp) ?_
   refine sgo ?_
   first | refine zaa (c2) (by simp) ?_ | refine zab (c2) (by simp) ?_
   rcases hkk with hk0 | hkm
   ·simp -dsimp -implicitDefEqProofs (disch := try exact zdE) only [go_sem, hxm', gz1, gz2]
   ·have hk0 : ¬ k < 0 := by omega
    simp -dsimp -implicitDefEqProofs (disch := try exact zdE) only [go_sem, hxm', gz1, gz2]
  ·obtain ⟨q, rfl⟩ : ∃ q : Nat, k = q := ⟨k.toNat, by omega⟩
   have hq : q < m := by omega
   have hp2 : 2 ^ q ≤ 16 := Nat.pow_le_pow_right (n := 2) (by decide) (show q ≤ 4 by omega)
   have hD : 2 ^ q * (2 + 66) ≤ 16 * 68 := Nat.mul_le_mul_right 68 hp2
   have hd0 : 0 < g.den := by rw [gd]; exact h3
   have co := mout_ret g x q 2 (16 * 68) ok (by rw [gn]; exact hq) hD (by omega) hd0
   have cr := rout20_ret g x q 20 2 (by omega) ok hd1 hd0 (by rw [gn]; exact hq) hs
   have cw := mwhole_ret g x q 2 (by omega) ok (by rw [gn]; omega)
   have crw := rwhole_ret g x q 20 2 (by omega) ok hd1 (by rw [gn]; omega) (by rw [gn]; omega)
   obtain ⟨l1, l2, l3⟩ : (∀ i j, lim (gW g x q i j) ≤ 67) ∧ (∀ i, lim (gwQ g x q g.rows.length i) ≤ 67) ∧ lim (gwC g x q g.rows.length) ≤ 67 := ok.lims q (Nat.le_refl _)
   obtain ⟨o1, o2, o3, o4, _⟩ := out_lim ok (by rw [gn]; exact hq) hD
   have hsd := hd1.sd
   have hlsd := ok.sd
   rw [gn] at cw crw
   have dl : ∀ z, lim z ≤ 10000 → dlim z ≤ 10000000 := fun z hz => by have := dlim_lim z; omega
   have wh : ∀ (N : Nat) (A : Mx) (B : Nat → Int) (C : Int), N ≤ 12 → (∀ i j, lim (A i j) ≤ 10000) → (∀ i, lim (B i) ≤ 10000) → lim C ≤ 10000 → Ret pg zbv [QV (mat N A) (rowF N B) C] (.str (bst (zhl (mat N A) (rowF N B) C))) ∧ Ret pg zcn [DQV (mat N A) (rowF N B) C] (.str (bst (zhl (mat N A) (rowF N B) C))) := fun N A B C hN hA hB hC =>
    ⟨whole20_ret _ _ _ (by simp [mat]; omega) (by simp [mat, rowF]) (mat_rows (by omega)) (mat_all fun i j => Nat.le_trans (hA i j) (by omega)) (fun i => Nat.le_trans (zfy (n := N) hB i) (by omega)) (by omega),
     wholes20_ret _ _ _ (by simp [mat]; omega) (by simp [mat, rowF]) (mat_rows (by omega)) (mat_all fun i j => dl _ (hA i j)) (fun i => dl _ (zfy (n := N) hB i)) (dl _ hC)⟩
   obtain ⟨ww1, ww2⟩ := wh m (gW g x q) (gwQ g x q g.rows.length) (gwC g x q g.rows.length) (by omega) (fun i j => by have := l1 i j; omega) (fun i => by have := l2 i; omega) (by omega)
   obtain ⟨wo1, wo2⟩ := wh (m - q) (kpP g x q) (kpQ g x q) (kpC g x q) (by omega) (fun i j => by have := o2 i j; omega) (fun i => by have := o3 i; omega) (by omega)
   have lov := zb4 g.den 1024
   have dov := zba g.den 1024
   have l1024 := zbp (x := 1024) (by decide)
   have d1024 := zbe (x := 1024) (by decide)
   have st1 := zfw (g.den * 1024) (by omega)
   have st2 := r_string (g.den * 1024) (by omega)
   have st3 := zfw 1024 (by omega)
   have oN : (outG g x q).n = m - q := by rw [← gn]; rfl
   have oR : (outG g x q).rows = zc0 rows q := by rw [← gr]; rfl
   have oP : (outG g x q).P = mat (m - q) (kpP g x q) := by rw [← gn]; rfl
   have oQ : (outG g x q).Q = rowF (m - q) (kpQ g x q) := by rw [← gn]; rfl
   have oC : (outG g x q).c = kpC g x q := rfl
   have oD : (outG g x q).den = 1024 := rfl
   have ssl := staysL_len (rows := rows) (i := rows.length) (k := q)
   rw [List.take_length] at ssl
   have cs := same20_ret (zc0 rows q) (zc0 rows q) (by omega) (by omega) (stays_co hr) (stays_co hr)
   rw [decide_eq_true rfl] at cs
   rw [← oP, ← oQ, ← oC] at wo1 wo2
   generalize zhl (mat m (gW g x q)) (rowF m (gwQ g x q g.rows.length)) (gwC g x q g.rows.length) = T1 at *
   generalize zhl (outG g x q).P (outG g x q).Q (outG g x q).c = T2 at *
   clear wh l1 l2 l3 o1 o2 o3 o4 dl
   have q2 : strV .eql (bst (decL 1024)) ⟨#[49, 48, 50, 52]⟩ = some (.bool true) := bst_eq (b := [49, 48, 50, 52]) (by rw [decL_decF (by decide)]; decide)
   cases hdf : defS q (gW g x q)
   ·rw [hdf, if_neg (by simp)] at co cr
    first | refine zaa (co) (by simp) ?_ | refine zab (co) (by simp) ?_
    refine sgo ?_
    first | refine zaa (cr) (by simp) ?_ | refine zab (cr) (by simp) ?_
    refine sgo ?_
    first | refine zaa (c2) (by simp) ?_ | refine zab (c2) (by simp) ?_
    simp -dsimp -implicitDefEqProofs (disch := try exact zdE) only [go_sem, hxm']
    first | refine zaa (cw) (by simp) ?_ | refine zab (cw) (by simp) ?_
    refine sgo ?_
    first | refine zaa (crw) (by simp) ?_ | refine zab (crw) (by simp) ?_
    refine sgo ?_
    first | refine zaa (st1) (by simp) ?_ | refine zab (st1) (by simp) ?_
    refine sgo ?_
    first | refine zaa (ww1) (by simp) ?_ | refine zab (ww1) (by simp) ?_
    refine sgo ?_
    first | refine zaa (ww2) (by simp) ?_ | refine zab (ww2) (by simp) ?_
    simp -dsimp -implicitDefEqProofs (disch := try exact zdE) only [go_sem, strV_neq]
    first | refine zaa (st2) (by simp) ?_ | refine zab (st2) (by simp) ?_
    simp -dsimp -implicitDefEqProofs (disch := try exact zdE) only [go_sem, strV_neq, gz1, gz2]
   ·rw [hdf, if_pos rfl] at co cr
    first | refine zaa (co) (by simp) ?_ | refine zab (co) (by simp) ?_
    refine sgo ?_
    first | refine zaa (cr) (by simp) ?_ | refine zab (cr) (by simp) ?_
    refine sgo ?_
    first | refine zaa (c2) (by simp) ?_ | refine zab (c2) (by simp) ?_
    simp -dsimp -implicitDefEqProofs (disch := try exact zdE) only [go_sem, hxm']
    first | refine zaa (cw) (by simp) ?_ | refine zab (cw) (by simp) ?_
    refine sgo ?_
    first | refine zaa (crw) (by simp) ?_ | refine zab (crw) (by simp) ?_
    refine sgo ?_
    first | refine zaa (st1) (by simp) ?_ | refine zab (st1) (by simp) ?_
    refine sgo ?_
    first | refine zaa (ww1) (by simp) ?_ | refine zab (ww1) (by simp) ?_
    refine sgo ?_
    first | refine zaa (ww2) (by simp) ?_ | refine zab (ww2) (by simp) ?_
    simp -dsimp -implicitDefEqProofs (disch := try exact zdE) only [go_sem, strV_neq]
    first | refine zaa (st2) (by simp) ?_ | refine zab (st2) (by simp) ?_
    generalize outG g x q = og at *
    simp -dsimp -implicitDefEqProofs (disch := try exact zdE) only [go_sem, strV_neq, oD]
    refine zaa st3 (by simp) ?_
    simp -dsimp -implicitDefEqProofs (disch := try exact zdE) only [go_sem, zhf, q2, oN]
    first | refine zaa (wo1) (by simp) ?_ | refine zab (wo1) (by simp) ?_
    simp -dsimp -implicitDefEqProofs (disch := try exact zdE) only [go_sem, zhf, q2, oN]
    first | refine zaa (wo2) (by simp) ?_ | refine zab (wo2) (by simp) ?_
    simp -dsimp -implicitDefEqProofs (disch := try exact zdE) only [go_sem, strV_same, oR]
    first | refine zaa (cs) (by simp) ?_ | refine zab (cs) (by simp) ?_
    exact sgo trivial
    done
 ·have hb : x.length ≠ g.n ∨ zft x = false := by
   rw [gn]
   rcases Decidable.em (x.length = m) with h | h
   ·exact .inr (by cases h2 : zft x; rfl; exact absurd ⟨h, h2⟩ hx)
   ·exact .inl h
  have co := mout_bad1 g x k hxl hb
  have cr := rout_bad1 g x k hxl hb
  rw [gn] at hb
  first | refine zaa (co) (by simp) ?_ | refine zab (co) (by simp) ?_
  refine sgo ?_
  first | refine zaa (cr) (by simp) ?_ | refine zab (cr) (by simp) ?_
  refine sgo ?_
  first | refine zaa (c2) (by simp) ?_ | refine zab (c2) (by simp) ?_
  rcases hb with hb | hb
  ·have hb' : ¬ (x.length : Int) = m := by omega
   simp -dsimp -implicitDefEqProofs (disch := try exact zdE) only [go_sem, hb', gz1, gz2]
  ·by_cases hb' : (x.length : Int) = m
   ·simp -dsimp -implicitDefEqProofs (disch := try exact zdE) only [go_sem, hb', hb, gz1, gz2]
   ·simp -dsimp -implicitDefEqProofs (disch := try exact zdE) only [go_sem, hb', gz1, gz2]
end Go.Gim

import Derived.Test.YtoehjhcfilonoaaGG
import Derived.Test.YtoehjhcfilonoaaCHR
import Derived.Test.YtoehjhcfilonoaaFA3
import Derived.Test.YtoehjhcfilonoaaGF
import Derived.Test.YtoehjhcfilonoaaRA1
/- A row is made, and laid behind the others. -/
set_option maxRecDepth 100000
set_option maxHeartbeats 4000000
set_option linter.unusedSimpArgs false
set_option linter.unusedVariables false
namespace Go.Gim
open Go.Proofs
def MkV (n : Int) (c : Cfg) (rv : V) : V := .agg [.int .i64 n, .int .i64 c.rate, .int .i64 c.step, .int .i64 c.keys, .int .i64 c.gap, .int .i64 c.turn, .int .i64 c.pull, .int .i64 c.k0, .int .i64 c.k1, .int .i64 c.k2, .int .i64 c.k3, .int .i64 c.w0, .int .i64 c.w1, .int .i64 c.w2, .int .i64 c.w3, .int .i64 c.rounds, .int .i64 c.raises, .int .i64 c.flat, rv]
def kneeC (c : Cfg) (s : Int) : Int := if s = 0 then c.k0 else if s = 1 then c.k1 else if s = 2 then c.k2 else c.k3
def wtC (c : Cfg) (s : Int) : Int := if s = 0 then c.w0 else if s = 1 then c.w1 else if s = 2 then c.w2 else c.w3
def setAll (l : List Int) : List (Nat × Int) → List Int
  | [] => l
  | (i, t) :: qs => setAll (l.set i t) qs
def flatQ : List (Nat × Int) → List Int
  | [] => []
  | (i, t) :: qs => (i : Int) :: t :: flatQ qs
def rowF (c : Cfg) (n : Nat) (s z : Int) (qs : List (Nat × Int)) : Row4 := ⟨setAll (List.replicate n 0) qs, z, kneeC c s, wtC c s⟩
theorem setAll_len (qs : List (Nat × Int)) : ∀ l, (setAll l qs).length = l.length := by
  induction qs with
  | nil => intro l; rfl
  | cons q qs ih => intro l; rw [setAll, ih, List.length_set]
theorem flatQ_len (qs : List (Nat × Int)) : (flatQ qs).length = 2 * qs.length := by
  induction qs with
  | nil => rfl
  | cons q qs ih => obtain ⟨i, t⟩ := q; simp [flatQ, ih]; omega
theorem flatQ_get (qs : List (Nat × Int)) : ∀ j, j < qs.length → (flatQ qs).getD (2 * j) 0 = ((qs.getD j (0, 0)).1 : Nat) ∧ (flatQ qs).getD (2 * j + 1) 0 = (qs.getD j (0, 0)).2 := by
  induction qs with
  | nil => intro j h; simp at h
  | cons q qs ih =>
    obtain ⟨i, t⟩ := q
    intro j h
    cases j with
    | zero => simp [flatQ]
    | succ j =>
      have := ih j (by simpa using h)
      rw [show 2 * (j + 1) = 2 * j + 1 + 1 by omega]
      simpa [flatQ] using this
theorem setAll_snoc (qs : List (Nat × Int)) (q : Nat × Int) : ∀ l, setAll l (qs ++ [q]) = (setAll l qs).set q.1 q.2 := by
  induction qs with
  | nil => intro l; rfl
  | cons p qs ih => intro l; simp only [List.cons_append, setAll, ih]
theorem MkV_len (n : Int) (c : Cfg) (rv : V) : (MkV n c rv).cells.length = 19 := rfl
theorem MkV_isAgg (n : Int) (c : Cfg) (rv : V) : (MkV n c rv).isAgg = true := rfl
theorem MkV_isJunk (n : Int) (c : Cfg) (rv : V) : (MkV n c rv).isJunk = false := rfl
theorem MkV_n (n : Int) (c : Cfg) (rv : V) : (MkV n c rv).cells[0]? = some (.int .i64 n) := rfl
theorem MkV_k (n : Int) (c : Cfg) (rv : V) {s : Int} (h : s = 0 ∨ s = 1 ∨ s = 2 ∨ s = 3) : (MkV n c rv).cells[7 + s.toNat]? = some (.int .i64 (kneeC c s)) := by
  rcases h with rfl | rfl | rfl | rfl <;> rfl
theorem MkV_w (n : Int) (c : Cfg) (rv : V) {s : Int} (h : s = 0 ∨ s = 1 ∨ s = 2 ∨ s = 3) : (MkV n c rv).cells[11 + s.toNat]? = some (.int .i64 (wtC c s)) := by
  rcases h with rfl | rfl | rfl | rfl <;> rfl
theorem MkV_r (n : Int) (c : Cfg) (rv : V) : (MkV n c rv).cells[18]? = some rv := rfl
theorem mrow_G (n : Nat) (c : Cfg) (s z : Int) (hs : s = 0 ∨ s = 1 ∨ s = 2 ∨ s = 3) (qs : List (Nat × Int)) (hq : qs.length ≤ 3) (hqn : ∀ q ∈ qs, q.1 < n) (hn : n ≤ 11) (H : Hp) (n0 bm bp : Nat) (rv : V) (lo : Nat) (rows : List Row4)
    (hbm : bm < lo) (hlo : lo ≤ n0) (hbp : bp < n0) (hne : bp ≠ bm) (hM : H bm = some ⟨[MkV n c rv], 19⟩) (hR : Row lo H n0 rv 4 (rows.map RV)) (hpr : ∀ k, rv ≠ .own bp k) (hP : H bp = some ⟨(flatQ qs).map (V.int .i64), 1⟩) (hrl : rows.length ≤ 1000000) :
    ∃ r H' n', (∃ rv', H' bm = some ⟨[MkV n c rv'], 19⟩ ∧ Row lo H' n' rv' 4 ((rows ++ [rowF c n s z qs]).map RV) ∧ n0 ≤ n') ∧ RetG pg n_factor_maker_row [.ptr bm 1 0 0, .int .i64 s, .int .i64 z, .own bp (2 * qs.length)] H n0 r H' n' := by
  have hk7 : (7 + (s.toNat + 1) ≤ 19) = True := eq_true (by omega)
  have hk11 : (11 + (s.toNat + 1) ≤ 19) = True := eq_true (by omega)
  have hs0 : 0 ≤ s := by omega
  have hs4 : s < ((4 : Nat) : Int) := by omega
  refine factor_maker_row.ofG rfl (W_b ?_)
  unfold factor_maker_row.k factor_maker_row.res
  simp -dsimp -implicitDefEqProofs (disch := (first | assumption | omega | (simp only [nats_len, List.length_map, List.length_set, List.length_replicate, List.length_append, List.length_range, upto_len, els_len, List.length_cons, List.length_nil] <;> omega) | (apply isPure_intro <;> simp))) only [go_sem, hM, hP, MkV_len, MkV_isAgg, MkV_n, MkV_k _ _ _ hs, MkV_w _ _ _ hs, newV_mkI, Nat.mul_one, hk7, hk11]
  have hrest : ∀ b, b < n0 → ((H.upd (n0 + 4) (some ⟨(List.replicate n 0).map (V.int .i64), 1⟩)).upd (n0 + 21) (some ⟨[V.agg [.own (n0 + 4) n, .int .i64 z, .int .i64 (kneeC c s), .int .i64 (wtC c s)]], 4⟩)) b = H b := fun b hb => by
    rw [Hp.upd_ne _ _ (by omega), Hp.upd_ne _ _ (by omega)]
  generalize hG0 : (H.upd (n0 + 4) (some ⟨(List.replicate n 0).map (V.int .i64), 1⟩)).upd (n0 + 21) (some ⟨[V.agg [.own (n0 + 4) n, .int .i64 z, .int .i64 (kneeC c s), .int .i64 (wtC c s)]], 4⟩) = G0 at hrest ⊢
  have g21 : G0 (n0 + 21) = some ⟨[V.agg [.own (n0 + 4) n, .int .i64 z, .int .i64 (kneeC c s), .int .i64 (wtC c s)]], 4⟩ := upd_at_same hG0
  have g4 : G0 (n0 + 4) = some ⟨(List.replicate n 0).map (V.int .i64), 1⟩ := by rw [← hG0, Hp.upd_ne _ _ (by omega), Hp.upd_same]
  clear hG0
  refine W_loop (T := Nat × Hp × Nat) (fun t => ⟨E [(0, .ptr bm 1 0 0), (3, .own bp (2 * qs.length)), (8, .ptr (n0 + 21) 1 0 0), (9, .int .i64 ((2 * t.1 : Nat) : Int))], t.2.1, t.2.2, t.2.2⟩)
    (fun t => t.1 ≤ qs.length ∧ n0 + 24 ≤ t.2.2 ∧ t.2.1 (n0 + 21) = some ⟨[V.agg [.own (n0 + 4) n, .int .i64 z, .int .i64 (kneeC c s), .int .i64 (wtC c s)]], 4⟩ ∧ t.2.1 (n0 + 4) = some ⟨(setAll (List.replicate n 0) (qs.take t.1)).map (V.int .i64), 1⟩ ∧ ∀ b, b < n0 → t.2.1 b = H b)
    (fun t => qs.length - t.1) (0, G0, _) rfl ⟨by dsimp only; omega, by dsimp only; omega, g21, by simpa [setAll] using g4, hrest⟩ ?_
  clear g21 g4 hrest G0
  rintro ⟨j, G, nx⟩ ⟨j1, j2, j3, j4, j5⟩
  dsimp only at j1 j2 j3 j4 j5
  have gM := (j5 bm (by omega)).trans hM
  have gP := (j5 bp (by omega)).trans hP
  have fl := flatQ_len qs
  by_cases hj : j < qs.length
  · obtain ⟨f1, f2⟩ := flatQ_get qs j hj
    have hsl : (setAll (List.replicate n 0) (qs.take j)).length = n := by rw [setAll_len, List.length_replicate]
    generalize hq0 : qs.getD j (0, 0) = q at f1 f2
    have hqm : q ∈ qs := by rw [← hq0]; simp [List.getD_eq_getElem?_getD, hj]
    have hqlt := hqn q hqm
    have e1 : ((2 * j : Nat) : Int) + 1 = ((2 * j + 1 : Nat) : Int) := by omega
    have e2 : ((2 * j : Nat) : Int) + 2 = ((2 * (j + 1) : Nat) : Int) := by omega
    simp -dsimp -implicitDefEqProofs (disch := (first | assumption | omega | (simp only [nats_len, List.length_map, List.length_set, List.length_replicate, List.length_append, List.length_range, upto_len, els_len, List.length_cons, List.length_nil] <;> omega) | (apply isPure_intro <;> simp))) only [go_sem, j3, j4, gP, e1, e2, f1, f2, hsl, loadO_intt, storeO_int, Int.toNat_natCast]
    generalize hG2 : Hp.upd G (n0 + 4) _ = G2
    have htk : setAll (List.replicate n 0) (qs.take (j + 1)) = (setAll (List.replicate n 0) (qs.take j)).set q.1 q.2 := by rw [take_getD (0, 0) hj, setAll_snoc, hq0]
    exact ⟨(j + 1, G2, _), rfl, ⟨by dsimp only; omega, by dsimp only; omega, upd_at_ne hG2 j3 (by omega), by dsimp only; rw [htk]; exact upd_at_same hG2, fun b hb => by dsimp only; rw [← hG2, Hp.upd_ne _ _ (by omega)]; exact j5 b hb⟩, by dsimp only; omega⟩
  · obtain rfl : j = qs.length := by omega
    simp -dsimp -implicitDefEqProofs (disch := (first | assumption | omega | (simp only [nats_len, List.length_map, List.length_set, List.length_replicate, List.length_append, List.length_range, upto_len, els_len, List.length_cons, List.length_nil] <;> omega) | (apply isPure_intro <;> simp))) only [go_sem, j3, j4, gP, gM]
    rw [List.take_length] at j4
    have hRG : Row lo G n0 rv 4 (rows.map RV) := by
      rcases hR with h | ⟨b, h1, h2, h3, h4⟩
      · exact .inl h
      · exact .inr ⟨b, h1, h2, h3, (j5 b h3).trans h4⟩
    have hrvn : ∀ k, rv ≠ .own (n0 + 4) k := fun k hk => by
      rcases hR with ⟨h, _⟩ | ⟨b, h1, h2, h3, h4⟩
      · rw [h] at hk; cases hk
      · rw [h1] at hk; cases hk; omega
    generalize hL : setAll (List.replicate n 0) qs = L at j4
    have hLl : L.length = n := by rw [← hL, setAll_len, List.length_replicate]
    refine gh_fz1 (n0 + 4) (L.map (V.int .i64)) j4 pure_ints rfl ?_
    obtain ⟨rG, rS⟩ := hRG.sub (c := n0 + 4) (ys := L.map (V.int .i64)) (pure_map RV_pure) hrvn
    have m21 : (G.sub (fz1 (n0 + 4) (L.map (V.int .i64)))) (n0 + 21) = some ⟨[RV (rowF c n s z qs)], 4⟩ := sub_at (fz1_ne (by omega)) j3 (by
      simp only [List.map_cons, List.map_nil, sub_agg, sub_c_own, sub_c_int, fz1, if_true, subO, List.length_map, hLl]
      unfold RV rowF; rw [hL]; rfl)
    have mM : (G.sub (fz1 (n0 + 4) (L.map (V.int .i64)))) bm = some ⟨[MkV n c rv], 19⟩ := sub_at (fz1_ne (by omega)) gM (by
      unfold MkV
      simp only [List.map_cons, List.map_nil, sub_agg, sub_c_int, rS])
    generalize hG3 : G.sub (fz1 (n0 + 4) (L.map (V.int .i64))) = G3 at rG m21 mM ⊢
    clear hG3 j3 j4 j5 gM gP
    obtain ⟨v1, v2, v3, v4⟩ := hRG.flat
    simp -dsimp -implicitDefEqProofs (disch := (first | assumption | omega | (simp only [nats_len, List.length_map, List.length_set, List.length_replicate, List.length_append, List.length_range, upto_len, els_len, List.length_cons, List.length_nil] <;> omega) | (apply isPure_intro <;> simp))) only [go_sem, m21, mM, MkV_len, MkV_isAgg, MkV_r, v1]
    refine effB_row rG hlo rfl (by omega) (by omega) rfl (by omega) (by simp; omega) (by simp; omega) fun v' H4 r1 r2 r3 r4 => ?_
    have mM4 := (r4 bm hbm).trans mM
    obtain ⟨w1, w2, w3, w4⟩ := r1.flat
    simp -dsimp -implicitDefEqProofs (disch := (first | assumption | omega | (simp only [nats_len, List.length_map, List.length_set, List.length_replicate, List.length_append, List.length_range, upto_len, els_len, List.length_cons, List.length_nil] <;> omega) | (apply isPure_intro <;> simp))) only [go_sem, mM4, MkV_len, MkV_isAgg, w1, w2, w3, w4]
    exact ⟨_, rfl, by dsimp only; omega, v', Hp.upd_same _ _ _, by
      rw [List.map_append]; exact (r1.upd hbm).same (fun _ _ => rfl) (by dsimp only; omega), by dsimp only; omega⟩
end Go.Gim
/- A key's rows. -/
set_option maxRecDepth 100000
set_option maxHeartbeats 4000000
set_option linter.unusedSimpArgs false
set_option linter.unusedVariables false
namespace Go.Gim
open Go.Proofs
theorem W_cut {P : Program} {a b : K} {Q : AX → St → Prop} {u : Dep Q} {S : St} (I : St → Prop) (h1 : Wb P a (fun x S' => x = .normal ∧ I S') dp S) (h2 : ∀ S', I S' → Wb P b Q u S') : Wb P (.seq a b) Q u S := by
  refine W_mono (Q1 := fun x S' => x = .normal ∧ I S') (Q2 := AX.then (W P b Q) Q) (fun x S' hx => ?_) h1
  obtain ⟨rfl, hi⟩ := hx
  exact h2 S' hi
theorem W_hide3 {P : Program} {a b c R0 : K} {Q : AX → St → Prop} {u : Dep Q} {S : St} (h : ∀ R, R = R0 → Wb P (.seq a (.seq b (.seq c R))) Q u S) : Wb P (.seq a (.seq b (.seq c R0))) Q u S := h _ rfl
theorem MkV_rate (n : Int) (c : Cfg) (rv : V) : (MkV n c rv).cells[1]? = some (.int .i64 c.rate) := rfl
attribute [local go_sem] MkV_len MkV_isAgg MkV_isJunk MkV_n MkV_rate
structure Key9 where
  place : Bool
  speed : Bool
  height : Bool
  p : Int
  v : Int
  h : Int
  dv : Int
  dp : Int
  ticks : Int
def KV (k : Key9) : V := .agg [.bool k.place, .bool k.speed, .bool k.height, .int .i64 k.p, .int .i64 k.v, .int .i64 k.h, .int .i64 k.dv, .int .i64 k.dp, .int .i64 k.ticks]
@[simp] theorem KV_pure (k) : (KV k).Pure := by simp [KV]
@[simp] theorem KV_isJunk (k) : (KV k).isJunk = false := rfl
def has (b : Bool) (l : List Row4) : List Row4 := if b then l else []
def keyA (c : Cfg) (n i : Nat) (k : Key9) : List Row4 := has (decide (0 < i) && decide (1 ≤ k.ticks)) [rowF c n 0 (c.rate * k.dp) [(2 * i, c.rate), (2 * i - 2, -c.rate), (2 * i - 1, -k.ticks)], rowF c n 0 k.dv [(2 * i + 1, 1), (2 * i - 1, -1)]]
def keyRows (c : Cfg) (n i : Nat) (k : Key9) : List Row4 := keyA c n i k ++ has k.place [rowF c n 1 k.p [(2 * i, 1)]] ++ has k.speed [rowF c n 1 k.v [(2 * i + 1, 1)]] ++ has k.height [rowF c n 2 k.h [(2 * i, 1), (n - 1, 1)]]
structure KeyOk (k : Key9) : Prop where
  p : -100000 ≤ k.p ∧ k.p ≤ 100000
  v : -100000 ≤ k.v ∧ k.v ≤ 100000
  h : -100000 ≤ k.h ∧ k.h ≤ 100000
  dv : -100000 ≤ k.dv ∧ k.dv ≤ 100000
  dp : -100000 ≤ k.dp ∧ k.dp ≤ 100000
  t : k.ticks ≤ 1000
theorem Row.ne_own {lo nx es b : Nat} {H : Hp} {v : V} {xs : List V} (h : Row lo H nx v es xs) (hb : nx ≤ b) : ∀ k, v ≠ .own b k := fun k hk => by
  rcases h with ⟨h, _⟩ | ⟨d, h1, h2, h3, h4⟩
  · rw [h] at hk; cases hk
  · rw [h1] at hk; cases hk; omega
theorem mkey_G (n i : Nat) (c : Cfg) (k : Key9) (hc : 1 ≤ c.rate ∧ c.rate ≤ 1000) (hk : KeyOk k) (hi : 2 * i + 3 ≤ n) (hn : n ≤ 11) (H : Hp) (n0 bm : Nat) (rv : V) (lo : Nat) (rows : List Row4)
    (hbm : bm < lo) (hlo : lo ≤ n0) (hM : H bm = some ⟨[MkV n c rv], 19⟩) (hR : Row lo H n0 rv 4 (rows.map RV)) (hrl : rows.length ≤ 100000) :
    ∃ r H' n', (∃ rv', H' bm = some ⟨[MkV n c rv'], 19⟩ ∧ Row lo H' n' rv' 4 ((rows ++ keyRows c n i k).map RV) ∧ n0 ≤ n') ∧ RetG pg n_factor_maker_key [.ptr bm 1 0 0, .int .i64 (i : Int), KV k] H n0 r H' n' := by
  refine factor_maker_key.ofG rfl (W_b ?_)
  unfold factor_maker_key.k factor_maker_key.res
  have e0 : (2 : Int) * (i : Int) = ((2 * i : Nat) : Int) := by omega
  have e1 : (n : Int) - 1 = ((n - 1 : Nat) : Int) := by omega
  refine W_hide3 fun R hR0 => ?_
  simp -dsimp -implicitDefEqProofs (disch := (first | assumption | omega | (simp only [nats_len, List.length_map, List.length_set, List.length_replicate, List.length_append, List.length_range, upto_len, els_len, List.length_cons, List.length_nil] <;> omega) | (apply isPure_intro <;> simp))) only [go_sem, hM, MkV_len, MkV_isAgg, MkV_n, e0, e1]
  subst hR0
  refine W_cut (fun S' => ∃ H' nx rv' e, S' = ⟨E ((0, .ptr bm 1 0 0) :: (5, .pp (KV k)) :: (6, .int .i64 ((2 * i : Nat) : Int)) :: (7, .int .i64 ((n - 1 : Nat) : Int)) :: e), H', nx, nx⟩ ∧ H' bm = some ⟨[MkV n c rv'], 19⟩ ∧ Row lo H' nx rv' 4 ((rows ++ keyA c n i k).map RV) ∧ n0 ≤ nx) ?_ ?_
  · unfold KV
    by_cases h1 : 0 < (i : Int)
    · by_cases h2 : 1 ≤ k.ticks
      · have hb : -100000000 ≤ c.rate * k.dp ∧ c.rate * k.dp ≤ 100000000 := by
          have := prod_bd (a := c.rate) (b := k.dp) (A := 1000) (B := 100000) (by omega) hk.dp
          omega
        have ht := hk.t
        have e2 : ((2 * i : Nat) : Int) - 2 = ((2 * i - 2 : Nat) : Int) := by omega
        have e3 : ((2 * i : Nat) : Int) - 1 = ((2 * i - 1 : Nat) : Int) := by omega
        have e4 : ((2 * i : Nat) : Int) + 1 = ((2 * i + 1 : Nat) : Int) := by omega
        simp -dsimp -implicitDefEqProofs (disch := (first | assumption | omega | (simp only [nats_len, List.length_map, List.length_set, List.length_replicate, List.length_append, List.length_range, upto_len, els_len, List.length_cons, List.length_nil] <;> omega) | (apply isPure_intro <;> simp))) only [go_sem, hM, h1, h2, e2, e3, e4, Int.zero_sub]
        obtain ⟨r1, H1, n1, ⟨rv1, a1, a2, a3⟩, hc1⟩ := mrow_G n c 0 (c.rate * k.dp) (.inl rfl) [(2 * i, c.rate), (2 * i - 2, -c.rate), (2 * i - 1, -k.ticks)] (by simp) (by simp; omega) hn (H.upd (n0 + 45) (some ⟨(flatQ [(2 * i, c.rate), (2 * i - 2, -c.rate), (2 * i - 1, -k.ticks)]).map (V.int .i64), 1⟩)) (n0 + 47) bm (n0 + 45) rv lo rows hbm (by omega) (by omega) (by omega) (by rw [Hp.upd_ne _ _ (by omega)]; exact hM) (hR.same (fun b hb => Hp.upd_ne _ _ (by omega)) (by omega)) (hR.ne_own (by omega)) (Hp.upd_same _ _ _) (by omega)
        refine callB_G hc1 ?_
        simp -dsimp -implicitDefEqProofs (disch := (first | assumption | omega | (simp only [nats_len, List.length_map, List.length_set, List.length_replicate, List.length_append, List.length_range, upto_len, els_len, List.length_cons, List.length_nil] <;> omega) | (apply isPure_intro <;> simp))) only [go_sem, a1]
        obtain ⟨r2, H2, n2, ⟨rv2, b1, b2, b3⟩, hc2⟩ := mrow_G n c 0 k.dv (.inl rfl) [(2 * i + 1, 1), (2 * i - 1, -1)] (by simp) (by simp; omega) hn (H1.upd (n1 + 7) (some ⟨(flatQ [(2 * i + 1, 1), (2 * i - 1, -1)]).map (V.int .i64), 1⟩)) (n1 + 9) bm (n1 + 7) rv1 lo _ hbm (by omega) (by omega) (by omega) (by rw [Hp.upd_ne _ _ (by omega)]; exact a1) (a2.same (fun b hb => Hp.upd_ne _ _ (by omega)) (by omega)) (a2.ne_own (by omega)) (Hp.upd_same _ _ _) (by simp; omega)
        refine callB_G hc2 ?_
        simp -dsimp -implicitDefEqProofs (disch := (first | assumption | omega | (simp only [nats_len, List.length_map, List.length_set, List.length_replicate, List.length_append, List.length_range, upto_len, els_len, List.length_cons, List.length_nil] <;> omega) | (apply isPure_intro <;> simp))) only [go_sem, b1]
        have h1' : 0 < i := by omega
        exact ⟨H2, _, rv2, _, rfl, b1, by simpa [keyA, has, h1', h2, List.append_assoc] using b2, by omega⟩
      · simp -dsimp -implicitDefEqProofs (disch := (first | assumption | omega | (simp only [nats_len, List.length_map, List.length_set, List.length_replicate, List.length_append, List.length_range, upto_len, els_len, List.length_cons, List.length_nil] <;> omega) | (apply isPure_intro <;> simp))) only [go_sem, hM, h1, h2]
        refine ⟨_, _, rv, _, rfl, hM, ?_, ?_⟩
        · refine Row.same (nx := n0) ?_ (fun _ _ => rfl) (by omega)
          simpa [keyA, has, h2] using hR
        · omega
    · simp -dsimp -implicitDefEqProofs (disch := (first | assumption | omega | (simp only [nats_len, List.length_map, List.length_set, List.length_replicate, List.length_append, List.length_range, upto_len, els_len, List.length_cons, List.length_nil] <;> omega) | (apply isPure_intro <;> simp))) only [go_sem, hM, h1]
      have h1' : ¬ 0 < i := by omega
      refine ⟨_, _, rv, _, rfl, hM, ?_, ?_⟩
      · refine Row.same (nx := n0) ?_ (fun _ _ => rfl) (by omega)
        simpa [keyA, has, h1'] using hR
      · omega
  clear hM hR
  rintro _ ⟨H1, n1, rv1, e, rfl, a1, a2, a3⟩
  have hl1 : (rows ++ keyA c n i k).length ≤ 100002 := by unfold keyA has; split <;> simp <;> omega
  have e4 : ((2 * i : Nat) : Int) + 1 = ((2 * i + 1 : Nat) : Int) := by omega
  refine W_cut (fun S' => ∃ H' nx rv' e, S' = ⟨E ((0, .ptr bm 1 0 0) :: (5, .pp (KV k)) :: (6, .int .i64 ((2 * i : Nat) : Int)) :: (7, .int .i64 ((n - 1 : Nat) : Int)) :: e), H', nx, nx⟩ ∧ H' bm = some ⟨[MkV n c rv'], 19⟩ ∧ Row lo H' nx rv' 4 ((rows ++ keyA c n i k ++ has k.place [rowF c n 1 k.p [(2 * i, 1)]]).map RV) ∧ n0 ≤ nx) ?_ ?_
  · unfold KV
    cases hb : k.place
    · simp -dsimp -implicitDefEqProofs (disch := (first | assumption | omega | (simp only [nats_len, List.length_map, List.length_set, List.length_replicate, List.length_append, List.length_range, upto_len, els_len, List.length_cons, List.length_nil] <;> omega) | (apply isPure_intro <;> simp))) only [go_sem, a1, hb]
      refine ⟨_, _, rv1, _, rfl, a1, ?_, ?_⟩
      · refine Row.same (nx := n1) ?_ (fun _ _ => rfl) (by omega)
        simpa [has] using a2
      · omega
    · simp -dsimp -implicitDefEqProofs (disch := (first | assumption | omega | (simp only [nats_len, List.length_map, List.length_set, List.length_replicate, List.length_append, List.length_range, upto_len, els_len, List.length_cons, List.length_nil] <;> omega) | (apply isPure_intro <;> simp))) only [go_sem, a1, hb, e4]
      obtain ⟨r4, H4, n4, ⟨rv4, d1, d2, d3⟩, hc4⟩ := mrow_G n c 1 k.p (.inr (.inl rfl)) [(2 * i, 1)] (by simp) (by simp; omega) hn (H1.upd (n1 + 6) (some ⟨(flatQ [(2 * i, 1)]).map (V.int .i64), 1⟩)) (n1 + 8) bm (n1 + 6) rv1 lo _ hbm (by omega) (by omega) (by omega) (by rw [Hp.upd_ne _ _ (by omega)]; exact a1) (a2.same (fun b hb => Hp.upd_ne _ _ (by omega)) (by omega)) (a2.ne_own (by omega)) (Hp.upd_same _ _ _) (by omega)
      refine callB_G hc4 ?_
      simp -dsimp -implicitDefEqProofs (disch := (first | assumption | omega | (simp only [nats_len, List.length_map, List.length_set, List.length_replicate, List.length_append, List.length_range, upto_len, els_len, List.length_cons, List.length_nil] <;> omega) | (apply isPure_intro <;> simp))) only [go_sem, d1]
      exact ⟨_, _, rv4, _, rfl, d1, by simpa [has] using d2, by omega⟩
  clear a1 a2
  rintro _ ⟨H2, n2, rv2, e, rfl, b1, b2, b3⟩
  have hl2 : (rows ++ keyA c n i k ++ has k.place [rowF c n 1 k.p [(2 * i, 1)]]).length ≤ 100003 := by rw [List.length_append]; unfold has; split <;> simp <;> simp at hl1 <;> omega
  refine W_cut (fun S' => ∃ H' nx rv' e, S' = ⟨E ((0, .ptr bm 1 0 0) :: (5, .pp (KV k)) :: (6, .int .i64 ((2 * i : Nat) : Int)) :: (7, .int .i64 ((n - 1 : Nat) : Int)) :: e), H', nx, nx⟩ ∧ H' bm = some ⟨[MkV n c rv'], 19⟩ ∧ Row lo H' nx rv' 4 ((rows ++ keyA c n i k ++ has k.place [rowF c n 1 k.p [(2 * i, 1)]] ++ has k.speed [rowF c n 1 k.v [(2 * i + 1, 1)]]).map RV) ∧ n0 ≤ nx) ?_ ?_
  · unfold KV
    cases hb : k.speed
    · simp -dsimp -implicitDefEqProofs (disch := (first | assumption | omega | (simp only [nats_len, List.length_map, List.length_set, List.length_replicate, List.length_append, List.length_range, upto_len, els_len, List.length_cons, List.length_nil] <;> omega) | (apply isPure_intro <;> simp))) only [go_sem, b1, hb]
      refine ⟨_, _, rv2, _, rfl, b1, ?_, ?_⟩
      · refine Row.same (nx := n2) ?_ (fun _ _ => rfl) (by omega)
        simpa [has] using b2
      · omega
    · simp -dsimp -implicitDefEqProofs (disch := (first | assumption | omega | (simp only [nats_len, List.length_map, List.length_set, List.length_replicate, List.length_append, List.length_range, upto_len, els_len, List.length_cons, List.length_nil] <;> omega) | (apply isPure_intro <;> simp))) only [go_sem, b1, hb, e4]
      obtain ⟨r4, H4, n4, ⟨rv4, d1, d2, d3⟩, hc4⟩ := mrow_G n c 1 k.v (.inr (.inl rfl)) [(2 * i + 1, 1)] (by simp) (by simp; omega) hn (H2.upd (n2 + 7) (some ⟨(flatQ [(2 * i + 1, 1)]).map (V.int .i64), 1⟩)) (n2 + 9) bm (n2 + 7) rv2 lo _ hbm (by omega) (by omega) (by omega) (by rw [Hp.upd_ne _ _ (by omega)]; exact b1) (b2.same (fun b hb => Hp.upd_ne _ _ (by omega)) (by omega)) (b2.ne_own (by omega)) (Hp.upd_same _ _ _) (by omega)
      refine callB_G hc4 ?_
      simp -dsimp -implicitDefEqProofs (disch := (first | assumption | omega | (simp only [nats_len, List.length_map, List.length_set, List.length_replicate, List.length_append, List.length_range, upto_len, els_len, List.length_cons, List.length_nil] <;> omega) | (apply isPure_intro <;> simp))) only [go_sem, d1]
      exact ⟨_, _, rv4, _, rfl, d1, by simpa [has] using d2, by omega⟩
  clear b1 b2
  rintro _ ⟨H3, n3, rv3, e, rfl, c1, c2, c3⟩
  have hl3 : (rows ++ keyA c n i k ++ has k.place [rowF c n 1 k.p [(2 * i, 1)]] ++ has k.speed [rowF c n 1 k.v [(2 * i + 1, 1)]]).length ≤ 100004 := by rw [List.length_append]; unfold has at hl2 ⊢; (repeat' split) <;> simp_all <;> omega
  unfold KV
  cases hb : k.height
  · simp -dsimp -implicitDefEqProofs (disch := (first | assumption | omega | (simp only [nats_len, List.length_map, List.length_set, List.length_replicate, List.length_append, List.length_range, upto_len, els_len, List.length_cons, List.length_nil] <;> omega) | (apply isPure_intro <;> simp))) only [go_sem, c1, hb]
    refine ⟨_, rfl, ?_, rv3, c1, ?_, ?_⟩
    · dsimp only; omega
    · refine Row.same (nx := n3) ?_ (fun _ _ => rfl) (by dsimp only; omega)
      simpa [keyRows, has, hb] using c2
    · dsimp only; omega
  · simp -dsimp -implicitDefEqProofs (disch := (first | assumption | omega | (simp only [nats_len, List.length_map, List.length_set, List.length_replicate, List.length_append, List.length_range, upto_len, els_len, List.length_cons, List.length_nil] <;> omega) | (apply isPure_intro <;> simp))) only [go_sem, c1, hb]
    obtain ⟨r4, H4, n4, ⟨rv4, d1, d2, d3⟩, hc4⟩ := mrow_G n c 2 k.h (.inr (.inr (.inl rfl))) [(2 * i, 1), (n - 1, 1)] (by simp) (by simp; omega) hn (H3.upd (n3 + 7) (some ⟨(flatQ [(2 * i, 1), (n - 1, 1)]).map (V.int .i64), 1⟩)) (n3 + 9) bm (n3 + 7) rv3 lo _ hbm (by omega) (by omega) (by omega) (by rw [Hp.upd_ne _ _ (by omega)]; exact c1) (c2.same (fun b hb => Hp.upd_ne _ _ (by omega)) (by omega)) (c2.ne_own (by omega)) (Hp.upd_same _ _ _) (by omega)
    refine callB_G hc4 ?_
    simp -dsimp -implicitDefEqProofs (disch := (first | assumption | omega | (simp only [nats_len, List.length_map, List.length_set, List.length_replicate, List.length_append, List.length_range, upto_len, els_len, List.length_cons, List.length_nil] <;> omega) | (apply isPure_intro <;> simp))) only [go_sem, d1]
    exact ⟨_, rfl, by dsimp only; omega, rv4, d1, by simpa [keyRows, has, hb] using d2, by dsimp only; omega⟩
end Go.Gim
/- The rows of keys. -/
set_option maxRecDepth 100000
set_option maxHeartbeats 4000000
set_option linter.unusedSimpArgs false
set_option linter.unusedVariables false
namespace Go.Gim
open Go.Proofs
attribute [local go_sem] MkV_len MkV_isAgg MkV_isJunk MkV_n MkV_rate
structure FineC (c : Cfg) : Prop where
  rate : 1 ≤ c.rate ∧ c.rate ≤ 1000
  step : 1 ≤ c.step ∧ c.step ≤ 1000
  keys : 2 ≤ c.keys ∧ c.keys ≤ 5
  gap : 1 ≤ c.gap ∧ c.gap ≤ 1000
  turn : 1 ≤ c.turn ∧ c.turn ≤ 4194304
  pull : 1 ≤ c.pull ∧ c.pull ≤ 67108864
  k0 : 1 ≤ c.k0 ∧ c.k0 ≤ 32768
  k1 : 1 ≤ c.k1 ∧ c.k1 ≤ 32768
  k2 : 1 ≤ c.k2 ∧ c.k2 ≤ 32768
  k3 : 1 ≤ c.k3 ∧ c.k3 ≤ 32768
  w0 : 1 ≤ c.w0 ∧ c.w0 ≤ 100
  w1 : 1 ≤ c.w1 ∧ c.w1 ≤ 100
  w2 : 1 ≤ c.w2 ∧ c.w2 ≤ 100
  w3 : 1 ≤ c.w3 ∧ c.w3 ≤ 100
  rounds : 1 ≤ c.rounds ∧ c.rounds ≤ 30
  raises : 0 ≤ c.raises ∧ c.raises ≤ 12
  flat : 0 ≤ c.flat ∧ c.flat ≤ 1000000000
theorem firstBad_two : ∀ (l : List (ByteArray × List Int × Int × Int)), ((firstBad l).2 = 0 ∧ (firstBad l).1 = ⟨#[]⟩ ∧ ∀ t ∈ l, fineB t = true) ∨ ((firstBad l).2 = 130 ∧ ∃ t ∈ l, fineB t = false ∧ (firstBad l).1 = t.1)
  | [] => .inl ⟨rfl, rfl, fun t h => (by cases h)⟩
  | t :: l => by
    rw [firstBad]
    split
    · rename_i ht
      rcases firstBad_two l with ⟨h1, h2, h3⟩ | ⟨h1, u, h2, h3⟩
      · refine .inl ⟨h1, h2, fun u hu => ?_⟩
        rcases List.mem_cons.1 hu with rfl | hu
        · exact ht
        · exact h3 u hu
      · exact .inr ⟨h1, u, List.mem_cons_of_mem _ h2, h3⟩
    · rename_i ht
      exact .inr ⟨rfl, t, by simp, by simpa using ht, rfl⟩
theorem chk_two (c : Cfg) : ((chk c).2 = 0 ∧ (chk c).1 = ⟨#[]⟩ ∧ FineC c) ∨ ((chk c).2 = 130 ∧ (chk c).1 ≠ ⟨#[]⟩ ∧ ¬ FineC c) := by
  rcases firstBad_two (fieldT c) with ⟨h1, h2, h3⟩ | ⟨h1, t, h2, h3, h4⟩
  · refine .inl ⟨h1, h2, ?_⟩
    simp [fieldT, fineB] at h3
    obtain ⟨a1, a2, a3, a4, a5, a6, ⟨b1, b2, b3, b4⟩, ⟨c1, c2, c3, c4⟩, a7, a8, a9⟩ := h3
    exact ⟨a1, a2, a3, a4, a5, a6, b1, b2, b3, b4, c1, c2, c3, c4, a7, a8, a9⟩
  · refine .inr ⟨h1, ?_, fun h => ?_⟩
    · show (firstBad (fieldT c)).1 ≠ _
      rw [h4]
      simp only [fieldT, List.mem_cons, List.not_mem_nil, or_false] at h2
      rcases h2 with rfl | rfl | rfl | rfl | rfl | rfl | rfl | rfl | rfl | rfl | rfl <;> intro e <;> cases e
    · simp only [fieldT, List.mem_cons, List.not_mem_nil, or_false] at h2
      obtain ⟨a1, a2, a3, a4, a5, a6, b1, b2, b3, b4, c1, c2, c3, c4, a7, a8, a9⟩ := h
      rcases h2 with rfl | rfl | rfl | rfl | rfl | rfl | rfl | rfl | rfl | rfl | rfl <;> simp [fineB, *] at h3
theorem chk_fine {c : Cfg} : (chk c).2 = 0 ↔ FineC c := by
  rcases chk_two c with ⟨h1, h2, h3⟩ | ⟨h1, h2, h3⟩
  · exact ⟨fun _ => h3, fun _ => h1⟩
  · exact ⟨fun h => by omega, fun h => absurd h h3⟩
def keyB (k : Key9) : Bool := !outB k.p (-100000) 100000 && !outB k.v (-100000) 100000 && !outB k.h (-100000) 100000 && !outB k.dv (-100000) 100000 && !outB k.dp (-100000) 100000 && decide (k.ticks ≤ 1000)
theorem keyB_iff {k : Key9} : keyB k = true ↔ KeyOk k := by
  simp only [keyB, Bool.and_eq_true, Bool.not_eq_true', outB_f, decide_eq_true_eq]
  exact ⟨fun ⟨⟨⟨⟨⟨a, b⟩, c⟩, d⟩, e⟩, f⟩ => ⟨a, b, c, d, e, f⟩, fun h => ⟨⟨⟨⟨⟨h.p, h.v⟩, h.h⟩, h.dv⟩, h.dp⟩, h.t⟩⟩
def k0 : Key9 := ⟨false, false, false, 0, 0, 0, 0, 0, 0⟩
def rowsTo (c : Cfg) (n : Nat) (keys : List Key9) : Nat → List Row4
  | 0 => []
  | j + 1 => rowsTo c n keys j ++ keyRows c n j (keys.getD j k0)
def allRows (c : Cfg) (keys : List Key9) : List Row4 := rowsTo c (2 * keys.length + 1) keys keys.length ++ [rowF c (2 * keys.length + 1) 3 0 [(2 * keys.length, 1)]]
def rowsF (c : Cfg) (keys : List Key9) : List Row4 × Int :=
  if (chk c).2 ≠ 0 then ([], 130) else if keys.length < 1 ∨ 5 < keys.length then ([], 160) else if keys.all keyB then (allRows c keys, 0) else ([], 160)
theorem keyRows_len (c : Cfg) (n i : Nat) (k : Key9) : (keyRows c n i k).length ≤ 5 := by
  unfold keyRows keyA has
  (repeat' split) <;> simp
theorem rowsTo_len (c : Cfg) (n : Nat) (keys : List Key9) : ∀ j, (rowsTo c n keys j).length ≤ 5 * j
  | 0 => by simp [rowsTo]
  | j + 1 => by rw [rowsTo, List.length_append]; have := rowsTo_len c n keys j; have := keyRows_len c n j (keys.getD j k0); omega
theorem KV_cells (k) : (KV k).cells = [.bool k.place, .bool k.speed, .bool k.height, .int .i64 k.p, .int .i64 k.v, .int .i64 k.h, .int .i64 k.dv, .int .i64 k.dp, .int .i64 k.ticks] := rfl
theorem KV_isAgg (k) : (KV k).isAgg = true := rfl
theorem part_KV (k) : V.part (KV k) 0 9 true = some (KV k) := rfl
theorem idxB_KV {l : List Key9} {dr : Bool} {nx : Nat} {H : Hp} {k : IntKind} {j : Int} {Kn : V → Prop} {u : Dep Kn} (h0 : 0 ≤ j) (h1 : j < l.length) :
    idxB dr nx H 9 (.sl (l.map KV)) (.int k j) Kn u = Kn (.pp (KV (l.getD j.toNat k0))) := idxB_gen (f := KV) k0 (fun _ => rfl) h0 h1
attribute [local go_sem] KV_cells KV_isAgg part_KV idxB_KV
theorem CV_isJunk (c) : (CV c).isJunk = false := rfl
attribute [simp] CV_isJunk
theorem CV_cells (c : Cfg) : (CV c).cells = [.int .i64 c.rate, .int .i64 c.step, .int .i64 c.keys, .int .i64 c.gap, .int .i64 c.turn, .int .i64 c.pull, .int .i64 c.k0, .int .i64 c.k1, .int .i64 c.k2, .int .i64 c.k3, .int .i64 c.w0, .int .i64 c.w1, .int .i64 c.w2, .int .i64 c.w3, .int .i64 c.rounds, .int .i64 c.raises, .int .i64 c.flat] := rfl
theorem part_CV (c) : V.part (CV c) 0 17 true = some (CV c) := rfl
theorem CV_isAgg (c) : (CV c).isAgg = true := rfl
theorem rows_ret (c : Cfg) (keys : List Key9) (hkl : keys.length ≤ 9223372036854775807) : Ret pg n_factor_Rows [CV c, .sl (keys.map KV)] (.tup [.sl ((rowsF c keys).1.map RV), .int .i64 (rowsF c keys).2]) := by
  refine factor_Rows.of rfl (W_b ?_)
  unfold factor_Rows.k factor_Rows.res
  simp -dsimp -implicitDefEqProofs (disch := (first | assumption | omega | (simp only [nats_len, List.length_map, List.length_set, List.length_replicate, List.length_append, List.length_range, upto_len, els_len, List.length_cons, List.length_nil] <;> omega) | (apply isPure_intro <;> simp))) only [go_sem, part_CV, CV_isAgg, CV_cells]
  first | refine callB_of (check_ret c) (by simp) ?_ | refine callP_of (check_ret c) (by simp) ?_
  rcases chk_two c with ⟨h1, h2, h3⟩ | ⟨h1, h2, h3⟩
  · by_cases hl1 : (keys.length : Int) < 1
    · simp -dsimp -implicitDefEqProofs (disch := (first | assumption | omega | (simp only [nats_len, List.length_map, List.length_set, List.length_replicate, List.length_append, List.length_range, upto_len, els_len, List.length_cons, List.length_nil] <;> omega) | (apply isPure_intro <;> simp))) only [go_sem, h1, hl1]
      simp [rowsF, h1, show keys.length < 1 by omega]
    · by_cases hl5 : (5 : Int) < (keys.length : Int)
      · simp -dsimp -implicitDefEqProofs (disch := (first | assumption | omega | (simp only [nats_len, List.length_map, List.length_set, List.length_replicate, List.length_append, List.length_range, upto_len, els_len, List.length_cons, List.length_nil] <;> omega) | (apply isPure_intro <;> simp))) only [go_sem, h1, hl1, hl5]
        simp [rowsF, h1, show 5 < keys.length by omega]
      · have e0 : (2 : Int) * (keys.length : Int) = ((2 * keys.length : Nat) : Int) := by omega
        have e1 : ((2 * keys.length : Nat) : Int) + 1 = ((2 * keys.length + 1 : Nat) : Int) := by omega
        simp -dsimp -implicitDefEqProofs (disch := (first | assumption | omega | (simp only [nats_len, List.length_map, List.length_set, List.length_replicate, List.length_append, List.length_range, upto_len, els_len, List.length_cons, List.length_nil] <;> omega) | (apply isPure_intro <;> simp))) only [go_sem, h1, hl1, hl5, CV_cells, CV_isAgg, part_CV, e0, e1, effV_boxO, CV_isJunk]
        have hn5 : keys.length ≤ 5 := by omega
        generalize hn : 2 * keys.length + 1 = n at e1 ⊢
        generalize hH0 : Hp.upd (fun _ => none) 26 _ = H0
        have m0 : H0 26 = some ⟨[MkV n c .nil], 19⟩ := upd_at_same hH0
        clear hH0
        have hbad : ∀ j, j < keys.length → keyB (keys.getD j k0) = false → rowsF c keys = ([], 160) := fun j hj hb => by
          have : keys.all keyB = false := by
            rw [List.all_eq_false]
            exact ⟨keys.getD j k0, by simp [List.getD_eq_getElem?_getD, hj], by rw [hb]; decide⟩
          unfold rowsF
          rw [if_neg (by omega), if_neg (by omega), this]; rfl
        refine W_loop (T := Nat × Hp × Nat × V) (fun t => ⟨E [(8, .ptr 26 1 0 0), (36, .sl (keys.map KV)), (37, .int .i64 (keys.length : Int)), (38, .int .i64 (t.1 : Int))], t.2.1, t.2.2.1, t.2.2.1⟩)
          (fun t => t.1 ≤ keys.length ∧ 27 ≤ t.2.2.1 ∧ t.2.1 26 = some ⟨[MkV n c t.2.2.2], 19⟩ ∧ Row 27 t.2.1 t.2.2.1 t.2.2.2 4 ((rowsTo c n keys t.1).map RV) ∧ ∀ m, m < t.1 → KeyOk (keys.getD m k0))
          (fun t => keys.length - t.1) (0, H0, _, .nil) rfl ⟨by dsimp only; omega, by dsimp only; omega, m0, Row.nil _ _ _ _, fun m hm => absurd hm (Nat.not_lt_zero _)⟩ ?_
        rintro ⟨j, H, nx, rv⟩ ⟨j1, j2, j3, j4, j5⟩
        dsimp only at j1 j2 j3 j4 j5
        by_cases hj : j < keys.length
        · generalize hK : keys.getD j k0 = k
          simp -dsimp -implicitDefEqProofs (disch := (first | assumption | omega | (simp only [nats_len, List.length_map, List.length_set, List.length_replicate, List.length_append, List.length_range, upto_len, els_len, List.length_cons, List.length_nil] <;> omega) | (apply isPure_intro <;> simp))) only [go_sem, j3, hK, KV_cells, KV_isAgg, part_KV, idxB_KV, Int.toNat_natCast]
          obtain ⟨vl, hvl⟩ : ∃ vl, vl = [k.p, k.v, k.h, k.dv, k.dp] := ⟨_, rfl⟩
          have hv5 : vl.length = 5 := by rw [hvl]; rfl
          generalize hG : Hp.upd (H.upd (nx + 4) _) (nx + 17) _ = G
          have g10 : G (nx + 4) = some ⟨[KV k], 9⟩ := by rw [← hG, Hp.upd_ne _ _ (by omega), Hp.upd_same]
          have g53 : G (nx + 17) = some ⟨vl.map (V.int .i64), 1⟩ := by rw [hvl]; exact upd_at_same hG
          have g26 : G 26 = some ⟨[MkV n c rv], 19⟩ := by rw [← hG, Hp.upd_ne _ _ (by omega), Hp.upd_ne _ _ (by omega)]; exact j3
          have gR : Row 27 G nx rv 4 ((rowsTo c n keys j).map RV) := j4.same (fun b hb => by rw [← hG, Hp.upd_ne _ _ (by omega), Hp.upd_ne _ _ (by omega)]) (by omega)
          clear hG
          refine W_loop (T := Nat × Nat) (fun t => ⟨E [(8, .ptr 26 1 0 0), (9, .int .i64 (j : Int)), (10, .ptr (nx + 4) 1 0 0), (36, .sl (keys.map KV)), (37, .int .i64 (keys.length : Int)), (38, .int .i64 (j : Int)), (53, .own (nx + 17) 5), (54, .int .i64 ((5 : Nat) : Int)), (55, .int .i64 (t.1 : Int))], G, t.2, t.2⟩)
            (fun t => t.1 ≤ 5 ∧ nx + 20 ≤ t.2 ∧ ∀ m, m < t.1 → outB (vl.getD m 0) (-100000) 100000 = false) (fun t => 5 - t.1) (0, _) rfl ⟨by dsimp only; omega, by dsimp only; omega, fun m hm => absurd hm (Nat.not_lt_zero _)⟩ ?_
          rintro ⟨m, nx2⟩ ⟨i1, i2, i3⟩
          dsimp only at i1 i2 i3
          by_cases hm : m < 5
          · simp -dsimp -implicitDefEqProofs (disch := (first | assumption | omega | (simp only [nats_len, List.length_map, List.length_set, List.length_replicate, List.length_append, List.length_range, upto_len, els_len, List.length_cons, List.length_nil] <;> omega) | (apply isPure_intro <;> simp))) only [go_sem, g53, loadO_intf, Int.toNat_natCast, hv5]
            first | refine callB_of (out_ret _ _ _) (by simp) ?_ | refine callP_of (out_ret _ _ _) (by simp) ?_
            by_cases ho : outB (vl.getD m 0) (-100000) 100000 = false
            · simp -dsimp -implicitDefEqProofs (disch := (first | assumption | omega | (simp only [nats_len, List.length_map, List.length_set, List.length_replicate, List.length_append, List.length_range, upto_len, els_len, List.length_cons, List.length_nil] <;> omega) | (apply isPure_intro <;> simp))) only [go_sem, ho]
              exact ⟨(m + 1, _), rfl, ⟨by dsimp only; omega, by dsimp only; omega, fun q hq => by
                by_cases hqm : q < m
                · exact i3 q hqm
                · obtain rfl : q = m := by dsimp only at hq; omega
                  exact ho⟩, by dsimp only; omega⟩
            · have ho : outB (vl.getD m 0) (-100000) 100000 = true := by simpa using ho
              simp -dsimp -implicitDefEqProofs (disch := (first | assumption | omega | (simp only [nats_len, List.length_map, List.length_set, List.length_replicate, List.length_append, List.length_range, upto_len, els_len, List.length_cons, List.length_nil] <;> omega) | (apply isPure_intro <;> simp))) only [go_sem, ho]
              rw [hbad j hj (by
                rw [hK]
                rw [hvl] at ho
                have h5 : m = 0 ∨ m = 1 ∨ m = 2 ∨ m = 3 ∨ m = 4 := by omega
                unfold keyB
                rcases h5 with rfl | rfl | rfl | rfl | rfl <;> simp at ho <;> simp [ho])]
              rfl
          · obtain rfl : m = 5 := by omega
            have o0 := i3 0 (by omega)
            have o1 := i3 1 (by omega)
            have o2 := i3 2 (by omega)
            have o3 := i3 3 (by omega)
            have o4 := i3 4 (by omega)
            rw [hvl] at o0 o1 o2 o3 o4
            simp only [List.getD_cons_zero, List.getD_cons_succ] at o0 o1 o2 o3 o4
            by_cases ht : 1000 < k.ticks
            · simp -dsimp -implicitDefEqProofs (disch := (first | assumption | omega | (simp only [nats_len, List.length_map, List.length_set, List.length_replicate, List.length_append, List.length_range, upto_len, els_len, List.length_cons, List.length_nil] <;> omega) | (apply isPure_intro <;> simp))) only [go_sem, g10, KV_cells, KV_isAgg, ht]
              rw [hbad j hj (by rw [hK]; unfold keyB; simp; intros; omega)]
              rfl
            · have hko : KeyOk k := ⟨outB_f.1 o0, outB_f.1 o1, outB_f.1 o2, outB_f.1 o3, outB_f.1 o4, by omega⟩
              simp -dsimp -implicitDefEqProofs (disch := (first | assumption | omega | (simp only [nats_len, List.length_map, List.length_set, List.length_replicate, List.length_append, List.length_range, upto_len, els_len, List.length_cons, List.length_nil] <;> omega) | (apply isPure_intro <;> simp))) only [go_sem, g10, KV_cells, KV_isAgg, part_KV, ht]
              obtain ⟨r4, H4, n4, ⟨rv4, d1, d2, d3⟩, hc4⟩ := mkey_G n j c k h3.rate hko (by omega) (by omega) G (nx2 + 8) 26 rv 27 (rowsTo c n keys j) (by omega) (by omega) g26 (gR.same (fun _ _ => rfl) (by omega)) (by have := rowsTo_len c n keys j; omega)
              refine callB_G hc4 ?_
              simp -dsimp -implicitDefEqProofs (disch := (first | assumption | omega | (simp only [nats_len, List.length_map, List.length_set, List.length_replicate, List.length_append, List.length_range, upto_len, els_len, List.length_cons, List.length_nil] <;> omega) | (apply isPure_intro <;> simp))) only [go_sem, d1]
              exact ⟨(j + 1, H4, _, rv4), rfl, ⟨by dsimp only; omega, by dsimp only; omega, d1, by
                rw [rowsTo, hK]; exact d2.same (fun _ _ => rfl) (by dsimp only; omega), fun q hq => by
                by_cases hqm : q < j
                · exact j5 q hqm
                · obtain rfl : q = j := by dsimp only at hq; omega
                  rw [hK]; exact hko⟩, by dsimp only; omega⟩
        · obtain rfl : j = keys.length := by omega
          simp -dsimp -implicitDefEqProofs (disch := (first | assumption | omega | (simp only [nats_len, List.length_map, List.length_set, List.length_replicate, List.length_append, List.length_range, upto_len, els_len, List.length_cons, List.length_nil] <;> omega) | (apply isPure_intro <;> simp))) only [go_sem, j3]
          obtain ⟨r4, H4, n4, ⟨rv4, d1, d2, d3⟩, hc4⟩ := mrow_G n c 3 0 (.inr (.inr (.inr rfl))) [(n - 1, 1)] (by simp) (by simp; omega) (by omega) (H.upd (nx + 7) (some ⟨(flatQ [(n - 1, 1)]).map (V.int .i64), 1⟩)) (nx + 9) 26 (nx + 7) rv 27 (rowsTo c n keys keys.length) (by omega) (by omega) (by omega) (by omega) (by rw [Hp.upd_ne _ _ (by omega)]; exact j3) (j4.same (fun b hb => Hp.upd_ne _ _ (by omega)) (by omega)) (j4.ne_own (by omega)) (Hp.upd_same _ _ _) (by have := rowsTo_len c n keys keys.length; omega)
          refine callB_G hc4 ?_
          obtain ⟨w1, w2, w3, w4⟩ := d2.flat
          simp -dsimp -implicitDefEqProofs (disch := (first | assumption | omega | (simp only [nats_len, List.length_map, List.length_set, List.length_replicate, List.length_append, List.length_range, upto_len, els_len, List.length_cons, List.length_nil] <;> omega) | (apply isPure_intro <;> simp))) only [go_sem, d1, MkV_r, w1]
          have hall : keys.all keyB = true := by
            rw [List.all_eq_true]
            intro k hk
            obtain ⟨m, hm, rfl⟩ := List.mem_iff_getElem.1 hk
            have := keyB_iff.2 (j5 m hm)
            simpa [List.getD_eq_getElem?_getD, hm] using this
          have hrw : rowsF c keys = (allRows c keys, 0) := by
            unfold rowsF
            rw [if_neg (by omega), if_neg (by omega), if_pos hall]
          rw [hrw, d2.frz (n := 7) (frz_map fun x => rfl)]
          subst hn
          rfl
  · simp -dsimp -implicitDefEqProofs (disch := (first | assumption | omega | (simp only [nats_len, List.length_map, List.length_set, List.length_replicate, List.length_append, List.length_range, upto_len, els_len, List.length_cons, List.length_nil] <;> omega) | (apply isPure_intro <;> simp))) only [go_sem, h1]
    simp [rowsF, h1]
end Go.Gim
/- The chapter's examples. -/
set_option maxRecDepth 100000
set_option maxHeartbeats 4000000
set_option linter.unusedSimpArgs false
set_option linter.unusedVariables false
namespace Go.Gim
open Go.Proofs
def defC : Cfg := ⟨100, 50, 4, 5, 2097152, 33554432, 2000, 1000, 500, 100, 4, 1, 2, 8, 12, 6, 1000⟩
theorem ops_one {P : Program} {dr : Bool} {idx : Nat} {d : Option Nat} {op : AOp} {l : List It} {S : St} {K : St → Prop} (v : V) (H : Hp) (h : step1 P dr (S.nx + idx) op S v H) (hk : WOps P dr (idx + 1) l (St.set ⟨S.env, H, S.nx, S.hi⟩ d v) K) : WOps P dr idx (⟨d, none, op⟩ :: l) S K :=
  ⟨v, _, stepG_of1 h, hk⟩
theorem ops_nil {P : Program} {dr : Bool} {idx : Nat} {S : St} {K : St → Prop} (h : K S) : WOps P dr idx [] S K := h
theorem default_ret : Ret pg n_config_Default [] (CV defC) := by
  refine config_Default.of rfl ?_
  unfold config_Default.k config_Default.res
  simp only [W]
  refine ops_one _ _ ⟨rfl, rfl, rfl⟩ (ops_nil ?_)
  refine ops_one _ _ ⟨⟨_, rfl, rfl⟩, rfl⟩ (ops_one _ _ ⟨⟨_, rfl, rfl⟩, rfl⟩ (ops_one _ _ ⟨⟨_, rfl, rfl⟩, rfl⟩ (ops_one _ _ (And.intro rfl (And.intro rfl ⟨_, _, _, rfl, rfl, rfl, rfl, List.all_eq_true.1 rfl, rfl⟩)) (ops_nil ?_))))
  exact ⟨_, rfl, rfl⟩
theorem sub_CV (g : Nat → Option (List V)) (c : Cfg) : V.sub g (CV c) = CV c := sub_pure _ (CV_pure c)
def kA : Key9 := ⟨true, false, false, 7, 0, 0, 0, 0, 0⟩
def kB : Key9 := ⟨false, false, false, 0, 0, 0, 0, 0, 0⟩
def kC : Key9 := ⟨false, false, true, 0, 0, 9, -2, 3, 50⟩
def a0 : Row4 := ⟨[1, 0, 0], 7, 1000, 1⟩
def a1 : Row4 := ⟨[0, 0, 1], 0, 100, 8⟩
def b0 : Row4 := ⟨[-100, -50, 100, 0, 0], 300, 2000, 4⟩
def b1 : Row4 := ⟨[0, -1, 0, 1, 0], -2, 2000, 4⟩
def b2 : Row4 := ⟨[0, 0, 1, 0, 1], 9, 500, 2⟩
def b3 : Row4 := ⟨[0, 0, 0, 0, 1], 0, 100, 8⟩
theorem rowsA : rowsF defC [kA] = ([a0, a1], 0) := by decide
theorem rowsB : rowsF defC [kB, kC] = ([b0, b1, b2, b3], 0) := by decide
theorem rowsN : rowsF defC [] = ([], 160) := by decide
theorem awake16_ret : Ret pg n_gimballaw16_awake [] (.bool true) := by
  obtain ⟨la, hla⟩ : ∃ la, la = [a0, a1] := ⟨_, rfl⟩
  obtain ⟨lb, hlb⟩ : ∃ lb, lb = [b0, b1, b2, b3] := ⟨_, rfl⟩
  have ha : Ret pg n_factor_Rows [CV defC, .sl [KV kA]] (.tup [.sl (la.map RV), .int .i64 0]) := by
    have := rows_ret defC [kA] (by decide)
    rw [rowsA] at this; rw [hla]; exact this
  have hb : Ret pg n_factor_Rows [CV defC, .sl [KV kB, KV kC]] (.tup [.sl (lb.map RV), .int .i64 0]) := by
    have := rows_ret defC [kB, kC] (by decide)
    rw [rowsB] at this; rw [hlb]; exact this
  have na : la.length = 2 := by rw [hla]; rfl
  have nb : lb.length = 4 := by rw [hlb]; rfl
  have ga0 : la.getD 0 default = a0 := by rw [hla]; rfl
  have ga1 : la.getD 1 default = a1 := by rw [hla]; rfl
  have gb0 : lb.getD 0 default = b0 := by rw [hlb]; rfl
  have gb1 : lb.getD 1 default = b1 := by rw [hlb]; rfl
  have gb2 : lb.getD 2 default = b2 := by rw [hlb]; rfl
  have hn : Ret pg n_factor_Rows [CV defC, .nil] (.tup [.sl [], .int .i64 160]) := by
    have := rows_ret defC [] (by decide)
    rw [rowsN] at this; exact this.nn rfl
  refine gimballaw16_awake.of rfl (W_b ?_)
  unfold gimballaw16_awake.k gimballaw16_awake.res
  simp -dsimp -implicitDefEqProofs (disch := (first | assumption | omega | (simp only [nats_len, List.length_map, List.length_set, List.length_replicate, List.length_append, List.length_range, upto_len, els_len, List.length_cons, List.length_nil] <;> omega) | (apply isPure_intro <;> simp))) only [go_sem]
  first | refine callB_of (default_ret) (by simp) ?_ | refine callP_of (default_ret) (by simp) ?_
  simp -dsimp -implicitDefEqProofs (disch := (first | assumption | omega | (simp only [nats_len, List.length_map, List.length_set, List.length_replicate, List.length_append, List.length_range, upto_len, els_len, List.length_cons, List.length_nil] <;> omega) | (apply isPure_intro <;> simp))) only [go_sem, part_CV, CV_isAgg, CV_cells, CV_isJunk]
  refine callB_fr1 6 [KV kA] rfl (by simp) (by simp [V.sub, fz1, sub_CV]) ha (by simp) ?_
  simp -dsimp -implicitDefEqProofs (disch := (first | assumption | omega | (simp only [nats_len, List.length_map, List.length_set, List.length_replicate, List.length_append, List.length_range, upto_len, els_len, List.length_cons, List.length_nil] <;> omega) | (apply isPure_intro <;> simp))) only [go_sem, part_CV, CV_isAgg, CV_cells, CV_isJunk]
  refine callB_fr1 16 [KV kB, KV kC] rfl (by simp) (by simp [V.sub, fz1, sub_CV]) hb (by simp) ?_
  simp -dsimp -implicitDefEqProofs (disch := (first | assumption | omega | (simp only [nats_len, List.length_map, List.length_set, List.length_replicate, List.length_append, List.length_range, upto_len, els_len, List.length_cons, List.length_nil] <;> omega) | (apply isPure_intro <;> simp))) only [go_sem, part_CV, CV_isAgg, CV_cells, CV_isJunk]
  refine callB_of hn (by simp) ?_
  simp -dsimp -implicitDefEqProofs (disch := (first | assumption | omega | (simp only [nats_len, List.length_map, List.length_set, List.length_replicate, List.length_append, List.length_range, upto_len, els_len, List.length_cons, List.length_nil] <;> omega) | (apply isPure_intro <;> simp))) only [go_sem, na, nb, List.length_map, ga0]
  refine callB_fr1 49 ([1, 0, 0].map (V.int .i64)) rfl pure_ints («as» := [RV a0, RV a0]) (by simp [V.sub, fz1, sub_RV]; rfl) (rsame_ret a0 a0 (by decide) (by decide)) (by simp) ?_
  simp -dsimp -implicitDefEqProofs (disch := (first | assumption | omega | (simp only [nats_len, List.length_map, List.length_set, List.length_replicate, List.length_append, List.length_range, upto_len, els_len, List.length_cons, List.length_nil] <;> omega) | (apply isPure_intro <;> simp))) only [go_sem, na, nb, List.length_map, ga0, ga1, gb0, gb1, gb2]
  refine callB_fr1 56 ([0, 0, 1].map (V.int .i64)) rfl pure_ints («as» := [RV a1, RV a1]) (by simp [V.sub, fz1, sub_RV]; rfl) (rsame_ret a1 a1 (by decide) (by decide)) (by simp) ?_
  simp -dsimp -implicitDefEqProofs (disch := (first | assumption | omega | (simp only [nats_len, List.length_map, List.length_set, List.length_replicate, List.length_append, List.length_range, upto_len, els_len, List.length_cons, List.length_nil] <;> omega) | (apply isPure_intro <;> simp))) only [go_sem, na, nb, List.length_map, ga0, ga1, gb0, gb1, gb2]
  refine callB_fr1 63 ([-100, -50, 100, 0, 0].map (V.int .i64)) rfl pure_ints («as» := [RV b0, RV b0]) (by simp [V.sub, fz1, sub_RV]; rfl) (rsame_ret b0 b0 (by decide) (by decide)) (by simp) ?_
  simp -dsimp -implicitDefEqProofs (disch := (first | assumption | omega | (simp only [nats_len, List.length_map, List.length_set, List.length_replicate, List.length_append, List.length_range, upto_len, els_len, List.length_cons, List.length_nil] <;> omega) | (apply isPure_intro <;> simp))) only [go_sem, na, nb, List.length_map, ga0, ga1, gb0, gb1, gb2]
  refine callB_fr1 70 ([0, -1, 0, 1, 0].map (V.int .i64)) rfl pure_ints («as» := [RV b1, RV b1]) (by simp [V.sub, fz1, sub_RV]; rfl) (rsame_ret b1 b1 (by decide) (by decide)) (by simp) ?_
  simp -dsimp -implicitDefEqProofs (disch := (first | assumption | omega | (simp only [nats_len, List.length_map, List.length_set, List.length_replicate, List.length_append, List.length_range, upto_len, els_len, List.length_cons, List.length_nil] <;> omega) | (apply isPure_intro <;> simp))) only [go_sem, na, nb, List.length_map, ga0, ga1, gb0, gb1, gb2]
  refine callB_fr1 77 ([0, 0, 1, 0, 1].map (V.int .i64)) rfl pure_ints («as» := [RV b2, RV b2]) (by simp [V.sub, fz1, sub_RV]; rfl) (rsame_ret b2 b2 (by decide) (by decide)) (by simp) ?_
  simp -dsimp -implicitDefEqProofs (disch := (first | assumption | omega | (simp only [nats_len, List.length_map, List.length_set, List.length_replicate, List.length_append, List.length_range, upto_len, els_len, List.length_cons, List.length_nil] <;> omega) | (apply isPure_intro <;> simp))) only [go_sem, na, nb, List.length_map, ga0, ga1, gb0, gb1, gb2]
  refine callB_fr1 84 ([9, 0, 0].map (V.int .i64)) rfl pure_ints («as» := [RV a0, ints [9, 0, 0]]) (by simp [V.sub, fz1, sub_RV]; rfl) (cost_ret a0 [9, 0, 0] (rightB_iff.1 (by decide)) (stateB_iff.1 (by decide))) (by simp) ?_
  simp -dsimp -implicitDefEqProofs (disch := (first | assumption | omega | (simp only [nats_len, List.length_map, List.length_set, List.length_replicate, List.length_append, List.length_range, upto_len, els_len, List.length_cons, List.length_nil] <;> omega) | (apply isPure_intro <;> simp))) only [go_sem, show costR a0 [9, 0, 0] = 4 from by decide]
end Go.Gim

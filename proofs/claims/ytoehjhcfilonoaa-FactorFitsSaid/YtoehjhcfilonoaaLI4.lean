import Derived.Test.YtoehjhcfilonoaaLI1
/- Differences and sums of whole numbers of any size. -/
set_option maxRecDepth 100000
set_option linter.unusedSimpArgs false
set_option linter.unusedVariables false
namespace Go.Gim
open Go.Proofs
inductive Vw (H : Hp) (n0 : Nat) : V → List Nat → Prop where
  | sl (l : List Nat) : Vw H n0 (.sl (nats .u32 l)) l
  | own (b : Nat) (l : List Nat) (n : Nat) (hn : l.length = n) (hb : b < n0) (h : H b = some ⟨nats .u32 l, 1⟩) : Vw H n0 (.own b n) l
  | win (b off : Nat) (w l : List Nat) (n m : Nat) (hn : w.length = n) (hm : l.length = m) (hb : b < n0) (h : H b = some ⟨nats .u32 w, 1⟩) (ho : off + m ≤ n) (hl : l = (w.drop off).take m) : Vw H n0 (.win b n off m) l
theorem Vw.slOf {H : Hp} {n0 : Nat} {v : V} {l : List Nat} (h : Vw H n0 v l) : slOf H v = some (nats .u32 l) := by
  cases h with
  | sl => rfl
  | own b l n hn hb h => exact slOf_own h (by rw [nats_len, hn])
  | win b off w l n m hn hm hb h ho hl =>
    simp only [Go.Gim.slOf, h, nats_len]
    rw [if_pos ⟨hn, ho⟩, hl]; simp [nats, List.map_drop, List.map_take]
theorem Vw.same {H H' : Hp} {n0 n1 : Nat} {v : V} {l : List Nat} (h : Vw H n0 v l) (hH : ∀ b, b < n0 → H' b = H b) (hn : n0 ≤ n1) : Vw H' n1 v l := by
  cases h with
  | sl => exact .sl _
  | own b l n hn hb h => exact .own b l n hn (by omega) (by rw [hH b hb]; exact h)
  | win b off w l n m hn hm hb h ho hl => exact .win b off w l n m hn hm (by omega) (by rw [hH b hb]; exact h) ho hl
theorem Vw.isnil {H : Hp} {n0 nx : Nat} {v : V} {l : List Nat} {neg : Bool} {Kn : V → Prop} {u : Dep Kn} (h : Vw H n0 v l) (hne : l ≠ []) (hk : Kn (.bool neg)) : isnilB false nx H 0 neg v Kn u := by
  obtain ⟨x, l', rfl⟩ := List.exists_cons_of_ne_nil hne
  cases h with
  | sl => exact hk
  | own b l n hn hb h => subst hn; exact ⟨⟨_, h, by rw [nats_len]; rfl⟩, (fun h => by cases h), hk⟩
  | win b off w l n m hn hm hb h ho hl => subst hm; exact ⟨⟨_, h, by rw [nats_len]; exact hn⟩, (fun h => by cases h), hk⟩
theorem Vw.len {H : Hp} {n0 : Nat} {v : V} {l : List Nat} (h : Vw H n0 v l) (nx : Nat) : lenB false nx H false v = some (.int .i64 l.length) := by
  cases h with
  | sl => simp [lenB, lenV, nats_len]
  | own b l n hn hb h => simp [lenB, h, nats_len, hn]
  | win b off w l n m hn hm hb h ho hl => simp [lenB, lenV, hm]
theorem Vw.read {H : Hp} {n0 : Nat} {v : V} {l : List Nat} (h : Vw H n0 v l) {j : Nat} (hj : j < l.length) : ∃ p, (∀ (k : IntKind) (nx : Nat) (Kn : V → Prop) (u : Dep Kn), Kn p → idxB false nx H 1 v (.int k (j : Int)) Kn u) ∧ ∀ (nx : Nat) (F : V → Prop) (u : Dep F), F (.int .u32 (l.getD j 0 : Nat)) → opt (loadV false nx H 1 false p) F u := by
  cases h with
  | sl => exact ⟨_, fun k nx Kn u hk => idxB_sl (by omega) (by rw [Int.toNat_natCast]; exact nats_getD hj) rfl hk, fun nx F u hf => ⟨_, rfl, hf⟩⟩
  | own b l n hn hb h => exact ⟨.ptr b n j 0, fun k nx Kn u hk => idxB_own (by omega) (by omega) h (by rw [nats_len, hn]) rfl (fun h => by cases h) (by rw [Int.toNat_natCast]; exact hk), fun nx F u hf => load_own (fun h => by cases h) h (by rw [nats_len, hn]) (nats_getD hj) rfl rfl hf⟩
  | win b off w l n m hn hm hb h ho hl => exact ⟨.ptr b n (off + j) 0, fun k nx Kn u hk => idxB_win (by omega) (by omega) ho h (by rw [nats_len, hn]) rfl (fun h => by cases h) (by rw [Int.toNat_natCast]; exact hk), fun nx F u hf => load_own (fun h => by cases h) h (by rw [nats_len, hn]) (nats_getD (by omega)) rfl rfl (by
      have e : l.getD j 0 = w.getD (off + j) 0 := by
        rw [hl]; simp [List.getD_eq_getElem?_getD, show j < m by omega]
      rw [← e]; exact hf)⟩
end Go.Gim

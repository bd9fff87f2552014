import Derived.Test.YtoehjhcfilonoaaF12
import Derived.RangeFuncCalls
import Derived.OrdersIn
import Derived.TacticsIn
/- What holds of code as data holds of it in a round of a loop over a function too. -/
set_option linter.unusedVariables false
set_option linter.unusedSimpArgs false
namespace Go.Gim
open Go.RowKit
/-- No fence but that it is a round. -/
abbrev FR (l : Nat) : Fence := Fence.wide.inRound l
theorem opIn {P : Program} {o : Oper} {a : Act} {w : World} {K : Act → World → Prop} {Q : Exit → Act → World → Prop} {l n : Nat} (hd : ∀ c, o.op ≠ .defer c) (h : o.wp P a w K Q) : o.wpIn (FR l) n P a w K Q := by
  refine ⟨fun _ _ => trivial, ?_⟩
  rw [Oper.semAt_eq _ _ _ hd]
  unfold Oper.wp at h
  generalize (execOp a.eval o).run P w = r at h ⊢
  cases r with
  | ok x w' =>
    cases x with
    | value v => exact h
    | skip => exact h
    | defer d => exact h
    | enter f args => exact ⟨fun h0 => (by cases (show (false : Bool) = true from h0)), CallsIn.inRound l (callsIn_wide.2 h)⟩
    | row row args =>
      refine ⟨fun h0 => (by cases (show (false : Bool) = true from h0)), fun c cs _ => ?_⟩
      obtain ⟨v, w'', r, s⟩ := h c cs
      exact ⟨v, w'', r, stepsIn_wide.2 s⟩
    | _ => exact h.elim
  | halt e w' =>
    cases e with
    | panic v => exact h
    | _ => exact h.elim
theorem opsIn {P : Program} {ops : Array Oper} {Q : Exit → Act → World → Prop} {l n : Nat} (hd : ∀ (i : Nat) (o : Oper), ops[i]? = some o → ∀ c, o.op ≠ .defer c) (hQ : ¬ LetsOut Q) : ∀ (is : List Nat) (a : Act) (w : World), wpOps P ops Q is a w → wpOpsIn (FR l) n P ops Q is a w
  | [], a, w, h => h
  | i :: rest, a, w, h => by
    simp only [wpOps] at h
    simp only [wpOpsIn]
    split at h
    · rename_i ho
      simp only [ho]
      exact opsIn hd hQ rest a w h
    · rename_i o ho
      simp only [ho]
      split at h
      · rename_i hw
        rw [if_pos hw]
        rcases h with h | h
        · exact opIn (hd i o ho) (Oper.wp_mono (fun a w h => opsIn hd hQ rest a w h) h)
        · exact absurd h.2 hQ
      · rename_i hw
        rw [if_neg hw]
        exact ⟨fun _ _ => trivial, opsIn hd hQ rest _ _ h⟩
theorem anyIn {P : Program} {md : Region.Mode} {ops : Array Oper} {Q : Exit → Act → World → Prop} {l n : Nat} (hd : ∀ (i : Nat) (o : Oper), ops[i]? = some o → ∀ c, o.op ≠ .defer c) (hQ : ¬ LetsOut Q) : ∀ (fuel : Nat) (b : Array Bool) (a : Act) (w : World), wpAny P md ops Q fuel b a w → wpAnyIn (FR l) n P md ops Q fuel b a w
  | 0, b, a, w, h => h
  | fuel + 1, b, a, w, h => by
    simp only [wpAny] at h
    simp only [wpAnyIn]
    refine ⟨h.1, fun i hi => ?_⟩
    have h2 := h.2 i hi
    unfold wpOp at h2
    unfold wpOpIn
    split at h2
    · rename_i ho
      simp only [ho]
      exact anyIn hd hQ fuel _ a w h2
    · rename_i o ho
      simp only [ho]
      split at h2
      · rename_i hw
        rw [if_pos hw]
        rcases h2 with h2 | h2
        · exact opIn (hd i o ho) (Oper.wp_mono (fun a w h => anyIn hd hQ fuel _ a w h) h2)
        · exact absurd h2.2 hQ
      · rename_i hw
        rw [if_neg hw]
        exact ⟨fun _ _ => trivial, anyIn hd hQ fuel _ _ _ h2⟩
theorem mIt_nd {P : Program} {n : Nat} {ops : Array Oper} {o : Oper} {it : It} (h : mIt P n ops o it = true) : ∀ c, o.op ≠ .defer c := by
  intro c hc
  simp only [mIt, hc, mOp, Bool.and_eq_true] at h
  have h2 := h.2
  generalize it.op.base = op at h2
  unfold mOp0 at h2
  split at h2 <;> first | contradiction | (rename_i h _; cases h) | (rename_i h; cases h) | cases h2
/-- A loop by a measure of what the invariant speaks of. -/
theorem wpIn_loop_by {F : Fence} {n : Nat} {P : Program} {T : Type} {c : Code} {Q : Exit → Act → World → Prop} {a : Act} {w : World} (R : T → Act → World → Prop) (μ : T → Nat) {t : T} (h₀ : R t a w)
    (round : ∀ t a w, R t a w → c.wpIn F n P (Exit.then (fun a' w' => ∃ t', R t' a' w' ∧ μ t' < μ t) Q) a w) : (Code.loop c).wpIn F n P Q a w := by
  have spec := fun a w => Classical.choose_spec (least_of (fun t => R t a w) μ)
  refine wpIn_loop (fun a w => ∃ t, R t a w) (fun a w => Classical.choose (least_of (fun t => R t a w) μ)) ⟨t, h₀⟩ fun a w hI => ?_
  obtain ⟨t, hR, ht⟩ := (spec a w).2 hI
  refine wpIn_mono (round t a w hR) fun e a' w' h => ?_
  cases e with
  | normal =>
    obtain ⟨t', h1, h2⟩ := h
    have := (spec a' w').1 t' h1
    exact ⟨⟨t', h1⟩, by omega⟩
  | _ => exact h

theorem W_soundIn {P : Program} {C : Ctx} {l0 n0 : Nat} : ∀ (k : K) (c : Code) (Q : AX → St → Prop) (S : St) (φ : Nat → Option Nat) (M : Nat → Prop) (a : Act) (w : World), mK P C.n k c = true → W P k Q S →
    Rel C (fun _ => False) S φ M a w → c.wpIn (FR l0) n0 P (Post C Q) a w := by
  intro k
  induction k with
  | skip =>
    intro c Q S φ M a w hm hW hR
    cases c <;> simp only [mK, reduceCtorEq] at hm
    exact wpIn_skip ⟨.normal, S, φ, M, trivial, hW, hR⟩
  | ret =>
    intro c Q S φ M a w hm hW hR
    cases c <;> simp only [mK, reduceCtorEq] at hm
    exact wpIn_ret ⟨.ret, S, φ, M, trivial, hW, hR⟩
  | exit i =>
    intro c Q S φ M a w hm hW hR
    cases c <;> simp only [mK, reduceCtorEq, beq_iff_eq] at hm
    subst hm
    exact wpIn_exit ⟨.exit i, S, φ, M, rfl, hW, hR⟩
  | seq k1 k2 ih1 ih2 =>
    intro c Q S φ M a w hm hW hR
    cases c <;> simp only [mK, reduceCtorEq, Bool.and_eq_true] at hm
    exact wpIn_seq (wpIn_mono (ih1 _ _ _ _ _ _ _ hm.1 hW hR) fun e a w h => post_then (P := P) h (fun S φ M h1 h2 => ih2 _ _ _ _ _ _ _ hm.2 h1 h2) fun _ h => h)
  | cond x k1 k2 ih1 ih2 =>
    intro c Q S φ M a w hm hW hR
    cases c <;> simp only [mK, reduceCtorEq, Bool.and_eq_true] at hm
    simp only [W] at hW
    split at hW
    · rename_i t ht
      have e := mX_sim ⟨hR.env, hR.gl⟩ hm.1.1
      rw [ht] at e
      exact wpIn_cond_split e.bool_inv (fun h => ih1 _ _ _ _ _ _ _ hm.1.2 (hW.1 h) hR) (fun h => ih2 _ _ _ _ _ _ _ hm.2 (hW.2 h) hR)
    · exact hW.elim
  | block id k1 ih =>
    intro c Q S φ M a w hm hW hR
    cases c <;> simp only [mK, reduceCtorEq, Bool.and_eq_true, beq_iff_eq] at hm
    obtain ⟨rfl, hm⟩ := hm
    refine wpIn_block (wpIn_mono (ih _ _ _ _ _ _ _ hm hW hR) fun e a w h => ?_)
    obtain ⟨e', S, φ, M, h1, h2, h3⟩ := h
    cases e <;> cases e' <;> simp only [exM] at h1
    · exact ⟨.normal, S, φ, M, trivial, h2, h3⟩
    · subst h1
      simp only [AX.inBlock] at h2
      simp only [Exit.inBlock]
      split
      · rename_i he; rw [if_pos he] at h2; exact ⟨.normal, S, φ, M, trivial, h2, h3⟩
      · rename_i he; rw [if_neg he] at h2; exact ⟨.exit _, S, φ, M, rfl, h2, h3⟩
    · exact ⟨.ret, S, φ, M, trivial, h2, h3⟩
  | loop k1 ih =>
    intro c Q S φ M a w hm hW hR
    cases c <;> simp only [mK, reduceCtorEq] at hm
    obtain ⟨I, μ, ⟨S0, hg0, h0⟩, hr⟩ := hW
    obtain ⟨φ0, M0, hR0⟩ := ghost_sound hg0 hR
    refine wpIn_loop_by (T := St) (fun S a w => I S ∧ ∃ φ M, Rel C (fun _ => False) S φ M a w) μ (t := S0) ⟨h0, φ0, M0, hR0⟩ fun S a w ⟨hI, φ, M, hR⟩ => ?_
    exact wpIn_mono (ih _ _ _ _ _ _ _ hm (hr S hI) hR) fun e a w h => post_then (P := P) h (fun S' φ M ⟨S'', hg, h1, h2⟩ h3 => by
      obtain ⟨φ', M', h4⟩ := ghost_sound hg h3
      exact ⟨S'', ⟨h1, φ', M', h4⟩, h2⟩) fun _ h => h
  | gh k1 ih =>
    intro c Q S φ M a w hm hW hR
    simp only [mK] at hm
    obtain ⟨S0, hg, hW⟩ := hW
    obtain ⟨φ', M', hR'⟩ := ghost_sound hg hR
    exact ih _ _ _ _ _ _ _ hm hW hR'
  | keep ks k1 ih =>
    intro c Q S φ M a w hm hW hR
    simp only [mK] at hm
    refine wpIn_mono (ih _ _ _ _ _ _ _ hm hW hR) fun e a w h => ?_
    obtain ⟨e', S, φ, M, h1, h2, h3⟩ := h
    cases e <;> cases e' <;> simp only [exM] at h1
    · exact ⟨.normal, S.keep ks, φ, M, trivial, h2, h3.weaken rfl h3.n0 (fun b hb => hb) fun s => E_keep⟩
    · exact ⟨.exit _, S, φ, M, h1, h2, h3⟩
    · exact ⟨.ret, S, φ, M, h1, h2, h3⟩
  | ops dr l =>
    intro c Q S φ M a w hm hW hR
    cases c <;> simp only [mK, reduceCtorEq, Bool.and_eq_true, beq_iff_eq] at hm
    rename_i id ops d
    obtain ⟨rfl, hm⟩ := hm
    simp only [mReg, Bool.and_eq_true, decide_eq_true_eq, List.all_eq_true, List.mem_range] at hm
    obtain ⟨⟨hl, hms⟩, hd⟩ := hm
    have hmi : ∀ (i : Nat) (o : Oper) (it : It), ops[i]? = some o → l[i]? = some it → mIt P C.n ops o it = true := fun i o it ho hi => by
      have := hms i (List.getElem?_eq_some_iff.1 hi).1
      rw [ho, hi] at this; exact this
    have hdf : ∀ (i : Nat) (o : Oper), ops[i]? = some o → ∀ c, o.op ≠ .defer c := fun i o ho => by
      have hi : i < l.length := by have := (Array.getElem?_eq_some_iff.1 ho).1; omega
      exact mIt_nd (hmi i o l[i] ho (List.getElem?_eq_getElem hi))
    have hQn : ¬ LetsOut (Post C Q) := fun ⟨a, w, e', S, φ, M, h1, _⟩ => by cases e' <;> exact h1
    obtain ⟨S', hst, hQ⟩ := WOps_steps hW
    have hpairs : (List.range' 0 l.length).zip l = pairs l := by rw [pairs, List.range_eq_range']
    rw [hpairs] at hst
    have hR0 : Rel C (DD (fun _ => False) l.length ⟨S.env, S.H, S.nx, S.nx + l.length⟩) ⟨S.env, S.H, S.nx, S.nx + l.length⟩ φ M a w := by
      have e : (DD (fun _ => False) l.length ⟨S.env, S.H, S.nx, S.nx + l.length⟩) = fun _ => False := by
        funext j
        refine propext ⟨fun h => ?_, False.elim⟩
        rcases h with h | ⟨h1, h2⟩
        · exact h
        · simp only at h2; omega
      rw [e]
      exact { hR with }
    have hend : ∀ D φ' M' a' w', (∀ j, D j → j < l.length) → S'.nx + l.length ≤ S'.hi → Rel C (DD D l.length S') S' φ' M' a' w' → Post C Q .normal a' w' := fun D φ' M' a' w' hD hhi hR' => by
      have hn := hR'.n0
      refine ⟨.normal, _, φ', M', trivial, hQ, hR'.weaken rfl (by show C.n0 ≤ S'.hi; omega) (fun b hb => ?_) fun s => .inl rfl⟩
      rcases hb with hb | hb | ⟨j, h1, h2⟩
      · exact .inl hb
      · exact .inr (.inl ⟨hb.1, by show b < S'.hi; omega⟩)
      · refine .inr (.inl ⟨by omega, ?_⟩)
        show b < S'.hi
        rcases h1 with h1 | ⟨_, h1⟩
        · have := hD j h1; omega
        · omega
    cases d with
    | false =>
      refine wpIn_region (opsIn hdf hQn _ _ _ ?_)
      have hmap : (pairs l).map (·.1) = List.range ops.size := by
        rw [hl, pairs]
        exact List.map_fst_zip (by simp)
      rw [← hmap]
      refine steps_sound (L := l.length) (fun p hp => ?_) (fun p hp => (List.getElem?_eq_some_iff.1 (pairs_mem hp)).1) (by rw [hmap]; exact List.nodup_range) (fun p _ h => h) (fun _ h => h.elim) (Nat.le_refl _) hst hR0 hend
      have hpl := pairs_mem hp
      have hlt : p.1 < ops.size := by rw [hl]; exact (List.getElem?_eq_some_iff.1 hpl).1
      exact ⟨ops[p.1], by simp [hlt], hmi _ _ _ (by simp [hlt]) hpl⟩
    | true =>
      simp only [if_true, Bool.and_eq_true] at hd
      refine wpIn_region_any hd.1 (anyIn hdf hQn _ _ _ _ ?_)
      have hfull : rem l (Array.replicate ops.size false) = pairs l := by
        unfold rem
        rw [List.filter_eq_self]
        intro p hp
        have hpl := pairs_mem hp
        have hlt : p.1 < ops.size := by rw [hl]; exact (List.getElem?_eq_some_iff.1 hpl).1
        simp [Array.getD, hlt]
      have hz : (fun i => (Array.replicate ops.size false).getD i false = true) = fun _ => False := by
        funext i
        simp only [Array.getD]
        split <;> simp
      refine any_sound hl hmi hd.2 _ _ ⟨S.env, S.H, S.nx, S.nx + l.length⟩ S' φ M a { w with drawn := w.drawn + 1 } (by simp) (by rw [hfull, pairs_length, hl]) (fun i hi => ?_) (by rw [hfull]; exact hst) (Nat.le_refl _) ?_ hend
      · have := congrFun hz i
        simp only [hi] at this
        exact absurd this.symm (by simp)
      · rw [hz]
        have hb : Below w.heap.size w { w with drawn := w.drawn + 1 } := ⟨rfl, rfl, rfl, Nat.le_refl _, fun _ _ => rfl⟩
        have t := Trans.below hR0.hp (fun _ h => h) hb
        have := hR0.trans (dst := none) (v := .undef) (x := Go.undef) t (.pur .undef) (fun d h => by cases h)
        simpa [St.put, Act.put] using this

end Go.Gim

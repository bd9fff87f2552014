/- Code and functions: what holds of the data holds of the machine's call. -/
import Derived.Test.YtoehjhcfilonoaaF9
set_option linter.unusedVariables false
set_option linter.unusedSimpArgs false
namespace Go.Gim
open Go.RowKit

def mReg (P : Program) (n : Nat) (ops : Array Oper) (dr : Bool) (l : List It) : Bool :=
  decide (ops.size = l.length) && ((List.range l.length).all fun i => match ops[i]?, l[i]? with | some o, some it => mIt P n ops o it | _, _ => false) &&
  (if dr then P.follows .mixedOrders && ordOk (prOf ops.toList) ops.toList l else true)

def mK (P : Program) (n : Nat) : K → Code → Bool
  | .keep _ k, c => mK P n k c
  | .skip, .skip => true
  | .ret, .ret => true
  | .exit i, .exit j => i == j
  | .seq a b, .seq c d => mK P n a c && mK P n b d
  | .cond x a b, .cond y c d => mX y x && mK P n a c && mK P n b d
  | .block i a, .block j c => i == j && mK P n a c
  | .loop a, .loop c => mK P n a c
  | .ops dr l, .region _ ops d => d == dr && mReg P n ops dr l
  | _, _ => false

def exM : Exit → AX → Prop
  | .normal, .normal => True
  | .exit i, .exit j => i = j
  | .ret, .ret => True
  | _, _ => False

/-- What holds of the machine behind a piece of code. -/
def Post (C : Ctx) (Q : AX → St → Prop) : Exit → Act → World → Prop := fun e a w => ∃ e' S φ M, exM e e' ∧ Q e' S ∧ Rel C (fun _ => False) S φ M a w

theorem Rel.weaken {C : Ctx} {D : Nat → Prop} {S : St} {φ : Nat → Option Nat} {M : Nat → Prop} {a : Act} {w : World} (h : Rel C D S φ M a w) {S' : St} (hH : S'.H = S.H) (hU : ∀ b, used S.nx D b → used S'.nx (fun _ => False) b)
    (he : ∀ s, S'.env s = S.env s ∨ S'.env s = .junk) : Rel C (fun _ => False) S' φ M a w := by
  have K : Carry φ φ M M w w S.H S'.H (used S.nx D) (used S'.nx (fun _ => False)) := by rw [hH]; exact .refl φ M w S.H _ _ hU
  refine { h with env := fun s => ?_, hp := ?_, loc := by rw [hH]; exact h.loc }
  · rcases he s with e | e
    · rw [e]; exact (h.env s).carry K
    · rw [e]; exact .pur (.junk _)
  · have := h.hp.carry (.refl φ M w S.H _ _ hU) fun b blk g _ _ => ⟨rfl, id⟩
    rw [hH]; exact this

theorem E_keep {env : Nat → V} {ks : List Nat} {s : Nat} : E (ks.map fun k => (k, env k)) s = env s ∨ E (ks.map fun k => (k, env k)) s = .junk := by
  induction ks with
  | nil => exact .inr rfl
  | cons k ks ih =>
    simp only [List.map_cons, E]
    split
    · rename_i h; subst h; exact .inl rfl
    · exact ih

theorem least_of {T : Type} (R : T → Prop) (μ : T → Nat) : ∃ m : Nat, (∀ t, R t → m ≤ μ t) ∧ ((∃ t, R t) → ∃ t, R t ∧ μ t = m) := by
  by_cases h : ∃ t, R t
  · obtain ⟨t, ht⟩ := h
    have key : ∀ n t, μ t = n → R t → ∃ m : Nat, (∀ t, R t → m ≤ μ t) ∧ ((∃ t, R t) → ∃ t, R t ∧ μ t = m) := by
      intro n
      induction n using Nat.strongRecOn with
      | _ n ih =>
        intro t hn hR
        by_cases hl : ∃ t', R t' ∧ μ t' < n
        · obtain ⟨t', h1, h2⟩ := hl
          exact ih _ h2 t' rfl h1
        · exact ⟨n, fun t' h1 => Nat.le_of_not_lt fun h2 => hl ⟨t', h1, h2⟩, fun _ => ⟨t, hR, hn⟩⟩
    exact key _ t rfl ht
  · exact ⟨0, fun t ht => (h ⟨t, ht⟩).elim, fun h' => (h h').elim⟩
/-- A loop by a measure of what the invariant speaks of. -/
theorem wp_loop_by {P : Program} {T : Type} {c : Code} {Q : Exit → Act → World → Prop} {a : Act} {w : World} (R : T → Act → World → Prop) (μ : T → Nat) {t : T} (h₀ : R t a w)
    (round : ∀ t a w, R t a w → c.wp P (Exit.then (fun a' w' => ∃ t', R t' a' w' ∧ μ t' < μ t) Q) a w) : (Code.loop c).wp P Q a w := by
  have spec := fun a w => Classical.choose_spec (least_of (fun t => R t a w) μ)
  refine wp_loop (fun a w => ∃ t, R t a w) (fun a w => Classical.choose (least_of (fun t => R t a w) μ)) ⟨t, h₀⟩ fun a w hI => ?_
  obtain ⟨t, hR, ht⟩ := (spec a w).2 hI
  refine wp_mono (round t a w hR) fun e a' w' h => ?_
  cases e with
  | normal =>
    obtain ⟨t', h1, h2⟩ := h
    have := (spec a' w').1 t' h1
    exact ⟨⟨t', h1⟩, by omega⟩
  | _ => exact h

theorem post_then {P : Program} {C : Ctx} {Kn : St → Prop} {Q : AX → St → Prop} {next : Act → World → Prop} {Q' : Exit → Act → World → Prop} {e : Exit} {a : Act} {w : World} (h : Post C (AX.then Kn Q) e a w)
    (hn : ∀ S φ M, Kn S → Rel C (fun _ => False) S φ M a w → next a w) (hq : ∀ e, Post C Q e a w → Q' e a w) : Exit.then next Q' e a w := by
  obtain ⟨e', S, φ, M, h1, h2, h3⟩ := h
  cases e <;> cases e' <;> simp only [exM] at h1
  · exact hn S φ M h2 h3
  · exact hq _ ⟨.exit _, S, φ, M, h1, h2, h3⟩
  · exact hq _ ⟨.ret, S, φ, M, h1, h2, h3⟩

theorem W_sound {P : Program} {C : Ctx} : ∀ (k : K) (c : Code) (Q : AX → St → Prop) (S : St) (φ : Nat → Option Nat) (M : Nat → Prop) (a : Act) (w : World), mK P C.n k c = true → W P k Q S →
    Rel C (fun _ => False) S φ M a w → c.wp P (Post C Q) a w := by
  intro k
  induction k with
  | skip =>
    intro c Q S φ M a w hm hW hR
    cases c <;> simp only [mK, reduceCtorEq] at hm
    exact wp_skip ⟨.normal, S, φ, M, trivial, hW, hR⟩
  | ret =>
    intro c Q S φ M a w hm hW hR
    cases c <;> simp only [mK, reduceCtorEq] at hm
    exact wp_ret ⟨.ret, S, φ, M, trivial, hW, hR⟩
  | exit i =>
    intro c Q S φ M a w hm hW hR
    cases c <;> simp only [mK, reduceCtorEq, beq_iff_eq] at hm
    subst hm
    exact wp_exit ⟨.exit i, S, φ, M, rfl, hW, hR⟩
  | seq k1 k2 ih1 ih2 =>
    intro c Q S φ M a w hm hW hR
    cases c <;> simp only [mK, reduceCtorEq, Bool.and_eq_true] at hm
    exact wp_seq (wp_mono (ih1 _ _ _ _ _ _ _ hm.1 hW hR) fun e a w h => post_then (P := P) h (fun S φ M h1 h2 => ih2 _ _ _ _ _ _ _ hm.2 h1 h2) fun _ h => h)
  | cond x k1 k2 ih1 ih2 =>
    intro c Q S φ M a w hm hW hR
    cases c <;> simp only [mK, reduceCtorEq, Bool.and_eq_true] at hm
    simp only [W] at hW
    split at hW
    · rename_i t ht
      have e := mX_sim hR.env hm.1.1
      rw [ht] at e
      exact wp_cond_split e.bool_inv (fun h => ih1 _ _ _ _ _ _ _ hm.1.2 (hW.1 h) hR) (fun h => ih2 _ _ _ _ _ _ _ hm.2 (hW.2 h) hR)
    · exact hW.elim
  | block id k1 ih =>
    intro c Q S φ M a w hm hW hR
    cases c <;> simp only [mK, reduceCtorEq, Bool.and_eq_true, beq_iff_eq] at hm
    obtain ⟨rfl, hm⟩ := hm
    refine wp_block (wp_mono (ih _ _ _ _ _ _ _ hm hW hR) fun e a w h => ?_)
    obtain ⟨e', S, φ, M, h1, h2, h3⟩ := h
    cases e <;> cases e' <;> simp only [exM] at h1
    · exact ⟨.normal, S, φ, M, trivial, h2, h3⟩
    · subst h1
      simp only [AX.inBlock] at h2
      simp only [Exit.inBlock]
      split
      · rename_i he; rw [if_pos he] at h2; exact ⟨.normal, S, φ, M, trivial, h2, h3⟩
      · rename_i he; rw [if_neg he] at h2; exact ⟨.exit _, S, φ, M, rfl, h2, h3⟩
    · exact ⟨.ret, S, φ, M, trivial, h2, h3⟩
  | loop k1 ih =>
    intro c Q S φ M a w hm hW hR
    cases c <;> simp only [mK, reduceCtorEq] at hm
    obtain ⟨I, μ, h0, hr⟩ := hW
    refine wp_loop_by (T := St) (fun S a w => I S ∧ ∃ φ M, Rel C (fun _ => False) S φ M a w) μ (t := S) ⟨h0, φ, M, hR⟩ fun S a w ⟨hI, φ, M, hR⟩ => ?_
    exact wp_mono (ih _ _ _ _ _ _ _ hm (hr S hI) hR) fun e a w h => post_then (P := P) h (fun S' φ M h1 h2 => ⟨S', ⟨h1.1, φ, M, h2⟩, h1.2⟩) fun _ h => h
  | keep ks k1 ih =>
    intro c Q S φ M a w hm hW hR
    simp only [mK] at hm
    refine wp_mono (ih _ _ _ _ _ _ _ hm hW hR) fun e a w h => ?_
    obtain ⟨e', S, φ, M, h1, h2, h3⟩ := h
    cases e <;> cases e' <;> simp only [exM] at h1
    · exact ⟨.normal, S.keep ks, φ, M, trivial, h2, h3.weaken rfl (fun b hb => hb) fun s => E_keep⟩
    · exact ⟨.exit _, S, φ, M, h1, h2, h3⟩
    · exact ⟨.ret, S, φ, M, h1, h2, h3⟩
  | ops dr l =>
    intro c Q S φ M a w hm hW hR
    cases c <;> simp only [mK, reduceCtorEq, Bool.and_eq_true, beq_iff_eq] at hm
    rename_i id ops d
    obtain ⟨rfl, hm⟩ := hm
    simp only [mReg, Bool.and_eq_true, decide_eq_true_eq, List.all_eq_true, List.mem_range] at hm
    obtain ⟨⟨hl, hms⟩, hd⟩ := hm
    have hmi : ∀ (i : Nat) (o : Oper) (it : It), ops[i]? = some o → l[i]? = some it → mIt P C.n ops o it = true := fun i o it ho hi => by
      have := hms i (List.getElem?_eq_some_iff.1 hi).1
      rw [ho, hi] at this; exact this
    obtain ⟨S', hst, hQ⟩ := WOps_steps hW
    have hnx : S'.nx = S.nx := by
      have : ∀ (l : List (Nat × It)) (S S' : St), Steps' P d l S S' → S'.nx = S.nx := by
        intro l
        induction l with
        | nil => intro S S' h; have h : S = S' := h; rw [h]
        | cons p l ih => intro S S' h; obtain ⟨S1, h1, h2⟩ := h; rw [ih _ _ h2, gstep_nx h1]
      exact this _ _ _ hst
    have hpairs : (List.range' 0 l.length).zip l = pairs l := by rw [pairs, List.range_eq_range']
    rw [hpairs] at hst
    have hend : ∀ D φ' M' a' w', (∀ j, D j → j < l.length) → Rel C D S' φ' M' a' w' → Post C Q .normal a' w' := fun D φ' M' a' w' hD hR' => by
      refine ⟨.normal, _, φ', M', trivial, hQ, hR'.weaken rfl (fun b hb => ?_) fun s => .inl rfl⟩
      rcases hb with hb | ⟨j, h1, h2⟩
      · exact .inl (by show b < S'.nx + _; omega)
      · have := hD j h1
        exact .inl (by show b < S'.nx + _; omega)
    cases d with
    | false =>
      refine wp_region ?_
      have hmap : (pairs l).map (·.1) = List.range ops.size := by
        rw [hl, pairs]
        exact List.map_fst_zip (by simp)
      rw [← hmap]
      refine steps_sound (fun p hp => ?_) (by rw [hmap]; exact List.nodup_range) (fun p _ h => h) hst hR fun φ' M' a' w' hR' => hend _ φ' M' a' w' (fun j hj => ?_) hR'
      · have hpl := pairs_mem hp
        have hlt : p.1 < ops.size := by rw [hl]; exact (List.getElem?_eq_some_iff.1 hpl).1
        exact ⟨ops[p.1], by simp [hlt], hmi _ _ _ (by simp [hlt]) hpl⟩
      · rcases hj with hj | hj
        · exact hj.elim
        · rw [hmap] at hj; have := List.mem_range.1 hj; omega
    | true =>
      simp only [if_true, Bool.and_eq_true] at hd
      refine wp_region_any hd.1 ?_
      have hfull : rem l (Array.replicate ops.size false) = pairs l := by
        unfold rem
        rw [List.filter_eq_self]
        intro p hp
        have hpl := pairs_mem hp
        have hlt : p.1 < ops.size := by rw [hl]; exact (List.getElem?_eq_some_iff.1 hpl).1
        simp [Array.getD, hlt]
      have hz : (fun i => (Array.replicate ops.size false).getD i false = true) = fun _ => False := by
        funext i
        simp only [Array.getD]
        split <;> simp
      refine any_sound hl hmi hd.2 _ _ S S' φ M a { w with drawn := w.drawn + 1 } (by simp) (by rw [hfull, pairs_length, hl]) (fun i hi => ?_) (by rw [hfull]; exact hst) ?_ hend
      · have := congrFun hz i
        simp only [hi] at this
        exact absurd this.symm (by simp)
      · rw [hz]
        have hb : Below w.heap.size w { w with drawn := w.drawn + 1 } := ⟨rfl, rfl, rfl, Nat.le_refl _, fun _ _ => rfl⟩
        have t : Trans φ φ M M (used S.nx fun _ => False) (used S.nx fun _ => False) w { w with drawn := w.drawn + 1 } S.H S.H := Trans.below hR.hp (fun _ h => h) hb
        have := hR.trans (dst := none) (v := .undef) (x := Go.undef) t (.pur .undef) (fun d h => by cases h)
        simpa [St.put, Act.put] using this

theorem WOps_mono {P : Program} {dr : Bool} {K1 K2 : St → Prop} (h : ∀ S, K1 S → K2 S) : ∀ {l : List It} {k : Nat} {S : St}, WOps P dr k l S K1 → WOps P dr k l S K2
  | [], k, S, hh => h S hh
  | it :: l, k, S, hh => by
    simp only [WOps] at hh ⊢
    split
    · rename_i hg
      simp only [hg] at hh
      obtain ⟨v, H, h1, h2⟩ := hh
      exact ⟨v, H, h1, WOps_mono h h2⟩
    · rename_i s want hg
      simp only [hg] at hh
      split
      · rename_i b hb
        simp only [hb] at hh
        exact ⟨fun e => by obtain ⟨v, H, h1, h2⟩ := hh.1 e; exact ⟨v, H, h1, WOps_mono h h2⟩, fun e => WOps_mono h (hh.2 e)⟩
      · rename_i hb
        simp only [hb] at hh
        exact WOps_mono h hh
      · rename_i h1 h2
        split at hh
        · rename_i b hb; exact absurd hb (h1 b)
        · rename_i hb; exact absurd hb h2
        · exact hh

theorem W_mono {P : Program} : ∀ {k : K} {Q1 Q2 : AX → St → Prop} {S : St}, (∀ e S, Q1 e S → Q2 e S) → W P k Q1 S → W P k Q2 S := by
  intro k
  induction k with
  | skip => exact fun h hW => h _ _ hW
  | ret => exact fun h hW => h _ _ hW
  | exit i => exact fun h hW => h _ _ hW
  | seq a b ih1 ih2 =>
    intro Q1 Q2 S h hW
    refine ih1 (fun e S he => ?_) hW
    cases e with
    | normal => exact ih2 h he
    | exit i => exact h _ _ he
    | ret => exact h _ _ he
  | cond x a b ih1 ih2 =>
    intro Q1 Q2 S h hW
    simp only [W] at hW ⊢
    split
    · rename_i t ht
      simp only [ht] at hW
      exact ⟨fun e => ih1 h (hW.1 e), fun e => ih2 h (hW.2 e)⟩
    · rename_i h1
      split at hW
      · rename_i t ht; exact absurd ht (h1 t)
      · exact hW
  | block id a ih =>
    intro Q1 Q2 S h hW
    refine ih (fun e S he => ?_) hW
    cases e with
    | normal => exact h _ _ he
    | ret => exact h _ _ he
    | exit i =>
      simp only [AX.inBlock] at he ⊢
      split
      · rename_i hi; rw [if_pos hi] at he; exact h _ _ he
      · rename_i hi; rw [if_neg hi] at he; exact h _ _ he
  | loop a ih =>
    intro Q1 Q2 S h hW
    obtain ⟨I, μ, h0, hr⟩ := hW
    refine ⟨I, μ, h0, fun S hS => ih (fun e S he => ?_) (hr S hS)⟩
    cases e with
    | normal => exact he
    | exit i => exact h _ _ he
    | ret => exact h _ _ he
  | ops dr l => exact fun h hW => WOps_mono (fun S => h _ _) hW
  | keep ks a ih =>
    intro Q1 Q2 S h hW
    refine ih (fun e S he => ?_) hW
    cases e with
    | normal => exact h _ _ he
    | exit i => exact h _ _ he
    | ret => exact h _ _ he
end Go.Gim

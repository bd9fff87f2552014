import Derived.Test.YtjmbcnfhonfpkaaGreatDoorF9
/- Code and functions: what holds of the data holds of the machine's call. -/
set_option linter.unusedVariables false
set_option linter.unusedSimpArgs false
namespace Go.Gim
open Go.RowKit

def mReg (P : Program) (n : Nat) (ops : Array Oper) (dr : Bool) (l : List It) : Bool :=
 decide (ops.size = l.length) && ((List.range l.length).all fun i => match ops[i]?, l[i]? with | some o, some it => mIt P n ops o it | _, _ => false) &&
 (if dr then P.follows .mixedOrders && ordOk (prOf ops.toList) ops.toList l else true)

def mK (P : Program) (n : Nat) : K → Code → Bool
 | .keep _ k, c => mK P n k c
 | .gh k, c => mK P n k c
 | .skip, .skip => true
 | .skip, .label _ => true
 | .scope a, .scope c => mK P n a c
 | .ret, .ret => true
 | .exit i, .exit j => i == j
 | .seq a b, .seq c d => mK P n a c && mK P n b d
 | .cond x a b, .cond y c d => mX y x && mK P n a c && mK P n b d
 | .block i a, .block j c => i == j && mK P n a c
 | .loop a, .loop c => mK P n a c
 | .ops dr l, .region _ ops d => d == dr && mReg P n ops dr l
 | _, _ => false

def exM : Exit → AX → Prop
 | .normal, .normal => True
 | .exit i, .exit j => i = j
 | .ret, .ret => True
 | _, _ => False

def Post (C : Ctx) (Q : AX → St → Prop) : Exit → Act → World → Prop := fun e a w => ∃ e' S φ M, exM e e' ∧ Q e' S ∧ Rel C (fun _ => False) S φ M a w

theorem Rel.weaken {C : Ctx} {D : Nat → Prop} {S : St} {φ : Nat → Option Nat} {M : Nat → Prop} {a : Act} {w : World} (h : Rel C D S φ M a w) {S' : St} (hH : S'.H = S.H) (hn : C.n0 ≤ S'.nx) (hU : ∀ b, used C S.nx D b → used C S'.nx (fun _ => False) b)
  (he : ∀ s, S'.env s = S.env s ∨ S'.env s = .junk) : Rel C (fun _ => False) S' φ M a w := by
 have K : Carry φ φ M M w w S.H S'.H (used C S.nx D) (used C S'.nx (fun _ => False)) := by rw [hH]; exact .refl φ M w S.H _ _ hU
 refine { h with co := h.co.trans K, n0 := hn, env := fun s => ?_, hp := ?_, loc := by rw [hH]; exact h.loc }
 ·rcases he s with e | e
  ·rw [e]; exact (h.env s).carry K
  ·rw [e]; exact .pur (.junk _)
 ·have := h.hp.carry (.refl φ M w S.H _ _ hU) fun b blk g _ _ => ⟨rfl, id⟩
  rw [hH]; exact this
theorem Rel.weak {C : Ctx} {D : Nat → Prop} {S : St} {φ : Nat → Option Nat} {M : Nat → Prop} {a : Act} {w : World} (h : Rel C D S φ M a w) {env : Nat → V} (he : ∀ s, env s = S.env s ∨ (S.env s = .nil ∧ env s = .sl [])) : Rel C D ⟨env, S.H, S.nx, S.hi⟩ φ M a w := by
 refine { h with env := fun s => ?_ }
 rcases he s with e | ⟨e1, e2⟩
 ·show Sim φ M w S.H (used C S.nx D) (env s) _
  rw [e]; exact h.env s
 ·show Sim φ M w S.H (used C S.nx D) (env s) _
  have := h.env s
  rw [e1] at this
  rw [e2]
  generalize a.tmps.getD s Go.undef = x at this
  cases this with
  | pur hp => cases hp with | nil a => exact .pur (.sl0 _ _)
theorem ghost_sound {C : Ctx} {S S' : St} (h : Ghost S S') : ∀ {φ : Nat → Option Nat} {M : Nat → Prop} {a : Act} {w : World}, Rel C (fun _ => False) S φ M a w → ∃ φ' M', Rel C (fun _ => False) S' φ' M' a w := by
 induction h with
 | refl S => exact fun h => ⟨_, _, h⟩
 | trans _ _ ih1 ih2 => exact fun h => by obtain ⟨φ', M', h'⟩ := ih1 h; exact ih2 h'
 | fz S g hg => exact fun h => ⟨_, _, h.fz hg⟩
 | drop S H' hd => exact fun h => ⟨_, _, h.drop hd⟩
 | weak S env he => exact fun h => ⟨_, _, h.weak he⟩
 | up S n hn =>
  exact fun h => ⟨_, _, h.weaken (S' := ⟨S.env, S.H, n, n⟩) rfl (Nat.le_trans h.n0 hn) (fun b hb => by
   rcases hb with hb | hb | ⟨j, h1, _⟩
   ·exact .inl hb
   ·exact .inr (.inl ⟨hb.1, by show b < n; omega⟩)
   ·exact h1.elim) fun s => .inl rfl⟩

theorem E_keep {env : Nat → V} {ks : List Nat} {s : Nat} : E (ks.map fun k => (k, env k)) s = env s ∨ E (ks.map fun k => (k, env k)) s = .junk := by
 induction ks with
 | nil => exact .inr rfl
 | cons k ks ih =>
  simp only [List.map_cons, E]
  split
  ·rename_i h; subst h; exact .inl rfl
  ·exact ih

theorem zhm {T : Type} (R : T → Prop) (μ : T → Nat) : ∃ m : Nat, (∀ t, R t → m ≤ μ t) ∧ ((∃ t, R t) → ∃ t, R t ∧ μ t = m) := by
 by_cases h : ∃ t, R t
 ·obtain ⟨t, ht⟩ := h
  have key : ∀ n t, μ t = n → R t → ∃ m : Nat, (∀ t, R t → m ≤ μ t) ∧ ((∃ t, R t) → ∃ t, R t ∧ μ t = m) := by
   intro n
   induction n using Nat.strongRecOn with
   | _ n ih =>
    intro t hn hR
    by_cases hl : ∃ t', R t' ∧ μ t' < n
    ·obtain ⟨t', h1, h2⟩ := hl
     exact ih _ h2 t' rfl h1
    ·exact ⟨n, fun t' h1 => Nat.le_of_not_lt fun h2 => hl ⟨t', h1, h2⟩, fun _ => ⟨t, hR, hn⟩⟩
  exact key _ t rfl ht
 ·exact ⟨0, fun t ht => (h ⟨t, ht⟩).elim, fun h' => (h h').elim⟩
theorem wp_loop_by {P : Program} {T : Type} {c : Code} {Q : Exit → Act → World → Prop} {a : Act} {w : World} (R : T → Act → World → Prop) (μ : T → Nat) {t : T} (h₀ : R t a w)
  (round : ∀ t a w, R t a w → c.wp P (Exit.then (fun a' w' => ∃ t', R t' a' w' ∧ μ t' < μ t) Q) a w) : (Code.loop c).wp P Q a w := by
 have spec := fun a w => Classical.choose_spec (zhm (fun t => R t a w) μ)
 refine wp_loop (fun a w => ∃ t, R t a w) (fun a w => Classical.choose (zhm (fun t => R t a w) μ)) ⟨t, h₀⟩ fun a w hI => ?_
 obtain ⟨t, hR, ht⟩ := (spec a w).2 hI
 refine wp_mono (round t a w hR) fun e a' w' h => ?_
 cases e with
 | normal =>
  obtain ⟨t', h1, h2⟩ := h
  have := (spec a' w').1 t' h1
  exact ⟨⟨t', h1⟩, by omega⟩
 | _ => exact h

theorem post_then {P : Program} {C : Ctx} {Kn : St → Prop} {Q : AX → St → Prop} {next : Act → World → Prop} {Q' : Exit → Act → World → Prop} {e : Exit} {a : Act} {w : World} (h : Post C (AX.then Kn Q) e a w)
  (hn : ∀ S φ M, Kn S → Rel C (fun _ => False) S φ M a w → next a w) (hq : ∀ e, Post C Q e a w → Q' e a w) : Exit.then next Q' e a w := by
 obtain ⟨e', S, φ, M, h1, h2, h3⟩ := h
 cases e <;> cases e' <;> simp only [exM] at h1
 ·exact hn S φ M h2 h3
 ·exact hq _ ⟨.exit _, S, φ, M, h1, h2, h3⟩
 ·exact hq _ ⟨.ret, S, φ, M, h1, h2, h3⟩

theorem W_sound {P : Program} {C : Ctx} : ∀ (k : K) (c : Code) (Q : AX → St → Prop) (S : St) (φ : Nat → Option Nat) (M : Nat → Prop) (a : Act) (w : World), mK P C.n k c = true → W P k Q S →
  Rel C (fun _ => False) S φ M a w → c.wp P (Post C Q) a w := by
 intro k
 induction k with
 | skip =>
  intro c Q S φ M a w hm hW hR
  cases c <;> simp only [mK, reduceCtorEq] at hm
  ·exact wp_skip ⟨.normal, S, φ, M, trivial, hW, hR⟩
  ·exact wp_label ⟨.normal, S, φ, M, trivial, hW, hR⟩
 | ret =>
  intro c Q S φ M a w hm hW hR
  cases c <;> simp only [mK, reduceCtorEq] at hm
  exact wp_ret ⟨.ret, S, φ, M, trivial, hW, hR⟩
 | exit i =>
  intro c Q S φ M a w hm hW hR
  cases c <;> simp only [mK, reduceCtorEq, beq_iff_eq] at hm
  subst hm
  exact wp_exit ⟨.exit i, S, φ, M, rfl, hW, hR⟩
 | seq k1 k2 ih1 ih2 =>
  intro c Q S φ M a w hm hW hR
  cases c <;> simp only [mK, reduceCtorEq, Bool.and_eq_true] at hm
  exact wp_seq (wp_mono (ih1 _ _ _ _ _ _ _ hm.1 hW hR) fun e a w h => post_then (P := P) h (fun S φ M h1 h2 => ih2 _ _ _ _ _ _ _ hm.2 h1 h2) fun _ h => h)
 | cond x k1 k2 ih1 ih2 =>
  intro c Q S φ M a w hm hW hR
  cases c <;> simp only [mK, reduceCtorEq, Bool.and_eq_true] at hm
  simp only [W] at hW
  split at hW
  ·rename_i t ht
   have e := za4 ⟨hR.env, hR.gl⟩ hm.1.1
   rw [ht] at e
   exact wp_cond_split e.bool_inv (fun h => ih1 _ _ _ _ _ _ _ hm.1.2 (hW.1 h) hR) (fun h => ih2 _ _ _ _ _ _ _ hm.2 (hW.2 h) hR)
  ·exact hW.elim
 | block id k1 ih =>
  intro c Q S φ M a w hm hW hR
  cases c <;> simp only [mK, reduceCtorEq, Bool.and_eq_true, beq_iff_eq] at hm
  obtain ⟨rfl, hm⟩ := hm
  refine wp_block (wp_mono (ih _ _ _ _ _ _ _ hm hW hR) fun e a w h => ?_)
  obtain ⟨e', S, φ, M, h1, h2, h3⟩ := h
  cases e <;> cases e' <;> simp only [exM] at h1
  ·exact ⟨.normal, S, φ, M, trivial, h2, h3⟩
  ·subst h1
   simp only [AX.inBlock] at h2
   simp only [Exit.inBlock]
   split
   ·rename_i he; rw [if_pos he] at h2; exact ⟨.normal, S, φ, M, trivial, h2, h3⟩
   ·rename_i he; rw [if_neg he] at h2; exact ⟨.exit _, S, φ, M, rfl, h2, h3⟩
  ·exact ⟨.ret, S, φ, M, trivial, h2, h3⟩
 | loop k1 ih =>
  intro c Q S φ M a w hm hW hR
  cases c <;> simp only [mK, reduceCtorEq] at hm
  obtain ⟨I, μ, ⟨S0, hg0, h0⟩, hr⟩ := hW
  obtain ⟨φ0, M0, hR0⟩ := ghost_sound hg0 hR
  refine wp_loop_by (T := St) (fun S a w => I S ∧ ∃ φ M, Rel C (fun _ => False) S φ M a w) μ (t := S0) ⟨h0, φ0, M0, hR0⟩ fun S a w ⟨hI, φ, M, hR⟩ => ?_
  exact wp_mono (ih _ _ _ _ _ _ _ hm (hr S hI) hR) fun e a w h => post_then (P := P) h (fun S' φ M ⟨S'', hg, h1, h2⟩ h3 => by
   obtain ⟨φ', M', h4⟩ := ghost_sound hg h3
   exact ⟨S'', ⟨h1, φ', M', h4⟩, h2⟩) fun _ h => h
 | scope k1 ih =>
  intro c Q S φ M a w hm hW hR
  cases c <;> simp only [mK, reduceCtorEq] at hm
  refine wp_scope_straight (wp_mono (ih _ _ _ _ _ _ _ hm hW hR) fun e a w h => ?_)
  cases e with
  | goto l => obtain ⟨e', S, φ, M, h1, _⟩ := h; cases e' <;> exact h1.elim
  | _ => exact h
 | gh k1 ih =>
  intro c Q S φ M a w hm hW hR
  simp only [mK] at hm
  obtain ⟨S0, hg, hW⟩ := hW
  obtain ⟨φ', M', hR'⟩ := ghost_sound hg hR
  exact ih _ _ _ _ _ _ _ hm hW hR'
 | keep ks k1 ih =>
  intro c Q S φ M a w hm hW hR
  simp only [mK] at hm
  refine wp_mono (ih _ _ _ _ _ _ _ hm hW hR) fun e a w h => ?_
  obtain ⟨e', S, φ, M, h1, h2, h3⟩ := h
  cases e <;> cases e' <;> simp only [exM] at h1
  ·exact ⟨.normal, S.keep ks, φ, M, trivial, h2, h3.weaken rfl h3.n0 (fun b hb => hb) fun s => E_keep⟩
  ·exact ⟨.exit _, S, φ, M, h1, h2, h3⟩
  ·exact ⟨.ret, S, φ, M, h1, h2, h3⟩
 | ops dr l =>
  intro c Q S φ M a w hm hW hR
  cases c <;> simp only [mK, reduceCtorEq, Bool.and_eq_true, beq_iff_eq] at hm
  rename_i id ops d
  obtain ⟨rfl, hm⟩ := hm
  simp only [mReg, Bool.and_eq_true, decide_eq_true_eq, List.all_eq_true, List.mem_range] at hm
  obtain ⟨⟨hl, hms⟩, hd⟩ := hm
  have hmi : ∀ (i : Nat) (o : Oper) (it : It), ops[i]? = some o → l[i]? = some it → mIt P C.n ops o it = true := fun i o it ho hi => by
   have := hms i (List.getElem?_eq_some_iff.1 hi).1
   rw [ho, hi] at this; exact this
  obtain ⟨S', hst, hQ⟩ := WOps_steps hW
  have hpairs : (List.range' 0 l.length).zip l = pairs l := by rw [pairs, List.range_eq_range']
  rw [hpairs] at hst
  have hR0 : Rel C (DD (fun _ => False) l.length ⟨S.env, S.H, S.nx, S.nx + l.length⟩) ⟨S.env, S.H, S.nx, S.nx + l.length⟩ φ M a w := by
   have e : (DD (fun _ => False) l.length ⟨S.env, S.H, S.nx, S.nx + l.length⟩) = fun _ => False := by
    funext j
    refine propext ⟨fun h => ?_, False.elim⟩
    rcases h with h | ⟨h1, h2⟩
    ·exact h
    ·simp only at h2; omega
   rw [e]
   exact { hR with }
  have hend : ∀ D φ' M' a' w', (∀ j, D j → j < l.length) → S'.nx + l.length ≤ S'.hi → Rel C (DD D l.length S') S' φ' M' a' w' → Post C Q .normal a' w' := fun D φ' M' a' w' hD hhi hR' => by
   have hn := hR'.n0
   refine ⟨.normal, _, φ', M', trivial, hQ, hR'.weaken rfl (by show C.n0 ≤ S'.hi; omega) (fun b hb => ?_) fun s => .inl rfl⟩
   rcases hb with hb | hb | ⟨j, h1, h2⟩
   ·exact .inl hb
   ·exact .inr (.inl ⟨hb.1, by show b < S'.hi; omega⟩)
   ·refine .inr (.inl ⟨by omega, ?_⟩)
    show b < S'.hi
    rcases h1 with h1 | ⟨_, h1⟩
    ·have := hD j h1; omega
    ·omega
  cases d with
  | false =>
   refine wp_region ?_
   have hmap : (pairs l).map (·.1) = List.range ops.size := by
    rw [hl, pairs]
    exact List.map_fst_zip (by simp)
   rw [← hmap]
   refine steps_sound (L := l.length) (fun p hp => ?_) (fun p hp => (List.getElem?_eq_some_iff.1 (pairs_mem hp)).1) (by rw [hmap]; exact List.nodup_range) (fun p _ h => h) (fun _ h => h.elim) (Nat.le_refl _) hst hR0 hend
   have hpl := pairs_mem hp
   have hlt : p.1 < ops.size := by rw [hl]; exact (List.getElem?_eq_some_iff.1 hpl).1
   exact ⟨ops[p.1], by simp [hlt], hmi _ _ _ (by simp [hlt]) hpl⟩
  | true =>
   simp only [if_true, Bool.and_eq_true] at hd
   refine wp_region_any hd.1 ?_
   have hfull : rem l (Array.replicate ops.size false) = pairs l := by
    unfold rem
    rw [List.filter_eq_self]
    intro p hp
    have hpl := pairs_mem hp
    have hlt : p.1 < ops.size := by rw [hl]; exact (List.getElem?_eq_some_iff.1 hpl).1
    simp [Array.getD, hlt]
   have hz : (fun i => (Array.replicate ops.size false).getD i false = true) = fun _ => False := by
    funext i
    simp only [Array.getD]
    split <;> simp
   refine any_sound hl hmi hd.2 _ _ ⟨S.env, S.H, S.nx, S.nx + l.length⟩ S' φ M a { w with drawn := w.drawn + 1 } (by simp) (by rw [hfull, pairs_length, hl]) (fun i hi => ?_) (by rw [hfull]; exact hst) (Nat.le_refl _) ?_ hend
   ·have := congrFun hz i
    simp only [hi] at this
    exact absurd this.symm (by simp)
   ·rw [hz]
    have hb : Below w.heap.size w { w with drawn := w.drawn + 1 } := ⟨rfl, rfl, rfl, Nat.le_refl _, fun _ _ => rfl⟩
    have t := Trans.below hR0.hp (fun _ h => h) hb
    have := hR0.trans (dst := none) (v := .undef) (x := Go.undef) t (.pur .undef) (fun d h => by cases h)
    simpa [St.put, Act.put] using this

theorem WOps_mono {P : Program} {dr : Bool} {K1 K2 : St → Prop} (h : ∀ S, K1 S → K2 S) : ∀ {l : List It} {k : Nat} {S : St}, WOps P dr k l S K1 → WOps P dr k l S K2
 | [], k, S, hh => h S hh
 | it :: l, k, S, hh => by
  simp only [WOps] at hh ⊢
  split
  ·rename_i hg
   simp only [hg] at hh
   obtain ⟨v, S1, h1, h2⟩ := hh
   exact ⟨v, S1, h1, WOps_mono h h2⟩
  ·rename_i s want hg
   simp only [hg] at hh
   split
   ·rename_i b hb
    simp only [hb] at hh
    exact ⟨fun e => by obtain ⟨v, S1, h1, h2⟩ := hh.1 e; exact ⟨v, S1, h1, WOps_mono h h2⟩, fun e => WOps_mono h (hh.2 e)⟩
   ·rename_i hb
    simp only [hb] at hh
    exact WOps_mono h hh
   ·rename_i h1 h2
    split at hh
    ·rename_i b hb; exact absurd hb (h1 b)
    ·rename_i hb; exact absurd hb h2
    ·exact hh

theorem zez {P : Program} : ∀ {k : K} {Q1 Q2 : AX → St → Prop} {S : St}, (∀ e S, Q1 e S → Q2 e S) → W P k Q1 S → W P k Q2 S := by
 intro k
 induction k with
 | skip => exact fun h hW => h _ _ hW
 | ret => exact fun h hW => h _ _ hW
 | exit i => exact fun h hW => h _ _ hW
 | seq a b ih1 ih2 =>
  intro Q1 Q2 S h hW
  refine ih1 (fun e S he => ?_) hW
  cases e with
  | normal => exact ih2 h he
  | exit i => exact h _ _ he
  | ret => exact h _ _ he
 | cond x a b ih1 ih2 =>
  intro Q1 Q2 S h hW
  simp only [W] at hW ⊢
  split
  ·rename_i t ht
   simp only [ht] at hW
   exact ⟨fun e => ih1 h (hW.1 e), fun e => ih2 h (hW.2 e)⟩
  ·rename_i h1
   split at hW
   ·rename_i t ht; exact absurd ht (h1 t)
   ·exact hW
 | block id a ih =>
  intro Q1 Q2 S h hW
  refine ih (fun e S he => ?_) hW
  cases e with
  | normal => exact h _ _ he
  | ret => exact h _ _ he
  | exit i =>
   simp only [AX.inBlock] at he ⊢
   split
   ·rename_i hi; rw [if_pos hi] at he; exact h _ _ he
   ·rename_i hi; rw [if_neg hi] at he; exact h _ _ he
 | loop a ih =>
  intro Q1 Q2 S h hW
  obtain ⟨I, μ, h0, hr⟩ := hW
  refine ⟨I, μ, h0, fun S hS => ih (fun e S he => ?_) (hr S hS)⟩
  cases e with
  | normal => exact he
  | exit i => exact h _ _ he
  | ret => exact h _ _ he
 | ops dr l => exact fun h hW => WOps_mono (fun S => h _ _) hW
 | scope a ih =>
  intro Q1 Q2 S h hW
  exact ih h hW
 | gh a ih =>
  intro Q1 Q2 S h hW
  obtain ⟨S0, hg, hW⟩ := hW
  exact ⟨S0, hg, ih h hW⟩
 | keep ks a ih =>
  intro Q1 Q2 S h hW
  refine ih (fun e S he => ?_) hW
  cases e with
  | normal => exact h _ _ he
  | exit i => exact h _ _ he
  | ret => exact h _ _ he

def Rn0 (P : Program) (a : K) (Q : AX → St → Prop) : Nat → St → Prop
 | 0, _ => False
 | n + 1, S => W P a (AX.then (fun S' => ∃ S'', Ghost S' S'' ∧ Rn0 P a Q n S'') Q) S
theorem W_rounds {P : Program} {a : K} {Q : AX → St → Prop} {S S0 : St} (n : Nat) (hg : Ghost S S0) (h : Rn0 P a Q n S0) : W P (.loop a) Q S := by
 have spec := fun S => Classical.choose_spec (zhm (fun n => Rn0 P a Q n S) id)
 refine ⟨fun S => ∃ n, Rn0 P a Q n S, fun S => Classical.choose (zhm (fun n => Rn0 P a Q n S) id), ⟨S0, hg, n, h⟩, fun S hS => ?_⟩
 obtain ⟨m, hm, he⟩ := (spec S).2 hS
 cases m with
 | zero => exact hm.elim
 | succ m =>
  refine zez (fun x S' hx => ?_) hm
  cases x with
  | normal =>
   obtain ⟨S'', hg, hx⟩ := hx
   refine ⟨S'', hg, ⟨m, hx⟩, ?_⟩
   have h1 := (spec S'').1 m hx
   simp only [id] at h1 he
   show Classical.choose (zhm (fun n => Rn0 P a Q n S'') id) < Classical.choose (zhm (fun n => Rn0 P a Q n S) id)
   omega
  | exit i => exact hx
  | ret => exact hx
theorem W_det {P : Program} : ∀ {k : K} {Q : AX → St → Prop} {S : St}, W P k Q S → ∃ e S', Q e S' ∧ W P k (fun e1 S1 => e1 = e ∧ S1 = S') S := by
 intro k
 induction k with
 | skip => exact fun h => ⟨_, _, h, rfl, rfl⟩
 | ret => exact fun h => ⟨_, _, h, rfl, rfl⟩
 | exit i => exact fun h => ⟨_, _, h, rfl, rfl⟩
 | seq a b ih1 ih2 =>
  intro Q S h
  obtain ⟨e, S1, h1, h2⟩ := ih1 h
  cases e with
  | normal =>
   obtain ⟨e2, S2, h3, h4⟩ := ih2 h1
   exact ⟨e2, S2, h3, by show W P a _ S; exact zez (fun e S he => by obtain ⟨rfl, rfl⟩ := he; exact h4) h2⟩
  | exit i => exact ⟨_, S1, h1, by show W P a _ S; exact zez (fun e S he => by obtain ⟨rfl, rfl⟩ := he; exact ⟨rfl, rfl⟩) h2⟩
  | ret => exact ⟨_, S1, h1, by show W P a _ S; exact zez (fun e S he => by obtain ⟨rfl, rfl⟩ := he; exact ⟨rfl, rfl⟩) h2⟩
 | cond x a b ih1 ih2 =>
  intro Q S h
  simp only [W] at h ⊢
  split at h
  ·rename_i t ht
   cases t with
   | true => obtain ⟨e, S1, h1, h2⟩ := ih1 (h.1 rfl); exact ⟨e, S1, h1, fun _ => h2, fun e => by cases e⟩
   | false => obtain ⟨e, S1, h1, h2⟩ := ih2 (h.2 rfl); exact ⟨e, S1, h1, (fun e => by cases e), fun _ => h2⟩
  ·exact h.elim
 | block id a ih =>
  intro Q S h
  obtain ⟨e, S1, h1, h2⟩ := ih h
  cases e with
  | normal => exact ⟨_, S1, h1, by show W P a _ S; exact zez (fun e S he => by obtain ⟨rfl, rfl⟩ := he; exact ⟨rfl, rfl⟩) h2⟩
  | ret => exact ⟨_, S1, h1, by show W P a _ S; exact zez (fun e S he => by obtain ⟨rfl, rfl⟩ := he; exact ⟨rfl, rfl⟩) h2⟩
  | exit i =>
   simp only [AX.inBlock] at h1
   split at h1
   ·rename_i hi
    exact ⟨_, S1, h1, by show W P a _ S; exact zez (fun e S he => by obtain ⟨rfl, rfl⟩ := he; simp [AX.inBlock, hi]) h2⟩
   ·rename_i hi
    exact ⟨_, S1, h1, by show W P a _ S; exact zez (fun e S he => by obtain ⟨rfl, rfl⟩ := he; simp [AX.inBlock, hi]) h2⟩
 | loop a ih =>
  intro Q S h
  obtain ⟨I, μ, ⟨S0, hg, h0⟩, hr⟩ := h
  have key : ∀ m S, μ S = m → I S → ∃ e S' n, Q e S' ∧ Rn0 P a (fun e1 S1 => e1 = e ∧ S1 = S') n S := by
   intro m
   induction m using Nat.strongRecOn with
   | _ m ihm =>
    intro S hm hI
    obtain ⟨e, S1, h1, h2⟩ := ih (hr S hI)
    cases e with
    | normal =>
     obtain ⟨S2, g2, i2, l2⟩ := h1
     obtain ⟨e, S', n, q, r⟩ := ihm (μ S2) (by omega) S2 rfl i2
     exact ⟨e, S', n + 1, q, by show W P a _ S; exact zez (fun e S he => by obtain ⟨rfl, rfl⟩ := he; exact ⟨S2, g2, r⟩) h2⟩
    | exit i => exact ⟨_, S1, 1, h1, by show W P a _ S; exact zez (fun e S he => by obtain ⟨rfl, rfl⟩ := he; exact ⟨rfl, rfl⟩) h2⟩
    | ret => exact ⟨_, S1, 1, h1, by show W P a _ S; exact zez (fun e S he => by obtain ⟨rfl, rfl⟩ := he; exact ⟨rfl, rfl⟩) h2⟩
  obtain ⟨e, S', n, q, r⟩ := key _ S0 rfl h0
  exact ⟨e, S', q, W_rounds n hg r⟩
 | ops dr l =>
  intro Q S h
  obtain ⟨S', h1, h2⟩ := WOps_steps h
  exact ⟨_, _, h2, steps_WOps h1 ⟨rfl, rfl⟩⟩
 | scope a ih =>
  intro Q S h
  exact ih h
 | gh a ih =>
  intro Q S h
  obtain ⟨S0, hg, h⟩ := h
  obtain ⟨e, S1, h1, h2⟩ := ih h
  exact ⟨e, S1, h1, S0, hg, h2⟩
 | keep ks a ih =>
  intro Q S h
  obtain ⟨e, S1, h1, h2⟩ := ih h
  cases e with
  | normal => exact ⟨_, _, h1, by show W P a _ S; exact zez (fun e S he => by obtain ⟨rfl, rfl⟩ := he; exact ⟨rfl, rfl⟩) h2⟩
  | exit i => exact ⟨_, S1, h1, by show W P a _ S; exact zez (fun e S he => by obtain ⟨rfl, rfl⟩ := he; exact ⟨rfl, rfl⟩) h2⟩
  | ret => exact ⟨_, S1, h1, by show W P a _ S; exact zez (fun e S he => by obtain ⟨rfl, rfl⟩ := he; exact ⟨rfl, rfl⟩) h2⟩
end Go.Gim

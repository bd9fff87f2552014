import Derived.Test.YtjmbcnfhonfpkaaGreatDoorF11
/- How the code's demands are told step by step, by rewriting alone: what comes later is not looked at before its turn. -/
set_option linter.unusedVariables false
set_option linter.unusedSimpArgs false
namespace Go.Gim
open Go.RowKit

universe u
def Dep {α : Sort u} (_ : α) : Type := Unit
def dp {α : Sort u} {a : α} : Dep a := ()

def bnd {α : Type} (a : α) (f : α → Prop) (_ : Dep f) : Prop := f a
@[go_sem] theorem bnd_eq {α : Type} (a : α) (f : α → Prop) (u : Dep f) : bnd a f u = f a := rfl
def opt (a : Option V) (f : V → Prop) (_ : Dep f) : Prop := ∃ v, a = some v ∧ f v
@[go_sem] theorem opt_some (v : V) (f : V → Prop) (u : Dep f) : opt (some v) f u = f v := by simp [opt]
theorem opt_if {c : Prop} [Decidable c] {v : V} {f : V → Prop} {u : Dep f} (hc : ¬ c) (h : f v) : opt (if c then none else some v) f u := ⟨v, by rw [if_neg hc], h⟩
def sel {α : Type} (c : Prop) [Decidable c] (a b : α) (_ : Dep a) (_ : Dep b) : α := if c then a else b
@[go_sem] theorem sel_true {α : Type} [Decidable True] (a b : α) (u : Dep a) (u' : Dep b) : sel True a b u u' = a := by simp [sel]
@[go_sem] theorem sel_false {α : Type} [Decidable False] (a b : α) (u : Dep a) (u' : Dep b) : sel False a b u u' = b := by simp [sel]
def csel (g : V) (A B : Prop) (_ : Dep A) (_ : Dep B) : Prop := ∃ t, g = .bool t ∧ (t = true → A) ∧ (t = false → B)
@[go_sem] theorem csel_true (A B : Prop) (u : Dep A) (u' : Dep B) : csel (.bool true) A B u u' = A := by simp [csel]
@[go_sem] theorem csel_false (A B : Prop) (u : Dep A) (u' : Dep B) : csel (.bool false) A B u u' = B := by simp [csel]
theorem csel_dec {p : Prop} [Decidable p] {A B : Prop} {u : Dep A} {u' : Dep B} (h1 : p → A) (h2 : ¬ p → B) : csel (.bool (decide p)) A B u u' := ⟨_, rfl, fun h => h1 (of_decide_eq_true h), fun h => h2 (of_decide_eq_false h)⟩
theorem csel_not {p : Prop} [Decidable p] {A B : Prop} {u : Dep A} {u' : Dep B} (h1 : ¬ p → A) (h2 : p → B) : csel (.bool (!decide p)) A B u u' :=
 ⟨_, rfl, fun h => h1 (by simpa using h), fun h => h2 (by simpa using h)⟩
theorem csel_bool {t : Bool} {A B : Prop} {u : Dep A} {u' : Dep B} (h1 : t = true → A) (h2 : t = false → B) : csel (.bool t) A B u u' := ⟨t, rfl, h1, h2⟩
def gsel (g : V) (want : Bool) (A B : Prop) (_ : Dep A) (_ : Dep B) : Prop := (∃ t, g = .bool t ∧ (t = want → A) ∧ (t = !want → B)) ∨ (g = .undef ∧ B)
@[go_sem] theorem gsel_tt (A B : Prop) (u : Dep A) (u' : Dep B) : gsel (.bool true) true A B u u' = A := by simp [gsel]
@[go_sem] theorem gsel_ff (A B : Prop) (u : Dep A) (u' : Dep B) : gsel (.bool false) false A B u u' = A := by simp [gsel]
@[go_sem] theorem gsel_tf (A B : Prop) (u : Dep A) (u' : Dep B) : gsel (.bool true) false A B u u' = B := by simp [gsel]
@[go_sem] theorem gsel_ft (A B : Prop) (u : Dep A) (u' : Dep B) : gsel (.bool false) true A B u u' = B := by simp [gsel]
@[go_sem] theorem gsel_undef (w : Bool) (A B : Prop) (u : Dep A) (u' : Dep B) : gsel .undef w A B u u' = B := by simp [gsel]

theorem gsel_split {p : Prop} [Decidable p] {w : Bool} {A B : Prop} {u : Dep A} {u' : Dep B} (h1 : p → gsel (.bool true) w A B u u') (h0 : ¬ p → gsel (.bool false) w A B u u') : gsel (.bool (decide p)) w A B u u' := by
 by_cases h : p
 ·have := h1 h; simpa [h] using this
 ·have := h0 h; simpa [h] using this
theorem gsel_splitb {t : Bool} {w : Bool} {A B : Prop} {u : Dep A} {u' : Dep B} (h1 : t = true → gsel (.bool true) w A B u u') (h0 : t = false → gsel (.bool false) w A B u u') : gsel (.bool t) w A B u u' := by
 cases t
 ·exact h0 rfl
 ·exact h1 rfl
theorem gsel_splitn {p : Prop} [Decidable p] {w : Bool} {A B : Prop} {u : Dep A} {u' : Dep B} (h1 : ¬ p → gsel (.bool true) w A B u u') (h0 : p → gsel (.bool false) w A B u u') : gsel (.bool (!decide p)) w A B u u' := by
 by_cases h : p
 ·have := h0 h; simpa [h] using this
 ·have := h1 h; simpa [h] using this

theorem RetG_pure {P : Program} {f : Nat} {args : List V} {r : V} (h : Ret P f args r) (hp : ∀ v ∈ args, v.Pure) (H : Hp) (n : Nat) : RetG P f args H n r H n :=
 ⟨h.1, Nat.le_refl _, fun φ M U w vals _ Mb hg hh hs ha => (h.2 M w vals Mb hg hs fun i hi => (ha i hi).toPur (hp _ (zce hi))).mono fun e w' ⟨x, h1, h2, h3⟩ => ⟨x, φ, M, h1, Trans.below hh (fun b hb => .inl hb) h3, .pur h2⟩⟩
def callB (P : Program) (dr : Bool) (env : Nat → V) (H : Hp) (hi : Nat) (f : Nat) (args : List V) (K : (Nat → V) → V → Hp → Nat → Prop) (_ : Dep K) : Prop :=
 (∃ v H' h, RetG P f args H hi v H' h ∧ K env v H' h) ∨ (dr = false ∧ ∃ g v H' h, Fz H g ∧ RetG P f (args.map (V.sub g)) (H.sub g) hi v H' h ∧ K (fun s => (env s).sub g) v H' h)
theorem zab {P : Program} {dr : Bool} {env : Nat → V} {hi : Nat} {H : Hp} {f : Nat} {args : List V} {r : V} {K : (Nat → V) → V → Hp → Nat → Prop} {u : Dep K} (h : Ret P f args r) (hp : ∀ v ∈ args, v.Pure) (hk : K env r H hi) : callB P dr env H hi f args K u := .inl ⟨r, H, hi, RetG_pure h hp H hi, hk⟩
theorem zd3 {P : Program} {dr : Bool} {env : Nat → V} {hi h : Nat} {H H' : Hp} {f : Nat} {args : List V} {r : V} {K : (Nat → V) → V → Hp → Nat → Prop} {u : Dep K} (hr : RetG P f args H hi r H' h) (hk : K env r H' h) : callB P dr env H hi f args K u := .inl ⟨r, H', h, hr, hk⟩
theorem callB_fz {P : Program} {env : Nat → V} {hi h : Nat} {H H' : Hp} {f : Nat} {args as : List V} {r : V} {K : (Nat → V) → V → Hp → Nat → Prop} {u : Dep K} (g : Nat → Option (List V)) (hg : Fz H g) (ha : args.map (V.sub g) = as) (hr : RetG P f as (H.sub g) hi r H' h) (hk : K (fun s => (env s).sub g) r H' h) : callB P false env H hi f args K u :=
 .inr ⟨rfl, g, r, H', h, hg, by rw [ha]; exact hr, hk⟩
theorem callB_fr {P : Program} {env : Nat → V} {hi : Nat} {H : Hp} {f : Nat} {args as : List V} {r : V} {K : (Nat → V) → V → Hp → Nat → Prop} {u : Dep K} (g : Nat → Option (List V)) (hg : Fz H g) (ha : args.map (V.sub g) = as) (hr : Ret P f as r) (hp : ∀ v ∈ as, v.Pure) (hk : K (fun s => (env s).sub g) r (H.sub g) hi) : callB P false env H hi f args K u :=
 callB_fz g hg ha (RetG_pure hr hp _ _) hk
theorem Trans.then_below {φ φ' : Nat → Option Nat} {M M' U U' U'' : Nat → Prop} {w w' w'' : World} {H H' : Hp} (t : Trans φ φ' M M' U U' w w' H H') (hb : Below w'.heap.size w' w'') (hU : ∀ b, U' b → U'' b) : Trans φ φ' M M' U U'' w w'' H H' := by
 have t2 := Trans.below t.hp hU hb
 exact { carry := t.carry.trans t2.carry, hp := t2.hp, Mb := fun h => t2.Mb (t.Mb h), M1 := t.M1, M2 := t.M2, os := t2.os.trans t.os, tape := t2.tape.trans t.tape, output := t2.output.trans t.output, size := Nat.le_trans t.size t2.size,
         old := fun g hg h => (hb.block g (Nat.lt_of_lt_of_le hg t.size)).trans (t.old g hg h), loc := t.loc }
theorem RetG_frd {P : Program} {f : Nat} {args : List V} {r : V} {H : Hp} {g : Nat → Option (List V)} (hg : Fz H g) (h : Ret P f (args.map (V.sub g)) r) (hp : ∀ v ∈ args.map (V.sub g), v.Pure) (n : Nat) : RetG P f args H n r (H.minus g) n :=
 ⟨h.1, Nat.le_refl _, fun φ M U w vals _ Mb hgl hh hs ha => (h.2 (Mz φ M g) w vals (fun k hk => Mb k hk.1) (hgl.mono fun k o h1 h2 => ⟨h1, fun h3 => h2 h3.1⟩) (by simpa using hs) fun i hi => by
   have hi' : i < args.length := by simpa using hi
   have e : (args.map (V.sub g)).getD i .junk = (args.getD i .junk).sub g := getD_map (V.sub g) hi'
   have := sub_sim hh hg (ha i hi')
   rw [← e] at this
   exact this.toPur (hp _ (zce hi))).mono fun e w' ⟨x, h1, h2, h3⟩ => ⟨x, φ, _, h1, (Trans.frd hh hg).then_below h3 fun b hb => .inl hb, .pur h2⟩⟩
theorem callB_frd {P : Program} {dr : Bool} {env : Nat → V} {hi : Nat} {H : Hp} {f : Nat} {args as : List V} {r : V} {K : (Nat → V) → V → Hp → Nat → Prop} {u : Dep K} (g : Nat → Option (List V)) (hg : Fz H g) (ha : args.map (V.sub g) = as) (hr : Ret P f as r) (hp : ∀ v ∈ as, v.Pure) (hk : K env r (H.minus g) hi) : callB P dr env H hi f args K u := by
 subst ha
 exact zd3 (RetG_frd hg hr hp hi) hk
def callV' (P : Program) (env : Nat → V) (H : Hp) (hi : Nat) (f : V) (args : List V) (K : (Nat → V) → V → Hp → Nat → Prop) (_ : Dep K) : Prop := ∃ g caps v H' h, f = .fn g caps ∧ RetG P g (args ++ caps) H hi v H' h ∧ K env v H' h
theorem zda {P : Program} {env : Nat → V} {hi : Nat} {H : Hp} {g : Nat} {caps args : List V} {r : V} {K : (Nat → V) → V → Hp → Nat → Prop} {u : Dep K} (h : Ret P g (args ++ caps) r) (hp : ∀ v ∈ args ++ caps, v.Pure) (hk : K env r H hi) : callV' P env H hi (.fn g caps) args K u := ⟨g, caps, r, H, hi, rfl, RetG_pure h hp H hi, hk⟩
theorem callV_G {P : Program} {env : Nat → V} {hi h : Nat} {H H' : Hp} {g : Nat} {caps args : List V} {r : V} {K : (Nat → V) → V → Hp → Nat → Prop} {u : Dep K} (hr : RetG P g (args ++ caps) H hi r H' h) (hk : K env r H' h) : callV' P env H hi (.fn g caps) args K u := ⟨g, caps, r, H', h, rfl, hr, hk⟩
def callP (P : Program) (f : Nat) (args : List V) (K : V → Prop) (_ : Dep K) : Prop := (∀ v ∈ args, v.Pure) ∧ ∃ r, Ret P f args r ∧ K r
theorem zaa {P : Program} {f : Nat} {args : List V} {r : V} {K : V → Prop} {u : Dep K} (h : Ret P f args r) (hp : ∀ v ∈ args, v.Pure) (hk : K r) : callP P f args K u := ⟨hp, r, h, hk⟩

def Wb (P : Program) (k : K) (Q : AX → St → Prop) (_ : Dep Q) (S : St) : Prop := W P k Q S
theorem W_b {P : Program} {k : K} {Q : AX → St → Prop} {S : St} (h : Wb P k Q dp S) : W P k Q S := h
def WO (P : Program) (dr : Bool) (i : Nat) (l : List It) (Kn : St → Prop) (_ : Dep Kn) (S : St) : Prop := WOps P dr i l S Kn
def thn (Kn : St → Prop) (Q : AX → St → Prop) (_ : Dep Kn) (_ : Dep Q) : AX → St → Prop := AX.then Kn Q
def inb (id : Nat) (Q : AX → St → Prop) (_ : Dep Q) : AX → St → Prop := AX.inBlock id Q
def opB (P : Program) (dr : Bool) (id : Nat) (op : AOp) (S : St) (F : V → Hp → Prop) (_ : Dep F) : Prop := ∃ v H, step1 P dr id op S v H ∧ F v H

@[go_sem] theorem W_skip (P : Program) (Q : AX → St → Prop) (u : Dep Q) (S : St) : Wb P .skip Q u S = Q .normal S := rfl
@[go_sem] theorem W_ret (P : Program) (Q : AX → St → Prop) (u : Dep Q) (S : St) : Wb P .ret Q u S = Q .ret S := rfl
@[go_sem] theorem W_exit (P : Program) (i : Nat) (Q : AX → St → Prop) (u : Dep Q) (S : St) : Wb P (.exit i) Q u S = Q (.exit i) S := rfl
@[go_sem] theorem W_seq (P : Program) (a b : K) (Q : AX → St → Prop) (u : Dep Q) (S : St) : Wb P (.seq a b) Q u S = Wb P a (thn (Wb P b Q u) Q dp u) dp S := rfl
@[go_sem] theorem W_block (P : Program) (i : Nat) (a : K) (Q : AX → St → Prop) (u : Dep Q) (S : St) : Wb P (.block i a) Q u S = Wb P a (inb i Q u) dp S := rfl
@[go_sem] theorem W_ops (P : Program) (dr : Bool) (l : List It) (Q : AX → St → Prop) (u : Dep Q) (S : St) : Wb P (.ops dr l) Q u S = WO P dr 0 l (fun S' => Q .normal ⟨S'.env, S'.H, S'.hi, S'.hi⟩) dp ⟨S.env, S.H, S.nx, S.nx + l.length⟩ := rfl
@[go_sem] theorem W_keep (P : Program) (ks : List Nat) (a : K) (Q : AX → St → Prop) (u : Dep Q) (S : St) : Wb P (.keep ks a) Q u S = Wb P a (thn (fun S' => Q .normal (S'.keep ks)) Q dp u) dp S := rfl
@[go_sem] theorem W_scope (P : Program) (a : K) (Q : AX → St → Prop) (u : Dep Q) (S : St) : Wb P (.scope a) Q u S = Wb P a Q u S := rfl
theorem W_gh {P : Program} {a : K} {Q : AX → St → Prop} {u : Dep Q} {S S0 : St} (hg : Ghost S S0) (h : Wb P a Q u S0) : Wb P (.gh a) Q u S := ⟨S0, hg, h⟩
theorem W_gh0 {P : Program} {a : K} {Q : AX → St → Prop} {u : Dep Q} {S : St} (h : Wb P a Q u S) : Wb P (.gh a) Q u S := ⟨S, .refl _, h⟩
@[go_sem] theorem W_cond (P : Program) (x : X) (a b : K) (Q : AX → St → Prop) (u : Dep Q) (S : St) : Wb P (.cond x a b) Q u S = csel (S.ev x) (Wb P a Q u S) (Wb P b Q u S) dp dp := by
 simp only [Wb, W, csel]
 split
 ·rename_i t ht; simp [ht]
 ·rename_i h; exact propext ⟨False.elim, fun ⟨t, ht, _⟩ => h t ht⟩
@[go_sem] theorem then_normal (Kn : St → Prop) (Q : AX → St → Prop) (u : Dep Kn) (u' : Dep Q) (S : St) : thn Kn Q u u' .normal S = Kn S := rfl
@[go_sem] theorem then_ret (Kn : St → Prop) (Q : AX → St → Prop) (u : Dep Kn) (u' : Dep Q) (S : St) : thn Kn Q u u' .ret S = Q .ret S := rfl
@[go_sem] theorem then_exit (Kn : St → Prop) (Q : AX → St → Prop) (u : Dep Kn) (u' : Dep Q) (i : Nat) (S : St) : thn Kn Q u u' (.exit i) S = Q (.exit i) S := rfl
@[go_sem] theorem inBlock_normal (id : Nat) (Q : AX → St → Prop) (u : Dep Q) (S : St) : inb id Q u .normal S = Q .normal S := rfl
@[go_sem] theorem inBlock_ret (id : Nat) (Q : AX → St → Prop) (u : Dep Q) (S : St) : inb id Q u .ret S = Q .ret S := rfl
@[go_sem] theorem inBlock_exit (id i : Nat) (Q : AX → St → Prop) (u : Dep Q) (S : St) : inb id Q u (.exit i) S = if i = id then Q .normal S else Q (.exit i) S := rfl
theorem zf0 {P : Program} {a : K} {Q : AX → St → Prop} {u : Dep Q} {S : St} {T : Type} (f : T → St) (I : T → Prop) (μ : T → Nat) (t : T) (h0 : Ghost S (f t)) (hI : I t)
  (h : ∀ t, I t → Wb P a (thn (fun S' => ∃ t', Ghost S' (f t') ∧ I t' ∧ μ t' < μ t) Q dp u) dp (f t)) : Wb P (.loop a) Q u S := by
 classical
 have hmin : ∀ S : St, (∃ t, S = f t ∧ I t) → ∃ t, (S = f t ∧ I t) ∧ ∀ t', S = f t' ∧ I t' → μ t ≤ μ t' := by
  intro S
  have : ∀ n, (∃ t, (S = f t ∧ I t) ∧ μ t ≤ n) → ∃ t, (S = f t ∧ I t) ∧ ∀ t', S = f t' ∧ I t' → μ t ≤ μ t' := by
   intro n
   induction n with
   | zero => rintro ⟨t, h1, h2⟩; exact ⟨t, h1, fun t' _ => by omega⟩
   | succ n ih =>
    rintro ⟨t, h1, h2⟩
    by_cases hc : ∃ t', (S = f t' ∧ I t') ∧ μ t' ≤ n
    ·exact ih hc
    ·refine ⟨t, h1, fun t' h' => ?_⟩
     have : ¬ μ t' ≤ n := fun hle => hc ⟨t', h', hle⟩
     omega
  rintro ⟨t, ht⟩
  exact this (μ t) ⟨t, ht, Nat.le_refl _⟩
 refine ⟨fun S => ∃ t, S = f t ∧ I t, fun S => if hS : ∃ t, S = f t ∧ I t then μ (Classical.choose (hmin S hS)) else 0, ⟨f t, h0, t, rfl, hI⟩, fun S hS => ?_⟩
 obtain ⟨⟨e, hIt⟩, hle⟩ := Classical.choose_spec (hmin S hS)
 have := h _ hIt
 rw [← e] at this
 refine zez (fun x S' hx => ?_) this
 cases x with
 | normal =>
  obtain ⟨t', h1, h2, h3⟩ := hx
  refine ⟨f t', h1, ⟨t', rfl, h2⟩, ?_⟩
  have hS' : ∃ t, f t' = f t ∧ I t := ⟨t', rfl, h2⟩
  simp only [dif_pos hS', dif_pos hS]
  exact Nat.lt_of_le_of_lt ((Classical.choose_spec (hmin (f t') hS')).2 t' ⟨rfl, h2⟩) h3
 | exit i => exact hx
 | ret => exact hx
theorem za1 {P : Program} {a : K} {Q : AX → St → Prop} {u : Dep Q} {S : St} {T : Type} (f : T → St) (I : T → Prop) (μ : T → Nat) (t : T) (h0 : S = f t) (hI : I t)
  (h : ∀ t, I t → Wb P a (thn (fun S' => ∃ t', S' = f t' ∧ I t' ∧ μ t' < μ t) Q dp u) dp (f t)) : Wb P (.loop a) Q u S := by
 subst h0
 refine zf0 f I μ t (.refl _) hI fun t ht => zez (fun x S' hx => ?_) (h t ht)
 cases x with
 | normal => obtain ⟨t', rfl, h2, h3⟩ := hx; exact ⟨t', .refl _, h2, h3⟩
 | exit i => exact hx
 | ret => exact hx

def Rn (P : Program) (a : K) (Q : AX → St → Prop) : Nat → St → Prop
 | 0, _ => False
 | n + 1, S => Wb P a (thn (Rn P a Q n) Q dp dp) dp S
theorem Rn_to {P : Program} {a : K} {Q : AX → St → Prop} : ∀ {n : Nat} {S : St}, Rn P a Q n S → Rn0 P a Q n S
 | 0, _, h => h.elim
 | n + 1, S, h => zez (fun x S' hx => by
   cases x with
   | normal => exact ⟨S', .refl _, Rn_to hx⟩
   | exit i => exact hx
   | ret => exact hx) h
theorem W_unroll {P : Program} {a : K} {Q : AX → St → Prop} {u : Dep Q} {S : St} (n : Nat) (h : Rn P a Q n S) : Wb P (.loop a) Q u S := W_rounds n (.refl S) (Rn_to h)
theorem Rn_succ (P : Program) (a : K) (Q : AX → St → Prop) (n : Nat) (S : St) : Rn P a Q (n + 1) S = Wb P a (thn (Rn P a Q n) Q dp dp) dp S := rfl

@[go_sem] theorem WOps_nil (P : Program) (dr : Bool) (i : Nat) (S : St) (Kn : St → Prop) (u : Dep Kn) : WO P dr i [] Kn u S = Kn S := rfl
def opG (P : Program) (dr : Bool) (id : Nat) (op : AOp) (S : St) (F : V → St → Prop) (_ : Dep F) : Prop := ∃ v S1, stepG P dr id op S v S1 ∧ F v S1
@[go_sem] theorem WOps_plain (P : Program) (dr : Bool) (i : Nat) (d : Option Nat) (op : AOp) (l : List It) (S : St) (Kn : St → Prop) (u : Dep Kn) :
  WO P dr i (⟨d, none, op⟩ :: l) Kn u S = opG P dr (S.nx + i) op S (fun v S1 => WO P dr (i + 1) l Kn u (S1.set d v)) dp := rfl
@[go_sem] theorem WOps_guard (P : Program) (dr : Bool) (i : Nat) (d : Option Nat) (s : Nat) (want : Bool) (op : AOp) (l : List It) (S : St) (Kn : St → Prop) (u : Dep Kn) :
  WO P dr i (⟨d, some (s, want), op⟩ :: l) Kn u S = gsel (S.env s) want (opG P dr (S.nx + i) op S (fun v S1 => WO P dr (i + 1) l Kn u (S1.set d v)) dp) (WO P dr (i + 1) l Kn u (S.put d .undef S.H)) dp dp := by
 simp only [WO, WOps, gsel, opG]
 split
 ·rename_i b hb
  have h1 : b = want → S.know s want = S := fun e => by subst e; exact know_eq hb
  have h2 : b = !want → S.know s (!want) = S := fun e => by rw [← e]; exact know_eq hb
  rw [hb]
  refine propext ⟨fun h => .inl ⟨b, rfl, fun e => ?_, fun e => ?_⟩, fun h => ?_⟩
  ·have := h.1 e; rwa [h1 e] at this
  ·have := h.2 e; rwa [h2 e] at this
  ·rcases h with ⟨t, ht, ha, hb'⟩ | ⟨h, _⟩
   ·cases ht
    exact ⟨fun e => by rw [h1 e]; exact ha e, fun e => by rw [h2 e]; exact hb' e⟩
   ·cases h
 ·rename_i hb; rw [hb]; simp
 ·rename_i h1 h2
  refine propext ⟨False.elim, fun h => ?_⟩
  rcases h with ⟨t, ht, _⟩ | ⟨h, _⟩
  ·exact h1 t ht
  ·exact h2 h
theorem zaq (P : Program) (dr : Bool) (id : Nat) (op : AOp) (S : St) (F : V → St → Prop) (u : Dep F) (h : ∀ v S1, stepG P dr id op S v S1 = ∃ H, step1 P dr id op S v H ∧ S1 = ⟨S.env, H, S.nx, S.hi⟩) : opG P dr id op S F u = opB P dr id op S (fun v H => F v ⟨S.env, H, S.nx, S.hi⟩) dp := by
 simp only [opG, opB, h]
 exact propext ⟨fun ⟨v, S1, ⟨H, h1, h2⟩, h3⟩ => ⟨v, H, h1, h2 ▸ h3⟩, fun ⟨v, H, h1, h2⟩ => ⟨v, _, ⟨H, h1, rfl⟩, h2⟩⟩
section plain
variable (P : Program) (dr : Bool) (id : Nat) (S : St) (F : V → St → Prop) (u : Dep F)
@[go_sem] theorem opG_mov (x : X) : opG P dr id (.mov x) S F u = opB P dr id (.mov x) S (fun v H => F v ⟨S.env, H, S.nx, S.hi⟩) dp := zaq _ _ _ _ _ _ _ fun _ _ => rfl
@[go_sem] theorem opG_pick (c a b : X) : opG P dr id (.pick c a b) S F u = opB P dr id (.pick c a b) S (fun v H => F v ⟨S.env, H, S.nx, S.hi⟩) dp := zaq _ _ _ _ _ _ _ fun _ _ => rfl
@[go_sem] theorem opG_bin (o x y) : opG P dr id (.bin o x y) S F u = opB P dr id (.bin o x y) S (fun v H => F v ⟨S.env, H, S.nx, S.hi⟩) dp := zaq _ _ _ _ _ _ _ fun _ _ => rfl
@[go_sem] theorem opG_un (o x) : opG P dr id (.un o x) S F u = opB P dr id (.un o x) S (fun v H => F v ⟨S.env, H, S.nx, S.hi⟩) dp := zaq _ _ _ _ _ _ _ fun _ _ => rfl
@[go_sem] theorem opG_conv (k x) : opG P dr id (.conv k x) S F u = opB P dr id (.conv k x) S (fun v H => F v ⟨S.env, H, S.nx, S.hi⟩) dp := zaq _ _ _ _ _ _ _ fun _ _ => rfl
@[go_sem] theorem opG_eqB (n x y) : opG P dr id (.eqB n x y) S F u = opB P dr id (.eqB n x y) S (fun v H => F v ⟨S.env, H, S.nx, S.hi⟩) dp := zaq _ _ _ _ _ _ _ fun _ _ => rfl
@[go_sem] theorem opG_len (s x) : opG P dr id (.len s x) S F u = opB P dr id (.len s x) S (fun v H => F v ⟨S.env, H, S.nx, S.hi⟩) dp := zaq _ _ _ _ _ _ _ fun _ _ => rfl
@[go_sem] theorem opG_mm (m x xs) : opG P dr id (.mm m x xs) S F u = opB P dr id (.mm m x xs) S (fun v H => F v ⟨S.env, H, S.nx, S.hi⟩) dp := zaq _ _ _ _ _ _ _ fun _ _ => rfl
@[go_sem] theorem opG_ext (x i) : opG P dr id (.ext x i) S F u = opB P dr id (.ext x i) S (fun v H => F v ⟨S.env, H, S.nx, S.hi⟩) dp := zaq _ _ _ _ _ _ _ fun _ _ => rfl
@[go_sem] theorem opG_build (z p) : opG P dr id (.build z p) S F u = opB P dr id (.build z p) S (fun v H => F v ⟨S.env, H, S.nx, S.hi⟩) dp := zaq _ _ _ _ _ _ _ fun _ _ => rfl
@[go_sem] theorem opG_fld (o s g x) : opG P dr id (.fld o s g x) S F u = opB P dr id (.fld o s g x) S (fun v H => F v ⟨S.env, H, S.nx, S.hi⟩) dp := zaq _ _ _ _ _ _ _ fun _ _ => rfl
@[go_sem] theorem opG_nilchk (x) : opG P dr id (.nilchk x) S F u = opB P dr id (.nilchk x) S (fun v H => F v ⟨S.env, H, S.nx, S.hi⟩) dp := zaq _ _ _ _ _ _ _ fun _ _ => rfl
@[go_sem] theorem opG_mkFn (f c) : opG P dr id (.mkFn f c) S F u = opB P dr id (.mkFn f c) S (fun v H => F v ⟨S.env, H, S.nx, S.hi⟩) dp := zaq _ _ _ _ _ _ _ fun _ _ => rfl
@[go_sem] theorem opG_call (f a) : opG P dr id (.call f a) S F u = opB P dr id (.call f a) S (fun v H => F v ⟨S.env, H, S.nx, S.hi⟩) dp := zaq _ _ _ _ _ _ _ fun _ _ => rfl
@[go_sem] theorem opG_callV (x a) : opG P dr id (.callV x a) S F u = opB P dr id (.callV x a) S (fun v H => F v ⟨S.env, H, S.nx, S.hi⟩) dp := zaq _ _ _ _ _ _ _ fun _ _ => rfl
@[go_sem] theorem opG_alloc (s z) : opG P dr id (.alloc s z) S F u = opB P dr id (.alloc s z) S (fun v H => F v ⟨S.env, H, S.nx, S.hi⟩) dp := zaq _ _ _ _ _ _ _ fun _ _ => rfl
@[go_sem] theorem opG_boxP (x) : opG P dr id (.boxP x) S F u = opB P dr id (.boxP x) S (fun v H => F v ⟨S.env, H, S.nx, S.hi⟩) dp := zaq _ _ _ _ _ _ _ fun _ _ => rfl
@[go_sem] theorem opG_load (s g x) : opG P dr id (.load s g x) S F u = opB P dr id (.load s g x) S (fun v H => F v ⟨S.env, H, S.nx, S.hi⟩) dp := zaq _ _ _ _ _ _ _ fun _ _ => rfl
@[go_sem] theorem opG_loadN (s g x a) : opG P dr id (.loadN s g x a) S F u = opB P dr id (.loadN s g x a) S (fun v H => F v ⟨S.env, H, S.nx, S.hi⟩) dp := zaq _ _ _ _ _ _ _ fun _ _ => rfl
@[go_sem] theorem opG_store (s p x) : opG P dr id (.store s p x) S F u = opB P dr id (.store s p x) S (fun v H => F v ⟨S.env, H, S.nx, S.hi⟩) dp := zaq _ _ _ _ _ _ _ fun _ _ => rfl
@[go_sem] theorem opG_fldA (o s g x) : opG P dr id (.fldA o s g x) S F u = opB P dr id (.fldA o s g x) S (fun v H => F v ⟨S.env, H, S.nx, S.hi⟩) dp := zaq _ _ _ _ _ _ _ fun _ _ => rfl
@[go_sem] theorem opG_idxA (e x i) : opG P dr id (.idxA e x i) S F u = opB P dr id (.idxA e x i) S (fun v H => F v ⟨S.env, H, S.nx, S.hi⟩) dp := zaq _ _ _ _ _ _ _ fun _ _ => rfl
@[go_sem] theorem opG_arrA (n s g x i) : opG P dr id (.arrA n s g x i) S F u = opB P dr id (.arrA n s g x i) S (fun v H => F v ⟨S.env, H, S.nx, S.hi⟩) dp := zaq _ _ _ _ _ _ _ fun _ _ => rfl
@[go_sem] theorem opG_red (f x) : opG P dr id (.red f x) S F u = opB P dr id (.red f x) S (fun v H => F v ⟨S.env, H, S.nx, S.hi⟩) dp := zaq _ _ _ _ _ _ _ fun _ _ => rfl
@[go_sem] theorem opG_new (f x) : opG P dr id (.new f x) S F u = opB P dr id (.new f x) S (fun v H => F v ⟨S.env, H, S.nx, S.hi⟩) dp := zaq _ _ _ _ _ _ _ fun _ _ => rfl
@[go_sem] theorem opG_eff (f x) : opG P dr id (.eff f x) S F u = opB P dr id (.eff f x) S (fun v H => F v ⟨S.env, H, S.nx, S.hi⟩) dp := zaq _ _ _ _ _ _ _ fun _ _ => rfl
@[go_sem] theorem opG_win (e x l h) : opG P dr id (.win e x l h) S F u = opB P dr id (.win e x l h) S (fun v H => F v ⟨S.env, H, S.nx, S.hi⟩) dp := zaq _ _ _ _ _ _ _ fun _ _ => rfl
@[go_sem] theorem opG_winF (es x l) : opG P dr id (.winF es x l) S F u = opB P dr id (.winF es x l) S (fun v H => F v ⟨S.env, H, S.nx, S.hi⟩) dp := zaq _ _ _ _ _ _ _ fun _ _ => rfl
@[go_sem] theorem opG_isnil (k n x) : opG P dr id (.isnil k n x) S F u = opB P dr id (.isnil k n x) S (fun v H => F v ⟨S.env, H, S.nx, S.hi⟩) dp := zaq _ _ _ _ _ _ _ fun _ _ => rfl
@[go_sem] theorem opG_callG (f : Nat) (args : List X) : opG P dr id (.callG f args) S F u = callB P dr S.env S.H S.hi f (args.map S.ev) (fun env v H h => F v ⟨env, H, S.nx, h⟩) dp := by
 simp only [opG, stepG, callB]
 refine propext ⟨fun ⟨v, S1, h1, h2⟩ => ?_, fun h => ?_⟩
 ·rcases h1 with ⟨H, h, h3, rfl⟩ | ⟨hd, g, H, h, hg, h3, rfl⟩
  ·exact .inl ⟨v, H, h, h3, h2⟩
  ·exact .inr ⟨hd, g, v, H, h, hg, h3, h2⟩
 ·rcases h with ⟨v, H, h, h3, h2⟩ | ⟨hd, g, v, H, h, hg, h3, h2⟩
  ·exact ⟨v, _, .inl ⟨H, h, h3, rfl⟩, h2⟩
  ·exact ⟨v, _, .inr ⟨hd, g, H, h, hg, h3, rfl⟩, h2⟩
@[go_sem] theorem opG_callGV (x : X) (args : List X) : opG P dr id (.callGV x args) S F u = callV' P S.env S.H S.hi (S.ev x) (args.map S.ev) (fun env v H h => F v ⟨env, H, S.nx, h⟩) dp := by
 simp only [opG, stepG, callV']
 refine propext ⟨fun ⟨v, S1, h1, h2⟩ => ?_, fun ⟨g, caps, v, H, h, h1, h2, h3⟩ => ?_⟩
 ·split at h1
  ·rename_i f caps hx
   obtain ⟨H, h, h3, rfl⟩ := h1
   exact ⟨f, caps, v, H, h, hx, h3, h2⟩
  ·exact h1.elim
 ·exact ⟨v, ⟨S.env, H, S.nx, h⟩, by rw [h1]; exact ⟨H, h, h2, rfl⟩, h3⟩
end plain
@[go_sem] theorem set_some (env : Nat → V) (H : Hp) (nx hi d : Nat) (v : V) : St.set ⟨env, H, nx, hi⟩ (some d) v = ⟨upd env d v, H, nx, hi⟩ := rfl
@[go_sem] theorem set_none (env : Nat → V) (H : Hp) (nx hi : Nat) (v : V) : St.set ⟨env, H, nx, hi⟩ none v = ⟨env, H, nx, hi⟩ := rfl

@[go_sem] theorem put_some (env : Nat → V) (H : Hp) (nx hi : Nat) (d : Nat) (v : V) (H' : Hp) : St.put ⟨env, H, nx, hi⟩ (some d) v H' = ⟨upd env d v, H', nx, hi⟩ := rfl
@[go_sem] theorem put_none (env : Nat → V) (H : Hp) (nx hi : Nat) (v : V) (H' : Hp) : St.put ⟨env, H, nx, hi⟩ none v H' = ⟨env, H', nx, hi⟩ := rfl
@[go_sem] theorem ev_t (env : Nat → V) (H : Hp) (nx hi n : Nat) : St.ev ⟨env, H, nx, hi⟩ (.t n) = env n := rfl
@[go_sem] theorem ev_g (S : St) (n : Nat) : St.ev S (.g n) = match gvs.find? (fun p => p.1 == n) with | some p => .pp p.2 | none => .junk := rfl
@[go_sem] theorem ev_c (S : St) (v : V) : St.ev S (.c v) = v := rfl
@[go_sem] theorem upd_at (env : Nat → V) (d : Nat) (v : V) (s : Nat) : upd env d v s = sel (s = d) v (env s) dp dp := rfl
@[go_sem] theorem E_cons (k : Nat) (v : V) (l : List (Nat × V)) (s : Nat) : E ((k, v) :: l) s = sel (s = k) v (E l s) dp dp := rfl
@[go_sem] theorem keep_eq (env : Nat → V) (H : Hp) (nx hi : Nat) (ks : List Nat) : St.keep ⟨env, H, nx, hi⟩ ks = ⟨E (ks.map fun k => (k, env k)), H, nx, hi⟩ := rfl
attribute [go_sem] List.map_cons List.map_nil argsE start startG List.length_cons List.length_nil Nat.zero_add List.nil_append List.cons_append
@[go_sem] theorem Hupd_at (H : Hp) (b c : Nat) (x : Option Blk) : H.upd b x c = sel (c = b) x (H c) dp dp := rfl

section ops
theorem ex_opt {o : Option V} {H0 : Hp} {F : V → Hp → Prop} : (∃ v H, (o = some v ∧ H0 = H) ∧ F v H) = opt o (fun v => F v H0) dp :=
 propext ⟨fun ⟨v, H, ⟨h1, h2⟩, h3⟩ => ⟨v, h1, h2 ▸ h3⟩, fun ⟨v, h1, h2⟩ => ⟨v, H0, ⟨h1, rfl⟩, h2⟩⟩
theorem ex_bnd {u : V} {H0 : Hp} {F : V → Hp → Prop} : (∃ v H, (u = v ∧ H0 = H) ∧ F v H) = F u H0 :=
 propext ⟨fun ⟨v, H, ⟨h1, h2⟩, h3⟩ => h1 ▸ h2 ▸ h3, fun h => ⟨u, H0, ⟨rfl, rfl⟩, h⟩⟩
theorem ex_no {F : V → Hp → Prop} : (∃ v H, False ∧ F v H) = False := by simp
theorem zf3 {f : V → Prop} {u : Dep f} : opt none f u = False := by simp [opt]
variable (P : Program) (dr : Bool) (id : Nat) (S : St) (F : V → Hp → Prop) (u : Dep F)
@[go_sem] theorem opB_mov (x : X) : opB P dr id (.mov x) S F u = bnd (S.ev x) (fun v => F v S.H) dp := ex_bnd
@[go_sem] theorem opB_bin (op : BinOp) (x y : X) : opB P dr id (.bin op x y) S F u = opt (binV op (S.ev x) (S.ev y)) (fun v => F v S.H) dp := ex_opt
@[go_sem] theorem opB_un (op : UnOp) (x : X) : opB P dr id (.un op x) S F u = opt (unV op (S.ev x)) (fun v => F v S.H) dp := ex_opt
def convV (k : IntKind) : V → Option V
 | .int _ n => some (.int k (k.wrap n))
 | _ => none
@[go_sem] theorem opB_conv (k : IntKind) (x : X) : opB P dr id (.conv k x) S F u = opt (convV k (S.ev x)) (fun v => F v S.H) dp := by
 simp only [opB, step1]
 cases S.ev x <;> simp only [convV, zf3, ex_no, opt_some] <;> exact ex_bnd
def eqbV (neg : Bool) : V → V → Option V
 | .bool a, .bool b => some (.bool (if neg then !decide (a = b) else decide (a = b)))
 | _, _ => none
@[go_sem] theorem opB_eqB (neg : Bool) (x y : X) : opB P dr id (.eqB neg x y) S F u = opt (eqbV neg (S.ev x) (S.ev y)) (fun v => F v S.H) dp := by
 simp only [opB, step1]
 cases S.ev x <;> cases S.ev y <;> simp only [eqbV, zf3, ex_no, opt_some] <;> exact ex_bnd
def pickV (c a b : V) : Option V := match c with | .bool t => some (if t then a else b) | _ => none
@[go_sem] theorem opB_pick (c a b : X) : opB P dr id (.pick c a b) S F u = opt (pickV (S.ev c) (S.ev a) (S.ev b)) (fun v => F v S.H) dp := by
 simp only [opB, step1]
 cases S.ev c <;> simp only [pickV, zf3, ex_no, opt_some] <;> exact ex_bnd
@[go_sem] theorem opB_mm (mx : Bool) (x : X) (xs : List X) : opB P dr id (.mm mx x xs) S F u = opt (mmV mx (S.ev x) (xs.map S.ev)) (fun v => F v S.H) dp := ex_opt
def extV (i : Nat) : V → Option V
 | .tup vs => vs[i]?
 | _ => none
@[go_sem] theorem opB_ext (x : X) (i : Nat) : opB P dr id (.ext x i) S F u = opt (extV i (S.ev x)) (fun v => F v S.H) dp := by
 simp only [opB, step1]
 cases S.ev x <;> simp only [extV, zf3, ex_no] <;> exact ex_opt
@[go_sem] theorem opB_build (z : List V) (parts : List (Nat × Nat × X)) : opB P dr id (.build z parts) S F u = opt ((fillV z (parts.map fun p => (p.1, p.2.1, S.ev p.2.2))).map .agg) (fun v => F v S.H) dp := by
 rw [← ex_opt]
 simp only [opB, step1, Option.map_eq_some_iff]
def fldV (off size : Nat) (ag : Bool) : V → Option V
 | .agg cs => V.part (.agg cs) off size ag
 | _ => none
@[go_sem] theorem opB_fld (off size : Nat) (ag : Bool) (x : X) : opB P dr id (.fld off size ag x) S F u = opt (fldV off size ag (S.ev x)) (fun v => F v S.H) dp := by
 simp only [opB, step1]
 cases S.ev x <;> simp only [fldV, zf3, ex_no] <;> exact ex_opt
@[go_sem] theorem opB_mkFn (f : Nat) (caps : List X) : opB P dr id (.mkFn f caps) S F u = bnd (caps.map S.ev) (fun vs => F (.fn f vs) S.H) dp := ex_bnd
@[go_sem] theorem opB_call (f : Nat) (args : List X) : opB P dr id (.call f args) S F u = callP P f (args.map S.ev) (fun v => F v S.H) dp := by
 simp only [opB, step1, callP]
 exact propext ⟨fun ⟨v, H, ⟨h1, h2, h3⟩, h4⟩ => ⟨by simpa using h1, v, h2, by rw [h3]; exact h4⟩, fun ⟨h1, v, h2, h3⟩ => ⟨v, S.H, ⟨by simpa using h1, h2, rfl⟩, h3⟩⟩
def callF (P : Program) (f : V) (args : List V) (Kn : V → Prop) (u : Dep Kn) : Prop := ∃ g caps, f = .fn g caps ∧ callP P g (args ++ caps) Kn u
@[go_sem] theorem callF_eq (g : Nat) (caps args : List V) (Kn : V → Prop) (u : Dep Kn) : callF P (.fn g caps) args Kn u = callP P g (args ++ caps) Kn u :=
 propext ⟨fun ⟨g', c', e, h⟩ => by cases e; exact h, fun h => ⟨g, caps, rfl, h⟩⟩
@[go_sem] theorem opB_callV (x : X) (args : List X) : opB P dr id (.callV x args) S F u = callF P (S.ev x) (args.map S.ev) (fun v => F v S.H) dp := by
 simp only [opB, step1, callF]
 cases hx : S.ev x <;> simp only [reduceCtorEq, false_and, exists_false, ex_no]
 rename_i g caps
 simp only [callP]
 refine propext ⟨fun ⟨v, H, ⟨h1, h2, h3, h4⟩, h5⟩ => ⟨g, caps, rfl, ?_, v, h3, by rw [h4]; exact h5⟩, fun ⟨g', caps', e, h1, v, h2, h3⟩ => ?_⟩
 ·intro u hu
  rcases List.mem_append.1 hu with hu | hu
  ·obtain ⟨y, hy, rfl⟩ := List.mem_map.1 hu; exact h1 y hy
  ·exact h2 u hu
 ·cases e
  exact ⟨v, S.H, ⟨fun y hy => h1 _ (List.mem_append_left _ (List.mem_map.2 ⟨y, hy, rfl⟩)), fun c hc => h1 c (List.mem_append_right _ hc), h2, rfl⟩, h3⟩
@[go_sem] theorem opB_alloc (size : Nat) (z : V) : opB P dr id (.alloc size z) S F u = (z.cells.length = size ∧ F (.ptr id 1 0 0) (S.H.upd id (some ⟨[z], size⟩))) :=
 propext ⟨fun ⟨v, H, ⟨h1, h2, h3⟩, h4⟩ => ⟨h1, h2 ▸ h3 ▸ h4⟩, fun ⟨h1, h2⟩ => ⟨_, _, ⟨h1, rfl, rfl⟩, h2⟩⟩
def boxB (v : V) (Kn : V → Prop) (_ : Dep Kn) : Prop := (v.isJunk = false ∧ v.Pure) ∧ Kn (.pp v)
theorem boxB_of {v : V} {Kn : V → Prop} {u : Dep Kn} (h1 : v.isJunk = false) (h2 : v.Pure) (h3 : Kn (.pp v)) : boxB v Kn u := ⟨⟨h1, h2⟩, h3⟩
def IsPure (v : V) : Prop := v.isJunk = false ∧ v.Pure
theorem zhn {v : V} (h1 : v.isJunk = false) (h2 : v.Pure) : IsPure v := ⟨h1, h2⟩
theorem zc6 {v : V} {Kn : V → Prop} {u : Dep Kn} (h : IsPure v) : boxB v Kn u = Kn (.pp v) := propext ⟨fun h => h.2, fun k => ⟨h, k⟩⟩
@[go_sem] theorem opB_boxP (x : X) : opB P dr id (.boxP x) S F u = boxB (S.ev x) (fun v => F v S.H) dp := by
 simp only [opB, step1, boxB]
 exact propext ⟨fun ⟨v, H, ⟨h1, h2, h3, h4⟩, h5⟩ => ⟨⟨h1, h2⟩, by rw [h3, h4]; exact h5⟩, fun ⟨⟨h1, h2⟩, h3⟩ => ⟨_, _, ⟨h1, h2, rfl, rfl⟩, h3⟩⟩
def loadV (dr : Bool) (nx : Nat) (H : Hp) (size : Nat) (ag : Bool) : V → Option V
 | .pp u => V.part u 0 size ag
 | .ptr b n i off => if dr = true ∧ nx ≤ b then none else match H b with
  | some blk => if blk.elems.length = n then (match blk.elems[i]? with | some e => V.part e off size ag | none => none) else none
  | none => none
 | _ => none
@[go_sem] theorem opB_load (size : Nat) (ag : Bool) (x : X) : opB P dr id (.load size ag x) S F u = opt (loadV dr S.nx S.H size ag (S.ev x)) (fun v => F v S.H) dp := by
 simp only [opB, step1]
 cases hx : S.ev x <;> simp only [loadV, zf3, ex_no]
 ·exact ex_opt
 ·rename_i b n i off
  refine propext ⟨fun ⟨v, H, ⟨h0, ⟨blk, e, h1, h2, h3, h4⟩, h5⟩, h6⟩ => ⟨v, ?_, by rw [h5]; exact h6⟩, fun ⟨v, h1, h2⟩ => ?_⟩
  ·rw [if_neg (fun hc => by have := h0 hc.1; omega), h1]
   simp [h2, h3, h4]
  ·split at h1
   ·cases h1
   ·rename_i hc
    split at h1
    ·rename_i blk hb
     split at h1
     ·rename_i hn
      split at h1
      ·rename_i e he
       exact ⟨v, S.H, ⟨fun hd => by
        have : ¬ S.nx ≤ b := fun hle => hc ⟨hd, hle⟩
        omega, ⟨blk, e, hb, hn, he, h1⟩, rfl⟩, h2⟩
      ·cases h1
     ·cases h1
    ·cases h1
def clashV : Bool → Option V → Option V
 | true, _ => none
 | false, o => o
@[go_sem] theorem clashV_false (o : Option V) : clashV false o = o := rfl
def loadNV (dr : Bool) (nx : Nat) (H : Hp) (size : Nat) (ag : Bool) (as : List V) : V → Option V
 | .pp u => V.part u 0 size ag
 | .ptr b n i off => clashV (clash b as) (loadV dr nx H size ag (.ptr b n i off))
 | _ => none
@[go_sem] theorem loadNV_pp (dr : Bool) (nx : Nat) (H : Hp) (size : Nat) (ag : Bool) (as : List V) (u : V) : loadNV dr nx H size ag as (.pp u) = V.part u 0 size ag := rfl
@[go_sem] theorem loadNV_ptr (dr : Bool) (nx : Nat) (H : Hp) (size : Nat) (ag : Bool) (as : List V) (b n i off : Nat) : loadNV dr nx H size ag as (.ptr b n i off) = clashV (clash b as) (loadV dr nx H size ag (.ptr b n i off)) := rfl
@[go_sem] theorem clash_nil (b : Nat) : clash b [] = false := rfl
@[go_sem] theorem clash_ptr (b c n i o : Nat) (l : List V) : clash b (.ptr c n i o :: l) = (c == b || clash b l) := rfl
attribute [go_sem] Bool.false_or
theorem clash_ne {b c n i o : Nat} {l : List V} (h : c ≠ b) : clash b (.ptr c n i o :: l) = clash b l := by simp [clash, h]
@[go_sem] theorem opB_loadN (size : Nat) (ag : Bool) (x : X) (av : List Nat) : opB P dr id (.loadN size ag x av) S F u = opt (loadNV dr S.nx S.H size ag (av.map S.env) (S.ev x)) (fun v => F v S.H) dp := by
 have hl := opB_load P dr id S F u size ag x
 simp only [opB, step1] at hl ⊢
 cases hx : S.ev x <;> simp only [loadNV, zf3, ex_no]
 ·exact ex_opt
 ·rename_i b n i off
  rw [hx] at hl
  cases hc : clash b (av.map S.env)
  ·simp only [clashV, true_and]; exact hl
  ·simp [clashV, opt]
def fldAV (dr : Bool) (nx : Nat) (H : Hp) (off size : Nat) (ag : Bool) : V → Option V
 | .pp u => (V.part u off size ag).map .pp
 | .ptr b n i o => if dr = true ∧ nx ≤ b then none else match H b with
  | some blk => if blk.elems.length = n then some (.ptr b n i (o + off)) else none
  | none => none
 | _ => none
@[go_sem] theorem opB_fldA (off size : Nat) (ag : Bool) (x : X) : opB P dr id (.fldA off size ag x) S F u = opt (fldAV dr S.nx S.H off size ag (S.ev x)) (fun v => F v S.H) dp := by
 simp only [opB, step1]
 cases hx : S.ev x <;> simp only [fldAV, zf3, ex_no]
 ·rename_i u
  simp only [opt, Option.map_eq_some_iff]
  exact propext ⟨fun ⟨v, H, ⟨h1, h2⟩, h3⟩ => ⟨v, h1, by rw [h2]; exact h3⟩, fun ⟨v, h1, h2⟩ => ⟨v, S.H, ⟨h1, rfl⟩, h2⟩⟩
 ·rename_i b n i o
  refine propext ⟨fun ⟨v, H, ⟨h0, h1, ⟨blk, h2, h3⟩, h4⟩, h5⟩ => ⟨v, ?_, by rw [h4]; exact h5⟩, fun ⟨v, h1, h2⟩ => ?_⟩
  ·rw [if_neg (fun hc => by have := h0 hc.1; omega), h2]
   simp [h3, h1]
  ·split at h1
   ·cases h1
   ·rename_i hc
    split at h1
    ·rename_i blk hb
     split at h1
     ·rename_i hn
      simp at h1
      exact ⟨v, S.H, ⟨fun hd => by
        have : ¬ S.nx ≤ b := fun hle => hc ⟨hd, hle⟩
        omega, h1, ⟨blk, hb, hn⟩, rfl⟩, h2⟩
     ·cases h1
    ·cases h1
def arrAV (dr : Bool) (nx : Nat) (H : Hp) (n size : Nat) : V → V → Option V
 | .ptr b m k o, .int _ j => if dr = true ∧ nx ≤ b then none else if 0 ≤ j ∧ j < n then (match H b with
  | some blk => if blk.elems.length = m then some (.ptr b m k (o + j.toNat * size)) else none
  | none => none) else none
 | _, _ => none
@[go_sem] theorem opB_arrA (n size : Nat) (ag : Bool) (x i : X) : opB P dr id (.arrA n size ag x i) S F u = opt (arrAV dr S.nx S.H n size (S.ev x) (S.ev i)) (fun v => F v S.H) dp := by
 simp only [opB, step1]
 cases hx : S.ev x <;> cases hi : S.ev i <;> simp only [arrAV, zf3, ex_no]
 rename_i b m k o kk j
 refine propext ⟨fun ⟨v, H, ⟨h0, h1, ⟨blk, h2, h3⟩, h4, h5⟩, h6⟩ => ⟨v, ?_, by rw [h5]; exact h6⟩, fun ⟨v, h1, h2⟩ => ?_⟩
 ·rw [if_neg (fun hc => by have := h4 hc.1; omega), if_pos h0, h2]
  simp [h3, h1]
 ·split at h1
  ·cases h1
  ·rename_i hc
   split at h1
   ·rename_i h0
    split at h1
    ·rename_i blk hb
     split at h1
     ·rename_i hn
      simp at h1
      exact ⟨v, S.H, ⟨h0, h1, ⟨blk, hb, hn⟩, fun hd => by
        have : ¬ S.nx ≤ b := fun hle => hc ⟨hd, hle⟩
        omega, rfl⟩, h2⟩
     ·cases h1
    ·cases h1
   ·cases h1
def nilV (dr : Bool) (nx : Nat) (H : Hp) : V → Option V
 | .pp u => some (.pp u)
 | .fn f cs => some (.fn f cs)
 | .ptr b n i o => if dr = true ∧ nx ≤ b then none else match H b with
  | some blk => if blk.elems.length = n then some (.ptr b n i o) else none
  | none => none
 | _ => none
@[go_sem] theorem opB_nilchk (x : X) : opB P dr id (.nilchk x) S F u = opt (nilV dr S.nx S.H (S.ev x)) (fun v => F v S.H) dp := by
 simp only [opB, step1]
 cases hx : S.ev x <;> simp only [nilV, zf3, ex_no, opt_some]
 ·exact ex_bnd
 ·rename_i b n i o
  refine propext ⟨fun ⟨v, H, ⟨h0, h1, ⟨blk, h2, h3⟩, h4⟩, h5⟩ => ⟨v, ?_, by rw [h4]; exact h5⟩, fun ⟨v, h1, h2⟩ => ?_⟩
  ·rw [if_neg (fun hc => by have := h0 hc.1; omega), h2]
   simp [h3, h1]
  ·split at h1
   ·cases h1
   ·rename_i hc
    split at h1
    ·rename_i blk hb
     split at h1
     ·rename_i hn
      simp at h1
      exact ⟨v, S.H, ⟨fun hd => by
        have : ¬ S.nx ≤ b := fun hle => hc ⟨hd, hle⟩
        omega, h1, ⟨blk, hb, hn⟩, rfl⟩, h2⟩
     ·cases h1
    ·cases h1
 ·exact ex_bnd
@[go_sem] theorem opB_red (f : ROp) (xs : List X) : opB P dr id (.red f xs) S F u = opt (redV f (xs.map S.ev)) (fun v => F v S.H) dp := ex_opt
def newB (a : Option (Nat × Blk)) (id : Nat) (H : Hp) (F : V → Hp → Prop) (_ : Dep F) : Prop := ∃ n blk, a = some (n, blk) ∧ F (.own id n) (H.upd id (some blk))
@[go_sem] theorem newB_some (n : Nat) (blk : Blk) (id : Nat) (H : Hp) (F : V → Hp → Prop) (u : Dep F) : newB (some (n, blk)) id H F u = F (.own id n) (H.upd id (some blk)) :=
 propext ⟨fun ⟨n', b', h1, h2⟩ => by cases h1; exact h2, fun h => ⟨n, blk, rfl, h⟩⟩
theorem newB_of {a : Option (Nat × Blk)} {id n : Nat} {blk : Blk} {H : Hp} {F : V → Hp → Prop} {u : Dep F} (h : a = some (n, blk)) (hk : F (.own id n) (H.upd id (some blk))) : newB a id H F u := ⟨n, blk, h, hk⟩
@[go_sem] theorem opB_new (f : NOp) (xs : List X) : opB P dr id (.new f xs) S F u = newB (newV f (xs.map S.ev)) id S.H F u := by
 simp only [opB, step1, newB]
 exact propext ⟨fun ⟨v, H, ⟨n, blk, h1, h2, h3⟩, h4⟩ => ⟨n, blk, h1, by rw [h2, h3]; exact h4⟩, fun ⟨n, blk, h1, h2⟩ => ⟨_, _, ⟨n, blk, h1, rfl, rfl⟩, h2⟩⟩
def effB (a : Option (V × Hp)) (F : V → Hp → Prop) (_ : Dep F) : Prop := ∃ v H, a = some (v, H) ∧ F v H
@[go_sem] theorem effB_some (v : V) (H : Hp) (F : V → Hp → Prop) (u : Dep F) : effB (some (v, H)) F u = F v H :=
 propext ⟨fun ⟨v', H', h1, h2⟩ => by cases h1; exact h2, fun h => ⟨v, H, rfl, h⟩⟩
theorem effB_of {a : Option (V × Hp)} {v : V} {H : Hp} {F : V → Hp → Prop} {u : Dep F} (h : a = some (v, H)) (hk : F v H) : effB a F u := ⟨v, H, h, hk⟩
@[go_sem] theorem opB_eff (f : EOp) (xs : List X) : opB P dr id (.eff f xs) S F u = effB (effV S.H id f (xs.map S.ev)) F u := rfl
theorem app_own {H : Hp} {id es bytes b n : Nat} {blk : Blk} {news : List V} {y : V} (hs : slOf H y = some news) (hr : rowOk es news = true) (h0 : 0 < es) (hb : H b = some blk) (hn : blk.elems.length = n) (hsz : blk.size = es)
  (hby : (n + news.length) * bytes ≤ 140737488355328) (h63 : n + news.length ≤ 140737488355328) (hnot : y.notIn b = true) :
  effV H id (.app es bytes) [.own b n, y] = some (.own id (n + news.length), (H.upd b none).upd id (some ⟨blk.elems ++ news, es⟩)) := by
 simp only [effV, hs, hr, h0, hb, hn, hsz, hby, h63, hnot, and_self, if_true]
theorem app_nil {H : Hp} {id es bytes : Nat} {e : V} {l : List V} {y : V} (hs : slOf H y = some (e :: l)) (hr : rowOk es (e :: l) = true) (h0 : 0 < es) (hby : (l.length + 1) * bytes ≤ 140737488355328) (h63 : l.length + 1 ≤ 140737488355328) :
  effV H id (.app es bytes) [.nil, y] = some (.own id (l.length + 1), H.upd id (some ⟨e :: l, es⟩)) := by
 simp only [effV, hs, hr, h0, hby, h63, and_self, if_true]
def storeV (H : Hp) (size : Nat) (p x : V) : Option (Nat × Blk) :=
 match p with
 | .ptr b n i off => match H b with
  | some blk => if blk.elems.length = n ∧ x.cells.length = size ∧ (∀ c ∈ x.cells, c.cellOk = true) then
    (match blk.elems[i]? with | some e => (V.setPart e off x).map fun e' => (b, ⟨blk.elems.set i e', blk.size⟩) | none => none) else none
  | none => none
 | _ => none
def optB (a : Option (Nat × Blk)) (f : Nat × Blk → Prop) (_ : Dep f) : Prop := ∃ v, a = some v ∧ f v
@[go_sem] theorem optB_some (v : Nat × Blk) (f : Nat × Blk → Prop) (u : Dep f) : optB (some v) f u = f v := by simp [optB]
@[go_sem] theorem opB_store (size : Nat) (p x : X) : opB P dr id (.store size p x) S F u = optB (storeV S.H size (S.ev p) (S.ev x)) (fun q => F .undef (S.H.upd q.1 (some q.2))) dp := by
 simp only [opB, step1, optB]
 cases hp : S.ev p <;> simp only [storeV, reduceCtorEq, false_and, exists_false, ex_no]
 rename_i b n i off
 refine propext ⟨fun ⟨v, H, ⟨h1, h2, blk, e, e', h3, h5, h6, h7, h8, h9⟩, h10⟩ => ⟨(b, ⟨blk.elems.set i e', blk.size⟩), ?_, by rw [h2, h9]; exact h10⟩, fun ⟨q, h1, h2⟩ => ?_⟩
 ·rw [h3]
  simp only
  rw [if_pos ⟨h5, h1, h8⟩, h6]
  simp [h7]
 ·split at h1
  ·rename_i blk hb
   split at h1
   ·rename_i hc
    split at h1
    ·rename_i e he
     simp only [Option.map_eq_some_iff] at h1
     obtain ⟨e', h3, rfl⟩ := h1
     exact ⟨.undef, _, ⟨hc.2.1, rfl, blk, e, e', hb, hc.1, he, h3, hc.2.2, rfl⟩, h2⟩
    ·cases h1
   ·cases h1
  ·cases h1
def idxB (dr : Bool) (nx : Nat) (H : Hp) (es : Nat) (x i : V) (Kn : V → Prop) (_ : Dep Kn) : Prop :=
 match x, i with
 | .sl xs, .int _ j => 0 ≤ j ∧ ∃ e, xs[j.toNat]? = some e ∧ e.cells.length = es ∧ Kn (.pp e)
 | .own b n, .int _ j => 0 ≤ j ∧ j < n ∧ (∃ blk, H b = some blk ∧ blk.elems.length = n ∧ blk.size = es) ∧ (dr = true → b < nx) ∧ Kn (.ptr b n j.toNat 0)
 | .win b n off len, .int _ j => 0 ≤ j ∧ j < len ∧ off + len ≤ n ∧ (∃ blk, H b = some blk ∧ blk.elems.length = n ∧ blk.size = es) ∧ (dr = true → b < nx) ∧ Kn (.ptr b n (off + j.toNat) 0)
 | _, _ => False
theorem idxB_sl {dr : Bool} {nx : Nat} {H : Hp} {es : Nat} {xs : List V} {k : IntKind} {j : Int} {Kn : V → Prop} {u : Dep Kn} {e : V} (h0 : 0 ≤ j) (he : xs[j.toNat]? = some e) (hs : e.cells.length = es) (hk : Kn (.pp e)) : idxB dr nx H es (.sl xs) (.int k j) Kn u :=
 ⟨h0, e, he, hs, hk⟩
theorem idxB_own {dr : Bool} {nx : Nat} {H : Hp} {es b n : Nat} {k : IntKind} {j : Int} {Kn : V → Prop} {u : Dep Kn} {blk : Blk} (h0 : 0 ≤ j) (h1 : j < n) (hb : H b = some blk) (hn : blk.elems.length = n) (hs : blk.size = es) (hd : dr = true → b < nx) (hk : Kn (.ptr b n j.toNat 0)) : idxB dr nx H es (.own b n) (.int k j) Kn u :=
 ⟨h0, h1, ⟨blk, hb, hn, hs⟩, hd, hk⟩
@[go_sem] theorem opB_idxA (es : Nat) (x i : X) : opB P dr id (.idxA es x i) S F u = idxB dr S.nx S.H es (S.ev x) (S.ev i) (fun v => F v S.H) dp := by
 simp only [opB, step1, idxB]
 cases hx : S.ev x <;> cases hi : S.ev i <;> simp only [reduceCtorEq, false_and, exists_false, ex_no]
 ·refine propext ⟨fun ⟨v, H, ⟨h1, ⟨e, h2, h3, h4⟩, h5⟩, h6⟩ => ⟨h1, e, h2, h3, by rw [h4, h5]; exact h6⟩, fun ⟨h1, e, h2, h3, h4⟩ => ⟨_, _, ⟨h1, ⟨e, h2, h3, rfl⟩, rfl⟩, h4⟩⟩
 ·refine propext ⟨fun ⟨v, H, ⟨h1, h2, h3, h4, h5, h6⟩, h7⟩ => ⟨h1, h2, h4, h5, by rw [h3, h6]; exact h7⟩, fun ⟨h1, h2, h4, h5, h6⟩ => ⟨_, _, ⟨h1, h2, rfl, h4, h5, rfl⟩, h6⟩⟩
 ·refine propext ⟨fun ⟨v, H, ⟨h1, h2, h0, h3, h4, h5, h6⟩, h7⟩ => ⟨h1, h2, h0, h4, h5, by rw [h3, h6]; exact h7⟩, fun ⟨h1, h2, h0, h4, h5, h6⟩ => ⟨_, _, ⟨h1, h2, h0, rfl, h4, h5, rfl⟩, h6⟩⟩
theorem idxB_win {dr : Bool} {nx : Nat} {H : Hp} {es b n off len : Nat} {k : IntKind} {j : Int} {Kn : V → Prop} {u : Dep Kn} {blk : Blk} (h0 : 0 ≤ j) (h1 : j < len) (h2 : off + len ≤ n) (hb : H b = some blk) (hn : blk.elems.length = n) (hs : blk.size = es) (hd : dr = true → b < nx) (hk : Kn (.ptr b n (off + j.toNat) 0)) : idxB dr nx H es (.win b n off len) (.int k j) Kn u :=
 ⟨h0, h1, h2, ⟨blk, hb, hn, hs⟩, hd, hk⟩
def winB (dr : Bool) (nx : Nat) (H : Hp) (es : Nat) (x l h : V) (Kn : V → Prop) (_ : Dep Kn) : Prop := ∃ b n k i k' j, x = .own b n ∧ l = .int k i ∧ h = .int k' j ∧ 0 ≤ i ∧ i < j ∧ j ≤ n ∧ (∃ blk, H b = some blk ∧ blk.elems.length = n ∧ blk.size = es) ∧ (dr = true → b < nx) ∧ Kn (.win b n i.toNat (j - i).toNat)
theorem winB_of {dr : Bool} {nx : Nat} {H : Hp} {es b n : Nat} {k k' : IntKind} {i j : Int} {Kn : V → Prop} {u : Dep Kn} {blk : Blk} (h0 : 0 ≤ i) (h1 : i < j) (h2 : j ≤ n) (hb : H b = some blk) (hn : blk.elems.length = n) (hs : blk.size = es) (hd : dr = true → b < nx) (hk : Kn (.win b n i.toNat (j - i).toNat)) : winB dr nx H es (.own b n) (.int k i) (.int k' j) Kn u :=
 ⟨b, n, k, i, k', j, rfl, rfl, rfl, h0, h1, h2, ⟨blk, hb, hn, hs⟩, hd, hk⟩
@[go_sem] theorem opB_win (es : Nat) (x l h : X) : opB P dr id (.win es x l h) S F u = winB dr S.nx S.H es (S.ev x) (S.ev l) (S.ev h) (fun v => F v S.H) dp := by
 simp only [opB, step1, winB]
 refine propext ⟨fun ⟨v, H, h1, h2⟩ => ?_, fun ⟨b, n, k, i, k', j, e1, e2, e3, h0, h1, h2, h3, h4, h5⟩ => ?_⟩
 ·split at h1
  ·rename_i b n k i k' j e1 e2 e3
   obtain ⟨q1, q2, q3, q4, q5, q6, q7⟩ := h1
   exact ⟨b, n, k, i, k', j, e1, e2, e3, q1, q2, q3, q5, q6, by rw [q4, q7]; exact h2⟩
  ·exact h1.elim
 ·exact ⟨_, S.H, by rw [e1, e2, e3]; exact ⟨h0, h1, h2, rfl, h3, h4, rfl⟩, h5⟩
def winFB (dr : Bool) (nx : Nat) (H : Hp) (es : Nat) (x l : V) (Kn : V → Prop) (_ : Dep Kn) : Prop := ∃ b n k i, x = .own b n ∧ l = .int k i ∧ 0 ≤ i ∧ i < (n : Int) ∧ (∃ blk, H b = some blk ∧ blk.elems.length = n ∧ blk.size = es) ∧ (dr = true → b < nx) ∧ Kn (.win b n i.toNat (n - i.toNat))
theorem winFB_of {dr : Bool} {nx : Nat} {H : Hp} {es b n : Nat} {k : IntKind} {i : Int} {Kn : V → Prop} {u : Dep Kn} {blk : Blk} (h0 : 0 ≤ i) (h1 : i < n) (hb : H b = some blk) (hn : blk.elems.length = n) (hs : blk.size = es) (hd : dr = true → b < nx) (hk : Kn (.win b n i.toNat (n - i.toNat))) : winFB dr nx H es (.own b n) (.int k i) Kn u :=
 ⟨b, n, k, i, rfl, rfl, h0, h1, ⟨blk, hb, hn, hs⟩, hd, hk⟩
@[go_sem] theorem opB_winF (es : Nat) (x l : X) : opB P dr id (.winF es x l) S F u = winFB dr S.nx S.H es (S.ev x) (S.ev l) (fun v => F v S.H) dp := by
 simp only [opB, step1, winFB]
 refine propext ⟨fun ⟨v, H, h1, h2⟩ => ?_, fun ⟨b, n, k, i, e1, e2, h0, h1, h3, h4, h5⟩ => ?_⟩
 ·split at h1
  ·rename_i b n k i e1 e2
   obtain ⟨q1, q2, q4, q5, q6, q7⟩ := h1
   exact ⟨b, n, k, i, e1, e2, q1, q2, q5, q6, by rw [q4, q7]; exact h2⟩
  ·exact h1.elim
 ·exact ⟨_, S.H, by rw [e1, e2]; exact ⟨h0, h1, rfl, h3, h4, rfl⟩, h5⟩
def isnilB (dr : Bool) (nx : Nat) (H : Hp) (k : Nat) (neg : Bool) (x : V) (Kn : V → Prop) (_ : Dep Kn) : Prop :=
 match k, x with
 | 0, .sl (_ :: _) => Kn (.bool neg)
 | 0, .own b (n + 1) => (∃ blk, H b = some blk ∧ blk.elems.length = n + 1) ∧ (dr = true → b < nx) ∧ Kn (.bool neg)
 | 0, .win b n _ (_ + 1) => (∃ blk, H b = some blk ∧ blk.elems.length = n) ∧ (dr = true → b < nx) ∧ Kn (.bool neg)
 | 1, .nilptr => Kn (.bool !neg)
 | 1, .pp _ => Kn (.bool neg)
 | 1, .ptr b n _ _ => (∃ blk, H b = some blk ∧ blk.elems.length = n) ∧ (dr = true → b < nx) ∧ Kn (.bool neg)
 | 2, .fn _ _ => Kn (.bool neg)
 | 2, .nilfn => Kn (.bool !neg)
 | _, _ => False
@[go_sem] theorem opB_isnil (k : Nat) (neg : Bool) (x : X) : opB P dr id (.isnil k neg x) S F u = isnilB dr S.nx S.H k neg (S.ev x) (fun v => F v S.H) dp := by
 simp only [opB, step1, isnilB]
 generalize S.ev x = y
 have no : (∃ v H, False ∧ F v H) = False := ex_no
 have two : ∀ u : V, (∃ v H, (u = v ∧ S.H = H) ∧ F v H) = F u S.H := fun u => ex_bnd
 have three : ∀ (u : V) (p q : Prop), (∃ v H, (u = v ∧ p ∧ q ∧ S.H = H) ∧ F v H) = (p ∧ q ∧ F u S.H) := fun u p q =>
  propext ⟨fun ⟨v, H, ⟨h1, h4, h5, h2⟩, h3⟩ => ⟨h4, h5, h1 ▸ h2 ▸ h3⟩, fun ⟨h4, h5, h⟩ => ⟨_, _, ⟨rfl, h4, h5, rfl⟩, h⟩⟩
 cases y with
 | sl xs => cases xs <;> rcases k with _ | _ | _ | k <;> first | exact two _ | exact no
 | win b n off len => cases len <;> rcases k with _ | _ | _ | k <;> first | exact three _ _ _ | exact no
 | own b n => cases n <;> rcases k with _ | _ | _ | k <;> first | exact three _ _ _ | exact no
 | _ => rcases k with _ | _ | _ | k <;> first | exact two _ | exact three _ _ _ | exact no
def lenB (dr : Bool) (nx : Nat) (H : Hp) (str : Bool) (x : V) : Option V :=
 match x with
 | .own b n => if str = false ∧ ¬ (dr = true ∧ nx ≤ b) then (match H b with | some blk => if blk.elems.length = n then some (.int .i64 n) else none | none => none) else none
 | y => lenV str y
@[go_sem] theorem opB_len (str : Bool) (x : X) : opB P dr id (.len str x) S F u = opt (lenB dr S.nx S.H str (S.ev x)) (fun v => F v S.H) dp := by
 simp only [opB, step1]
 cases hx : S.ev x <;> simp only [lenB] <;> try exact ex_opt
 rename_i b n
 refine propext ⟨fun ⟨v, H, ⟨h1, ⟨blk, h2, h3⟩, h4, h5, h6⟩, h7⟩ => ⟨v, ?_, h6 ▸ h7⟩, fun ⟨v, h1, h2⟩ => ?_⟩
 ·rw [if_pos ⟨h1, fun hc => by have := h5 hc.1; omega⟩, h2]
  simp [h3, h4]
 ·split at h1
  ·rename_i hc
   split at h1
   ·rename_i blk hb
    split at h1
    ·rename_i hn
     simp at h1
     exact ⟨v, S.H, ⟨hc.1, ⟨blk, hb, hn⟩, h1, fun hd => by
      have : ¬ S.nx ≤ b := fun hle => hc.2 ⟨hd, hle⟩
      omega, rfl⟩, h2⟩
    ·cases h1
   ·cases h1
  ·cases h1
end ops
@[go_sem] theorem binV_add (k : IntKind) (a b : Int) : binV .add (.int k a) (.int k b) = some (.int k (k.wrap (a + b))) := by simp [binV, intV]
@[go_sem] theorem binV_sub (k : IntKind) (a b : Int) : binV .sub (.int k a) (.int k b) = some (.int k (k.wrap (a - b))) := by simp [binV, intV]
@[go_sem] theorem binV_mul (k : IntKind) (a b : Int) : binV .mul (.int k a) (.int k b) = some (.int k (k.wrap (a * b))) := by simp [binV, intV]
@[go_sem] theorem binV_eql (k : IntKind) (a b : Int) : binV .eql (.int k a) (.int k b) = some (.bool (decide (a = b))) := by simp [binV, intV]
@[go_sem] theorem binV_neq (k : IntKind) (a b : Int) : binV .neq (.int k a) (.int k b) = some (.bool (!decide (a = b))) := by simp [binV, intV]
@[go_sem] theorem binV_lss (k : IntKind) (a b : Int) : binV .lss (.int k a) (.int k b) = some (.bool (decide (a < b))) := by simp [binV, intV]
@[go_sem] theorem binV_leq (k : IntKind) (a b : Int) : binV .leq (.int k a) (.int k b) = some (.bool (decide (a ≤ b))) := by simp [binV, intV]
@[go_sem] theorem binV_gtr (k : IntKind) (a b : Int) : binV .gtr (.int k a) (.int k b) = some (.bool (decide (b < a))) := by simp [binV, intV]
@[go_sem] theorem binV_geq (k : IntKind) (a b : Int) : binV .geq (.int k a) (.int k b) = some (.bool (decide (b ≤ a))) := by simp [binV, intV]
theorem binV_quo (k : IntKind) (a b : Int) : binV .quo (.int k a) (.int k b) = if b = 0 then none else some (.int k (k.wrap (a.tdiv b))) := by simp [binV, intV]
theorem binV_rem (k : IntKind) (a b : Int) : binV .rem (.int k a) (.int k b) = if b = 0 then none else some (.int k (a.tmod b)) := by simp [binV, intV]
@[go_sem] theorem binV_and (k : IntKind) (a b : Int) : binV .and (.int k a) (.int k b) = intV .and k a b := by simp [binV]
@[go_sem] theorem binV_or (k : IntKind) (a b : Int) : binV .or (.int k a) (.int k b) = intV .or k a b := by simp [binV]
@[go_sem] theorem binV_xor (k : IntKind) (a b : Int) : binV .xor (.int k a) (.int k b) = intV .xor k a b := by simp [binV]
@[go_sem] theorem binV_andNot (k : IntKind) (a b : Int) : binV .andNot (.int k a) (.int k b) = intV .andNot k a b := by simp [binV]
@[go_sem] theorem binV_shl (k k' : IntKind) (a b : Int) : binV .shl (.int k a) (.int k' b) = zdt .shl k a b := by simp [binV]
@[go_sem] theorem binV_shr (k k' : IntKind) (a b : Int) : binV .shr (.int k a) (.int k' b) = zdt .shr k a b := by simp [binV]
@[go_sem] theorem binV_str (op : BinOp) (a b : ByteArray) : binV op (.str a) (.str b) = strV op a b := rfl
@[go_sem] theorem unV_neg (k : IntKind) (n : Int) : unV .neg (.int k n) = some (.int k (k.wrap (0 - n))) := rfl
@[go_sem] theorem unV_not (b : Bool) : unV .not (.bool b) = some (.bool !b) := rfl
@[go_sem] theorem convV_int (k k' : IntKind) (n : Int) : convV k (.int k' n) = some (.int k (k.wrap n)) := rfl
@[go_sem] theorem eqbV_t (a b : Bool) : eqbV true (.bool a) (.bool b) = some (.bool (!decide (a = b))) := by simp [eqbV]
@[go_sem] theorem eqbV_f (a b : Bool) : eqbV false (.bool a) (.bool b) = some (.bool (decide (a = b))) := by simp [eqbV]
@[go_sem] theorem pickV_true (a b : V) : pickV (.bool true) a b = some a := rfl
@[go_sem] theorem pickV_false (a b : V) : pickV (.bool false) a b = some b := rfl
@[go_sem] theorem pickV_bool (t a b : Bool) : pickV (.bool t) (.bool a) (.bool b) = some (.bool (if t then a else b)) := by cases t <;> rfl
@[go_sem] theorem mmV_nil (mx : Bool) (v : V) : mmV mx v [] = some v := by unfold mmV; rfl
@[go_sem] theorem mmV_max (k k' : IntKind) (x y : Int) (l : List V) : mmV true (.int k x) (.int k' y :: l) = mmV true (.int k (max x y)) l := by simp only [mmV, if_true]; congr 2; omega
@[go_sem] theorem mmV_min (k k' : IntKind) (x y : Int) (l : List V) : mmV false (.int k x) (.int k' y :: l) = mmV false (.int k (min x y)) l := by simp only [mmV, Bool.false_eq_true, if_false]; congr 2; omega
@[go_sem] theorem extV_tup (i : Nat) (vs : List V) : extV i (.tup vs) = vs[i]? := rfl
@[go_sem] theorem fldV_agg (off size : Nat) (ag : Bool) (cs : List V) : fldV off size ag (.agg cs) = V.part (.agg cs) off size ag := rfl
@[go_sem] theorem loadV_pp (dr : Bool) (nx : Nat) (H : Hp) (size : Nat) (ag : Bool) (u : V) : loadV dr nx H size ag (.pp u) = V.part u 0 size ag := rfl
@[go_sem] theorem fldAV_pp (dr : Bool) (nx : Nat) (H : Hp) (off size : Nat) (ag : Bool) (u : V) : fldAV dr nx H off size ag (.pp u) = (V.part u off size ag).map .pp := rfl
@[go_sem] theorem nilV_pp (dr : Bool) (nx : Nat) (H : Hp) (u : V) : nilV dr nx H (.pp u) = some (.pp u) := rfl
@[go_sem] theorem nilV_fn (dr : Bool) (nx : Nat) (H : Hp) (f : Nat) (cs : List V) : nilV dr nx H (.fn f cs) = some (.fn f cs) := rfl
@[go_sem] theorem lenB_sl (dr : Bool) (nx : Nat) (H : Hp) (xs : List V) : lenB dr nx H false (.sl xs) = some (.int .i64 xs.length) := rfl
@[go_sem] theorem lenB_nil (dr : Bool) (nx : Nat) (H : Hp) : lenB dr nx H false .nil = some (.int .i64 0) := rfl
@[go_sem] theorem lenB_win (dr : Bool) (nx : Nat) (H : Hp) (b n off len : Nat) : lenB dr nx H false (.win b n off len) = some (.int .i64 len) := rfl
@[go_sem] theorem lenB_str (dr : Bool) (nx : Nat) (H : Hp) (s : ByteArray) : lenB dr nx H true (.str s) = some (.int .i64 s.size) := rfl
attribute [go_sem] true_and and_true and_self not_true_eq_false not_false_eq_true if_true if_false List.take_zero List.take_succ_cons List.take_nil List.drop_zero List.drop_succ_cons List.drop_nil List.set_cons_zero List.set_cons_succ List.getElem?_cons_zero List.getElem?_cons_succ List.getElem?_nil Bool.false_eq_true Bool.not_true Bool.not_false List.append_assoc Option.bind_none Option.map_none decide_true decide_false List.append_nil eq_self
theorem all_nil {p : V → Prop} : (∀ c ∈ ([] : List V), p c) = True := by simp
@[go_sem] theorem all_cons (p : V → Prop) (a : V) (l : List V) : (∀ c ∈ a :: l, p c) = (p a ∧ ∀ c ∈ l, p c) := by simp
@[go_sem] theorem all_nil' (p : V → Prop) : (∀ c ∈ ([] : List V), p c) = True := by simp
/-! Own rows, told by what they are. -/
def loadO (dr : Bool) (nx b : Nat) (o : Option Blk) (n i off size : Nat) (ag : Bool) : Option V := if dr = true ∧ nx ≤ b then none else match o with
  | some blk => if blk.elems.length = n then (match blk.elems[i]? with | some e => V.part e off size ag | none => none) else none
  | none => none
@[go_sem] theorem loadV_ptr (dr : Bool) (nx : Nat) (H : Hp) (size : Nat) (ag : Bool) (b n i off : Nat) : loadV dr nx H size ag (.ptr b n i off) = loadO dr nx b (H b) n i off size ag := rfl
@[go_sem] theorem loadO_one (nx b es off size : Nat) (ag : Bool) (v : V) : loadO false nx b (some ⟨[v], es⟩) 1 0 off size ag = V.part v off size ag := by simp [loadO]
@[go_sem] theorem loadO_oned {nx b : Nat} (h : b < nx) (es off size : Nat) (ag : Bool) (v : V) : loadO true nx b (some ⟨[v], es⟩) 1 0 off size ag = V.part v off size ag := by simp [loadO]; omega
def fldAO (dr : Bool) (nx b : Nat) (p : Option Blk) (n i o off : Nat) : Option V := if dr = true ∧ nx ≤ b then none else match p with
  | some blk => if blk.elems.length = n then some (.ptr b n i (o + off)) else none
  | none => none
@[go_sem] theorem fldAV_ptr (dr : Bool) (nx : Nat) (H : Hp) (off size : Nat) (ag : Bool) (b n i o : Nat) : fldAV dr nx H off size ag (.ptr b n i o) = fldAO dr nx b (H b) n i o off := rfl
@[go_sem] theorem fldAO_f {xs : List V} {n : Nat} (h : xs.length = n) (nx b es i o off : Nat) : fldAO false nx b (some ⟨xs, es⟩) n i o off = some (.ptr b n i (o + off)) := by simp [fldAO, h]
@[go_sem] theorem fldAO_t {xs : List V} {n nx b : Nat} (h : xs.length = n) (hb : b < nx) (es i o off : Nat) : fldAO true nx b (some ⟨xs, es⟩) n i o off = some (.ptr b n i (o + off)) := by simp [fldAO, h]; omega
def arrAO (dr : Bool) (nx b : Nat) (p : Option Blk) (n size m k o : Nat) (j : Int) : Option V := if dr = true ∧ nx ≤ b then none else if 0 ≤ j ∧ j < n then (match p with
  | some blk => if blk.elems.length = m then some (.ptr b m k (o + j.toNat * size)) else none
  | none => none) else none
@[go_sem] theorem arrAV_ptr (dr : Bool) (nx : Nat) (H : Hp) (n size b m k o : Nat) (kk : IntKind) (j : Int) : arrAV dr nx H n size (.ptr b m k o) (.int kk j) = arrAO dr nx b (H b) n size m k o j := rfl
@[go_sem] theorem arrAO_f {xs : List V} {m n : Nat} {j : Int} (h : xs.length = m) (h0 : 0 ≤ j) (h1 : j < n) (nx b es size k o : Nat) : arrAO false nx b (some ⟨xs, es⟩) n size m k o j = some (.ptr b m k (o + j.toNat * size)) := by simp [arrAO, h, h0, h1]
@[go_sem] theorem arrAO_t {xs : List V} {m n nx b : Nat} {j : Int} (h : xs.length = m) (h0 : 0 ≤ j) (h1 : j < n) (hb : b < nx) (es size k o : Nat) : arrAO true nx b (some ⟨xs, es⟩) n size m k o j = some (.ptr b m k (o + j.toNat * size)) := by simp [arrAO, h, h0, h1]; omega
def nilO (dr : Bool) (nx b : Nat) (p : Option Blk) (n i o : Nat) : Option V := if dr = true ∧ nx ≤ b then none else match p with
  | some blk => if blk.elems.length = n then some (.ptr b n i o) else none
  | none => none
@[go_sem] theorem nilV_ptr (dr : Bool) (nx : Nat) (H : Hp) (b n i o : Nat) : nilV dr nx H (.ptr b n i o) = nilO dr nx b (H b) n i o := rfl
@[go_sem] theorem nilO_f {xs : List V} {n : Nat} (h : xs.length = n) (nx b es i o : Nat) : nilO false nx b (some ⟨xs, es⟩) n i o = some (.ptr b n i o) := by simp [nilO, h]
@[go_sem] theorem nilO_t {xs : List V} {n nx b : Nat} (h : xs.length = n) (hb : b < nx) (es i o : Nat) : nilO true nx b (some ⟨xs, es⟩) n i o = some (.ptr b n i o) := by simp [nilO, h]; omega
def zf8 (b : Nat) (p : Option Blk) (n i off size : Nat) (x : V) : Option (Nat × Blk) := match p with
  | some blk => if blk.elems.length = n ∧ x.cells.length = size ∧ x.cells.all V.cellOk = true then
    (match blk.elems[i]? with | some e => (V.setPart e off x).map fun e' => (b, ⟨blk.elems.set i e', blk.size⟩) | none => none) else none
  | none => none
@[go_sem] theorem storeV_ptr (H : Hp) (size b n i off : Nat) (x : V) : storeV H size (.ptr b n i off) x = zf8 b (H b) n i off size x := by
 simp only [storeV, zf8, List.all_eq_true]
@[go_sem] theorem storeO_one (b es off size : Nat) (v x : V) : zf8 b (some ⟨[v], es⟩) 1 0 off size x = if x.cells.length = size ∧ x.cells.all V.cellOk = true then (V.setPart v off x).map (fun e' => (b, ⟨[e'], es⟩)) else none := by simp [zf8]
def lenO (dr : Bool) (nx b n : Nat) (p : Option Blk) : Option V := if ¬ (dr = true ∧ nx ≤ b) then (match p with | some blk => if blk.elems.length = n then some (.int .i64 n) else none | none => none) else none
@[go_sem] theorem lenO_f {xs : List V} {n : Nat} (h : xs.length = n) (nx b es : Nat) : lenO false nx b n (some ⟨xs, es⟩) = some (.int .i64 n) := by simp [lenO, h]
@[go_sem] theorem lenO_t {xs : List V} {n nx b : Nat} (h : xs.length = n) (hb : b < nx) (es : Nat) : lenO true nx b n (some ⟨xs, es⟩) = some (.int .i64 n) := by simp [lenO, h]; omega
@[go_sem] theorem lenB_own (dr : Bool) (nx : Nat) (H : Hp) (b n : Nat) : lenB dr nx H false (.own b n) = lenO dr nx b n (H b) := by simp [lenB, lenO]
@[go_sem] theorem all_cells_cons (a : V) (l : List V) (p : V → Bool) : (a :: l).all p = (p a && l.all p) := rfl
@[go_sem] theorem all_cells_nil (p : V → Bool) : ([] : List V).all p = true := rfl
@[go_sem] theorem cells_c_agg (cs : List V) : V.cells (.agg cs) = cs := rfl
@[go_sem] theorem isAgg_c_agg (cs : List V) : V.isAgg (.agg cs) = true := rfl
@[go_sem] theorem isJunk_c_agg (cs : List V) : V.isJunk (.agg cs) = false := rfl
@[go_sem] theorem cellOk_c_agg (cs : List V) : V.cellOk (.agg cs) = false := rfl
@[go_sem] theorem cells_c_int (k : IntKind) (n : Int) : V.cells (.int k n) = [.int k n] := rfl
@[go_sem] theorem isAgg_c_int (k : IntKind) (n : Int) : V.isAgg (.int k n) = false := rfl
@[go_sem] theorem isJunk_c_int (k : IntKind) (n : Int) : V.isJunk (.int k n) = false := rfl
@[go_sem] theorem cellOk_c_int (k : IntKind) (n : Int) : V.cellOk (.int k n) = true := rfl
@[go_sem] theorem cells_c_bool (b : Bool) : V.cells (.bool b) = [.bool b] := rfl
@[go_sem] theorem isAgg_c_bool (b : Bool) : V.isAgg (.bool b) = false := rfl
@[go_sem] theorem isJunk_c_bool (b : Bool) : V.isJunk (.bool b) = false := rfl
@[go_sem] theorem cellOk_c_bool (b : Bool) : V.cellOk (.bool b) = true := rfl
@[go_sem] theorem cells_c_str (s : ByteArray) : V.cells (.str s) = [.str s] := rfl
@[go_sem] theorem isAgg_c_str (s : ByteArray) : V.isAgg (.str s) = false := rfl
@[go_sem] theorem isJunk_c_str (s : ByteArray) : V.isJunk (.str s) = false := rfl
@[go_sem] theorem cellOk_c_str (s : ByteArray) : V.cellOk (.str s) = true := rfl
@[go_sem] theorem cells_c_sl (xs : List V) : V.cells (.sl xs) = [.sl xs] := rfl
@[go_sem] theorem isAgg_c_sl (xs : List V) : V.isAgg (.sl xs) = false := rfl
@[go_sem] theorem isJunk_c_sl (xs : List V) : V.isJunk (.sl xs) = false := rfl
@[go_sem] theorem cellOk_c_sl (xs : List V) : V.cellOk (.sl xs) = true := rfl
@[go_sem] theorem cells_c_nil  : V.cells (.nil) = [.nil] := rfl
@[go_sem] theorem isAgg_c_nil  : V.isAgg (.nil) = false := rfl
@[go_sem] theorem isJunk_c_nil  : V.isJunk (.nil) = false := rfl
@[go_sem] theorem cellOk_c_nil  : V.cellOk (.nil) = true := rfl
@[go_sem] theorem cells_c_own (b n : Nat) : V.cells (.own b n) = [.own b n] := rfl
@[go_sem] theorem isAgg_c_own (b n : Nat) : V.isAgg (.own b n) = false := rfl
@[go_sem] theorem isJunk_c_own (b n : Nat) : V.isJunk (.own b n) = false := rfl
@[go_sem] theorem cellOk_c_own (b n : Nat) : V.cellOk (.own b n) = true := rfl
@[go_sem] theorem cells_c_pp (v : V) : V.cells (.pp v) = [.pp v] := rfl
@[go_sem] theorem isAgg_c_pp (v : V) : V.isAgg (.pp v) = false := rfl
@[go_sem] theorem isJunk_c_pp (v : V) : V.isJunk (.pp v) = false := rfl
@[go_sem] theorem cellOk_c_pp (v : V) : V.cellOk (.pp v) = true := rfl
@[go_sem] theorem cells_c_ptr (b n i off : Nat) : V.cells (.ptr b n i off) = [.ptr b n i off] := rfl
@[go_sem] theorem isAgg_c_ptr (b n i off : Nat) : V.isAgg (.ptr b n i off) = false := rfl
@[go_sem] theorem isJunk_c_ptr (b n i off : Nat) : V.isJunk (.ptr b n i off) = false := rfl
@[go_sem] theorem cellOk_c_ptr (b n i off : Nat) : V.cellOk (.ptr b n i off) = true := rfl
@[go_sem] theorem cells_c_win (b n off len : Nat) : V.cells (.win b n off len) = [.win b n off len] := rfl
@[go_sem] theorem isAgg_c_win (b n off len : Nat) : V.isAgg (.win b n off len) = false := rfl
@[go_sem] theorem isJunk_c_win (b n off len : Nat) : V.isJunk (.win b n off len) = false := rfl
@[go_sem] theorem cellOk_c_win (b n off len : Nat) : V.cellOk (.win b n off len) = true := rfl
@[go_sem] theorem cells_c_nilptr  : V.cells (.nilptr) = [.nilptr] := rfl
@[go_sem] theorem isAgg_c_nilptr  : V.isAgg (.nilptr) = false := rfl
@[go_sem] theorem isJunk_c_nilptr  : V.isJunk (.nilptr) = false := rfl
@[go_sem] theorem cellOk_c_nilptr  : V.cellOk (.nilptr) = true := rfl
@[go_sem] theorem cells_c_nilfn  : V.cells (.nilfn) = [.nilfn] := rfl
@[go_sem] theorem isAgg_c_nilfn  : V.isAgg (.nilfn) = false := rfl
@[go_sem] theorem isJunk_c_nilfn  : V.isJunk (.nilfn) = false := rfl
@[go_sem] theorem cellOk_c_nilfn  : V.cellOk (.nilfn) = true := rfl
@[go_sem] theorem cells_c_fn (f : Nat) (cs : List V) : V.cells (.fn f cs) = [.fn f cs] := rfl
@[go_sem] theorem isAgg_c_fn (f : Nat) (cs : List V) : V.isAgg (.fn f cs) = false := rfl
@[go_sem] theorem isJunk_c_fn (f : Nat) (cs : List V) : V.isJunk (.fn f cs) = false := rfl
@[go_sem] theorem cellOk_c_fn (f : Nat) (cs : List V) : V.cellOk (.fn f cs) = true := rfl
@[go_sem] theorem cells_c_tup (cs : List V) : V.cells (.tup cs) = [.tup cs] := rfl
@[go_sem] theorem isAgg_c_tup (cs : List V) : V.isAgg (.tup cs) = false := rfl
@[go_sem] theorem isJunk_c_tup (cs : List V) : V.isJunk (.tup cs) = false := rfl
@[go_sem] theorem cellOk_c_tup (cs : List V) : V.cellOk (.tup cs) = false := rfl
@[go_sem] theorem cells_c_undef  : V.cells (.undef) = [.undef] := rfl
@[go_sem] theorem isAgg_c_undef  : V.isAgg (.undef) = false := rfl
@[go_sem] theorem isJunk_c_undef  : V.isJunk (.undef) = false := rfl
@[go_sem] theorem cellOk_c_undef  : V.cellOk (.undef) = false := rfl
@[go_sem] theorem cells_c_junk  : V.cells (.junk) = [.junk] := rfl
@[go_sem] theorem isAgg_c_junk  : V.isAgg (.junk) = false := rfl
@[go_sem] theorem isJunk_c_junk  : V.isJunk (.junk) = true := rfl
@[go_sem] theorem cellOk_c_junk  : V.cellOk (.junk) = false := rfl
attribute [go_sem] V.part V.setPart fillV
theorem done_ret {res : List RX} {r : V} {S : St} (h : Fin res S r) : done res r .ret S := h
theorem done_normal {res : List RX} {r : V} {S : St} (h : Fin res S r) : done res r .normal S := h
@[go_sem] theorem done_ret_eq (res : List RX) (r : V) (S : St) : done res r .ret S = Fin res S r := rfl
@[go_sem] theorem done_normal_eq (res : List RX) (r : V) (S : St) : done res r .normal S = Fin res S r := rfl
@[go_sem] theorem frz_int (H : Hp) (n : Nat) (k : IntKind) (i : Int) : frz H (n + 1) (.int k i) = some (.int k i) := rfl
@[go_sem] theorem frz_bool (H : Hp) (n : Nat) (b : Bool) : frz H (n + 1) (.bool b) = some (.bool b) := rfl
@[go_sem] theorem frz_str (H : Hp) (n : Nat) (s : ByteArray) : frz H (n + 1) (.str s) = some (.str s) := rfl
@[go_sem] theorem frz_sl (H : Hp) (n : Nat) (xs : List V) : frz H (n + 1) (.sl xs) = some (.sl xs) := rfl
@[go_sem] theorem frz_nil (H : Hp) (n : Nat) : frz H (n + 1) .nil = some (.sl []) := rfl
@[go_sem] theorem frz_pp (H : Hp) (n : Nat) (v : V) : frz H (n + 1) (.pp v) = some (.pp v) := rfl
@[go_sem] theorem frz_nilptr (H : Hp) (n : Nat) : frz H (n + 1) .nilptr = some .nilptr := rfl
@[go_sem] theorem frz_nilfn (H : Hp) (n : Nat) : frz H (n + 1) .nilfn = some .nilfn := rfl
@[go_sem] theorem frz_agg (H : Hp) (n : Nat) (cs : List V) : frz H (n + 1) (.agg cs) = (allOf (frz H n) cs).map .agg := rfl
@[go_sem] theorem frz_tup (H : Hp) (n : Nat) (cs : List V) : frz H (n + 1) (.tup cs) = (allOf (frz H n) cs).map .tup := rfl
@[go_sem] theorem frz_fn (H : Hp) (n : Nat) (f : Nat) (cs : List V) : frz H (n + 1) (.fn f cs) = (allOf (frz H n) cs).map (.fn f) := rfl
def frzO (H : Hp) (n m : Nat) (p : Option Blk) : Option V := match p with | some blk => if blk.elems.length = m then (allOf (frz H n) blk.elems).map .sl else none | none => none
@[go_sem] theorem frz_own (H : Hp) (n b m : Nat) : frz H (n + 1) (.own b m) = frzO H n m (H b) := rfl
@[go_sem] theorem frzO_some {xs : List V} {m : Nat} (h : xs.length = m) (H : Hp) (n es : Nat) : frzO H n m (some ⟨xs, es⟩) = (allOf (frz H n) xs).map .sl := by simp [frzO, h]
@[go_sem] theorem frz_ptr (H : Hp) (n b m i off : Nat) : frz H (n + 1) (.ptr b m i off) = match H b with
   | some blk => if blk.elems.length = m ∧ off = 0 then (match blk.elems[i]? with | some e => (frz H n e).map .pp | none => none) else none
   | none => none := rfl
@[go_sem] theorem resV_none (env : Nat → V) (H : Hp) (nx hi s : Nat) : resV ⟨env, H, nx, hi⟩ (s, none) = some (env s) := rfl
def cellV (H : Hp) (size : Nat) (ag : Bool) (v : V) : Option V := match v with
  | .pp u => V.part u 0 size ag
  | .ptr b n i off => match H b with
   | some blk => if blk.elems.length = n then (match blk.elems[i]? with | some e => V.part e off size ag | none => none) else none
   | none => none
  | _ => none
@[go_sem] theorem resV_some (env : Nat → V) (H : Hp) (nx hi s size : Nat) (ag : Bool) : resV ⟨env, H, nx, hi⟩ (s, some (size, ag)) = cellV H size ag (env s) := rfl
attribute [go_sem] cellV
@[go_sem] theorem one_one (v : V) : one [v] = v := rfl
@[go_sem] theorem one_two (v u : V) (l : List V) : one (v :: u :: l) = .tup (v :: u :: l) := rfl
@[go_sem] theorem one_none : one [] = .tup [] := rfl
@[go_sem] theorem allOf_nil {α β : Type} (f : α → Option β) : allOf f [] = some [] := rfl
@[go_sem] theorem allOf_cons {α β : Type} (f : α → Option β) (x : α) (l : List α) : allOf f (x :: l) = (f x).bind fun y => (allOf f l).bind fun ys => some (y :: ys) := by
 simp only [allOf]
 cases f x <;> cases allOf f l <;> rfl
attribute [go_sem] Option.bind_some Option.map_some
@[go_sem] theorem Fin_at (res : List RX) (S : St) (r : V) : Fin res S r = ((allOf (fun x => (resV S x).bind (frz S.H 8)) res).map one = some r) := by simp [Fin]
theorem Fin_eq {res : List RX} {S : St} {r : V} : Fin res S r ↔ (allOf (fun x => (resV S x).bind (frz S.H 8)) res).map one = some r := by simp [Fin]
/- What every rewriting of a walk uses. -/
attribute [go_sem_proc] reduceIte reduceCtorEq Nat.reduceEqDiff Nat.reduceAdd Nat.reduceLeDiff Nat.reduceMul Nat.reduceSub Nat.reduceLT Nat.reduceBEq Int.reduceToNat Int.reduceNeg Int.reduceEq Int.reduceLT Int.reduceLE
attribute [go_sem] Bool.and_true Bool.true_and Bool.and_self Bool.not_false Bool.not_true and_true true_and
end Go.Gim

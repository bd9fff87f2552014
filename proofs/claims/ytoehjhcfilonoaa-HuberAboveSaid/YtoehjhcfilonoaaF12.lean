/- How the code's demands are told step by step, by rewriting alone: what comes later is not looked at before its turn. -/
import Derived.Test.YtoehjhcfilonoaaF11
set_option linter.unusedVariables false
set_option linter.unusedSimpArgs false
namespace Go.Gim
open Go.RowKit

universe u
/-- A mark that rewriting does not look into what it hangs on. -/
def Dep {α : Sort u} (_ : α) : Type := Unit
def dp {α : Sort u} {a : α} : Dep a := ()

def bnd {α : Type} (a : α) (f : α → Prop) (_ : Dep f) : Prop := f a
@[go_sem] theorem bnd_eq {α : Type} (a : α) (f : α → Prop) (u : Dep f) : bnd a f u = f a := rfl
def opt (a : Option V) (f : V → Prop) (_ : Dep f) : Prop := ∃ v, a = some v ∧ f v
@[go_sem] theorem opt_some (v : V) (f : V → Prop) (u : Dep f) : opt (some v) f u = f v := by simp [opt]
theorem opt_if {c : Prop} [Decidable c] {v : V} {f : V → Prop} {u : Dep f} (hc : ¬ c) (h : f v) : opt (if c then none else some v) f u := ⟨v, by rw [if_neg hc], h⟩
/-- A test whose answer is known, or not yet. -/
def csel (g : V) (A B : Prop) (_ : Dep A) (_ : Dep B) : Prop := ∃ t, g = .bool t ∧ (t = true → A) ∧ (t = false → B)
@[go_sem] theorem csel_true (A B : Prop) (u : Dep A) (u' : Dep B) : csel (.bool true) A B u u' = A := by simp [csel]
@[go_sem] theorem csel_false (A B : Prop) (u : Dep A) (u' : Dep B) : csel (.bool false) A B u u' = B := by simp [csel]
theorem csel_dec {p : Prop} [Decidable p] {A B : Prop} {u : Dep A} {u' : Dep B} (h1 : p → A) (h2 : ¬ p → B) : csel (.bool (decide p)) A B u u' := ⟨_, rfl, fun h => h1 (of_decide_eq_true h), fun h => h2 (of_decide_eq_false h)⟩
theorem csel_not {p : Prop} [Decidable p] {A B : Prop} {u : Dep A} {u' : Dep B} (h1 : ¬ p → A) (h2 : p → B) : csel (.bool (!decide p)) A B u u' :=
  ⟨_, rfl, fun h => h1 (by simpa using h), fun h => h2 (by simpa using h)⟩
theorem csel_bool {t : Bool} {A B : Prop} {u : Dep A} {u' : Dep B} (h1 : t = true → A) (h2 : t = false → B) : csel (.bool t) A B u u' := ⟨t, rfl, h1, h2⟩
/-- An operation that is taken where a test says so. -/
def gsel (g : V) (want : Bool) (A B : Prop) (_ : Dep A) (_ : Dep B) : Prop := (∃ t, g = .bool t ∧ (t = want → A) ∧ (t = !want → B)) ∨ (g = .undef ∧ B)
@[go_sem] theorem gsel_tt (A B : Prop) (u : Dep A) (u' : Dep B) : gsel (.bool true) true A B u u' = A := by simp [gsel]
@[go_sem] theorem gsel_ff (A B : Prop) (u : Dep A) (u' : Dep B) : gsel (.bool false) false A B u u' = A := by simp [gsel]
@[go_sem] theorem gsel_tf (A B : Prop) (u : Dep A) (u' : Dep B) : gsel (.bool true) false A B u u' = B := by simp [gsel]
@[go_sem] theorem gsel_ft (A B : Prop) (u : Dep A) (u' : Dep B) : gsel (.bool false) true A B u u' = B := by simp [gsel]
@[go_sem] theorem gsel_undef (w : Bool) (A B : Prop) (u : Dep A) (u' : Dep B) : gsel .undef w A B u u' = B := by simp [gsel]

theorem gsel_split {p : Prop} [Decidable p] {w : Bool} {A B : Prop} {u : Dep A} {u' : Dep B} (h1 : p → gsel (.bool true) w A B u u') (h0 : ¬ p → gsel (.bool false) w A B u u') : gsel (.bool (decide p)) w A B u u' := by
  by_cases h : p
  · have := h1 h; simpa [h] using this
  · have := h0 h; simpa [h] using this
theorem gsel_splitb {t : Bool} {w : Bool} {A B : Prop} {u : Dep A} {u' : Dep B} (h1 : t = true → gsel (.bool true) w A B u u') (h0 : t = false → gsel (.bool false) w A B u u') : gsel (.bool t) w A B u u' := by
  cases t
  · exact h0 rfl
  · exact h1 rfl
theorem gsel_splitn {p : Prop} [Decidable p] {w : Bool} {A B : Prop} {u : Dep A} {u' : Dep B} (h1 : ¬ p → gsel (.bool true) w A B u u') (h0 : p → gsel (.bool false) w A B u u') : gsel (.bool (!decide p)) w A B u u' := by
  by_cases h : p
  · have := h0 h; simpa [h] using this
  · have := h1 h; simpa [h] using this

/-- A call: its arguments are told; what it gives is asked. -/
def callB (P : Program) (f : Nat) (args : List V) (K : V → Prop) (_ : Dep K) : Prop := (∀ v ∈ args, v.Pure) ∧ ∃ r, Ret P f args r ∧ K r
theorem callB_of {P : Program} {f : Nat} {args : List V} {r : V} {K : V → Prop} {u : Dep K} (h : Ret P f args r) (hp : ∀ v ∈ args, v.Pure) (hk : K r) : callB P f args K u := ⟨hp, r, h, hk⟩

def Wb (P : Program) (k : K) (Q : AX → St → Prop) (_ : Dep Q) (S : St) : Prop := W P k Q S
theorem W_b {P : Program} {k : K} {Q : AX → St → Prop} {S : St} (h : Wb P k Q dp S) : W P k Q S := h
def WO (P : Program) (dr : Bool) (i : Nat) (l : List It) (Kn : St → Prop) (_ : Dep Kn) (S : St) : Prop := WOps P dr i l S Kn
def thn (Kn : St → Prop) (Q : AX → St → Prop) (_ : Dep Kn) (_ : Dep Q) : AX → St → Prop := AX.then Kn Q
def inb (id : Nat) (Q : AX → St → Prop) (_ : Dep Q) : AX → St → Prop := AX.inBlock id Q
def opB (P : Program) (dr : Bool) (id : Nat) (op : AOp) (S : St) (F : V → Hp → Prop) (_ : Dep F) : Prop := ∃ v H, step1 P dr id op S v H ∧ F v H

@[go_sem] theorem W_skip (P : Program) (Q : AX → St → Prop) (u : Dep Q) (S : St) : Wb P .skip Q u S = Q .normal S := rfl
@[go_sem] theorem W_ret (P : Program) (Q : AX → St → Prop) (u : Dep Q) (S : St) : Wb P .ret Q u S = Q .ret S := rfl
@[go_sem] theorem W_exit (P : Program) (i : Nat) (Q : AX → St → Prop) (u : Dep Q) (S : St) : Wb P (.exit i) Q u S = Q (.exit i) S := rfl
@[go_sem] theorem W_seq (P : Program) (a b : K) (Q : AX → St → Prop) (u : Dep Q) (S : St) : Wb P (.seq a b) Q u S = Wb P a (thn (Wb P b Q u) Q dp u) dp S := rfl
@[go_sem] theorem W_block (P : Program) (i : Nat) (a : K) (Q : AX → St → Prop) (u : Dep Q) (S : St) : Wb P (.block i a) Q u S = Wb P a (inb i Q u) dp S := rfl
@[go_sem] theorem W_ops (P : Program) (dr : Bool) (l : List It) (Q : AX → St → Prop) (u : Dep Q) (S : St) : Wb P (.ops dr l) Q u S = WO P dr 0 l (fun S' => Q .normal ⟨S'.env, S'.H, S'.nx + l.length⟩) dp S := rfl
@[go_sem] theorem W_keep (P : Program) (ks : List Nat) (a : K) (Q : AX → St → Prop) (u : Dep Q) (S : St) : Wb P (.keep ks a) Q u S = Wb P a (thn (fun S' => Q .normal (S'.keep ks)) Q dp u) dp S := rfl
@[go_sem] theorem W_cond (P : Program) (x : X) (a b : K) (Q : AX → St → Prop) (u : Dep Q) (S : St) : Wb P (.cond x a b) Q u S = csel (S.ev x) (Wb P a Q u S) (Wb P b Q u S) dp dp := by
  simp only [Wb, W, csel]
  split
  · rename_i t ht; simp [ht]
  · rename_i h; exact propext ⟨False.elim, fun ⟨t, ht, _⟩ => h t ht⟩
@[go_sem] theorem then_normal (Kn : St → Prop) (Q : AX → St → Prop) (u : Dep Kn) (u' : Dep Q) (S : St) : thn Kn Q u u' .normal S = Kn S := rfl
@[go_sem] theorem then_ret (Kn : St → Prop) (Q : AX → St → Prop) (u : Dep Kn) (u' : Dep Q) (S : St) : thn Kn Q u u' .ret S = Q .ret S := rfl
@[go_sem] theorem then_exit (Kn : St → Prop) (Q : AX → St → Prop) (u : Dep Kn) (u' : Dep Q) (i : Nat) (S : St) : thn Kn Q u u' (.exit i) S = Q (.exit i) S := rfl
@[go_sem] theorem inBlock_normal (id : Nat) (Q : AX → St → Prop) (u : Dep Q) (S : St) : inb id Q u .normal S = Q .normal S := rfl
@[go_sem] theorem inBlock_ret (id : Nat) (Q : AX → St → Prop) (u : Dep Q) (S : St) : inb id Q u .ret S = Q .ret S := rfl
@[go_sem] theorem inBlock_exit (id i : Nat) (Q : AX → St → Prop) (u : Dep Q) (S : St) : inb id Q u (.exit i) S = if i = id then Q .normal S else Q (.exit i) S := rfl
/-- A loop: what holds at its head, and what falls in each round. -/
theorem W_loop {P : Program} {a : K} {Q : AX → St → Prop} {u : Dep Q} {S : St} {T : Type} (f : T → St) (I : T → Prop) (μ : T → Nat) (t : T) (h0 : S = f t) (hI : I t)
    (h : ∀ t, I t → Wb P a (thn (fun S' => ∃ t', S' = f t' ∧ I t' ∧ μ t' < μ t) Q dp u) dp (f t)) : Wb P (.loop a) Q u S := by
  classical
  have hmin : ∀ S : St, (∃ t, S = f t ∧ I t) → ∃ t, (S = f t ∧ I t) ∧ ∀ t', S = f t' ∧ I t' → μ t ≤ μ t' := by
    intro S
    have : ∀ n, (∃ t, (S = f t ∧ I t) ∧ μ t ≤ n) → ∃ t, (S = f t ∧ I t) ∧ ∀ t', S = f t' ∧ I t' → μ t ≤ μ t' := by
      intro n
      induction n with
      | zero => rintro ⟨t, h1, h2⟩; exact ⟨t, h1, fun t' _ => by omega⟩
      | succ n ih =>
        rintro ⟨t, h1, h2⟩
        by_cases hc : ∃ t', (S = f t' ∧ I t') ∧ μ t' ≤ n
        · exact ih hc
        · refine ⟨t, h1, fun t' h' => ?_⟩
          have : ¬ μ t' ≤ n := fun hle => hc ⟨t', h', hle⟩
          omega
    rintro ⟨t, ht⟩
    exact this (μ t) ⟨t, ht, Nat.le_refl _⟩
  refine ⟨fun S => ∃ t, S = f t ∧ I t, fun S => if hS : ∃ t, S = f t ∧ I t then μ (Classical.choose (hmin S hS)) else 0, ⟨t, h0, hI⟩, fun S hS => ?_⟩
  obtain ⟨⟨e, hIt⟩, hle⟩ := Classical.choose_spec (hmin S hS)
  have := h _ hIt
  rw [← e] at this
  refine W_mono (fun x S' hx => ?_) this
  cases x with
  | normal =>
    obtain ⟨t', h1, h2, h3⟩ := hx
    refine ⟨⟨t', h1, h2⟩, ?_⟩
    have hS' : ∃ t, S' = f t ∧ I t := ⟨t', h1, h2⟩
    simp only [dif_pos hS', dif_pos hS]
    exact Nat.lt_of_le_of_lt ((Classical.choose_spec (hmin S' hS')).2 t' ⟨h1, h2⟩) h3
  | exit i => exact hx
  | ret => exact hx

@[go_sem] theorem WOps_nil (P : Program) (dr : Bool) (i : Nat) (S : St) (Kn : St → Prop) (u : Dep Kn) : WO P dr i [] Kn u S = Kn S := rfl
@[go_sem] theorem WOps_plain (P : Program) (dr : Bool) (i : Nat) (d : Option Nat) (op : AOp) (l : List It) (S : St) (Kn : St → Prop) (u : Dep Kn) :
    WO P dr i (⟨d, none, op⟩ :: l) Kn u S = opB P dr (S.nx + i) op S (fun v H => WO P dr (i + 1) l Kn u (S.put d v H)) dp := rfl
@[go_sem] theorem WOps_guard (P : Program) (dr : Bool) (i : Nat) (d : Option Nat) (s : Nat) (want : Bool) (op : AOp) (l : List It) (S : St) (Kn : St → Prop) (u : Dep Kn) :
    WO P dr i (⟨d, some (s, want), op⟩ :: l) Kn u S = gsel (S.env s) want (opB P dr (S.nx + i) op S (fun v H => WO P dr (i + 1) l Kn u (S.put d v H)) dp) (WO P dr (i + 1) l Kn u (S.put d .undef S.H)) dp dp := by
  simp only [WO, WOps, gsel, opB]
  split
  · rename_i b hb
    have h1 : b = want → S.know s want = S := fun e => by subst e; exact know_eq hb
    have h2 : b = !want → S.know s (!want) = S := fun e => by rw [← e]; exact know_eq hb
    rw [hb]
    refine propext ⟨fun h => .inl ⟨b, rfl, fun e => ?_, fun e => ?_⟩, fun h => ?_⟩
    · have := h.1 e; rwa [h1 e] at this
    · have := h.2 e; rwa [h2 e] at this
    · rcases h with ⟨t, ht, ha, hb'⟩ | ⟨h, _⟩
      · cases ht
        exact ⟨fun e => by rw [h1 e]; exact ha e, fun e => by rw [h2 e]; exact hb' e⟩
      · cases h
  · rename_i hb; rw [hb]; simp
  · rename_i h1 h2
    refine propext ⟨False.elim, fun h => ?_⟩
    rcases h with ⟨t, ht, _⟩ | ⟨h, _⟩
    · exact h1 t ht
    · exact h2 h

@[go_sem] theorem put_some (env : Nat → V) (H : Hp) (nx : Nat) (d : Nat) (v : V) (H' : Hp) : St.put ⟨env, H, nx⟩ (some d) v H' = ⟨upd env d v, H', nx⟩ := rfl
@[go_sem] theorem put_none (env : Nat → V) (H : Hp) (nx : Nat) (v : V) (H' : Hp) : St.put ⟨env, H, nx⟩ none v H' = ⟨env, H', nx⟩ := rfl
@[go_sem] theorem ev_t (env : Nat → V) (H : Hp) (nx n : Nat) : St.ev ⟨env, H, nx⟩ (.t n) = env n := rfl
@[go_sem] theorem ev_c (S : St) (v : V) : St.ev S (.c v) = v := rfl
@[go_sem] theorem upd_at (env : Nat → V) (d : Nat) (v : V) (s : Nat) : upd env d v s = if s = d then v else env s := rfl
@[go_sem] theorem E_cons (k : Nat) (v : V) (l : List (Nat × V)) (s : Nat) : E ((k, v) :: l) s = if s = k then v else E l s := rfl
@[go_sem] theorem keep_eq (env : Nat → V) (H : Hp) (nx : Nat) (ks : List Nat) : St.keep ⟨env, H, nx⟩ ks = ⟨E (ks.map fun k => (k, env k)), H, nx⟩ := rfl
attribute [go_sem] List.map_cons List.map_nil argsE start List.length_cons List.length_nil Nat.zero_add List.nil_append List.cons_append
@[go_sem] theorem Hupd_at (H : Hp) (b c : Nat) (x : Option Blk) : H.upd b x c = if c = b then x else H c := rfl

section ops
theorem ex_opt {o : Option V} {H0 : Hp} {F : V → Hp → Prop} : (∃ v H, (o = some v ∧ H0 = H) ∧ F v H) = opt o (fun v => F v H0) dp :=
  propext ⟨fun ⟨v, H, ⟨h1, h2⟩, h3⟩ => ⟨v, h1, h2 ▸ h3⟩, fun ⟨v, h1, h2⟩ => ⟨v, H0, ⟨h1, rfl⟩, h2⟩⟩
theorem ex_bnd {u : V} {H0 : Hp} {F : V → Hp → Prop} : (∃ v H, (u = v ∧ H0 = H) ∧ F v H) = F u H0 :=
  propext ⟨fun ⟨v, H, ⟨h1, h2⟩, h3⟩ => h1 ▸ h2 ▸ h3, fun h => ⟨u, H0, ⟨rfl, rfl⟩, h⟩⟩
theorem ex_no {F : V → Hp → Prop} : (∃ v H, False ∧ F v H) = False := by simp
theorem opt_none {f : V → Prop} {u : Dep f} : opt none f u = False := by simp [opt]
variable (P : Program) (dr : Bool) (id : Nat) (S : St) (F : V → Hp → Prop) (u : Dep F)
@[go_sem] theorem opB_mov (x : X) : opB P dr id (.mov x) S F u = bnd (S.ev x) (fun v => F v S.H) dp := ex_bnd
@[go_sem] theorem opB_bin (op : BinOp) (x y : X) : opB P dr id (.bin op x y) S F u = opt (binV op (S.ev x) (S.ev y)) (fun v => F v S.H) dp := ex_opt
@[go_sem] theorem opB_un (op : UnOp) (x : X) : opB P dr id (.un op x) S F u = opt (unV op (S.ev x)) (fun v => F v S.H) dp := ex_opt
def convV (k : IntKind) : V → Option V
  | .int _ n => some (.int k (k.wrap n))
  | _ => none
@[go_sem] theorem opB_conv (k : IntKind) (x : X) : opB P dr id (.conv k x) S F u = opt (convV k (S.ev x)) (fun v => F v S.H) dp := by
  simp only [opB, step1]
  cases S.ev x <;> simp only [convV, opt_none, ex_no, opt_some] <;> exact ex_bnd
def eqbV (neg : Bool) : V → V → Option V
  | .bool a, .bool b => some (.bool (if neg then !decide (a = b) else decide (a = b)))
  | _, _ => none
@[go_sem] theorem opB_eqB (neg : Bool) (x y : X) : opB P dr id (.eqB neg x y) S F u = opt (eqbV neg (S.ev x) (S.ev y)) (fun v => F v S.H) dp := by
  simp only [opB, step1]
  cases S.ev x <;> cases S.ev y <;> simp only [eqbV, opt_none, ex_no, opt_some] <;> exact ex_bnd
def pickV (c a b : V) : Option V := match c with | .bool t => some (if t then a else b) | _ => none
@[go_sem] theorem opB_pick (c a b : X) : opB P dr id (.pick c a b) S F u = opt (pickV (S.ev c) (S.ev a) (S.ev b)) (fun v => F v S.H) dp := by
  simp only [opB, step1]
  cases S.ev c <;> simp only [pickV, opt_none, ex_no, opt_some] <;> exact ex_bnd
@[go_sem] theorem opB_mm (mx : Bool) (x : X) (xs : List X) : opB P dr id (.mm mx x xs) S F u = opt (mmV mx (S.ev x) (xs.map S.ev)) (fun v => F v S.H) dp := ex_opt
def extV (i : Nat) : V → Option V
  | .tup vs => vs[i]?
  | _ => none
@[go_sem] theorem opB_ext (x : X) (i : Nat) : opB P dr id (.ext x i) S F u = opt (extV i (S.ev x)) (fun v => F v S.H) dp := by
  simp only [opB, step1]
  cases S.ev x <;> simp only [extV, opt_none, ex_no] <;> exact ex_opt
@[go_sem] theorem opB_build (z : List V) (parts : List (Nat × Nat × X)) : opB P dr id (.build z parts) S F u = opt ((fillV z (parts.map fun p => (p.1, p.2.1, S.ev p.2.2))).map .agg) (fun v => F v S.H) dp := by
  rw [← ex_opt]
  simp only [opB, step1, Option.map_eq_some_iff]
def fldV (off size : Nat) (ag : Bool) : V → Option V
  | .agg cs => V.part (.agg cs) off size ag
  | _ => none
@[go_sem] theorem opB_fld (off size : Nat) (ag : Bool) (x : X) : opB P dr id (.fld off size ag x) S F u = opt (fldV off size ag (S.ev x)) (fun v => F v S.H) dp := by
  simp only [opB, step1]
  cases S.ev x <;> simp only [fldV, opt_none, ex_no] <;> exact ex_opt
@[go_sem] theorem opB_mkFn (f : Nat) (caps : List X) : opB P dr id (.mkFn f caps) S F u = bnd (caps.map S.ev) (fun vs => F (.fn f vs) S.H) dp := ex_bnd
@[go_sem] theorem opB_call (f : Nat) (args : List X) : opB P dr id (.call f args) S F u = callB P f (args.map S.ev) (fun v => F v S.H) dp := by
  simp only [opB, step1, callB]
  exact propext ⟨fun ⟨v, H, ⟨h1, h2, h3⟩, h4⟩ => ⟨by simpa using h1, v, h2, by rw [h3]; exact h4⟩, fun ⟨h1, v, h2, h3⟩ => ⟨v, S.H, ⟨by simpa using h1, h2, rfl⟩, h3⟩⟩
def callF (P : Program) (f : V) (args : List V) (Kn : V → Prop) (u : Dep Kn) : Prop := ∃ g caps, f = .fn g caps ∧ callB P g (args ++ caps) Kn u
@[go_sem] theorem callF_eq (g : Nat) (caps args : List V) (Kn : V → Prop) (u : Dep Kn) : callF P (.fn g caps) args Kn u = callB P g (args ++ caps) Kn u :=
  propext ⟨fun ⟨g', c', e, h⟩ => by cases e; exact h, fun h => ⟨g, caps, rfl, h⟩⟩
@[go_sem] theorem opB_callV (x : X) (args : List X) : opB P dr id (.callV x args) S F u = callF P (S.ev x) (args.map S.ev) (fun v => F v S.H) dp := by
  simp only [opB, step1, callF]
  cases hx : S.ev x <;> simp only [reduceCtorEq, false_and, exists_false, ex_no]
  rename_i g caps
  simp only [callB]
  refine propext ⟨fun ⟨v, H, ⟨h1, h2, h3, h4⟩, h5⟩ => ⟨g, caps, rfl, ?_, v, h3, by rw [h4]; exact h5⟩, fun ⟨g', caps', e, h1, v, h2, h3⟩ => ?_⟩
  · intro u hu
    rcases List.mem_append.1 hu with hu | hu
    · obtain ⟨y, hy, rfl⟩ := List.mem_map.1 hu; exact h1 y hy
    · exact h2 u hu
  · cases e
    exact ⟨v, S.H, ⟨fun y hy => h1 _ (List.mem_append_left _ (List.mem_map.2 ⟨y, hy, rfl⟩)), fun c hc => h1 c (List.mem_append_right _ hc), h2, rfl⟩, h3⟩
@[go_sem] theorem opB_alloc (size : Nat) (z : V) : opB P dr id (.alloc size z) S F u = (z.cells.length = size ∧ F (.ptr id 1 0 0) (S.H.upd id (some ⟨[z], size, false⟩))) :=
  propext ⟨fun ⟨v, H, ⟨h1, h2, h3⟩, h4⟩ => ⟨h1, h2 ▸ h3 ▸ h4⟩, fun ⟨h1, h2⟩ => ⟨_, _, ⟨h1, rfl, rfl⟩, h2⟩⟩
def boxB (v : V) (Kn : V → Prop) (_ : Dep Kn) : Prop := (v.isJunk = false ∧ v.Pure) ∧ Kn (.pp v)
theorem boxB_of {v : V} {Kn : V → Prop} {u : Dep Kn} (h1 : v.isJunk = false) (h2 : v.Pure) (h3 : Kn (.pp v)) : boxB v Kn u := ⟨⟨h1, h2⟩, h3⟩
@[go_sem] theorem opB_boxP (x : X) : opB P dr id (.boxP x) S F u = boxB (S.ev x) (fun v => F v S.H) dp := by
  simp only [opB, step1, boxB]
  exact propext ⟨fun ⟨v, H, ⟨h1, h2, h3, h4⟩, h5⟩ => ⟨⟨h1, h2⟩, by rw [h3, h4]; exact h5⟩, fun ⟨⟨h1, h2⟩, h3⟩ => ⟨_, _, ⟨h1, h2, rfl, rfl⟩, h3⟩⟩
/-- What a pointer leads to. -/
def loadV (dr : Bool) (nx : Nat) (H : Hp) (size : Nat) (ag : Bool) : V → Option V
  | .pp u => V.part u 0 size ag
  | .ptr b n i off => if dr = true ∧ nx ≤ b then none else match H b with
    | some blk => if blk.elems.length = n then (match blk.elems[i]? with | some e => V.part e off size ag | none => none) else none
    | none => none
  | _ => none
@[go_sem] theorem opB_load (size : Nat) (ag : Bool) (x : X) : opB P dr id (.load size ag x) S F u = opt (loadV dr S.nx S.H size ag (S.ev x)) (fun v => F v S.H) dp := by
  simp only [opB, step1]
  cases hx : S.ev x <;> simp only [loadV, opt_none, ex_no]
  · exact ex_opt
  · rename_i b n i off
    refine propext ⟨fun ⟨v, H, ⟨h0, ⟨blk, e, h1, h2, h3, h4⟩, h5⟩, h6⟩ => ⟨v, ?_, by rw [h5]; exact h6⟩, fun ⟨v, h1, h2⟩ => ?_⟩
    · rw [if_neg (fun hc => by have := h0 hc.1; omega), h1]
      simp [h2, h3, h4]
    · split at h1
      · cases h1
      · rename_i hc
        split at h1
        · rename_i blk hb
          split at h1
          · rename_i hn
            split at h1
            · rename_i e he
              exact ⟨v, S.H, ⟨fun hd => by
                have : ¬ S.nx ≤ b := fun hle => hc ⟨hd, hle⟩
                omega, ⟨blk, e, hb, hn, he, h1⟩, rfl⟩, h2⟩
            · cases h1
          · cases h1
        · cases h1
def fldAV (dr : Bool) (nx : Nat) (H : Hp) (off size : Nat) (ag : Bool) : V → Option V
  | .pp u => (V.part u off size ag).map .pp
  | .ptr b n i o => if dr = true ∧ nx ≤ b then none else match H b with
    | some blk => if blk.elems.length = n then some (.ptr b n i (o + off)) else none
    | none => none
  | _ => none
@[go_sem] theorem opB_fldA (off size : Nat) (ag : Bool) (x : X) : opB P dr id (.fldA off size ag x) S F u = opt (fldAV dr S.nx S.H off size ag (S.ev x)) (fun v => F v S.H) dp := by
  simp only [opB, step1]
  cases hx : S.ev x <;> simp only [fldAV, opt_none, ex_no]
  · rename_i u
    simp only [opt, Option.map_eq_some_iff]
    exact propext ⟨fun ⟨v, H, ⟨h1, h2⟩, h3⟩ => ⟨v, h1, by rw [h2]; exact h3⟩, fun ⟨v, h1, h2⟩ => ⟨v, S.H, ⟨h1, rfl⟩, h2⟩⟩
  · rename_i b n i o
    refine propext ⟨fun ⟨v, H, ⟨h0, h1, ⟨blk, h2, h3⟩, h4⟩, h5⟩ => ⟨v, ?_, by rw [h4]; exact h5⟩, fun ⟨v, h1, h2⟩ => ?_⟩
    · rw [if_neg (fun hc => by have := h0 hc.1; omega), h2]
      simp [h3, h1]
    · split at h1
      · cases h1
      · rename_i hc
        split at h1
        · rename_i blk hb
          split at h1
          · rename_i hn
            simp at h1
            exact ⟨v, S.H, ⟨fun hd => by
                have : ¬ S.nx ≤ b := fun hle => hc ⟨hd, hle⟩
                omega, h1, ⟨blk, hb, hn⟩, rfl⟩, h2⟩
          · cases h1
        · cases h1
def nilV (dr : Bool) (nx : Nat) (H : Hp) : V → Option V
  | .pp u => some (.pp u)
  | .fn f cs => some (.fn f cs)
  | .ptr b n i o => if dr = true ∧ nx ≤ b then none else match H b with
    | some blk => if blk.elems.length = n then some (.ptr b n i o) else none
    | none => none
  | _ => none
@[go_sem] theorem opB_nilchk (x : X) : opB P dr id (.nilchk x) S F u = opt (nilV dr S.nx S.H (S.ev x)) (fun v => F v S.H) dp := by
  simp only [opB, step1]
  cases hx : S.ev x <;> simp only [nilV, opt_none, ex_no, opt_some]
  · exact ex_bnd
  · rename_i b n i o
    refine propext ⟨fun ⟨v, H, ⟨h0, h1, ⟨blk, h2, h3⟩, h4⟩, h5⟩ => ⟨v, ?_, by rw [h4]; exact h5⟩, fun ⟨v, h1, h2⟩ => ?_⟩
    · rw [if_neg (fun hc => by have := h0 hc.1; omega), h2]
      simp [h3, h1]
    · split at h1
      · cases h1
      · rename_i hc
        split at h1
        · rename_i blk hb
          split at h1
          · rename_i hn
            simp at h1
            exact ⟨v, S.H, ⟨fun hd => by
                have : ¬ S.nx ≤ b := fun hle => hc ⟨hd, hle⟩
                omega, h1, ⟨blk, hb, hn⟩, rfl⟩, h2⟩
          · cases h1
        · cases h1
  · exact ex_bnd
/-- A store: what becomes of the block. -/
def storeV (H : Hp) (size : Nat) (p x : V) : Option (Nat × Blk) :=
  match p with
  | .ptr b n i off => match H b with
    | some blk => if blk.frozen = false ∧ blk.elems.length = n ∧ x.cells.length = size ∧ (∀ c ∈ x.cells, c.cellOk = true) then
        (match blk.elems[i]? with | some e => (V.setPart e off x).map fun e' => (b, ⟨blk.elems.set i e', blk.size, false⟩) | none => none) else none
    | none => none
  | _ => none
def optB (a : Option (Nat × Blk)) (f : Nat × Blk → Prop) (_ : Dep f) : Prop := ∃ v, a = some v ∧ f v
@[go_sem] theorem optB_some (v : Nat × Blk) (f : Nat × Blk → Prop) (u : Dep f) : optB (some v) f u = f v := by simp [optB]
@[go_sem] theorem opB_store (size : Nat) (p x : X) : opB P dr id (.store size p x) S F u = optB (storeV S.H size (S.ev p) (S.ev x)) (fun q => F .undef (S.H.upd q.1 (some q.2))) dp := by
  simp only [opB, step1, optB]
  cases hp : S.ev p <;> simp only [storeV, reduceCtorEq, false_and, exists_false, ex_no]
  rename_i b n i off
  refine propext ⟨fun ⟨v, H, ⟨h1, h2, blk, e, e', h3, h4, h5, h6, h7, h8, h9⟩, h10⟩ => ⟨(b, ⟨blk.elems.set i e', blk.size, false⟩), ?_, by rw [h2, h9]; exact h10⟩, fun ⟨q, h1, h2⟩ => ?_⟩
  · rw [h3]
    simp only
    rw [if_pos ⟨h4, h5, h1, h8⟩, h6]
    simp [h7]
  · split at h1
    · rename_i blk hb
      split at h1
      · rename_i hc
        split at h1
        · rename_i e he
          simp only [Option.map_eq_some_iff] at h1
          obtain ⟨e', h3, rfl⟩ := h1
          exact ⟨.undef, _, ⟨hc.2.2.1, rfl, blk, e, e', hb, hc.1, hc.2.1, he, h3, hc.2.2.2, rfl⟩, h2⟩
        · cases h1
      · cases h1
    · cases h1
/-- A row's place. -/
def idxB (dr : Bool) (nx : Nat) (H : Hp) (es : Nat) (x i : V) (Kn : V → Prop) (_ : Dep Kn) : Prop :=
  match x, i with
  | .sl xs, .int _ j => 0 ≤ j ∧ ∃ e, xs[j.toNat]? = some e ∧ e.cells.length = es ∧ Kn (.pp e)
  | .own b n, .int _ j => 0 ≤ j ∧ j < n ∧ (∃ blk, H b = some blk ∧ blk.elems.length = n ∧ blk.size = es) ∧ (dr = true → b < nx) ∧ Kn (.ptr b n j.toNat 0)
  | _, _ => False
theorem idxB_sl {dr : Bool} {nx : Nat} {H : Hp} {es : Nat} {xs : List V} {k : IntKind} {j : Int} {Kn : V → Prop} {u : Dep Kn} {e : V} (h0 : 0 ≤ j) (he : xs[j.toNat]? = some e) (hs : e.cells.length = es) (hk : Kn (.pp e)) : idxB dr nx H es (.sl xs) (.int k j) Kn u :=
  ⟨h0, e, he, hs, hk⟩
theorem idxB_own {dr : Bool} {nx : Nat} {H : Hp} {es b n : Nat} {k : IntKind} {j : Int} {Kn : V → Prop} {u : Dep Kn} {blk : Blk} (h0 : 0 ≤ j) (h1 : j < n) (hb : H b = some blk) (hn : blk.elems.length = n) (hs : blk.size = es) (hd : dr = true → b < nx) (hk : Kn (.ptr b n j.toNat 0)) : idxB dr nx H es (.own b n) (.int k j) Kn u :=
  ⟨h0, h1, ⟨blk, hb, hn, hs⟩, hd, hk⟩
@[go_sem] theorem opB_idxA (es : Nat) (x i : X) : opB P dr id (.idxA es x i) S F u = idxB dr S.nx S.H es (S.ev x) (S.ev i) (fun v => F v S.H) dp := by
  simp only [opB, step1, idxB]
  cases hx : S.ev x <;> cases hi : S.ev i <;> simp only [reduceCtorEq, false_and, exists_false, ex_no]
  · refine propext ⟨fun ⟨v, H, ⟨h1, ⟨e, h2, h3, h4⟩, h5⟩, h6⟩ => ⟨h1, e, h2, h3, by rw [h4, h5]; exact h6⟩, fun ⟨h1, e, h2, h3, h4⟩ => ⟨_, _, ⟨h1, ⟨e, h2, h3, rfl⟩, rfl⟩, h4⟩⟩
  · refine propext ⟨fun ⟨v, H, ⟨h1, h2, h3, h4, h5, h6⟩, h7⟩ => ⟨h1, h2, h4, h5, by rw [h3, h6]; exact h7⟩, fun ⟨h1, h2, h4, h5, h6⟩ => ⟨_, _, ⟨h1, h2, rfl, h4, h5, rfl⟩, h6⟩⟩
def lenB (dr : Bool) (nx : Nat) (H : Hp) (str : Bool) (x : V) : Option V :=
  match x with
  | .own b n => if str = false ∧ ¬ (dr = true ∧ nx ≤ b) then (match H b with | some blk => if blk.elems.length = n then some (.int .i64 n) else none | none => none) else none
  | y => lenV str y
@[go_sem] theorem opB_len (str : Bool) (x : X) : opB P dr id (.len str x) S F u = opt (lenB dr S.nx S.H str (S.ev x)) (fun v => F v S.H) dp := by
  simp only [opB, step1]
  cases hx : S.ev x <;> simp only [lenB] <;> try exact ex_opt
  rename_i b n
  refine propext ⟨fun ⟨v, H, ⟨h1, ⟨blk, h2, h3⟩, h4, h5, h6⟩, h7⟩ => ⟨v, ?_, h6 ▸ h7⟩, fun ⟨v, h1, h2⟩ => ?_⟩
  · rw [if_pos ⟨h1, fun hc => by have := h5 hc.1; omega⟩, h2]
    simp [h3, h4]
  · split at h1
    · rename_i hc
      split at h1
      · rename_i blk hb
        split at h1
        · rename_i hn
          simp at h1
          exact ⟨v, S.H, ⟨hc.1, ⟨blk, hb, hn⟩, h1, fun hd => by
            have : ¬ S.nx ≤ b := fun hle => hc.2 ⟨hd, hle⟩
            omega, rfl⟩, h2⟩
        · cases h1
      · cases h1
    · cases h1
end ops
@[go_sem] theorem binV_add (k : IntKind) (a b : Int) : binV .add (.int k a) (.int k b) = some (.int k (k.wrap (a + b))) := by simp [binV, intV]
@[go_sem] theorem binV_sub (k : IntKind) (a b : Int) : binV .sub (.int k a) (.int k b) = some (.int k (k.wrap (a - b))) := by simp [binV, intV]
@[go_sem] theorem binV_mul (k : IntKind) (a b : Int) : binV .mul (.int k a) (.int k b) = some (.int k (k.wrap (a * b))) := by simp [binV, intV]
@[go_sem] theorem binV_eql (k : IntKind) (a b : Int) : binV .eql (.int k a) (.int k b) = some (.bool (decide (a = b))) := by simp [binV, intV]
@[go_sem] theorem binV_neq (k : IntKind) (a b : Int) : binV .neq (.int k a) (.int k b) = some (.bool (!decide (a = b))) := by simp [binV, intV]
@[go_sem] theorem binV_lss (k : IntKind) (a b : Int) : binV .lss (.int k a) (.int k b) = some (.bool (decide (a < b))) := by simp [binV, intV]
@[go_sem] theorem binV_leq (k : IntKind) (a b : Int) : binV .leq (.int k a) (.int k b) = some (.bool (decide (a ≤ b))) := by simp [binV, intV]
@[go_sem] theorem binV_gtr (k : IntKind) (a b : Int) : binV .gtr (.int k a) (.int k b) = some (.bool (decide (b < a))) := by simp [binV, intV]
@[go_sem] theorem binV_geq (k : IntKind) (a b : Int) : binV .geq (.int k a) (.int k b) = some (.bool (decide (b ≤ a))) := by simp [binV, intV]
@[go_sem] theorem binV_quo (k : IntKind) (a b : Int) : binV .quo (.int k a) (.int k b) = if b = 0 then none else some (.int k (k.wrap (a.tdiv b))) := by simp [binV, intV]
@[go_sem] theorem binV_rem (k : IntKind) (a b : Int) : binV .rem (.int k a) (.int k b) = if b = 0 then none else some (.int k (a.tmod b)) := by simp [binV, intV]
@[go_sem] theorem binV_and (k : IntKind) (a b : Int) : binV .and (.int k a) (.int k b) = intV .and k a b := by simp [binV]
@[go_sem] theorem binV_or (k : IntKind) (a b : Int) : binV .or (.int k a) (.int k b) = intV .or k a b := by simp [binV]
@[go_sem] theorem binV_xor (k : IntKind) (a b : Int) : binV .xor (.int k a) (.int k b) = intV .xor k a b := by simp [binV]
@[go_sem] theorem binV_andNot (k : IntKind) (a b : Int) : binV .andNot (.int k a) (.int k b) = intV .andNot k a b := by simp [binV]
@[go_sem] theorem binV_shl (k k' : IntKind) (a b : Int) : binV .shl (.int k a) (.int k' b) = shiftV .shl k a b := by simp [binV]
@[go_sem] theorem binV_shr (k k' : IntKind) (a b : Int) : binV .shr (.int k a) (.int k' b) = shiftV .shr k a b := by simp [binV]
@[go_sem] theorem binV_str (op : BinOp) (a b : ByteArray) : binV op (.str a) (.str b) = strV op a b := rfl
@[go_sem] theorem unV_neg (k : IntKind) (n : Int) : unV .neg (.int k n) = some (.int k (k.wrap (0 - n))) := rfl
@[go_sem] theorem unV_not (b : Bool) : unV .not (.bool b) = some (.bool !b) := rfl
@[go_sem] theorem convV_int (k k' : IntKind) (n : Int) : convV k (.int k' n) = some (.int k (k.wrap n)) := rfl
@[go_sem] theorem eqbV_t (a b : Bool) : eqbV true (.bool a) (.bool b) = some (.bool (!decide (a = b))) := by simp [eqbV]
@[go_sem] theorem eqbV_f (a b : Bool) : eqbV false (.bool a) (.bool b) = some (.bool (decide (a = b))) := by simp [eqbV]
@[go_sem] theorem pickV_true (a b : V) : pickV (.bool true) a b = some a := rfl
@[go_sem] theorem pickV_false (a b : V) : pickV (.bool false) a b = some b := rfl
@[go_sem] theorem pickV_bool (t a b : Bool) : pickV (.bool t) (.bool a) (.bool b) = some (.bool (if t then a else b)) := by cases t <;> rfl
@[go_sem] theorem mmV_nil (mx : Bool) (v : V) : mmV mx v [] = some v := by unfold mmV; rfl
@[go_sem] theorem mmV_max (k k' : IntKind) (x y : Int) (l : List V) : mmV true (.int k x) (.int k' y :: l) = mmV true (.int k (max x y)) l := by simp only [mmV, if_true]; congr 2; omega
@[go_sem] theorem mmV_min (k k' : IntKind) (x y : Int) (l : List V) : mmV false (.int k x) (.int k' y :: l) = mmV false (.int k (min x y)) l := by simp only [mmV, Bool.false_eq_true, if_false]; congr 2; omega
@[go_sem] theorem extV_tup (i : Nat) (vs : List V) : extV i (.tup vs) = vs[i]? := rfl
@[go_sem] theorem fldV_agg (off size : Nat) (ag : Bool) (cs : List V) : fldV off size ag (.agg cs) = V.part (.agg cs) off size ag := rfl
@[go_sem] theorem loadV_pp (dr : Bool) (nx : Nat) (H : Hp) (size : Nat) (ag : Bool) (u : V) : loadV dr nx H size ag (.pp u) = V.part u 0 size ag := rfl
@[go_sem] theorem fldAV_pp (dr : Bool) (nx : Nat) (H : Hp) (off size : Nat) (ag : Bool) (u : V) : fldAV dr nx H off size ag (.pp u) = (V.part u off size ag).map .pp := rfl
@[go_sem] theorem nilV_pp (dr : Bool) (nx : Nat) (H : Hp) (u : V) : nilV dr nx H (.pp u) = some (.pp u) := rfl
@[go_sem] theorem nilV_fn (dr : Bool) (nx : Nat) (H : Hp) (f : Nat) (cs : List V) : nilV dr nx H (.fn f cs) = some (.fn f cs) := rfl
@[go_sem] theorem lenB_sl (dr : Bool) (nx : Nat) (H : Hp) (xs : List V) : lenB dr nx H false (.sl xs) = some (.int .i64 xs.length) := rfl
@[go_sem] theorem lenB_nil (dr : Bool) (nx : Nat) (H : Hp) : lenB dr nx H false .nil = some (.int .i64 0) := rfl
@[go_sem] theorem lenB_str (dr : Bool) (nx : Nat) (H : Hp) (s : ByteArray) : lenB dr nx H true (.str s) = some (.int .i64 s.size) := rfl
@[go_sem] theorem lenB_own (dr : Bool) (nx : Nat) (H : Hp) (b n : Nat) : lenB dr nx H false (.own b n) = if ¬ (dr = true ∧ nx ≤ b) then (match H b with | some blk => if blk.elems.length = n then some (.int .i64 n) else none | none => none) else none := by simp [lenB]
attribute [go_sem] true_and and_true and_self not_true_eq_false not_false_eq_true if_true if_false List.take_zero List.take_succ_cons List.take_nil List.drop_zero List.drop_succ_cons List.drop_nil List.set_cons_zero List.set_cons_succ List.getElem?_cons_zero List.getElem?_cons_succ List.getElem?_nil Bool.false_eq_true Bool.not_true Bool.not_false List.append_assoc Option.bind_none Option.map_none decide_true decide_false List.append_nil eq_self
theorem all_nil {p : V → Prop} : (∀ c ∈ ([] : List V), p c) = True := by simp
@[go_sem] theorem all_cons (p : V → Prop) (a : V) (l : List V) : (∀ c ∈ a :: l, p c) = (p a ∧ ∀ c ∈ l, p c) := by simp
@[go_sem] theorem all_nil' (p : V → Prop) : (∀ c ∈ ([] : List V), p c) = True := by simp
attribute [go_sem] loadV fldAV nilV storeV V.part V.setPart fillV V.cells V.isAgg V.isJunk V.cellOk
/-- The end of a function. -/
theorem done_ret {res : List RX} {r : V} {S : St} (h : Fin res S r) : done res r .ret S := h
theorem done_normal {res : List RX} {r : V} {S : St} (h : Fin res S r) : done res r .normal S := h
@[go_sem] theorem done_ret_eq (res : List RX) (r : V) (S : St) : done res r .ret S = Fin res S r := rfl
@[go_sem] theorem done_normal_eq (res : List RX) (r : V) (S : St) : done res r .normal S = Fin res S r := rfl
@[go_sem] theorem frz_int (H : Hp) (n : Nat) (k : IntKind) (i : Int) : frz H (n + 1) (.int k i) = some (.int k i) := rfl
@[go_sem] theorem frz_bool (H : Hp) (n : Nat) (b : Bool) : frz H (n + 1) (.bool b) = some (.bool b) := rfl
@[go_sem] theorem frz_str (H : Hp) (n : Nat) (s : ByteArray) : frz H (n + 1) (.str s) = some (.str s) := rfl
@[go_sem] theorem frz_sl (H : Hp) (n : Nat) (xs : List V) : frz H (n + 1) (.sl xs) = some (.sl xs) := rfl
@[go_sem] theorem frz_nil (H : Hp) (n : Nat) : frz H (n + 1) .nil = some (.sl []) := rfl
@[go_sem] theorem frz_pp (H : Hp) (n : Nat) (v : V) : frz H (n + 1) (.pp v) = some (.pp v) := rfl
@[go_sem] theorem frz_nilptr (H : Hp) (n : Nat) : frz H (n + 1) .nilptr = some .nilptr := rfl
@[go_sem] theorem frz_nilfn (H : Hp) (n : Nat) : frz H (n + 1) .nilfn = some .nilfn := rfl
@[go_sem] theorem frz_agg (H : Hp) (n : Nat) (cs : List V) : frz H (n + 1) (.agg cs) = (allOf (frz H n) cs).map .agg := rfl
@[go_sem] theorem frz_tup (H : Hp) (n : Nat) (cs : List V) : frz H (n + 1) (.tup cs) = (allOf (frz H n) cs).map .tup := rfl
@[go_sem] theorem frz_fn (H : Hp) (n : Nat) (f : Nat) (cs : List V) : frz H (n + 1) (.fn f cs) = (allOf (frz H n) cs).map (.fn f) := rfl
@[go_sem] theorem frz_own (H : Hp) (n b m : Nat) : frz H (n + 1) (.own b m) = match H b with | some blk => if blk.elems.length = m then (allOf (frz H n) blk.elems).map .sl else none | none => none := rfl
@[go_sem] theorem frz_ptr (H : Hp) (n b m i off : Nat) : frz H (n + 1) (.ptr b m i off) = match H b with
      | some blk => if blk.elems.length = m ∧ off = 0 then (match blk.elems[i]? with | some e => (frz H n e).map .pp | none => none) else none
      | none => none := rfl
@[go_sem] theorem resV_none (env : Nat → V) (H : Hp) (nx s : Nat) : resV ⟨env, H, nx⟩ (s, none) = some (env s) := rfl
def cellV (H : Hp) (size : Nat) (ag : Bool) (v : V) : Option V := match v with
    | .pp u => V.part u 0 size ag
    | .ptr b n i off => match H b with
      | some blk => if blk.elems.length = n then (match blk.elems[i]? with | some e => V.part e off size ag | none => none) else none
      | none => none
    | _ => none
@[go_sem] theorem resV_some (env : Nat → V) (H : Hp) (nx s size : Nat) (ag : Bool) : resV ⟨env, H, nx⟩ (s, some (size, ag)) = cellV H size ag (env s) := rfl
attribute [go_sem] cellV
@[go_sem] theorem one_one (v : V) : one [v] = v := rfl
@[go_sem] theorem one_two (v u : V) (l : List V) : one (v :: u :: l) = .tup (v :: u :: l) := rfl
@[go_sem] theorem one_none : one [] = .tup [] := rfl
@[go_sem] theorem allOf_nil {α β : Type} (f : α → Option β) : allOf f [] = some [] := rfl
@[go_sem] theorem allOf_cons {α β : Type} (f : α → Option β) (x : α) (l : List α) : allOf f (x :: l) = (f x).bind fun y => (allOf f l).bind fun ys => some (y :: ys) := by
  simp only [allOf]
  cases f x <;> cases allOf f l <;> rfl
attribute [go_sem] Option.bind_some Option.map_some
@[go_sem] theorem Fin_at (res : List RX) (S : St) (r : V) : Fin res S r = ((allOf (fun x => (resV S x).bind (frz S.H 8)) res).map one = some r) := by simp [Fin]
theorem Fin_eq {res : List RX} {S : St} {r : V} : Fin res S r ↔ (allOf (fun x => (resV S x).bind (frz S.H 8)) res).map one = some r := by simp [Fin]
end Go.Gim

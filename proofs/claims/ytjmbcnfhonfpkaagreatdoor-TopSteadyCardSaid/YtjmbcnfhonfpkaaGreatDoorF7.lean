import Derived.Test.YtjmbcnfhonfpkaaGreatDoorF6
/- Regions: whatever order the machine draws, the text's order tells what comes. -/
set_option linter.unusedVariables false
set_option linter.unusedSimpArgs false
namespace Go.Gim
open Go.RowKit

structure Ctx where
 w0 : World
 M0 : Nat → Prop
 G : Nat → Prop
 n : Nat
 φ0 : Nat → Option Nat
 H0 : Hp
 U0 : Nat → Prop
 n0 : Nat
 hU0 : ∀ b, U0 b → b < n0

def used (C : Ctx) (nx : Nat) (D : Nat → Prop) : Nat → Prop := fun b => C.U0 b ∨ (C.n0 ≤ b ∧ b < nx) ∨ ∃ j, D j ∧ b = nx + j

structure Rel (C : Ctx) (D : Nat → Prop) (S : St) (φ : Nat → Option Nat) (M : Nat → Prop) (a : Act) (w : World) : Prop where
 tmps : a.tmps.size = C.n
 defers : a.defers = []
 gl : GOk M w
 co : Carry C.φ0 φ C.M0 M C.w0 w C.H0 S.H C.U0 (used C S.nx D)
 n0 : C.n0 ≤ S.nx
 env : ∀ s, Sim φ M w S.H (used C S.nx D) (S.env s) (a.tmps.getD s Go.undef)
 hp : HpOk φ M w S.H (used C S.nx D)
 Mb : ∀ g, M g → g < w.heap.size
 M0b : ∀ g, C.M0 g → g < C.w0.heap.size
 M1 : ∀ g, M g → C.M0 g ∨ C.w0.heap.size ≤ g
 M2 : ∀ g, C.M0 g → ¬ C.G g → M g
 os : w.os = C.w0.os
 tape : w.tape = C.w0.tape
 output : w.output = C.w0.output
 size : C.w0.heap.size ≤ w.heap.size
 old : ∀ g, g < C.w0.heap.size → ¬ C.G g → w.heap[g]? = C.w0.heap[g]?
 loc : ∀ b g, S.H b ≠ none → φ b = some g → C.G g ∨ C.w0.heap.size ≤ g

theorem put_tmps {a : Act} {d : Nat} {x : Value} (h : d < a.tmps.size) (s : Nat) : (a.put (some d) x).tmps.getD s Go.undef = if s = d then x else a.tmps.getD s Go.undef := by
 simp only [Act.put, Array.getD_eq_getD_getElem?, Array.getElem?_setIfInBounds]
 by_cases hs : s = d
 ·subst hs; simp [h]
 ·rw [if_neg (by omega), if_neg hs]

theorem Rel.trans {C : Ctx} {D D' : Nat → Prop} {S : St} {φ φ' : Nat → Option Nat} {M M' : Nat → Prop} {a : Act} {w w' : World} {H' : Hp} {v : V} {x : Value} {dst : Option Nat} (h : Rel C D S φ M a w)
  (t : Trans φ φ' M M' (used C S.nx D) (used C S.nx D') w w' S.H H') (hs : Sim φ' M' w' H' (used C S.nx D') v x) (hd : ∀ d, dst = some d → d < C.n) : Rel C D' (S.put dst v H') φ' M' (a.put dst x) w' := by
 have hH : (S.put dst v H').H = H' := by cases dst <;> rfl
 have hn : (S.put dst v H').nx = S.nx := by cases dst <;> rfl
 refine { tmps := ?_, defers := ?_, gl := h.gl.mono t.carry.pur, co := by rw [hH, hn]; exact h.co.trans t.carry, n0 := by rw [hn]; exact h.n0, env := fun s => ?_, hp := by rw [hH, hn]; exact t.hp, Mb := t.Mb h.Mb, M0b := h.M0b, M1 := fun g hg => ?_, M2 := fun g hg hG => ?_, os := t.os.trans h.os, tape := t.tape.trans h.tape,
          output := t.output.trans h.output, size := Nat.le_trans h.size t.size, old := fun g hg hG => ?_, loc := fun b g hb hg => ?_ }
 ·cases dst <;> simp [Act.put, h.tmps]
 ·cases dst <;> simp [Act.put, h.defers]
 ·rw [hH, hn]
  cases dst with
  | none => exact (h.env s).carry t.carry
  | some d =>
   rw [put_tmps (by rw [h.tmps]; exact hd d rfl)]
   show Sim φ' M' w' H' _ (upd S.env d v s) _
   unfold upd
   split
   ·exact hs
   ·exact (h.env s).carry t.carry
 ·rcases t.M1 g hg with h1 | h1
  ·exact h.M1 g h1
  ·exact .inr (Nat.le_trans h.size h1)
 ·rcases t.M2 g (h.M2 g hg hG) with h1 | ⟨b, h1, h2⟩
  ·exact h1
  ·rcases h.loc b g h1 h2 with h3 | h3
   ·exact absurd h3 hG
   ·have := h.M0b g hg; omega
 ·rw [t.old g (Nat.lt_of_lt_of_le hg h.size) fun b hb hφ => ?_]
  ·exact h.old g hg hG
  ·rcases h.loc b g hb hφ with h3 | h3
   ·exact hG h3
   ·omega
 ·rw [hH] at hb
  rcases t.loc b g hb hg with ⟨c, h1, h2⟩ | h1
  ·exact h.loc c g h1 h2
  ·exact .inr (Nat.le_trans h.size h1)

/-! ### Items -/
def mIt (P : Program) (n : Nat) (ops : Array Oper) (o : Oper) (it : It) : Bool :=
 decide (o.dst = it.dst) && (match it.dst with | some d => decide (d < n) | none => true) &&
 (match o.guard, it.g with
  | none, none => true
  | some (j, b), some (s, b') => b == b' && (match ops[j]? with | some o' => decide (o'.dst = some s) && decide (s < n) | none => false)
  | _, _ => false) && mOp P o.op it.op

def gstep (P : Program) (dr : Bool) (i : Nat) (it : It) (S S' : St) : Prop :=
 match it.g with
 | none => ∃ v S1, stepG P dr (S.nx + i) it.op S v S1 ∧ S' = S1.set it.dst v
 | some (s, want) =>
  match S.env s with
  | .bool b => if b = want then ∃ v S1, stepG P dr (S.nx + i) it.op S v S1 ∧ S' = S1.set it.dst v else S' = S.put it.dst .undef S.H
  | .undef => S' = S.put it.dst .undef S.H
  | _ => False

def Steps' (P : Program) (dr : Bool) : List (Nat × It) → St → St → Prop
 | [], S, S' => S = S'
 | p :: l, S, S' => ∃ S1, gstep P dr p.1 p.2 S S1 ∧ Steps' P dr l S1 S'

theorem know_eq {S : St} {s : Nat} {b : Bool} (h : S.env s = .bool b) : S.know s b = S := by
 cases S with
 | mk env H nx hi =>
  simp only [St.know] at *
  congr
  funext t
  unfold upd
  split
  ·rename_i ht; rw [ht, h]
  ·rfl

theorem WOps_steps {P : Program} {dr : Bool} {K : St → Prop} : ∀ {l : List It} {k : Nat} {S : St}, WOps P dr k l S K → ∃ S', Steps' P dr ((List.range' k l.length).zip l) S S' ∧ K S'
 | [], k, S, h => ⟨S, rfl, h⟩
 | it :: l, k, S, h => by
  simp only [WOps] at h
  have key : ∃ S1, gstep P dr k it S S1 ∧ WOps P dr (k + 1) l S1 K := by
   unfold gstep
   split at h
   ·rename_i hg
    rw [hg]
    obtain ⟨v, S1, h1, h2⟩ := h
    exact ⟨_, ⟨v, S1, h1, rfl⟩, h2⟩
   ·rename_i s want hg
    rw [hg]
    simp only
    split at h
    ·rename_i b hb
     by_cases hw : b = want
     ·subst hw
      obtain ⟨v, S1, h1, h2⟩ := h.1 rfl
      rw [know_eq hb] at h1
      rw [hb]
      exact ⟨_, by simp only [if_true]; exact ⟨v, S1, h1, rfl⟩, h2⟩
     ·have hb' : b = !want := by cases b <;> cases want <;> simp_all
      have h2 := h.2 hb'
      rw [know_eq (by rw [hb, hb'])] at h2
      rw [hb]
      exact ⟨_, by simp only [if_neg hw], h2⟩
    ·rename_i hb
     rw [hb]
     exact ⟨_, rfl, h⟩
    ·exact h.elim
  obtain ⟨S1, h1, h2⟩ := key
  obtain ⟨S', h3, h4⟩ := WOps_steps h2
  exact ⟨S', ⟨S1, h1, h3⟩, h4⟩
theorem steps_WOps {P : Program} {dr : Bool} {K : St → Prop} : ∀ {l : List It} {k : Nat} {S S' : St}, Steps' P dr ((List.range' k l.length).zip l) S S' → K S' → WOps P dr k l S K
 | [], k, S, S', h, hk => by have h : S = S' := h; subst h; exact hk
 | it :: l, k, S, S', h, hk => by
  obtain ⟨S1, h1, h2⟩ := h
  have h2 := steps_WOps (K := K) h2 hk
  simp only [WOps]
  unfold gstep at h1
  split at h1
  ·rename_i hg
   simp only at hg
   rw [hg]
   obtain ⟨v, S2, h3, rfl⟩ := h1
   exact ⟨v, S2, h3, h2⟩
  ·rename_i s want hg
   simp only at hg
   rw [hg]
   simp only
   split at h1
   ·rename_i b hb
    rw [hb]
    simp only
    split at h1
    ·rename_i hw
     obtain ⟨v, S2, h3, rfl⟩ := h1
     refine ⟨fun _ => ⟨v, S2, by rw [know_eq (by rw [hb, hw])]; exact h3, h2⟩, fun e => ?_⟩
     subst hw; cases b <;> cases e
    ·rename_i hw
     subst h1
     refine ⟨fun e => absurd e hw, fun e => ?_⟩
     rw [know_eq (by rw [hb, e])]; exact h2
   ·rename_i hb
    rw [hb]
    subst h1; exact h2
   ·exact h1.elim

theorem put_nx {S : St} {d : Option Nat} {v : V} {H : Hp} : (S.put d v H).nx = S.nx := by cases d <;> rfl
theorem put_H {S : St} {d : Option Nat} {v : V} {H : Hp} : (S.put d v H).H = H := by cases d <;> rfl
theorem put_hi {S : St} {d : Option Nat} {v : V} {H : Hp} : (S.put d v H).hi = S.hi := by cases d <;> rfl
theorem stepG_nx {P : Program} {dr : Bool} {id : Nat} {op : AOp} {S S1 : St} {v : V} (h : stepG P dr id op S v S1) : S1.nx = S.nx ∧ S.hi ≤ S1.hi := by
 unfold stepG at h
 split at h
 ·rcases h with ⟨H, h', hr, rfl⟩ | ⟨_, g, H, h', _, hr, rfl⟩
  ·exact ⟨rfl, hr.2.1⟩
  ·exact ⟨rfl, hr.2.1⟩
 ·split at h
  ·obtain ⟨H, h', hr, rfl⟩ := h; exact ⟨rfl, hr.2.1⟩
  ·exact h.elim
 ·obtain ⟨H, _, rfl⟩ := h; exact ⟨rfl, Nat.le_refl _⟩
theorem gstep_nx {P : Program} {dr : Bool} {i : Nat} {it : It} {S S' : St} (h : gstep P dr i it S S') : S'.nx = S.nx ∧ S.hi ≤ S'.hi := by
 have key : (∃ v S1, stepG P dr (S.nx + i) it.op S v S1 ∧ S' = S1.set it.dst v) → S'.nx = S.nx ∧ S.hi ≤ S'.hi := by
  rintro ⟨v, S1, h1, rfl⟩
  obtain ⟨h2, h3⟩ := stepG_nx h1
  exact ⟨by rw [St.set, put_nx, h2], by rw [St.set, put_hi]; exact h3⟩
 have skip : S' = S.put it.dst .undef S.H → S'.nx = S.nx ∧ S.hi ≤ S'.hi := fun e => by subst e; exact ⟨put_nx, by rw [put_hi]; exact Nat.le_refl _⟩
 unfold gstep at h
 split at h
 ·exact key h
 ·split at h
  ·split at h
   ·exact key h
   ·exact skip h
  ·exact skip h
  ·exact h.elim

def DD (D : Nat → Prop) (L : Nat) (S : St) : Nat → Prop := fun j => D j ∨ (L ≤ j ∧ S.nx + j < S.hi)

theorem Rel.fz {C : Ctx} {D : Nat → Prop} {S : St} {φ : Nat → Option Nat} {M : Nat → Prop} {a : Act} {w : World} (h : Rel C D S φ M a w) {g : Nat → Option (List V)} (hg : Fz S.H g) : Rel C D (S.fz g) φ (Mz φ M g) a w := by
 have t := Trans.fz h.hp hg
 have ne : ∀ b, (S.H.sub g) b ≠ none → S.H b ≠ none := fun b hb e => hb (by
  unfold Hp.sub; split
  ·rfl
  ·rw [e]; rfl)
 exact { h with
  gl := h.gl.mono t.carry.pur
  co := h.co.trans t.carry
  env := fun s => sub_sim h.hp hg (h.env s)
  hp := t.hp
  Mb := fun k hk => h.Mb k hk.1
  M1 := fun k hk => h.M1 k hk.1
  M2 := fun k hk hG => ⟨h.M2 k hk hG, fun ⟨b, h1, h2⟩ => by
   obtain ⟨xs, hxs⟩ := Option.isSome_iff_exists.1 h1
   obtain ⟨blk, d1, _⟩ := hg b xs hxs
   rcases h.loc b k (by simp [d1]) h2 with h3 | h3
   ·exact hG h3
   ·have := h.M0b k hk; omega⟩
  loc := fun b k hb hk => h.loc b k (ne b hb) hk }
theorem Rel.drop {C : Ctx} {D : Nat → Prop} {S : St} {φ : Nat → Option Nat} {M : Nat → Prop} {a : Act} {w : World} (h : Rel C D S φ M a w) {H' : Hp} (hd : ∀ b, H' b = none ∨ H' b = S.H b) : Rel C D ⟨S.env, H', S.nx, S.hi⟩ φ M a w := by
 have t := Trans.drop h.hp hd
 exact { h with
  co := h.co.trans t.carry
  env := fun s => (h.env s).carry t.carry
  hp := t.hp
  loc := fun b k hb hk => h.loc b k (by
   rcases hd b with e | e
   ·exact absurd e hb
   ·rwa [← e]) hk }

theorem yielded_bool {ops : Array Oper} {a : Act} {j s : Nat} {o' : Oper} {b : Bool} (h1 : ops[j]? = some o') (h2 : o'.dst = some s) (hs : s < a.tmps.size) (hb : a.tmps.getD s Go.undef = .bool b) : yielded ops a.tmps j = some b := by
 have : a.tmps[s]? = some (.bool b) := by rw [zdu (d := Go.undef) hs, hb]
 simp [yielded, h1, h2, this]
theorem yielded_undef {ops : Array Oper} {a : Act} {j s : Nat} {o' : Oper} (h1 : ops[j]? = some o') (h2 : o'.dst = some s) (hs : s < a.tmps.size) (hb : a.tmps.getD s Go.undef = Go.undef) : yielded ops a.tmps j = none := by
 have : a.tmps[s]? = some Go.undef := by rw [zdu (d := Go.undef) hs, hb]
 simp [yielded, h1, h2, this, Go.undef]

theorem callG_sound {P : Program} {C : Ctx} {D D' : Nat → Prop} {S : St} {φ : Nat → Option Nat} {M : Nat → Prop} {a : Act} {w : World} {o : Oper} {f : Nat} {vals : Array Value} {args : List V} {v : V} {H : Hp} {n h : Nat} {K : Act → World → Prop} {Q : Exit → Act → World → Prop} {dst : Option Nat}
  (hR : Rel C D S φ M a w) (hd : o.dst = dst) (hdn : ∀ d, dst = some d → d < C.n) (hr : (execOp a.eval o).run P w = .ok (.enter f vals) w) (hret : RetG P f args S.H n v H h) (hn : vals.size = args.length) (hb : ∀ b, used C S.nx D b → b < n)
  (hU : ∀ b, used C S.nx D b ∨ (n ≤ b ∧ b < h) → used C S.nx D' b) (hs : ∀ i, i < args.length → Sim φ M w S.H (used C S.nx D) (args.getD i .junk) (vals.getD i Go.undef))
  (hK : ∀ φ' M' a' w', Rel C D' (S.put dst v H) φ' M' a' w' → K a' w') : o.wp P a w K Q := by
 unfold Oper.wp
 rw [hr]
 show Calls P f vals w _
 refine (hret.2.2 φ M (used C S.nx D) w vals hb hR.Mb hR.gl hR.hp hn hs).mono fun e w' h => ?_
 obtain ⟨x, φ', M', rfl, t, hx⟩ := h
 rw [hd]
 exact hK φ' M' _ w' (hR.trans (t.wide hU) (hx.wide hU) hdn)

theorem gstep_sound {P : Program} {dr : Bool} {i L : Nat} {it : It} {S S' : St} {C : Ctx} {D : Nat → Prop} {φ : Nat → Option Nat} {M : Nat → Prop} {a : Act} {w : World} {ops : Array Oper} {o : Oper} {Q : Exit → Act → World → Prop}
  {K : Act → World → Prop} (ho : ops[i]? = some o) (hm : mIt P C.n ops o it = true) (hR : Rel C (DD D L S) S φ M a w) (hD : ¬ D i) (hi : i < L) (hDL : ∀ j, D j → j < L) (hhi : S.nx + L ≤ S.hi) (h : gstep P dr i it S S')
  (hK : ∀ φ' M' a' w', Rel C (DD (fun j => D j ∨ j = i) L S') S' φ' M' a' w' → K a' w') : wpOp P ops Q i K a w := by
 simp only [mIt, Bool.and_eq_true, decide_eq_true_eq] at hm
 obtain ⟨⟨⟨hd, hdn⟩, hg⟩, hop⟩ := hm
 have hdn' : ∀ d, it.dst = some d → d < C.n := fun d e => by rw [e] at hdn; simpa using hdn
 have hU : ∀ h', S.hi ≤ h' → ∀ b, used C S.nx (DD D L S) b ∨ (S.hi ≤ b ∧ b < h') → used C S.nx (fun j => (D j ∨ j = i) ∨ (L ≤ j ∧ S.nx + j < h')) b := fun h' hh b hb => by
  rcases hb with (hb | hb | ⟨j, h1, h2⟩) | ⟨h1, h2⟩
  ·exact .inl hb
  ·exact .inr (.inl hb)
  ·rcases h1 with h1 | ⟨h1, h3⟩
   ·exact .inr (.inr ⟨j, .inl (.inl h1), h2⟩)
   ·exact .inr (.inr ⟨j, .inr ⟨h1, by omega⟩, h2⟩)
  ·exact .inr (.inr ⟨b - S.nx, .inr ⟨by omega, by omega⟩, by omega⟩)
 have hlt : ∀ b, used C S.nx (DD D L S) b → b < S.hi := fun b hb => by
  have := hR.n0
  rcases hb with hb | hb | ⟨j, h1, h2⟩
  ·have := C.hU0 b hb; omega
  ·omega
  ·rcases h1 with h1 | ⟨h1, h3⟩
   ·have := hDL j h1; omega
   ·omega
 have hid : used C S.nx (fun j => (D j ∨ j = i) ∨ (L ≤ j ∧ S.nx + j < S.hi)) (S.nx + i) := .inr (.inr ⟨i, .inl (.inr rfl), rfl⟩)
 have hnew : ¬ used C S.nx (DD D L S) (S.nx + i) := fun hb => by
  have := hR.n0
  rcases hb with hb | hb | ⟨j, h1, h2⟩
  ·have := C.hU0 _ hb; omega
  ·omega
  ·have : i = j := by omega
   subst this
   rcases h1 with h1 | ⟨h1, h3⟩
   ·exact hD h1
   ·omega
 have hK' : ∀ h' v H, S' = (⟨S.env, S.H, S.nx, h'⟩ : St).put it.dst v H → ∀ φ' M' a' w', Rel C (fun j => (D j ∨ j = i) ∨ (L ≤ j ∧ S.nx + j < h')) (S.put it.dst v H) φ' M' a' w' → K a' w' := fun h' v H e φ' M' a' w' hr => by
  refine hK φ' M' a' w' ?_
  subst e
  cases hdst : it.dst <;> rw [hdst] at hr <;> exact { hr with }
 have skip : S' = S.put it.dst .undef S.H → K (a.put o.dst Go.undef) w := fun e => by
  rw [hd]
  exact hK' S.hi .undef S.H e φ M _ w (hR.trans (Trans.refl hR.hp fun b hb => hU S.hi (Nat.le_refl _) b (.inl hb)) (.pur .undef) hdn')
 have go : (∃ v S1, stepG P dr (S.nx + i) it.op S v S1 ∧ S' = S1.set it.dst v) → o.wp P a w K Q := fun ⟨v, S1, h1, h2⟩ => by
  have plain : ∀ op, it.op = op → (∃ H, step1 P dr (S.nx + i) op S v H ∧ S1 = ⟨S.env, H, S.nx, S.hi⟩) → o.wp P a w K Q := fun op eop ⟨H, h3, h4⟩ => by
   subst h4
   rw [eop] at hop
   refine op_sound hop h3 ⟨hR.env, hR.gl⟩ hR.hp hR.Mb (fun b hb => hU S.hi (Nat.le_refl _) b (.inl hb)) hid hnew K Q fun x w' φ' M' t hs => ?_
   rw [hd]
   refine hK' S.hi v H (by rw [h2]; rfl) φ' M' _ w' (hR.trans t hs hdn')
  cases hopc : it.op with
  | callG f args =>
   rw [hopc] at h1
   simp only [stepG] at h1
   rw [hopc] at hop
   obtain ⟨dst, oop, ty, pos, after, guard⟩ := o
   simp only [mOp, AOp.base] at hop
   obtain ⟨oargs, oat, rfl, hargs⟩ : ∃ oargs oat, oop = .call { callee := .value (.func f), args := oargs, argTypes := oat } ∧ mXs mX oargs.toList args = true := by
    unfold mOp0 at hop
    split at hop
    all_goals first | (rename_i heq; cases heq; done) | (rename_i heq _; cases heq; done) | (rename_i heq _ _; cases heq; done) | skip
    ·rename_i heq
     cases heq
     simp only [Bool.and_eq_true, beq_iff_eq] at hop
     obtain ⟨rfl, h5⟩ := hop
     exact ⟨_, _, rfl, h5⟩
    ·cases hop
   obtain ⟨h3, h4⟩ := zfz ⟨hR.env, hR.gl⟩ hargs
   have hsz : oargs.size = args.length := by simpa using h3
   have hval : ∀ k, k < args.length → (oargs.map a.eval ++ #[]).getD k Go.undef = (oargs.toList.map a.eval).getD k Go.undef := fun k hk => by
    simp [Array.getD_eq_getD_getElem?, List.getD_eq_getElem?_getD]
   rcases h1 with ⟨H, h', hret, rfl⟩ | ⟨_, g, H, h', hg, hret, rfl⟩
   ·refine callG_sound (D' := fun j => (D j ∨ j = i) ∨ (L ≤ j ∧ S.nx + j < h')) hR hd hdn' (zga (c := { callee := .value (.func f), args := oargs, argTypes := oat }) rfl rfl hret.1) hret (by simp [hsz]) hlt (hU h' hret.2.1) (fun k hk => ?_) (hK' h' v H (by rw [h2]; rfl))
    rw [hval k (by simpa using hk)]
    exact h4 k (by simpa using hk)
   ·have hR' := hR.fz hg
    refine callG_sound (S := S.fz g) (D' := fun j => (D j ∨ j = i) ∨ (L ≤ j ∧ S.nx + j < h')) hR' hd hdn' (zga (c := { callee := .value (.func f), args := oargs, argTypes := oat }) rfl rfl hret.1) hret (by simp [hsz]) hlt (hU h' hret.2.1) (fun k hk => ?_) fun φ' M' a' w' hr => ?_
    ·have hk' : k < args.length := by simpa using hk
     rw [hval k hk']
     have := sub_sim hR.hp hg (h4 k hk')
     have e : ((args.map S.ev).map (V.sub g)).getD k .junk = ((args.map S.ev).getD k .junk).sub g := by simp [List.getD_eq_getElem?_getD, hk']
     rw [e]; exact this
    ·refine hK φ' M' a' w' ?_
     rw [h2]
     cases hdst : it.dst <;> rw [hdst] at hr <;> exact { hr with }
  | callGV x args =>
   rw [hopc] at h1
   simp only [stepG] at h1
   split at h1
   rotate_left
   ·exact h1.elim
   rename_i f caps hx
   obtain ⟨H, h', hret, rfl⟩ := h1
   rw [hopc] at hop
   obtain ⟨dst, oop, ty, pos, after, guard⟩ := o
   simp only [mOp, AOp.base] at hop
   obtain ⟨n, oargs, oat, rfl, hmx, hargs⟩ : ∃ n oargs oat, oop = .call { callee := .value (.tmp n), args := oargs, argTypes := oat } ∧ mX (.tmp n) x = true ∧ mXs mX oargs.toList args = true := by
    unfold mOp0 at hop
    split at hop
    all_goals first | (rename_i heq; cases heq; done) | (rename_i heq _; cases heq; done) | (rename_i heq _ _; cases heq; done) | skip
    ·rename_i heq
     cases heq
     simp only [Bool.and_eq_true] at hop
     exact ⟨_, _, _, rfl, hop.1, hop.2⟩
    ·cases hop
   obtain ⟨h3, h4⟩ := zfz ⟨hR.env, hR.gl⟩ hargs
   have hsz : oargs.size = args.length := by simpa using h3
   have e := za4 ⟨hR.env, hR.gl⟩ hmx
   rw [hx] at e
   obtain ⟨arr, e1, e2, e3⟩ := e.fn_inv
   refine callG_sound (D' := fun j => (D j ∨ j = i) ∨ (L ≤ j ∧ S.nx + j < h')) hR hd hdn' (zga (c := { callee := .value (.tmp n), args := oargs, argTypes := oat }) rfl e1 hret.1) hret (by simp [hsz, e2]) hlt (hU h' hret.2.1) (fun k hk => ?_) (hK' h' v H (by rw [h2]; rfl))
   by_cases hlt' : k < args.length
   ·have := h4 k hlt'
    simpa [Array.getD_eq_getD_getElem?, List.getD_eq_getElem?_getD, List.getElem?_append_left, Array.getElem?_append_left, hlt', hsz] using this
   ·have hk' : k - args.length < caps.length := by simp at hk; omega
    have := e3 _ hk'
    rw [show (List.map S.ev args ++ caps).getD k V.junk = caps.getD (k - args.length) .junk by
     simp only [List.getD_eq_getElem?_getD]; rw [List.getElem?_append_right (by simp; omega)]; simp]
    rw [show (Array.map a.eval oargs ++ arr).getD k Go.undef = arr.getD (k - args.length) Go.undef by
     simp only [Array.getD_eq_getD_getElem?]; rw [Array.getElem?_append_right (by simp; omega)]; simp [hsz]]
    exact this
  | _ =>
   rw [hopc] at h1
   exact plain _ hopc h1
 unfold gstep at h
 unfold wpOp
 simp only [ho]
 split at h
 ·rename_i hgn
  rw [hgn] at hg
  cases hgo : o.guard with
  | none =>
   rw [if_pos (by simp [Region.wanted, hgo])]
   exact .inl (go h)
  | some p => simp [hgo] at hg
 ·rename_i s want hgn
  rw [hgn] at hg
  cases hgo : o.guard with
  | none => simp [hgo] at hg
  | some p =>
   obtain ⟨j, b'⟩ := p
   simp only [hgo, Bool.and_eq_true, beq_iff_eq] at hg
   obtain ⟨rfl, hg2⟩ := hg
   cases hoj : ops[j]? with
   | none => simp [hoj] at hg2
   | some o' =>
    simp [hoj] at hg2
    obtain ⟨hds, hsn⟩ := hg2
    have hst : s < a.tmps.size := by rw [hR.tmps]; exact hsn
    split at h
    ·rename_i b hb
     have e := hR.env s
     rw [hb] at e; have e := e.bool_inv
     have hy := yielded_bool (ops := ops) hoj hds hst e
     by_cases hbw : b = b'
     ·subst hbw
      simp only [if_true] at h
      rw [if_pos (by simp [Region.wanted, hgo, hy])]
      exact .inl (go h)
     ·rw [if_neg hbw] at h
      rw [if_neg (by simp [Region.wanted, hgo, hy, hbw])]
      exact skip h
    ·rename_i hb
     have e := hR.env s
     rw [hb] at e; have e := e.undef_inv
     have hy := yielded_undef (ops := ops) hoj hds hst e
     rw [if_neg (by simp [Region.wanted, hgo, hy])]
     exact skip h
    ·exact h.elim

theorem steps_sound {P : Program} {dr : Bool} {C : Ctx} {L : Nat} {ops : Array Oper} {Q : Exit → Act → World → Prop} : ∀ {l : List (Nat × It)} {S S' : St} {D : Nat → Prop} {φ : Nat → Option Nat} {M : Nat → Prop} {a : Act} {w : World},
  (∀ p ∈ l, ∃ o, ops[p.1]? = some o ∧ mIt P C.n ops o p.2 = true) → (∀ p ∈ l, p.1 < L) → (l.map (·.1)).Nodup → (∀ p ∈ l, ¬ D p.1) → (∀ j, D j → j < L) → S.nx + L ≤ S.hi → Steps' P dr l S S' → Rel C (DD D L S) S φ M a w →
  (∀ D' φ' M' a' w', (∀ j, D' j → j < L) → S'.nx + L ≤ S'.hi → Rel C (DD D' L S') S' φ' M' a' w' → Q .normal a' w') → wpOps P ops Q (l.map (·.1)) a w
 | [], S, S', D, φ, M, a, w, _, _, _, _, hDL, hhi, h, hR, hQ => by
  have h : S = S' := h
  subst h
  exact hQ D φ M a w hDL hhi hR
 | p :: l, S, S', D, φ, M, a, w, hm, hl, hnd, hD, hDL, hhi, h, hR, hQ => by
  obtain ⟨S1, h1, h2⟩ := h
  obtain ⟨o, ho1, ho2⟩ := hm p (by simp)
  simp only [List.map_cons, List.nodup_cons] at hnd
  simp only [List.map_cons, wpOps_cons]
  have hpl := hl p (by simp)
  obtain ⟨e1, e2⟩ := gstep_nx h1
  refine gstep_sound ho1 ho2 hR (hD p (by simp)) hpl hDL hhi h1 fun φ' M' a' w' hR' => ?_
  refine steps_sound (fun q hq => hm q (by simp [hq])) (fun q hq => hl q (by simp [hq])) hnd.2 (fun q hq => ?_) (fun j hj => ?_) (by omega) h2 hR' hQ
  ·rintro (h3 | h3)
   ·exact hD q (by simp [hq]) h3
   ·exact hnd.1 (List.mem_map.2 ⟨q, hq, h3⟩)
  ·rcases hj with hj | rfl
   ·exact hDL j hj
   ·exact hpl
end Go.Gim

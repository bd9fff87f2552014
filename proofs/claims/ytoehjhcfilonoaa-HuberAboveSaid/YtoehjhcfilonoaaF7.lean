/- Regions: whatever order the machine draws, the text's order tells what comes. -/
import Derived.Test.YtoehjhcfilonoaaF6
set_option linter.unusedVariables false
set_option linter.unusedSimpArgs false
namespace Go.Gim
open Go.RowKit

structure Ctx where
  w0 : World
  M0 : Nat → Prop
  G : Nat → Prop
  n : Nat

def used (nx : Nat) (D : Nat → Prop) : Nat → Prop := fun b => b < nx ∨ ∃ j, D j ∧ b = nx + j

structure Rel (C : Ctx) (D : Nat → Prop) (S : St) (φ : Nat → Option Nat) (M : Nat → Prop) (a : Act) (w : World) : Prop where
  tmps : a.tmps.size = C.n
  defers : a.defers = []
  env : ∀ s, Sim φ M w S.H (used S.nx D) (S.env s) (a.tmps.getD s Go.undef)
  hp : HpOk φ M w S.H (used S.nx D)
  Mb : ∀ g, M g → g < w.heap.size
  M0b : ∀ g, C.M0 g → g < C.w0.heap.size
  M1 : ∀ g, M g → C.M0 g ∨ C.w0.heap.size ≤ g
  M2 : ∀ g, C.M0 g → ¬ C.G g → M g
  os : w.os = C.w0.os
  tape : w.tape = C.w0.tape
  output : w.output = C.w0.output
  size : C.w0.heap.size ≤ w.heap.size
  old : ∀ g, g < C.w0.heap.size → ¬ C.G g → w.heap[g]? = C.w0.heap[g]?
  loc : ∀ b g, S.H b ≠ none → φ b = some g → C.G g ∨ C.w0.heap.size ≤ g

theorem put_tmps {a : Act} {d : Nat} {x : Value} (h : d < a.tmps.size) (s : Nat) : (a.put (some d) x).tmps.getD s Go.undef = if s = d then x else a.tmps.getD s Go.undef := by
  simp only [Act.put, Array.getD_eq_getD_getElem?, Array.getElem?_setIfInBounds]
  by_cases hs : s = d
  · subst hs; simp [h]
  · rw [if_neg (by omega), if_neg hs]

/-- A step of the machine that the data follows. -/
theorem Rel.trans {C : Ctx} {D D' : Nat → Prop} {S : St} {φ φ' : Nat → Option Nat} {M M' : Nat → Prop} {a : Act} {w w' : World} {H' : Hp} {v : V} {x : Value} {dst : Option Nat} (h : Rel C D S φ M a w)
    (t : Trans φ φ' M M' (used S.nx D) (used S.nx D') w w' S.H H') (hs : Sim φ' M' w' H' (used S.nx D') v x) (hd : ∀ d, dst = some d → d < C.n) : Rel C D' (S.put dst v H') φ' M' (a.put dst x) w' := by
  have hH : (S.put dst v H').H = H' := by cases dst <;> rfl
  have hn : (S.put dst v H').nx = S.nx := by cases dst <;> rfl
  refine { tmps := ?_, defers := ?_, env := fun s => ?_, hp := by rw [hH, hn]; exact t.hp, Mb := t.Mb h.Mb, M0b := h.M0b, M1 := fun g hg => ?_, M2 := fun g hg hG => ?_, os := t.os.trans h.os, tape := t.tape.trans h.tape,
           output := t.output.trans h.output, size := Nat.le_trans h.size t.size, old := fun g hg hG => ?_, loc := fun b g hb hg => ?_ }
  · cases dst <;> simp [Act.put, h.tmps]
  · cases dst <;> simp [Act.put, h.defers]
  · rw [hH, hn]
    cases dst with
    | none => exact (h.env s).carry t.carry
    | some d =>
      rw [put_tmps (by rw [h.tmps]; exact hd d rfl)]
      show Sim φ' M' w' H' _ (upd S.env d v s) _
      unfold upd
      split
      · exact hs
      · exact (h.env s).carry t.carry
  · rcases t.M1 g hg with h1 | h1
    · exact h.M1 g h1
    · exact .inr (Nat.le_trans h.size h1)
  · rcases t.M2 g (h.M2 g hg hG) with h1 | ⟨b, h1, h2⟩
    · exact h1
    · rcases h.loc b g h1 h2 with h3 | h3
      · exact absurd h3 hG
      · have := h.M0b g hg; omega
  · rw [t.old g (Nat.lt_of_lt_of_le hg h.size) fun b blk hb _ hφ => ?_]
    · exact h.old g hg hG
    · rcases h.loc b g (by simp [hb]) hφ with h3 | h3
      · exact hG h3
      · omega
  · rw [hH] at hb
    rcases t.loc b g hb hg with ⟨c, h1, h2⟩ | h1
    · exact h.loc c g h1 h2
    · exact .inr (Nat.le_trans h.size h1)

/-! ### Items -/
def mIt (P : Program) (n : Nat) (ops : Array Oper) (o : Oper) (it : It) : Bool :=
  decide (o.dst = it.dst) && (match it.dst with | some d => decide (d < n) | none => true) &&
  (match o.guard, it.g with
   | none, none => true
   | some (j, b), some (s, b') => b == b' && (match ops[j]? with | some o' => decide (o'.dst = some s) && decide (s < n) | none => false)
   | _, _ => false) && mOp P o.op it.op

def gstep (P : Program) (dr : Bool) (i : Nat) (it : It) (S S' : St) : Prop :=
  match it.g with
  | none => ∃ v H, step1 P dr (S.nx + i) it.op S v H ∧ S' = S.put it.dst v H
  | some (s, want) =>
    match S.env s with
    | .bool b => if b = want then ∃ v H, step1 P dr (S.nx + i) it.op S v H ∧ S' = S.put it.dst v H else S' = S.put it.dst .undef S.H
    | .undef => S' = S.put it.dst .undef S.H
    | _ => False

def Steps' (P : Program) (dr : Bool) : List (Nat × It) → St → St → Prop
  | [], S, S' => S = S'
  | p :: l, S, S' => ∃ S1, gstep P dr p.1 p.2 S S1 ∧ Steps' P dr l S1 S'

theorem know_eq {S : St} {s : Nat} {b : Bool} (h : S.env s = .bool b) : S.know s b = S := by
  cases S with
  | mk env H nx =>
    simp only [St.know] at *
    congr
    funext t
    unfold upd
    split
    · rename_i ht; rw [ht, h]
    · rfl

theorem WOps_steps {P : Program} {dr : Bool} {K : St → Prop} : ∀ {l : List It} {k : Nat} {S : St}, WOps P dr k l S K → ∃ S', Steps' P dr ((List.range' k l.length).zip l) S S' ∧ K S'
  | [], k, S, h => ⟨S, rfl, h⟩
  | it :: l, k, S, h => by
    simp only [WOps] at h
    have key : ∃ S1, gstep P dr k it S S1 ∧ WOps P dr (k + 1) l S1 K := by
      unfold gstep
      split at h
      · rename_i hg
        rw [hg]
        obtain ⟨v, H, h1, h2⟩ := h
        exact ⟨_, ⟨v, H, h1, rfl⟩, h2⟩
      · rename_i s want hg
        rw [hg]
        simp only
        split at h
        · rename_i b hb
          by_cases hw : b = want
          · subst hw
            obtain ⟨v, H, h1, h2⟩ := h.1 rfl
            rw [know_eq hb] at h1 h2
            rw [hb]
            exact ⟨_, by simp only [if_true]; exact ⟨v, H, h1, rfl⟩, h2⟩
          · have hb' : b = !want := by cases b <;> cases want <;> simp_all
            have h2 := h.2 hb'
            rw [know_eq (by rw [hb, hb'])] at h2
            rw [hb]
            exact ⟨_, by simp only [if_neg hw], h2⟩
        · rename_i hb
          rw [hb]
          exact ⟨_, rfl, h⟩
        · exact h.elim
    obtain ⟨S1, h1, h2⟩ := key
    obtain ⟨S', h3, h4⟩ := WOps_steps h2
    exact ⟨S', ⟨S1, h1, h3⟩, h4⟩

theorem put_nx {S : St} {d : Option Nat} {v : V} {H : Hp} : (S.put d v H).nx = S.nx := by cases d <;> rfl
theorem put_H {S : St} {d : Option Nat} {v : V} {H : Hp} : (S.put d v H).H = H := by cases d <;> rfl
theorem gstep_nx {P : Program} {dr : Bool} {i : Nat} {it : It} {S S' : St} (h : gstep P dr i it S S') : S'.nx = S.nx := by
  unfold gstep at h
  split at h
  · obtain ⟨v, H, _, rfl⟩ := h; exact put_nx
  · split at h
    · split at h
      · obtain ⟨v, H, _, rfl⟩ := h; exact put_nx
      · subst h; exact put_nx
    · subst h; exact put_nx
    · exact h.elim

theorem yielded_bool {ops : Array Oper} {a : Act} {j s : Nat} {o' : Oper} {b : Bool} (h1 : ops[j]? = some o') (h2 : o'.dst = some s) (hs : s < a.tmps.size) (hb : a.tmps.getD s Go.undef = .bool b) : yielded ops a.tmps j = some b := by
  have : a.tmps[s]? = some (.bool b) := by rw [getD_arr (d := Go.undef) hs, hb]
  simp [yielded, h1, h2, this]
theorem yielded_undef {ops : Array Oper} {a : Act} {j s : Nat} {o' : Oper} (h1 : ops[j]? = some o') (h2 : o'.dst = some s) (hs : s < a.tmps.size) (hb : a.tmps.getD s Go.undef = Go.undef) : yielded ops a.tmps j = none := by
  have : a.tmps[s]? = some Go.undef := by rw [getD_arr (d := Go.undef) hs, hb]
  simp [yielded, h1, h2, this, Go.undef]

theorem gstep_sound {P : Program} {dr : Bool} {i : Nat} {it : It} {S S' : St} {C : Ctx} {D : Nat → Prop} {φ : Nat → Option Nat} {M : Nat → Prop} {a : Act} {w : World} {ops : Array Oper} {o : Oper} {Q : Exit → Act → World → Prop}
    {K : Act → World → Prop} (ho : ops[i]? = some o) (hm : mIt P C.n ops o it = true) (hR : Rel C D S φ M a w) (hD : ¬ D i) (h : gstep P dr i it S S')
    (hK : ∀ φ' M' a' w', Rel C (fun j => D j ∨ j = i) S' φ' M' a' w' → K a' w') : wpOp P ops Q i K a w := by
  simp only [mIt, Bool.and_eq_true, decide_eq_true_eq] at hm
  obtain ⟨⟨⟨hd, hdn⟩, hg⟩, hop⟩ := hm
  have hdn' : ∀ d, it.dst = some d → d < C.n := fun d e => by rw [e] at hdn; simpa using hdn
  have hU : ∀ b, used S.nx D b → used S.nx (fun j => D j ∨ j = i) b := fun b hb => by
    rcases hb with hb | ⟨j, h1, h2⟩
    · exact .inl hb
    · exact .inr ⟨j, .inl h1, h2⟩
  have hid : used S.nx (fun j => D j ∨ j = i) (S.nx + i) := .inr ⟨i, .inr rfl, rfl⟩
  have hnew : ¬ used S.nx D (S.nx + i) := fun hb => by
    rcases hb with hb | ⟨j, h1, h2⟩
    · omega
    · exact hD (by rw [show i = j by omega]; exact h1)
  have skip : S' = S.put it.dst .undef S.H → K (a.put o.dst Go.undef) w := fun e => by
    subst e
    rw [hd]
    exact hK φ M _ w (hR.trans (Trans.refl hR.hp hU) (.pur .undef) hdn')
  have go : (∃ v H, step1 P dr (S.nx + i) it.op S v H ∧ S' = S.put it.dst v H) → o.wp P a w K Q := fun ⟨v, H, h1, h2⟩ => by
    subst h2
    refine op_sound hop h1 hR.env hR.hp hR.Mb hU hid hnew K Q fun x w' φ' M' t hs => ?_
    rw [hd]
    exact hK φ' M' _ w' (hR.trans t hs hdn')
  unfold gstep at h
  unfold wpOp
  simp only [ho]
  split at h
  · rename_i hgn
    rw [hgn] at hg
    cases hgo : o.guard with
    | none =>
      rw [if_pos (by simp [Region.wanted, hgo])]
      exact .inl (go h)
    | some p => simp [hgo] at hg
  · rename_i s want hgn
    rw [hgn] at hg
    cases hgo : o.guard with
    | none => simp [hgo] at hg
    | some p =>
      obtain ⟨j, b'⟩ := p
      simp only [hgo, Bool.and_eq_true, beq_iff_eq] at hg
      obtain ⟨rfl, hg2⟩ := hg
      cases hoj : ops[j]? with
      | none => simp [hoj] at hg2
      | some o' =>
        simp [hoj] at hg2
        obtain ⟨hds, hsn⟩ := hg2
        have hst : s < a.tmps.size := by rw [hR.tmps]; exact hsn
        split at h
        · rename_i b hb
          have e := hR.env s
          rw [hb] at e; have e := e.bool_inv
          have hy := yielded_bool (ops := ops) hoj hds hst e
          by_cases hbw : b = b'
          · subst hbw
            simp only [if_true] at h
            rw [if_pos (by simp [Region.wanted, hgo, hy])]
            exact .inl (go h)
          · rw [if_neg hbw] at h
            rw [if_neg (by simp [Region.wanted, hgo, hy, hbw])]
            exact skip h
        · rename_i hb
          have e := hR.env s
          rw [hb] at e; have e := e.undef_inv
          have hy := yielded_undef (ops := ops) hoj hds hst e
          rw [if_neg (by simp [Region.wanted, hgo, hy])]
          exact skip h
        · exact h.elim

/-- The text's order. -/
theorem steps_sound {P : Program} {dr : Bool} {C : Ctx} {ops : Array Oper} {Q : Exit → Act → World → Prop} : ∀ {l : List (Nat × It)} {S S' : St} {D : Nat → Prop} {φ : Nat → Option Nat} {M : Nat → Prop} {a : Act} {w : World},
    (∀ p ∈ l, ∃ o, ops[p.1]? = some o ∧ mIt P C.n ops o p.2 = true) → (l.map (·.1)).Nodup → (∀ p ∈ l, ¬ D p.1) → Steps' P dr l S S' → Rel C D S φ M a w →
    (∀ φ' M' a' w', Rel C (fun j => D j ∨ j ∈ l.map (·.1)) S' φ' M' a' w' → Q .normal a' w') → wpOps P ops Q (l.map (·.1)) a w
  | [], S, S', D, φ, M, a, w, _, _, _, h, hR, hQ => by
    have h : S = S' := h
    subst h
    exact hQ φ M a w (by simpa using hR)
  | p :: l, S, S', D, φ, M, a, w, hm, hnd, hD, h, hR, hQ => by
    obtain ⟨S1, h1, h2⟩ := h
    obtain ⟨o, ho1, ho2⟩ := hm p (by simp)
    simp only [List.map_cons, List.nodup_cons] at hnd
    simp only [List.map_cons, wpOps_cons]
    refine gstep_sound ho1 ho2 hR (hD p (by simp)) h1 fun φ' M' a' w' hR' => ?_
    refine steps_sound (fun q hq => hm q (by simp [hq])) hnd.2 (fun q hq => ?_) h2 hR' fun φ2 M2 a2 w2 hR2 => hQ φ2 M2 a2 w2 ?_
    · rintro (h3 | h3)
      · exact hD q (by simp [hq]) h3
      · exact hnd.1 (List.mem_map.2 ⟨q, hq, h3⟩)
    · have e : (fun j => (D j ∨ j = p.1) ∨ j ∈ l.map (·.1)) = (fun j => D j ∨ j ∈ (p :: l).map (·.1)) := by
        funext j; simp only [List.map_cons, List.mem_cons]; exact propext ⟨fun h => by rcases h with (h | h) | h <;> simp [h], fun h => by rcases h with h | h | h <;> simp [h]⟩
      rwa [← e]
end Go.Gim

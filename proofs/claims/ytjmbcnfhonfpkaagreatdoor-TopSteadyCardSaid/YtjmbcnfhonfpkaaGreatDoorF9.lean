import Derived.Test.YtjmbcnfhonfpkaaGreatDoorF8
/- Regions whose order the machine draws: the text's order tells what comes. -/
set_option linter.unusedVariables false
set_option linter.unusedSimpArgs false
namespace Go.Gim
open Go.RowKit

def It.reads (it : It) : List Nat := (match it.g with | some (s, _) => [s] | none => []) ++ it.op.reads

theorem It.reads_op {it : It} {s : Nat} (h : s ∈ it.op.reads) : s ∈ it.reads := List.mem_append_right _ h

theorem gstep_move {P : Program} {i : Nat} {it : It} {S S' : St} (hc : it.op.cls ≤ 2) (h : gstep P true i it S S') :
  ∃ v eff, S' = S.put it.dst v (app S.H (S.nx + i) eff) ∧ ∀ env' H2 h2, (∀ s ∈ it.reads, env' s = S.env s) → (it.op.cls = 0 ∨ ∀ b, b < S.nx → H2 b = S.H b) →
   gstep P true i it ⟨env', H2, S.nx, h2⟩ (St.put ⟨env', H2, S.nx, h2⟩ it.dst v (app H2 (S.nx + i) eff)) := by
 have key : ∀ v S1, stepG P true (S.nx + i) it.op S v S1 → S' = S1.set it.dst v → ∃ eff, S' = S.put it.dst v (app S.H (S.nx + i) eff) ∧ ∀ env' H2 h2, (∀ s ∈ it.reads, env' s = S.env s) → (it.op.cls = 0 ∨ ∀ b, b < S.nx → H2 b = S.H b) →
   ∃ S2, stepG P true (S.nx + i) it.op ⟨env', H2, S.nx, h2⟩ v S2 ∧ St.put ⟨env', H2, S.nx, h2⟩ it.dst v (app H2 (S.nx + i) eff) = S2.set it.dst v := fun v S1 h1 h2 => by
  obtain ⟨H, h3, rfl⟩ := stepG_to1 hc h1
  obtain ⟨eff, rfl, h4⟩ := step_move hc h3
  refine ⟨eff, by rw [h2]; cases it.dst <;> rfl, fun env' H2 h2 hr hH => ⟨_, stepG_of1 (h4 env' H2 h2 (fun s hs => hr s (It.reads_op hs)) hH), by cases it.dst <;> rfl⟩⟩
 unfold gstep at h
 split at h
 ·rename_i hg
  obtain ⟨v, S1, h1, h2⟩ := h
  obtain ⟨eff, h3, h4⟩ := key v S1 h1 h2
  refine ⟨v, eff, h3, fun env' H2 h2 hr hH => ?_⟩
  unfold gstep
  rw [hg]
  obtain ⟨S2, h5, h6⟩ := h4 env' H2 h2 hr hH
  exact ⟨v, S2, h5, h6⟩
 ·rename_i s want hg
  have hs : s ∈ it.reads := by simp [It.reads, hg]
  split at h
  ·rename_i b hb
   split at h
   ·rename_i hbw
    obtain ⟨v, S1, h1, h2⟩ := h
    obtain ⟨eff, h3, h4⟩ := key v S1 h1 h2
    refine ⟨v, eff, h3, fun env' H2 h2 hr hH => ?_⟩
    unfold gstep
    rw [hg]
    have := hr s hs
    simp only [this, hb, hbw, if_true]
    obtain ⟨S2, h5, h6⟩ := h4 env' H2 h2 hr hH
    exact ⟨v, S2, h5, h6⟩
   ·rename_i hbw
    subst h
    refine ⟨.undef, none, rfl, fun env' H2 h2 hr hH => ?_⟩
    unfold gstep
    rw [hg]
    have := hr s hs
    simp only [this, hb, hbw, if_false]
    rfl
  ·rename_i hb
   subst h
   refine ⟨.undef, none, rfl, fun env' H2 h2 hr hH => ?_⟩
   unfold gstep
   rw [hg]
   have := hr s hs
   simp only [this, hb]
   rfl
  ·exact h.elim

theorem gstep_env {P : Program} {i : Nat} {it : It} {S S' : St} (h : gstep P true i it S S') :
  ∃ v H h', S' = (S.put it.dst v H).to h' ∧ ∀ env', (∀ s ∈ it.reads, env' s = S.env s) → gstep P true i it ⟨env', S.H, S.nx, S.hi⟩ ((St.put ⟨env', S.H, S.nx, S.hi⟩ it.dst v H).to h') := by
 have key : ∀ v S1, stepG P true (S.nx + i) it.op S v S1 → S' = S1.set it.dst v → ∃ H h', S' = (S.put it.dst v H).to h' ∧ ∀ env', (∀ s ∈ it.reads, env' s = S.env s) →
   ∃ S2, stepG P true (S.nx + i) it.op ⟨env', S.H, S.nx, S.hi⟩ v S2 ∧ (St.put ⟨env', S.H, S.nx, S.hi⟩ it.dst v H).to h' = S2.set it.dst v := fun v S1 h1 h2 => by
  obtain ⟨H, h', rfl, h3⟩ := stepG_env h1
  refine ⟨H, h', by rw [h2]; cases it.dst <;> rfl, fun env' hr => ⟨_, h3 env' (fun s hs => hr s (It.reads_op hs)), by cases it.dst <;> rfl⟩⟩
 unfold gstep at h
 split at h
 ·rename_i hg
  obtain ⟨v, S1, h1, h2⟩ := h
  obtain ⟨H, h', h3, h4⟩ := key v S1 h1 h2
  refine ⟨v, H, h', h3, fun env' hr => ?_⟩
  unfold gstep
  rw [hg]
  obtain ⟨S2, h5, h6⟩ := h4 env' hr
  exact ⟨v, S2, h5, h6⟩
 ·rename_i s want hg
  have hs : s ∈ it.reads := by simp [It.reads, hg]
  split at h
  ·rename_i b hb
   split at h
   ·rename_i hbw
    obtain ⟨v, S1, h1, h2⟩ := h
    obtain ⟨H, h', h3, h4⟩ := key v S1 h1 h2
    refine ⟨v, H, h', h3, fun env' hr => ?_⟩
    unfold gstep
    rw [hg]
    have := hr s hs
    simp only [this, hb, hbw, if_true]
    obtain ⟨S2, h5, h6⟩ := h4 env' hr
    exact ⟨v, S2, h5, h6⟩
   ·rename_i hbw
    subst h
    refine ⟨.undef, S.H, S.hi, by cases it.dst <;> rfl, fun env' hr => ?_⟩
    unfold gstep
    rw [hg]
    have := hr s hs
    simp only [this, hb, hbw, if_false]
    cases it.dst <;> rfl
  ·rename_i hb
   subst h
   refine ⟨.undef, S.H, S.hi, by cases it.dst <;> rfl, fun env' hr => ?_⟩
   unfold gstep
   rw [hg]
   have := hr s hs
   simp only [this, hb]
   cases it.dst <;> rfl
  ·exact h.elim

theorem step_H {P : Program} {id : Nat} {op : AOp} {S : St} {v : V} {H : Hp} (hc : op.cls = 0) (h : step1 P true id op S v H) : H = S.H := by
 cases op <;> simp only [AOp.cls, reduceCtorEq] at hc <;> first
  | omega
  | exact h.2.symm
  | exact h.2.2.symm
  | exact h.2.2.2.symm
  | (dsimp only [step1] at h
     split at h
     ·first | exact h.2.symm | exact h.2.2.2.symm
     ·exact h.elim)

theorem gstep_pure {P : Program} {i : Nat} {it : It} {S S' : St} (hc : it.op.cls = 0) (h : gstep P true i it S S') :
  ∃ v, S' = S.put it.dst v S.H ∧ ∀ env' H2 h2, (∀ s ∈ it.reads, env' s = S.env s) → gstep P true i it ⟨env', H2, S.nx, h2⟩ (St.put ⟨env', H2, S.nx, h2⟩ it.dst v H2) := by
 have hH : ∀ S S' : St, gstep P true i it S S' → S'.H = S.H := fun S S' h => by
  have key : (∃ v S1, stepG P true (S.nx + i) it.op S v S1 ∧ S' = S1.set it.dst v) → S'.H = S.H := fun ⟨v, S1, h1, h2⟩ => by
   obtain ⟨H, h3, rfl⟩ := stepG_to1 (by omega) h1
   have := step_H hc h3
   subst this
   rw [h2]
   exact put_H
  unfold gstep at h
  split at h
  ·exact key h
  ·split at h
   ·split at h
    ·exact key h
    ·subst h; rw [put_H]
   ·subst h; rw [put_H]
   ·exact h.elim
 obtain ⟨v, eff, rfl, m⟩ := gstep_move (by omega) h
 have he : eff = none := by
  have := hH _ _ (m S.env (fun _ => none) S.hi (fun _ _ => rfl) (.inl hc))
  rw [put_H] at this
  cases eff with
  | none => rfl
  | some b =>
   have := congrFun this (S.nx + i)
   simp [app, Hp.upd] at this
 subst he
 exact ⟨v, rfl, fun env' H2 h2 hr => m env' H2 h2 hr (.inl hc)⟩

def late : AOp → AOp → Bool
 | .loadN _ _ _ av, .store _ (.t s) _ => av.contains s
 | _, _ => false
theorem late_of {a b : AOp} (h : late a b = true) : ∃ size ag x av size' s y, a = .loadN size ag x av ∧ b = .store size' (.t s) y ∧ s ∈ av := by
 unfold late at h
 split at h
 ·exact ⟨_, _, _, _, _, _, _, rfl, rfl, by simpa using h⟩
 ·cases h
theorem gstep_loadN {P : Program} {i : Nat} {it : It} {S S' : St} {size : Nat} {ag : Bool} {x : X} {av : List Nat} (ho : it.op = .loadN size ag x av) (h : gstep P true i it S S') :
  ∃ v, S' = S.put it.dst v S.H ∧ ∀ env' H2 h2, (∀ s ∈ it.reads, env' s = S.env s) → (H2 = S.H ∨ ∃ s ∈ av, ∃ c n i o, S.env s = .ptr c n i o ∧ ∀ b, b ≠ c → H2 b = S.H b) → gstep P true i it ⟨env', H2, S.nx, h2⟩ (St.put ⟨env', H2, S.nx, h2⟩ it.dst v H2) := by
 have key : ∀ v S1, stepG P true (S.nx + i) it.op S v S1 → S' = S1.set it.dst v → S' = S.put it.dst v S.H ∧ ∀ env' H2 h2, (∀ s ∈ it.reads, env' s = S.env s) → (H2 = S.H ∨ ∃ s ∈ av, ∃ c n i o, S.env s = .ptr c n i o ∧ ∀ b, b ≠ c → H2 b = S.H b) →
   ∃ S2, stepG P true (S.nx + i) it.op ⟨env', H2, S.nx, h2⟩ v S2 ∧ St.put ⟨env', H2, S.nx, h2⟩ it.dst v H2 = S2.set it.dst v := fun v S1 h1 h2 => by
  obtain ⟨H, h3, rfl⟩ := stepG_to1 (by rw [ho]; simp [AOp.cls]) h1
  rw [ho] at h3
  obtain ⟨rfl, h4⟩ := loadN_move h3
  refine ⟨by rw [h2]; cases it.dst <;> rfl, fun env' H2 h2 hr hH => ?_⟩
  have h5 := h4 env' H2 h2 (fun s hs => hr s (It.reads_op (by rw [ho]; exact hs))) hH
  rw [← ho] at h5
  exact ⟨_, stepG_of1 h5, by cases it.dst <;> rfl⟩
 unfold gstep at h
 split at h
 ·rename_i hg
  obtain ⟨v, S1, h1, h2⟩ := h
  obtain ⟨h3, h4⟩ := key v S1 h1 h2
  refine ⟨v, h3, fun env' H2 h2 hr hH => ?_⟩
  unfold gstep
  rw [hg]
  obtain ⟨S2, h5, h6⟩ := h4 env' H2 h2 hr hH
  exact ⟨v, S2, h5, h6⟩
 ·rename_i s want hg
  have hs : s ∈ it.reads := by simp [It.reads, hg]
  split at h
  ·rename_i b hb
   split at h
   ·rename_i hbw
    obtain ⟨v, S1, h1, h2⟩ := h
    obtain ⟨h3, h4⟩ := key v S1 h1 h2
    refine ⟨v, h3, fun env' H2 h2 hr hH => ?_⟩
    unfold gstep
    rw [hg]
    have := hr s hs
    simp only [this, hb, hbw, if_true]
    obtain ⟨S2, h5, h6⟩ := h4 env' H2 h2 hr hH
    exact ⟨v, S2, h5, h6⟩
   ·rename_i hbw
    subst h
    refine ⟨.undef, rfl, fun env' H2 h2 hr hH => ?_⟩
    unfold gstep
    rw [hg]
    have := hr s hs
    simp only [this, hb, hbw, if_false]
  ·rename_i hb
   subst h
   refine ⟨.undef, rfl, fun env' H2 h2 hr hH => ?_⟩
   unfold gstep
   rw [hg]
   have := hr s hs
   simp only [this, hb]
  ·exact h.elim
theorem gstep_store {P : Program} {j : Nat} {it : It} {S S' : St} {size s : Nat} {y : X} (ho : it.op = .store size (.t s) y) (h : gstep P true j it S S') : S'.H = S.H ∨ ∃ c n i o, S.env s = .ptr c n i o ∧ ∀ b, b ≠ c → S'.H b = S.H b := by
 have key : ∀ v S1, stepG P true (S.nx + j) it.op S v S1 → S' = S1.set it.dst v → S'.H = S.H ∨ ∃ c n i o, S.env s = .ptr c n i o ∧ ∀ b, b ≠ c → S'.H b = S.H b := fun v S1 h1 h2 => by
  rw [ho] at h1
  obtain ⟨H, h3, rfl⟩ := h1
  simp only [step1, St.ev] at h3
  split at h3
  ·rename_i b n i off hx
   obtain ⟨_, _, blk, e, e', _, _, _, _, _, rfl⟩ := h3
   refine .inr ⟨b, n, i, off, hx, fun c hc => ?_⟩
   rw [h2, St.set, put_H]
   exact Hp.upd_ne _ _ hc
  ·exact h3.elim
 unfold gstep at h
 split at h
 ·obtain ⟨v, S1, h1, h2⟩ := h
  exact key v S1 h1 h2
 ·split at h
  ·split at h
   ·obtain ⟨v, S1, h1, h2⟩ := h
    exact key v S1 h1 h2
   ·subst h; exact .inl put_H
  ·subst h; exact .inl put_H
  ·exact h.elim

def AOp.isShp : AOp → Bool
 | .fldA .. => true
 | .len .. => true
 | .idxA .. => true
 | _ => false
def shp (a b : AOp) : Bool := a.isShp && (match b with | .store .. => true | _ => false)
theorem shp_of {a b : AOp} (h : shp a b = true) : a.isShp = true ∧ ∃ size p y, b = .store size p y := by
 unfold shp at h
 rw [Bool.and_eq_true] at h
 refine ⟨h.1, ?_⟩
 have h2 := h.2
 split at h2
 ·exact ⟨_, _, _, rfl⟩
 ·cases h2
def SameShape (H H2 : Hp) : Prop := ∀ b blk, H b = some blk → ∃ blk', H2 b = some blk' ∧ blk'.elems.length = blk.elems.length ∧ blk'.size = blk.size
theorem SameShape.refl (H : Hp) : SameShape H H := fun _ blk h => ⟨blk, h, rfl, rfl⟩
theorem shp_move {P : Program} {id : Nat} {op : AOp} {S : St} {v : V} {H : Hp} (ho : op.isShp = true) (h : step1 P true id op S v H) : H = S.H ∧ ∀ env' H2 h2, (∀ s ∈ op.reads, env' s = S.env s) → SameShape S.H H2 → step1 P true id op ⟨env', H2, S.nx, h2⟩ v H2 := by
 cases op <;> simp only [AOp.isShp, Bool.false_eq_true] at ho
 ·rename_i str x
  simp only [step1] at h
  refine ⟨?_, fun env' H2 h2 hr hH => ?_⟩
  ·split at h
   ·exact h.2.2.2.2.symm
   ·exact h.2.symm
  ·simp only [step1]
   rw [ev_eq (S := S) (x := x) hr]
   split at h
   ·rename_i b n hx
    obtain ⟨h1, ⟨blk, b1, b2⟩, h3, h4, h5⟩ := h
    obtain ⟨blk', c1, c2, _⟩ := hH b blk b1
    exact ⟨h1, ⟨blk', c1, by omega⟩, h3, h4, trivial⟩
   ·exact ⟨h.1, trivial⟩
 ·rename_i off size ag x
  simp only [step1] at h
  refine ⟨?_, fun env' H2 h2 hr hH => ?_⟩
  ·split at h
   ·first | exact h.2.symm | exact h.2.2.symm | exact h.2.2.2.symm
   ·first | exact h.2.2.2.symm | exact h.2.symm | exact h.2.2.symm
   ·exact h.elim
  ·simp only [step1]
   rw [ev_eq (S := S) (x := x) hr]
   split at h
   ·exact ⟨h.1, trivial⟩
   ·rename_i b n i o hx
    obtain ⟨h1, h3, ⟨blk, b1, b2⟩, h4⟩ := h
    obtain ⟨blk', c1, c2, _⟩ := hH b blk b1
    exact ⟨h1, h3, ⟨blk', c1, by omega⟩, trivial⟩
   ·exact h.elim
 ·rename_i es x i
  simp only [step1] at h
  refine ⟨?_, fun env' H2 h2 hr hH => ?_⟩
  ·split at h
   ·exact h.2.2.symm
   ·exact h.2.2.2.2.2.symm
   ·exact h.2.2.2.2.2.2.symm
   ·exact h.elim
  ·simp only [AOp.reads, List.mem_append] at hr
   simp only [step1]
   rw [ev_eq (S := S) (x := x) fun s hs => hr s (.inl hs), ev_eq (S := S) (x := i) fun s hs => hr s (.inr hs)]
   split at h
   ·rename_i xs k j q1 q2
    exact ⟨h.1, h.2.1, trivial⟩
   ·rename_i b n k j q1 q2
    obtain ⟨h1, h3, h4, ⟨blk, b1, b2, b3⟩, h5, h6⟩ := h
    obtain ⟨blk', c1, c2, c3⟩ := hH b blk b1
    exact ⟨h1, h3, h4, ⟨blk', c1, by omega, by omega⟩, h5, trivial⟩
   ·rename_i b n off len k j q1 q2
    obtain ⟨h1, h3, h4, h5, ⟨blk, b1, b2, b3⟩, h6, h7⟩ := h
    obtain ⟨blk', c1, c2, c3⟩ := hH b blk b1
    exact ⟨h1, h3, h4, h5, ⟨blk', c1, by omega, by omega⟩, h6, trivial⟩
   ·exact h.elim
theorem gstep_shp {P : Program} {i : Nat} {it : It} {S S' : St} (ho : it.op.isShp = true) (h : gstep P true i it S S') :
  ∃ v, S' = S.put it.dst v S.H ∧ ∀ env' H2 h2, (∀ s ∈ it.reads, env' s = S.env s) → SameShape S.H H2 → gstep P true i it ⟨env', H2, S.nx, h2⟩ (St.put ⟨env', H2, S.nx, h2⟩ it.dst v H2) := by
 have hcls : it.op.cls ≤ 2 := by cases hop : it.op <;> rw [hop] at ho <;> simp [AOp.isShp] at ho <;> simp [AOp.cls]
 have key : ∀ v S1, stepG P true (S.nx + i) it.op S v S1 → S' = S1.set it.dst v → S' = S.put it.dst v S.H ∧ ∀ env' H2 h2, (∀ s ∈ it.reads, env' s = S.env s) → SameShape S.H H2 →
   ∃ S2, stepG P true (S.nx + i) it.op ⟨env', H2, S.nx, h2⟩ v S2 ∧ St.put ⟨env', H2, S.nx, h2⟩ it.dst v H2 = S2.set it.dst v := fun v S1 h1 h2 => by
  obtain ⟨H, h3, rfl⟩ := stepG_to1 (by omega) h1
  obtain ⟨rfl, h4⟩ := shp_move ho h3
  refine ⟨by rw [h2]; cases it.dst <;> rfl, fun env' H2 h2 hr hH => ?_⟩
  have h5 := h4 env' H2 h2 (fun s hs => hr s (It.reads_op hs)) hH
  exact ⟨_, stepG_of1 h5, by cases it.dst <;> rfl⟩
 unfold gstep at h
 split at h
 ·rename_i hg
  obtain ⟨v, S1, h1, h2⟩ := h
  obtain ⟨h3, h4⟩ := key v S1 h1 h2
  refine ⟨v, h3, fun env' H2 h2 hr hH => ?_⟩
  unfold gstep
  rw [hg]
  obtain ⟨S2, h5, h6⟩ := h4 env' H2 h2 hr hH
  exact ⟨v, S2, h5, h6⟩
 ·rename_i s want hg
  have hs : s ∈ it.reads := by simp [It.reads, hg]
  split at h
  ·rename_i b hb
   split at h
   ·rename_i hbw
    obtain ⟨v, S1, h1, h2⟩ := h
    obtain ⟨h3, h4⟩ := key v S1 h1 h2
    refine ⟨v, h3, fun env' H2 h2 hr hH => ?_⟩
    unfold gstep
    rw [hg]
    have := hr s hs
    simp only [this, hb, hbw, if_true]
    obtain ⟨S2, h5, h6⟩ := h4 env' H2 h2 hr hH
    exact ⟨v, S2, h5, h6⟩
   ·rename_i hbw
    subst h
    refine ⟨.undef, rfl, fun env' H2 h2 hr hH => ?_⟩
    unfold gstep
    rw [hg]
    have := hr s hs
    simp only [this, hb, hbw, if_false]
  ·rename_i hb
   subst h
   refine ⟨.undef, rfl, fun env' H2 h2 hr hH => ?_⟩
   unfold gstep
   rw [hg]
   have := hr s hs
   simp only [this, hb]
  ·exact h.elim
theorem gstep_store_shape {P : Program} {j : Nat} {it : It} {S S' : St} {size : Nat} {p y : X} (ho : it.op = .store size p y) (h : gstep P true j it S S') : SameShape S.H S'.H := by
 have key : ∀ v S1, stepG P true (S.nx + j) it.op S v S1 → S' = S1.set it.dst v → SameShape S.H S'.H := fun v S1 h1 h2 => by
  rw [ho] at h1
  obtain ⟨H, h3, rfl⟩ := h1
  simp only [step1] at h3
  split at h3
  ·rename_i b n i off hx
   obtain ⟨_, _, blk, e, e', q1, q2, _, _, _, rfl⟩ := h3
   rw [h2, St.set, put_H]
   intro c blk2 hc
   by_cases hcb : c = b
   ·subst hcb
    rw [q1] at hc; cases hc
    exact ⟨_, Hp.upd_same _ _ _, by simp, rfl⟩
   ·exact ⟨blk2, (Hp.upd_ne _ _ hcb).trans hc, rfl, rfl⟩
  ·exact h3.elim
 unfold gstep at h
 split at h
 ·obtain ⟨v, S1, h1, h2⟩ := h
  exact key v S1 h1 h2
 ·split at h
  ·split at h
   ·obtain ⟨v, S1, h1, h2⟩ := h
    exact key v S1 h1 h2
   ·subst h; rw [put_H]; exact SameShape.refl _
  ·subst h; rw [put_H]; exact SameShape.refl _
  ·exact h.elim
def indep (p q : It) : Bool :=
 (match p.dst with | some d => !(q.reads.contains d) && decide (q.dst ≠ some d) | none => true) &&
 (match q.dst with | some d => !(p.reads.contains d) | none => true) &&
 ((decide (p.op.cls ≤ 2) && decide (q.op.cls ≤ 2)) || decide (p.op.cls = 0) || decide (q.op.cls = 0) || late p.op q.op || shp p.op q.op)

theorem zdy {S : St} {d : Option Nat} {v : V} {H : Hp} {l : List Nat} (h : ∀ e, d = some e → e ∉ l) : ∀ s ∈ l, (S.put d v H).env s = S.env s := by
 intro s hs
 cases d with
 | none => rfl
 | some e =>
  have : s ≠ e := fun he => h e rfl (he ▸ hs)
  simp [St.put, upd, this]
theorem put_comm {env : Nat → V} {H : Hp} {nx hi : Nat} {d e : Option Nat} {u v : V} {H1 H2 H3 : Hp} (h : ∀ a, d = some a → e ≠ some a) :
  St.put (St.put ⟨env, H, nx, hi⟩ d u H1) e v H2 = St.put (St.put ⟨env, H, nx, hi⟩ e v H3) d u H2 := by
 cases d <;> cases e <;> simp only [St.put]
 rename_i a b
 have hab : b ≠ a := fun he => h a rfl (by rw [he])
 congr 1
 funext s
 unfold upd
 by_cases h1 : s = a <;> by_cases h2 : s = b <;> simp_all
theorem put_to {S : St} {d : Option Nat} {v : V} {H : Hp} {h : Nat} : (S.put d v H).to h = (S.to h).put d v H := by cases d <;> rfl

theorem swap {P : Program} {i j : Nat} {p q : It} {S S1 S2 : St} (hij : i ≠ j) (hi : indep p q = true) (h1 : gstep P true i p S S1) (h2 : gstep P true j q S1 S2) :
  ∃ S1', gstep P true j q S S1' ∧ gstep P true i p S1' S2 := by
 simp only [indep, Bool.and_eq_true, Bool.or_eq_true, decide_eq_true_eq] at hi
 obtain ⟨⟨ha, hb⟩, hc⟩ := hi
 have hpq : ∀ e, p.dst = some e → e ∉ q.reads := fun e he => by rw [he] at ha; simp at ha; simpa using ha.1
 have hqp : ∀ e, q.dst = some e → e ∉ p.reads := fun e he => by rw [he] at hb; simpa using hb
 have hdd : ∀ a, p.dst = some a → q.dst ≠ some a := fun e he => by rw [he] at ha; simp at ha; exact ha.2
 obtain ⟨env, H, nx, hi⟩ := S
 have key : (p.op.cls ≤ 2 ∧ q.op.cls ≤ 2) ∨ (p.op.cls = 0) ∨ (q.op.cls = 0) ∨ late p.op q.op = true ∨ shp p.op q.op = true := by
  rcases hc with (((hc | hc) | hc) | hc) | hc
  ·exact .inl hc
  ·exact .inr (.inl hc)
  ·exact .inr (.inr (.inl hc))
  ·exact .inr (.inr (.inr (.inl hc)))
  ·exact .inr (.inr (.inr (.inr hc)))
 rcases key with ⟨c1, c2⟩ | c1 | c2 | c3 | c4
 ·obtain ⟨v1, e1, rfl, m1⟩ := gstep_move c1 h1
  obtain ⟨v2, e2, rfl, m2⟩ := gstep_move c2 h2
  simp only [put_nx, put_H] at m2 ⊢
  have agree : ∀ (e : Option Blk) (k : Nat) (H : Hp) b, b < nx → app H (nx + k) e b = H b := fun e k H b hb => by
   cases e with
   | none => rfl
   | some x => exact Hp.upd_ne _ _ (by omega)
  have g2 := m2 env H hi (fun s hs => (zdy (S := ⟨env, H, nx, hi⟩) hpq s hs).symm) (.inr fun b hb => (agree e1 i H b hb).symm)
  refine ⟨_, g2, ?_⟩
  have g1 := m1 (St.put ⟨env, H, nx, hi⟩ q.dst v2 (app H (nx + j) e2)).env (app H (nx + j) e2) hi (zdy (S := ⟨env, H, nx, hi⟩) hqp) (.inr fun b hb => agree e2 j H b hb)
  have eS : (⟨(St.put ⟨env, H, nx, hi⟩ q.dst v2 (app H (nx + j) e2)).env, app H (nx + j) e2, nx, hi⟩ : St) = St.put ⟨env, H, nx, hi⟩ q.dst v2 (app H (nx + j) e2) := by
   cases q.dst <;> rfl
  simp only at g1
  rw [eS] at g1
  have eH : app (app H (nx + i) e1) (nx + j) e2 = app (app H (nx + j) e2) (nx + i) e1 := by
   cases e1 <;> cases e2 <;> simp only [app]
   funext c
   simp only [Hp.upd]
   by_cases h1 : c = nx + i <;> by_cases h2 : c = nx + j <;> simp_all <;> omega
  rw [put_comm (H3 := app H (nx + j) e2) hdd, eH]
  exact g1
 ·-- p asks no memory
  obtain ⟨v1, rfl, m1⟩ := gstep_pure c1 h1
  obtain ⟨v2, H2, h', rfl, m2⟩ := gstep_env h2
  simp only [put_nx, put_H, put_hi] at m2
  have g2 := m2 env (fun s hs => (zdy (S := ⟨env, H, nx, hi⟩) hpq s hs).symm)
  refine ⟨_, g2, ?_⟩
  have g1 := m1 (St.put ⟨env, H, nx, hi⟩ q.dst v2 H2).env H2 h' (zdy (S := ⟨env, H, nx, hi⟩) hqp)
  have eS : (⟨(St.put ⟨env, H, nx, hi⟩ q.dst v2 H2).env, H2, nx, h'⟩ : St) = (St.put ⟨env, H, nx, hi⟩ q.dst v2 H2).to h' := by
   cases q.dst <;> rfl
  simp only at g1
  rw [eS] at g1
  rw [put_comm (H3 := H2) hdd]
  rw [← put_to] at g1
  exact g1
 ·-- q asks no memory
  obtain ⟨v1, H1, h', rfl, m1⟩ := gstep_env h1
  obtain ⟨v2, rfl, m2⟩ := gstep_pure c2 h2
  have hnx : ((St.put ⟨env, H, nx, hi⟩ p.dst v1 H1).to h').nx = nx := by cases p.dst <;> rfl
  have hHH : ((St.put ⟨env, H, nx, hi⟩ p.dst v1 H1).to h').H = H1 := by cases p.dst <;> rfl
  have henv : ((St.put ⟨env, H, nx, hi⟩ p.dst v1 H1).to h').env = (St.put ⟨env, H, nx, hi⟩ p.dst v1 H1).env := rfl
  rw [hnx, henv] at m2
  rw [hHH]
  have g2 := m2 env H hi (fun s hs => (zdy (S := ⟨env, H, nx, hi⟩) hpq s hs).symm)
  refine ⟨_, g2, ?_⟩
  have g1 := m1 (St.put ⟨env, H, nx, hi⟩ q.dst v2 H).env (zdy (S := ⟨env, H, nx, hi⟩) hqp)
  have eS : (⟨(St.put ⟨env, H, nx, hi⟩ q.dst v2 H).env, H, nx, hi⟩ : St) = St.put ⟨env, H, nx, hi⟩ q.dst v2 H := by
   cases q.dst <;> rfl
  simp only at g1
  rw [eS] at g1
  have e2 : ((St.put ⟨env, H, nx, hi⟩ p.dst v1 H1).to h').put q.dst v2 H1 = (St.put (St.put ⟨env, H, nx, hi⟩ p.dst v1 H1) q.dst v2 H1).to h' := put_to.symm
  rw [e2, put_comm (H3 := H) hdd]
  exact g1
 ·-- p reads where q does not write
  obtain ⟨size, ag, x, av, size', s, y, o1, o2, hs⟩ := late_of c3
  obtain ⟨v1, rfl, m1⟩ := gstep_loadN o1 h1
  have hst := gstep_store o2 h2
  have hsq : s ∈ q.reads := It.reads_op (by rw [o2]; simp [AOp.reads, X.slots])
  have hse : (St.put ⟨env, H, nx, hi⟩ p.dst v1 H).env s = env s := zdy (S := ⟨env, H, nx, hi⟩) hpq s hsq
  obtain ⟨v2, H2, h', rfl, m2⟩ := gstep_env h2
  simp only [put_nx, put_H, put_hi] at m2
  have hHH : (((St.put ⟨env, H, nx, hi⟩ p.dst v1 H).put q.dst v2 H2).to h').H = H2 := by
   cases p.dst <;> cases q.dst <;> rfl
  rw [hHH, hse, put_H] at hst
  have g2 := m2 env (fun s hs => (zdy (S := ⟨env, H, nx, hi⟩) hpq s hs).symm)
  refine ⟨_, g2, ?_⟩
  have eS : (⟨(St.put ⟨env, H, nx, hi⟩ q.dst v2 H2).env, H2, nx, h'⟩ : St) = (St.put ⟨env, H, nx, hi⟩ q.dst v2 H2).to h' := by
   cases q.dst <;> rfl
  have g1 := m1 (St.put ⟨env, H, nx, hi⟩ q.dst v2 H2).env H2 h' (zdy (S := ⟨env, H, nx, hi⟩) hqp) (hst.imp id fun h => ⟨s, hs, h⟩)
  simp only at g1
  rw [eS] at g1
  rw [put_comm (H3 := H2) hdd]
  rw [← put_to] at g1
  exact g1
 ·-- p looks where something lies, q writes
  obtain ⟨o1, size', pp, y, o2⟩ := shp_of c4
  obtain ⟨v1, rfl, m1⟩ := gstep_shp o1 h1
  have hst := gstep_store_shape o2 h2
  obtain ⟨v2, H2, h', rfl, m2⟩ := gstep_env h2
  simp only [put_nx, put_H, put_hi] at m2
  have hHH : (((St.put ⟨env, H, nx, hi⟩ p.dst v1 H).put q.dst v2 H2).to h').H = H2 := by
   cases p.dst <;> cases q.dst <;> rfl
  rw [hHH, put_H] at hst
  have g2 := m2 env (fun s hs => (zdy (S := ⟨env, H, nx, hi⟩) hpq s hs).symm)
  refine ⟨_, g2, ?_⟩
  have eS : (⟨(St.put ⟨env, H, nx, hi⟩ q.dst v2 H2).env, H2, nx, h'⟩ : St) = (St.put ⟨env, H, nx, hi⟩ q.dst v2 H2).to h' := by
   cases q.dst <;> rfl
  have g1 := m1 (St.put ⟨env, H, nx, hi⟩ q.dst v2 H2).env H2 h' (zdy (S := ⟨env, H, nx, hi⟩) hqp) hst
  simp only at g1
  rw [eS] at g1
  rw [put_comm (H3 := H2) hdd]
  rw [← put_to] at g1
  exact g1

/-! ### The order -/
def dirs (o : Oper) : List Nat := o.after.toList.filterMap fun e => if Region.binds .any e then some e.on else none
def orOf (pr : List Nat) (l : List Nat) : Nat := l.foldr (fun j s => s ||| 2 ^ j ||| pr.getD j 0) 0
def prOf (ops : List Oper) : List Nat := ops.foldl (fun acc o => acc ++ [orOf acc (dirs o)]) []

theorem orOf_bit {pr : List Nat} {k : Nat} : ∀ {l : List Nat}, (orOf pr l).testBit k = true → ∃ j ∈ l, k = j ∨ (pr.getD j 0).testBit k = true
 | [], h => by simp [orOf] at h
 | j :: l, h => by
  simp only [orOf, List.foldr_cons, Nat.testBit_or, Bool.or_eq_true] at h
  rcases h with (h | h) | h
  ·obtain ⟨m, h1, h2⟩ := orOf_bit (l := l) h
   exact ⟨m, by simp [h1], h2⟩
  ·rw [Nat.testBit_two_pow] at h
   exact ⟨j, by simp, .inl (of_decide_eq_true h).symm⟩
  ·exact ⟨j, by simp, .inr h⟩

def ordOk (pr : List Nat) (ops : List Oper) (l : List It) : Bool :=
 (List.range ops.length).all fun i =>
  match ops[i]?, l[i]? with
  | some o, some it =>
   (dirs o).all (fun j => decide (j < i)) &&
   decide (pr.getD i 0 ||| orOf pr (dirs o) = orOf pr (dirs o)) &&
   (List.range i).all fun k => (pr.getD i 0).testBit k || (match l[k]? with | some it' => indep it' it | none => false)
  | _, _ => false

theorem ordOk_at {pr : List Nat} {ops : List Oper} {l : List It} (h : ordOk pr ops l = true) {i : Nat} {o : Oper} {it : It} (ho : ops[i]? = some o) (hi : l[i]? = some it) :
  (∀ j ∈ dirs o, j < i) ∧ (∀ k, (pr.getD i 0).testBit k = true → ∃ j ∈ dirs o, k = j ∨ (pr.getD j 0).testBit k = true) ∧
  ∀ k it', k < i → l[k]? = some it' → (pr.getD i 0).testBit k = true ∨ indep it' it = true := by
 have hlt : i < ops.length := (List.getElem?_eq_some_iff.1 ho).1
 have := List.all_eq_true.1 h i (List.mem_range.2 hlt)
 simp only [ho, hi, Bool.and_eq_true, List.all_eq_true, decide_eq_true_eq, List.mem_range, Bool.or_eq_true] at this
 obtain ⟨⟨h1, h2⟩, h3⟩ := this
 refine ⟨h1, fun k hk => ?_, fun k it' hk hit => ?_⟩
 ·apply orOf_bit
  rw [← h2, Nat.testBit_or, hk]; rfl
 ·have := h3 k hk
  rw [hit] at this
  exact this

theorem steps_front {P : Program} {x : Nat × It} : ∀ {pre post : List (Nat × It)} {S S' : St}, (∀ y ∈ pre, y.1 ≠ x.1 ∧ indep y.2 x.2 = true) → Steps' P true (pre ++ x :: post) S S' →
  ∃ S1, gstep P true x.1 x.2 S S1 ∧ Steps' P true (pre ++ post) S1 S'
 | [], post, S, S', _, h => h
 | y :: pre, post, S, S', hi, h => by
  obtain ⟨S1, h1, h2⟩ := h
  obtain ⟨S2, h3, h4⟩ := steps_front (fun z hz => hi z (by simp [hz])) h2
  obtain ⟨S1', h5, h6⟩ := swap (hi y (by simp)).1 (hi y (by simp)).2 h1 h3
  exact ⟨S1', h5, S2, h6, h4⟩

def pairs (l : List It) : List (Nat × It) := (List.range l.length).zip l
theorem pairs_at {l : List It} {i : Nat} : (pairs l)[i]? = (l[i]?).map fun it => (i, it) := by
 unfold pairs
 rw [List.zip_eq_zipWith, List.getElem?_zipWith]
 by_cases h : i < l.length
 ·simp [h]
 ·simp [h]
theorem pairs_length {l : List It} : (pairs l).length = l.length := by simp [pairs]
theorem pairs_mem {l : List It} {p : Nat × It} (h : p ∈ pairs l) : l[p.1]? = some p.2 := by
 obtain ⟨i, hi⟩ := List.mem_iff_getElem?.1 h
 rw [pairs_at] at hi
 cases hl : l[i]? with
 | none => simp [hl] at hi
 | some it => simp [hl] at hi; subst hi; exact hl
def rem (l : List It) (listed : Array Bool) : List (Nat × It) := (pairs l).filter fun p => !listed.getD p.1 true

theorem pairs_split {l : List It} {i : Nat} {it : It} (h : l[i]? = some it) : ∃ A B, pairs l = A ++ (i, it) :: B ∧ (∀ p ∈ A, p.1 < i) ∧ ∀ p ∈ B, i < p.1 := by
 have hi : i < (pairs l).length := by rw [pairs_length]; exact (List.getElem?_eq_some_iff.1 h).1
 have hat : (pairs l)[i]? = some (i, it) := by rw [pairs_at, h]; rfl
 refine ⟨(pairs l).take i, (pairs l).drop (i + 1), ?_, fun p hp => ?_, fun p hp => ?_⟩
 ·have : (pairs l)[i] = (i, it) := (List.getElem?_eq_some_iff.1 hat).2
  rw [← this, List.getElem_cons_drop hi, List.take_append_drop]
 ·obtain ⟨j, hj⟩ := List.mem_iff_getElem?.1 hp
  rw [List.getElem?_take] at hj
  split at hj
  ·rename_i hji
   rw [pairs_at] at hj
   cases hl : l[j]? with
   | none => simp [hl] at hj
   | some it => simp [hl] at hj; subst hj; exact hji
  ·cases hj
 ·obtain ⟨j, hj⟩ := List.mem_iff_getElem?.1 hp
  rw [List.getElem?_drop, pairs_at] at hj
  cases hl : l[i + 1 + j]? with
  | none => simp [hl] at hj
  | some it => simp [hl] at hj; subst hj; show i < i + 1 + j; omega

theorem any_sound {P : Program} {C : Ctx} {ops : Array Oper} {l : List It} {pr : List Nat} {Q : Exit → Act → World → Prop} (hlen : ops.size = l.length) (hm : ∀ (i : Nat) (o : Oper) (it : It), ops[i]? = some o → l[i]? = some it → mIt P C.n ops o it = true)
  (hord : ordOk pr ops.toList l = true) : ∀ (fuel : Nat) (listed : Array Bool) (S S' : St) (φ : Nat → Option Nat) (M : Nat → Prop) (a : Act) (w : World), listed.size = ops.size → (rem l listed).length = fuel →
   (∀ i, listed.getD i false = true → ∀ k, (pr.getD i 0).testBit k = true → listed.getD k false = true) → Steps' P true (rem l listed) S S' → S.nx + l.length ≤ S.hi → Rel C (DD (fun i => listed.getD i false = true) l.length S) S φ M a w →
   (∀ D φ' M' a' w', (∀ j, D j → j < l.length) → S'.nx + l.length ≤ S'.hi → Rel C (DD D l.length S') S' φ' M' a' w' → Q .normal a' w') → wpAny P .any ops Q fuel listed a w := by
 intro fuel
 have hget : ∀ (listed : Array Bool) j, listed.size = ops.size → j < l.length → listed.getD j true = listed.getD j false := fun listed j hs hj => by
  simp [Array.getD, show j < listed.size by omega]
 have hunl : ∀ (listed : Array Bool) (p : Nat × It), p ∈ rem l listed → l[p.1]? = some p.2 ∧ p.1 < l.length ∧ listed.getD p.1 true = false := fun listed p hp => by
  obtain ⟨h1, h2⟩ := List.mem_filter.1 hp
  have := pairs_mem h1
  exact ⟨this, (List.getElem?_eq_some_iff.1 this).1, by simpa using h2⟩
 have hdone : ∀ (listed : Array Bool) S S' φ M a w, S.nx + l.length ≤ S.hi → Rel C (DD (fun i => listed.getD i false = true) l.length S) S φ M a w → listed.size = ops.size → rem l listed = [] → Steps' P true (rem l listed) S S' → 
   (∀ D φ' M' a' w', (∀ j, D j → j < l.length) → S'.nx + l.length ≤ S'.hi → Rel C (DD D l.length S') S' φ' M' a' w' → Q .normal a' w') → Q .normal a w := fun listed S S' φ M a w hhi hR hs h hst hQ => by
  rw [h] at hst
  have hst : S = S' := hst
  subst hst
  refine hQ _ φ M a w (fun j hj => ?_) hhi hR
  by_cases hjl : j < listed.size
  ·omega
  ·simp [Array.getD, hjl] at hj
 induction fuel with
 | zero =>
  intro listed S S' φ M a w hs hf hcl hst hhi hR hQ
  have hnil : rem l listed = [] := by simpa using hf
  refine ⟨?_, hdone listed S S' φ M a w hhi hR hs hnil hst hQ⟩
  rw [List.eq_nil_iff_forall_not_mem]
  intro i hi
  rw [mem_ready] at hi
  obtain ⟨h1, o, h2, _⟩ := hi
  have hil : i < l.length := by rw [← hlen]; exact (Array.getElem?_eq_some_iff.1 h2).1
  have : (i, l[i]) ∈ rem l listed := List.mem_filter.2 ⟨List.mem_iff_getElem?.2 ⟨i, by rw [pairs_at]; simp [hil]⟩, by simp [h1]⟩
  rw [hnil] at this; cases this
 | succ n ih =>
  intro listed S S' φ M a w hs hf hcl hst hhi hR hQ
  refine ⟨fun hr => ?_, fun i hi => ?_⟩
  ·-- none is ready: then none is left
   refine hdone listed S S' φ M a w hhi hR hs ?_ hst hQ
   cases hrem : rem l listed with
   | nil => rfl
   | cons p t =>
    exfalso
    obtain ⟨q1, q2, q3⟩ := hunl listed p (by rw [hrem]; simp)
    have hpo : p.1 < ops.size := by omega
    have : p.1 ∈ Region.ready .any ops listed := by
     rw [mem_ready]
     refine ⟨q3, ops[p.1], by simp [hpo], fun e he hb => ?_⟩
     have hdir : e.on ∈ dirs ops[p.1] := List.mem_filterMap.2 ⟨e, by simpa using he, by simp [hb]⟩
     have hlt := (ordOk_at hord (i := p.1) (o := ops[p.1]) (by simp [hpo]) q1).1 _ hdir
     have hel : e.on < l.length := by omega
     cases hle : listed.getD e.on false with
     | true => rfl
     | false =>
      exfalso
      obtain ⟨A, B, hAB, hA, hB⟩ := pairs_split q1
      have hmem : (e.on, l[e.on]) ∈ rem l listed := List.mem_filter.2 ⟨List.mem_iff_getElem?.2 ⟨e.on, by rw [pairs_at]; simp [hel]⟩, by rw [hget listed e.on hs hel, hle]; rfl⟩
      have hmemA : (e.on, l[e.on]) ∈ A := by
       have := (List.mem_filter.1 hmem).1
       rw [hAB] at this
       rcases List.mem_append.1 this with h | h
       ·exact h
       ·rcases List.mem_cons.1 h with h | h
        ·have := congrArg Prod.fst h; simp at this; omega
        ·have := hB _ h; simp at this; omega
      unfold rem at hrem
      rw [hAB, List.filter_append, List.filter_cons] at hrem
      have hfA : (e.on, l[e.on]) ∈ A.filter (fun p => !listed.getD p.1 true) := List.mem_filter.2 ⟨hmemA, (List.mem_filter.1 hmem).2⟩
      cases hAf : A.filter (fun p => !listed.getD p.1 true) with
      | nil => rw [hAf] at hfA; cases hfA
      | cons y ys =>
       rw [hAf] at hrem
       have hy : y = p := by simpa using (List.cons.inj hrem).1
       have : y ∈ A := (List.mem_filter.1 (by rw [hAf]; simp : y ∈ A.filter _)).1
       have := hA y this
       rw [hy] at this; omega
    rw [hr] at this; cases this
  ·-- i is taken next
   have hi' := hi
   rw [mem_ready] at hi'
   obtain ⟨h1, o, h2, h3⟩ := hi'
   have hio : i < ops.size := (Array.getElem?_eq_some_iff.1 h2).1
   have hil : i < l.length := by omega
   have hit : l[i]? = some l[i] := by simp [hil]
   obtain ⟨A, B, hAB, hA, hB⟩ := pairs_split hit
   have hrem : rem l listed = A.filter (fun p => !listed.getD p.1 true) ++ (i, l[i]) :: B.filter (fun p => !listed.getD p.1 true) := by
    unfold rem
    rw [hAB, List.filter_append, List.filter_cons]
    simp [h1]
   have hset : ∀ j, j ≠ i → (listed.setIfInBounds i true).getD j true = listed.getD j true := fun j hj => getD_set_ne true (Ne.symm hj)
   have hrem' : rem l (listed.setIfInBounds i true) = A.filter (fun p => !listed.getD p.1 true) ++ B.filter (fun p => !listed.getD p.1 true) := by
    unfold rem
    rw [hAB, List.filter_append, List.filter_cons]
    have hself : (listed.setIfInBounds i true).getD i true = true := by simp [Array.getD, hs, hio]
    rw [if_neg (by simp [hself])]
    congr 1
    ·exact List.filter_congr fun p hp => by rw [hset p.1 (by have := hA p hp; omega)]
    ·exact List.filter_congr fun p hp => by rw [hset p.1 (by have := hB p hp; omega)]
   obtain ⟨hd1, hd2, hd3⟩ := ordOk_at hord (i := i) (o := o) (by simpa using h2) hit
   have hdl : ∀ j ∈ dirs o, listed.getD j false = true := fun j hj => by
    obtain ⟨e, he1, he2⟩ := List.mem_filterMap.1 hj
    by_cases hb : Region.binds .any e = true
    ·simp [hb] at he2; subst he2
     exact h3 e (by simpa using he1) hb
    ·simp [hb] at he2
   rw [hrem] at hst
   obtain ⟨S1, hg, hst'⟩ := steps_front (fun y hy => by
    obtain ⟨hy1, hy2⟩ := List.mem_filter.1 hy
    have hlt := hA y hy1
    have hyl := pairs_mem (l := l) (p := y) (by rw [hAB]; simp [hy1])
    refine ⟨by show y.1 ≠ i; omega, ?_⟩
    rcases hd3 y.1 y.2 hlt hyl with hb | hb
    ·exfalso
     obtain ⟨j, hj1, hj2⟩ := hd2 _ hb
     have hyd : listed.getD y.1 false = true := by
      rcases hj2 with rfl | hj2
      ·exact hdl _ hj1
      ·exact hcl j (hdl j hj1) _ hj2
     rw [hget listed y.1 hs (by omega), hyd] at hy2
     cases hy2
    ·exact hb) hst
   have hnot : ¬ listed.getD i false = true := by rw [← hget listed i hs hil, h1]; simp
   obtain ⟨n1, n2⟩ := gstep_nx hg
   refine gstep_sound h2 (hm i o _ h2 hit) hR hnot hil (fun j hj => ?_) hhi hg fun φ' M' a' w' hR' => ?_
   ·have hj' : listed.getD j false = true := hj
    by_cases hjl : j < listed.size
    ·omega
    ·simp [Array.getD, hjl] at hj'
   have hD : (fun j => listed.getD j false = true ∨ j = i) = fun j => (listed.setIfInBounds i true).getD j false = true := by
    funext j
    by_cases hji : j = i
    ·subst hji; simp [Array.getD, hs, hio]
    ·rw [getD_set_ne false (Ne.symm hji)]; simp [hji]
   rw [hD] at hR'
   refine ih _ S1 S' φ' M' a' w' (by simpa using hs) ?_ (fun j hj k hk => ?_) (by rw [hrem']; exact hst') (by omega) hR' hQ
   ·rw [hrem']
    rw [hrem] at hf
    simp at hf ⊢; omega
   ·by_cases hji : j = i
    ·subst hji
     obtain ⟨m, hm1, hm2⟩ := hd2 _ hk
     refine getD_set_true ?_
     rcases hm2 with rfl | hm2
     ·exact hdl _ hm1
     ·exact hcl m (hdl m hm1) _ hm2
    ·rw [getD_set_ne false (Ne.symm hji)] at hj
     exact getD_set_true (hcl j hj k hk)
end Go.Gim

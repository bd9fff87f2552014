import Derived.Test.YtjmbcnfhonfpkaaGreatDoorF10
/- A function's contract out of what holds of its code. -/
set_option linter.unusedVariables false
set_option linter.unusedSimpArgs false
namespace Go.Gim
open Go.RowKit

/-! ### Results -/
def mRes (P : Program) : List ResultVar → List RX → Bool
 | [], [] => true
 | .tmp t :: l, (s, none) :: m => t == s && mRes P l m
 | .cell t ty :: l, (s, some (size, ag)) :: m => t == s && tySz P ty size && tyAg P ty ag && mRes P l m
 | _, _ => false

def resOf (tmps : Array Value) : ResultVar → Sem Value
 | .tmp t => pure (tmps.getD t Go.undef)
 | .cell a t => do loadVar t (← asAddr (tmps.getD a Go.undef))
theorem results_eq (fn : Func) (tmps : Array Value) : results fn tmps = (do let vs ← fn.results.mapM (resOf tmps); pure (if h : vs.size = 1 then vs[0] else .tuple vs) : Sem Value) := by
 unfold results
 congr 1

theorem res_sound {P : Program} {C : Ctx} {D : Nat → Prop} {S : St} {φ : Nat → Option Nat} {M : Nat → Prop} {a : Act} {w : World} (hR : Rel C D S φ M a w) :
  ∀ {l : List ResultVar} {m : List RX} {vs : List V}, mRes P l m = true → allOf (fun x => (resV S x).bind (frz S.H 8)) m = some vs → (hG : ∀ g, ¬ C.G g) →
   ∃ xs : List Value, (l.mapM (resOf a.tmps)).run P w = .ok xs w ∧ xs.length = vs.length ∧
    ∀ i, i < vs.length → Pur C.M0 w (vs.getD i .junk) (xs.getD i Go.undef)
 | [], [], vs, _, h, _ => by
  simp [allOf] at h; subst h
  exact ⟨[], by simp, rfl, fun i hi => by simp at hi⟩
 | rv :: l, x :: m, vs, hm, h, hG => by
  simp only [allOf] at h
  split at h
  ·rename_i r rs h1 h2
   simp at h; subst h
   have hm2 : mRes P l m = true := by
    obtain ⟨s, o⟩ := x
    cases rv <;> cases o <;> simp only [mRes, Bool.and_eq_true, reduceCtorEq] at hm
    ·exact hm.2
    ·exact hm.2
   obtain ⟨xs, e1, e2, e3⟩ := res_sound hR hm2 h2 hG
   simp only [Option.bind_eq_some_iff] at h1
   obtain ⟨u, hu, hf⟩ := h1
   have fin : ∀ y, Sim φ M w S.H (used C S.nx D) u y → Pur C.M0 w r y := fun y hy => frz_sound hR.hp (fun g hg => hR.M2 g hg (hG g)) (fun b g hb hg hM => by
    rcases hR.loc b g hb hg with h | h
    ·exact hG g h
    ·have := hR.M0b g hM; omega) 8 u r y hf hy
   obtain ⟨y, hy1, hy2⟩ : ∃ y, (resOf a.tmps rv).run P w = .ok y w ∧ Sim φ M w S.H (used C S.nx D) u y := by
    obtain ⟨s, o⟩ := x
    cases rv with
    | tmp t =>
     cases o with
     | none =>
      simp only [mRes, Bool.and_eq_true, beq_iff_eq] at hm
      obtain ⟨rfl, _⟩ := hm
      simp [resV] at hu; subst hu
      exact ⟨_, rfl, hR.env t⟩
     | some q => simp [mRes] at hm
    | cell t ty =>
     cases o with
     | none => simp [mRes] at hm
     | some q =>
      obtain ⟨size, ag⟩ := q
      simp only [mRes, Bool.and_eq_true, beq_iff_eq] at hm
      obtain ⟨⟨⟨rfl, t1⟩, t2⟩, _⟩ := hm
      have e := hR.env t
      simp only [resV] at hu
      split at hu
      ·rename_i v hx
       rw [hx] at e
       obtain ⟨ad, arr, ty', fr, hxe, g1, g2, g3, g4, g5⟩ : ∃ ad arr ty' fr, a.tmps.getD t Go.undef = .pointer (some ad) ∧ ad.spot = none ∧ w.heap[ad.block]? = some (.cells arr ty' fr) ∧ ¬ M ad.block ∧ ad.off + v.cells.length ≤ arr.size ∧
         ∀ j, j < v.cells.length → Pur M w (v.cells.getD j .junk) (arr.getD (ad.off + j) Go.undef) := by
        generalize a.tmps.getD t Go.undef = y at e
        cases e with
        | pur h => cases h with | pp v ad arr ty' fr hs hb hm hin hc => exact ⟨ad, arr, ty', fr, rfl, hs, hb, hm, hin, hc⟩
       obtain ⟨q1, q2, q3⟩ := zhd (φ := φ) (M := M) (U := used C S.nx D) (w := w) (H := S.H) hu t1 t2 (arr := arr) (k := ad.off) g4 (fun j hj => .pur (g5 j hj))
       refine ⟨_, ?_, q1⟩
       simp only [resOf, hxe, asAddr, Sem.run_bind, Sem.run_pure, Result.andThen_ok]
       rw [zfr t1 t2 (c := fun j => arr.getD (ad.off + j) Go.undef) (fun j hj => by rw [zhr g1 g2]; exact zdu (by omega)) q3]
       rfl
      ·rename_i b n i off hx
       rw [hx] at e
       split at hu
       ·rename_i blk k1
        split at hu
        ·rename_i k2
         split at hu
         ·rename_i el k3
          obtain ⟨g, arr, ty', p1, p2, p3, p4, p5, p6, p7, p8⟩ := zib hR.hp e k1 k2 k3
          have hrow : i * blk.size + el.cells.length ≤ arr.size := by
           rw [p4]
           have : (i + 1) * blk.size ≤ blk.elems.length * blk.size := Nat.mul_le_mul_right _ (by omega)
           rw [Nat.add_mul, Nat.one_mul] at this; omega
          obtain ⟨q1, q2, q3⟩ := zhd hu t1 t2 (arr := arr) (k := i * blk.size) hrow (fun j hj => p7 j (by omega))
          refine ⟨_, ?_, q1⟩
          simp only [resOf, p2, asAddr, Sem.run_bind, Sem.run_pure, Result.andThen_ok]
          rw [zfr t1 t2 (c := fun j => arr.getD (i * blk.size + off + j) Go.undef) (fun j hj => by rw [zhr (ad := ⟨g, i * blk.size + off, none⟩) rfl p3]; exact zdu (by show i * blk.size + off + j < _; omega)) q3]
         ·cases hu
        ·cases hu
       ·cases hu
      ·cases hu
   refine ⟨y :: xs, ?_, by simp [e2], fun i hi => ?_⟩
   ·simp only [List.mapM_cons, Sem.run_bind, hy1, Result.andThen_ok, e1, Sem.run_pure]
   ·cases i with
    | zero => simpa using fin y hy2
    | succ i => simpa using e3 i (by simpa using hi)
  ·cases h
 | [], x :: m, vs, hm, _, _ => by simp [mRes] at hm
 | rv :: l, [], vs, hm, _, _ => by cases rv <;> simp [mRes] at hm

theorem E_args : ∀ (l : List V) (k s : Nat), E (argsE k l) s = if k ≤ s ∧ s < k + l.length then l.getD (s - k) .junk else .junk
 | [], k, s => by simp [argsE, E]
 | v :: l, k, s => by
  simp only [argsE, E, List.length_cons]
  rw [E_args l (k + 1) s]
  by_cases h : s = k
  ·subst h; simp
  ·rw [if_neg h]
   by_cases h2 : k + 1 ≤ s ∧ s < k + 1 + l.length
   ·rw [if_pos h2, if_pos (by omega)]
    obtain ⟨m, rfl⟩ : ∃ m, s = k + 1 + m := ⟨s - (k + 1), by omega⟩
    rw [show k + 1 + m - (k + 1) = m by omega, show k + 1 + m - k = m + 1 by omega]
    simp
   ·rw [if_neg h2, if_neg (by omega)]


def done (res : List RX) (r : V) : AX → St → Prop
 | .exit _, _ => False
 | _, S => Fin res S r

theorem Ret_of_body {P : Program} {f : Nat} {fn : Func} {c : Code} {k : K} {res : List RX} {args : List V} {r : V} (hf : P.funcs[f]? = some fn) (hb : fn.body = some c) (hname : (fn.name == "runtime.NumGoroutine") = false)
  (hm : mK P fn.ntmps k c = true) (hres : mRes P fn.results.toList res = true) (hn : args.length ≤ fn.ntmps)
  (hW : W P k (done res r) (start args)) : Ret P f args r := by
 refine ⟨fun vals w => by
  have hne : ¬ (fn.name == "runtime.NumGoroutine") = true := by rw [hname]; simp
  simp only [callFunc, Sem.run_bind, run_program, Result.andThen_ok, hf]
  rw [if_neg hne, if_neg (by simp [hb])]
  rfl, fun M w vals Mb hgl hs ha => ?_⟩
 refine calls_of_wp hf hb ?_
 let C : Ctx := ⟨w, M, fun _ => False, fn.ntmps, fun _ => none, fun _ => none, fun _ => False, 0, fun _ h => h.elim⟩
 have hR : Rel C (fun _ => False) (start args) (fun _ => none) M { tmps := vals ++ Array.replicate (fn.ntmps - vals.size) Go.undef, defers := [] } w := by
  refine { tmps := ?_, defers := rfl, gl := hgl, co := Carry.refl _ _ _ _ _ _ (fun _ h => h.elim), n0 := Nat.le_refl _, env := fun s => ?_, hp := ⟨fun b x hx => (by cases hx), fun b c g hb => absurd rfl hb⟩, Mb := Mb, M0b := Mb, M1 := fun g hg => .inl hg, M2 := fun g hg _ => hg, os := rfl, tape := rfl, output := rfl, size := Nat.le_refl _, old := fun _ _ _ => rfl, loc := fun b g hb => absurd rfl hb }
  ·simp [C]; omega
  ·show Sim _ _ _ _ _ (E (argsE 0 args) s) _
   rw [E_args]
   split
   ·rename_i hlt
    have := ha s (by omega)
    rw [Nat.sub_zero]
    refine .pur ?_
    simpa [Array.getD_eq_getD_getElem?, Array.getElem?_append_left (show s < vals.size by omega)] using this
   ·exact .pur (.junk _)
 refine wp_mono (W_sound (C := C) k c _ (start args) _ M _ w hm hW hR) fun e a w' h => ?_
 obtain ⟨e', S, φ, M', h1, h2, h3⟩ := h
 have key : Fin res S r → a.defers = [] ∧ ∃ v, (results fn a.tmps).run P w' = .ok v w' ∧ ∃ x, Ending.returned v = .returned x ∧ Pur M w' r x ∧ Below w.heap.size w w' := by
  rintro ⟨vs, f1, f2⟩
  refine ⟨h3.defers, ?_⟩
  obtain ⟨xs, e1, e2, e3⟩ := res_sound h3 hres f1 (fun g h => h)
  have hb : Below w.heap.size w w' := ⟨h3.os, h3.tape, h3.output, h3.size, fun g hg => h3.old g hg (fun h => h)⟩
  have hrun : (fn.results.mapM (resOf a.tmps)).run P w' = .ok xs.toArray w' := by
   have : fn.results = fn.results.toList.toArray := by simp
   rw [this, List.mapM_toArray, Sem.run_map, e1]
   rfl
  rw [results_eq]
  simp only [Sem.run_bind]
  rw [hrun]
  simp only [Result.andThen_ok, Sem.run_pure]
  refine ⟨_, rfl, _, rfl, ?_, hb⟩
  subst f2
  cases vs with
  | nil =>
   have : xs = [] := by simpa using e2
   subst this
   exact .tup [] #[] rfl fun i hi => by simp at hi
  | cons v vs =>
   cases vs with
   | nil =>
    obtain ⟨x, rfl⟩ : ∃ x, xs = [x] := by
     cases xs with
     | nil => simp at e2
     | cons x xs => simp at e2; subst e2; exact ⟨x, rfl⟩
    simpa [one] using e3 0 (by simp)
   | cons v2 vs =>
    have hne : ¬ xs.toArray.size = 1 := by simp [e2]
    rw [dif_neg hne]
    exact .tup _ _ (by simp [e2]) fun i hi => by
     have := e3 i hi
     simpa [Array.getD_eq_getD_getElem?, List.getD_eq_getElem?_getD] using this
 cases e <;> cases e' <;> simp only [exM] at h1
 ·exact key h2
 ·exact h2.elim
 ·exact key h2
def doneG (res : List RX) (Q : V → Hp → Nat → Prop) : AX → St → Prop
 | .exit _, _ => False
 | _, S => FinG res S Q
theorem resG_sound {P : Program} {C : Ctx} {D : Nat → Prop} {S : St} {φ : Nat → Option Nat} {M : Nat → Prop} {a : Act} {w : World} (hR : Rel C D S φ M a w) :
  ∀ {l : List ResultVar} {m : List RX} {vs : List V}, mRes P l m = true → allOf (resV S) m = some vs →
   ∃ xs : List Value, (l.mapM (resOf a.tmps)).run P w = .ok xs w ∧ xs.length = vs.length ∧
    ∀ i, i < vs.length → Sim φ M w S.H (used C S.nx D) (vs.getD i .junk) (xs.getD i Go.undef)
 | [], [], vs, _, h => by
  simp [allOf] at h; subst h
  exact ⟨[], by simp, rfl, fun i hi => by simp at hi⟩
 | rv :: l, x :: m, vs, hm, h => by
  simp only [allOf] at h
  split at h
  ·rename_i u rs hu h2
   simp at h; subst h
   have hm2 : mRes P l m = true := by
    obtain ⟨s, o⟩ := x
    cases rv <;> cases o <;> simp only [mRes, Bool.and_eq_true, reduceCtorEq] at hm
    ·exact hm.2
    ·exact hm.2
   obtain ⟨xs, e1, e2, e3⟩ := resG_sound hR hm2 h2
   obtain ⟨y, hy1, hy2⟩ : ∃ y, (resOf a.tmps rv).run P w = .ok y w ∧ Sim φ M w S.H (used C S.nx D) u y := by
    obtain ⟨s, o⟩ := x
    cases rv with
    | tmp t =>
     cases o with
     | none =>
      simp only [mRes, Bool.and_eq_true, beq_iff_eq] at hm
      obtain ⟨rfl, _⟩ := hm
      simp [resV] at hu; subst hu
      exact ⟨_, rfl, hR.env t⟩
     | some q => simp [mRes] at hm
    | cell t ty =>
     cases o with
     | none => simp [mRes] at hm
     | some q =>
      obtain ⟨size, ag⟩ := q
      simp only [mRes, Bool.and_eq_true, beq_iff_eq] at hm
      obtain ⟨⟨⟨rfl, t1⟩, t2⟩, _⟩ := hm
      have e := hR.env t
      simp only [resV] at hu
      split at hu
      ·rename_i v hx
       rw [hx] at e
       obtain ⟨ad, arr, ty', fr, hxe, g1, g2, g3, g4, g5⟩ : ∃ ad arr ty' fr, a.tmps.getD t Go.undef = .pointer (some ad) ∧ ad.spot = none ∧ w.heap[ad.block]? = some (.cells arr ty' fr) ∧ ¬ M ad.block ∧ ad.off + v.cells.length ≤ arr.size ∧
         ∀ j, j < v.cells.length → Pur M w (v.cells.getD j .junk) (arr.getD (ad.off + j) Go.undef) := by
        generalize a.tmps.getD t Go.undef = y at e
        cases e with
        | pur h => cases h with | pp v ad arr ty' fr hs hb hm hin hc => exact ⟨ad, arr, ty', fr, rfl, hs, hb, hm, hin, hc⟩
       obtain ⟨q1, q2, q3⟩ := zhd (φ := φ) (M := M) (U := used C S.nx D) (w := w) (H := S.H) hu t1 t2 (arr := arr) (k := ad.off) g4 (fun j hj => .pur (g5 j hj))
       refine ⟨_, ?_, q1⟩
       simp only [resOf, hxe, asAddr, Sem.run_bind, Sem.run_pure, Result.andThen_ok]
       rw [zfr t1 t2 (c := fun j => arr.getD (ad.off + j) Go.undef) (fun j hj => by rw [zhr g1 g2]; exact zdu (by omega)) q3]
       rfl
      ·rename_i b n i off hx
       rw [hx] at e
       split at hu
       ·rename_i blk k1
        split at hu
        ·rename_i k2
         split at hu
         ·rename_i el k3
          obtain ⟨g, arr, ty', p1, p2, p3, p4, p5, p6, p7, p8⟩ := zib hR.hp e k1 k2 k3
          have hrow : i * blk.size + el.cells.length ≤ arr.size := by
           rw [p4]
           have : (i + 1) * blk.size ≤ blk.elems.length * blk.size := Nat.mul_le_mul_right _ (by omega)
           rw [Nat.add_mul, Nat.one_mul] at this; omega
          obtain ⟨q1, q2, q3⟩ := zhd hu t1 t2 (arr := arr) (k := i * blk.size) hrow (fun j hj => p7 j (by omega))
          refine ⟨_, ?_, q1⟩
          simp only [resOf, p2, asAddr, Sem.run_bind, Sem.run_pure, Result.andThen_ok]
          rw [zfr t1 t2 (c := fun j => arr.getD (i * blk.size + off + j) Go.undef) (fun j hj => by rw [zhr (ad := ⟨g, i * blk.size + off, none⟩) rfl p3]; exact zdu (by show i * blk.size + off + j < _; omega)) q3]
         ·cases hu
        ·cases hu
       ·cases hu
      ·cases hu
   refine ⟨y :: xs, ?_, by simp [e2], fun i hi => ?_⟩
   ·simp only [List.mapM_cons, Sem.run_bind, hy1, Result.andThen_ok, e1, Sem.run_pure]
   ·cases i with
    | zero => simpa using hy2
    | succ i => simpa using e3 i (by simpa using hi)
  ·cases h
 | [], x :: m, vs, hm, _ => by simp [mRes] at hm
 | rv :: l, [], vs, hm, _ => by cases rv <;> simp [mRes] at hm

theorem RetG_of_body {P : Program} {f : Nat} {fn : Func} {c : Code} {k : K} {res : List RX} {args : List V} {H : Hp} {n : Nat} {Q : V → Hp → Nat → Prop} (hf : P.funcs[f]? = some fn) (hb : fn.body = some c) (hname : (fn.name == "runtime.NumGoroutine") = false)
  (hm : mK P fn.ntmps k c = true) (hres : mRes P fn.results.toList res = true) (hn : args.length ≤ fn.ntmps)
  (hW : W P k (doneG res (fun r H' n' => n ≤ n' ∧ Q r H' n')) (startG args H n)) : ∃ r H' n', Q r H' n' ∧ RetG P f args H n r H' n' := by
 obtain ⟨e0, S0, hq, hW⟩ := W_det hW
 obtain ⟨vs, hvs, hnn, hQ⟩ : FinG res S0 (fun r H' n' => n ≤ n' ∧ Q r H' n') := by
  cases e0
  ·exact hq
  ·exact hq.elim
  ·exact hq
 have he0 : e0 = .normal ∨ e0 = .ret := by
  cases e0
  ·exact .inl rfl
  ·exact hq.elim
  ·exact .inr rfl
 refine ⟨one vs, S0.H, S0.nx, hQ, fun vals w => by
  have hne : ¬ (fn.name == "runtime.NumGoroutine") = true := by rw [hname]; simp
  simp only [callFunc, Sem.run_bind, run_program, Result.andThen_ok, hf]
  rw [if_neg hne, if_neg (by simp [hb])]
  rfl, hnn, fun φ M U w vals hU Mb hgl hp hs ha => ?_⟩
 refine calls_of_wp hf hb ?_
 let C : Ctx := ⟨w, M, fun g => ∃ b, H b ≠ none ∧ φ b = some g, fn.ntmps, φ, H, U, n, hU⟩
 have hused : ∀ b, U b → used C n (fun _ => False) b := fun b h => .inl h
 have hR : Rel C (fun _ => False) (startG args H n) φ M { tmps := vals ++ Array.replicate (fn.ntmps - vals.size) Go.undef, defers := [] } w := by
  refine { tmps := ?_, defers := rfl, gl := hgl, co := Carry.refl _ _ _ _ _ _ hused, n0 := Nat.le_refl _, env := fun s => ?_, hp := hp.carry (.refl φ M w H _ _ hused) fun _ _ _ _ _ => ⟨rfl, id⟩, Mb := Mb, M0b := Mb, M1 := fun g hg => .inl hg, M2 := fun g hg _ => hg, os := rfl, tape := rfl, output := rfl, size := Nat.le_refl _, old := fun _ _ _ => rfl, loc := fun b g hb hg => .inl ⟨b, hb, hg⟩ }
  ·simp [C]; omega
  ·show Sim φ M w H (used C n fun _ => False) (E (argsE 0 args) s) _
   rw [E_args]
   split
   ·rename_i hlt
    have := ha s (by omega)
    rw [Nat.sub_zero]
    have := this.wide hused
    simpa [Array.getD_eq_getD_getElem?, Array.getElem?_append_left (show s < vals.size by omega)] using this
   ·exact .pur (.junk _)
 refine wp_mono (W_sound (C := C) k c _ (startG args H n) _ M _ w hm hW hR) fun e a w' h => ?_
 obtain ⟨e', S, φ', M', h1, h2, h3⟩ := h
 obtain ⟨rfl, rfl⟩ := h2
 have key : a.defers = [] ∧ ∃ v, (results fn a.tmps).run P w' = .ok v w' ∧ ∃ x φ' M', Ending.returned v = .returned x ∧ Trans φ φ' M M' U (fun b => U b ∨ (n ≤ b ∧ b < S.nx)) w w' H S.H ∧ Sim φ' M' w' S.H (fun b => U b ∨ (n ≤ b ∧ b < S.nx)) (one vs) x := by
  refine ⟨h3.defers, ?_⟩
  obtain ⟨xs, e1, e2, e3⟩ := resG_sound h3 hres hvs
  have hrun : (fn.results.mapM (resOf a.tmps)).run P w' = .ok xs.toArray w' := by
   have : fn.results = fn.results.toList.toArray := by simp
   rw [this, List.mapM_toArray, Sem.run_map, e1]
   rfl
  have hwide : ∀ b, used C S.nx (fun _ => False) b → U b ∨ (n ≤ b ∧ b < S.nx) := fun b hb => by
   rcases hb with hb | hb | ⟨j, hj, _⟩
   ·exact .inl hb
   ·exact .inr hb
   ·exact hj.elim
  have t : Trans φ φ' M M' U (used C S.nx fun _ => False) w w' H S.H := { carry := h3.co, hp := h3.hp, Mb := fun _ => h3.Mb, M1 := h3.M1, M2 := fun g hg => (Classical.em (∃ b, H b ≠ none ∧ φ b = some g)).elim .inr fun hG => .inl (h3.M2 g hg hG), os := h3.os, tape := h3.tape, output := h3.output, size := h3.size, old := fun g hg hne => h3.old g hg fun ⟨b, h4, h5⟩ => hne b h4 h5, loc := h3.loc }
  rw [results_eq]
  simp only [Sem.run_bind]
  rw [hrun]
  simp only [Result.andThen_ok, Sem.run_pure]
  refine ⟨_, rfl, _, φ', M', rfl, t.wide hwide, Sim.wide ?_ hwide⟩
  cases vs with
  | nil =>
   have : xs = [] := by simpa using e2
   subst this
   exact .tup [] #[] rfl fun i hi => by simp at hi
  | cons v vs =>
   cases vs with
   | nil =>
    obtain ⟨x, rfl⟩ : ∃ x, xs = [x] := by
     cases xs with
     | nil => simp at e2
     | cons x xs => simp at e2; subst e2; exact ⟨x, rfl⟩
    simpa [one] using e3 0 (by simp)
   | cons v2 vs =>
    have hne : ¬ xs.toArray.size = 1 := by simp [e2]
    rw [dif_neg hne]
    exact .tup _ _ (by simp [e2]) fun i hi => by
     have := e3 i hi
     simpa [Array.getD_eq_getD_getElem?, List.getD_eq_getElem?_getD] using this
 cases e <;> cases e' <;> simp only [exM] at h1
 ·exact key
 ·simp at he0
 ·exact key
theorem Ret_of {P : Program} {f : Nat} {fn : Func} {k : K} {res : List RX} {args : List V} {r : V} (hf : P.funcs[f]? = some fn) (hb : fn.body = some (fn.body.getD .skip)) (hname : (fn.name == "runtime.NumGoroutine") = false)
  (hm : mK P fn.ntmps k (fn.body.getD .skip) = true) (hres : mRes P fn.results.toList res = true) (hn : args.length ≤ fn.ntmps) (hW : W P k (done res r) (start args)) : Ret P f args r :=
 Ret_of_body hf hb hname hm hres hn hW
theorem RetG_of {P : Program} {f : Nat} {fn : Func} {k : K} {res : List RX} {args : List V} {H : Hp} {n : Nat} {Q : V → Hp → Nat → Prop} (hf : P.funcs[f]? = some fn) (hb : fn.body = some (fn.body.getD .skip)) (hname : (fn.name == "runtime.NumGoroutine") = false)
  (hm : mK P fn.ntmps k (fn.body.getD .skip) = true) (hres : mRes P fn.results.toList res = true) (hn : args.length ≤ fn.ntmps) (hW : W P k (doneG res (fun r H' n' => n ≤ n' ∧ Q r H' n')) (startG args H n)) : ∃ r H' n', Q r H' n' ∧ RetG P f args H n r H' n' :=
 RetG_of_body hf hb hname hm hres hn hW
abbrev OfT (P : Program) (f : Nat) (k : K) (res : List RX) (m : Nat) : Prop := ∀ {args : List V} {r : V}, args.length = m → W P k (done res r) (start args) → Ret P f args r
theorem OfI {P : Program} {f m : Nat} {fn : Func} {k : K} {res : List RX} (hf : P.funcs[f]? = some fn) (hb : fn.body = some (fn.body.getD .skip) := by exact rfl) (hname : (fn.name == "runtime.NumGoroutine") = false := by kernel_rfl) (hm : mK P fn.ntmps k (fn.body.getD .skip) = true := by kernel_rfl) (hres : mRes P fn.results.toList res = true := by kernel_rfl) (hn : m ≤ fn.ntmps := by exact of_decide_eq_true (by kernel_rfl)) : OfT P f k res m := fun h hW => Ret_of hf hb hname hm hres (by rw [h]; exact hn) hW
abbrev OfTG (P : Program) (f : Nat) (k : K) (res : List RX) (m : Nat) : Prop := ∀ {args : List V} {H : Hp} {n : Nat} {Q : V → Hp → Nat → Prop}, args.length = m → W P k (doneG res (fun r H' n' => n ≤ n' ∧ Q r H' n')) (startG args H n) → ∃ r H' n', Q r H' n' ∧ RetG P f args H n r H' n'
theorem OfIG {P : Program} {f m : Nat} {fn : Func} {k : K} {res : List RX} (hf : P.funcs[f]? = some fn) (hb : fn.body = some (fn.body.getD .skip) := by exact rfl) (hname : (fn.name == "runtime.NumGoroutine") = false := by kernel_rfl) (hm : mK P fn.ntmps k (fn.body.getD .skip) = true := by kernel_rfl) (hres : mRes P fn.results.toList res = true := by kernel_rfl) (hn : m ≤ fn.ntmps := by exact of_decide_eq_true (by kernel_rfl)) : OfTG P f k res m := fun h hW => RetG_of hf hb hname hm hres (by rw [h]; exact hn) hW
end Go.Gim

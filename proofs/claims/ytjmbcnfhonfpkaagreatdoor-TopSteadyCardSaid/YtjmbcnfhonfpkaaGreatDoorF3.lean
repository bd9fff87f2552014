import Derived.Test.YtjmbcnfhonfpkaaGreatDoorF2
import Derived.Laws.Sem
import Derived.Laws.Cells
import Derived.Laws.World
/- What one operation does: the machine's step is the data's step. -/
set_option linter.unusedVariables false
set_option linter.unusedSimpArgs false
namespace Go.Gim
open Go.RowKit

theorem HpOk.carry {φ : Nat → Option Nat} {M M' U U' : Nat → Prop} {w w' : World} {H : Hp} (h : HpOk φ M w H U) (K : Carry φ φ M M' w w' H H U U')
  (hb : ∀ b blk g, H b = some blk → φ b = some g → w'.heap[g]? = w.heap[g]? ∧ (M g → M' g)) : HpOk φ M' w' H U' := by
 refine ⟨fun b x hx => ?_, h.inj⟩
 obtain ⟨h1, h2, h3⟩ := h.blk b x hx
 refine ⟨K.used _ h1, h2, ?_⟩
 rcases h3 with h3 | ⟨g, arr, ty, e1, e2, e3, e4, e5⟩
 ·exact .inl h3
 ·obtain ⟨k1, k2⟩ := hb b x g hx e1
  exact .inr ⟨g, arr, ty, e1, by rw [k1]; exact e2, e3, fun i j hi hj => (e4 i j hi hj).carry K, k2 e5⟩

theorem Carry.refl (φ : Nat → Option Nat) (M : Nat → Prop) (w : World) (H : Hp) (U U' : Nat → Prop) (hU : ∀ b, U b → U' b) : Carry φ φ M M w w H H U U' :=
 ⟨fun _ _ h1 h2 => ⟨h1, h2⟩, hU, fun _ _ _ _ h => h, fun _ _ _ _ h => h⟩

theorem Trans.refl {φ : Nat → Option Nat} {M U U' : Nat → Prop} {w : World} {H : Hp} (h : HpOk φ M w H U) (hU : ∀ b, U b → U' b) : Trans φ φ M M U U' w w H H :=
 {carry := .refl φ M w H U U' hU
  hp := h.carry (.refl φ M w H U U' hU) fun b blk g _ _ => ⟨rfl, id⟩
  Mb := fun h => h, M1 := fun _ => .inl, M2 := fun _ => .inl, os := rfl, tape := rfl, output := rfl, size := Nat.le_refl _
  old := fun _ _ _ => rfl
  loc := fun b g hb hg => .inl ⟨b, hb, hg⟩ }

theorem Carry.below {φ : Nat → Option Nat} {M : Nat → Prop} {w w' : World} {H : Hp} {U U' : Nat → Prop} (hb : Below w.heap.size w w') (hU : ∀ b, U b → U' b) : Carry φ φ M M w w' H H U U' := by
 have old : ∀ (g : Nat) o, w.heap[g]? = some o → w'.heap[g]? = some o := fun g o h => by
  rw [hb.block g ((Array.getElem?_eq_some_iff.1 h).1)]; exact h
 refine ⟨fun g o h1 h2 => ⟨old g o h1, h2⟩, hU, fun b n x _ h blk e1 e2 => ?_, fun _ _ _ _ h => h⟩
 rcases h blk e1 e2 with h | ⟨g, cap, arr, ty, a1, a2, a3, a4, a5⟩
 ·exact .inl h
 ·exact .inr ⟨g, cap, arr, ty, a1, a2, old _ _ a3, a4, a5⟩

theorem Trans.below {φ : Nat → Option Nat} {M U U' : Nat → Prop} {w w' : World} {H : Hp} (h : HpOk φ M w H U) (hU : ∀ b, U b → U' b) (hb : Below w.heap.size w w') : Trans φ φ M M U U' w w' H H := by
 have K : Carry φ φ M M w w' H H U U' := .below hb hU
 exact {
  carry := K
  hp := h.carry K fun b blk g h1 h2 => ⟨by
   obtain ⟨_, _, h3⟩ := h.blk b blk h1
   rcases h3 with ⟨h3, _⟩ | ⟨g', arr, ty, e1, e2, _⟩
   ·rw [h3] at h2; cases h2
   ·rw [h2] at e1; cases e1
    exact hb.block g (Array.getElem?_eq_some_iff.1 e2).1, id⟩
  Mb := fun h g hg => Nat.lt_of_lt_of_le (h g hg) hb.size
  M1 := fun _ => .inl, M2 := fun _ => .inl, os := hb.os, tape := hb.tape, output := hb.output, size := hb.size
  old := fun g hg _ => hb.block g hg
  loc := fun b g hb hg => .inl ⟨b, hb, hg⟩ }

theorem Trans.wide {φ φ' : Nat → Option Nat} {M M' U U' U'' : Nat → Prop} {w w' : World} {H H' : Hp} (t : Trans φ φ' M M' U U' w w' H H') (h : ∀ b, U' b → U'' b) : Trans φ φ' M M' U U'' w w' H H' :=
 {t with carry := ⟨t.carry.pur, fun b hb => h b (t.carry.used b hb), t.carry.own, t.carry.adr⟩, hp := t.hp.carry (.refl φ' M' w' H' U' U'' h) fun _ _ _ _ _ => ⟨rfl, id⟩ }
theorem Sim.wide {φ : Nat → Option Nat} {M U U' : Nat → Prop} {w : World} {H : Hp} {v : V} {x : Value} (h : Sim φ M w H U v x) (hU : ∀ b, U b → U' b) : Sim φ M w H U' v x := h.carry (.refl φ M w H U U' hU)

/-! ### Constants, operands, types -/
def mVs (f : Value → V → Bool) : List Value → List V → Bool
 | [], [] => true
 | x :: xs, v :: vs => f x v && mVs f xs vs
 | _, _ => false
def mV : Nat → Value → V → Bool
 | 0, _, _ => false
 | n + 1, x, v =>
  match x, v with
  | .int k a, .int k' b => k == k' && a == b
  | .bool a, .bool b => a == b
  | .string s, .str t => s.data.toList == t.data.toList
  | .slice none 0 0, .nil => true
  | .slice none 0 0, .sl [] => true
  | .pointer none, .nilptr => true
  | .nilFunc, .nilfn => true
  | .agg arr, .agg cs => mVs (mV n) arr.toList cs
  | .tuple arr, .undef => arr.toList.isEmpty
  | .func (.func f) a b, .fn g [] => f == g && a.toList.isEmpty && b.toList.isEmpty
  | _, _ => false

theorem mVs_at {f : Value → V → Bool} : ∀ {xs : List Value} {vs : List V}, mVs f xs vs = true → xs.length = vs.length ∧ ∀ i, i < vs.length → f (xs.getD i Go.undef) (vs.getD i .junk) = true
 | [], [], _ => ⟨rfl, fun i hi => by simp at hi⟩
 | x :: xs, v :: vs, h => by
  simp only [mVs, Bool.and_eq_true] at h
  obtain ⟨h1, h2⟩ := mVs_at h.2
  refine ⟨by simp [h1], fun i hi => ?_⟩
  cases i with
  | zero => simpa using h.1
  | succ i => simpa using h2 i (by simpa using hi)

theorem mV_pur {M : Nat → Prop} {w : World} : ∀ {n : Nat} {x : Value} {v : V}, mV n x v = true → Pur M w v x := by
 intro n
 induction n with
 | zero => intro x v h; simp [mV] at h
 | succ n ih =>
  intro x v h
  unfold mV at h
  split at h
  ·simp at h; obtain ⟨rfl, rfl⟩ := h; exact .int _ _
  ·simp at h; subst h; exact .bool _
  ·rename_i s t
   have : s = t := by
    cases s; cases t
    simp at h
    congr
   subst this; exact .str _
  ·exact .nil _
  ·exact .sl0 _ _
  ·exact .nilptr
  ·exact .nilfn
  ·rename_i arr cs
   obtain ⟨h1, h2⟩ := mVs_at h
   refine .agg _ _ (by simpa using h1) fun i hi => ih ?_
   have := h2 i hi
   simpa using this
  ·rename_i arr
   have : arr = #[] := by simpa using h
   subst this; exact .undef
  ·rename_i f a b g
   simp at h
   obtain ⟨⟨rfl, rfl⟩, rfl⟩ := h
   exact .fn _ [] #[] rfl fun i hi => by simp at hi
  ·simp at h

def mX : Operand → X → Bool
 | .tmp n, .t m => n == m
 | .const x, .c v => mV 4 x v
 | .func f, .c (.fn g []) => f == g
 | .global f, .g n => f == n && gvs.any (fun p => p.1 == n)
 | _, _ => false
def EnvOk (φ : Nat → Option Nat) (M : Nat → Prop) (w : World) (H : Hp) (U : Nat → Prop) (S : St) (a : Act) : Prop := (∀ s, Sim φ M w H U (S.env s) (a.tmps.getD s Go.undef)) ∧ GOk M w

theorem za4 {φ : Nat → Option Nat} {M U : Nat → Prop} {w : World} {H : Hp} {S : St} {a : Act} (henv : EnvOk φ M w H U S a) {o : Operand} {x : X} (h : mX o x = true) :
  Sim φ M w H U (S.ev x) (a.eval o) := by
 unfold mX at h
 split at h
 ·simp at h; subst h; exact henv.1 _
 ·exact .pur (mV_pur h)
 ·simp at h; subst h
  exact .pur (.fn _ [] #[] rfl fun i hi => by simp at hi)
 ·rename_i f n
  simp only [Bool.and_eq_true, beq_iff_eq] at h
  obtain ⟨rfl, h⟩ := h
  simp only [St.ev]
  cases hf : gvs.find? (fun p => p.1 == f) with
  | none =>
   rw [List.find?_eq_none] at hf
   obtain ⟨p, hp, he⟩ := List.any_eq_true.1 h
   exact absurd he (hf p hp)
  | some p =>
   have h1 := List.find?_some hf
   have h2 := List.mem_of_find?_eq_some hf
   have h3 := henv.2 p h2
   simp only [beq_iff_eq] at h1
   rw [h1] at h3
   exact .pur h3
 ·simp at h

def tySz (P : Program) (t : TypeId) (n : Nat) : Bool := match P.info? t with | some i => i.size == n | none => false
def tyAg (P : Program) (t : TypeId) (b : Bool) : Bool := match P.underlying t with | some (.struct _) => b | some (.array _ _) => b | some _ => !b | none => false
theorem zbu {P : Program} {t : TypeId} {n : Nat} (h : tySz P t n = true) (w : World) : (sizeOf t).run P w = .ok n w := by
 unfold tySz at h
 cases hi : P.info? t with
 | none => simp [hi] at h
 | some i => simp [hi] at h; subst h; simp [sizeOf, typeInfo, hi]
theorem run_isAgg {P : Program} {t : TypeId} {b : Bool} (h : tyAg P t b = true) (w : World) : (isAgg t).run P w = .ok b w := by
 unfold tyAg at h
 cases hi : P.underlying t with
 | none => simp [hi] at h
 | some d => cases d <;> simp [hi] at h <;> subst h <;> simp [isAgg, underlying, hi]
end Go.Gim

import Derived.Calls
import Derived.Orders
import Derived.Below
import Derived.KernelRfl
import Derived.WalkKit
import Derived.Scope
/- Values of the program as plain data, what it means that a machine's value is such data, and that this stays so while other blocks change. -/
namespace Go.Gim
open Go.RowKit

theorem zdo {p : Prop} (h : p := by dsimp only; omega) : p := h
inductive V where
 | int (k : IntKind) (n : Int)
 | bool (b : Bool)
 | str (s : ByteArray)
 | agg (cs : List V)
 | sl (xs : List V)
 | nil
 | own (b n : Nat)
 | pp (v : V)
 | ptr (b n i off : Nat)
 | win (b n off len : Nat)
 | nilptr
 | nilfn
 | fn (f : Nat) (caps : List V)
 | tup (vs : List V)
 | undef
 | junk
 deriving Inhabited

def V.cells : V → List V
 | .agg cs => cs
 | v => [v]

def V.isAgg : V → Bool
 | .agg _ => true
 | _ => false

inductive Pur (M : Nat → Prop) (w : World) : V → Value → Prop where
 | int (k n) : Pur M w (.int k n) (.int k n)
 | bool (b) : Pur M w (.bool b) (.bool b)
 | str (s) : Pur M w (.str s) (.string s)
 | undef : Pur M w .undef Go.undef
 | junk (x) : Pur M w .junk x
 | nilptr : Pur M w .nilptr (.pointer none)
 | nilfn : Pur M w .nilfn .nilFunc
 | nil (a) : Pur M w .nil (.slice a 0 0)
 | agg (cs : List V) (arr : Array Value) (hn : arr.size = cs.length) (hc : ∀ i, i < cs.length → Pur M w (cs.getD i .junk) (arr.getD i Go.undef)) : Pur M w (.agg cs) (.agg arr)
 | tup (cs : List V) (arr : Array Value) (hn : arr.size = cs.length) (hc : ∀ i, i < cs.length → Pur M w (cs.getD i .junk) (arr.getD i Go.undef)) : Pur M w (.tup cs) (.tuple arr)
 | fn (f : Nat) (cs : List V) (arr : Array Value) (hn : arr.size = cs.length) (hc : ∀ i, i < cs.length → Pur M w (cs.getD i .junk) (arr.getD i Go.undef)) : Pur M w (.fn f cs) (.func (.func f) #[] arr)
 | sl0 (a cap) : Pur M w (.sl []) (.slice a 0 cap)
 | sl (xs : List V) (ad : Addr) (cap size : Nat) (arr : Array Value) (ty : TypeId) (fr : Nat × Nat) (hs : ad.spot = none) (hb : w.heap[ad.block]? = some (.cells arr ty fr)) (hm : ¬ M ad.block)
   (hsz : ∀ i, i < xs.length → (xs.getD i .junk).cells.length = size) (hin : ad.off + xs.length * size ≤ arr.size) (hcap : xs.length ≤ cap)
   (hc : ∀ i j, i < xs.length → j < size → Pur M w ((xs.getD i .junk).cells.getD j .junk) (arr.getD (ad.off + i * size + j) Go.undef)) : Pur M w (.sl xs) (.slice (some ad) xs.length cap)
 | pp (v : V) (ad : Addr) (arr : Array Value) (ty : TypeId) (fr : Nat × Nat) (hs : ad.spot = none) (hb : w.heap[ad.block]? = some (.cells arr ty fr)) (hm : ¬ M ad.block)
   (hin : ad.off + v.cells.length ≤ arr.size) (hc : ∀ j, j < v.cells.length → Pur M w (v.cells.getD j .junk) (arr.getD (ad.off + j) Go.undef)) : Pur M w (.pp v) (.pointer (some ad))

def gvs : List (Nat × V) := [(0, .agg [.int .i64 0, .int .i64 6, .int .i64 6, .int .i64 1, .int .i64 3])]
def GOk (M : Nat → Prop) (w : World) : Prop := ∀ p ∈ gvs, Pur M w (.pp p.2) (.pointer (some ⟨p.1, 0, none⟩))
theorem Pur.mono {M M' : Nat → Prop} {w w' : World} (hk : ∀ g o, w.heap[g]? = some o → ¬ M g → w'.heap[g]? = some o ∧ ¬ M' g) {v : V} {x : Value} (h : Pur M w v x) : Pur M' w' v x := by
 induction h with
 | int k n => exact .int k n
 | bool b => exact .bool b
 | str s => exact .str s
 | undef => exact .undef
 | junk x => exact .junk x
 | nilptr => exact .nilptr
 | nilfn => exact .nilfn
 | nil a => exact .nil a
 | agg cs arr hn _ ih => exact .agg cs arr hn ih
 | tup cs arr hn _ ih => exact .tup cs arr hn ih
 | fn f cs arr hn _ ih => exact .fn f cs arr hn ih
 | sl0 a cap => exact .sl0 a cap
 | sl xs ad cap size arr ty fr hs hb hm hsz hin hcap _ ih =>
  obtain ⟨h1, h2⟩ := hk _ _ hb hm
  exact .sl xs ad cap size arr ty fr hs h1 h2 hsz hin hcap ih
 | pp v ad arr ty fr hs hb hm hin _ ih =>
  obtain ⟨h1, h2⟩ := hk _ _ hb hm
  exact .pp v ad arr ty fr hs h1 h2 hin ih

theorem GOk.mono {M M' : Nat → Prop} {w w' : World} (hk : ∀ g o, w.heap[g]? = some o → ¬ M g → w'.heap[g]? = some o ∧ ¬ M' g) (h : GOk M w) : GOk M' w' := fun p hp => (h p hp).mono hk

structure Blk where
 elems : List V
 size : Nat

abbrev Hp := Nat → Option Blk
def Hp.upd (H : Hp) (b : Nat) (x : Option Blk) : Hp := fun c => if c = b then x else H c
theorem Hp.upd_same (H : Hp) (b : Nat) (x : Option Blk) : H.upd b x b = x := by simp [Hp.upd]
theorem Hp.upd_ne (H : Hp) {b c : Nat} (x : Option Blk) (h : c ≠ b) : H.upd b x c = H c := by simp [Hp.upd, h]

def OwnOk (φ : Nat → Option Nat) (w : World) (blk : Blk) (b n : Nat) (x : Value) : Prop :=
 (φ b = none ∧ n = 0 ∧ x = .slice none 0 0) ∨
 ∃ g cap arr ty, φ b = some g ∧ x = .slice (some ⟨g, 0, none⟩) n cap ∧ w.heap[g]? = some (.cells arr ty (0, 0)) ∧ arr.size = cap * blk.size ∧ n ≤ cap

inductive Sim (φ : Nat → Option Nat) (M : Nat → Prop) (w : World) (H : Hp) (U : Nat → Prop) : V → Value → Prop where
 | pur {v x} (h : Pur M w v x) : Sim φ M w H U v x
 | own (b n x) (hb : U b) (hx : ∃ a l c, x = .slice a l c) (h : ∀ blk, H b = some blk → blk.elems.length = n → OwnOk φ w blk b n x) : Sim φ M w H U (.own b n) x
 | ptr (b n i off x) (hb : U b) (hx : ∃ a, x = .pointer a) (h : ∀ blk, H b = some blk → blk.elems.length = n → ∃ g, φ b = some g ∧ x = .pointer (some ⟨g, i * blk.size + off, none⟩)) : Sim φ M w H U (.ptr b n i off) x
 | win (b n off len x) (hb : U b) (hx : ∃ a c, x = .slice a len c) (h : ∀ blk, H b = some blk → blk.elems.length = n → ∃ g, φ b = some g ∧ (off + len ≤ n ∧ ∃ c, len ≤ c ∧ x = .slice (some ⟨g, off * blk.size, none⟩) len c)) : Sim φ M w H U (.win b n off len) x
 | agg (cs : List V) (arr : Array Value) (hn : arr.size = cs.length) (hc : ∀ i, i < cs.length → Sim φ M w H U (cs.getD i .junk) (arr.getD i Go.undef)) : Sim φ M w H U (.agg cs) (.agg arr)
 | tup (cs : List V) (arr : Array Value) (hn : arr.size = cs.length) (hc : ∀ i, i < cs.length → Sim φ M w H U (cs.getD i .junk) (arr.getD i Go.undef)) : Sim φ M w H U (.tup cs) (.tuple arr)
 | fn (f : Nat) (cs : List V) (arr : Array Value) (hn : arr.size = cs.length) (hc : ∀ i, i < cs.length → Sim φ M w H U (cs.getD i .junk) (arr.getD i Go.undef)) : Sim φ M w H U (.fn f cs) (.func (.func f) #[] arr)

def BlkOk (φ : Nat → Option Nat) (M : Nat → Prop) (w : World) (H : Hp) (U : Nat → Prop) (b : Nat) (blk : Blk) : Prop :=
 U b ∧ (∀ i, i < blk.elems.length → (blk.elems.getD i .junk).cells.length = blk.size) ∧
 ((φ b = none ∧ blk.elems = []) ∨
  ∃ g arr ty, φ b = some g ∧ w.heap[g]? = some (.cells arr ty (0, 0)) ∧ blk.elems.length * blk.size ≤ arr.size ∧
   (∀ i j, i < blk.elems.length → j < blk.size → Sim φ M w H U ((blk.elems.getD i .junk).cells.getD j .junk) (arr.getD (i * blk.size + j) Go.undef)) ∧
   M g)

structure HpOk (φ : Nat → Option Nat) (M : Nat → Prop) (w : World) (H : Hp) (U : Nat → Prop) : Prop where
 blk : ∀ b x, H b = some x → BlkOk φ M w H U b x
 inj : ∀ b c g, H b ≠ none → H c ≠ none → φ b = some g → φ c = some g → b = c

structure Carry (φ φ' : Nat → Option Nat) (M M' : Nat → Prop) (w w' : World) (H H' : Hp) (U U' : Nat → Prop) : Prop where
 pur : ∀ g o, w.heap[g]? = some o → ¬ M g → w'.heap[g]? = some o ∧ ¬ M' g
 used : ∀ b, U b → U' b
 own : ∀ b n x, U b → (∀ blk, H b = some blk → blk.elems.length = n → OwnOk φ w blk b n x) → (∀ blk, H' b = some blk → blk.elems.length = n → OwnOk φ' w' blk b n x)
 adr : ∀ b n (p : Nat → Nat → Prop), U b → (∀ blk, H b = some blk → blk.elems.length = n → ∃ g, φ b = some g ∧ p g blk.size) → (∀ blk, H' b = some blk → blk.elems.length = n → ∃ g, φ' b = some g ∧ p g blk.size)
theorem Carry.trans {φ φ1 φ2 : Nat → Option Nat} {M M1 M2 : Nat → Prop} {w w1 w2 : World} {H H1 H2 : Hp} {U U1 U2 : Nat → Prop} (k : Carry φ φ1 M M1 w w1 H H1 U U1) (l : Carry φ1 φ2 M1 M2 w1 w2 H1 H2 U1 U2) : Carry φ φ2 M M2 w w2 H H2 U U2 :=
 ⟨fun g o h1 h2 => by obtain ⟨h3, h4⟩ := k.pur g o h1 h2; exact l.pur g o h3 h4, fun b h => l.used b (k.used b h), fun b n x h h1 => l.own b n x (k.used b h) (k.own b n x h h1), fun b n p h h1 => l.adr b n p (k.used b h) (k.adr b n p h h1)⟩

theorem Sim.carry {φ φ' : Nat → Option Nat} {M M' : Nat → Prop} {w w' : World} {H H' : Hp} {U U' : Nat → Prop} (K : Carry φ φ' M M' w w' H H' U U') {v : V} {x : Value} (h : Sim φ M w H U v x) :
  Sim φ' M' w' H' U' v x := by
 induction h with
 | pur h => exact .pur (h.mono K.pur)
 | own b n x hb hx h => exact .own b n x (K.used _ hb) hx (K.own b n x hb h)
 | ptr b n i off x hb hx h => exact .ptr b n i off x (K.used _ hb) hx (K.adr b n (fun g s => x = .pointer (some ⟨g, i * s + off, none⟩)) hb h)
 | win b n off len x hb hx h => exact .win b n off len x (K.used _ hb) hx (K.adr b n (fun g s => off + len ≤ n ∧ ∃ c, len ≤ c ∧ x = .slice (some ⟨g, off * s, none⟩) len c) hb h)
 | agg cs arr hn _ ih => exact .agg cs arr hn ih
 | tup cs arr hn _ ih => exact .tup cs arr hn ih
 | fn f cs arr hn _ ih => exact .fn f cs arr hn ih

inductive V.Pure : V → Prop where
 | int (k n) : V.Pure (.int k n)
 | bool (b) : V.Pure (.bool b)
 | str (s) : V.Pure (.str s)
 | undef : V.Pure .undef
 | junk : V.Pure .junk
 | nilptr : V.Pure .nilptr
 | nilfn : V.Pure .nilfn
 | nil : V.Pure .nil
 | sl (xs) : V.Pure (.sl xs)
 | pp (v) : V.Pure (.pp v)
 | agg (cs) (h : ∀ c ∈ cs, V.Pure c) : V.Pure (.agg cs)
 | tup (cs) (h : ∀ c ∈ cs, V.Pure c) : V.Pure (.tup cs)
 | fn (f cs) (h : ∀ c ∈ cs, V.Pure c) : V.Pure (.fn f cs)
@[simp] theorem V.pure_int (k n) : V.Pure (.int k n) ↔ True := ⟨fun _ => trivial, fun _ => .int k n⟩
@[simp] theorem V.pure_bool (b) : V.Pure (.bool b) ↔ True := ⟨fun _ => trivial, fun _ => .bool b⟩
@[simp] theorem V.pure_str (b) : V.Pure (.str b) ↔ True := ⟨fun _ => trivial, fun _ => .str b⟩
@[simp] theorem V.pure_undef : V.Pure .undef ↔ True := ⟨fun _ => trivial, fun _ => .undef⟩
@[simp] theorem V.pure_junk : V.Pure .junk ↔ True := ⟨fun _ => trivial, fun _ => .junk⟩
@[simp] theorem V.pure_nilptr : V.Pure .nilptr ↔ True := ⟨fun _ => trivial, fun _ => .nilptr⟩
@[simp] theorem V.pure_nilfn : V.Pure .nilfn ↔ True := ⟨fun _ => trivial, fun _ => .nilfn⟩
@[simp] theorem V.pure_nil : V.Pure .nil ↔ True := ⟨fun _ => trivial, fun _ => .nil⟩
@[simp] theorem V.pure_sl (xs) : V.Pure (.sl xs) ↔ True := ⟨fun _ => trivial, fun _ => .sl xs⟩
@[simp] theorem V.pure_pp (v) : V.Pure (.pp v) ↔ True := ⟨fun _ => trivial, fun _ => .pp v⟩
@[simp] theorem V.pure_agg (cs) : V.Pure (.agg cs) ↔ ∀ c ∈ cs, V.Pure c := ⟨fun h => by cases h; assumption, .agg cs⟩
@[simp] theorem V.pure_tup (cs) : V.Pure (.tup cs) ↔ ∀ c ∈ cs, V.Pure c := ⟨fun h => by cases h; assumption, .tup cs⟩
@[simp] theorem V.pure_fn (f cs) : V.Pure (.fn f cs) ↔ ∀ c ∈ cs, V.Pure c := ⟨fun h => by cases h; assumption, .fn f cs⟩
@[simp] theorem V.pure_own (b n) : V.Pure (.own b n) ↔ False := ⟨fun h => (by cases h), False.elim⟩
@[simp] theorem V.pure_ptr (b n i off) : V.Pure (.ptr b n i off) ↔ False := ⟨fun h => (by cases h), False.elim⟩

@[simp] theorem V.pure_win (b n off len) : V.Pure (.win b n off len) ↔ False := ⟨fun h => (by cases h), False.elim⟩

theorem zce {α : Type} {l : List α} {i : Nat} {d : α} (h : i < l.length) : l.getD i d ∈ l := by
 simp [List.getD_eq_getElem?_getD, List.getElem?_eq_getElem h]

theorem Sim.toPur {φ : Nat → Option Nat} {M : Nat → Prop} {w : World} {H : Hp} {U : Nat → Prop} {v : V} {x : Value} (h : Sim φ M w H U v x) : v.Pure → Pur M w v x := by
 induction h with
 | pur h => exact fun _ => h
 | own b n x hb hx h => intro hp; simp at hp
 | ptr b n i off x hb hx h => intro hp; simp at hp
 | win b n off len x hb hx h => intro hp; simp at hp
 | agg cs arr hn _ ih => intro hp; rw [V.pure_agg] at hp; exact .agg cs arr hn fun i hi => ih i hi (hp _ (zce hi))
 | tup cs arr hn _ ih => intro hp; rw [V.pure_tup] at hp; exact .tup cs arr hn fun i hi => ih i hi (hp _ (zce hi))
 | fn f cs arr hn _ ih => intro hp; rw [V.pure_fn] at hp; exact .fn f cs arr hn fun i hi => ih i hi (hp _ (zce hi))

theorem Sim.cell {φ : Nat → Option Nat} {M : Nat → Prop} {w : World} {H : Hp} {U : Nat → Prop} {v : V} {x : Value} (h : Sim φ M w H U v x) (hv : v ≠ .junk) :
  x.cells.size = v.cells.length ∧ ∀ j, j < v.cells.length → Sim φ M w H U (v.cells.getD j .junk) (x.cells.getD j Go.undef) := by
 cases h with
 | agg cs arr hn hc => exact ⟨hn, hc⟩
 | pur h =>
  cases h with
  | agg cs arr hn hc => exact ⟨hn, fun j hj => .pur (hc j hj)⟩
  | junk x => exact absurd rfl hv
  | int k n => exact ⟨rfl, fun j hj => by simp [V.cells] at hj; subst hj; exact .pur (.int k n)⟩
  | bool b => exact ⟨rfl, fun j hj => by simp [V.cells] at hj; subst hj; exact .pur (.bool b)⟩
  | str b => exact ⟨rfl, fun j hj => by simp [V.cells] at hj; subst hj; exact .pur (.str b)⟩
  | undef => exact ⟨rfl, fun j hj => by simp [V.cells] at hj; subst hj; exact .pur .undef⟩
  | nilptr => exact ⟨rfl, fun j hj => by simp [V.cells] at hj; subst hj; exact .pur .nilptr⟩
  | nilfn => exact ⟨rfl, fun j hj => by simp [V.cells] at hj; subst hj; exact .pur .nilfn⟩
  | nil a => exact ⟨rfl, fun j hj => by simp [V.cells] at hj; subst hj; exact .pur (.nil a)⟩
  | tup cs arr hn hc => exact ⟨rfl, fun j hj => by simp [V.cells] at hj; subst hj; exact .pur (.tup cs arr hn hc)⟩
  | fn f cs arr hn hc => exact ⟨rfl, fun j hj => by simp [V.cells] at hj; subst hj; exact .pur (.fn f cs arr hn hc)⟩
  | sl0 a cap => exact ⟨rfl, fun j hj => by simp [V.cells] at hj; subst hj; exact .pur (.sl0 a cap)⟩
  | sl xs ad cap size arr ty fr hs hb hm hsz hin hcap hc => exact ⟨rfl, fun j hj => by simp [V.cells] at hj; subst hj; exact .pur (.sl xs ad cap size arr ty fr hs hb hm hsz hin hcap hc)⟩
  | pp v ad arr ty fr hs hb hm hin hc => exact ⟨rfl, fun j hj => by simp [V.cells] at hj; subst hj; exact .pur (.pp v ad arr ty fr hs hb hm hin hc)⟩
 | own b n x hb hx h' =>
  obtain ⟨a, l, c, rfl⟩ := hx
  exact ⟨rfl, fun j hj => by simp [V.cells] at hj; subst hj; exact .own b n _ hb ⟨a, l, c, rfl⟩ h'⟩
 | ptr b n i off x hb hx h' =>
  obtain ⟨a, rfl⟩ := hx
  exact ⟨rfl, fun j hj => by simp [V.cells] at hj; subst hj; exact .ptr b n i off _ hb ⟨a, rfl⟩ h'⟩
 | win b n off len x hb hx h' =>
  obtain ⟨a, c, rfl⟩ := hx
  exact ⟨rfl, fun j hj => by simp [V.cells] at hj; subst hj; exact .win b n off len _ hb ⟨a, c, rfl⟩ h'⟩
 | tup cs arr hn hc => exact ⟨rfl, fun j hj => by simp [V.cells] at hj; subst hj; exact .tup cs arr hn hc⟩
 | fn f cs arr hn hc => exact ⟨rfl, fun j hj => by simp [V.cells] at hj; subst hj; exact .fn f cs arr hn hc⟩
end Go.Gim

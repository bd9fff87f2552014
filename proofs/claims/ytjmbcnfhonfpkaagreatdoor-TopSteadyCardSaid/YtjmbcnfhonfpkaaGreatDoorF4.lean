import Derived.Test.YtjmbcnfhonfpkaaGreatDoorF3
/- What one operation does, continued: each kind of operation that reads, reckons or calls. -/
set_option linter.unusedVariables false
set_option linter.unusedSimpArgs false
namespace Go.Gim
open Go.RowKit

section inv
variable {φ : Nat → Option Nat} {M U : Nat → Prop} {w : World} {H : Hp}
theorem Sim.int_inv {k n x} (h : Sim φ M w H U (.int k n) x) : x = .int k n := by
 cases h with
 | pur h => cases h; rfl
theorem Sim.bool_inv {b x} (h : Sim φ M w H U (.bool b) x) : x = .bool b := by
 cases h with
 | pur h => cases h; rfl
theorem Sim.str_inv {b x} (h : Sim φ M w H U (.str b) x) : x = .string b := by
 cases h with
 | pur h => cases h; rfl
theorem Sim.undef_inv {x} (h : Sim φ M w H U .undef x) : x = Go.undef := by
 cases h with
 | pur h => cases h; rfl
theorem Sim.agg_inv {cs x} (h : Sim φ M w H U (.agg cs) x) : ∃ arr, x = .agg arr ∧ arr.size = cs.length ∧ ∀ i, i < cs.length → Sim φ M w H U (cs.getD i .junk) (arr.getD i Go.undef) := by
 cases h with
 | pur h => cases h with | agg cs arr hn hc => exact ⟨arr, rfl, hn, fun i hi => .pur (hc i hi)⟩
 | agg cs arr hn hc => exact ⟨arr, rfl, hn, hc⟩
theorem Sim.tup_inv {cs x} (h : Sim φ M w H U (.tup cs) x) : ∃ arr, x = .tuple arr ∧ arr.size = cs.length ∧ ∀ i, i < cs.length → Sim φ M w H U (cs.getD i .junk) (arr.getD i Go.undef) := by
 cases h with
 | pur h => cases h with | tup cs arr hn hc => exact ⟨arr, rfl, hn, fun i hi => .pur (hc i hi)⟩
 | tup cs arr hn hc => exact ⟨arr, rfl, hn, hc⟩
theorem Sim.fn_inv {f cs x} (h : Sim φ M w H U (.fn f cs) x) : ∃ arr, x = .func (.func f) #[] arr ∧ arr.size = cs.length ∧ ∀ i, i < cs.length → Sim φ M w H U (cs.getD i .junk) (arr.getD i Go.undef) := by
 cases h with
 | pur h => cases h with | fn f cs arr hn hc => exact ⟨arr, rfl, hn, fun i hi => .pur (hc i hi)⟩
 | fn f cs arr hn hc => exact ⟨arr, rfl, hn, hc⟩
end inv

theorem beq_dec (a b : List UInt8) : (a == b) = decide (a = b) := by rw [Bool.eq_iff_iff]; simp
theorem zdu {α : Type} {arr : Array α} {i : Nat} {d : α} (h : i < arr.size) : arr[i]? = some (arr.getD i d) := by
 simp [Array.getD, h]

def OpGoal (P : Program) (o : Oper) (a : Act) (w : World) (φ : Nat → Option Nat) (M U U' : Nat → Prop) (H : Hp) (v : V) (H' : Hp) : Prop :=
 ∀ (next : Act → World → Prop) (Q : Exit → Act → World → Prop),
  (∀ x w' φ' M', Trans φ φ' M M' U U' w w' H H' → Sim φ' M' w' H' U' v x → next (a.put o.dst x) w') → o.wp P a w next Q

theorem zbr {P : Program} {o : Oper} {a : Act} {w : World} {φ : Nat → Option Nat} {M U U' : Nat → Prop} {H : Hp} {v : V} {x : Value} (hp : HpOk φ M w H U) (hU : ∀ b, U b → U' b)
  (hr : (execOp a.eval o).run P w = .ok (.value x) w) (hs : Sim φ M w H U v x) : OpGoal P o a w φ M U U' H v H := by
 intro next Q hn
 unfold Oper.wp
 rw [hr]
 exact hn x w φ M (Trans.refl hp hU) (hs.carry (.refl φ M w H U U' hU))

theorem bin_run {P : Program} {op : BinOp} {t : TypeId} {X Y : Operand} {u v r : V} {x y : Value} {φ : Nat → Option Nat} {M U : Nat → Prop} {w : World} {H : Hp} (h : binV op u v = some r)
  (hx : Sim φ M w H U u x) (hy : Sim φ M w H U v y) : ∃ z, (do eqGuard op t X Y x y; Go.binOp op t x y : Sem Value).run P w = .ok z w ∧ Sim φ M w H U r z := by
 unfold binV at h
 split at h
 ·rename_i k a k' b
  have e1 := hx.int_inv; have e2 := hy.int_inv
  subst e1; subst e2
  have hg : ∀ o : BinOp, (eqGuard o t X Y (.int k a) (.int k' b)).run P w = .ok () w := by
   intro o; unfold eqGuard; cases o <;> simp
  split at h
  ·rename_i hop
   rcases hop with rfl | rfl
   ·unfold zdt at h
    split at h
    ·simp at h
    ·rename_i hb
     simp at h; subst h
     exact ⟨_, by simp only [Sem.run_bind, hg, Result.andThen_ok, Go.binOp, Op.shift, if_neg hb]; rfl, .pur (.int _ _)⟩
   ·unfold zdt at h
    split at h
    ·simp at h
    ·rename_i hb
     simp at h; subst h
     exact ⟨_, by simp only [Sem.run_bind, hg, Result.andThen_ok, Go.binOp, Op.shift, if_neg hb]; rfl, .pur (.int _ _)⟩
  ·rename_i hop
   split at h
   ·rename_i hk
    subst hk
    cases op <;> simp only [intV, Option.some.injEq, reduceCtorEq] at h
    case quo =>
     split at h
     ·cases h
     ·rename_i hb
      cases h
      exact ⟨_, by simp only [Sem.run_bind, hg, Result.andThen_ok, Go.binOp, ne_eq, not_true, if_false, Op.intDiv, if_neg hb]; rfl, .pur (.int _ _)⟩
    case rem =>
     split at h
     ·cases h
     ·rename_i hb
      cases h
      exact ⟨_, by simp only [Sem.run_bind, hg, Result.andThen_ok, Go.binOp, ne_eq, not_true, if_false, Op.intDiv, if_neg hb]; rfl, .pur (.int _ _)⟩
    all_goals
     subst h
     first
      | exact ⟨_, by simp only [Sem.run_bind, hg, Result.andThen_ok, Go.binOp, ne_eq, not_true, if_false, Op.intArith, Op.intCmp, Op.intBits]; rfl, .pur (.int _ _)⟩
      | exact ⟨_, by simp only [Sem.run_bind, hg, Result.andThen_ok, Go.binOp, ne_eq, not_true, if_false, Op.intArith, Op.intCmp, Op.intBits]; rfl, .pur (.bool _)⟩
   ·simp at h
 ·rename_i a b
  have e1 := hx.str_inv; have e2 := hy.str_inv
  subst e1; subst e2
  have hg : ∀ o : BinOp, (eqGuard o t X Y (.string a) (.string b)).run P w = .ok () w := by
   intro o; unfold eqGuard; cases o <;> simp
  unfold strV at h
  split at h
  ·split at h
   ·rename_i hs
    simp at h; subst h
    refine ⟨_, ?_, .pur (.str _)⟩
    simp only [Sem.run_bind, hg, Result.andThen_ok, Go.binOp, Op.stringOp]
    rw [if_neg (by simp [IntKind.max, IntKind.signed, IntKind.bits]; omega)]
    rfl
   ·simp at h
  ·simp at h; subst h
   exact ⟨_, by simp only [Sem.run_bind, hg, Result.andThen_ok, Go.binOp, Op.stringOp, beq_dec]; rfl, .pur (.bool _)⟩
  ·simp at h; subst h
   exact ⟨.bool (!decide (a.toList = b.toList)), by simp only [Sem.run_bind, hg, Result.andThen_ok, Go.binOp, Op.stringOp, beq_dec]; rfl, by
    rw [← decide_not]; exact .pur (.bool _)⟩
  ·simp at h
 ·simp at h

theorem part_cells {v u : V} {off size : Nat} {agg : Bool} (h : V.part v off size agg = some u) :
  u.cells.length = size ∧ u.isAgg = agg ∧ off + size ≤ v.cells.length ∧ ∀ j, j < size → u.cells.getD j .junk = v.cells.getD (off + j) .junk := by
 unfold V.part at h
 split at h
 ·rename_i hc
  obtain ⟨rfl, h1, h2⟩ := hc
  simp at h; subst h
  exact ⟨h1, h2, by omega, fun j _ => by simp⟩
 ·split at h
  ·rename_i hle
   split at h
   ·rename_i hagg
    simp at h; subst h
    generalize v.cells = l at hle ⊢
    refine ⟨?_, by simp [V.isAgg, hagg], hle, fun j hj => ?_⟩
    ·show ((l.drop off).take size).length = size
     simp; omega
    ·show ((l.drop off).take size).getD j .junk = _
     simp [List.getD_eq_getElem?_getD, hj]
   ·rename_i hagg
    split at h
    ·rename_i h1
     subst h1
     split at h
     ·rename_i c hcell
      split at h
      ·simp at h
      ·rename_i hna
       simp at h; subst h
       have hcs : c.cells = [c] := by
        cases c <;> simp_all [V.cells, V.isAgg]
       refine ⟨by simp [hcs], by simp_all, hle, fun j hj => ?_⟩
       obtain rfl : j = 0 := by omega
       simp [hcs, List.getD_eq_getElem?_getD, hcell]
     ·simp at h
    ·simp at h
  ·simp at h

theorem zey {u : V} (h : u.isAgg = false) : u.cells = [u] := by cases u <;> simp_all [V.cells, V.isAgg]
theorem cells_agg {u : V} (h : u.isAgg = true) : u = .agg u.cells := by cases u <;> simp_all [V.cells, V.isAgg]

theorem mk_sim {φ : Nat → Option Nat} {M U : Nat → Prop} {w : World} {H : Hp} {u : V} {n : Nat} {b : Bool} {c : Nat → Value} (hn : u.cells.length = n) (hb : u.isAgg = b)
  (hs : ∀ j, j < n → Sim φ M w H U (u.cells.getD j .junk) (c j)) : Sim φ M w H U u (if b then .agg ((List.range n).map c).toArray else c 0) := by
 cases b with
 | true =>
  rw [cells_agg hb]
  simp only [if_true]
  refine .agg _ _ (by simp [hn]) fun i hi => ?_
  have := hs i (by omega)
  simpa [Array.getD, List.getD_eq_getElem?_getD, show i < n by omega] using this
 | false =>
  rw [zey hb] at hs hn
  simp at hn; subst hn
  simpa using hs 0 (by omega)

theorem zhr {w : World} {ad : Addr} {arr : Array Value} {ty : TypeId} {fr : Nat × Nat} (hs : ad.spot = none) (hb : w.heap[ad.block]? = some (.cells arr ty fr)) (j : Nat) :
  w.cell? (ad.add j) = arr[ad.off + j]? := by
 unfold Addr.add
 split
 ·rename_i h; subst h
  simp [World.cell?, hb, hs]
 ·simp [World.cell?, hb]

theorem zfr {P : Program} {w : World} {t : TypeId} {n : Nat} {b : Bool} (h1 : tySz P t n = true) (h2 : tyAg P t b = true) {ad : Addr} {c : Nat → Value}
  (hc : ∀ j, j < n → w.cell? (ad.add j) = some (c j)) (hn : b = false → 0 < n) : (loadVar t ad).run P w = .ok (if b then .agg ((List.range n).map c).toArray else c 0) w := by
 unfold loadVar
 cases b with
 | true => simp [run_isAgg h2, zbu h1, run_loadCells w ad n c hc]
 | false =>
  have := hc 0 (hn rfl)
  have e : ad.add 0 = ad := by simp [Addr.add]
  rw [e] at this
  simp [run_isAgg h2, this]

theorem zib {φ : Nat → Option Nat} {M U : Nat → Prop} {w : World} {H : Hp} {b n i off : Nat} {x : Value} {blk : Blk} {e : V} (hp : HpOk φ M w H U) (hx : Sim φ M w H U (.ptr b n i off) x)
  (h1 : H b = some blk) (h2 : blk.elems.length = n) (h3 : blk.elems[i]? = some e) :
  ∃ g arr ty, φ b = some g ∧ x = .pointer (some ⟨g, i * blk.size + off, none⟩) ∧ w.heap[g]? = some (.cells arr ty (0, 0)) ∧ e.cells.length = blk.size ∧ i < n ∧ blk.elems.length * blk.size ≤ arr.size ∧
   (∀ j, j < blk.size → Sim φ M w H U (e.cells.getD j .junk) (arr.getD (i * blk.size + j) Go.undef)) ∧ M g := by
 have hi : i < blk.elems.length := (List.getElem?_eq_some_iff.1 h3).1
 have he : blk.elems.getD i .junk = e := by simp [List.getD_eq_getElem?_getD, h3]
 obtain ⟨g, hg, hxe⟩ : ∃ g, φ b = some g ∧ x = .pointer (some ⟨g, i * blk.size + off, none⟩) := by
  cases hx with
  | pur h => cases h
  | ptr b n i off x hb hx h => exact h blk h1 h2
 obtain ⟨_, hs, h⟩ := hp.blk b blk h1
 rcases h with ⟨h, _⟩ | ⟨g', arr, ty, e1, e2, e3, e4, e5⟩
 ·rw [h] at hg; cases hg
 ·rw [hg] at e1; cases e1
  refine ⟨g, arr, ty, hg, hxe, e2, by have := hs i hi; rwa [he] at this, by omega, e3, fun j hj => ?_, e5⟩
  have := e4 i j hi hj
  rwa [he] at this

theorem row_lt {i n s j k : Nat} (hi : i < n) (hj : j < s) (h : n * s ≤ k) : i * s + j < k := by
 have : (i + 1) * s ≤ n * s := Nat.mul_le_mul_right s hi
 rw [Nat.add_mul, Nat.one_mul] at this
 omega

/-! ### The check that an operation is told rightly -/
def mXs (f : Operand → X → Bool) : List Operand → List X → Bool
 | [], [] => true
 | x :: xs, v :: vs => f x v && mXs f xs vs
 | _, _ => false
def mParts (P : Program) (place : Nat → Option (Nat × TypeId)) : List (Nat × Operand) → List (Nat × Nat × X) → Bool
 | [], [] => true
 | (i, o) :: l, (off, size, x) :: m => (match place i with | some (off', t) => off == off' && tySz P t size | none => false) && mX o x && mParts P place l m
 | _, _ => false
def tyField (P : Program) (t : TypeId) (i : Nat) : Option (Nat × TypeId) :=
 match P.underlying t with
 | some (.struct fs) => (fs[i]?).map fun f => (f.offset, f.type)
 | _ => none
def tyPlace (P : Program) (e : TypeId) (i : Nat) : Option (Nat × TypeId) := some (i * P.cellsOf e, e)
def tyZero (P : Program) (t : TypeId) (v : V) : Bool := match (P.info? t).bind (·.zero) with | some z => mV 4 z v | none => false
def tyKind (P : Program) (t : TypeId) (k : IntKind) : Bool := match P.underlying t with | some (.int k') => k == k' | _ => false
def tyHas (P : Program) (t : TypeId) : Bool := (P.underlying t).isSome
def tyIsBool (P : Program) (t : TypeId) : Bool := match P.underlying t with | some .bool => true | _ => false
def tyIsStr (P : Program) (t : TypeId) : Bool := match P.underlying t with | some .string => true | _ => false
def zea (P : Program) (t : TypeId) : Option TypeId := match P.underlying t with | some (.slice e) => some e | _ => none

def tyArr (P : Program) (t : TypeId) (n size : Nat) (ag : Bool) : Bool := match P.underlying t with | some (.array n' e) => n == n' && tySz P e size && tyAg P e ag && decide (0 < size) | _ => false
def tyCell (P : Program) (t : TypeId) (b : Bool) : Bool := match P.underlying t with | some .bool => b | some (.int _) => !b | _ => false
def tyFlds (P : Program) : List Field → List (Nat × Bool) → Bool
 | [], [] => true
 | f :: fs, (o, b) :: l => f.name != "_" && f.offset == o && tyCell P f.type b && tyFlds P fs l
 | _, _ => false
def tyEq (P : Program) (t : TypeId) (l : List (Nat × Bool)) : Bool :=
 !(P.eqGuardType P.depth t) && (match P.underlying t with
   | some (.struct fs) => !(P.stoodInHeld t) && tyFlds P fs.toList l
   | some (.array n e) => (P.info? e).isSome && P.cellsOf e == 1 && tyCell P e false && l == (List.range n).map fun i => (i, false)
   | _ => false)
def tyRow (P : Program) (e : TypeId) (es : Nat) (bytes : Option Nat) (z : Option V) : Bool :=
 match P.info? e with
 | some i => i.size == es && (match bytes with | some b => i.bytes == b | none => true) && (match i.zero with | some zv => zv.cells.size == es && (match z with | some z => mV 4 zv z | none => true) | none => false)
 | none => false

def nilC (P : Program) (t : TypeId) (k : Nat) (y : Operand) : Bool :=
 match P.underlying t, k, y with
 | some (.slice _), 0, .const (.slice none 0 0) => true
 | some (.pointer _), 1, .const (.pointer none) => true
 | some (.func _ _ _), 2, .const .nilFunc => true
 | _, _, _ => false

def mOp0 (P : Program) (o : Op) (op : AOp) : Bool :=
 match o, op with
 | .move x, .mov y => mX x y
 | .assign x, .mov y => mX x y
 | .pick c a b, .pick c' a' b' => mX c c' && mX a a' && mX b b'
 | .binOp f _ x y _, .bin f' x' y' => decide (f = f') && mX x x' && mX y y'
 | .binOp f t x y _, .eqB n x' y' => decide (f = if n then .neq else .eql) && tyIsBool P t && mX x x' && mX y y'
 | .binOp f t x y _, .red (.eqS n l) [x', y'] => decide (f = if n then .neq else .eql) && tyEq P t l && mX x x' && mX y y'
 | .binOp f t x y _, .isnil k n x' => decide (f = if n then .neq else .eql) && nilC P t k y && mX x x'
 | .unOp f _ x, .un f' x' => decide (f = f') && mX x x'
 | .convert s d x, .conv k x' => tyHas P s && tyKind P d k && mX x x'
 | .call { callee := .builtin .len, args, argTypes }, .len s x' =>
  (match args.toList, argTypes.toList with | [x], [t] => mX x x' && (if s then tyIsStr P t else (zea P t).isSome) | _, _ => false)
 | .call { callee := .builtin .max, args, .. }, .mm true x xs => mXs mX args.toList (x :: xs)
 | .call { callee := .builtin .min, args, .. }, .mm false x xs => mXs mX args.toList (x :: xs)
 | .extract x i, .ext x' i' => mX x x' && i == i'
 | .build t parts, .build z parts' =>
  tyZero P t (.agg z) && (match P.underlying t with
   | some (.struct fs) => fs.toList.all (fun f => (P.info? f.type).isSome) && mParts P (tyField P t) parts.toList parts'
   | some (.array n e) => (P.info? e).isSome && mParts P (tyPlace P e) parts.toList parts'
   | _ => false)
 | .field t x i, .fld off size ag x' => (match tyField P t i with | some (o, ft) => o == off && tySz P ft size && tyAg P ft ag | none => false) && mX x x'
 | .nilCheck x, .nilchk x' => mX x x'
 | .makeFunc (.func f) first caps, .mkFn f' caps' => f == f' && first.toList.isEmpty && mXs mX caps.toList caps'
 | .call { callee := .value (.func f), args, .. }, .call f' args' => f == f' && mXs mX args.toList args'
 | .call { callee := .value (.tmp n), args, .. }, .callV x args' => mX (.tmp n) x && mXs mX args.toList args'
 | .call { callee := .value (.func f), args, .. }, .callG f' args' => f == f' && mXs mX args.toList args'
 | .call { callee := .value (.tmp n), args, .. }, .callGV x args' => mX (.tmp n) x && mXs mX args.toList args'
 | .alloc t, .alloc size z => tySz P t size && tyZero P t z
 | .box _ x, .boxP x' => mX x x'
 | .load t x, .load size ag x' => tySz P t size && tyAg P t ag && (ag || decide (0 < size)) && mX x x'
 | .store t p x, .store size p' x' => tySz P t size && mX p p' && mX x x'
 | .fieldAddr t x i, .fldA off size ag x' => (match tyField P t i with | some (o, ft) => o == off && tySz P ft size && decide (0 < size) && tyAg P ft ag | none => false) && mX x x'
 | .indexAddr t x i, .arrA n size ag x' i' => tyArr P t n size ag && mX x x' && mX i i'
 | .indexAddr t x i, .idxA es x' i' => (match zea P t with | some e => tySz P e es | none => false) && mX x x' && mX i i'
 | .index t x i, .red .idxS [x', i'] => tyIsStr P t && mX x x' && mX i i'
 | .index t x i, .red (.aidx n size ag) [x', i'] => tyArr P t n size ag && mX x x' && mX i i'
 | .indexAddr t x i, .red (.aptr n size ag) [x', i'] => tyArr P t n size ag && mX x x' && mX i i'
 | .slice t x lo hi mx, .red (.slc es a b c) xs => (if es = 0 then tyIsStr P t else (match zea P t with | some e => tySz P e es | none => false)) && a == lo.isSome && b == hi.isSome && c == mx.isSome && mXs mX (x :: (lo.toList ++ hi.toList ++ mx.toList)) xs
 | .convert s d x, .red .s2b [x'] => tyHas P s && (match zea P d with | some e => tyKind P e .u8 | none => false) && mX x x'
 | .convert s d x, .red .b2s [x'] => (match zea P s with | some e => tyKind P e .u8 | none => false) && tyIsStr P d && mX x x'
 | .buildSlice t len parts, .new (.bsl es) xs => (match zea P t with | some e => tyRow P e es none none | none => false) && len == xs.length && parts.toList.map (·.1) == List.range len && mXs mX (parts.toList.map (·.2)) xs
 | .buildSlice t len parts, .red .bsz xs => (match zea P t with | some e => tyRow P e 1 none none | none => false) && len == xs.length && parts.toList.map (·.1) == List.range len && mXs mX (parts.toList.map (·.2)) xs
 | .makeSlice t l c, .new (.mks es bytes z) [l', c'] => (match zea P t with | some e => tyRow P e es (some bytes) (some z) | none => false) && mX l l' && mX c c'
 | .makeSlice t l c, .red (.mkz bytes k) [l', c'] => (match zea P t with | some e => tyRow P e 1 (some bytes) (some (.int k 0)) | none => false) && mX l l' && mX c c'
 | .call { callee := .builtin .append, args, argTypes }, .eff (.app es bytes) xs =>
  mXs mX args.toList xs && (match argTypes.toList with | [t, t'] => t == t' && (match zea P t with | some e => tyRow P e es (some bytes) none | none => false) | _ => false)
 | .call { callee := .builtin .copy, args, argTypes }, .eff (.cpy es) xs =>
  mXs mX args.toList xs && (match argTypes.toList with | [t, _] => (match zea P t with | some e => tySz P e es | none => false) | _ => false)
 | .box t x, .eff (.boxO size) [x'] => tySz P t size && mX x x'
 | .slice t x lo hi none, .win es x' lo' hi' => (match zea P t with | some e => tySz P e es && decide (0 < es) | none => false) && mX x x' && (match lo, hi with | some l, some h => mX l lo' && mX h hi' | _, _ => false)
 | .slice t x (some l) none none, .winF es x' lo' => (match zea P t with | some e => tySz P e es && decide (0 < es) | none => false) && mX x x' && mX l lo'
 | .convert s d x, .eff .b2sO [x'] => (match zea P s with | some e => tyKind P e .u8 | none => false) && tyIsStr P d && mX x x'
 | _, _ => false
def mOp (P : Program) (o : Op) (op : AOp) : Bool := mOp0 P o op.base
end Go.Gim

import Derived.Test.YtjmbcnfhonfpkaaGreatDoorF1
/- The program's code over such data: operations, regions, code, and what holds behind them. -/
namespace Go.Gim
open Go.RowKit

inductive X where
 | t (n : Nat)
 | c (v : V)
 | g (n : Nat)
 deriving Inhabited

structure St where
 env : Nat → V
 H : Hp
 nx : Nat
 hi : Nat

def St.ev (S : St) : X → V
 | .t n => S.env n
 | .c v => v
 | .g n => match gvs.find? (fun p => p.1 == n) with | some p => .pp p.2 | none => .junk

def upd (env : Nat → V) (d : Nat) (v : V) : Nat → V := fun s => if s = d then v else env s
@[simp] theorem upd_same (env : Nat → V) (d : Nat) (v : V) : upd env d v d = v := by simp [upd]
theorem upd_ne (env : Nat → V) {d s : Nat} (v : V) (h : s ≠ d) : upd env d v s = env s := by simp [upd, h]

def St.put (S : St) (d : Option Nat) (v : V) (H : Hp) : St :=
 match d with
 | some d => ⟨upd S.env d v, H, S.nx, S.hi⟩
 | none => ⟨S.env, H, S.nx, S.hi⟩
def St.know (S : St) (s : Nat) (b : Bool) : St := ⟨upd S.env s (.bool b), S.H, S.nx, S.hi⟩
def St.to (S : St) (h : Nat) : St := ⟨S.env, S.H, S.nx, h⟩

def E : List (Nat × V) → Nat → V
 | [], _ => .junk
 | (k, v) :: l, s => if s = k then v else E l s

def V.part (v : V) (off size : Nat) (agg : Bool) : Option V :=
 if off = 0 ∧ v.cells.length = size ∧ v.isAgg = agg then some v
 else if off + size ≤ v.cells.length then
  (if agg then some (.agg ((v.cells.drop off).take size)) else if size = 1 then (match v.cells[off]? with | some c => if c.isAgg then none else some c | none => none) else none)
 else none

def V.setPart (v : V) (off : Nat) (x : V) : Option V :=
 if off + x.cells.length ≤ v.cells.length then
  (if off = 0 ∧ v.cells.length = x.cells.length ∧ v.isAgg = x.isAgg then some x
   else some (.agg (v.cells.take off ++ x.cells ++ v.cells.drop (off + x.cells.length))))
 else none

def bitsV (k : IntKind) (f : BitVec k.bits → BitVec k.bits → BitVec k.bits) (a b : Int) : V :=
 .int k (k.wrap (f (BitVec.ofInt k.bits a) (BitVec.ofInt k.bits b)).toNat)

def intV (op : BinOp) (k : IntKind) (a b : Int) : Option V :=
 match op with
 | .add => some (.int k (k.wrap (a + b)))
 | .sub => some (.int k (k.wrap (a - b)))
 | .mul => some (.int k (k.wrap (a * b)))
 | .quo => if b = 0 then none else some (.int k (k.wrap (a.tdiv b)))
 | .rem => if b = 0 then none else some (.int k (a.tmod b))
 | .and => some (bitsV k (· &&& ·) a b)
 | .or => some (bitsV k (· ||| ·) a b)
 | .xor => some (bitsV k (· ^^^ ·) a b)
 | .andNot => some (bitsV k (fun a b => a &&& ~~~b) a b)
 | .eql => some (.bool (decide (a = b)))
 | .neq => some (.bool (!decide (a = b)))
 | .lss => some (.bool (decide (a < b)))
 | .leq => some (.bool (decide (a ≤ b)))
 | .gtr => some (.bool (decide (b < a)))
 | .geq => some (.bool (decide (b ≤ a)))
 | _ => none

def zdt (op : BinOp) (k : IntKind) (a b : Int) : Option V :=
 if b < 0 then none else
 match op with
 | .shl => some (.int k (k.wrap (a * 2 ^ (min b.toNat k.bits))))
 | .shr => some (.int k (a.fdiv (2 ^ (min b.toNat k.bits))))
 | _ => none

def strV (op : BinOp) (a b : ByteArray) : Option V :=
 match op with
 | .add => if a.size + b.size ≤ 9223372036854775807 then some (.str (a ++ b)) else none
 | .eql => some (.bool (decide (a.toList = b.toList)))
 | .neq => some (.bool (!decide (a.toList = b.toList)))
 | _ => none

def V.cellOk : V → Bool
 | .agg _ => false
 | .tup _ => false
 | .undef => false
 | .junk => false
 | _ => true

def binV (op : BinOp) (x y : V) : Option V :=
 match x, y with
 | .int k a, .int k' b => if op = .shl ∨ op = .shr then zdt op k a b else if k = k' then intV op k a b else none
 | .str a, .str b => strV op a b
 | _, _ => none

def unV (op : UnOp) (x : V) : Option V :=
 match op, x with
 | .neg, .int k n => some (.int k (k.wrap (0 - n)))
 | .not, .bool b => some (.bool !b)
 | _, _ => none

def lenV (str : Bool) (x : V) : Option V :=
 match str, x with
 | true, .str s => some (.int .i64 s.size)
 | false, .sl xs => some (.int .i64 xs.length)
 | false, .nil => some (.int .i64 0)
 | false, .win _ _ _ len => some (.int .i64 len)
 | _, _ => none

def mmV (mx : Bool) : V → List V → Option V
 | v, [] => some v
 | .int k x, .int _ y :: l => mmV mx (.int k (if mx then (if y > x then y else x) else (if y < x then y else x))) l
 | _, _ => none

def V.isJunk : V → Bool
 | .junk => true
 | _ => false

def fillV (cells : List V) : List (Nat × Nat × V) → Option (List V)
 | [] => some cells
 | (off, size, v) :: l =>
  if v.isJunk = false ∧ v.cells.length = size ∧ off + size ≤ cells.length then fillV (cells.take off ++ v.cells ++ cells.drop (off + size)) l else none

def allOf {α β : Type} (f : α → Option β) : List α → Option (List β)
 | [] => some []
 | x :: l => match f x, allOf f l with | some y, some ys => some (y :: ys) | _, _ => none

def frz (H : Hp) : Nat → V → Option V
 | 0, _ => none
 | n + 1, v =>
  match v with
  | .agg cs => (allOf (frz H n) cs).map .agg
  | .tup cs => (allOf (frz H n) cs).map .tup
  | .fn f cs => (allOf (frz H n) cs).map (.fn f)
  | .nil => some (.sl [])
  | .own b m => match H b with | some blk => if blk.elems.length = m then (allOf (frz H n) blk.elems).map .sl else none | none => none
  | .ptr b m i off => match H b with
   | some blk => if blk.elems.length = m ∧ off = 0 then (match blk.elems[i]? with | some e => (frz H n e).map .pp | none => none) else none
   | none => none
  | .win _ _ _ _ => none
  | v => some v
def V.sub (g : Nat → Option (List V)) : V → V
 | .own b m => match g b with | some xs => if xs.length = m then .sl xs else .own b m | none => .own b m
 | .ptr b m i off => match g b with | some xs => if xs.length = m ∧ off = 0 then (match xs[i]? with | some e => .pp e | none => .ptr b m i off) else .ptr b m i off | none => .ptr b m i off
 | .agg cs => .agg (cs.attach.map fun ⟨c, _⟩ => c.sub g)
 | .tup cs => .tup (cs.attach.map fun ⟨c, _⟩ => c.sub g)
 | .fn f cs => .fn f (cs.attach.map fun ⟨c, _⟩ => c.sub g)
 | v => v
theorem sub_agg (g) (cs : List V) : V.sub g (.agg cs) = .agg (cs.map (V.sub g)) := by rw [V.sub]; congr 1; exact List.attach_map_val (f := V.sub g) (l := cs)
theorem sub_tup (g) (cs : List V) : V.sub g (.tup cs) = .tup (cs.map (V.sub g)) := by rw [V.sub]; congr 1; exact List.attach_map_val (f := V.sub g) (l := cs)
theorem sub_fn (g) (f) (cs : List V) : V.sub g (.fn f cs) = .fn f (cs.map (V.sub g)) := by rw [V.sub]; congr 1; exact List.attach_map_val (f := V.sub g) (l := cs)
def Hp.sub (g : Nat → Option (List V)) (H : Hp) : Hp := fun b => if (g b).isSome then none else (H b).map fun blk => ⟨blk.elems.map (V.sub g), blk.size⟩
def Fz (H : Hp) (g : Nat → Option (List V)) : Prop := ∀ b xs, g b = some xs → ∃ blk, H b = some blk ∧ xs = blk.elems.map (V.sub g) ∧ ∀ e ∈ xs, ∀ c ∈ e.cells, V.Pure c
def St.fz (g : Nat → Option (List V)) (S : St) : St := ⟨fun s => (S.env s).sub g, S.H.sub g, S.nx, S.hi⟩
inductive Ghost : St → St → Prop where
 | refl (S) : Ghost S S
 | trans {S S' S''} : Ghost S S' → Ghost S' S'' → Ghost S S''
 | fz (S g) (h : Fz S.H g) : Ghost S (S.fz g)
 | drop (S) (H' : Hp) (h : ∀ b, H' b = none ∨ H' b = S.H b) : Ghost S ⟨S.env, H', S.nx, S.hi⟩
 | up (S) (n : Nat) (h : S.nx ≤ n) : Ghost S ⟨S.env, S.H, n, n⟩
 | weak (S) (env : Nat → V) (h : ∀ s, env s = S.env s ∨ (S.env s = .nil ∧ env s = .sl [])) : Ghost S ⟨env, S.H, S.nx, S.hi⟩

inductive ROp where
 | idxS
 | slc (es : Nat) (lo hi mx : Bool)
 | s2b
 | b2s
 | aidx (n size : Nat) (ag : Bool)
 | aptr (n size : Nat) (ag : Bool)
 | ldP (size : Nat) (ag : Bool)
 | faP (off size : Nat) (ag : Bool)
 | ixP (es : Nat)
 | lenP (str : Bool)
 | mkz (bytes : Nat) (k : IntKind)
 | bsz
 | eqS (neg : Bool) (l : List (Nat × Bool))
inductive NOp where
 | bsl (es : Nat)
 | mks (es bytes : Nat) (zero : V)
inductive EOp where
 | app (es bytes : Nat)
 | cpy (es : Nat)
 | b2sO
 | boxO (size : Nat)

def slcArgs : Bool → Bool → Bool → List V → Option (Option Int × Option Int × Option Int)
 | false, false, false, [] => some (none, none, none)
 | true, false, false, [.int _ l] => some (some l, none, none)
 | false, true, false, [.int _ h] => some (none, some h, none)
 | true, true, false, [.int _ l, .int _ h] => some (some l, some h, none)
 | false, true, true, [.int _ h, .int _ m] => some (none, some h, some m)
 | true, true, true, [.int _ l, .int _ h, .int _ m] => some (some l, some h, some m)
 | _, _, _, _ => none
def slcV (es : Nat) (x : V) (lo hi mx : Option Int) : Option V :=
 match x with
 | .str s => if es = 0 ∧ mx = none ∧ 0 ≤ lo.getD 0 ∧ lo.getD 0 ≤ hi.getD s.size ∧ hi.getD s.size ≤ s.size then some (.str (s.extract (lo.getD 0).toNat (hi.getD s.size).toNat)) else none
 | .sl xs => if 0 < es ∧ 0 ≤ lo.getD 0 ∧ lo.getD 0 ≤ hi.getD xs.length ∧ hi.getD xs.length ≤ mx.getD xs.length ∧ mx.getD xs.length ≤ xs.length ∧ (lo.getD 0 = 0 ∨ xs.all (fun e => e.cells.length == es) = true) then
   (if mx = some (lo.getD 0) then some .nil else some (.sl ((xs.take (hi.getD xs.length).toNat).drop (lo.getD 0).toNat))) else none
 | .nil => if 0 < es ∧ lo.getD 0 = 0 ∧ hi.getD 0 = 0 ∧ mx.getD 0 = 0 then some .nil else none
 | _ => none
def byteV : V → Option UInt8
 | .int .u8 n => some (UInt8.ofNat n.toNat)
 | _ => none
def V.isSl : V → Bool
 | .sl _ => true
 | .int _ _ => true
 | _ => false
def cellEq : Bool → V → V → Option Bool
 | true, .bool a, .bool b => some (a == b)
 | false, .int k a, .int k' b => if k = k' then some (decide (a = b)) else none
 | _, _, _ => none
def cellsEq (xs ys : List V) : List (Nat × Bool) → Option Bool
 | [] => some true
 | (o, c) :: l => (cellEq c (xs.getD o .junk) (ys.getD o .junk)).bind fun r => (cellsEq xs ys l).map fun q => r && q
def redV : ROp → List V → Option V
 | .idxS, [.str s, .int _ j] => if 0 ≤ j then (s.data.toList[j.toNat]?).map (fun c => .int .u8 c.toNat) else none
 | .slc es a b c, x :: l => (slcArgs a b c l).bind fun q => slcV es x q.1 q.2.1 q.2.2
 | .s2b, [.str s] => some (.sl (s.data.toList.map fun c => .int .u8 c.toNat))
 | .b2s, [.sl xs] => (allOf byteV xs).map fun l => .str ⟨l.toArray⟩
 | .b2s, [.nil] => some (.str ⟨#[]⟩)
 | .aidx n size ag, [.agg cs, .int _ j] => if 0 ≤ j ∧ j < n then V.part (.agg cs) (j.toNat * size) size ag else none
 | .ldP size ag, [.pp u] => V.part u 0 size ag
 | .faP off size ag, [.pp u] => (V.part u off size ag).map .pp
 | .ixP es, [.sl xs, .int _ j] => if 0 ≤ j then (xs[j.toNat]?).bind (fun e => if e.cells.length = es then some (.pp e) else none) else none
 | .lenP str, [x] => lenV str x
 | .aptr n size ag, [.pp u, .int _ j] => if 0 ≤ j ∧ j < n then (V.part u (j.toNat * size) size ag).map .pp else none
 | .mkz bytes k, [.int _ l, .int _ c] => if 0 ≤ l ∧ l ≤ c ∧ bytes * c ≤ 140737488355328 ∧ c ≤ 140737488355328 then some (.sl (List.replicate l.toNat (.int k 0))) else none
 | .bsz, vs => if vs.all V.isSl ∧ vs.length ≤ 16777216 then some (.sl vs) else none
 | .eqS neg l, [.agg xs, .agg ys] => (cellsEq xs ys l).map fun q => .bool (if neg then !q else q)
 | _, _ => none
def newV : NOp → List V → Option (Nat × Blk)
 | .bsl es, vs => if vs.all (fun v => !v.isJunk && v.cells.length == es) ∧ vs.length * es ≤ 16777216 ∧ 0 < es then some (vs.length, ⟨vs, es⟩) else none
 | .mks es bytes zero, [.int _ l, .int _ c] => if 0 ≤ l ∧ l ≤ c ∧ bytes * c ≤ 140737488355328 ∧ c ≤ 140737488355328 ∧ zero.cells.length = es ∧ 0 < es then some (l.toNat, ⟨List.replicate l.toNat zero, es⟩) else none
 | _, _ => none
def slOf (H : Hp) : V → Option (List V)
 | .sl xs => some xs
 | .nil => some []
 | .own b n => match H b with | some blk => if blk.elems.length = n then some blk.elems else none | none => none
 | .win b n off len => match H b with | some blk => if blk.elems.length = n ∧ off + len ≤ n then some ((blk.elems.drop off).take len) else none | none => none
 | _ => none
def V.notIn (b : Nat) : V → Bool
 | .own c _ => c != b
 | .win c _ _ _ => c != b
 | _ => true
def rowOk (es : Nat) (l : List V) : Bool := l.all fun e => !e.isJunk && e.cells.length == es && e.cells.all V.cellOk
def effV (H : Hp) (id : Nat) : EOp → List V → Option (V × Hp)
 | .app es bytes, [x, y] =>
  match slOf H y with
  | none => none
  | some news =>
   if rowOk es news ∧ 0 < es then
    match x with
    | .own b n => match H b with
     | some blk => if blk.elems.length = n ∧ blk.size = es ∧ (n + news.length) * bytes ≤ 140737488355328 ∧ n + news.length ≤ 140737488355328 ∧ y.notIn b then
       some (.own id (n + news.length), (H.upd b none).upd id (some ⟨blk.elems ++ news, es⟩)) else none
     | none => none
    | .nil => match news with
     | [] => some (.nil, H)
     | e :: l => if (l.length + 1) * bytes ≤ 140737488355328 ∧ l.length + 1 ≤ 140737488355328 then some (.own id (l.length + 1), H.upd id (some ⟨e :: l, es⟩)) else none
    | _ => none
   else none
 | .cpy es, [x, y] =>
  match slOf H y, x with
  | some src, .own b n => match H b with
   | some blk => if rowOk es src ∧ 0 < es ∧ blk.elems.length = n ∧ blk.size = es ∧ y.notIn b then
     some (.int .i64 (min src.length n : Nat), H.upd b (some ⟨src.take (min src.length n) ++ blk.elems.drop (min src.length n), es⟩)) else none
   | none => none
  | some src, .win b n off len => match H b with
   | some blk => if rowOk es src ∧ 0 < es ∧ blk.elems.length = n ∧ off + len ≤ n ∧ blk.size = es ∧ y.notIn b then
     some (.int .i64 (min src.length len : Nat), H.upd b (some ⟨blk.elems.take off ++ src.take (min src.length len) ++ blk.elems.drop (off + min src.length len), es⟩)) else none
   | none => none
  | _, _ => none
 | .b2sO, [x] => ((slOf H x).bind (allOf byteV)).map fun l => (.str ⟨l.toArray⟩, H)
 | .boxO size, [x] => if x.cells.length = size ∧ x.isJunk = false ∧ 0 < size ∧ x.cells.all V.cellOk then some (.ptr id 1 0 0, H.upd id (some ⟨[x], size⟩)) else none
 | _, _ => none

inductive AOp where
 | mov (x : X)
 | pick (c a b : X)
 | bin (op : BinOp) (x y : X)
 | un (op : UnOp) (x : X)
 | conv (k : IntKind) (x : X)
 | eqB (neg : Bool) (x y : X)
 | len (str : Bool) (x : X)
 | mm (mx : Bool) (x : X) (xs : List X)
 | ext (x : X) (i : Nat)
 | build (zero : List V) (parts : List (Nat × Nat × X))
 | fld (off size : Nat) (agg : Bool) (x : X)
 | nilchk (x : X)
 | mkFn (f : Nat) (caps : List X)
 | call (f : Nat) (args : List X)
 | callV (x : X) (args : List X)
 | alloc (size : Nat) (zero : V)
 | boxP (x : X)
 | load (size : Nat) (agg : Bool) (x : X)
 | loadN (size : Nat) (agg : Bool) (x : X) (av : List Nat)
 | store (size : Nat) (p x : X)
 | fldA (off size : Nat) (agg : Bool) (x : X)
 | idxA (es : Nat) (x i : X)
 | arrA (n size : Nat) (agg : Bool) (x i : X)
 | red (f : ROp) (xs : List X)
 | new (f : NOp) (xs : List X)
 | eff (f : EOp) (xs : List X)
 | callG (f : Nat) (args : List X)
 | callGV (x : X) (args : List X)
 | win (es : Nat) (x lo hi : X)
 | winF (es : Nat) (x lo : X)
 | isnil (k : Nat) (neg : Bool) (x : X)
 deriving Inhabited

structure It where
 dst : Option Nat
 g : Option (Nat × Bool)
 op : AOp
 deriving Inhabited

def Enters (P : Program) (f : Nat) : Prop := ∀ (args : Array Value) (w : World), (callFunc f args).run P w = .ok (.enter f args) w

def clash (b : Nat) : List V → Bool
 | [] => false
 | .ptr c _ _ _ :: l => c == b || clash b l
 | _ :: l => clash b l
theorem clash_at {b : Nat} : ∀ {l : List V}, clash b l = false → ∀ c n i o, V.ptr c n i o ∈ l → c ≠ b
 | [], _, c, n, i, o, h => by cases h
 | v :: l, hc, c, n, i, o, h => by
  rcases List.mem_cons.1 h with rfl | h
  ·simp only [clash, Bool.or_eq_false_iff, beq_eq_false_iff_ne] at hc; exact hc.1
  ·have : clash b l = false := by
    cases v <;> simp only [clash, Bool.or_eq_false_iff] at hc <;> first | exact hc | exact hc.2
   exact clash_at this c n i o h

def Ret (P : Program) (f : Nat) (args : List V) (r : V) : Prop :=
 Enters P f ∧ ∀ (M : Nat → Prop) (w : World) (vals : Array Value), (∀ g, M g → g < w.heap.size) → GOk M w → vals.size = args.length →
  (∀ i, i < args.length → Pur M w (args.getD i .junk) (vals.getD i Go.undef)) →
  Calls P f vals w fun e w' => ∃ x, e = .returned x ∧ Pur M w' r x ∧ Below w.heap.size w w'

structure Trans (φ φ' : Nat → Option Nat) (M M' U U' : Nat → Prop) (w w' : World) (H H' : Hp) : Prop where
 carry : Carry φ φ' M M' w w' H H' U U'
 hp : HpOk φ' M' w' H' U'
 Mb : (∀ g, M g → g < w.heap.size) → ∀ g, M' g → g < w'.heap.size
 M1 : ∀ g, M' g → M g ∨ w.heap.size ≤ g
 M2 : ∀ g, M g → M' g ∨ ∃ b, H b ≠ none ∧ φ b = some g
 os : w'.os = w.os
 tape : w'.tape = w.tape
 output : w'.output = w.output
 size : w.heap.size ≤ w'.heap.size
 old : ∀ g, g < w.heap.size → (∀ b, H b ≠ none → φ b ≠ some g) → w'.heap[g]? = w.heap[g]?
 loc : ∀ b g, H' b ≠ none → φ' b = some g → (∃ c, H c ≠ none ∧ φ c = some g) ∨ w.heap.size ≤ g

def RetG (P : Program) (f : Nat) (args : List V) (H : Hp) (n : Nat) (r : V) (H' : Hp) (n' : Nat) : Prop :=
 Enters P f ∧ n ≤ n' ∧ ∀ (φ : Nat → Option Nat) (M U : Nat → Prop) (w : World) (vals : Array Value), (∀ b, U b → b < n) → (∀ g, M g → g < w.heap.size) → GOk M w → HpOk φ M w H U → vals.size = args.length →
  (∀ k, k < args.length → Sim φ M w H U (args.getD k .junk) (vals.getD k Go.undef)) →
  Calls P f vals w fun e w' => ∃ x φ' M', e = .returned x ∧ Trans φ φ' M M' U (fun b => U b ∨ (n ≤ b ∧ b < n')) w w' H H' ∧ Sim φ' M' w' H' (fun b => U b ∨ (n ≤ b ∧ b < n')) r x

def step1 (P : Program) (dr : Bool) (id : Nat) (op : AOp) (S : St) (v : V) (H : Hp) : Prop :=
 match op with
 | .mov x => S.ev x = v ∧ S.H = H
 | .pick c a b => match S.ev c with | .bool t => (if t then S.ev a else S.ev b) = v ∧ S.H = H | _ => False
 | .bin op x y => binV op (S.ev x) (S.ev y) = some v ∧ S.H = H
 | .un op x => unV op (S.ev x) = some v ∧ S.H = H
 | .conv k x => match S.ev x with | .int _ n => V.int k (k.wrap n) = v ∧ S.H = H | _ => False
 | .eqB neg x y => match S.ev x, S.ev y with | .bool a, .bool b => V.bool (if neg then !decide (a = b) else decide (a = b)) = v ∧ S.H = H | _, _ => False
 | .len str x => match S.ev x with | .own b n => str = false ∧ (∃ blk, S.H b = some blk ∧ blk.elems.length = n) ∧ V.int .i64 n = v ∧ (dr = true → b < S.nx) ∧ S.H = H | y => lenV str y = some v ∧ S.H = H
 | .mm mx x xs => mmV mx (S.ev x) (xs.map S.ev) = some v ∧ S.H = H
 | .ext x i => match S.ev x with | .tup vs => vs[i]? = some v ∧ S.H = H | _ => False
 | .build zero parts => (∃ cs, fillV zero (parts.map fun p => (p.1, p.2.1, S.ev p.2.2)) = some cs ∧ V.agg cs = v) ∧ S.H = H
 | .fld off size agg x => match S.ev x with | .agg cs => V.part (.agg cs) off size agg = some v ∧ S.H = H | _ => False
 | .nilchk x => match S.ev x with | .pp u => V.pp u = v ∧ S.H = H | .ptr b n i off => (dr = true → b < S.nx) ∧ V.ptr b n i off = v ∧ (∃ blk, S.H b = some blk ∧ blk.elems.length = n) ∧ S.H = H | .fn f cs => V.fn f cs = v ∧ S.H = H | _ => False
 | .mkFn f caps => V.fn f (caps.map S.ev) = v ∧ S.H = H
 | .call f args => (∀ x ∈ args, (S.ev x).Pure) ∧ Ret P f (args.map S.ev) v ∧ S.H = H
 | .callV x args => match S.ev x with | .fn f caps => (∀ x ∈ args, (S.ev x).Pure) ∧ (∀ c ∈ caps, V.Pure c) ∧ Ret P f (args.map S.ev ++ caps) v ∧ S.H = H | _ => False
 | .alloc size zero => zero.cells.length = size ∧ V.ptr id 1 0 0 = v ∧ S.H.upd id (some ⟨[zero], size⟩) = H
 | .boxP x => (S.ev x).isJunk = false ∧ (S.ev x).Pure ∧ V.pp (S.ev x) = v ∧ S.H = H
 | .load size agg p => match S.ev p with
  | .pp u => V.part u 0 size agg = some v ∧ S.H = H
  | .ptr b n i off => (dr = true → b < S.nx) ∧ (∃ blk e, S.H b = some blk ∧ blk.elems.length = n ∧ blk.elems[i]? = some e ∧ V.part e off size agg = some v) ∧ S.H = H
  | _ => False
 | .loadN size agg p av => match S.ev p with
  | .pp u => V.part u 0 size agg = some v ∧ S.H = H
  | .ptr b n i off => clash b (av.map S.env) = false ∧ (dr = true → b < S.nx) ∧ (∃ blk e, S.H b = some blk ∧ blk.elems.length = n ∧ blk.elems[i]? = some e ∧ V.part e off size agg = some v) ∧ S.H = H
  | _ => False
 | .store size p x => match S.ev p with
  | .ptr b n i off => (S.ev x).cells.length = size ∧ V.undef = v ∧ ∃ blk e e', S.H b = some blk ∧ blk.elems.length = n ∧ blk.elems[i]? = some e ∧ V.setPart e off (S.ev x) = some e' ∧ (∀ c ∈ (S.ev x).cells, c.cellOk = true) ∧
    S.H.upd b (some ⟨blk.elems.set i e', blk.size⟩) = H
  | _ => False
 | .fldA off size agg p => match S.ev p with
  | .pp u => (∃ u', V.part u off size agg = some u' ∧ V.pp u' = v) ∧ S.H = H
  | .ptr b n i o => (dr = true → b < S.nx) ∧ V.ptr b n i (o + off) = v ∧ (∃ blk, S.H b = some blk ∧ blk.elems.length = n) ∧ S.H = H
  | _ => False
 | .idxA es x i => match S.ev x, S.ev i with
  | .sl xs, .int _ j => 0 ≤ j ∧ (∃ e, xs[j.toNat]? = some e ∧ e.cells.length = es ∧ V.pp e = v) ∧ S.H = H
  | .own b n, .int _ j => 0 ≤ j ∧ j < n ∧ V.ptr b n j.toNat 0 = v ∧ (∃ blk, S.H b = some blk ∧ blk.elems.length = n ∧ blk.size = es) ∧ (dr = true → b < S.nx) ∧ S.H = H
  | .win b n off len, .int _ j => 0 ≤ j ∧ j < len ∧ off + len ≤ n ∧ V.ptr b n (off + j.toNat) 0 = v ∧ (∃ blk, S.H b = some blk ∧ blk.elems.length = n ∧ blk.size = es) ∧ (dr = true → b < S.nx) ∧ S.H = H
  | _, _ => False
 | .arrA n size _ x i => match S.ev x, S.ev i with
  | .ptr b m k o, .int _ j => (0 ≤ j ∧ j < n) ∧ V.ptr b m k (o + j.toNat * size) = v ∧ (∃ blk, S.H b = some blk ∧ blk.elems.length = m) ∧ (dr = true → b < S.nx) ∧ S.H = H
  | _, _ => False
 | .win es x lo hi => match S.ev x, S.ev lo, S.ev hi with
  | .own b n, .int _ l, .int _ h => 0 ≤ l ∧ l < h ∧ h ≤ n ∧ V.win b n l.toNat (h - l).toNat = v ∧ (∃ blk, S.H b = some blk ∧ blk.elems.length = n ∧ blk.size = es) ∧ (dr = true → b < S.nx) ∧ S.H = H
  | _, _, _ => False
 | .winF es x lo => match S.ev x, S.ev lo with
  | .own b n, .int _ l => 0 ≤ l ∧ l < n ∧ V.win b n l.toNat (n - l.toNat) = v ∧ (∃ blk, S.H b = some blk ∧ blk.elems.length = n ∧ blk.size = es) ∧ (dr = true → b < S.nx) ∧ S.H = H
  | _, _ => False
 | .isnil k neg x => match k, S.ev x with
  | 0, .sl (_ :: _) => V.bool neg = v ∧ S.H = H
  | 0, .own b (n + 1) => V.bool neg = v ∧ (∃ blk, S.H b = some blk ∧ blk.elems.length = n + 1) ∧ (dr = true → b < S.nx) ∧ S.H = H
  | 0, .win b n _ (_ + 1) => V.bool neg = v ∧ (∃ blk, S.H b = some blk ∧ blk.elems.length = n) ∧ (dr = true → b < S.nx) ∧ S.H = H
  | 1, .nilptr => V.bool (!neg) = v ∧ S.H = H
  | 1, .pp _ => V.bool neg = v ∧ S.H = H
  | 1, .ptr b n _ _ => V.bool neg = v ∧ (∃ blk, S.H b = some blk ∧ blk.elems.length = n) ∧ (dr = true → b < S.nx) ∧ S.H = H
  | 2, .fn _ _ => V.bool neg = v ∧ S.H = H
  | 2, .nilfn => V.bool (!neg) = v ∧ S.H = H
  | _, _ => False
 | .callG _ _ => False
 | .callGV _ _ => False
 | .red f xs => redV f (xs.map S.ev) = some v ∧ S.H = H
 | .new f xs => ∃ n blk, newV f (xs.map S.ev) = some (n, blk) ∧ V.own id n = v ∧ S.H.upd id (some blk) = H
 | .eff f xs => effV S.H id f (xs.map S.ev) = some (v, H)

def AOp.base : AOp → AOp
 | .red (.ldP size ag) [x] => .load size ag x
 | .red (.faP off size ag) [x] => .fldA off size ag x
 | .red (.ixP es) [x, i] => .idxA es x i
 | .red (.lenP str) [x] => .len str x
 | .loadN size ag x _ => .load size ag x
 | op => op
theorem step_base {P : Program} {dr : Bool} {id : Nat} {op : AOp} {S : St} {v : V} {H : Hp} (h : step1 P dr id op S v H) : step1 P false id op.base S v H := by
 cases op with
 | red f xs =>
  have keep : step1 P false id (.red f xs) S v H := h
  obtain ⟨h1, h2⟩ := h
  unfold AOp.base
  split
  ·rename_i size ag x heq
   cases heq
   simp only [List.map_cons, List.map_nil] at h1
   simp only [step1]
   cases hx : S.ev x <;> simp [redV, hx] at h1
   exact ⟨h1, h2⟩
  ·rename_i off size ag x heq
   cases heq
   simp only [List.map_cons, List.map_nil] at h1
   simp only [step1]
   cases hx : S.ev x <;> simp [redV, hx] at h1
   exact ⟨h1, h2⟩
  ·rename_i es x i heq
   cases heq
   simp only [List.map_cons, List.map_nil] at h1
   simp only [step1]
   cases hx : S.ev x <;> cases hi : S.ev i <;> simp [redV, hx, hi] at h1
   obtain ⟨h0, h1⟩ := h1
   rw [Option.bind_eq_some_iff] at h1
   obtain ⟨e, h3, h4⟩ := h1
   split at h4
   ·rename_i h5; cases h4; exact ⟨h0, ⟨e, h3, h5, rfl⟩, h2⟩
   ·cases h4
  ·rename_i str x heq
   cases heq
   simp only [List.map_cons, List.map_nil] at h1
   have h1 : lenV str (S.ev x) = some v := h1
   simp only [step1]
   split
   ·rename_i b n hx
    rw [hx] at h1
    cases str <;> simp [lenV] at h1
   ·exact ⟨h1, h2⟩
  ·rename_i heq; cases heq
  ·exact keep
 | len str x =>
  simp only [AOp.base, step1] at h ⊢
  split at h
  ·obtain ⟨h1, h2, h3, _, h4⟩ := h; exact ⟨h1, h2, h3, (fun h => by cases h), h4⟩
  ·exact h
 | nilchk x =>
  simp only [AOp.base, step1] at h ⊢
  split at h
  ·exact h
  ·obtain ⟨_, h1, h2, h3⟩ := h; exact ⟨(fun h => by cases h), h1, h2, h3⟩
  ·exact h
  ·exact h
 | load size ag x =>
  simp only [AOp.base, step1] at h ⊢
  split at h
  ·exact h
  ·obtain ⟨_, h1, h2⟩ := h; exact ⟨(fun h => by cases h), h1, h2⟩
  ·exact h
 | loadN size ag x av =>
  simp only [AOp.base, step1] at h ⊢
  split at h
  ·exact h
  ·obtain ⟨_, _, h1, h2⟩ := h; exact ⟨(fun h => by cases h), h1, h2⟩
  ·exact h
 | fldA off size ag x =>
  simp only [AOp.base, step1] at h ⊢
  split at h
  ·exact h
  ·obtain ⟨_, h1, h2, h3⟩ := h; exact ⟨(fun h => by cases h), h1, h2, h3⟩
  ·exact h
 | idxA es x i =>
  simp only [AOp.base, step1] at h ⊢
  split at h
  ·exact h
  ·obtain ⟨h0, h1, h2, h3, _, h4⟩ := h; exact ⟨h0, h1, h2, h3, (fun h => by cases h), h4⟩
  ·obtain ⟨h0, h1, h2, h3, h4, _, h5⟩ := h; exact ⟨h0, h1, h2, h3, h4, (fun h => by cases h), h5⟩
  ·exact h
 | arrA n size ag x i =>
  simp only [AOp.base, step1] at h ⊢
  split at h
  ·obtain ⟨h0, h1, h2, _, h3⟩ := h; exact ⟨h0, h1, h2, (fun h => by cases h), h3⟩
  ·exact h
 | win es x lo hi =>
  simp only [AOp.base, step1] at h ⊢
  split at h
  ·obtain ⟨h0, h1, h2, h3, h4, _, h5⟩ := h; exact ⟨h0, h1, h2, h3, h4, (fun h => by cases h), h5⟩
  ·exact h
 | winF es x lo =>
  simp only [AOp.base, step1] at h ⊢
  split at h
  ·obtain ⟨h0, h1, h2, h3, _, h4⟩ := h; exact ⟨h0, h1, h2, h3, (fun h => by cases h), h4⟩
  ·exact h
 | isnil k neg x =>
  simp only [AOp.base, step1] at h ⊢
  split at h
  ·exact h
  ·obtain ⟨h0, h1, _, h2⟩ := h; exact ⟨h0, h1, (fun h => by cases h), h2⟩
  ·obtain ⟨h0, h1, _, h2⟩ := h; exact ⟨h0, h1, (fun h => by cases h), h2⟩
  ·exact h
  ·exact h
  ·obtain ⟨h0, h1, _, h2⟩ := h; exact ⟨h0, h1, (fun h => by cases h), h2⟩
  ·exact h
  ·exact h
  ·exact h
 | _ => exact h

def stepG (P : Program) (dr : Bool) (id : Nat) (op : AOp) (S : St) (v : V) (S' : St) : Prop :=
 match op with
 | .callG f args => (∃ H h, RetG P f (args.map S.ev) S.H S.hi v H h ∧ S' = ⟨S.env, H, S.nx, h⟩) ∨
   (dr = false ∧ ∃ g H h, Fz S.H g ∧ RetG P f ((args.map S.ev).map (V.sub g)) (S.H.sub g) S.hi v H h ∧ S' = ⟨(S.fz g).env, H, S.nx, h⟩)
 | .callGV x args => match S.ev x with
  | .fn f caps => ∃ H h, RetG P f (args.map S.ev ++ caps) S.H S.hi v H h ∧ S' = ⟨S.env, H, S.nx, h⟩
  | _ => False
 | op => ∃ H, step1 P dr id op S v H ∧ S' = ⟨S.env, H, S.nx, S.hi⟩
def St.set (S : St) (d : Option Nat) (v : V) : St := S.put d v S.H

def WOps (P : Program) (dr : Bool) : Nat → List It → St → (St → Prop) → Prop
 | _, [], S, K => K S
 | idx, it :: l, S, K =>
  match it.g with
  | none => ∃ v S1, stepG P dr (S.nx + idx) it.op S v S1 ∧ WOps P dr (idx + 1) l (S1.set it.dst v) K
  | some (s, want) =>
   match S.env s with
   | .bool b =>
    (b = want → ∃ v S1, stepG P dr (S.nx + idx) it.op (S.know s want) v S1 ∧ WOps P dr (idx + 1) l (S1.set it.dst v) K) ∧
    (b = !want → WOps P dr (idx + 1) l ((S.know s !want).put it.dst .undef S.H) K)
   | .undef => WOps P dr (idx + 1) l (S.put it.dst .undef S.H) K
   | _ => False

inductive AX where
 | normal
 | exit (id : Nat)
 | ret

inductive K where
 | skip
 | ret
 | exit (id : Nat)
 | seq (a b : K)
 | cond (x : X) (a b : K)
 | block (id : Nat) (a : K)
 | loop (a : K)
 | ops (dr : Bool) (l : List It)
 | keep (ks : List Nat) (a : K)
 | gh (a : K)
 | scope (a : K)
 deriving Inhabited

def AX.then (K : St → Prop) (Q : AX → St → Prop) : AX → St → Prop
 | .normal, S => K S
 | e, S => Q e S
def AX.inBlock (id : Nat) (Q : AX → St → Prop) : AX → St → Prop
 | .exit id', S => if id' = id then Q .normal S else Q (.exit id') S
 | e, S => Q e S

def St.keep (S : St) (ks : List Nat) : St := ⟨E (ks.map fun k => (k, S.env k)), S.H, S.nx, S.hi⟩

def W (P : Program) : K → (AX → St → Prop) → St → Prop
 | .skip, Q, S => Q .normal S
 | .ret, Q, S => Q .ret S
 | .exit id, Q, S => Q (.exit id) S
 | .seq a b, Q, S => W P a (AX.then (W P b Q) Q) S
 | .cond x a b, Q, S => match S.ev x with | .bool t => (t = true → W P a Q S) ∧ (t = false → W P b Q S) | _ => False
 | .block id a, Q, S => W P a (AX.inBlock id Q) S
 | .loop a, Q, S => ∃ (I : St → Prop) (μ : St → Nat), (∃ S0, Ghost S S0 ∧ I S0) ∧ ∀ S, I S → W P a (AX.then (fun S' => ∃ S'', Ghost S' S'' ∧ I S'' ∧ μ S'' < μ S) Q) S
 | .ops dr l, Q, S => WOps P dr 0 l ⟨S.env, S.H, S.nx, S.nx + l.length⟩ fun S' => Q .normal ⟨S'.env, S'.H, S'.hi, S'.hi⟩
 | .keep ks a, Q, S => W P a (AX.then (fun S' => Q .normal (S'.keep ks)) Q) S
 | .gh a, Q, S => ∃ S0, Ghost S S0 ∧ W P a Q S0
 | .scope a, Q, S => W P a Q S

abbrev RX := Nat × Option (Nat × Bool)
def resV (S : St) : RX → Option V
 | (s, none) => some (S.env s)
 | (s, some (size, ag)) => match S.env s with
  | .pp u => V.part u 0 size ag
  | .ptr b n i off => match S.H b with
   | some blk => if blk.elems.length = n then (match blk.elems[i]? with | some e => V.part e off size ag | none => none) else none
   | none => none
  | _ => none
def one : List V → V
 | [v] => v
 | l => .tup l
def Fin (res : List RX) (S : St) (r : V) : Prop := ∃ vs, allOf (fun x => (resV S x).bind (frz S.H 8)) res = some vs ∧ one vs = r

def argsE : Nat → List V → List (Nat × V)
 | _, [] => []
 | k, v :: l => (k, v) :: argsE (k + 1) l
def startG (args : List V) (H : Hp) (n : Nat) : St := ⟨E (argsE 0 args), H, n, n⟩
def start (args : List V) : St := startG args (fun _ => none) 0
def FinG (res : List RX) (S : St) (Q : V → Hp → Nat → Prop) : Prop := ∃ vs, allOf (resV S) res = some vs ∧ Q (one vs) S.H S.nx
abbrev Ot (d : Nat) (o : AOp) : It := ⟨some d, none, o⟩
abbrev kp (s : List Nat) (l : List It) : K := .keep s (.ops false l)
abbrev kd (s : List Nat) (l : List It) : K := .keep s (.ops true l)
abbrev Og (d g : Nat) (o : AOp) : It := ⟨some d, some (g, false), o⟩
abbrev Oh (d g : Nat) (o : AOp) : It := ⟨some d, some (g, true), o⟩
abbrev Oy (k a b : Nat) : It := ⟨none, none, .store k (.t a) (.t b)⟩
abbrev Om (d a : Nat) : It := ⟨some d, none, .mov (.t a)⟩
abbrev Ol (d k a : Nat) : It := ⟨some d, none, .load k false (.t a)⟩
abbrev OL (d k a : Nat) : It := ⟨some d, none, .load k true (.t a)⟩
abbrev Oq (d a b c : Nat) : It := ⟨some d, none, .fldA a b false (.t c)⟩
abbrev Oi (d k a b : Nat) : It := ⟨some d, none, .idxA k (.t a) (.t b)⟩
abbrev Oc (d : Nat) (n : Int) : It := ⟨some d, none, .mov (.c (.int .i64 n))⟩
abbrev On (d a : Nat) : It := ⟨some d, none, .len false (.t a)⟩
abbrev ci (n : Int) : X := .c (.int .i64 n)
end Go.Gim

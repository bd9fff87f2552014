/- The program's code over such data: operations, regions, code, and what holds behind them. -/
import Derived.Test.YtoehjhcfilonoaaF1
namespace Go.Gim
open Go.RowKit

inductive X where
  | t (n : Nat)
  | c (v : V)
  deriving Inhabited

structure St where
  env : Nat → V
  H : Hp
  nx : Nat

def St.ev (S : St) : X → V
  | .t n => S.env n
  | .c v => v

def upd (env : Nat → V) (d : Nat) (v : V) : Nat → V := fun s => if s = d then v else env s
@[simp] theorem upd_same (env : Nat → V) (d : Nat) (v : V) : upd env d v d = v := by simp [upd]
theorem upd_ne (env : Nat → V) {d s : Nat} (v : V) (h : s ≠ d) : upd env d v s = env s := by simp [upd, h]

def St.put (S : St) (d : Option Nat) (v : V) (H : Hp) : St :=
  match d with
  | some d => ⟨upd S.env d v, H, S.nx⟩
  | none => ⟨S.env, H, S.nx⟩
def St.know (S : St) (s : Nat) (b : Bool) : St := ⟨upd S.env s (.bool b), S.H, S.nx⟩

/-- The environment that a list tells. -/
def E : List (Nat × V) → Nat → V
  | [], _ => .junk
  | (k, v) :: l, s => if s = k then v else E l s

/-- A part of a value. -/
def V.part (v : V) (off size : Nat) (agg : Bool) : Option V :=
  if off = 0 ∧ v.cells.length = size ∧ v.isAgg = agg then some v
  else if off + size ≤ v.cells.length then
    (if agg then some (.agg ((v.cells.drop off).take size)) else if size = 1 then (match v.cells[off]? with | some c => if c.isAgg then none else some c | none => none) else none)
  else none

/-- A value with a part set. -/
def V.setPart (v : V) (off : Nat) (x : V) : Option V :=
  if off + x.cells.length ≤ v.cells.length then
    (if off = 0 ∧ v.cells.length = x.cells.length ∧ v.isAgg = x.isAgg then some x
     else some (.agg (v.cells.take off ++ x.cells ++ v.cells.drop (off + x.cells.length))))
  else none

def bitsV (k : IntKind) (f : BitVec k.bits → BitVec k.bits → BitVec k.bits) (a b : Int) : V :=
  .int k (k.wrap (f (BitVec.ofInt k.bits a) (BitVec.ofInt k.bits b)).toNat)

def intV (op : BinOp) (k : IntKind) (a b : Int) : Option V :=
  match op with
  | .add => some (.int k (k.wrap (a + b)))
  | .sub => some (.int k (k.wrap (a - b)))
  | .mul => some (.int k (k.wrap (a * b)))
  | .quo => if b = 0 then none else some (.int k (k.wrap (a.tdiv b)))
  | .rem => if b = 0 then none else some (.int k (a.tmod b))
  | .and => some (bitsV k (· &&& ·) a b)
  | .or => some (bitsV k (· ||| ·) a b)
  | .xor => some (bitsV k (· ^^^ ·) a b)
  | .andNot => some (bitsV k (fun a b => a &&& ~~~b) a b)
  | .eql => some (.bool (decide (a = b)))
  | .neq => some (.bool (!decide (a = b)))
  | .lss => some (.bool (decide (a < b)))
  | .leq => some (.bool (decide (a ≤ b)))
  | .gtr => some (.bool (decide (b < a)))
  | .geq => some (.bool (decide (b ≤ a)))
  | _ => none

def shiftV (op : BinOp) (k : IntKind) (a b : Int) : Option V :=
  if b < 0 then none else
  match op with
  | .shl => some (.int k (k.wrap (a * 2 ^ (min b.toNat k.bits))))
  | .shr => some (.int k (a.fdiv (2 ^ (min b.toNat k.bits))))
  | _ => none

def strV (op : BinOp) (a b : ByteArray) : Option V :=
  match op with
  | .add => if a.size + b.size ≤ 9223372036854775807 then some (.str (a ++ b)) else none
  | .eql => some (.bool (decide (a.toList = b.toList)))
  | .neq => some (.bool (!decide (a.toList = b.toList)))
  | _ => none

/-- One cell can hold it. -/
def V.cellOk : V → Bool
  | .agg _ => false
  | .tup _ => false
  | .undef => false
  | .junk => false
  | _ => true

def binV (op : BinOp) (x y : V) : Option V :=
  match x, y with
  | .int k a, .int k' b => if op = .shl ∨ op = .shr then shiftV op k a b else if k = k' then intV op k a b else none
  | .str a, .str b => strV op a b
  | _, _ => none

def unV (op : UnOp) (x : V) : Option V :=
  match op, x with
  | .neg, .int k n => some (.int k (k.wrap (0 - n)))
  | .not, .bool b => some (.bool !b)
  | _, _ => none

def lenV (str : Bool) (x : V) : Option V :=
  match str, x with
  | true, .str s => some (.int .i64 s.size)
  | false, .sl xs => some (.int .i64 xs.length)
  | false, .nil => some (.int .i64 0)
  | _, _ => none

def mmV (mx : Bool) : V → List V → Option V
  | v, [] => some v
  | .int k x, .int _ y :: l => mmV mx (.int k (if mx then (if y > x then y else x) else (if y < x then y else x))) l
  | _, _ => none

def V.isJunk : V → Bool
  | .junk => true
  | _ => false

/-- A struct's parts, laid over its zero value's cells. -/
def fillV (cells : List V) : List (Nat × Nat × V) → Option (List V)
  | [] => some cells
  | (off, size, v) :: l =>
    if v.isJunk = false ∧ v.cells.length = size ∧ off + size ≤ cells.length then fillV (cells.take off ++ v.cells ++ cells.drop (off + size)) l else none

inductive AOp where
  | mov (x : X)
  | pick (c a b : X)
  | bin (op : BinOp) (x y : X)
  | un (op : UnOp) (x : X)
  | conv (k : IntKind) (x : X)
  | eqB (neg : Bool) (x y : X)
  | len (str : Bool) (x : X)
  | mm (mx : Bool) (x : X) (xs : List X)
  | ext (x : X) (i : Nat)
  | build (zero : List V) (parts : List (Nat × Nat × X))
  | fld (off size : Nat) (agg : Bool) (x : X)
  | nilchk (x : X)
  | mkFn (f : Nat) (caps : List X)
  | call (f : Nat) (args : List X)
  | callV (x : X) (args : List X)
  | alloc (size : Nat) (zero : V)
  | boxP (x : X)
  | load (size : Nat) (agg : Bool) (x : X)
  | store (size : Nat) (p x : X)
  | fldA (off size : Nat) (agg : Bool) (x : X)
  | idxA (es : Nat) (x i : X)
  deriving Inhabited

structure It where
  dst : Option Nat
  g : Option (Nat × Bool)
  op : AOp
  deriving Inhabited

/-- The machine's call f is a call of a function with a body. -/
def Enters (P : Program) (f : Nat) : Prop := ∀ (args : Array Value) (w : World), (callFunc f args).run P w = .ok (.enter f args) w

/-- Called with args, the function comes back with r, having turned nothing that was there. -/
def Ret (P : Program) (f : Nat) (args : List V) (r : V) : Prop :=
  Enters P f ∧ ∀ (M : Nat → Prop) (w : World) (vals : Array Value), (∀ g, M g → g < w.heap.size) → vals.size = args.length →
    (∀ i, i < args.length → Pur M w (args.getD i .junk) (vals.getD i Go.undef)) →
    Calls P f vals w fun e w' => ∃ x, e = .returned x ∧ Pur M w' r x ∧ Below w.heap.size w w'

def step1 (P : Program) (dr : Bool) (id : Nat) (op : AOp) (S : St) (v : V) (H : Hp) : Prop :=
  match op with
  | .mov x => S.ev x = v ∧ S.H = H
  | .pick c a b => match S.ev c with | .bool t => (if t then S.ev a else S.ev b) = v ∧ S.H = H | _ => False
  | .bin op x y => binV op (S.ev x) (S.ev y) = some v ∧ S.H = H
  | .un op x => unV op (S.ev x) = some v ∧ S.H = H
  | .conv k x => match S.ev x with | .int _ n => V.int k (k.wrap n) = v ∧ S.H = H | _ => False
  | .eqB neg x y => match S.ev x, S.ev y with | .bool a, .bool b => V.bool (if neg then !decide (a = b) else decide (a = b)) = v ∧ S.H = H | _, _ => False
  | .len str x => match S.ev x with | .own b n => str = false ∧ (∃ blk, S.H b = some blk ∧ blk.elems.length = n) ∧ V.int .i64 n = v ∧ (dr = true → b < S.nx) ∧ S.H = H | y => lenV str y = some v ∧ S.H = H
  | .mm mx x xs => mmV mx (S.ev x) (xs.map S.ev) = some v ∧ S.H = H
  | .ext x i => match S.ev x with | .tup vs => vs[i]? = some v ∧ S.H = H | _ => False
  | .build zero parts => (∃ cs, fillV zero (parts.map fun p => (p.1, p.2.1, S.ev p.2.2)) = some cs ∧ V.agg cs = v) ∧ S.H = H
  | .fld off size agg x => match S.ev x with | .agg cs => V.part (.agg cs) off size agg = some v ∧ S.H = H | _ => False
  | .nilchk x => match S.ev x with | .pp u => V.pp u = v ∧ S.H = H | .ptr b n i off => (dr = true → b < S.nx) ∧ V.ptr b n i off = v ∧ (∃ blk, S.H b = some blk ∧ blk.elems.length = n) ∧ S.H = H | .fn f cs => V.fn f cs = v ∧ S.H = H | _ => False
  | .mkFn f caps => V.fn f (caps.map S.ev) = v ∧ S.H = H
  | .call f args => (∀ x ∈ args, (S.ev x).Pure) ∧ Ret P f (args.map S.ev) v ∧ S.H = H
  | .callV x args => match S.ev x with | .fn f caps => (∀ x ∈ args, (S.ev x).Pure) ∧ (∀ c ∈ caps, V.Pure c) ∧ Ret P f (args.map S.ev ++ caps) v ∧ S.H = H | _ => False
  | .alloc size zero => zero.cells.length = size ∧ V.ptr id 1 0 0 = v ∧ S.H.upd id (some ⟨[zero], size, false⟩) = H
  | .boxP x => (S.ev x).isJunk = false ∧ (S.ev x).Pure ∧ V.pp (S.ev x) = v ∧ S.H = H
  | .load size agg p => match S.ev p with
    | .pp u => V.part u 0 size agg = some v ∧ S.H = H
    | .ptr b n i off => (dr = true → b < S.nx) ∧ (∃ blk e, S.H b = some blk ∧ blk.elems.length = n ∧ blk.elems[i]? = some e ∧ V.part e off size agg = some v) ∧ S.H = H
    | _ => False
  | .store size p x => match S.ev p with
    | .ptr b n i off => (S.ev x).cells.length = size ∧ V.undef = v ∧ ∃ blk e e', S.H b = some blk ∧ blk.frozen = false ∧ blk.elems.length = n ∧ blk.elems[i]? = some e ∧ V.setPart e off (S.ev x) = some e' ∧ (∀ c ∈ (S.ev x).cells, c.cellOk = true) ∧
        S.H.upd b (some ⟨blk.elems.set i e', blk.size, false⟩) = H
    | _ => False
  | .fldA off size agg p => match S.ev p with
    | .pp u => (∃ u', V.part u off size agg = some u' ∧ V.pp u' = v) ∧ S.H = H
    | .ptr b n i o => (dr = true → b < S.nx) ∧ V.ptr b n i (o + off) = v ∧ (∃ blk, S.H b = some blk ∧ blk.elems.length = n) ∧ S.H = H
    | _ => False
  | .idxA es x i => match S.ev x, S.ev i with
    | .sl xs, .int _ j => 0 ≤ j ∧ (∃ e, xs[j.toNat]? = some e ∧ e.cells.length = es ∧ V.pp e = v) ∧ S.H = H
    | .own b n, .int _ j => 0 ≤ j ∧ j < n ∧ V.ptr b n j.toNat 0 = v ∧ (∃ blk, S.H b = some blk ∧ blk.elems.length = n ∧ blk.size = es) ∧ (dr = true → b < S.nx) ∧ S.H = H
    | _, _ => False

/-- A region's operations, in the text's order, then K. -/
def WOps (P : Program) (dr : Bool) : Nat → List It → St → (St → Prop) → Prop
  | _, [], S, K => K S
  | idx, it :: l, S, K =>
    match it.g with
    | none => ∃ v H, step1 P dr (S.nx + idx) it.op S v H ∧ WOps P dr (idx + 1) l (S.put it.dst v H) K
    | some (s, want) =>
      match S.env s with
      | .bool b =>
        (b = want → ∃ v H, step1 P dr (S.nx + idx) it.op (S.know s want) v H ∧ WOps P dr (idx + 1) l ((S.know s want).put it.dst v H) K) ∧
        (b = !want → WOps P dr (idx + 1) l ((S.know s !want).put it.dst .undef S.H) K)
      | .undef => WOps P dr (idx + 1) l (S.put it.dst .undef S.H) K
      | _ => False

inductive AX where
  | normal
  | exit (id : Nat)
  | ret

inductive K where
  | skip
  | ret
  | exit (id : Nat)
  | seq (a b : K)
  | cond (x : X) (a b : K)
  | block (id : Nat) (a : K)
  | loop (a : K)
  | ops (dr : Bool) (l : List It)
  | keep (ks : List Nat) (a : K)
  deriving Inhabited

def AX.then (K : St → Prop) (Q : AX → St → Prop) : AX → St → Prop
  | .normal, S => K S
  | e, S => Q e S
def AX.inBlock (id : Nat) (Q : AX → St → Prop) : AX → St → Prop
  | .exit id', S => if id' = id then Q .normal S else Q (.exit id') S
  | e, S => Q e S

def St.keep (S : St) (ks : List Nat) : St := ⟨E (ks.map fun k => (k, S.env k)), S.H, S.nx⟩

def W (P : Program) : K → (AX → St → Prop) → St → Prop
  | .skip, Q, S => Q .normal S
  | .ret, Q, S => Q .ret S
  | .exit id, Q, S => Q (.exit id) S
  | .seq a b, Q, S => W P a (AX.then (W P b Q) Q) S
  | .cond x a b, Q, S => match S.ev x with | .bool t => (t = true → W P a Q S) ∧ (t = false → W P b Q S) | _ => False
  | .block id a, Q, S => W P a (AX.inBlock id Q) S
  | .loop a, Q, S => ∃ (I : St → Prop) (μ : St → Nat), I S ∧ ∀ S, I S → W P a (AX.then (fun S' => I S' ∧ μ S' < μ S) Q) S
  | .ops dr l, Q, S => WOps P dr 0 l S fun S' => Q .normal ⟨S'.env, S'.H, S'.nx + l.length⟩
  | .keep ks a, Q, S => W P a (AX.then (fun S' => Q .normal (S'.keep ks)) Q) S

/-- Of a list each one, or nothing. -/
def allOf {α β : Type} (f : α → Option β) : List α → Option (List β)
  | [] => some []
  | x :: l => match f x, allOf f l with | some y, some ys => some (y :: ys) | _, _ => none

/-- A value of the call's own, as data for whoever called. -/
def frz (H : Hp) : Nat → V → Option V
  | 0, _ => none
  | n + 1, v =>
    match v with
    | .agg cs => (allOf (frz H n) cs).map .agg
    | .tup cs => (allOf (frz H n) cs).map .tup
    | .fn f cs => (allOf (frz H n) cs).map (.fn f)
    | .nil => some (.sl [])
    | .own b m => match H b with | some blk => if blk.elems.length = m then (allOf (frz H n) blk.elems).map .sl else none | none => none
    | .ptr b m i off => match H b with
      | some blk => if blk.elems.length = m ∧ off = 0 then (match blk.elems[i]? with | some e => (frz H n e).map .pp | none => none) else none
      | none => none
    | v => some v

/-- Where a result lies: a slot, or the cells that a slot leads to. -/
abbrev RX := Nat × Option (Nat × Bool)
def resV (S : St) : RX → Option V
  | (s, none) => some (S.env s)
  | (s, some (size, ag)) => match S.env s with
    | .pp u => V.part u 0 size ag
    | .ptr b n i off => match S.H b with
      | some blk => if blk.elems.length = n then (match blk.elems[i]? with | some e => V.part e off size ag | none => none) else none
      | none => none
    | _ => none
def one : List V → V
  | [v] => v
  | l => .tup l
def Fin (res : List RX) (S : St) (r : V) : Prop := ∃ vs, allOf (fun x => (resV S x).bind (frz S.H 8)) res = some vs ∧ one vs = r

def argsE : Nat → List V → List (Nat × V)
  | _, [] => []
  | k, v :: l => (k, v) :: argsE (k + 1) l
def start (args : List V) : St := ⟨E (argsE 0 args), fun _ => none, 0⟩
end Go.Gim

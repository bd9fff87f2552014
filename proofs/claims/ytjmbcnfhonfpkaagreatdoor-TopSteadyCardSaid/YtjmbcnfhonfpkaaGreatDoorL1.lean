import Derived.Test.YtjmbcnfhonfpkaaGreatDoorF12
import Derived.Test.YtjmbcnfhonfpkaaGreatDoorM3
import Derived.IntWalk
/- What walks ask again and again: rows that are put on, read, written; contracts out of contracts. -/
set_option linter.unusedVariables false
set_option linter.unusedSimpArgs false
namespace Go.Gim
open Go.RowKit
theorem RetG.toRet {P : Program} {f : Nat} {args : List V} {r r' : V} {H' : Hp} {n' : Nat} (h : RetG P f args (fun _ => none) 0 r H' n') (hf : frz H' 8 r = some r') : Ret P f args r' := by
 refine ⟨h.1, fun M w vals Mb hg hs ha => ?_⟩
 refine (h.2.2 (fun _ => none) M (fun _ => False) w vals (fun _ h => h.elim) Mb hg ⟨fun b x hx => (by cases hx), fun b c g hb => absurd rfl hb⟩ hs fun k hk => .pur (ha k hk)).mono fun e w' ⟨x, φ', M', h1, t, hx⟩ => ⟨x, h1, ?_, ?_⟩
 ·refine frz_sound t.hp (M0 := M) (fun g hg => ?_) (fun b g hb hgb hM => ?_) 8 _ _ _ hf hx
  ·rcases t.M2 g hg with h | ⟨b, hb, _⟩
   ·exact h
   ·exact absurd rfl hb
  ·rcases t.loc b g hb hgb with ⟨c, hc, _⟩ | h
   ·exact absurd rfl hc
   ·have := Mb g hM; omega
 ·exact ⟨t.os, t.tape, t.output, t.size, fun g hg => t.old g hg fun b hb => absurd rfl hb⟩
def fz1 (c : Nat) (xs : List V) : Nat → Option (List V) := fun b => if b = c then some xs else none
theorem fz1_at (c xs b) : fz1 c xs b = sel (b = c) (some xs) none dp dp := rfl
theorem fz1_ok {H : Hp} {c es : Nat} {xs : List V} (hb : H c = some ⟨xs, es⟩) (hp : ∀ x ∈ xs, V.Pure x) : Fz H (fz1 c xs) := fun b ys h => by
 unfold fz1 at h
 split at h
 ·rename_i e; subst e; cases h
  refine ⟨_, hb, ?_, fun e he => (hp e he).cells⟩
  simpa using (List.map_congr_left (g := id) fun x hx => zct _ (hp x hx)).symm
 ·cases h
theorem minus_fz1 (H : Hp) (c : Nat) (xs : List V) : H.minus (fz1 c xs) = H.upd c none := by
 funext b
 simp only [Hp.minus, fz1, Hp.upd]
 split <;> rename_i h <;> simp [h]
theorem zik {P : Program} {dr : Bool} {env : Nat → V} {hi : Nat} {H : Hp} {f : Nat} {args as : List V} {r : V} {K : (Nat → V) → V → Hp → Nat → Prop} {u : Dep K} {es : Nat} (c : Nat) (xs : List V) (hb : H c = some ⟨xs, es⟩) (hx : ∀ x ∈ xs, V.Pure x) (ha : args.map (V.sub (fz1 c xs)) = as) (hr : Ret P f as r) (hp : ∀ v ∈ as, v.Pure) (hk : K env r (H.upd c none) hi) : callB P dr env H hi f args K u :=
 callB_frd (fz1 c xs) (fz1_ok hb hx) ha hr hp (by rw [minus_fz1]; exact hk)
def Row (lo : Nat) (H : Hp) (nx : Nat) (v : V) (es : Nat) (xs : List V) : Prop := (v = .nil ∧ xs = []) ∨ ∃ b, v = .own b xs.length ∧ lo ≤ b ∧ b < nx ∧ H b = some ⟨xs, es⟩
theorem Row.nil (lo H nx es) : Row lo H nx .nil es [] := .inl ⟨rfl, rfl⟩
def Sep (v w : V) : Prop := ∀ b n m, v = .own b n → w ≠ .own b m
theorem Sep.nil_l (w : V) : Sep .nil w := fun _ _ _ h => by cases h
theorem Sep.symm {v w : V} (h : Sep v w) : Sep w v := fun b n m h1 h2 => h b m n h2 h1
theorem Row.keep {lo nx nx' : Nat} {H H' : Hp} {v w : V} {es : Nat} {xs : List V} (hr : Row lo H nx w es xs) (hf : ∀ b, b < nx → (∀ n, v ≠ .own b n) → H' b = H b) (hs : Sep v w) (hl : nx ≤ nx') : Row lo H' nx' w es xs := by
 rcases hr with h | ⟨b, rfl, h1, h2, h3⟩
 ·exact .inl h
 ·exact .inr ⟨b, rfl, h1, by omega, by rw [hf b h2 fun n e => hs b n _ e rfl]; exact h3⟩
theorem Row.same {lo nx nx' : Nat} {H H' : Hp} {w : V} {es : Nat} {xs : List V} (hr : Row lo H nx w es xs) (hf : ∀ b, b < nx → H' b = H b) (hl : nx ≤ nx') : Row lo H' nx' w es xs :=
 hr.keep (v := .nil) (fun b hb _ => hf b hb) (Sep.nil_l _) hl
theorem Row.slOf {lo nx : Nat} {H : Hp} {v : V} {es : Nat} {xs : List V} (hr : Row lo H nx v es xs) : slOf H v = some xs := by
 rcases hr with ⟨rfl, rfl⟩ | ⟨b, rfl, _, _, h3⟩
 ·rfl
 ·simp [Go.Gim.slOf, h3]
theorem Row.frz {lo nx : Nat} {H : Hp} {v : V} {es : Nat} {xs ys : List V} (hr : Row lo H nx v es xs) {n : Nat} (h : allOf (frz H n) xs = some ys) : Go.Gim.frz H (n + 1) v = some (.sl ys) := by
 rcases hr with ⟨rfl, rfl⟩ | ⟨b, rfl, _, _, h3⟩
 ·simp [allOf] at h; subst h; rfl
 ·simp [Go.Gim.frz, h3, h]
theorem allOf_self {f : V → Option V} {xs : List V} (h : ∀ x ∈ xs, f x = some x) : allOf f xs = some xs := by
 induction xs with
 | nil => rfl
 | cons x xs ih => simp [allOf, h x (by simp), ih fun y hy => h y (by simp [hy])]
theorem zf7 {lo nx : Nat} {H H0 : Hp} {id es bytes c : Nat} {v e : V} {xs : List V} {K : V → Hp → Prop} {u : Dep K} (hr : Row lo H0 nx v es xs) (hlo : lo ≤ nx) (hH : H = H0.upd c (some ⟨[e], es⟩)) (hc : nx ≤ c) (hid : c < id) (he : rowOk es [e] = true) (h0 : 0 < es)
  (hb : (xs.length + 1) * bytes ≤ 140737488355328) (hb2 : xs.length + 1 ≤ 140737488355328) (hk : ∀ v' H', Row lo H' (id + 1) v' es (xs ++ [e]) → (∀ b n, v' = .own b n → nx ≤ b) → (∀ b, b < nx → (∀ n, v ≠ .own b n) → H' b = H0 b) → (∀ b, b < lo → H' b = H0 b) → K v' H') :
  effB (effV H id (.app es bytes) [v, .own c 1]) K u := by
 subst hH
 have hcc : (H0.upd c (some ⟨[e], es⟩)) c = some ⟨[e], es⟩ := Hp.upd_same _ _ _
 have hs : slOf (H0.upd c (some ⟨[e], es⟩)) (.own c 1) = some [e] := by simp [slOf, hcc]
 have sepn : ∀ n b n', V.own id n = .own b n' → nx ≤ b := fun n b n' h => by cases h; omega
 rcases hr with ⟨rfl, rfl⟩ | ⟨b, rfl, h1, h2, h3⟩
 ·refine effB_of (app_nil (e := e) (l := []) hs he h0 (by simpa using hb) (by simp)) (hk _ _ (.inr ⟨id, rfl, by omega, by omega, by simp [Hp.upd_same]⟩) (sepn _) (fun b hb _ => ?_) fun b hb => ?_)
  ·rw [Hp.upd_ne _ _ (by omega), Hp.upd_ne _ _ (by omega)]
  ·rw [Hp.upd_ne _ _ (by omega), Hp.upd_ne _ _ (by omega)]
 ·have h3' : (H0.upd c (some ⟨[e], es⟩)) b = some ⟨xs, es⟩ := by rw [Hp.upd_ne _ _ (by omega)]; exact h3
  refine effB_of (app_own hs he h0 h3' rfl rfl (by simpa using hb) (by simpa using hb2) (by simp [V.notIn]; omega)) (hk _ _ (.inr ⟨id, by simp, by omega, by omega, by simp [Hp.upd_same]⟩) (sepn _) (fun b' hb' hne => ?_) fun b' hb' => ?_)
  ·have : b' ≠ b := fun e => hne _ (by rw [e])
   rw [Hp.upd_ne _ _ (by omega), Hp.upd_ne _ _ this, Hp.upd_ne _ _ (by omega)]
  ·rw [Hp.upd_ne _ _ (by omega), Hp.upd_ne _ _ (by omega), Hp.upd_ne _ _ (by omega)]
def nats (k : IntKind) (l : List Nat) : List V := l.map fun (x : Nat) => .int k (x : Int)
theorem zag (k l) : (nats k l).length = l.length := by simp [nats]
theorem zL : (∀ k l, (nats k l).length = l.length) ∧ (∀ (α β : Type) (f : α → β) (l : List α), (l.map f).length = l.length) ∧ (∀ (α : Type) (l : List α) (i : Nat) (a : α), (l.set i a).length = l.length) ∧ (∀ (α : Type) (n : Nat) (a : α), (List.replicate n a).length = n) ∧ (∀ (α : Type) (l m : List α), (l ++ m).length = l.length + m.length) ∧ (∀ (α : Type) (i : Nat) (l : List α), (l.take i).length = min i l.length) ∧ (∀ (α : Type) (i : Nat) (l : List α), (l.drop i).length = l.length - i) ∧ (∀ (α : Type) (a : α) (l : List α), (a :: l).length = l.length + 1) ∧ (∀ (α : Type), ([] : List α).length = 0) := by
 refine ⟨zag, fun _ _ _ _ => List.length_map _, fun _ _ _ _ => List.length_set, fun _ _ _ => List.length_replicate, fun _ _ _ => List.length_append, fun _ _ _ => List.length_take, fun _ _ _ => List.length_drop, fun _ _ _ => rfl, fun _ => rfl⟩
theorem zdL {p : Prop} (h : p := by (first | omega | (simp only [zL] <;> omega) | (apply zhn <;> simp))) : p := h
theorem nats_at {k : IntKind} {l : List Nat} {i : Nat} (h : i < l.length) : (nats k l)[i]? = some (.int k l[i]) := by simp [nats, h]
theorem zie {k : IntKind} {l : List Nat} {i : Nat} (h : i < l.length) : (nats k l)[i]? = some (.int k (l.getD i 0 : Nat)) := by
 rw [nats_at h]; congr 2; simp [List.getD_eq_getElem?_getD, h]
theorem nats_row (k l) : rowOk 1 (nats k l) = true := by simp [rowOk, nats, V.isJunk, V.cells, V.cellOk]
theorem zah (k l H n) : allOf (frz H (n + 1)) (nats k l) = some (nats k l) := allOf_self fun x hx => by
 obtain ⟨a, _, rfl⟩ := List.mem_map.1 hx; rfl
theorem nats_set (k l i x) : (nats k l).set i (.int k (x : Nat)) = nats k (l.set i x) := by simp [nats, List.map_set]
theorem nats_app (k a b) : nats k a ++ nats k b = nats k (a ++ b) := by simp [nats]
theorem nats_pure {k l} : ∀ x ∈ nats k l, V.Pure x := fun x hx => by obtain ⟨a, _, rfl⟩ := List.mem_map.1 hx; exact .int _ _
theorem load_own {dr : Bool} {nx : Nat} {H : Hp} {b n i es : Nat} {xs : List V} {e : V} {F : V → Prop} {u : Dep F} {size : Nat} {ag : Bool} (hd : dr = true → b < nx) (hb : H b = some ⟨xs, es⟩) (hn : xs.length = n) (hi : xs[i]? = some e) (hs : e.cells.length = size) (ha : e.isAgg = ag) (hk : F e) : opt (loadV dr nx H size ag (.ptr b n i 0)) F u := by
 refine ⟨e, ?_, hk⟩
 simp only [loadV]
 rw [if_neg (fun h => by have := hd h.1; omega), hb]
 simp [hn, hi, V.part, hs, ha]
theorem zbq {k' : IntKind} {l : List Nat} {dr : Bool} {nx : Nat} {H : Hp} {k : IntKind} {j : Int} {Kn : V → Prop} {u : Dep Kn} (h0 : 0 ≤ j) (h1 : j < l.length) : idxB dr nx H 1 (.sl (nats k' l)) (.int k j) Kn u = Kn (.pp (.int k' (l.getD j.toNat 0))) := by
 have e : (nats k' l)[j.toNat]? = some (.int k' (l.getD j.toNat 0)) := zie (by omega)
 refine propext ⟨fun ⟨_, v, h2, h3, h4⟩ => ?_, fun h => idxB_sl h0 e rfl h⟩
 rw [e] at h2; cases h2; exact h4
def idxO (dr : Bool) (nx : Nat) (o : Option Blk) (es b n : Nat) (j : Int) (Kn : V → Prop) (_ : Dep Kn) : Prop := 0 ≤ j ∧ j < n ∧ (∃ blk, o = some blk ∧ blk.elems.length = n ∧ blk.size = es) ∧ (dr = true → b < nx) ∧ Kn (.ptr b n j.toNat 0)
@[go_sem] theorem idxB_o (dr : Bool) (nx : Nat) (H : Hp) (es b n : Nat) (k : IntKind) (j : Int) (Kn : V → Prop) (u : Dep Kn) : idxB dr nx H es (.own b n) (.int k j) Kn u = idxO dr nx (H b) es b n j Kn u := rfl
theorem zec {nx es b n : Nat} {xs : List V} {j : Int} {Kn : V → Prop} {u : Dep Kn} (hl : xs.length = n) (h0 : 0 ≤ j) (h1 : j < n) : idxO false nx (some ⟨xs, es⟩) es b n j Kn u = Kn (.ptr b n j.toNat 0) :=
 propext ⟨fun h => h.2.2.2.2, fun h => ⟨h0, h1, ⟨_, rfl, hl, rfl⟩, (fun h => by cases h), h⟩⟩
theorem zeb {nx es b n : Nat} {xs : List V} {j : Int} {Kn : V → Prop} {u : Dep Kn} (hl : xs.length = n) (h0 : 0 ≤ j) (h1 : j < n) (hb : b < nx) : idxO true nx (some ⟨xs, es⟩) es b n j Kn u = Kn (.ptr b n j.toNat 0) :=
 propext ⟨fun h => h.2.2.2.2, fun h => ⟨h0, h1, ⟨_, rfl, hl, rfl⟩, fun _ => hb, h⟩⟩
theorem za9 {nx b n i : Nat} {k : IntKind} {l : List Nat} (hl : l.length = n) (hi : i < n) : loadO false nx b (some ⟨nats k l, 1⟩) n i 0 1 false = some (.int k (l.getD i 0)) := by
 simp only [loadO, zag, hl, zie (show i < l.length by omega)]
 simp [V.part, V.cells, V.isAgg]
theorem zbc {nx b n i : Nat} {k : IntKind} {l : List Nat} (hl : l.length = n) (hi : i < n) (hb : b < nx) : loadO true nx b (some ⟨nats k l, 1⟩) n i 0 1 false = some (.int k (l.getD i 0)) := by
 simp only [loadO, zag, hl, zie (show i < l.length by omega)]
 rw [if_neg (fun h => by have := h.2; omega)]
 simp [V.part, V.cells, V.isAgg]
theorem za8 {b n i : Nat} {k : IntKind} {l : List Nat} {v : Int} (hl : l.length = n) (hi : i < n) (hv : 0 ≤ v) : zf8 b (some ⟨nats k l, 1⟩) n i 0 1 (.int k v) = some (b, ⟨nats k (l.set i v.toNat), 1⟩) := by
 have e : V.int k v = .int k (v.toNat : Nat) := by rw [Int.toNat_of_nonneg hv]
 have e2 : (nats k l).set i (.int k v) = nats k (l.set i v.toNat) := by rw [e, nats_set]
 simp only [zf8, zag, hl, nats_at (show i < l.length by omega), V.setPart]
 simp [V.cells, V.cellOk, V.isAgg, e2]
theorem zay {b n i m : Nat} {k : IntKind} {l : List Nat} (hl : l.length = n) (hi : i < n) : zf8 b (some ⟨nats k l, 1⟩) n i 0 1 (.int k (m : Int)) = some (b, ⟨nats k (l.set i m), 1⟩) := by
 rw [za8 hl hi (by omega), Int.toNat_natCast]
theorem zcc {bytes id : Nat} {H : Hp} {k k1 k2 : IntKind} {l : Int} {F : V → Hp → Prop} {u : Dep F} (h0 : 0 ≤ l) (h1 : bytes * l ≤ 140737488355328) (h2 : l ≤ 140737488355328) : newB (newV (.mks 1 bytes (.int k 0)) [.int k1 l, .int k2 l]) id H F u = F (.own id l.toNat) (H.upd id (some ⟨nats k (List.replicate l.toNat 0), 1⟩)) := by
 have : newV (.mks 1 bytes (.int k 0)) [.int k1 l, .int k2 l] = some (l.toNat, ⟨nats k (List.replicate l.toNat 0), 1⟩) := by
  simp only [newV]
  rw [if_pos ⟨h0, Int.le_refl _, h1, h2, rfl, by decide⟩]
  simp [nats]
 rw [this]; exact newB_some _ _ _ _ _ _
@[go_sem] theorem newV_bsl (es : Nat) (vs : List V) : newV (.bsl es) vs = if vs.all (fun v => !v.isJunk && v.cells.length == es) ∧ vs.length * es ≤ 16777216 ∧ 0 < es then some (vs.length, ⟨vs, es⟩) else none := rfl
def cpyO (o : Option Blk) (H : Hp) (k : IntKind) (b n : Nat) (s : List Nat) : Option (V × Hp) := match o with | some blk => if blk.elems.length = n ∧ blk.size = 1 then some (.int .i64 (min s.length n : Nat), H.upd b (some ⟨nats k (s.take (min s.length n)) ++ blk.elems.drop (min s.length n), 1⟩)) else none | none => none
theorem zcf (H : Hp) (id b n : Nat) (k : IntKind) (s : List Nat) : effV H id (.cpy 1) [.own b n, .sl (nats k s)] = cpyO (H b) H k b n s := by
 have hr := nats_row k s
 simp only [effV, slOf, cpyO, hr, V.notIn]
 cases H b with
 | none => rfl
 | some blk => simp only [true_and, Nat.lt_one_iff, Nat.zero_lt_one, zag, and_true]; simp [nats, List.map_take]
theorem zcg {H : Hp} {k : IntKind} {b n : Nat} {s l : List Nat} (hl : l.length = n) : cpyO (some ⟨nats k l, 1⟩) H k b n s = some (.int .i64 (min s.length n : Nat), H.upd b (some ⟨nats k (s.take (min s.length n) ++ l.drop (min s.length n)), 1⟩)) := by
 simp [cpyO, zag, hl, nats, List.map_take, List.map_drop]
theorem zcx (H : Hp) (b : Nat) (x y : Option Blk) : (H.upd b x).upd b y = H.upd b y := by
 funext c; simp only [Hp.upd]; split <;> rfl
theorem dlt_t {a b : Int} (h : a < b) : decide (a < b) = true := decide_eq_true h
theorem dlt_f {a b : Int} (h : b ≤ a) : decide (a < b) = false := decide_eq_false (by omega)
theorem dle_t {a b : Int} (h : a ≤ b) : decide (a ≤ b) = true := decide_eq_true h
theorem dle_f {a b : Int} (h : b < a) : decide (a ≤ b) = false := decide_eq_false (by omega)
theorem deq_t {a b : Int} (h : a = b) : decide (a = b) = true := decide_eq_true h
theorem deq_f {a b : Int} (h : a ≠ b) : decide (a = b) = false := decide_eq_false h
theorem wu32 (n : Nat) : IntKind.u32.wrap (n : Int) = ((n % 4294967296 : Nat) : Int) := by rw [IntKind.wrap_u32]; omega
theorem wu8 (n : Nat) : IntKind.u8.wrap (n : Int) = ((n % 256 : Nat) : Int) := by rw [IntKind.wrap_u8]; omega
theorem wu64 (n : Nat) : IntKind.u64.wrap (n : Int) = ((n % 18446744073709551616 : Nat) : Int) := by simp [IntKind.wrap, IntKind.bits, IntKind.signed]
theorem shr32 (n : Nat) : zdt .shr .u64 (n : Int) 32 = some (.int .u64 (n / 4294967296 : Nat)) := by
 have p : (2 : Int) ^ 32 = 4294967296 := by decide
 show some (V.int .u64 ((n : Int).fdiv (2 ^ 32))) = _
 rw [p, Int.fdiv_eq_ediv_of_nonneg _ (by omega)]; congr 2
theorem shr63 (n : Nat) : zdt .shr .u64 (n : Int) 63 = some (.int .u64 (n / 9223372036854775808 : Nat)) := by
 have p : (2 : Int) ^ 63 = 9223372036854775808 := by decide
 show some (V.int .u64 ((n : Int).fdiv (2 ^ 63))) = _
 rw [p, Int.fdiv_eq_ediv_of_nonneg _ (by omega)]; congr 2
theorem shl32 (n : Nat) : zdt .shl .u64 (n : Int) 32 = some (.int .u64 (n * 4294967296 % 18446744073709551616 : Nat)) := by
 have p : (2 : Int) ^ 32 = 4294967296 := by decide
 show some (V.int .u64 (IntKind.u64.wrap ((n : Int) * (2 ^ 32)))) = _
 rw [p, show (n : Int) * 4294967296 = ((n * 4294967296 : Nat) : Int) by omega, wu64]
theorem or32 {a b : Nat} (ha : a < 4294967296) (hb : b < 4294967296) : intV .or .u64 ((a * 4294967296 : Nat) : Int) (b : Int) = some (.int .u64 (a * 4294967296 + b : Nat)) := by
 have e : a * 4294967296 ||| b = a * 4294967296 + b := by
  have := Nat.shiftLeft_add_eq_or_of_lt (i := 32) (b := b) (by simpa using hb) a
  rw [Nat.shiftLeft_eq] at this
  exact this.symm
 have h1 : (a * 4294967296) % 18446744073709551616 = a * 4294967296 := Nat.mod_eq_of_lt (by omega)
 have h2 : b % 18446744073709551616 = b := Nat.mod_eq_of_lt (by omega)
 simp only [intV, bitsV]
 congr 2
 have : (BitVec.ofInt IntKind.u64.bits ((a * 4294967296 : Nat) : Int) ||| BitVec.ofInt IntKind.u64.bits (b : Int)).toNat = a * 4294967296 + b := by
  rw [BitVec.toNat_or, BitVec.ofInt_natCast, BitVec.ofInt_natCast, BitVec.toNat_ofNat, BitVec.toNat_ofNat]
  show (a * 4294967296 % 18446744073709551616 ||| b % 18446744073709551616) = _
  rw [h1, h2, e]
 rw [this, wu64, Nat.mod_eq_of_lt (by omega)]
theorem tdiv_nat (a b : Nat) : Int.tdiv (a : Int) (b : Int) = ((a / b : Nat) : Int) := by rw [Int.tdiv_eq_ediv_of_nonneg (by omega)]; rfl
theorem tmod_nat (a b : Nat) : Int.tmod (a : Int) (b : Int) = ((a % b : Nat) : Int) := by rw [Int.tmod_eq_emod_of_nonneg (by omega)]; rfl
theorem quo64 {a b : Nat} (hb : 0 < b) (ha : a < 18446744073709551616) : binV .quo (.int .u64 (a : Int)) (.int .u64 (b : Int)) = some (.int .u64 (a / b : Nat)) := by
 rw [binV_quo, if_neg (by omega), tdiv_nat, wu64, Nat.mod_eq_of_lt (Nat.lt_of_le_of_lt (Nat.div_le_self _ _) ha)]
theorem quo32 {a b : Nat} (hb : 0 < b) (ha : a < 4294967296) : binV .quo (.int .u32 (a : Int)) (.int .u32 (b : Int)) = some (.int .u32 (a / b : Nat)) := by
 rw [binV_quo, if_neg (by omega), tdiv_nat, wu32, Nat.mod_eq_of_lt (Nat.lt_of_le_of_lt (Nat.div_le_self _ _) ha)]
theorem zeh {a b : Nat} (hb : 0 < b) (ha : a < 9223372036854775808) : binV .quo (.int .i64 (a : Int)) (.int .i64 (b : Int)) = some (.int .i64 (a / b : Nat)) := by
 have := Nat.div_le_self a b
 rw [binV_quo, if_neg (by omega), tdiv_nat]
 generalize a / b = q at *
 rw [IntWalk.i64_in _ (by omega)]
theorem remk {a b : Nat} (k : IntKind) (hb : 0 < b) : binV .rem (.int k (a : Int)) (.int k (b : Int)) = some (.int k (a % b : Nat)) := by
 rw [binV_rem, if_neg (by omega), tmod_nat]
theorem zcb {a : Nat} (ha : a < 4294967296) : binV .quo (.int .u32 (a : Int)) (.int .u32 10) = some (.int .u32 (a / 10 : Nat)) := quo32 (b := 10) (by decide) ha
theorem zca (a : Nat) : binV .rem (.int .u32 (a : Int)) (.int .u32 10) = some (.int .u32 (a % 10 : Nat)) := remk (b := 10) .u32 (by decide)
theorem zdc {a : Nat} (ha : a < 9223372036854775808) : binV .quo (.int .i64 (a : Int)) (.int .i64 10) = some (.int .i64 (a / 10 : Nat)) := zeh (b := 10) (by decide) ha
theorem zdb (a : Nat) : binV .rem (.int .i64 (a : Int)) (.int .i64 10) = some (.int .i64 (a % 10 : Nat)) := remk (b := 10) .i64 (by decide)
theorem zbx (n : Nat) : ((48 : Int) + (n : Int)) = ((48 + n : Nat) : Int) := by omega
theorem upd_self {H : Hp} {b : Nat} {x : Option Blk} (h : H b = x) : H.upd b x = H := by
 funext c; simp only [Hp.upd]; split
 ·rename_i e; rw [e, h]
 ·rfl
theorem bytes_nats (l : List Nat) : allOf byteV (nats .u8 l) = some (l.map UInt8.ofNat) := by
 induction l with
 | nil => rfl
 | cons x l ih => simp only [nats, List.map_cons, allOf, byteV, Int.toNat_natCast] at ih ⊢; rw [ih]
theorem effV_b2s {H : Hp} {id : Nat} {x : V} {l : List Nat} (h : slOf H x = some (nats .u8 l)) : effV H id .b2sO [x] = some (.str ⟨(l.map UInt8.ofNat).toArray⟩, H) := by
 simp only [effV, h, Option.bind_some, bytes_nats, Option.map_some]
theorem slOf_own {H : Hp} {b n es : Nat} {xs : List V} (hb : H b = some ⟨xs, es⟩) (hn : xs.length = n) : slOf H (.own b n) = some xs := by simp [slOf, hb, hn]
theorem zb9 {es : Nat} {xs : List V} {k k' : IntKind} {n : Int} (h : 0 < n) (h2 : n ≤ xs.length) (he : 0 < es) : redV (.slc es false true true) [.sl xs, .int k n, .int k' n] = some (.sl (xs.take n.toNat)) := by
 simp only [redV, slcArgs, Option.bind_some, slcV, Option.getD_none, Option.getD_some]
 rw [if_pos ⟨he, Int.le_refl _, by omega, Int.le_refl _, h2, .inl trivial⟩, if_neg (by simp; omega)]
 rfl
theorem zbt {es : Nat} {xs : List V} {k k' : IntKind} {n : Int} (h : n = 0) (he : 0 < es) : redV (.slc es false true true) [.sl xs, .int k n, .int k' n] = some .nil := by
 subst h
 simp only [redV, slcArgs, Option.bind_some, slcV, Option.getD_none, Option.getD_some]
 rw [if_pos ⟨he, Int.le_refl _, Int.le_refl _, Int.le_refl _, by omega, .inl trivial⟩, if_pos trivial]
theorem zev {es : Nat} {xs : List V} {k : IntKind} {n : Int} (h : 0 ≤ n) (h2 : n ≤ xs.length) (he : 0 < es) : redV (.slc es false true false) [.sl xs, .int k n] = some (.sl (xs.take n.toNat)) := by
 simp only [redV, slcArgs, Option.bind_some, slcV, Option.getD_none, Option.getD_some]
 rw [if_pos ⟨he, Int.le_refl _, h, h2, Int.le_refl _, .inl trivial⟩, if_neg (by simp)]
 rfl
theorem zbv (k l n) : (nats k l).take n = nats k (l.take n) := by simp [nats, List.map_take]
theorem zbw (k l n) : (nats k l).drop n = nats k (l.drop n) := by simp [nats, List.map_drop]
theorem zb5 {n : Nat} (h : 1 ≤ n) : ((n : Int) - 1) = ((n - 1 : Nat) : Int) := by omega
theorem zcy {n m : Nat} (h : m ≤ n) : ((n : Int) - (m : Int)) = ((n - m : Nat) : Int) := by omega
theorem zb6 (n : Nat) : ((n : Int) + 1) = ((n + 1 : Nat) : Int) := by omega
theorem zc0 (n m : Nat) : ((n : Int) + (m : Int)) = ((n + m : Nat) : Int) := by omega
theorem zcz (n m : Nat) : ((n : Int) * (m : Int)) = ((n * m : Nat) : Int) := by simp
theorem lt_ne {b n k : Nat} (h : b < n + k) : (b = n + k) = False := by simp; omega
theorem gt_ne {b n k : Nat} (h : b < n + k) : (n + k = b) = False := by simp; omega
theorem zat {n k : Nat} (h : 0 < k) : (n = n + k) = False := by simp; omega
theorem zc7 {n k m : Nat} : (n + k = n + m) = (k = m) := by simp
def sg (b : Bool) (n : Nat) : Int := if b then -(n : Int) else n
theorem sg_abs (b n) : (sg b n).natAbs = n := by unfold sg; split <;> omega
def ncmp (x y : Nat) : Int := if x < y then -1 else if x = y then 0 else 1
theorem getD_get {l : List Nat} {i : Nat} (h : i < l.length) : l.getD i 0 = l[i] := by simp [List.getD_eq_getElem?_getD, h]
end Go.Gim

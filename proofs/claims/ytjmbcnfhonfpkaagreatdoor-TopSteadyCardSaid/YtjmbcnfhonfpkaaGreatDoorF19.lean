import Derived.Test.YtjmbcnfhonfpkaaGreatDoorF13
import Derived.Carry
import Derived.Test.YtjmbcnfhonfpkaaGreatDoorF12
import Derived.RangeFuncCalls
import Derived.OrdersIn
import Derived.TacticsIn
set_option linter.unusedSimpArgs false
set_option linter.unusedVariables false
/- A law's arguments (numbers, texts, structs, slices of them) as data. -/
namespace Go.Gim
open Go.RowKit Go.WideShapes
inductive CT where
 | bool | int (k : IntKind) | str | sl (e : List CT) (ag : Bool)
inductive OkC : CT → V → Prop where
 | bool (b : Bool) : OkC .bool (.bool b)
 | int (k : IntKind) (n : Int) (h : (Lit.int k n).wf = true) : OkC (.int k) (.int k n)
 | str (s : ByteArray) (h : s.size ≤ maxLen) : OkC .str (.str s)
 | sl (e : List CT) (ag : Bool) (xs : List V) (hl : xs.length ≤ maxLen) (hs : ∀ x ∈ xs, x.cells.length = e.length ∧ x.isAgg = ag) (hc : ∀ x ∈ xs, ∀ i, i < e.length → OkC (e.getD i .bool) (x.cells.getD i .junk)) : OkC (.sl e ag) (.sl xs)
def isAggT (P : Program) (t : TypeId) : Bool := match P.underlying t with | some (.struct _) => true | some (.array _ _) => true | _ => false
def partsTy (P : Program) (r : TypeId → Option (List CT)) : Nat → List (TypeId × Nat) → Option (List CT)
 | _, [] => some []
 | off, (t, o) :: l => if o = off then (match r t with | some τ => if τ.length = P.cellsOf t then (match partsTy P r (off + τ.length) l with | some τs => some (τ ++ τs) | none => none) else none | none => none) else none
def cellsTy (P : Program) : Nat → TypeId → Option (List CT)
 | 0, _ => none
 | n + 1, t => match P.underlying t with
  | some .bool => some [.bool]
  | some (.int k) => some [.int k]
  | some .string => some [.str]
  | some (.slice e) => match cellsTy P n e with | some τ => if 0 < τ.length ∧ τ.length = P.cellsOf e ∧ (isAggT P e = true ∨ τ.length = 1) then some [.sl τ (isAggT P e)] else none | none => none
  | some (.struct fs) => partsTy P (cellsTy P n) 0 (fs.toList.map fun f => (f.type, f.offset))
  | some (.array m e) => partsTy P (cellsTy P n) 0 ((List.range m).map fun i => (e, i * P.cellsOf e))
  | _ => none
def Opens (w : World) (τ : List CT) (cs : List Value) : Prop := ∃ vs : List V, vs.length = τ.length ∧ ∀ i, i < τ.length → OkC (τ.getD i .bool) (vs.getD i .junk) ∧ Pur (fun _ => False) w (vs.getD i .junk) (cs.getD i Go.undef)
theorem opens_one {w : World} {c : CT} {v : V} {x : Value} (h : OkC c v) (hp : Pur (fun _ => False) w v x) : Opens w [c] [x] :=
 ⟨[v], rfl, fun i hi => by
  have : i = 0 := by simpa using hi
  subst this; exact ⟨h, hp⟩⟩
theorem getD_app {α : Type} {a b : List α} {d : α} {i : Nat} : (a ++ b).getD i d = if i < a.length then a.getD i d else b.getD (i - a.length) d := by
 simp only [List.getD_eq_getElem?_getD, List.getElem?_append]
 split <;> rfl
theorem getD_dt {α : Type} {cs : List α} {d : α} {o s i : Nat} (h : i < s) : ((cs.drop o).take s).getD i d = cs.getD (o + i) d := by
 simp [List.getD_eq_getElem?_getD, List.getElem?_take, h]
theorem opens_parts {P : Program} {w : World} {α β : Type} {pt : α → TypeId × Nat} {r : TypeId → List Value → Option β} {rt : TypeId → Option (List CT)} {cs : List Value}
  (ih : ∀ t cs x τ, r t cs = some x → rt t = some τ → Opens w τ cs) : ∀ (l : List α) (off : Nat) (xs : List β) (τ : List CT),
  l.mapM (fun a => r (pt a).1 ((cs.drop (pt a).2).take (P.cellsOf (pt a).1))) = some xs → partsTy P rt off (l.map pt) = some τ → Opens w τ (cs.drop off)
 | [], off, xs, τ, _, h2 => by simp [partsTy] at h2; subst h2; exact ⟨[], rfl, fun i hi => by simp at hi⟩
 | a :: l, off, xs, τ, h1, h2 => by
  rw [List.mapM_cons] at h1
  cases e1 : r (pt a).1 ((cs.drop (pt a).2).take (P.cellsOf (pt a).1)) with
  | none => simp [e1] at h1
  | some y =>
   cases e2 : l.mapM (fun a => r (pt a).1 ((cs.drop (pt a).2).take (P.cellsOf (pt a).1))) with
   | none => simp [e1, e2] at h1
   | some ys =>
    rw [List.map_cons] at h2
    unfold partsTy at h2
    split at h2
    ·rename_i ho
     split at h2
     ·rename_i τ1 e3
      split at h2
      ·rename_i hl
       split at h2
       ·rename_i τ2 e4
        cases h2
        obtain ⟨v1, n1, p1⟩ := ih _ _ _ _ e1 e3
        obtain ⟨v2, n2, p2⟩ := opens_parts ih l _ _ _ e2 e4
        refine ⟨v1 ++ v2, by simp [n1, n2], fun i hi => ?_⟩
        rw [getD_app, getD_app, n1]
        by_cases h : i < τ1.length
        ·rw [if_pos h, if_pos h]
         have := p1 i h
         rw [getD_dt (by omega), ho] at this
         simpa [List.getD_eq_getElem?_getD] using this
        ·rw [if_neg h, if_neg h]
         have := p2 (i - τ1.length) (by simp at hi; omega)
         have e : (cs.drop (off + τ1.length)).getD (i - τ1.length) Go.undef = (cs.drop off).getD i Go.undef := by
          simp only [List.getD_eq_getElem?_getD, List.getElem?_drop]
          congr 2; omega
         rw [e] at this; exact this
       ·cases h2
      ·cases h2
     ·cases h2
    ·cases h2
theorem mapM_range {β : Type} {g : Nat → Option β} {n : Nat} {ys : List β} (h : (List.range n).mapM g = some ys) : ∀ i, i < n → ∃ y, g i = some y := by
 intro i hi
 have key : ∀ (l : List Nat) (ys : List β), l.mapM g = some ys → ∀ i ∈ l, ∃ y, g i = some y := by
  intro l
  induction l with
  | nil => intro ys _ i hi; simp at hi
  | cons a l ih =>
   intro ys h i hi
   rw [List.mapM_cons] at h
   cases e1 : g a with
   | none => simp [e1] at h
   | some y =>
    cases e2 : l.mapM g with
    | none => simp [e1, e2] at h
    | some zs =>
     rcases List.mem_cons.1 hi with rfl | hi
     ·exact ⟨y, e1⟩
     ·exact ih _ e2 i hi
 exact key _ _ h i (by simpa using hi)
theorem mapM_range_get {β : Type} {g : Nat → Option β} {n : Nat} {ys : List β} (h : (List.range n).mapM g = some ys) : ys.length = n ∧ ∀ i (hi : i < n), g i = ys[i]? := by
 have key : ∀ (l : List Nat) (ys : List β), l.mapM g = some ys → ys.length = l.length ∧ ∀ i (hi : i < l.length), g l[i] = ys[i]? := by
  intro l
  induction l with
  | nil => intro ys h; simp at h; subst h; exact ⟨rfl, fun i hi => by simp at hi⟩
  | cons a l ih =>
   intro ys h
   rw [List.mapM_cons] at h
   cases e1 : g a with
   | none => simp [e1] at h
   | some y =>
    cases e2 : l.mapM g with
    | none => simp [e1, e2] at h
    | some zs =>
     simp [e1, e2] at h
     subst h
     obtain ⟨n1, n2⟩ := ih _ e2
     refine ⟨by simp [n1], fun i hi => ?_⟩
     cases i with
     | zero => simp [e1]
     | succ i => simpa using n2 i (by simpa using hi)
 obtain ⟨n1, n2⟩ := key _ _ h
 exact ⟨by simpa using n1, fun i hi => by
  have := n2 i (by simpa using hi)
  rwa [List.getElem_range] at this⟩
theorem cells?_get {w : World} {base : Nat} {a : Addr} {n : Nat} {cs : List Value} (h : w.cells? base a n = some cs) : cs.length = n ∧ ∀ i, i < n → w.cell? (a.add i) = cs[i]? := by
 unfold World.cells? at h
 split at h
 ·exact mapM_range_get h
 ·cases h
theorem OkC.notAgg {c : CT} {v : V} (h : OkC c v) : v.isAgg = false := by cases h <;> rfl
theorem cells_notAgg {v : V} (h : v.isAgg = false) : v.cells = [v] := by cases v <;> simp_all [V.cells, V.isAgg]
theorem opens_slice {P : Program} {w : World} {e : TypeId} {τ : List CT} {ag : Bool} {a : Addr} {len cap : Nat} {base : Nat} (hpos : 0 < τ.length) (hsz : τ.length = P.cellsOf e) (hag : ag = true ∨ τ.length = 1) (hlen : len ≤ cap) (hcap : cap ≤ maxLen)
  (hel : ∀ i, i < len → ∃ cs, w.cells? base (a.add (i * P.cellsOf e)) (P.cellsOf e) = some cs ∧ Opens w τ cs) : ∃ v, OkC (.sl τ ag) v ∧ Pur (fun _ => False) w v (.slice (some a) len cap) := by
 by_cases h0 : len = 0
 ·subst h0
  exact ⟨.sl [], .sl _ _ _ (Nat.zero_le _) (fun x hx => by simp at hx) fun x hx => by simp at hx, .sl0 _ _⟩
 have hel' : ∀ i, i < len → ∃ x : V, x.cells.length = τ.length ∧ x.isAgg = ag ∧ ∀ j, j < τ.length → OkC (τ.getD j .bool) (x.cells.getD j .junk) ∧ ∃ u, w.cell? ((a.add (i * P.cellsOf e)).add j) = some u ∧ Pur (fun _ => False) w (x.cells.getD j .junk) u := fun i hi => by
  obtain ⟨cs, h1, vs, n1, p1⟩ := hel i hi
  obtain ⟨n2, p2⟩ := cells?_get h1
  have p3 : ∀ j, j < τ.length → ∃ u, w.cell? ((a.add (i * P.cellsOf e)).add j) = some u ∧ Pur (fun _ => False) w (vs.getD j .junk) u := fun j hj => by
   have := p2 j (by omega)
   refine ⟨cs.getD j Go.undef, ?_, (p1 j hj).2⟩
   rw [this]; simp [List.getD_eq_getElem?_getD, show j < cs.length by omega]
  cases ag with
  | true => exact ⟨.agg vs, n1, rfl, fun j hj => ⟨(p1 j hj).1, p3 j hj⟩⟩
  | false =>
   have hone : τ.length = 1 := by simpa using hag
   obtain ⟨v, rfl⟩ : ∃ v, vs = [v] := by
    match vs, n1 with
    | [v], _ => exact ⟨v, rfl⟩
    | [], h => simp [hone] at h
    | _ :: _ :: _, h => simp [hone] at h
   have hna := (p1 0 (by omega)).1.notAgg
   simp only [List.getD_cons_zero] at hna
   refine ⟨v, by rw [cells_notAgg hna, hone]; rfl, hna, fun j hj => ?_⟩
   rw [cells_notAgg hna]
   exact ⟨(p1 j hj).1, p3 j hj⟩
 let g : Nat → V := fun i => if h : i < len then Classical.choose (hel' i h) else .junk
 have hg : ∀ i (hi : i < len), (g i).cells.length = τ.length ∧ (g i).isAgg = ag ∧ ∀ j, j < τ.length → OkC (τ.getD j .bool) ((g i).cells.getD j .junk) ∧ ∃ u, w.cell? ((a.add (i * P.cellsOf e)).add j) = some u ∧ Pur (fun _ => False) w ((g i).cells.getD j .junk) u := fun i hi => by
  have := Classical.choose_spec (hel' i hi)
  simp only [g, dif_pos hi]
  exact this
 have hmem : ∀ x ∈ (List.range len).map g, ∃ i, i < len ∧ x = g i := fun x hx => by
  obtain ⟨i, h1, rfl⟩ := List.mem_map.1 hx
  exact ⟨i, by simpa using h1, rfl⟩
 have hget : ∀ i, i < len → ((List.range len).map g).getD i .junk = g i := fun i hi => by simp [List.getD_eq_getElem?_getD, hi]
 obtain ⟨_, _, q0⟩ := hg 0 (by omega)
 obtain ⟨u0, q1, _⟩ := (q0 0 hpos).2
 simp only [Nat.zero_mul] at q1
 have ha0 : (a.add 0).add 0 = a := rfl
 rw [ha0] at q1
 have hspot : a.spot = none ∧ ∃ arr ty fr, w.heap[a.block]? = some (.cells arr ty fr) := by
  unfold World.cell? at q1
  split at q1
  ·rename_i c t fr hb
   split at q1
   ·cases q1
   ·rename_i h; exact ⟨by simpa using h, c, t, fr, hb⟩
  ·cases q1
 obtain ⟨hs, arr, ty, fr, hb⟩ := hspot
 have hcell : ∀ i j, i < len → j < τ.length → ∃ u, arr[a.off + i * τ.length + j]? = some u ∧ Pur (fun _ => False) w ((g i).cells.getD j .junk) u := fun i j hi hj => by
  obtain ⟨u, h1, h2⟩ := ((hg i hi).2.2 j hj).2
  refine ⟨u, ?_, h2⟩
  have hab : ((a.add (i * P.cellsOf e)).add j) = ⟨a.block, a.off + i * τ.length + j, none⟩ := by
   rw [← hsz]
   cases a
   simp only at hs
   subst hs
   unfold Addr.add
   split <;> split <;> simp_all
  rw [hab] at h1
  simp only [World.cell?, hb] at h1
  simpa using h1
 refine ⟨.sl ((List.range len).map g), .sl _ _ _ (by simp; omega) (fun x hx => ?_) (fun x hx => ?_), ?_⟩
 ·obtain ⟨i, hi, rfl⟩ := hmem x hx
  exact ⟨(hg i hi).1, (hg i hi).2.1⟩
 ·obtain ⟨i, hi, rfl⟩ := hmem x hx
  exact fun j hj => ((hg i hi).2.2 j hj).1
 ·have hlen2 : ((List.range len).map g).length = len := by simp
  have := Pur.sl (M := fun _ => False) (w := w) ((List.range len).map g) a cap τ.length arr ty fr hs hb (fun h => h) (fun i hi => by
   rw [hget i (by omega)]; exact (hg i (by omega)).1) (by
   rw [hlen2]
   obtain ⟨u, h1, _⟩ := hcell (len - 1) (τ.length - 1) (by omega) (by omega)
   have h2 := (Array.getElem?_eq_some_iff.1 h1).1
   obtain ⟨m, rfl⟩ : ∃ m, len = m + 1 := ⟨len - 1, by omega⟩
   simp only [Nat.add_sub_cancel, Nat.add_mul, Nat.one_mul] at h2 ⊢
   omega) (by omega) (fun i j hi hj => by
   rw [hget i (by omega)]
   obtain ⟨u, h1, h2⟩ := hcell i j (by omega) hj
   simpa [Array.getD_eq_getD_getElem?, h1] using h2)
  rwa [hlen2] at this
theorem opens {H : Type} {enc : TypeId × Value → H} {P : Program} {w : World} {base : Nat} {sp : Nat → Bool} {held : Bool} : ∀ (fuel n : Nat) (t : TypeId) (cs : List Value) (x : DataW H × List MemPlace) (τ : List CT),
  DataW.trod enc P w base sp held fuel t cs = some x → cellsTy P n t = some τ → Opens w τ cs
 | 0, _, _, _, _, _, h, _ => by simp [DataW.trod] at h
 | _, 0, _, _, _, _, _, h => by simp [cellsTy] at h
 | fuel + 1, n + 1, t, cs, x, τ, h, h2 => by
  rw [DataW.trod_step] at h
  unfold cellsTy at h2
  unfold DataW.trodStep at h
  split at h2
  ·rename_i hu
   rw [hu] at h
   cases h2
   match cs, h with
   | [.bool b], _ => exact opens_one (.bool b) (.bool b)
  ·rename_i k hu
   rw [hu] at h
   cases h2
   match cs, h with
   | [.int k' m], h =>
    simp only at h
    split at h
    ·rename_i hk
     obtain ⟨rfl, hk⟩ := hk
     exact opens_one (.int k' m hk) (.int k' m)
    ·cases h
  ·rename_i hu
   rw [hu] at h
   cases h2
   match cs, h with
   | [.string s], h =>
    simp only at h
    split at h
    ·rename_i hk; exact opens_one (.str s hk) (.str s)
    ·cases h
  ·rename_i e hu
   rw [hu] at h
   split at h2
   ·rename_i τe e1
    split at h2
    ·rename_i hc
     cases h2
     match cs, h with
     | [.slice none 0 0], _ => exact opens_one (v := .sl []) (.sl _ _ _ (Nat.zero_le _) (fun x hx => by simp at hx) fun x hx => by simp at hx) (.sl0 _ _)
     | [.slice (some a) len cap], h =>
      simp only at h
      split at h
      ·rename_i hk
       cases e2 : (List.range len).mapM (fun i => (w.cells? base (a.add (i * P.cellsOf e)) (P.cellsOf e)).bind (DataW.trod enc P w base sp held fuel e)) with
       | none => rw [e2] at h; cases h
       | some ys =>
        obtain ⟨v, h3, h4⟩ := opens_slice (w := w) (P := P) (e := e) (ag := isAggT P e) hc.1 hc.2.1 hc.2.2 hk.2.1 hk.2.2 (base := base) (a := a) fun i hi => by
         obtain ⟨y, hy⟩ := mapM_range e2 i hi
         obtain ⟨cs', h5, h6⟩ := Option.bind_eq_some_iff.1 hy
         exact ⟨cs', h5, opens fuel n e cs' y τe h6 e1⟩
        exact opens_one h3 h4
      ·cases h
    ·cases h2
   ·cases h2
  ·rename_i fs hu
   rw [hu] at h
   have h' : (if cs.length = P.cellsOf t then (fs.toList.mapM fun f => DataW.trod enc P w base sp held fuel f.type ((cs.drop f.offset).take (P.cellsOf f.type))).map fun xs => (DataW.agg (xs.map (·.1)), xs.flatMap (·.2)) else none) = some x := h
   split at h'
   ·obtain ⟨xs, h3, _⟩ := Option.map_eq_some_iff.1 h'
    have := opens_parts (w := w) (P := P) (pt := fun f : Field => (f.type, f.offset)) (r := DataW.trod enc P w base sp held fuel) (fun t cs x τ h1 h2 => opens fuel n t cs x τ h1 h2) fs.toList 0 xs τ h3 h2
    simpa using this
   ·cases h'
  ·rename_i m e hu
   rw [hu] at h
   have h' : (if cs.length = P.cellsOf t then ((List.range m).mapM fun i => DataW.trod enc P w base sp held fuel e ((cs.drop (i * P.cellsOf e)).take (P.cellsOf e))).map fun xs => (DataW.agg (xs.map (·.1)), xs.flatMap (·.2)) else none) = some x := h
   split at h'
   ·obtain ⟨xs, h3, _⟩ := Option.map_eq_some_iff.1 h'
    have := opens_parts (w := w) (P := P) (pt := fun i : Nat => (e, i * P.cellsOf e)) (r := DataW.trod enc P w base sp held fuel) (fun t cs x τ h1 h2 => opens fuel n t cs x τ h1 h2) (List.range m) 0 xs τ h3 h2
    simpa using this
   ·cases h'
  ·cases h2
theorem open_one {H : Type} {enc : TypeId × Value → H} {P : Program} {w : World} {base b0 : Nat} {sp : Nat → Bool} {held : Bool} {t : TypeId} {v : Value} {d : DataW H} {ps : List MemPlace} {c : CT} {r : Reach} (n : Nat) (hτ : cellsTy P n t = some [c]) (hag : isAggT P t = false)
  (hval : Value.okWide P w r b0 t v) (hd : DataW.Trod enc P w base sp held t v d ps) : ∃ a, OkC c a ∧ Pur (fun _ => False) w a v := by
 obtain ⟨fuel, hf⟩ := hd
 obtain ⟨vs, n1, p1⟩ := opens fuel n t _ _ _ hf hτ
 have hna : ∀ cs, v ≠ .agg cs := fun cs hv => by
  subst hv
  unfold cellsTy at hτ
  cases n with
  | zero => cases hτ
  | succ n =>
   simp only at hτ
   unfold isAggT at hag
   unfold Value.okWide at hval
   cases hu : P.underlying t with
   | none => rw [hu] at hτ; cases hτ
   | some u =>
    rw [hu] at hτ hag hval
    cases u <;> simp_all [Cell.okWide, Cell.ok]
 have hc : v.cells.toList = [v] := by
  cases v <;> first | rfl | exact absurd rfl (hna _)
 rw [hc] at p1
 obtain ⟨h1, h2⟩ := p1 0 (by simp)
 exact ⟨_, h1, h2⟩
theorem open_agg {H : Type} {enc : TypeId × Value → H} {P : Program} {w : World} {base b0 : Nat} {sp : Nat → Bool} {held : Bool} {t : TypeId} {v : Value} {d : DataW H} {ps : List MemPlace} {τ : List CT} {r : Reach} (n : Nat) (hτ : cellsTy P n t = some τ) (hag : isAggT P t = true) (hsz : τ.length = P.cellsOf t)
  (hval : Value.okWide P w r b0 t v) (hd : DataW.Trod enc P w base sp held t v d ps) : ∃ vs : List V, (vs.length = τ.length ∧ ∀ i, i < τ.length → OkC (τ.getD i .bool) (vs.getD i .junk)) ∧ Pur (fun _ => False) w (.agg vs) v := by
 obtain ⟨fuel, hf⟩ := hd
 obtain ⟨vs, n1, p1⟩ := opens fuel n t _ _ _ hf hτ
 have : ∃ cs, v = .agg cs ∧ cs.size = P.cellsOf t := by
  unfold isAggT at hag
  unfold Value.okWide at hval
  split at hag
  ·rename_i hu; rw [hu] at hval; obtain ⟨cs, h1, h2, _⟩ := hval; exact ⟨cs, h1, h2⟩
  ·rename_i hu; rw [hu] at hval; obtain ⟨cs, h1, h2, _⟩ := hval; exact ⟨cs, h1, h2⟩
  ·cases hag
 obtain ⟨cs, rfl, hs⟩ := this
 refine ⟨vs, ⟨n1, fun i hi => (p1 i hi).1⟩, .agg vs cs (by omega) fun i hi => ?_⟩
 have := (p1 i (by omega)).2
 simpa [Value.cells, Array.getD_eq_getD_getElem?, List.getD_eq_getElem?_getD] using this
end Go.Gim
/- What holds of code as data holds of it in a round of a loop over a function too. -/
namespace Go.Gim
open Go.RowKit
abbrev FR (l : Nat) : Fence := Fence.wide.inRound l
theorem opIn {P : Program} {o : Oper} {a : Act} {w : World} {K : Act → World → Prop} {Q : Exit → Act → World → Prop} {l n : Nat} (hd : ∀ c, o.op ≠ .defer c) (h : o.wp P a w K Q) : o.wpIn (FR l) n P a w K Q := by
 refine ⟨fun _ _ => trivial, ?_⟩
 rw [Oper.semAt_eq _ _ _ hd]
 unfold Oper.wp at h
 generalize (execOp a.eval o).run P w = r at h ⊢
 cases r with
 | ok x w' =>
  cases x with
  | value v => exact h
  | skip => exact h
  | defer d => exact h
  | enter f args => exact ⟨fun h0 => (by cases (show (false : Bool) = true from h0)), CallsIn.inRound l (callsIn_wide.2 h)⟩
  | row row args =>
   refine ⟨fun h0 => (by cases (show (false : Bool) = true from h0)), fun c cs _ => ?_⟩
   obtain ⟨v, w'', r, s⟩ := h c cs
   exact ⟨v, w'', r, stepsIn_wide.2 s⟩
  | _ => exact h.elim
 | halt e w' =>
  cases e with
  | panic v => exact h
  | _ => exact h.elim
theorem opsIn {P : Program} {ops : Array Oper} {Q : Exit → Act → World → Prop} {l n : Nat} (hd : ∀ (i : Nat) (o : Oper), ops[i]? = some o → ∀ c, o.op ≠ .defer c) (hQ : ¬ LetsOut Q) : ∀ (is : List Nat) (a : Act) (w : World), wpOps P ops Q is a w → wpOpsIn (FR l) n P ops Q is a w
 | [], a, w, h => h
 | i :: rest, a, w, h => by
  simp only [wpOps] at h
  simp only [wpOpsIn]
  split at h
  ·rename_i ho
   simp only [ho]
   exact opsIn hd hQ rest a w h
  ·rename_i o ho
   simp only [ho]
   split at h
   ·rename_i hw
    rw [if_pos hw]
    rcases h with h | h
    ·exact opIn (hd i o ho) (Oper.wp_mono (fun a w h => opsIn hd hQ rest a w h) h)
    ·exact absurd h.2 hQ
   ·rename_i hw
    rw [if_neg hw]
    exact ⟨fun _ _ => trivial, opsIn hd hQ rest _ _ h⟩
theorem anyIn {P : Program} {md : Region.Mode} {ops : Array Oper} {Q : Exit → Act → World → Prop} {l n : Nat} (hd : ∀ (i : Nat) (o : Oper), ops[i]? = some o → ∀ c, o.op ≠ .defer c) (hQ : ¬ LetsOut Q) : ∀ (fuel : Nat) (b : Array Bool) (a : Act) (w : World), wpAny P md ops Q fuel b a w → wpAnyIn (FR l) n P md ops Q fuel b a w
 | 0, b, a, w, h => h
 | fuel + 1, b, a, w, h => by
  simp only [wpAny] at h
  simp only [wpAnyIn]
  refine ⟨h.1, fun i hi => ?_⟩
  have h2 := h.2 i hi
  unfold wpOp at h2
  unfold wpOpIn
  split at h2
  ·rename_i ho
   simp only [ho]
   exact anyIn hd hQ fuel _ a w h2
  ·rename_i o ho
   simp only [ho]
   split at h2
   ·rename_i hw
    rw [if_pos hw]
    rcases h2 with h2 | h2
    ·exact opIn (hd i o ho) (Oper.wp_mono (fun a w h => anyIn hd hQ fuel _ a w h) h2)
    ·exact absurd h2.2 hQ
   ·rename_i hw
    rw [if_neg hw]
    exact ⟨fun _ _ => trivial, anyIn hd hQ fuel _ _ _ h2⟩
theorem mIt_nd {P : Program} {n : Nat} {ops : Array Oper} {o : Oper} {it : It} (h : mIt P n ops o it = true) : ∀ c, o.op ≠ .defer c := by
 intro c hc
 simp only [mIt, hc, mOp, Bool.and_eq_true] at h
 have h2 := h.2
 generalize it.op.base = op at h2
 unfold mOp0 at h2
 split at h2 <;> first | contradiction | (rename_i h _; cases h) | (rename_i h; cases h) | cases h2
theorem wpIn_loop_by {F : Fence} {n : Nat} {P : Program} {T : Type} {c : Code} {Q : Exit → Act → World → Prop} {a : Act} {w : World} (R : T → Act → World → Prop) (μ : T → Nat) {t : T} (h₀ : R t a w)
  (round : ∀ t a w, R t a w → c.wpIn F n P (Exit.then (fun a' w' => ∃ t', R t' a' w' ∧ μ t' < μ t) Q) a w) : (Code.loop c).wpIn F n P Q a w := by
 have spec := fun a w => Classical.choose_spec (zhm (fun t => R t a w) μ)
 refine wpIn_loop (fun a w => ∃ t, R t a w) (fun a w => Classical.choose (zhm (fun t => R t a w) μ)) ⟨t, h₀⟩ fun a w hI => ?_
 obtain ⟨t, hR, ht⟩ := (spec a w).2 hI
 refine wpIn_mono (round t a w hR) fun e a' w' h => ?_
 cases e with
 | normal =>
  obtain ⟨t', h1, h2⟩ := h
  have := (spec a' w').1 t' h1
  exact ⟨⟨t', h1⟩, by omega⟩
 | _ => exact h
end Go.Gim

import Derived.Test.YtjmbcnfhonfpkaaGreatDoorF15
import Derived.ChangeKeysEq
set_option linter.unusedVariables false
set_option linter.unusedSimpArgs false
/- Structs and arrays of plain cells, held against one another. -/
namespace Go.Gim
open Go.RowKit

theorem zhb {P : Program} {e : TypeId} {b : Bool} (h : tyCell P e b = true) : P.plainKey e = true := by
 unfold tyCell at h
 unfold Program.plainKey
 split at h <;> rename_i hu <;> first | (rw [hu]) | (cases h)
theorem cell_run {P : Program} {φ : Nat → Option Nat} {M U : Nat → Prop} {w : World} {H : Hp} {e : TypeId} {c : Bool} {u v : V} {a b : Value} {r : Bool} (he : tyCell P e c = true) (ha : Sim φ M w H U u a) (hb : Sim φ M w H U v b) (h : cellEq c u v = some r) (d : Nat) (w' : World) :
  (Op.equalIn (d + 1) e a b).run P w' = .ok r w' := by
 unfold tyCell at he
 unfold cellEq at h
 split at h
 ·cases h
  rw [ha.bool_inv, hb.bool_inv]
  split at he
  ·rename_i hu; exact run_equalIn_bool' w' d e _ _ hu
  ·cases he
  ·cases he
 ·split at h
  ·rename_i hk
   cases h
   subst hk
   rw [ha.int_inv, hb.int_inv]
   split at he
   ·cases he
   ·rename_i hu
    rw [run_equalIn_int w' d e _ _ _ _ hu]
    rfl
   ·cases he
  ·cases h
 ·cases h
theorem cellEq_in {c : Bool} {xs ys : List V} {o : Nat} {r : Bool} (h : cellEq c (xs.getD o .junk) (ys.getD o .junk) = some r) : o < xs.length ∧ o < ys.length := by
 constructor
 ·refine Nat.lt_of_not_le fun hle => ?_
  rw [List.getD_eq_getElem?_getD, List.getElem?_eq_none hle] at h
  cases c <;> simp [cellEq] at h
 ·refine Nat.lt_of_not_le fun hle => ?_
  rw [List.getD_eq_getElem?_getD (l := ys), List.getElem?_eq_none hle] at h
  cases c <;> cases hx : xs.getD o .junk <;> rw [hx] at h <;> simp [cellEq] at h
theorem getElem?_arr {arr : Array Value} {o : Nat} (h : o < arr.size) : arr[o]? = some (arr.getD o Go.undef) := by simp [Array.getD, h]
theorem flds_run {P : Program} {φ : Nat → Option Nat} {M U : Nat → Prop} {w : World} {H : Hp} {xs ys : List V} {ax ay : Array Value} (sx : ax.size = xs.length) (sy : ay.size = ys.length)
  (hx : ∀ i, i < xs.length → Sim φ M w H U (xs.getD i .junk) (ax.getD i Go.undef)) (hy : ∀ i, i < ys.length → Sim φ M w H U (ys.getD i .junk) (ay.getD i Go.undef)) (d : Nat) (w' : World) :
  ∀ (fs : List Field) (l : List (Nat × Bool)) (q : Bool), tyFlds P fs l = true → cellsEq xs ys l = some q → (Op.eqFields (d + 1) ax ay fs).run P w' = .ok q w'
 | [], [], q, _, h => by cases h; rfl
 | f :: fs, (o, b) :: l, q, ht, h => by
  simp only [tyFlds, Bool.and_eq_true, bne_iff_ne, beq_iff_eq] at ht
  obtain ⟨⟨⟨h1, h2⟩, h3⟩, h4⟩ := ht
  simp only [cellsEq, Option.bind_eq_some_iff, Option.map_eq_some_iff] at h
  obtain ⟨r, hr, q', hq', rfl⟩ := h
  obtain ⟨i1, i2⟩ := cellEq_in hr
  have p1 := run_part_plain w' (zhb h3) (getElem?_arr (arr := ax) (o := o) (by omega))
  have p2 := run_part_plain w' (zhb h3) (getElem?_arr (arr := ay) (o := o) (by omega))
  have e1 := cell_run h3 (hx o i1) (hy o i2) hr d w'
  have ih := flds_run sx sy hx hy d w' fs l q' h4 hq'
  simp only [Op.eqFields, if_pos h1, Sem.run_bind, h2, p1, p2, e1, Result.andThen_ok]
  cases r
  ·simp
  ·simpa using ih
 | [], _ :: _, q, ht, _ => by simp [tyFlds] at ht
 | _ :: _, [], q, ht, _ => by simp [tyFlds] at ht
theorem items_run {P : Program} {φ : Nat → Option Nat} {M U : Nat → Prop} {w : World} {H : Hp} {xs ys : List V} {ax ay : Array Value} {e : TypeId} (he : tyCell P e false = true) (sx : ax.size = xs.length) (sy : ay.size = ys.length)
  (hx : ∀ i, i < xs.length → Sim φ M w H U (xs.getD i .junk) (ax.getD i Go.undef)) (hy : ∀ i, i < ys.length → Sim φ M w H U (ys.getD i .junk) (ay.getD i Go.undef)) (d : Nat) (w' : World) :
  ∀ (is : List Nat) (q : Bool), cellsEq xs ys (is.map fun i => (i, false)) = some q → (Op.eqItems (d + 1) e 1 ax ay is).run P w' = .ok q w'
 | [], q, h => by cases h; rfl
 | o :: is, q, h => by
  simp only [List.map_cons, cellsEq, Option.bind_eq_some_iff, Option.map_eq_some_iff] at h
  obtain ⟨r, hr, q', hq', rfl⟩ := h
  obtain ⟨i1, i2⟩ := cellEq_in hr
  have p1 := run_part_plain w' (zhb he) (getElem?_arr (arr := ax) (o := o) (by omega))
  have p2 := run_part_plain w' (zhb he) (getElem?_arr (arr := ay) (o := o) (by omega))
  have e1 := cell_run he (hx o i1) (hy o i2) hr d w'
  have ih := items_run he sx sy hx hy d w' is q' hq'
  simp only [Op.eqItems, Sem.run_bind, Nat.mul_one, p1, p2, e1, Result.andThen_ok]
  cases r
  ·simp
  ·simpa using ih
theorem eqS_run {P : Program} {φ : Nat → Option Nat} {M U : Nat → Prop} {w : World} {H : Hp} {t : TypeId} {n : Bool} {l : List (Nat × Bool)} {u v r : V} {a b : Value} (h : redV (.eqS n l) [u, v] = some r) (ha : Sim φ M w H U u a) (hb : Sim φ M w H U v b) (ht : tyEq P t l = true) :
  ∃ ax ay q, a = .agg ax ∧ b = .agg ay ∧ r = .bool (if n then !q else q) ∧ (∀ w', (Op.equalIn 10000 t (.agg ax) (.agg ay)).run P w' = .ok q w') ∧ P.eqGuardType P.depth t = false := by
 unfold tyEq at ht
 simp only [Bool.and_eq_true, Bool.not_eq_true'] at ht
 obtain ⟨hg, ht⟩ := ht
 unfold redV at h
 split at h
 all_goals first | (cases h; done) | skip
 all_goals rename_i heq heq2
 all_goals first | (cases heq; done) | (cases heq2; done) | skip
 rename_i xs ys
 cases heq
 simp only [List.cons.injEq, and_true] at heq2
 obtain ⟨rfl, rfl⟩ := heq2
 simp only [Option.map_eq_some_iff] at h
 obtain ⟨q, hq, rfl⟩ := h
 obtain ⟨ax, rfl, sx, hx⟩ := ha.agg_inv
 obtain ⟨ay, rfl, sy, hy⟩ := hb.agg_inv
 refine ⟨ax, ay, q, rfl, rfl, rfl, fun w' => ?_, hg⟩
 split at ht
 ·rename_i fs hu
  simp only [Bool.and_eq_true, Bool.not_eq_true'] at ht
  have hfs : P.fieldsOf t = fs := by simp [Program.fieldsOf, hu]
  rw [show (10000 : Nat) = 9998 + 1 + 1 from rfl, run_equalIn_struct w' (9998 + 1) t ax ay (by rw [hfs]; exact hu) ht.1, hfs]
  exact flds_run sx sy hx hy 9998 w' _ _ _ ht.2 hq
 ·rename_i m e hu
  simp only [Bool.and_eq_true, beq_iff_eq] at ht
  obtain ⟨⟨⟨h1, h2⟩, h3⟩, h4⟩ := ht
  obtain ⟨i, hi⟩ := Option.isSome_iff_exists.1 h1
  rw [show (10000 : Nat) = 9998 + 1 + 1 from rfl, run_equalIn_array w' (9998 + 1) ax ay hu hi, h2]
  rw [h4] at hq
  exact items_run h3 sx sy hx hy 9998 w' _ _ hq
 ·cases ht
end Go.Gim
/- Every operation that is told rightly does in the machine what it does with the data. -/
namespace Go.Gim
open Go.RowKit

theorem zc8 {P : Program} {s : Sem Value} {x : Value} {w : World} (h : s.run P w = .ok x w) : (do pure (Next.value (← s)) : Sem Next).run P w = .ok (.value x) w := by
 simp [h]

theorem pur_args {φ : Nat → Option Nat} {M U : Nat → Prop} {w : World} {H : Hp} {vs : List V} {xs : List Value} (hs : ∀ i, i < vs.length → Sim φ M w H U (vs.getD i .junk) (xs.getD i Go.undef)) (hp : ∀ v ∈ vs, v.Pure) :
  ∀ i, i < vs.length → Pur M w (vs.getD i .junk) (xs.getD i Go.undef) := fun i hi => (hs i hi).toPur (hp _ (zce hi))

theorem call_sound {P : Program} {o : Oper} {a : Act} {w : World} {φ : Nat → Option Nat} {M U U' : Nat → Prop} {H : Hp} {f : Nat} {vals : Array Value} {args : List V} {r : V} (hp : HpOk φ M w H U) (hU : ∀ b, U b → U' b)
  (Mb : ∀ g, M g → g < w.heap.size) (hg : GOk M w) (hr : (execOp a.eval o).run P w = .ok (.enter f vals) w) (hret : Ret P f args r) (hn : vals.size = args.length) (hs : ∀ i, i < args.length → Pur M w (args.getD i .junk) (vals.getD i Go.undef)) :
  OpGoal P o a w φ M U U' H r H := by
 intro next Q hnext
 unfold Oper.wp
 rw [hr]
 show Calls P f vals w _
 refine (hret.2 M w vals Mb hg hn hs).mono fun e w' h => ?_
 obtain ⟨x, rfl, hx, hb⟩ := h
 exact hnext x w' φ M (Trans.below hp hU hb) (.pur hx)

theorem zga {P : Program} {ρ : Operand → Value} {c : Call} {t : TypeId} {w : World} {f : Nat} {caps : Array Value} {g : Operand} (hc : c.callee = .value g) (hg : ρ g = .func (.func f) #[] caps) (he : Enters P f) :
  (do let d ← resolve ρ c t; invoke d.target d.args : Sem Next).run P w = .ok (.enter f (c.args.map ρ ++ caps)) w := by
 have := he (c.args.map ρ ++ caps) w
 simp [resolve, hc, hg, Deferred.ofValue, invoke, this]

theorem run_places {P : Program} {w : World} : ∀ (l : List Field), (l.all fun f => (P.info? f.type).isSome) = true →
  (l.mapM (fun f => do pure (f.offset, ← sizeOf f.type)) : Sem (List (Nat × Nat))).run P w = .ok (l.map fun f => (f.offset, P.cellsOf f.type)) w
 | [], _ => by simp
 | f :: l, h => by
  simp only [List.all_cons, Bool.and_eq_true] at h
  obtain ⟨i, hi⟩ := Option.isSome_iff_exists.1 h.1
  have hz : tySz P f.type i.size = true := by simp [tySz, hi]
  simp only [List.mapM_cons, Sem.run_bind, zbu hz, Result.andThen_ok, Sem.run_pure, run_places l h.2]
  simp [Program.cellsOf, hi]

theorem cellsOf_sz {P : Program} {t : TypeId} {n : Nat} (h : tySz P t n = true) : P.cellsOf t = n := by
 unfold tySz at h
 cases hi : P.info? t with
 | none => simp [hi] at h
 | some i => simp [hi] at h; simp [Program.cellsOf, hi, h]

theorem zero_run {P : Program} {t : TypeId} {v : V} (h : tyZero P t v = true) : ∃ z, mV 4 z v = true ∧ ∀ w, (zeroValue t).run P w = .ok z w := by
 unfold tyZero at h
 cases hi : P.info? t with
 | none => simp [hi] at h
 | some i =>
  cases hz : i.zero with
  | none => simp [hi, hz] at h
  | some z => exact ⟨z, by simpa [hi, hz] using h, fun w => by simp [zeroValue, typeInfo, hi, hz]⟩

theorem V.Pure.cells {v : V} (h : v.Pure) : ∀ c ∈ v.cells, c.Pure := by
 cases v <;> first
  | (intro c hc; simp [V.cells] at hc; subst hc; exact h)
  | (rw [V.pure_agg] at h; exact h)

theorem setPart_cells {e x e' : V} {off : Nat} (h : V.setPart e off x = some e') : e'.cells.length = e.cells.length ∧ off + x.cells.length ≤ e.cells.length ∧
  ∀ j, j < e.cells.length → e'.cells.getD j .junk = if off ≤ j ∧ j < off + x.cells.length then x.cells.getD (j - off) .junk else e.cells.getD j .junk := by
 unfold V.setPart at h
 split at h
 ·rename_i hle
  split at h
  ·rename_i hc
   obtain ⟨rfl, h1, h2⟩ := hc
   simp at h; subst h
   exact ⟨h1.symm, hle, fun j hj => by rw [if_pos (by omega)]; simp⟩
  ·rw [Option.some.injEq] at h; subst h
   have hl := laid_getD e.cells x.cells off hle
   generalize e.cells = l at hle hl ⊢
   generalize x.cells = m at hle hl ⊢
   refine ⟨?_, hle, fun j hj => ?_⟩
   ·show (l.take off ++ m ++ l.drop (off + m.length)).length = l.length
    simp; omega
   ·exact hl j
 ·simp at h

theorem op_sound0 {P : Program} {dr : Bool} {id : Nat} {o : Oper} {op : AOp} {S : St} {a : Act} {w : World} {φ : Nat → Option Nat} {M U U' : Nat → Prop} {v : V} {H' : Hp} (hm : mOp0 P o.op op = true)
  (hs : step1 P dr id op S v H') (henv : EnvOk φ M w S.H U S a) (hp : HpOk φ M w S.H U) (Mb : ∀ g, M g → g < w.heap.size) (hU : ∀ b, U b → U' b) (hid : U' id) (hnew : ¬ U id) :
  OpGoal P o a w φ M U U' S.H v H' := by
 obtain ⟨dst, oop, ty, pos, after, guard⟩ := o
 simp only at hm
 unfold mOp0 at hm
 split at hm
 ·-- move
  rename_i x y
  obtain ⟨rfl, rfl⟩ := hs
  exact zbr hp hU rfl (za4 henv hm)
 ·-- assign
  rename_i x y
  obtain ⟨rfl, rfl⟩ := hs
  exact zbr hp hU rfl (za4 henv hm)
 ·-- pick
  rename_i c a' b c' a'' b'
  simp only [Bool.and_eq_true] at hm
  obtain ⟨⟨h1, h2⟩, h3⟩ := hm
  simp only [step1] at hs
  split at hs
  ·rename_i t ht
   obtain ⟨rfl, rfl⟩ := hs
   have e := za4 henv h1
   rw [ht] at e
   have e := e.bool_inv
   cases t
   ·exact zbr hp hU (x := a.eval b) (by simp [execOp, e, asBool]) (by simpa using za4 henv h3)
   ·exact zbr hp hU (x := a.eval a') (by simp [execOp, e, asBool]) (by simpa using za4 henv h2)
  ·exact hs.elim
 ·-- binOp
  rename_i f t x y yt f' x' y'
  simp only [Bool.and_eq_true, decide_eq_true_eq] at hm
  obtain ⟨⟨rfl, h2⟩, h3⟩ := hm
  obtain ⟨h, rfl⟩ := hs
  obtain ⟨z, hz, hzs⟩ := bin_run (P := P) (t := t) (X := x) (Y := y) h (za4 henv h2) (za4 henv h3)
  exact zbr hp hU (zc8 hz) hzs
 ·-- eqB
  rename_i f t x y yt n x' y'
  simp only [Bool.and_eq_true, decide_eq_true_eq] at hm
  obtain ⟨⟨⟨hf, hb⟩, h2⟩, h3⟩ := hm
  simp only [step1] at hs
  split at hs
  ·rename_i p q hp1 hq1
   obtain ⟨rfl, rfl⟩ := hs
   have e1 := za4 henv h2; rw [hp1] at e1; have e1 := e1.bool_inv
   have e2 := za4 henv h3; rw [hq1] at e2; have e2 := e2.bool_inv
   have hu : P.underlying t = some .bool := by
    unfold tyIsBool at hb
    split at hb
    ·assumption
    ·cases hb
   refine zbr hp hU (x := .bool (if n then !decide (p = q) else decide (p = q))) (zc8 ?_) (.pur (.bool _))
   have heq : ∀ w, (Op.equal t (.bool p) (.bool q)).run P w = .ok (decide (p = q)) w := fun w => by
    have hd : ∀ d, (Op.equalIn (d + 1) t (.bool p) (.bool q)).run P w = .ok (decide (p = q)) w := fun d => by
     unfold Op.equalIn
     simp only [Sem.run_bind, run_underlying hu, Result.andThen_ok]
     cases p <;> cases q <;> rfl
    exact hd 9999
   have hg : ∀ o : BinOp, (eqGuard o t x y (.bool p) (.bool q)).run P w = .ok () w := fun o => by
    unfold eqGuard; cases o <;> simp
   rw [e1, e2]
   cases n <;> (simp at hf; subst hf; simp [hg, Go.binOp, heq])
  ·exact hs.elim
 ·-- structs and arrays of plain cells, held against one another
  rename_i f t x y yt n l x' y'
  simp only [Bool.and_eq_true, decide_eq_true_eq] at hm
  obtain ⟨⟨⟨hf, hb⟩, h2⟩, h3⟩ := hm
  obtain ⟨h, rfl⟩ := hs
  simp only [List.map_cons, List.map_nil] at h
  obtain ⟨ax, ay, q, e1, e2, rfl, hq, hg⟩ := eqS_run h (za4 henv h2) (za4 henv h3) hb
  refine zbr hp hU (x := .bool (if n then !q else q)) (zc8 ?_) (.pur (.bool _))
  rw [e1, e2]
  cases n
  ·simp at hf; subst hf
   simp only [Sem.run_bind, run_eqGuard_agg w _ t x y ax ay hg, Result.andThen_ok, run_eql_struct, hq]
   rfl
  ·simp at hf; subst hf
   simp only [Sem.run_bind, run_eqGuard_agg w _ t x y ax ay hg, Result.andThen_ok, run_neq_struct, hq]
   rfl
 ·-- nil?
  rename_i f t x y yt k n x'
  simp only [Bool.and_eq_true, decide_eq_true_eq] at hm
  obtain ⟨⟨hf, hb⟩, h2⟩ := hm
  have ex := za4 henv h2
  have key : ∀ (nil : Bool), (∀ w, (Op.equal t (a.eval x) (a.eval y)).run P w = .ok nil w) → (∀ o : BinOp, (eqGuard o t x y (a.eval x) (a.eval y)).run P w = .ok () w) → (∀ op, (op = .eql ∨ op = .neq) → (Go.binOp op t (a.eval x) (a.eval y) = if op = .neq then (do pure (.bool (!(← Op.equal t (a.eval x) (a.eval y))))) else (do pure (.bool (← Op.equal t (a.eval x) (a.eval y)))))) →
    OpGoal P ⟨dst, .binOp f t x y yt, ty, pos, after, guard⟩ a w φ M U U' S.H (.bool (nil ^^ n)) S.H := fun nil h1 h2 h3 => by
   refine zbr hp hU (x := .bool (nil ^^ n)) (zc8 ?_) (.pur (.bool _))
   simp only [Sem.run_bind, h2, Result.andThen_ok]
   rw [h3 f (by rw [hf]; cases n <;> simp)]
   cases n <;> (simp at hf; subst hf; simp [h1])
  unfold nilC at hb
  simp only [step1] at hs
  split at hb
  ·rename_i el hu
   have hy : a.eval (.const (.slice none 0 0)) = .slice none 0 0 := rfl
   rw [hy] at key
   have heq : ∀ (ad : Addr) l c, (∀ w, (Op.equal t (.slice (some ad) l c) (.slice none 0 0)).run P w = .ok false w) := fun ad l c w => by
    have hd : ∀ d, (Op.equalIn (d + 1) t (.slice (some ad) l c) (.slice none 0 0)).run P w = .ok false w := fun d => by
     unfold Op.equalIn
     simp only [Sem.run_bind, run_underlying hu, Result.andThen_ok, Sem.run_pure]
    exact hd 9999
   have fin : ∀ (ad : Addr) l c, a.eval x = .slice (some ad) l c → OpGoal P ⟨dst, .binOp f t x (.const (.slice none 0 0)) yt, ty, pos, after, guard⟩ a w φ M U U' S.H (.bool n) S.H := fun ad l c hx => by
    have := key false (by rw [hx]; exact heq ad l c) (fun o => by rw [hx]; unfold eqGuard; cases o <;> simp) (fun op ho => by rw [hx]; rcases ho with rfl | rfl <;> rfl)
    simpa using this
   split at hs
   ·rename_i e l _ hx
    obtain ⟨rfl, rfl⟩ := hs
    rw [hx] at ex
    obtain ⟨ad, c, hc⟩ : ∃ ad c, a.eval x = .slice (some ad) (e :: l).length c := by
     generalize a.eval x = z at ex
     cases ex with
     | pur h => cases h with | sl xs ad cap => exact ⟨ad, cap, rfl⟩
    exact fin ad _ c hc
   ·rename_i b m _ hx
    obtain ⟨rfl, ⟨blk, k1, k2⟩, _, rfl⟩ := hs
    rw [hx] at ex
    obtain ⟨ad, c, hc⟩ : ∃ ad c, a.eval x = .slice (some ad) (m + 1) c := by
     generalize a.eval x = z at ex
     cases ex with
     | pur h => cases h
     | own b n z hb hz ho =>
      rcases ho blk k1 k2 with ⟨_, h0, _⟩ | ⟨g, cap, _, _, _, rfl, _⟩
      ·cases h0
      ·exact ⟨_, cap, rfl⟩
    exact fin ad _ c hc
   ·rename_i b m off len _ hx
    obtain ⟨rfl, ⟨blk, k1, k2⟩, _, rfl⟩ := hs
    rw [hx] at ex
    obtain ⟨ad, c, hc⟩ : ∃ ad c, a.eval x = .slice (some ad) (len + 1) c := by
     generalize a.eval x = z at ex
     cases ex with
     | pur h => cases h
     | win b n off len z hb hz ho => obtain ⟨g, _, _, c, _, rfl⟩ := ho blk k1 k2; exact ⟨_, c, rfl⟩
    exact fin ad _ c hc
   all_goals first | exact hs.elim | (rename_i hk _; cases hk) | (rename_i hk; cases hk)
  ·rename_i el hu
   have hy : a.eval (.const (.pointer none)) = .pointer none := rfl
   rw [hy] at key
   have fin : ∀ (ad : Addr), a.eval x = .pointer (some ad) → OpGoal P ⟨dst, .binOp f t x (.const (.pointer none)) yt, ty, pos, after, guard⟩ a w φ M U U' S.H (.bool n) S.H := fun ad hx => by
    have := key false (by
     rw [hx]
     intro w
     have hd : ∀ d, (Op.equalIn (d + 1) t (.pointer (some ad)) (.pointer none)).run P w = .ok false w := fun d => by
      unfold Op.equalIn
      simp only [Sem.run_bind, run_underlying hu, Result.andThen_ok, Sem.run_pure]
     exact hd 9999) (fun o => by rw [hx]; unfold eqGuard; cases o <;> simp) (fun op ho => by rw [hx]; rcases ho with rfl | rfl <;> rfl)
    simpa using this
   split at hs
   all_goals first | exact hs.elim | (rename_i hk _; cases hk; done) | (rename_i hk; cases hk; done) | skip
   ·rename_i _ hx
    obtain ⟨rfl, rfl⟩ := hs
    rw [hx] at ex
    have hc : a.eval x = .pointer none := by
     generalize a.eval x = z at ex
     cases ex with
     | pur h => cases h; rfl
    have := key true (by
     rw [hc]
     intro w
     have hd : ∀ d, (Op.equalIn (d + 1) t (.pointer none) (.pointer none)).run P w = .ok true w := fun d => by
      unfold Op.equalIn
      simp only [Sem.run_bind, run_underlying hu, Result.andThen_ok, Sem.run_pure]
      rfl
     exact hd 9999) (fun o => by rw [hc]; unfold eqGuard; cases o <;> simp) (fun op ho => by rw [hc]; rcases ho with rfl | rfl <;> rfl)
    simpa using this
   ·rename_i u _ hx
    obtain ⟨rfl, rfl⟩ := hs
    rw [hx] at ex
    obtain ⟨ad, hc⟩ : ∃ ad, a.eval x = .pointer (some ad) := by
     generalize a.eval x = z at ex
     cases ex with
     | pur h => cases h; exact ⟨_, rfl⟩
    exact fin ad hc
   ·rename_i b m i off _ hx
    obtain ⟨rfl, ⟨blk, k1, k2⟩, _, rfl⟩ := hs
    rw [hx] at ex
    obtain ⟨ad, hc⟩ : ∃ ad, a.eval x = .pointer (some ad) := by
     generalize a.eval x = z at ex
     cases ex with
     | pur h => cases h
     | ptr b n i off z hb hz ho => obtain ⟨g, _, h⟩ := ho blk k1 k2; exact ⟨_, h⟩
    exact fin ad hc
  ·rename_i ft1 ft2 ft3 hu
   have hy : a.eval (.const .nilFunc) = .nilFunc := rfl
   rw [hy] at key
   split at hs
   all_goals first | exact hs.elim | (rename_i hk _; cases hk; done) | (rename_i hk; cases hk; done) | skip
   ·rename_i g cs _ hx
    obtain ⟨rfl, rfl⟩ := hs
    rw [hx] at ex
    obtain ⟨arr, hc, _⟩ := ex.fn_inv
    have := key false (by
     rw [hc]
     intro w
     have hd : ∀ d, (Op.equalIn (d + 1) t (.func (.func g) #[] arr) .nilFunc).run P w = .ok false w := fun d => by
      unfold Op.equalIn
      simp only [Sem.run_bind, run_underlying hu, Result.andThen_ok, Sem.run_pure]
     exact hd 9999) (fun o => by rw [hc]; unfold eqGuard; cases o <;> simp) (fun op ho => by rw [hc]; rcases ho with rfl | rfl <;> rfl)
    simpa using this
   ·rename_i _ hx
    obtain ⟨rfl, rfl⟩ := hs
    rw [hx] at ex
    have hc : a.eval x = .nilFunc := by
     generalize a.eval x = z at ex
     cases ex with
     | pur h => cases h; rfl
    have := key true (by
     rw [hc]
     intro w
     have hd : ∀ d, (Op.equalIn (d + 1) t .nilFunc .nilFunc).run P w = .ok true w := fun d => by
      unfold Op.equalIn
      simp only [Sem.run_bind, run_underlying hu, Result.andThen_ok, Sem.run_pure]
     exact hd 9999) (fun o => by rw [hc]; unfold eqGuard; cases o <;> simp) (fun op ho => by rw [hc]; rcases ho with rfl | rfl <;> rfl)
    simpa using this
  ·cases hb
 ·-- unOp
  rename_i f t x f' x'
  simp only [Bool.and_eq_true, decide_eq_true_eq] at hm
  obtain ⟨rfl, h2⟩ := hm
  obtain ⟨h, rfl⟩ := hs
  have e := za4 henv h2
  unfold unV at h
  split at h
  ·rename_i k n he
   rw [he] at e; have e := e.int_inv
   simp at h; subst h
   exact zbr hp hU (x := .int k (k.wrap (0 - n))) (zc8 (by rw [e]; simp [Op.unary, Op.intArith])) (by rw [show -n = 0 - n by omega]; exact .pur (.int _ _))
  ·rename_i b he
   rw [he] at e; have e := e.bool_inv
   simp at h; subst h
   exact zbr hp hU (x := .bool !b) (zc8 (by rw [e]; simp [Op.unary])) (.pur (.bool _))
  ·simp at h
 ·-- convert
  rename_i s d x k x'
  simp only [Bool.and_eq_true] at hm
  obtain ⟨⟨h1, h2⟩, h3⟩ := hm
  simp only [step1] at hs
  split at hs
  ·rename_i k' n he
   obtain ⟨rfl, rfl⟩ := hs
   have e := za4 henv h3; rw [he] at e; have e := e.int_inv
   obtain ⟨ds, hds⟩ : ∃ ds, P.underlying s = some ds := by
    unfold tyHas at h1; exact Option.isSome_iff_exists.1 h1
   have hdd : P.underlying d = some (.int k) := by
    unfold tyKind at h2
    split at h2
    ·rename_i k'' hk; simp at h2; subst h2; exact hk
    ·cases h2
   exact zbr hp hU (x := .int k (k.wrap n)) (zc8 (by rw [e]; simp only [Go.convert, Sem.run_bind, run_underlying hds, run_underlying hdd, Result.andThen_ok]; rfl)) (.pur (.int _ _))
  ·exact hs.elim
 ·-- len
  rename_i args argTypes s x'
  split at hm
  ·rename_i x t ha ht
   simp only [Bool.and_eq_true] at hm
   obtain ⟨h1, h2⟩ := hm
   have e := za4 henv h1
   have hargs : args = #[x] := by cases args; simp_all
   have hts : argTypes = #[t] := by cases argTypes; simp_all
   subst hargs; subst hts
   have hlen : ∀ (y : Value) (n : Nat) (d : TypeDesc), a.eval x = y → P.underlying t = some d → ((∃ b, y = .string b ∧ d = .string ∧ b.size = n) ∨ (∃ ad c e, y = .slice ad n c ∧ d = .slice e)) →
     (execOp a.eval ⟨dst, .call { callee := .builtin .len, args := #[x], argTypes := #[t] }, ty, pos, after, guard⟩).run P w = .ok (.value (.int .i64 n)) w := by
    intro y n d hy hd hc
    rcases hc with ⟨b, rfl, rfl, rfl⟩ | ⟨ad, c, e, rfl, rfl⟩ <;> simp [execOp, resolve, invoke, Go.builtin, Builtin.len_, run_underlying hd, hy, goInt]
   simp only [step1] at hs
   split at hs
   ·rename_i b n hx
    obtain ⟨rfl, ⟨blk, k1, k2⟩, rfl, _, rfl⟩ := hs
    simp at h2
    obtain ⟨el, hel⟩ : ∃ el, P.underlying t = some (.slice el) := by
     unfold zea at h2; split at h2
     ·rename_i e' h'; exact ⟨e', h'⟩
     ·simp at h2
    rw [hx] at e
    have : ∃ ad c, a.eval x = .slice ad n c := by
     generalize a.eval x = y at e
     cases e with
     | pur h => cases h
     | own b n y hb hy h =>
      rcases h blk k1 k2 with ⟨_, rfl, rfl⟩ | ⟨g, cap, arr, ty', _, rfl, _⟩
      ·exact ⟨none, 0, rfl⟩
      ·exact ⟨_, cap, rfl⟩
    obtain ⟨ad, c, hc⟩ := this
    exact zbr hp hU (hlen _ n _ hc hel (.inr ⟨ad, c, el, rfl, rfl⟩)) (.pur (.int _ _))
   ·rename_i y hy
    obtain ⟨h, rfl⟩ := hs
    unfold lenV at h
    split at h
    ·rename_i b hx
     rw [hx] at e; have e := e.str_inv
     simp at h; subst h
     have hd : P.underlying t = some .string := by
      simp at h2; unfold tyIsStr at h2; split at h2 <;> simp_all
     exact zbr hp hU (hlen _ b.size _ e hd (.inl ⟨b, rfl, rfl, rfl⟩)) (.pur (.int _ _))
    ·rename_i xs hx
     rw [hx] at e
     simp at h; subst h
     simp at h2
     obtain ⟨el, hel⟩ : ∃ el, P.underlying t = some (.slice el) := by
      unfold zea at h2; split at h2
      ·rename_i e' h'; exact ⟨e', h'⟩
      ·simp at h2
     have : ∃ ad c, a.eval x = .slice ad xs.length c := by
      generalize a.eval x = y at e
      cases e with
      | pur h => cases h <;> exact ⟨_, _, rfl⟩
     obtain ⟨ad, c, hc⟩ := this
     exact zbr hp hU (hlen _ _ _ hc hel (.inr ⟨ad, c, el, rfl, rfl⟩)) (.pur (.int _ _))
    ·rename_i hx
     rw [hx] at e
     simp at h; subst h
     simp at h2
     obtain ⟨el, hel⟩ : ∃ el, P.underlying t = some (.slice el) := by
      unfold zea at h2; split at h2
      ·rename_i e' h'; exact ⟨e', h'⟩
      ·simp at h2
     have : ∃ ad c, a.eval x = .slice ad 0 c := by
      generalize a.eval x = y at e
      cases e with
      | pur h => cases h; exact ⟨_, _, rfl⟩
     obtain ⟨ad, c, hc⟩ := this
     exact zbr hp hU (hlen _ 0 _ hc hel (.inr ⟨ad, c, el, rfl, rfl⟩)) (.pur (.int _ _))
    ·rename_i b m off len hx
     rw [hx] at e
     simp at h; subst h
     simp at h2
     obtain ⟨el, hel⟩ : ∃ el, P.underlying t = some (.slice el) := by
      unfold zea at h2; split at h2
      ·rename_i e' h'; exact ⟨e', h'⟩
      ·simp at h2
     have : ∃ ad c, a.eval x = .slice ad len c := by
      generalize a.eval x = y at e
      cases e with
      | pur h => cases h
      | win b n off len y hb hy h => exact hy
     obtain ⟨ad, c, hc⟩ := this
     exact zbr hp hU (hlen _ len _ hc hel (.inr ⟨ad, c, el, rfl, rfl⟩)) (.pur (.int _ _))
    ·simp at h
  ·cases hm
 ·-- max
  rename_i args argTypes x xs
  obtain ⟨h, rfl⟩ := hs
  obtain ⟨h1, h2⟩ := zfz henv hm
  obtain ⟨l⟩ := args
  obtain ⟨o, os, rfl⟩ : ∃ o os, l = o :: os := by cases l <;> simp_all
  simp only [List.length_cons, Nat.add_right_cancel_iff] at h1
  obtain ⟨z, hz, hzs⟩ := mm_run (P := P) h (by simp [h1]) (ys := os.map a.eval) (fun i hi => by simpa using h2 (i + 1) (by simp at hi; simp; omega)) (by simpa using h2 0 (by simp))
  refine zbr hp hU (x := z) ?_ hzs
  simp only [execOp, resolve, invoke, Go.builtin, Builtin.max_, Sem.run_bind, Sem.run_pure, Result.andThen_ok, List.map_toArray, List.map_cons]
  simp at hz
  simp [hz]
 ·-- min
  rename_i args argTypes x xs
  obtain ⟨h, rfl⟩ := hs
  obtain ⟨h1, h2⟩ := zfz henv hm
  obtain ⟨l⟩ := args
  obtain ⟨o, os, rfl⟩ : ∃ o os, l = o :: os := by cases l <;> simp_all
  simp only [List.length_cons, Nat.add_right_cancel_iff] at h1
  obtain ⟨z, hz, hzs⟩ := mm_run (P := P) h (by simp [h1]) (ys := os.map a.eval) (fun i hi => by simpa using h2 (i + 1) (by simp at hi; simp; omega)) (by simpa using h2 0 (by simp))
  refine zbr hp hU (x := z) ?_ hzs
  simp only [execOp, resolve, invoke, Go.builtin, Builtin.min_, Sem.run_bind, Sem.run_pure, Result.andThen_ok, List.map_toArray, List.map_cons]
  simp at hz
  simp [hz]
 ·-- extract
  rename_i x i x' i'
  simp only [Bool.and_eq_true, beq_iff_eq] at hm
  obtain ⟨h1, rfl⟩ := hm
  simp only [step1] at hs
  split at hs
  ·rename_i vs hx
   obtain ⟨h, rfl⟩ := hs
   have e := za4 henv h1; rw [hx] at e
   obtain ⟨arr, e1, e2, e3⟩ := e.tup_inv
   have hi : i < vs.length := (List.getElem?_eq_some_iff.1 h).1
   have := e3 i hi
   rw [show vs.getD i .junk = v by simp [List.getD_eq_getElem?_getD, h]] at this
   exact zbr hp hU (x := arr.getD i Go.undef) (zc8 (by rw [e1]; unfold Instr.extract; dsimp only; rw [show arr[i]? = some (arr.getD i Go.undef) from zdu (by omega)]; rfl)) this
  ·exact hs.elim
 ·-- build
  rename_i t parts z parts'
  simp only [Bool.and_eq_true] at hm
  obtain ⟨h1, h2⟩ := hm
  obtain ⟨⟨cs, hcs, rfl⟩, rfl⟩ := hs
  split at h2
  ·rename_i fs hfs
   unfold tyZero at h1
   cases hz : (P.info? t).bind (·.zero) with
   | none => simp [hz] at h1
   | some zv =>
    simp [hz] at h1
    simp only [Bool.and_eq_true] at h2
    obtain ⟨h2a, h2b⟩ := h2
    have hzp := Sim.agg_inv (φ := φ) (M := M) (w := w) (H := S.H) (U := U) (.pur (mV_pur h1))
    obtain ⟨zarr, rfl, hzn, hzc⟩ := hzp
    have hzr : (zeroValue t).run P w = .ok (.agg zarr) w := by
     cases hi : P.info? t with
     | none => simp [hi] at hz
     | some i0 =>
      have : i0.zero = some (.agg zarr) := by simpa [hi] using hz
      simp [zeroValue, typeInfo, hi, this]
    obtain ⟨arr', f1, f2, f3⟩ := fill_ok (P := P) henv (tyField P t) ((fs.toList.map fun f => (f.offset, P.cellsOf f.type)).toArray[·]?) (fun i off ft size hf hsz => by
     unfold tyField at hf
     rw [hfs] at hf
     simp only [Option.map_eq_some_iff] at hf
     obtain ⟨f, hf1, hf2⟩ := hf
     cases hf2
     simp [hf1, cellsOf_sz hsz]) h2b hcs hzn hzc
    refine zbr hp hU (x := .agg arr') (zc8 ?_) (.agg _ _ f2 f3)
    have hpl : (fs.mapM (fun f => do pure (f.offset, ← sizeOf f.type)) : Sem (Array (Nat × Nat))).run P w = .ok (fs.toList.map fun f => (f.offset, P.cellsOf f.type)).toArray w := by
     obtain ⟨l⟩ := fs
     have := run_places (P := P) (w := w) l h2a
     simp only [List.mapM_toArray, Sem.run_map, this, Result.andThen_ok]
    have hparts : (Array.map (fun (p : Nat × Operand) => (p.1, a.eval p.2)) parts).toList = parts.toList.map fun p => (p.1, a.eval p.2) := by simp
    simp only [Instr.build, Sem.run_bind, hzr, Result.andThen_ok, run_underlying hfs, hpl, Value.cells, hparts, f1, Sem.run_pure]
  ·rename_i n e hfs
   unfold tyZero at h1
   cases hz : (P.info? t).bind (·.zero) with
   | none => simp [hz] at h1
   | some zv =>
    simp [hz] at h1
    simp only [Bool.and_eq_true] at h2
    obtain ⟨h2a, h2b⟩ := h2
    have hzp := Sim.agg_inv (φ := φ) (M := M) (w := w) (H := S.H) (U := U) (.pur (mV_pur h1))
    obtain ⟨zarr, rfl, hzn, hzc⟩ := hzp
    have hzr : (zeroValue t).run P w = .ok (.agg zarr) w := by
     cases hi : P.info? t with
     | none => simp [hi] at hz
     | some i0 =>
      have : i0.zero = some (.agg zarr) := by simpa [hi] using hz
      simp [zeroValue, typeInfo, hi, this]
    obtain ⟨ie, hie⟩ := Option.isSome_iff_exists.1 h2a
    have hse : ∀ w, (sizeOf e).run P w = .ok (P.cellsOf e) w := fun w => by simp [sizeOf, typeInfo, hie, Program.cellsOf]
    obtain ⟨arr', f1, f2, f3⟩ := fill_ok (P := P) henv (tyPlace P e) (fun i => some (i * P.cellsOf e, P.cellsOf e)) (fun i off ft size hf hsz => by
     unfold tyPlace at hf
     cases hf; rw [cellsOf_sz hsz]) h2b hcs hzn hzc
    refine zbr hp hU (x := .agg arr') (zc8 ?_) (.agg _ _ f2 f3)
    have hparts : (Array.map (fun (p : Nat × Operand) => (p.1, a.eval p.2)) parts).toList = parts.toList.map fun p => (p.1, a.eval p.2) := by simp
    simp only [Instr.build, Sem.run_bind, hzr, Result.andThen_ok, run_underlying hfs, hse, Value.cells, hparts, f1, Sem.run_pure]
  ·cases h2
 ·-- field
  rename_i t x i off size ag x'
  simp only [Bool.and_eq_true] at hm
  obtain ⟨h1, h2⟩ := hm
  simp only [step1] at hs
  split at hs
  ·rename_i cs hx
   obtain ⟨h, rfl⟩ := hs
   have e := za4 henv h2; rw [hx] at e
   obtain ⟨arr, e1, e2, e3⟩ := e.agg_inv
   cases hf : tyField P t i with
   | none => simp [hf] at h1
   | some q =>
    obtain ⟨o', ft⟩ := q
    simp [hf] at h1
    obtain ⟨⟨rfl, hsz⟩, hag⟩ := h1
    obtain ⟨q1, q2, q3⟩ := zhd h hsz hag (arr := arr) (k := 0) (by simp [V.cells, e2]) (fun j hj => by simpa [V.cells] using e3 j hj)
    refine zbr hp hU (zc8 ?_) q1
    unfold tyField at hf
    split at hf
    ·rename_i fs hfs
     simp only [Option.map_eq_some_iff] at hf
     obtain ⟨f, hf1, hf2⟩ := hf
     cases hf2
     simp only [Instr.field, Sem.run_bind, run_underlying hfs, Result.andThen_ok, hf1, e1, asAgg, Sem.run_pure, part, run_isAgg hag]
     cases ag with
     | true =>
      simp only [if_true, Sem.run_bind, zbu hsz, Result.andThen_ok, Sem.run_pure]
      congr 2
      apply Array.ext
      ·simp; omega
      ·intro j h1 h2
       simp at h1 h2 ⊢
       simp [Array.getD, show f.offset + j < arr.size by omega]
     | false =>
      simp only [Bool.false_eq_true, if_false]
      rw [zdu (d := Go.undef) (show f.offset < arr.size by have := q3 rfl; omega)]
      simp
    ·cases hf
  ·exact hs.elim
 ·-- nilCheck
  rename_i x x'
  have e := za4 henv hm
  simp only [step1] at hs
  split at hs
  ·rename_i u hx
   obtain ⟨rfl, rfl⟩ := hs
   rw [hx] at e
   have : ∃ ad, a.eval x = .pointer (some ad) := by
    generalize a.eval x = y at e
    cases e with
    | pur h => cases h; exact ⟨_, rfl⟩
   obtain ⟨ad, had⟩ := this
   exact zbr hp hU (x := a.eval x) (by simp [execOp, had]) e
  ·rename_i b n i off hx
   obtain ⟨_, rfl, ⟨blk, k1, k2⟩, rfl⟩ := hs
   rw [hx] at e
   have : ∃ ad, a.eval x = .pointer (some ad) := by
    generalize a.eval x = y at e
    cases e with
    | pur h => cases h
    | ptr b n i off x hb hx' h => obtain ⟨g, _, h⟩ := h blk k1 k2; exact ⟨_, h⟩
   obtain ⟨ad, had⟩ := this
   exact zbr hp hU (x := a.eval x) (by simp [execOp, had]) e
  ·rename_i f cs hx
   obtain ⟨rfl, rfl⟩ := hs
   rw [hx] at e
   obtain ⟨arr, had, _⟩ := e.fn_inv
   exact zbr hp hU (x := a.eval x) (by simp [execOp, had]) e
  ·exact hs.elim
 ·-- makeFunc
  rename_i f first caps f' caps'
  simp only [Bool.and_eq_true, beq_iff_eq] at hm
  obtain ⟨⟨rfl, h1⟩, h2⟩ := hm
  obtain ⟨rfl, rfl⟩ := hs
  have hf : first = #[] := by simpa using h1
  subst hf
  obtain ⟨h3, h4⟩ := zfz henv h2
  refine zbr hp hU (x := .func (.func f) #[] (caps.map a.eval)) (zc8 (by simp [Instr.makeFunc])) (.fn _ _ _ (by simpa using h3) fun i hi => ?_)
  have := h4 i (by simpa using hi)
  simpa [Array.getD_eq_getD_getElem?, List.getD_eq_getElem?_getD] using this
 ·-- call
  rename_i f args argTypes f' args'
  simp only [Bool.and_eq_true, beq_iff_eq] at hm
  obtain ⟨rfl, h2⟩ := hm
  obtain ⟨h3, h4⟩ := zfz henv h2
  obtain ⟨hpure, hret, rfl⟩ := hs
  refine call_sound hp hU Mb henv.2 (f := f) (vals := args.map a.eval ++ #[]) (zga rfl rfl hret.1) hret (by simpa using h3) fun i hi => ?_
  have := pur_args (vs := args'.map S.ev) (xs := args.toList.map a.eval) (by simpa using h4) (by simpa using hpure) i (by simpa using hi)
  simpa [Array.getD_eq_getD_getElem?, List.getD_eq_getElem?_getD] using this
 ·-- call of a value
  rename_i n args argTypes x args'
  simp only [Bool.and_eq_true] at hm
  obtain ⟨h1, h2⟩ := hm
  simp only [step1] at hs
  split at hs
  ·rename_i f caps hx
   obtain ⟨hpure, hcaps, hret, rfl⟩ := hs
   obtain ⟨h3, h4⟩ := zfz henv h2
   have e := za4 henv h1; rw [hx] at e
   obtain ⟨arr, e1, e2, e3⟩ := e.fn_inv
   refine call_sound hp hU Mb henv.2 (f := f) (vals := args.map a.eval ++ arr) (zga rfl e1 hret.1) hret (by simp [e2]; simpa using h3) fun i hi => ?_
   have hargs := pur_args (vs := args'.map S.ev) (xs := args.toList.map a.eval) (by simpa using h4) (by simpa using hpure)
   have h3' : args.size = args'.length := by simpa using h3
   by_cases hlt : i < args'.length
   ·have := hargs i (by simpa using hlt)
    simpa [Array.getD_eq_getD_getElem?, List.getD_eq_getElem?_getD, List.getElem?_append_left, Array.getElem?_append_left, hlt, h3'] using this
   ·have hi' : i - args'.length < caps.length := by simp at hi; omega
    have := (e3 _ hi').toPur (hcaps _ (zce hi'))
    rw [show (List.map S.ev args' ++ caps).getD i V.junk = caps.getD (i - args'.length) .junk by
     simp only [List.getD_eq_getElem?_getD]; rw [List.getElem?_append_right (by simp; omega)]; simp]
    rw [show (Array.map a.eval args ++ arr).getD i Go.undef = arr.getD (i - args'.length) Go.undef by
     simp only [Array.getD_eq_getD_getElem?]; rw [Array.getElem?_append_right (by simp; omega)]; simp [h3']]
    exact this
  ·exact hs.elim
 ·exact hs.elim
 ·exact hs.elim
 ·-- alloc
  rename_i t size z
  simp only [Bool.and_eq_true] at hm
  obtain ⟨h1, h2⟩ := hm
  obtain ⟨hz, rfl, rfl⟩ := hs
  obtain ⟨z', hz1, hz2⟩ := zero_run h2
  have hzs := mV_pur (M := M) (w := w) hz1
  intro next Q hn
  unfold Oper.wp
  have hrun : (execOp a.eval ⟨dst, .alloc t, ty, pos, after, guard⟩).run P w = .ok (.value (.pointer (some ⟨w.heap.size, 0, none⟩))) (w.alloc (.cells z'.cells t)) := by
   simp only [execOp, Instr.alloc, Sem.run_bind, hz2, Result.andThen_ok, newVar, newRow, run_newObj, Sem.run_pure]
   rfl
  rw [hrun]
  have hzj : z ≠ .junk ∨ size = 1 := by
   by_cases hj : z = .junk
   ·subst hj; simp [V.cells] at hz; exact .inr hz.symm
   ·exact .inl hj
  have hzc : z'.cells.size = z.cells.length ∧ ∀ j, j < z.cells.length → Sim φ M w S.H U (z.cells.getD j .junk) (z'.cells.getD j Go.undef) := by
   refine (Sim.pur hzs).cell fun e => ?_
   subst e
   unfold mV at hz1
   split at hz1 <;> simp_all
  refine hn _ _ _ _ (Trans.alloc hp Mb hU hid hnew z'.cells t ⟨[z], size⟩ (fun i hi => ?_) (by simp [hzc.1, hz]) fun i j hi hj => ?_) (.ptr id 1 0 0 _ hid ⟨_, rfl⟩ fun blk hb _ => ?_)
  ·obtain rfl : i = 0 := by simpa using hi
   simpa using hz
  ·obtain rfl : i = 0 := by simpa using hi
   simpa using hzc.2 j (by rw [hz]; exact hj)
  ·exact ⟨w.heap.size, by simp, by simp⟩
 ·-- box
  rename_i t x x'
  obtain ⟨hnj, hpure, rfl, rfl⟩ := hs
  have e := (za4 henv hm).toPur hpure
  intro next Q hn
  unfold Oper.wp
  have hrun : (execOp a.eval ⟨dst, .box t x, ty, pos, after, guard⟩).run P w = .ok (.value (.pointer (some ⟨w.heap.size, 0, none⟩))) (w.alloc (.cells (a.eval x).cells t)) := by
   simp only [execOp, Instr.box, Sem.run_bind, Result.andThen_ok, newVar, newRow, run_newObj, Sem.run_pure]
   rfl
  rw [hrun]
  have hb : Below w.heap.size w (w.alloc (.cells (a.eval x).cells t)) := (Below.refl _ _).alloc (Nat.le_refl _) _
  refine hn _ _ _ _ (Trans.below hp hU hb) (.pur ?_)
  have hj : S.ev x' ≠ .junk := fun e => by rw [e] at hnj; cases hnj
  have hc := (Sim.pur (φ := φ) (H := S.H) (U := U) e).cell hj
  refine .pp _ ⟨w.heap.size, 0, none⟩ (a.eval x).cells t (0, 0) rfl ?_ (fun h => Nat.lt_irrefl _ (Mb _ h)) (by simp [hc.1]) fun j hj' => ?_
  ·show (w.heap.push _)[w.heap.size]? = _
   simp
  ·have h1 := ((hc.2 j hj').toPur (hpure.cells _ (zce hj'))).mono (Carry.below (φ := φ) (M := M) (H := S.H) (U := U) (U' := U) hb fun _ h => h).pur
   simpa using h1
 ·-- load
  rename_i t x size ag x'
  simp only [Bool.and_eq_true] at hm
  obtain ⟨⟨⟨h1, h2⟩, _⟩, h3⟩ := hm
  have e := za4 henv h3
  simp only [step1] at hs
  split at hs
  ·rename_i u hx
   obtain ⟨h, rfl⟩ := hs
   rw [hx] at e
   obtain ⟨ad, arr, ty', fr, hxe, g1, g2, g3, g4, g5⟩ : ∃ ad arr ty' fr, a.eval x = .pointer (some ad) ∧ ad.spot = none ∧ w.heap[ad.block]? = some (.cells arr ty' fr) ∧ ¬ M ad.block ∧ ad.off + u.cells.length ≤ arr.size ∧
     ∀ j, j < u.cells.length → Pur M w (u.cells.getD j .junk) (arr.getD (ad.off + j) Go.undef) := by
    generalize a.eval x = y at e
    cases e with
    | pur h => cases h with | pp v ad arr ty' fr hs hb hm hin hc => exact ⟨ad, arr, ty', fr, rfl, hs, hb, hm, hin, hc⟩
   obtain ⟨q1, q2, q3⟩ := zhd (φ := φ) (M := M) (U := U) (w := w) (H := S.H) h h1 h2 (arr := arr) (k := ad.off) g4 (fun j hj => .pur (g5 j hj))
   refine zbr hp hU (zc8 ?_) q1
   simp only [Instr.loadAt, hxe, Instr.sureAddr, Sem.run_bind, Sem.run_pure, Result.andThen_ok]
   rw [zfr h1 h2 (c := fun j => arr.getD (ad.off + j) Go.undef) (fun j hj => by rw [zhr g1 g2]; exact zdu (by omega)) q3]
   rfl
  ·rename_i b n i off hx
   obtain ⟨_, ⟨blk, el, k1, k2, k3, h⟩, rfl⟩ := hs
   rw [hx] at e
   obtain ⟨g, arr, ty', p1, p2, p3, p4, p5, p6, p7, p8⟩ := zib hp e k1 k2 k3
   have hrow : i * blk.size + el.cells.length ≤ arr.size := by
    rw [p4]
    have : (i + 1) * blk.size ≤ blk.elems.length * blk.size := Nat.mul_le_mul_right _ (by omega)
    rw [Nat.add_mul, Nat.one_mul] at this; omega
   obtain ⟨q1, q2, q3⟩ := zhd h h1 h2 (arr := arr) (k := i * blk.size) hrow (fun j hj => p7 j (by omega))
   refine zbr hp hU (zc8 ?_) q1
   simp only [Instr.loadAt, p2, Instr.sureAddr, Sem.run_bind, Sem.run_pure, Result.andThen_ok]
   rw [zfr h1 h2 (c := fun j => arr.getD (i * blk.size + off + j) Go.undef) (fun j hj => by rw [zhr (ad := ⟨g, i * blk.size + off, none⟩) rfl p3]; exact zdu (by show i * blk.size + off + j < _; omega)) q3]
  ·exact hs.elim
 ·-- store
  rename_i t p x size p' x'
  simp only [Bool.and_eq_true] at hm
  obtain ⟨⟨h1, h2⟩, h3⟩ := hm
  have ep := za4 henv h2
  have ex := za4 henv h3
  simp only [step1] at hs
  split at hs
  ·rename_i b n i off hx
   obtain ⟨hsz, rfl, blk, el, el', k1, k3, k4, k5, k6, rfl⟩ := hs
   rw [hx] at ep
   obtain ⟨g, arr, ty', p1, p2, p3, p4, p5, p6, p7, p8⟩ := zib hp ep k1 k3 k4
   obtain ⟨s1, s2, s3⟩ := setPart_cells k5
   have hrow : i * blk.size + el.cells.length ≤ arr.size := by
    rw [p4]
    have : (i + 1) * blk.size ≤ blk.elems.length * blk.size := Nat.mul_le_mul_right _ (by omega)
    rw [Nat.add_mul, Nat.one_mul] at this; omega
   have hxj : S.ev x' ≠ .junk := fun e => by
    rw [e] at k6; simp [V.cells, V.cellOk] at k6
   obtain ⟨c1, c2⟩ := ex.cell hxj
   obtain ⟨w', arr', r1, r2, r3, r4, r5, r6, r7, r8, r9⟩ := ze3 (P := P) (g := g) (k := i * blk.size + off) (a.eval x).cells.toList 0 arr w p3 (by simp [c1]; omega) (fun v hv => by
    obtain ⟨j, hj, rfl⟩ := List.mem_iff_getElem.1 hv
    have hj' : j < (S.ev x').cells.length := by simp at hj; omega
    have := oneCell_of (c2 j hj') (k6 _ (zce hj'))
    simpa [Array.getD, show j < (a.eval x).cells.size by omega] using this)
   intro next Q hn
   unfold Oper.wp
   have hrun : (execOp a.eval ⟨dst, .store t p x, ty, pos, after, guard⟩).run P w = .ok .skip w' := by
    simp only [execOp, Instr.storeAt, p2, Instr.sureAddr, Sem.run_bind, Sem.run_pure, Result.andThen_ok, storeVar, zbu h1]
    rw [if_neg (by rw [c1, hsz]; simp)]
    simp only [r1, Result.andThen_ok]
   rw [hrun]
   have hx' : (a.eval x).cells.toList.length = (S.ev x').cells.length := by simpa using c1
   refine hn Go.undef w' φ M (Trans.store hp hU k1 p1 p3 r2 r3 r5 r6 r7 r8 r9 (blk.elems.set i el') (by simp) (fun j hj => ?_) fun j m hj hm' => ?_) (.pur .undef)
   ·simp only [List.length_set] at hj
    by_cases hji : j = i
    ·subst hji
     rw [show (blk.elems.set j el').getD j .junk = el' by simp [List.getD_eq_getElem?_getD, hj]]
     rw [s1, p4]
    ·rw [show (blk.elems.set i el').getD j .junk = blk.elems.getD j .junk by simp only [List.getD_eq_getElem?_getD]; rw [List.getElem?_set_ne (by omega)]]
     exact (hp.blk b blk k1).2.1 j hj
   ·simp only [List.length_set] at hj
    rw [r4, hx']
    simp only [Nat.add_zero]
    by_cases hji : j = i
    ·subst hji
     rw [show (blk.elems.set j el').getD j .junk = el' by simp [List.getD_eq_getElem?_getD, hj]]
     rw [s3 m (by omega)]
     by_cases hin : off ≤ m ∧ m < off + (S.ev x').cells.length
     ·rw [if_pos hin, if_pos (by omega)]
      have := c2 (m - off) (by omega)
      rw [show j * blk.size + m - (j * blk.size + off) = m - off by omega]
      simpa [Array.getD_eq_getD_getElem?, List.getD_eq_getElem?_getD] using this
     ·rw [if_neg hin, if_neg (by omega)]
      exact p7 m hm'
    ·rw [show (blk.elems.set i el').getD j .junk = blk.elems.getD j .junk by simp only [List.getD_eq_getElem?_getD]; rw [List.getElem?_set_ne (by omega)]]
     have hout : ¬ (i * blk.size + off ≤ j * blk.size + m ∧ j * blk.size + m < i * blk.size + off + (S.ev x').cells.length) := by
      intro ⟨l1, l2⟩
      rcases Nat.lt_or_ge j i with hlt | hge
      ·have : (j + 1) * blk.size ≤ i * blk.size := Nat.mul_le_mul_right _ hlt
       rw [Nat.add_mul, Nat.one_mul] at this; omega
      ·have : (i + 1) * blk.size ≤ j * blk.size := Nat.mul_le_mul_right _ (by omega)
       rw [Nat.add_mul, Nat.one_mul] at this; omega
     rw [if_neg hout]
     obtain ⟨_, _, hbk⟩ := hp.blk b blk k1
     rcases hbk with ⟨hbk, _⟩ | ⟨g', a', t', e1, e2, e3, e4, _⟩
     ·rw [hbk] at p1; cases p1
     ·rw [p1] at e1; cases e1
      rw [p3] at e2; cases e2
      exact e4 j m hj hm'
  ·exact hs.elim
 ·-- fieldAddr
  rename_i t x i off size ag x'
  simp only [Bool.and_eq_true] at hm
  obtain ⟨h1, h2⟩ := hm
  have e := za4 henv h2
  cases hf : tyField P t i with
  | none => simp [hf] at h1
  | some q =>
   obtain ⟨o', ft⟩ := q
   simp [hf] at h1
   obtain ⟨⟨⟨rfl, hsz⟩, hpos⟩, hag⟩ := h1
   have hrun : ∀ ad : Addr, a.eval x = .pointer (some ad) → (Instr.fieldAt t (a.eval x) i).run P w = .ok (.pointer (some (ad.add o'))) w := by
    intro ad had
    unfold tyField at hf
    split at hf
    ·rename_i fs hfs
     simp only [Option.map_eq_some_iff] at hf
     obtain ⟨f, hf1, hf2⟩ := hf
     cases hf2
     simp only [Instr.fieldAt, Sem.run_bind, run_underlying hfs, Result.andThen_ok, hf1, had, Instr.sureAddr, Sem.run_pure, fieldPlace, zbu hsz, Sem.run_ite]
     rw [if_neg (by omega)]
     rfl
    ·cases hf
   simp only [step1] at hs
   split at hs
   ·rename_i u hx
    obtain ⟨⟨u', h, rfl⟩, rfl⟩ := hs
    rw [hx] at e
    generalize hy : a.eval x = y at e
    cases e with
    | pur h' =>
     cases h' with
     | pp v ad arr ty' fr hs hb hm hin hc =>
      obtain ⟨q1, q2, q3, q4⟩ := part_cells h
      refine zbr hp hU (zc8 (hrun ad hy)) (.pur (.pp _ (ad.add o') arr ty' fr ?_ ?_ ?_ ?_ ?_))
      ·rw [zb1 hs]
      ·rw [zb1 hs]; exact hb
      ·rw [zb1 hs]; exact hm
      ·rw [zb1 hs]; show ad.off + o' + _ ≤ _; omega
      ·intro j hj
       rw [zb1 hs, q4 j (by omega)]
       show Pur M w _ (arr.getD (ad.off + o' + j) Go.undef)
       rw [show ad.off + o' + j = ad.off + (o' + j) by omega]
       exact hc _ (by omega)
   ·rename_i b n j o hx
    obtain ⟨_, rfl, ⟨blk, k1, k2⟩, rfl⟩ := hs
    rw [hx] at e
    generalize hy : a.eval x = y at e
    cases e with
    | pur h' => cases h'
    | ptr b n i off x hb hx' h' =>
     obtain ⟨g, hg, rfl⟩ := h' blk k1 k2
     refine zbr hp hU (zc8 (hrun _ hy)) (.ptr b n j (o + o') _ hb ⟨_, rfl⟩ fun blk' e1 e2 => ?_)
     rw [k1] at e1; cases e1
     exact ⟨g, hg, by rw [zb1 rfl, Nat.add_assoc]⟩
   ·exact hs.elim
 ·-- an element of an array in a row of one's own
  rename_i t x i n size ag x' i'
  simp only [Bool.and_eq_true] at hm
  obtain ⟨⟨h1, h2⟩, h3⟩ := hm
  have ex := za4 henv h2
  have ei := za4 henv h3
  obtain ⟨e, he, hsz, hag, hpos⟩ := arr_of h1
  simp only [step1] at hs
  split at hs
  ·rename_i b m k o kk j hx hj
   obtain ⟨h0, rfl, ⟨blk, k1, k2⟩, _, rfl⟩ := hs
   rw [hx] at ex; rw [hj] at ei
   have ei := ei.int_inv
   generalize hy : a.eval x = y at ex
   cases ex with
   | pur h' => cases h'
   | ptr b m k o x hb hx' h' =>
    obtain ⟨g, hg, rfl⟩ := h' blk k1 k2
    have hrun : (Instr.indexAt t (a.eval x) (a.eval i)).run P w = .ok (.pointer (some ((⟨g, k * blk.size + o, none⟩ : Addr).add (j.toNat * size)))) w := by
     rw [hy, ei]
     simp only [Instr.indexAt, Instr.sureAddr, asIntOf, Sem.run_bind, Sem.run_pure, Result.andThen_ok, run_underlying he]
     rw [if_pos h0]
     simp only [Sem.run_bind, zbu hsz, Result.andThen_ok, Sem.run_pure]
    refine zbr hp hU (zc8 hrun) (.ptr b m k (o + j.toNat * size) _ hb ⟨_, rfl⟩ fun blk' e1 e2 => ?_)
    rw [k1] at e1; cases e1
    exact ⟨g, hg, by rw [zb1 rfl, Nat.add_assoc]⟩
  ·exact hs.elim
 ·-- indexAddr
  rename_i t x i es x' i'
  simp only [Bool.and_eq_true] at hm
  obtain ⟨⟨h1, h2⟩, h3⟩ := hm
  have ex := za4 henv h2
  have ei := za4 henv h3
  split at h1
  ·rename_i el hel
   have hu : P.underlying t = some (.slice el) := by
    unfold zea at hel; split at hel <;> simp_all
   have hrun : ∀ (ad : Addr) (k : IntKind) (j : Int) (n c : Nat), a.eval x = .slice (some ad) n c → a.eval i = .int k j → 0 ≤ j → j < n → (Instr.indexAt t (a.eval x) (a.eval i)).run P w = .ok (.pointer (some (ad.add (j.toNat * es)))) w := by
    intro ad k j n c hx hi h0 hn
    simp only [Instr.indexAt, hx, hi, asIntOf, Sem.run_bind, Sem.run_pure, Result.andThen_ok, run_underlying hu]
    rw [if_pos ⟨h0, hn⟩]
    simp only [Sem.run_bind, zbu h1, Result.andThen_ok, Sem.run_pure]
   simp only [step1] at hs
   split at hs
   ·rename_i xs k j hx hj
    obtain ⟨h0, ⟨e, he, hes, rfl⟩, rfl⟩ := hs
    rw [hx] at ex; rw [hj] at ei
    have ei := ei.int_inv
    have hjl : j.toNat < xs.length := (List.getElem?_eq_some_iff.1 he).1
    have hed : xs.getD j.toNat .junk = e := by simp [List.getD_eq_getElem?_getD, he]
    generalize hy : a.eval x = y at ex
    cases ex with
    | pur h' =>
     cases h' with
     | sl0 ad cap => simp at hjl
     | sl xs ad cap size arr ty' fr hs hb hm hsz hin hcap hc =>
      have hse : size = es := by have := hsz _ hjl; rw [hed] at this; omega
      subst hse
      refine zbr hp hU (zc8 (hrun ad k j _ cap hy ei h0 (by omega))) (.pur (.pp _ (ad.add (j.toNat * size)) arr ty' fr ?_ ?_ ?_ ?_ ?_))
      ·rw [zb1 hs]
      ·rw [zb1 hs]; exact hb
      ·rw [zb1 hs]; exact hm
      ·rw [zb1 hs]
       show ad.off + j.toNat * size + _ ≤ _
       have : (j.toNat + 1) * size ≤ xs.length * size := Nat.mul_le_mul_right _ hjl
       rw [Nat.add_mul, Nat.one_mul] at this; omega
      ·intro m hm'
       rw [zb1 hs]
       have := hc j.toNat m hjl (by omega)
       rw [hed] at this
       exact this
   ·rename_i b n k j hx hj
    obtain ⟨h0, hn, rfl, ⟨blk, k1, k2, k3⟩, _, rfl⟩ := hs
    rw [hx] at ex; rw [hj] at ei
    have ei := ei.int_inv
    generalize hy : a.eval x = y at ex
    cases ex with
    | pur h' => cases h'
    | own b n x hb hx' h' =>
     rcases h' blk k1 k2 with ⟨_, hn0, _⟩ | ⟨g, cap, arr, ty', hg, rfl, _⟩
     ·omega
     ·refine zbr hp hU (zc8 (hrun ⟨g, 0, none⟩ k j n cap hy ei h0 hn)) (.ptr b n j.toNat 0 _ hb ⟨_, rfl⟩ fun blk' e1 e2 => ?_)
      rw [k1] at e1; cases e1
      exact ⟨g, hg, by rw [zb1 rfl, k3]; simp⟩
   ·rename_i b n off len k j hx hj
    obtain ⟨h0, hn, hol, rfl, ⟨blk, k1, k2, k3⟩, _, rfl⟩ := hs
    rw [hx] at ex; rw [hj] at ei
    have ei := ei.int_inv
    generalize hy : a.eval x = y at ex
    cases ex with
    | pur h' => cases h'
    | win b n off len x hb hx' h' =>
     obtain ⟨g, hg, _, c, hc, rfl⟩ := h' blk k1 k2
     refine zbr hp hU (zc8 (hrun ⟨g, off * blk.size, none⟩ k j len c hy ei h0 hn)) (.ptr b n (off + j.toNat) 0 _ hb ⟨_, rfl⟩ fun blk' e1 e2 => ?_)
     rw [k1] at e1; cases e1
     exact ⟨g, hg, by rw [zb1 rfl, ← k3, Nat.add_mul]; simp⟩
   ·exact hs.elim
  ·cases h1
 ·-- index of a string
  rename_i t x i x' i'
  simp only [Bool.and_eq_true] at hm
  obtain ⟨⟨h1, h2⟩, h3⟩ := hm
  obtain ⟨h, rfl⟩ := hs
  have ex := za4 henv h2
  have ei := za4 henv h3
  simp only [List.map_cons, List.map_nil] at h
  unfold redV at h
  split at h
  all_goals first | (cases h; done) | skip
  all_goals rename_i heq heq2
  all_goals first | (cases heq; done) | (cases heq2; done) | skip
  rename_i s' k j
  simp only [List.cons.injEq, and_true] at heq2
  obtain ⟨q1, q2⟩ := heq2
  rw [q1] at ex; rw [q2] at ei
  split at h
  ·rename_i h0
   simp only [Option.map_eq_some_iff] at h
   obtain ⟨c, hc, rfl⟩ := h
   exact zbr hp hU (zc8 (by rw [ex.str_inv, ei.int_inv]; exact idxS_run (str_of h1) h0 hc w)) (.pur (.int _ _))
  ·cases h
 ·-- index of an array
  rename_i t x i n size ag x' i'
  simp only [Bool.and_eq_true] at hm
  obtain ⟨⟨h1, h2⟩, h3⟩ := hm
  obtain ⟨h, rfl⟩ := hs
  have ex := za4 henv h2
  have ei := za4 henv h3
  obtain ⟨e, he, hsz, hag, hpos⟩ := arr_of h1
  simp only [List.map_cons, List.map_nil] at h
  unfold redV at h
  split at h
  all_goals first | (cases h; done) | skip
  all_goals rename_i heq heq2
  all_goals first | (cases heq; done) | (cases heq2; done) | skip
  cases heq
  rename_i cs k j
  simp only [List.cons.injEq, and_true] at heq2
  obtain ⟨q1, q2⟩ := heq2
  rw [q1] at ex; rw [q2] at ei
  split at h
  ·rename_i h0
   obtain ⟨arr, e1, e2, e3⟩ := ex.agg_inv
   obtain ⟨r, hr, hrs⟩ := part_run (P := P) h hsz hag e2 e3
   exact zbr hp hU (zc8 (by
    rw [e1, ei.int_inv]
    simp only [Instr.index, asIntOf, Sem.run_bind, Sem.run_pure, Result.andThen_ok, run_underlying he]
    rw [if_pos h0]
    simp only [Sem.run_bind, zbu hsz, Result.andThen_ok, hr])) hrs
  ·cases h
 ·-- an element of an array that a pointer leads to
  rename_i t x i n size ag x' i'
  simp only [Bool.and_eq_true] at hm
  obtain ⟨⟨h1, h2⟩, h3⟩ := hm
  obtain ⟨h, rfl⟩ := hs
  have ex := za4 henv h2
  have ei := za4 henv h3
  obtain ⟨e, he, hsz, hag, hpos⟩ := arr_of h1
  simp only [List.map_cons, List.map_nil] at h
  unfold redV at h
  split at h
  all_goals first | (cases h; done) | skip
  all_goals rename_i heq heq2
  all_goals first | (cases heq; done) | (cases heq2; done) | skip
  cases heq
  rename_i u k j
  simp only [List.cons.injEq, and_true] at heq2
  obtain ⟨q1, q2⟩ := heq2
  rw [q1] at ex; rw [q2] at ei
  split at h
  ·rename_i h0
   simp only [Option.map_eq_some_iff] at h
   obtain ⟨u', h, rfl⟩ := h
   generalize hy : a.eval x = y at ex
   cases ex with
   | pur h' =>
    cases h' with
    | pp v ad arr ty' fr hs hb hm hin hc =>
     obtain ⟨p1, p2, p3, p4⟩ := part_cells h
     have hrun : (Instr.indexAt t (a.eval x) (a.eval i)).run P w = .ok (.pointer (some (ad.add (j.toNat * size)))) w := by
      rw [hy, ei.int_inv]
      simp only [Instr.indexAt, Instr.sureAddr, asIntOf, Sem.run_bind, Sem.run_pure, Result.andThen_ok, run_underlying he]
      rw [if_pos h0]
      simp only [Sem.run_bind, zbu hsz, Result.andThen_ok, Sem.run_pure]
     refine zbr hp hU (zc8 hrun) (.pur (.pp _ (ad.add (j.toNat * size)) arr ty' fr ?_ ?_ ?_ ?_ ?_))
     ·rw [zb1 hs]
     ·rw [zb1 hs]; exact hb
     ·rw [zb1 hs]; exact hm
     ·rw [zb1 hs]; show ad.off + j.toNat * size + _ ≤ _; omega
     ·intro m hm'
      rw [zb1 hs, p4 m (by omega)]
      show Pur M w _ (arr.getD (ad.off + j.toNat * size + m) Go.undef)
      rw [show ad.off + j.toNat * size + m = ad.off + (j.toNat * size + m) by omega]
      exact hc _ (by omega)
  ·cases h
 ·-- slice
  rename_i t x lo hi mx es b1 b2 b3 xs
  simp only [Bool.and_eq_true, beq_iff_eq] at hm
  obtain ⟨⟨⟨⟨h1, h2⟩, h3⟩, h4⟩, h5⟩ := hm
  obtain ⟨h, rfl⟩ := hs
  obtain ⟨h6, h7⟩ := zfz henv h5
  cases xs with
  | nil => simp at h6
  | cons x' rest =>
   simp only [List.map_cons, redV, Option.bind_eq_some_iff] at h
   obtain ⟨q, hq, h⟩ := h
   have ex := h7 0 (by simp)
   simp only [List.map_cons, List.getD_cons_zero] at ex
   have hlen : ((lo.map a.eval).toList ++ (hi.map a.eval).toList ++ (mx.map a.eval).toList).length = (rest.map S.ev).length := by
    simp only [List.length_cons, Nat.add_right_cancel_iff] at h6
    rw [List.length_map, ← h6]
    cases lo <;> cases hi <;> cases mx <;> rfl
   obtain ⟨⟨kl, kh, km, e1, e2, e3⟩, hm3⟩ := slc_args (φ := φ) (M := M) (w := w) (H := S.H) (U := U) hq (lo := lo.map a.eval) (hi := hi.map a.eval) (mx := mx.map a.eval) (by simp [h2]) (by simp [h3]) (by simp [h4]) hlen (fun i hi' => by
    have := h7 (i + 1) (by simp at hi' ⊢; omega)
    simp only [List.map_cons, List.getD_cons_succ] at this
    have he : (lo.toList ++ hi.toList ++ mx.toList).map a.eval = (lo.map a.eval).toList ++ (hi.map a.eval).toList ++ (mx.map a.eval).toList := by
     cases lo <;> cases hi <;> cases mx <;> rfl
    rwa [he] at this)
   obtain ⟨r, hr, hrs⟩ := slc_run (P := P) (t := t) (q := q) (kl := kl) (kh := kh) (km := km) h1 h hm3 ex
   exact zbr hp hU (zc8 (by rw [e1, e2, e3]; exact hr)) hrs
 ·-- bytes of a string
  rename_i s d x x'
  simp only [Bool.and_eq_true] at hm
  obtain ⟨⟨h1, h2⟩, h3⟩ := hm
  obtain ⟨h, rfl⟩ := hs
  have ex := za4 henv h3
  simp only [List.map_cons, List.map_nil] at h
  unfold redV at h
  split at h
  all_goals first | (cases h; done) | skip
  all_goals rename_i heq heq2
  all_goals first | (cases heq; done) | (cases heq2; done) | skip
  rename_i b
  simp only [List.cons.injEq, and_true] at heq2
  rw [heq2] at ex
  cases h
  obtain ⟨ds, hds⟩ : ∃ ds, P.underlying s = some ds := by
   unfold tyHas at h1; exact Option.isSome_iff_exists.1 h1
  split at h2
  ·rename_i e he
   obtain ⟨r, w', hr, ht, hrs⟩ := s2b_sound (P := P) hds (zgk he) (kind_of h2) hp Mb hU (b := b)
   intro next Q hnext
   unfold Oper.wp
   have hr' : (execOp a.eval ⟨dst, .convert s d x, ty, pos, after, guard⟩).run P w = .ok (.value r) w' := by
    simp only [execOp, ex.str_inv, Sem.run_bind, hr, Result.andThen_ok, Sem.run_pure]
   rw [hr']
   exact hnext r w' φ M ht hrs
  ·cases h2
 ·-- a string of bytes
  rename_i s d x x'
  simp only [Bool.and_eq_true] at hm
  obtain ⟨⟨h1, h2⟩, h3⟩ := hm
  obtain ⟨h, rfl⟩ := hs
  have ex := za4 henv h3
  split at h1
  ·rename_i e he
   obtain ⟨r, hr, hrs⟩ := b2s_run (P := P) (zgk he) (kind_of h1) (str_of h2) h ex
   exact zbr hp hU (zc8 hr) hrs
  ·cases h1
 ·-- a slice's literal
  rename_i t len parts es xs
  simp only [Bool.and_eq_true, beq_iff_eq] at hm
  obtain ⟨⟨⟨h1, h2⟩, h3⟩, h4⟩ := hm
  obtain ⟨n, blk, h, rfl, rfl⟩ := hs
  obtain ⟨h5, h6⟩ := zfz henv h4
  split at h1
  ·rename_i e he
   have hl : ((parts.toList.map (·.2)).map a.eval).length = (xs.map S.ev).length := by simpa using h5
   obtain ⟨r, w', φ', M', hr, ht, hrs⟩ := bsl_sound (P := P) (zgk he) h1 hp Mb hU hid hnew h hl (fun i hi => h6 i (by simpa using hi))
   intro next Q hnext
   unfold Oper.wp
   have hparts : (parts.map fun (p : Nat × Operand) => (p.1, a.eval p.2)) = ((List.range ((parts.toList.map (·.2)).map a.eval).length).zip ((parts.toList.map (·.2)).map a.eval)).toArray := by
    have h7 : len = parts.toList.length := by
     have := congrArg List.length h3
     simpa using this.symm
    have h8 : ((parts.toList.map (·.2)).map a.eval).length = len := by rw [h7]; simp
    rw [h8, ← h3]
    obtain ⟨l⟩ := parts
    simp [List.zip_map']
   have hlen : len = ((parts.toList.map (·.2)).map a.eval).length := by rw [hl, h2]; simp
   have hr' : (execOp a.eval ⟨dst, .buildSlice t len parts, ty, pos, after, guard⟩).run P w = .ok (.value r) w' := by
    simp only [execOp]
    rw [hparts, hlen]
    simp only [Sem.run_bind, hr, Result.andThen_ok, Sem.run_pure]
   rw [hr']
   exact hnext r w' φ' M' ht hrs
  ·cases h1
 ·-- a slice's literal, told at once
  rename_i t len parts xs
  simp only [Bool.and_eq_true, beq_iff_eq] at hm
  obtain ⟨⟨⟨h1, h2⟩, h3⟩, h4⟩ := hm
  obtain ⟨h, hHH⟩ := hs
  subst hHH
  obtain ⟨h5, h6⟩ := zfz henv h4
  split at h1
  ·rename_i e he
   have hl : ((parts.toList.map (·.2)).map a.eval).length = (xs.map S.ev).length := by simpa using h5
   obtain ⟨r, w', φ', M', hr, ht, hrs⟩ := bsz_sound (P := P) (zgk he) h1 hp Mb hU hid hnew h hl (fun i hi => h6 i (by simpa using hi))
   intro next Q hnext
   unfold Oper.wp
   have hparts : (parts.map fun (p : Nat × Operand) => (p.1, a.eval p.2)) = ((List.range ((parts.toList.map (·.2)).map a.eval).length).zip ((parts.toList.map (·.2)).map a.eval)).toArray := by
    have h7 : len = parts.toList.length := by
     have := congrArg List.length h3
     simpa using this.symm
    have h8 : ((parts.toList.map (·.2)).map a.eval).length = len := by rw [h7]; simp
    rw [h8, ← h3]
    obtain ⟨l⟩ := parts
    simp [List.zip_map']
   have hlen : len = ((parts.toList.map (·.2)).map a.eval).length := by rw [hl, h2]; simp
   have hr' : (execOp a.eval ⟨dst, .buildSlice t len parts, ty, pos, after, guard⟩).run P w = .ok (.value r) w' := by
    simp only [execOp]
    rw [hparts, hlen]
    simp only [Sem.run_bind, hr, Result.andThen_ok, Sem.run_pure]
   rw [hr']
   exact hnext r w' φ' M' ht hrs
  ·cases h1
 ·-- make
  rename_i t l c es bytes z l' c'
  simp only [Bool.and_eq_true] at hm
  obtain ⟨⟨h1, h2⟩, h3⟩ := hm
  obtain ⟨n, blk, h, rfl, rfl⟩ := hs
  split at h1
  ·rename_i e he
   obtain ⟨r, w', φ', M', hr, ht, hrs⟩ := mks_sound (P := P) (zgk he) h1 hp Mb hU hid hnew h (za4 henv h2) (za4 henv h3)
   intro next Q hnext
   unfold Oper.wp
   have hr' : (execOp a.eval ⟨dst, .makeSlice t l c, ty, pos, after, guard⟩).run P w = .ok (.value r) w' := by
    simp only [execOp, Sem.run_bind, hr, Result.andThen_ok, Sem.run_pure]
   rw [hr']
   exact hnext r w' φ' M' ht hrs
  ·cases h1
 ·-- make, told at once
  rename_i t l c bytes k l' c'
  simp only [Bool.and_eq_true] at hm
  obtain ⟨⟨h1, h2⟩, h3⟩ := hm
  obtain ⟨h, hHH⟩ := hs
  subst hHH
  split at h1
  ·rename_i e he
   obtain ⟨r, w', φ', M', hr, ht, hrs⟩ := mkz_sound (P := P) (zgk he) h1 hp Mb hU hid hnew h (za4 henv h2) (za4 henv h3)
   intro next Q hnext
   unfold Oper.wp
   have hr' : (execOp a.eval ⟨dst, .makeSlice t l c, ty, pos, after, guard⟩).run P w = .ok (.value r) w' := by
    simp only [execOp, Sem.run_bind, hr, Result.andThen_ok, Sem.run_pure]
   rw [hr']
   exact hnext r w' φ' M' ht hrs
  ·cases h1
 ·-- append
  rename_i args argTypes es bytes xs
  simp only [Bool.and_eq_true] at hm
  obtain ⟨h1, h2⟩ := hm
  obtain ⟨h3, h4⟩ := zfz henv h1
  split at h2
  ·rename_i t t' hts
   simp only [Bool.and_eq_true, beq_iff_eq] at h2
   obtain ⟨rfl, h2⟩ := h2
   split at h2
   ·rename_i e he
    obtain ⟨i, zv, hi, his, hz, hzs, hby, _⟩ := row_info h2
    have hby := hby _ rfl
    subst his; subst hby
    obtain ⟨x, y, rfl⟩ : ∃ x y, xs = [x, y] := by
     simp only [step1] at hs
     unfold effV at hs
     split at hs
     ·rename_i heq
      match xs, heq with
      | [x, y], _ => exact ⟨x, y, rfl⟩
     ·rename_i heq
      match xs, heq with
      | [x, y], _ => exact ⟨x, y, rfl⟩
     ·rename_i g1 g2
      cases g1
     ·rename_i g1 g2
      cases g1
     ·cases hs
    obtain ⟨lx⟩ := args
    obtain ⟨ox, oy, rfl⟩ : ∃ ox oy, lx = [ox, oy] := by
     match lx, h3 with
     | [ox, oy], _ => exact ⟨ox, oy, rfl⟩
    have hat : argTypes = #[t, t] := by cases argTypes; simp_all
    subst hat
    have ex := h4 0 (by simp)
    have ey := h4 1 (by simp)
    simp only [List.map_cons, List.map_nil, List.getD_cons_zero, List.getD_cons_succ] at ex ey
    have h0 : 0 < i.size := by
     have hs' := hs
     simp only [step1, List.map_cons, List.map_nil, effV] at hs'
     split at hs'
     ·cases hs'
     ·split at hs'
      ·rename_i hc; exact hc.2
      ·cases hs'
    obtain ⟨r, w', φ', M', hr, ht, hrs⟩ := app_sound (P := P) (ty := ty) (zgk he) hi hz hzs h0 hp Mb hU hid hnew hs ex ey
    intro next Q hnext
    unfold Oper.wp
    have hr' : (execOp a.eval ⟨dst, .call { callee := .builtin .append, args := #[ox, oy], argTypes := #[t, t] }, ty, pos, after, guard⟩).run P w = .ok (.value r) w' := by
     simp only [execOp, resolve, invoke, Go.builtin, Sem.run_bind, Sem.run_pure, Result.andThen_ok, List.map_toArray, List.map_cons, List.map_nil, hr]
    rw [hr']
    exact hnext r w' φ' M' ht hrs
   ·cases h2
  ·cases h2
 ·-- copy
  rename_i args argTypes es xs
  simp only [Bool.and_eq_true] at hm
  obtain ⟨h1, h2⟩ := hm
  obtain ⟨h3, h4⟩ := zfz henv h1
  split at h2
  ·rename_i t t' hts
   split at h2
   ·rename_i e he
    obtain ⟨x, y, rfl⟩ : ∃ x y, xs = [x, y] := by
     simp only [step1] at hs
     unfold effV at hs
     split at hs
     ·rename_i heq
      match xs, heq with
      | [x, y], _ => exact ⟨x, y, rfl⟩
     ·rename_i heq
      match xs, heq with
      | [x, y], _ => exact ⟨x, y, rfl⟩
     ·rename_i g1 g2
      cases g1
     ·rename_i g1 g2
      cases g1
     ·cases hs
    obtain ⟨lx⟩ := args
    obtain ⟨ox, oy, rfl⟩ : ∃ ox oy, lx = [ox, oy] := by
     match lx, h3 with
     | [ox, oy], _ => exact ⟨ox, oy, rfl⟩
    have hat : argTypes = #[t, t'] := by cases argTypes; simp_all
    subst hat
    have ex := h4 0 (by simp)
    have ey := h4 1 (by simp)
    simp only [List.map_cons, List.map_nil, List.getD_cons_zero, List.getD_cons_succ] at ex ey
    obtain ⟨r, w', hr, ht, hrs⟩ := cpy_sound (P := P) (t' := t') (ty := ty) (zgk he) h2 hp hU hs ex ey
    intro next Q hnext
    unfold Oper.wp
    have hr' : (execOp a.eval ⟨dst, .call { callee := .builtin .copy, args := #[ox, oy], argTypes := #[t, t'] }, ty, pos, after, guard⟩).run P w = .ok (.value r) w' := by
     simp only [execOp, resolve, invoke, Go.builtin, Sem.run_bind, Sem.run_pure, Result.andThen_ok, List.map_toArray, List.map_cons, List.map_nil, hr]
    rw [hr']
    exact hnext r w' φ M ht hrs
   ·cases h2
  ·cases h2
 ·-- a box of the call's own
  rename_i t x size x'
  simp only [Bool.and_eq_true] at hm
  obtain ⟨h1, h2⟩ := hm
  have ex := za4 henv h2
  have hs' := hs
  simp only [step1, List.map_cons, List.map_nil, effV] at hs'
  split at hs'
  rotate_left
  ·cases hs'
  rename_i hcond
  obtain ⟨hsz, hnj, h0, hco⟩ := hcond
  simp only [Option.some.injEq, Prod.mk.injEq] at hs'
  obtain ⟨rfl, rfl⟩ := hs'
  intro next Q hn
  unfold Oper.wp
  have hrun : (execOp a.eval ⟨dst, .box t x, ty, pos, after, guard⟩).run P w = .ok (.value (.pointer (some ⟨w.heap.size, 0, none⟩))) (w.alloc (.cells (a.eval x).cells t)) := by
   simp only [execOp, Instr.box, Sem.run_bind, Result.andThen_ok, newVar, newRow, run_newObj, Sem.run_pure]
   rfl
  rw [hrun]
  have hj : S.ev x' ≠ .junk := fun e => by rw [e] at hnj; cases hnj
  have hc := ex.cell hj
  refine hn _ _ _ _ (Trans.alloc hp Mb hU hid hnew (a.eval x).cells t ⟨[S.ev x'], size⟩ (fun i hi => ?_) (by simp [hc.1, hsz]) fun i j hi hj => ?_) (.ptr id 1 0 0 _ hid ⟨_, rfl⟩ fun blk hb _ => ?_)
  ·obtain rfl : i = 0 := by simpa using hi
   simpa using hsz
  ·obtain rfl : i = 0 := by simpa using hi
   have hj' : j < size := hj
   simpa using hc.2 j (by rw [hsz]; exact hj')
  ·exact ⟨w.heap.size, by simp, by simp⟩
 ·-- a window
  rename_i t x lo hi es x' lo' hi'
  simp only [Bool.and_eq_true] at hm
  obtain ⟨⟨h1, h2⟩, h3⟩ := hm
  have ex := za4 henv h2
  split at h3
  rotate_left
  ·cases h3
  rename_i l h
  simp only [Bool.and_eq_true] at h3
  have el := za4 henv h3.1
  have eh := za4 henv h3.2
  split at h1
  rotate_left
  ·cases h1
  rename_i e he
  simp only [Bool.and_eq_true, decide_eq_true_eq] at h1
  simp only [step1] at hs
  split at hs
  ·rename_i b n k1 lv k2 hv q1 q2 q3
   obtain ⟨g1, g2, g3, rfl, ⟨blk, b1, b2, b3⟩, _, rfl⟩ := hs
   rw [q1] at ex; rw [q2] at el; rw [q3] at eh
   have el := el.int_inv
   have eh := eh.int_inv
   generalize hy : a.eval x = y at ex
   cases ex with
   | pur h' => cases h'
   | own b n y hb hx' h' =>
    rcases h' blk b1 b2 with ⟨_, hn0, _⟩ | ⟨g, cap, arr, ty', hg, rfl, a3, a4, a5⟩
    ·omega
    ·have hcl : ¬ cap = lv.toNat := by omega
     have hsub : hv.toNat - lv.toNat = (hv - lv).toNat := by omega
     have hrun : (Instr.sliceAt t (a.eval x) (some (a.eval l)) (some (a.eval h)) none).run P w = .ok (.slice (some ⟨g, lv.toNat * es, none⟩) (hv - lv).toNat (cap - lv.toNat)) w := by
      rw [hy, el, eh, ← hsub]
      simp only [Instr.sliceAt, Instr.slice, Sem.run_bind, run_underlying (zgk he), Result.andThen_ok, Instr.sliceBounds, Instr.sliceBound, asIntOf, Sem.run_pure]
      rw [if_pos (by omega)]
      simp only [Sem.run_bind, Sem.run_pure, Result.andThen_ok]
      rw [if_pos (by omega)]
      simp only [Sem.run_bind, Sem.run_pure, Result.andThen_ok, zbu h1.1]
      rw [if_neg hcl]
      simp [zb1]
     refine zbr hp hU (zc8 (by simpa using hrun)) (.win b n lv.toNat (hv - lv).toNat _ hb ⟨_, _, rfl⟩ fun blk' e1 e2 => ?_)
     rw [b1] at e1; cases e1
     exact ⟨g, hg, by omega, cap - lv.toNat, by omega, by rw [b3]⟩
  ·exact hs.elim
 ·-- a window to the end
  rename_i t x l es x' lo'
  simp only [Bool.and_eq_true] at hm
  obtain ⟨⟨h1, h2⟩, h3⟩ := hm
  have ex := za4 henv h2
  have el := za4 henv h3
  split at h1
  rotate_left
  ·cases h1
  rename_i e he
  simp only [Bool.and_eq_true, decide_eq_true_eq] at h1
  simp only [step1] at hs
  split at hs
  ·rename_i b n k1 lv q1 q2
   obtain ⟨g1, g2, rfl, ⟨blk, b1, b2, b3⟩, _, rfl⟩ := hs
   rw [q1] at ex; rw [q2] at el
   have el := el.int_inv
   generalize hy : a.eval x = y at ex
   cases ex with
   | pur h' => cases h'
   | own b n y hb hx' h' =>
    rcases h' blk b1 b2 with ⟨_, hn0, _⟩ | ⟨g, cap, arr, ty', hg, rfl, a3, a4, a5⟩
    ·omega
    ·have hcl : ¬ cap = lv.toNat := by omega
     have hrun : (Instr.sliceAt t (a.eval x) (some (a.eval l)) none none).run P w = .ok (.slice (some ⟨g, lv.toNat * es, none⟩) (n - lv.toNat) (cap - lv.toNat)) w := by
      rw [hy, el]
      simp only [Instr.sliceAt, Instr.slice, Sem.run_bind, run_underlying (zgk he), Result.andThen_ok, Instr.sliceBounds, Instr.sliceBound, asIntOf, Sem.run_pure]
      rw [if_pos (by omega)]
      simp only [Sem.run_bind, Sem.run_pure, Result.andThen_ok, zbu h1.1]
      rw [if_neg hcl]
      simp [zb1]
     refine zbr hp hU (zc8 (by simpa using hrun)) (.win b n lv.toNat (n - lv.toNat) _ hb ⟨_, _, rfl⟩ fun blk' e1 e2 => ?_)
     rw [b1] at e1; cases e1
     exact ⟨g, hg, by omega, cap - lv.toNat, by omega, by rw [b3]⟩
  ·exact hs.elim
 ·-- a string of an own row's bytes
  rename_i s d x x'
  simp only [Bool.and_eq_true] at hm
  obtain ⟨⟨h1, h2⟩, h3⟩ := hm
  have ex := za4 henv h3
  split at h1
  ·rename_i e he
   obtain ⟨rfl, r, hr, hrs⟩ := b2sO_run (P := P) (zgk he) (kind_of h1) (str_of h2) hp hs ex
   exact zbr hp hU (zc8 hr) hrs
  ·cases h1
 ·simp at hm
theorem op_sound {P : Program} {dr : Bool} {id : Nat} {o : Oper} {op : AOp} {S : St} {a : Act} {w : World} {φ : Nat → Option Nat} {M U U' : Nat → Prop} {v : V} {H' : Hp} (hm : mOp P o.op op = true)
  (hs : step1 P dr id op S v H') (henv : EnvOk φ M w S.H U S a) (hp : HpOk φ M w S.H U) (Mb : ∀ g, M g → g < w.heap.size) (hU : ∀ b, U b → U' b) (hid : U' id) (hnew : ¬ U id) :
  OpGoal P o a w φ M U U' S.H v H' := op_sound0 (dr := false) hm (step_base hs) henv hp Mb hU hid hnew
end Go.Gim

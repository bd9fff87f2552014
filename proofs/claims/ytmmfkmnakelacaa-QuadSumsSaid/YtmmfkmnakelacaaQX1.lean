import Derived.Test.YtmmfkmnakelacaaQP2
import Derived.Test.YtmmfkmnakelacaaQM3
/- A function of the last numbers alone, added: without the first numbers it is there, times the scale. -/
set_option maxRecDepth 100000
set_option maxHeartbeats 1000000
set_option linter.unusedSimpArgs false
set_option linter.unusedVariables false
namespace Go.Gim
open Go.Proofs
def wideP (k : Nat) (G : Mx) (i j : Nat) : Int := if k ≤ i ∧ k ≤ j then G (i - k) (j - k) else 0
def wideQ (k : Nat) (p : Nat → Int) (i : Nat) : Int := if k ≤ i then p (i - k) else 0
theorem wide_lo {k : Nat} {G : Mx} {i j : Nat} (h : i < k ∨ j < k) : wideP k G i j = 0 := by unfold wideP; rw [if_neg (by omega)]
theorem wide_hi {k : Nat} {G : Mx} {i j : Nat} : wideP k G (k + i) (k + j) = G i j := by unfold wideP; rw [if_pos (by omega)]; congr 1 <;> omega
theorem sum_def {k : Nat} {P G : Mx} : defS k (fun i j => P i j + wideP k G i j) = defS k P := defS_congr fun i j hi hj => by rw [wide_lo (.inl hi)]; omega
theorem sum_det {k : Nat} {P G : Mx} : det k (fun i j => P i j + wideP k G i j) = det k P := det_congr fun i j hi hj => by rw [wide_lo (.inl hi)]; omega
theorem sum_num {k : Nat} {P G : Mx} {f g : Nat → Int} (h : ∀ i, i < k → f i = g i) (c : Nat) : numF k (fun i j => P i j + wideP k G i j) f c = numF k P g c := numF_congr (fun i j hi hj => by rw [wide_lo (.inl hi)]; omega) h c
theorem sum_gP {k : Nat} {P G : Mx} {i j : Nat} : gP k (fun i j => P i j + wideP k G i j) i j = gP k P i j + det k P * G i j := by
  unfold gP
  rw [sum_det]
  dsimp only
  rw [wide_hi, sumZ_congr (g := fun c => numF k P (P (k + i)) c * P (k + j) c) fun c hc => by
    rw [sum_num (g := P (k + i)) fun a ha => by rw [wide_lo (.inr ha)]; omega, wide_lo (.inr hc), Int.add_zero]]
  grind
theorem sum_gQ {k : Nat} {P G : Mx} {q p : Nat → Int} {i : Nat} : gQ k (fun i j => P i j + wideP k G i j) (fun i => q i + wideQ k p i) i = gQ k P q i + det k P * p i := by
  unfold gQ
  rw [sum_det]
  dsimp only
  rw [sumZ_congr (g := fun c => P (k + i) c * numF k P q c) fun c hc => by
    rw [sum_num (g := q) fun a ha => by unfold wideQ; rw [if_neg (by omega)]; omega, wide_lo (.inr hc), Int.add_zero]]
  have e : wideQ k p (k + i) = p i := by unfold wideQ; rw [if_pos (by omega)]; congr 1; omega
  rw [e]
  grind
theorem sum_gC {k : Nat} {P G : Mx} {q p : Nat → Int} {c : Int} : gC k (fun i j => P i j + wideP k G i j) (fun i => q i + wideQ k p i) c = gC k P q c := by
  unfold gC
  rw [sum_det]
  dsimp only
  rw [sumZ_congr (g := fun i => q i * numF k P q i) fun c hc => by
    have e : wideQ k p c = 0 := by unfold wideQ; rw [if_neg (by omega)]
    rw [sum_num (g := q) fun a ha => by unfold wideQ; rw [if_neg (by omega)]; omega, e, Int.add_zero]]
theorem sum_val {m : Nat} {A B : Mx} {a b x : Nat → Int} {c s : Int} : valF m (fun i j => A i j + s * B i j) (fun i => a i + s * b i) c x = valF m A a c x + valF m B b 0 x * s := by
  unfold valF
  have e1 : qS m (fun i j => A i j + s * B i j) x = qS m A x + s * qS m B x := by
    unfold qS
    rw [← sg_mul, ← sg_add]
    refine sumZ_congr fun i hi => ?_
    unfold appS
    rw [sumZ_congr (g := fun k => A i k * x k + s * (B i k * x k)) fun k _ => by grind, sg_add, sg_mul]
    grind
  have e2 : sumZ (fun k => (a k + s * b k) * x k) m = sumZ (fun k => a k * x k) m + s * sumZ (fun k => b k * x k) m := by
    rw [sumZ_congr (g := fun k => a k * x k + s * (b k * x k)) fun k _ => by grind, sg_add, sg_mul]
  rw [e1, e2]
  grind
theorem sum_left {k m : Nat} {P G : Mx} {q p x : Nat → Int} {c : Int} : valF m (gP k (fun i j => P i j + wideP k G i j)) (gQ k (fun i j => P i j + wideP k G i j) (fun i => q i + wideQ k p i)) (gC k (fun i j => P i j + wideP k G i j) (fun i => q i + wideQ k p i) c) x = valF m (gP k P) (gQ k P q) (gC k P q c) x + valF m G p 0 x * det k P := by
  rw [sum_gC, ← sum_val (s := det k P)]
  congr 1
  · funext i j; exact sum_gP
  · funext i; exact sum_gQ
end Go.Gim
/- What is left out goes through what does not touch it. -/
set_option maxRecDepth 100000
set_option maxHeartbeats 4000000
set_option linter.unusedSimpArgs false
set_option linter.unusedVariables false
namespace Go.Gim
open Go.Proofs
theorem gh_own {P : Program} {a : K} {Q : AX → St → Prop} {ud : Dep Q} {l : List (Nat × V)} {H : Hp} {nx es c n : Nat} (s : Nat) {ys : List V} (hs : E l s = .own c n) (hn : ys.length = n) (h3 : H c = some ⟨ys, es⟩) (hp : ∀ x ∈ ys, V.Pure x) (hoth : ∀ p ∈ l, p.1 ≠ s → p.2.sub (fz1 c ys) = p.2)
    (hk : ∀ H' : Hp, (∀ b blk, b ≠ c → H b = some blk → (∀ x ∈ blk.elems, x.sub (fz1 c ys) = x) → H' b = some blk) → Wb P a Q ud ⟨upd (E l) s (.sl ys), H', nx, nx⟩) : Wb P (.gh a) Q ud ⟨E l, H, nx, nx⟩ := by
  subst hn
  refine W_gh (S0 := ⟨upd (E l) s (.sl ys), H.sub (fz1 c ys), nx, nx⟩) ?_ (hk _ fun b blk hb hH hpb => ?_)
  · have := Ghost.fz ⟨E l, H, nx, nx⟩ (fz1 c ys) (fz1_ok h3 hp)
    unfold St.fz at this
    have e : (fun t => V.sub (fz1 c ys) (E l t)) = upd (E l) s (.sl ys) := by
      funext t
      by_cases ht : t = s
      · subst ht; rw [hs]; simp [upd, V.sub, fz1]
      · simp only [upd, ht, if_false]
        clear hs this hk
        induction l with
        | nil => simp [E, V.sub]
        | cons p l ih =>
          obtain ⟨k, v⟩ := p
          simp only [E]
          split
          · rename_i hk; subst hk; exact hoth (t, v) (by simp) ht
          · exact ih fun p hp => hoth p (by simp [hp])
    rw [← e]
    exact this
  · obtain ⟨xs, es'⟩ := blk
    have : List.map (V.sub (fz1 c ys)) xs = xs := by
      have : xs.map (V.sub (fz1 c ys)) = xs.map id := List.map_congr_left fun x hx => hpb x hx
      simpa using this
    have hf : fz1 c ys b = none := by simp [fz1]; omega
    simp only [Hp.sub, hf, Option.isSome_none, Bool.false_eq_true, if_false, hH, Option.map_some, this]
def fzD (c : Nat) (xs : List V) (d : Nat) (ys : List V) : Nat → Option (List V) := fun b => if b = c then some xs else if b = d then some ys else none
theorem fzD_ok {H : Hp} {c d es es' : Nat} {xs ys : List V} (hb : H c = some ⟨xs, es⟩) (hp : ∀ x ∈ xs, V.Pure x) (hd : H d = some ⟨ys, es'⟩) (hq : ∀ x ∈ ys, V.Pure x) : Fz H (fzD c xs d ys) := fun b zs h => by
  have hm : ∀ (l : List V), (∀ x ∈ l, V.Pure x) → l = l.map (V.sub (fzD c xs d ys)) := fun l hl => by
    simpa using (List.map_congr_left (g := id) fun x hx => sub_pure (fzD c xs d ys) (hl x hx)).symm
  by_cases e : b = c
  · subst e
    have h' : some xs = some zs := by rw [← h]; unfold fzD; rw [if_pos rfl]
    cases h'
    exact ⟨_, hb, hm xs hp, fun e he => (hp e he).cells⟩
  · by_cases e2 : b = d
    · subst e2
      have h' : some ys = some zs := by rw [← h]; unfold fzD; rw [if_neg e, if_pos rfl]
      cases h'
      exact ⟨_, hd, hm ys hq, fun e he => (hq e he).cells⟩
    · unfold fzD at h
      rw [if_neg e, if_neg e2] at h
      cases h
theorem Hp_sub_keep {H : Hp} {g : Nat → Option (List V)} {b : Nat} {blk : Blk} (h : H b = some blk) (hg : g b = none) (hp : ∀ x ∈ blk.elems, V.Pure x) : H.sub g b = some blk := by
  have hm : blk.elems.map (V.sub g) = blk.elems := by simpa using (List.map_congr_left (g := id) fun x hx => sub_pure g (hp x hx))
  simp only [Hp.sub, hg, Option.isSome_none, Bool.false_eq_true, if_false, h, Option.map_some, hm]
theorem fzD_none {c d b : Nat} {xs ys : List V} (h1 : b ≠ c) (h2 : b ≠ d) : fzD c xs d ys b = none := by unfold fzD; rw [if_neg h1, if_neg h2]
theorem wide_QV {n k : Nat} {G : Mx} {p : Nat → Int} {z : List V} (hz : z = nats .u32 (digs W32 (Int.natAbs 0))) : V.agg [.sl ((List.range n).map fun i => ivl (rowF n (wideP k G i))), .sl ((rowF n (wideQ k p)).map IV), .bool false, .sl z] = QV (mat n (wideP k G)) (rowF n (wideQ k p)) 0 := by
  subst hz
  unfold QV mat
  rw [List.map_map]
  rfl
theorem Ret.weak {P : Program} {f : Nat} {args args' : List V} {r : V} (h : Ret P f args' r) (hl : args.length = args'.length) (hp : ∀ M w k x, Pur M w (args.getD k .junk) x → Pur M w (args'.getD k .junk) x) : Ret P f args r :=
  ⟨h.1, fun M w vals Mb hg hs ha => h.2 M w vals Mb hg (by rw [hs, hl]) fun k hk => hp _ _ _ _ (ha k (by omega))⟩
theorem pur_nil0 {M : Nat → Prop} {w : World} {x : Value} (h : Pur M w .nil x) : Pur M w (.sl []) x := by cases h; exact .sl0 _ _
theorem add_nil {a r b : V} {z : List V} (h : Ret pg n_quad_Quad_Add [a, .agg [.sl [], .sl [], b, .sl z]] r) : Ret pg n_quad_Quad_Add [a, .agg [.nil, .nil, b, .sl z]] r := by
  refine h.weak rfl fun M w i x h => ?_
  match i with
  | 0 => simpa using h
  | 1 =>
    simp only [List.getD_cons_succ, List.getD_cons_zero] at h ⊢
    cases h with
    | agg cs arr hn hc =>
      refine .agg _ _ hn fun j hj => ?_
      have := hc j (by simpa using hj)
      match j with
      | 0 => exact pur_nil0 this
      | 1 => exact pur_nil0 this
      | 2 => exact this
      | 3 => exact this
      | j + 4 => simp at hj; omega
  | i + 2 => simpa using h
theorem winFB_at {dr : Bool} {nx : Nat} {H : Hp} {es b n k m : Nat} {kk : IntKind} {Kn : V → Prop} {u : Dep Kn} {blk : Blk} (h : k + m = n) (hm : 0 < m) (hb : H b = some blk) (hn : blk.elems.length = n) (hs : blk.size = es) (hd : dr = true → b < nx) (hk : Kn (.win b n k m)) : winFB dr nx H es (.own b n) (.int kk (k : Int)) Kn u :=
  winFB_of (by omega) (by omega) hb hn hs hd (by rw [show n - (k : Int).toNat = m by omega, Int.toNat_natCast]; exact hk)
theorem cpy_winI {H : Hp} {id b k m : Nat} {l : List Int} (hl : l.length = m) (hb : H b = some ⟨(List.replicate (k + m) 0).map IV, 2⟩) : effV H id (.cpy 2) [.win b (k + m) k m, ivl l] = some (.int .i64 (m : Nat), H.upd b (some ⟨(rowF (k + m) fun j => if j < k then 0 else l.getD (j - k) 0).map IV, 2⟩)) := by
  have hr : rowOk 2 (l.map IV) = true := rowOk_iv l
  have hp : ((List.replicate (k + m) (0 : Int)).map IV).take k ++ (l.map IV).take (min m m) ++ ((List.replicate (k + m) (0 : Int)).map IV).drop (k + min m m) = (rowF (k + m) fun j => if j < k then 0 else l.getD (j - k) 0).map IV := by
    rw [← pad_zero hl, ← List.map_take, ← List.map_take, ← List.map_drop, ← List.map_append, ← List.map_append]
    congr 1
    simp [List.take_replicate, List.drop_replicate, hl, List.take_of_length_le, Nat.min_eq_left (show k ≤ k + m by omega)]
  show effV H id (.cpy 2) [.win b (k + m) k m, .sl (l.map IV)] = _
  simp only [effV, slOf, hb, hr, V.notIn, List.length_map, List.length_replicate, hl, hp]
  simp
theorem QuadSums_true (rows : List (List Int)) (q : List Int) (c : Int) (others : List (List Int)) (p l : List Int) (k : Int) (hl : rows.length ≤ 9223372036854775807) (hr : ∀ r ∈ rows, r.length ≤ 9223372036854775807 ∧ ∀ v ∈ r, In64 v) (hql : q.length ≤ 9223372036854775807) (hq : ∀ v ∈ q, In64 v) (hc : In64 c) (hol : others.length ≤ 9223372036854775807) (ho : ∀ r ∈ others, r.length ≤ 9223372036854775807 ∧ ∀ v ∈ r, In64 v) (hpl : p.length ≤ 9223372036854775807) (hp : ∀ v ∈ p, In64 v) (hll : l.length ≤ 9223372036854775807) (hlv : ∀ v ∈ l, In64 v) (hk : In64 k) :
    Ret pg n_gimballaw08_QuadSums [.sl (rows.map ints), ints q, .int .i64 c, .sl (others.map ints), ints p, ints l, .int .i64 k] (.bool true) := by
  obtain ⟨n, hmn, hn6⟩ := min_nat rows.length 6
  have g1 := read8_ret rows q c 6 n hmn (by decide) hl hr hq hc
  have hsq := mirM_sq rows n
  have hml := hsq.1
  have sP := mir_sm (fun r h => (hr r h).2) n
  have sQ := pad_lim hq n
  have hQl := padL_len q n
  have sc : lim c ≤ 2 := lim_i64 hc
  refine gimballaw08_QuadSums.of rfl (W_b ?_)
  unfold gimballaw08_QuadSums.k gimballaw08_QuadSums.res
  simp -dsimp -implicitDefEqProofs (disch := (first | assumption | omega | (simp only [zE] <;> omega) | (apply isPure_intro <;> simp))) only [go_sem]
  first | refine callB_of (awake08_ret) (by simp) ?_ | refine callP_of (awake08_ret) (by simp) ?_
  simp -dsimp -implicitDefEqProofs (disch := (first | assumption | omega | (simp only [zE] <;> omega) | (apply isPure_intro <;> simp))) only [go_sem]
  first | refine callB_of (g1) (by simp) ?_ | refine callP_of (g1) (by simp) ?_
  by_cases h0 : k < 0
  · simp -dsimp -implicitDefEqProofs (disch := (first | assumption | omega | (simp only [zE] <;> omega) | (apply isPure_intro <;> simp))) only [go_sem, hml]
  by_cases h1 : (n : Int) < k
  · simp -dsimp -implicitDefEqProofs (disch := (first | assumption | omega | (simp only [zE] <;> omega) | (apply isPure_intro <;> simp))) only [go_sem, hml]
  obtain ⟨k, rfl⟩ : ∃ m : Nat, k = m := ⟨k.toNat, by omega⟩
  obtain ⟨m, rfl⟩ : ∃ m, n = k + m := ⟨n - k, by omega⟩
  obtain ⟨m2, hmn2, hm26⟩ := min_nat others.length m
  have g2 := read8_ret others p 0 m m2 hmn2 (by omega) hol ho hp (by decide)
  have hsq2 := mirM_sq others m2
  have hml2 := hsq2.1
  have sP2 := mir_sm (fun r h => (ho r h).2) m2
  have sQ2 := pad_lim hp m2
  have hQl2 := padL_len p m2
  have en : (((k + m : Nat) : Int) - (k : Int)) = (m : Int) := by omega
  generalize hPP : mirM rows (k + m) = P at *
  generalize hQQ : padL q (k + m) = Q at *
  generalize hGG : mirM others m2 = G at *
  generalize hpp : padL p m2 = p2 at *
  simp -dsimp -implicitDefEqProofs (disch := (first | assumption | omega | (simp only [zE] <;> omega) | (apply isPure_intro <;> simp))) only [go_sem, hml, en]
  first | refine callB_of (g2) (by simp) ?_ | refine callP_of (g2) (by simp) ?_
  by_cases hmm : m2 = m
  · subst hmm
    simp -dsimp -implicitDefEqProofs (disch := (first | assumption | omega | (simp only [zE] <;> omega) | (apply isPure_intro <;> simp))) only [go_sem, hml, hml2, en]
    obtain ⟨z, hz⟩ : ∃ z : List V, z = nats .u32 (digs W32 (Int.natAbs 0)) := ⟨_, rfl⟩
    rw [← hz]
    obtain ⟨H0, eH0⟩ : ∃ H0 : Hp, H0 = (((((((((Hp.upd (fun x => none) 11 (some ⟨[V.agg [V.nil, V.nil, V.bool false, V.sl []]], 4⟩)).upd 12 (some ⟨[V.agg [V.nil, V.nil, V.bool false, V.sl []]], 4⟩)).upd 11 (some ⟨[QV P Q c], 4⟩)).upd 12 (some ⟨[DQV P Q c], 4⟩)).upd 41 (some ⟨[V.agg [V.nil, V.nil, V.bool false, V.sl []]], 4⟩)).upd 42 (some ⟨[V.agg [V.nil, V.nil, V.bool false, V.sl []]], 4⟩)).upd 41 (some ⟨[QV G p2 0], 4⟩)).upd 42 (some ⟨[DQV G p2 0], 4⟩)).upd 62 (some ⟨[V.agg [V.nil, V.nil, V.bool false, V.sl z]], 4⟩)) := ⟨_, rfl⟩
    have b1 : H0 11 = some ⟨[QV P Q c], 4⟩ := by rw [eH0]; rfl
    have b2 : H0 41 = some ⟨[QV G p2 0], 4⟩ := by rw [eH0]; rfl
    have b3 : H0 62 = some ⟨[V.agg [V.nil, V.nil, V.bool false, V.sl z]], 4⟩ := by rw [eH0]; rfl
    rw [← eH0]
    clear eH0
    generalize hn : k + m2 = n at *
    have hzp : V.Pure (V.sl z) := by rw [hz]; simp
    refine W_loop (T := Nat × V × V × Hp × Nat) (fun t => ⟨E [(5, ints l), (6, .int .i64 k), (15, .bool true), (16, .ptr 11 1 0 0), (19, .ptr 41 1 0 0), (22, .ptr 62 1 0 0), (23, .int .i64 t.1)], t.2.2.2.1, t.2.2.2.2, t.2.2.2.2⟩)
      (fun t => t.1 ≤ n ∧ 65 ≤ t.2.2.2.2 ∧ t.2.2.2.1 11 = some ⟨[QV P Q c], 4⟩ ∧ t.2.2.2.1 41 = some ⟨[QV G p2 0], 4⟩ ∧ t.2.2.2.1 62 = some ⟨[.agg [t.2.1, t.2.2.1, .bool false, .sl z]], 4⟩ ∧ Row 65 t.2.2.2.1 t.2.2.2.2 t.2.1 1 ((List.range t.1).map fun i => ivl (rowF n (wideP k (at2 G) i))) ∧ Row 65 t.2.2.2.1 t.2.2.2.2 t.2.2.1 2 ((rowF t.1 (wideQ k fun i => p2.getD i 0)).map IV) ∧ (t.1 = 0 → t.2.1 = .nil ∧ t.2.2.1 = .nil)) (fun t => n - t.1) (0, .nil, .nil, H0, _) rfl ⟨by dsimp only; omega, by dsimp only; omega, b1, b2, b3, Row.nil _ _ _ _, Row.nil _ _ _ _, fun _ => ⟨rfl, rfl⟩⟩ ?_
    clear b1 b2 b3 H0
    rintro ⟨i, w1, w2, H, nx⟩ ⟨i1, i2, i3, i4, i5, i6, i7, i8⟩
    dsimp only at i1 i2 i3 i4 i5 i6 i7 i8
    obtain ⟨hwa1, hwc1, _, _⟩ := i6.flat
    obtain ⟨hwa2, hwc2, _, _⟩ := i7.flat
    have hsep : Sep w1 w2 := i6.not_row2 i7 (by decide)
    by_cases hi : i < n
    · have eW : (rowF n fun j => if j < k then 0 else (G.getD (i - k) []).getD (j - k) 0) = rowF n fun j => if k ≤ j then at2 G (i - k) (j - k) else 0 := rowF_congr fun j hj => by
        by_cases h : j < k
        · rw [if_pos h, if_neg (by omega)]
        · rw [if_neg h, if_pos (by omega)]; rfl
      by_cases hik : k ≤ i
      · have hik' : (k : Int) ≤ (i : Int) := by omega
        have eik : ((i : Int) - (k : Int)) = ((i - k : Nat) : Int) := by omega
        have hgl := hsq2.row (show i - k < m2 by omega)
        have hcpy : ∀ (H : Hp) (id b : Nat), H b = some ⟨(List.replicate n 0).map IV, 2⟩ → effV H id (.cpy 2) [.win b n k m2, ivl (G.getD (i - k) [])] = some (.int .i64 (m2 : Nat), H.upd b (some ⟨(rowF n (wideP k (at2 G) i)).map IV, 2⟩)) := fun H id b hb => by
          have e2 : rowF n (wideP k (at2 G) i) = rowF n fun j => if j < k then 0 else (G.getD (i - k) []).getD (j - k) 0 := by
            rw [eW]; exact rowF_congr fun j hj => by unfold wideP; by_cases h : k ≤ j; (rw [if_pos ⟨hik, h⟩, if_pos h]); (rw [if_neg (by omega), if_neg h])
          rw [e2, ← hn]
          rw [← hn] at hb
          exact cpy_winI hgl hb
        have eQ : p2.getD (i - k) 0 = wideQ k (fun i => p2.getD i 0) i := by unfold wideQ; rw [if_pos hik]
        simp -dsimp -implicitDefEqProofs (disch := (first | assumption | omega | (simp only [zE] <;> omega) | (apply isPure_intro <;> simp))) only [go_sem, hml, i3, newV_mkV]
        obtain ⟨H1, eH1⟩ : ∃ H1 : Hp, H1 = (H.upd (nx + 8) (some ⟨(List.replicate n 0).map IV, 2⟩)).upd (nx + 11) (some ⟨[V.agg [V.bool false, V.sl []]], 2⟩) := ⟨_, rfl⟩
        have f0 : ∀ b, b < nx → H1 b = H b := fun b hb => by rw [eH1, Hp.upd_ne _ _ (by omega), Hp.upd_ne _ _ (by omega)]
        have f1 : H1 (nx + 8) = some ⟨(List.replicate n 0).map IV, 2⟩ := by rw [eH1, Hp.upd_ne _ _ (by omega), Hp.upd_same]
        have f2 : H1 (nx + 11) = some ⟨[V.agg [V.bool false, V.sl []]], 2⟩ := by rw [eH1, Hp.upd_same]
        rw [← eH1]
        clear eH1
        refine winFB_at hn (by omega) f1 (by rw [List.length_map, List.length_replicate]) rfl (fun _ => by omega) ?_
        have g41 := (f0 41 (by omega)).trans i4
        simp -dsimp -implicitDefEqProofs (disch := (first | assumption | omega | (simp only [zE] <;> omega) | (apply isPure_intro <;> simp))) only [go_sem, g41, hml2, eik]
        obtain ⟨H2, hc2, e0, e1, e2⟩ : ∃ H2 : Hp, (∀ id, effV H1 id (.cpy 2) [.win (nx + 8) n k m2, ivl (G.getD (i - k) [])] = some (.int .i64 (m2 : Nat), H2)) ∧ (∀ b, b < nx → H2 b = H b) ∧ H2 (nx + 8) = some ⟨(rowF n (wideP k (at2 G) i)).map IV, 2⟩ ∧ H2 (nx + 11) = some ⟨[V.agg [V.bool false, V.sl []]], 2⟩ :=
          ⟨_, fun id => hcpy H1 id _ f1, fun b hb => by rw [Hp.upd_ne _ _ (by omega)]; exact f0 b hb, Hp.upd_same _ _ _, by rw [Hp.upd_ne _ _ (by omega)]; exact f2⟩
        refine effB_of (hc2 _) ?_
        clear hc2 f0 f1 f2 g41
        have g41 := (e0 41 (by omega)).trans i4
        simp -dsimp -implicitDefEqProofs (disch := (first | assumption | omega | (simp only [zE] <;> omega) | (apply isPure_intro <;> simp))) only [go_sem, g41, hQl2, eik, e2, eQ]
        generalize hG : Hp.upd H2 (nx + 11) _ = H4
        have c0 : ∀ b, b < nx → H4 b = H b := fun b hb => by rw [← hG, Hp.upd_ne _ _ (by omega)]; exact e0 b hb
        have c1 := upd_at_ne hG e1 (by omega)
        have c2 := upd_at_same hG
        have hN : nx + 16 ≤ nx + 35 := by omega
        clear hG e0 e1 e2 g41 hcpy
        generalize nx + 35 = N at hN ⊢
        refine gh_own (c := nx + 8) (ys := (rowF n (wideP k (at2 G) i)).map IV) 24 rfl (by rw [List.length_map, rowF_len]) c1 (pure_map fun x => by simp) (fun p hp hne => ?_) fun H5 hH5 => ?_
        · simp only [List.mem_cons, List.not_mem_nil, or_false] at hp
          rcases hp with rfl | rfl | rfl | rfl | rfl | rfl | rfl | rfl | rfl <;> first | exact absurd rfl hne | exact sub_ints _ _ | (simp [V.sub]; done) | exact sub_ptr_ne (by omega)
        · have e8 : V.sl ((rowF n (wideP k (at2 G) i)).map IV) = ivl (rowF n (wideP k (at2 G) i)) := rfl
          have q1 : H5 62 = some ⟨[.agg [w1, w2, .bool false, .sl z]], 4⟩ := hH5 62 _ (by omega) ((c0 62 (by omega)).trans i5) fun x hx => by
            simp only [List.mem_singleton] at hx
            subst hx
            rw [sub_agg]
            simp only [List.map_cons, List.map_nil, i6.sub_ge (show nx ≤ nx + 8 by omega), i7.sub_ge (show nx ≤ nx + 8 by omega)]
            simp [V.sub]
          have q2 : H5 11 = some ⟨[QV P Q c], 4⟩ := hH5 11 _ (by omega) ((c0 11 (by omega)).trans i3) fun x hx => by
            simp only [List.mem_singleton] at hx
            subst hx
            exact sub_pure _ (by simp)
          have q3 : H5 41 = some ⟨[QV G p2 0], 4⟩ := hH5 41 _ (by omega) ((c0 41 (by omega)).trans i4) fun x hx => by
            simp only [List.mem_singleton] at hx
            subst hx
            exact sub_pure _ (by simp)
          have q4 : H5 (nx + 11) = some ⟨[IV (wideQ k (fun i => p2.getD i 0) i)], 2⟩ := hH5 (nx + 11) _ (by omega) c2 fun x hx => by
            simp only [List.mem_singleton] at hx
            subst hx
            exact sub_pure _ (by simp)
          have q5 : Row 65 H5 N w1 1 ((List.range i).map fun i => ivl (rowF n (wideP k (at2 G) i))) := by
            rcases i6 with h | ⟨b, h1, h2, h3, h4⟩
            · exact .inl h
            · exact .inr ⟨b, h1, h2, by omega, hH5 b _ (by omega) ((c0 b h3).trans h4) fun x hx => by obtain ⟨y, _, rfl⟩ := List.mem_map.1 hx; exact sub_ivl _ _⟩
          have q6 : Row 65 H5 N w2 2 ((rowF i (wideQ k fun i => p2.getD i 0)).map IV) := by
            rcases i7 with h | ⟨b, h1, h2, h3, h4⟩
            · exact .inl h
            · exact .inr ⟨b, h1, h2, by omega, hH5 b _ (by omega) ((c0 b h3).trans h4) fun x hx => by obtain ⟨y, _, rfl⟩ := List.mem_map.1 hx; exact sub_pure _ (by simp)⟩
          have hw1 : ∀ b m, w1 = .own b m → b < nx := fun b m e => i6.lt e
          have hw2 : ∀ b m, w2 = .own b m → b < nx := fun b m e => i7.lt e
          clear hH5 c0 c1 c2 i3 i4 i5 i6 i7
          simp -dsimp -implicitDefEqProofs (disch := (first | assumption | omega | (simp only [zE] <;> omega) | (apply isPure_intro <;> simp))) only [go_sem, e8, q1, hwa1]
          refine effB_row (lo := 65) (nx := N) (H0 := H5) (xs := (List.range i).map fun i => ivl (rowF n (wideP k (at2 G) i))) q5 (by omega) rfl (by omega) (by omega) (by simp [rowOk, V.cells, V.cellOk, V.isJunk, ivl]) (by decide) (by simp; omega) (by simp; omega) fun v2 H6 r1 r2 r3 r4 => ?_
          rw [range_snoc (fun i => ivl (rowF n (wideP k (at2 G) i)))] at r1
          have p1 := (r4 62 (by omega)).trans q1
          have p2' := (r4 11 (by omega)).trans q2
          have p3 := (r4 41 (by omega)).trans q3
          have p4 := (r3 (nx + 11) (by omega) fun m e => by have := hw1 _ _ e; omega).trans q4
          have p6 := q6.keep r3 hsep (Nat.le_refl _)
          obtain ⟨b', hv2, x1, x3, x4⟩ := r1.own_of (by simp)
          rw [List.length_map, List.length_range] at hv2
          subst hv2
          simp -dsimp -implicitDefEqProofs (disch := (first | assumption | omega | (simp only [zE] <;> omega) | (apply isPure_intro <;> simp))) only [go_sem, p1, p4, hwa1, hwa2]
          refine effB_row (lo := 65) (nx := N + 8) (H0 := H6.upd 62 (some ⟨[.agg [.own b' (i + 1), w2, .bool false, .sl z]], 4⟩)) (xs := (rowF i (wideQ k fun i => p2.getD i 0)).map IV) ((p6.upd (by omega)).same (fun _ _ => rfl) (by omega)) (by omega) rfl (by omega) (by omega) (by simp [rowOk, V.cells, V.cellOk, IV, V.isJunk]) (by decide) (by simp [rowF]; omega) (by simp [rowF]; omega) fun v3 H7 t1 t2 t3 t4 => ?_
          rw [map_app, show rowF i (wideQ k fun i => p2.getD i 0) ++ [wideQ k (fun i => p2.getD i 0) i] = rowF (i + 1) (wideQ k fun i => p2.getD i 0) from range_snoc _ _] at t1
          have u1 : H7 62 = some ⟨[.agg [.own b' (i + 1), w2, .bool false, .sl z]], 4⟩ := (t4 62 (by omega)).trans (Hp.upd_same _ _ _)
          have u2 : H7 11 = some ⟨[QV P Q c], 4⟩ := (t4 11 (by omega)).trans ((Hp.upd_ne _ _ (by omega)).trans p2')
          have u3 : H7 41 = some ⟨[QV G p2 0], 4⟩ := (t4 41 (by omega)).trans ((Hp.upd_ne _ _ (by omega)).trans p3)
          have ub : H7 b' = some ⟨(List.range (i + 1)).map fun i => ivl (rowF n (wideP k (at2 G) i)), 1⟩ := by
            rw [t3 b' (by omega) fun m e => by have h1 := p6.lt e; have h2 := r2 b' _ rfl; omega, Hp.upd_ne _ _ (by omega)]
            exact x4
          obtain ⟨b3, hv3, y1, y3, y4⟩ := t1.own_of (by simp [rowF])
          have hv3' : v3 = .own b3 (i + 1) := by rw [hv3, List.length_map, rowF_len]
          subst hv3'
          clear t1 t2 t3 t4 r1 r2 r3 r4 hv3 p1 p2' p3 p4 p6 q1 q2 q3 q4 q5 q6 x4
          simp -dsimp -implicitDefEqProofs (disch := (first | assumption | omega | (simp only [zE] <;> omega) | (apply isPure_intro <;> simp))) only [go_sem, u1, hwa1, hwa2]
          generalize hH8 : Hp.upd H7 62 _ = H8
          have k1 := upd_at_same hH8
          have k2 := upd_at_ne hH8 u2 (by omega)
          have k3 := upd_at_ne hH8 u3 (by omega)
          have k4 := upd_at_ne hH8 ub (by omega)
          have k5 := upd_at_ne hH8 y4 (by omega)
          exact ⟨(i + 1, _, _, H8, _), rfl, ⟨by dsimp only; omega, by dsimp only; omega, k2, k3, k1, .inr ⟨b', by rw [List.length_map, List.length_range], x1, by dsimp only; omega, k4⟩, .inr ⟨b3, by rw [List.length_map, rowF_len], y1, by dsimp only; omega, k5⟩, fun h => absurd h (Nat.succ_ne_zero i)⟩, by dsimp only; omega⟩
      · have hik' : (i : Int) < (k : Int) := by omega
        simp -dsimp -implicitDefEqProofs (disch := (first | assumption | omega | (simp only [zE] <;> omega) | (apply isPure_intro <;> simp))) only [go_sem, hml, i3, newV_mkV]
        obtain ⟨H1, eH1⟩ : ∃ H1 : Hp, H1 = (H.upd (nx + 8) (some ⟨(List.replicate n 0).map IV, 2⟩)).upd (nx + 11) (some ⟨[V.agg [V.bool false, V.sl []]], 2⟩) := ⟨_, rfl⟩
        have f0 : ∀ b, b < nx → H1 b = H b := fun b hb => by rw [eH1, Hp.upd_ne _ _ (by omega), Hp.upd_ne _ _ (by omega)]
        have f1 : H1 (nx + 8) = some ⟨(List.replicate n 0).map IV, 2⟩ := by rw [eH1, Hp.upd_ne _ _ (by omega), Hp.upd_same]
        have f2 : H1 (nx + 11) = some ⟨[V.agg [V.bool false, V.sl []]], 2⟩ := by rw [eH1, Hp.upd_same]
        rw [← eH1]
        clear eH1
        have c0 := f0
        have c1 : H1 (nx + 8) = some ⟨(rowF n (wideP k (at2 G) i)).map IV, 2⟩ := by
          rw [f1, show List.replicate n 0 = rowF n (wideP k (at2 G) i) from (List.ext_getElem (by simp [rowF_len]) fun j h1 h2 => by simp [rowF, wide_lo (k := k) (G := at2 G) (i := i) (j := j) (.inl (by omega))])]
        have c2 : H1 (nx + 11) = some ⟨[IV (wideQ k (fun i => p2.getD i 0) i)], 2⟩ := by
          rw [f2, show wideQ k (fun i => p2.getD i 0) i = 0 by unfold wideQ; rw [if_neg (by omega)], IV_zero]
        have hN : nx + 12 ≤ nx + 16 := by omega
        clear f0 f1 f2
        generalize nx + 16 = N at hN ⊢
        refine gh_own (c := nx + 8) (ys := (rowF n (wideP k (at2 G) i)).map IV) 24 rfl (by rw [List.length_map, rowF_len]) c1 (pure_map fun x => by simp) (fun p hp hne => ?_) fun H5 hH5 => ?_
        · simp only [List.mem_cons, List.not_mem_nil, or_false] at hp
          rcases hp with rfl | rfl | rfl | rfl | rfl | rfl | rfl | rfl | rfl | rfl <;> first | exact absurd rfl hne | exact sub_ints _ _ | (simp [V.sub]; done) | exact sub_ptr_ne (by omega)
        · have e8 : V.sl ((rowF n (wideP k (at2 G) i)).map IV) = ivl (rowF n (wideP k (at2 G) i)) := rfl
          have q1 : H5 62 = some ⟨[.agg [w1, w2, .bool false, .sl z]], 4⟩ := hH5 62 _ (by omega) ((c0 62 (by omega)).trans i5) fun x hx => by
            simp only [List.mem_singleton] at hx
            subst hx
            rw [sub_agg]
            simp only [List.map_cons, List.map_nil, i6.sub_ge (show nx ≤ nx + 8 by omega), i7.sub_ge (show nx ≤ nx + 8 by omega)]
            simp [V.sub]
          have q2 : H5 11 = some ⟨[QV P Q c], 4⟩ := hH5 11 _ (by omega) ((c0 11 (by omega)).trans i3) fun x hx => by
            simp only [List.mem_singleton] at hx
            subst hx
            exact sub_pure _ (by simp)
          have q3 : H5 41 = some ⟨[QV G p2 0], 4⟩ := hH5 41 _ (by omega) ((c0 41 (by omega)).trans i4) fun x hx => by
            simp only [List.mem_singleton] at hx
            subst hx
            exact sub_pure _ (by simp)
          have q4 : H5 (nx + 11) = some ⟨[IV (wideQ k (fun i => p2.getD i 0) i)], 2⟩ := hH5 (nx + 11) _ (by omega) c2 fun x hx => by
            simp only [List.mem_singleton] at hx
            subst hx
            exact sub_pure _ (by simp)
          have q5 : Row 65 H5 N w1 1 ((List.range i).map fun i => ivl (rowF n (wideP k (at2 G) i))) := by
            rcases i6 with h | ⟨b, h1, h2, h3, h4⟩
            · exact .inl h
            · exact .inr ⟨b, h1, h2, by omega, hH5 b _ (by omega) ((c0 b h3).trans h4) fun x hx => by obtain ⟨y, _, rfl⟩ := List.mem_map.1 hx; exact sub_ivl _ _⟩
          have q6 : Row 65 H5 N w2 2 ((rowF i (wideQ k fun i => p2.getD i 0)).map IV) := by
            rcases i7 with h | ⟨b, h1, h2, h3, h4⟩
            · exact .inl h
            · exact .inr ⟨b, h1, h2, by omega, hH5 b _ (by omega) ((c0 b h3).trans h4) fun x hx => by obtain ⟨y, _, rfl⟩ := List.mem_map.1 hx; exact sub_pure _ (by simp)⟩
          have hw1 : ∀ b m, w1 = .own b m → b < nx := fun b m e => i6.lt e
          have hw2 : ∀ b m, w2 = .own b m → b < nx := fun b m e => i7.lt e
          clear hH5 c0 c1 c2 i3 i4 i5 i6 i7
          simp -dsimp -implicitDefEqProofs (disch := (first | assumption | omega | (simp only [zE] <;> omega) | (apply isPure_intro <;> simp))) only [go_sem, e8, q1, hwa1]
          refine effB_row (lo := 65) (nx := N) (H0 := H5) (xs := (List.range i).map fun i => ivl (rowF n (wideP k (at2 G) i))) q5 (by omega) rfl (by omega) (by omega) (by simp [rowOk, V.cells, V.cellOk, V.isJunk, ivl]) (by decide) (by simp; omega) (by simp; omega) fun v2 H6 r1 r2 r3 r4 => ?_
          rw [range_snoc (fun i => ivl (rowF n (wideP k (at2 G) i)))] at r1
          have p1 := (r4 62 (by omega)).trans q1
          have p2' := (r4 11 (by omega)).trans q2
          have p3 := (r4 41 (by omega)).trans q3
          have p4 := (r3 (nx + 11) (by omega) fun m e => by have := hw1 _ _ e; omega).trans q4
          have p6 := q6.keep r3 hsep (Nat.le_refl _)
          obtain ⟨b', hv2, x1, x3, x4⟩ := r1.own_of (by simp)
          rw [List.length_map, List.length_range] at hv2
          subst hv2
          simp -dsimp -implicitDefEqProofs (disch := (first | assumption | omega | (simp only [zE] <;> omega) | (apply isPure_intro <;> simp))) only [go_sem, p1, p4, hwa1, hwa2]
          refine effB_row (lo := 65) (nx := N + 8) (H0 := H6.upd 62 (some ⟨[.agg [.own b' (i + 1), w2, .bool false, .sl z]], 4⟩)) (xs := (rowF i (wideQ k fun i => p2.getD i 0)).map IV) ((p6.upd (by omega)).same (fun _ _ => rfl) (by omega)) (by omega) rfl (by omega) (by omega) (by simp [rowOk, V.cells, V.cellOk, IV, V.isJunk]) (by decide) (by simp [rowF]; omega) (by simp [rowF]; omega) fun v3 H7 t1 t2 t3 t4 => ?_
          rw [map_app, show rowF i (wideQ k fun i => p2.getD i 0) ++ [wideQ k (fun i => p2.getD i 0) i] = rowF (i + 1) (wideQ k fun i => p2.getD i 0) from range_snoc _ _] at t1
          have u1 : H7 62 = some ⟨[.agg [.own b' (i + 1), w2, .bool false, .sl z]], 4⟩ := (t4 62 (by omega)).trans (Hp.upd_same _ _ _)
          have u2 : H7 11 = some ⟨[QV P Q c], 4⟩ := (t4 11 (by omega)).trans ((Hp.upd_ne _ _ (by omega)).trans p2')
          have u3 : H7 41 = some ⟨[QV G p2 0], 4⟩ := (t4 41 (by omega)).trans ((Hp.upd_ne _ _ (by omega)).trans p3)
          have ub : H7 b' = some ⟨(List.range (i + 1)).map fun i => ivl (rowF n (wideP k (at2 G) i)), 1⟩ := by
            rw [t3 b' (by omega) fun m e => by have h1 := p6.lt e; have h2 := r2 b' _ rfl; omega, Hp.upd_ne _ _ (by omega)]
            exact x4
          obtain ⟨b3, hv3, y1, y3, y4⟩ := t1.own_of (by simp [rowF])
          have hv3' : v3 = .own b3 (i + 1) := by rw [hv3, List.length_map, rowF_len]
          subst hv3'
          clear t1 t2 t3 t4 r1 r2 r3 r4 hv3 p1 p2' p3 p4 p6 q1 q2 q3 q4 q5 q6 x4
          simp -dsimp -implicitDefEqProofs (disch := (first | assumption | omega | (simp only [zE] <;> omega) | (apply isPure_intro <;> simp))) only [go_sem, u1, hwa1, hwa2]
          generalize hH8 : Hp.upd H7 62 _ = H8
          have k1 := upd_at_same hH8
          have k2 := upd_at_ne hH8 u2 (by omega)
          have k3 := upd_at_ne hH8 u3 (by omega)
          have k4 := upd_at_ne hH8 ub (by omega)
          have k5 := upd_at_ne hH8 y4 (by omega)
          exact ⟨(i + 1, _, _, H8, _), rfl, ⟨by dsimp only; omega, by dsimp only; omega, k2, k3, k1, .inr ⟨b', by rw [List.length_map, List.length_range], x1, by dsimp only; omega, k4⟩, .inr ⟨b3, by rw [List.length_map, rowF_len], y1, by dsimp only; omega, k5⟩, fun h => absurd h (Nat.succ_ne_zero i)⟩, by dsimp only; omega⟩
    · have hin : i = n := by omega
      rw [hin] at i6 i7 i8 ⊢
      clear hi hin i1 i
      have hkn : k ≤ n := by omega
      have h2k : 2 ^ k * (3 + 1) ≤ 64 * 4 := by have h2 : 2 ^ k ≤ 2 ^ 6 := Nat.pow_le_pow_right (by decide) (by omega); have h3 := Nat.mul_le_mul_right 4 h2; omega
      have d1 := qwithout_ret P Q c n k 2 (by omega) hkn (by omega) (by omega) hsq hQl sP sQ sc
      have d3 := list8_ret l m2 (by omega) hlv
      have sW : ∀ i j, lim (at2 (mat n (wideP k (at2 G))) i j) ≤ 2 := lim_at_mat fun i j => by unfold wideP; split; exact sP2 _ _; rw [lim_zero]; omega
      have sw : ∀ i, lim ((rowF n (wideQ k fun i => p2.getD i 0)).getD i 0) ≤ 2 := fun i => rng_lim (fun i => by unfold wideQ; split; exact sQ2 _; rw [lim_zero]; omega) i
      have d2 := qadd_ret P (mat n (wideP k (at2 G))) Q (rowF n (wideQ k fun i => p2.getD i 0)) c 0 n (by omega) hsq (mat_sq _ _) hQl (rowF_len _ _) (fun i j => by have := sP i j; omega) (fun i j => by have := sW i j; omega) (fun i => by have := sQ i; omega) (fun i => by have := sw i; omega) (by omega) (by rw [lim_zero]; omega)
      rw [← wide_QV hz] at d2
      have sPW : ∀ i j, lim (at2 (mat n fun i j => at2 P i j + at2 (mat n (wideP k (at2 G))) i j) i j) ≤ 3 := lim_at_mat fun i j => by have := lim_add (at2 P i j) (at2 (mat n (wideP k (at2 G))) i j); have := sP i j; have := sW i j; omega
      have sQW : ∀ i, lim ((rowF n fun i => Q.getD i 0 + (rowF n (wideQ k fun i => p2.getD i 0)).getD i 0).getD i 0) ≤ 3 := fun i => rng_lim (fun i => by have := lim_add (Q.getD i 0) ((rowF n (wideQ k fun i => p2.getD i 0)).getD i 0); have := sQ i; have := sw i; omega) i
      have d4 := qwithout_ret (mat n fun i j => at2 P i j + at2 (mat n (wideP k (at2 G))) i j) (rowF n fun i => Q.getD i 0 + (rowF n (wideQ k fun i => p2.getD i 0)).getD i 0) (c + 0) n k 3 (by omega) hkn (by omega) (by omega) (mat_sq _ _) (rowF_len _ _) sPW sQW (by have := lim_add c 0; have h0 := lim_zero; omega)
      have hcS : ∀ i j, i < n → j < n → at2 (mat n fun i j => at2 P i j + at2 (mat n (wideP k (at2 G))) i j) i j = (fun i j => at2 P i j + wideP k (at2 G) i j) i j := fun i j hi hj => by rw [mat_at hi hj, mat_at hi hj]
      have hqS : ∀ i, i < n → (fun i => (rowF n fun i => Q.getD i 0 + (rowF n (wideQ k fun i => p2.getD i 0)).getD i 0).getD i 0) i = (fun i => Q.getD i 0 + wideQ k (fun i => p2.getD i 0) i) i := fun i hi => by dsimp only; rw [rowF_get hi, rowF_get hi]
      rw [qoutV_congr hkn hcS hqS, Int.add_zero] at d4
      rw [Int.add_zero] at d2
      have hnk : n - k = m2 := by omega
      unfold qoutV at d1 d4
      rw [hnk] at d1 d4
      rw [sum_def, sum_det] at d4
      have sMW : ∀ i j, lim (at2 P i j + wideP k (at2 G) i j) ≤ 3 := fun i j => by
        have h1 : lim (wideP k (at2 G) i j) ≤ 2 := by unfold wideP; split; exact sP2 _ _; rw [lim_zero]; omega
        have := lim_add (at2 P i j) (wideP k (at2 G) i j); have := sP i j; omega
      have sqW : ∀ i, lim (Q.getD i 0 + wideQ k (fun i => p2.getD i 0) i) ≤ 3 := fun i => by
        have h1 : lim (wideQ k (fun i => p2.getD i 0) i) ≤ 2 := by unfold wideQ; split; exact sQ2 _; rw [lim_zero]; omega
        have := lim_add (Q.getD i 0) (wideQ k (fun i => p2.getD i 0) i); have := sQ i; omega
      have hG1 := g_lim (k := k) (L := 3) (D := 256) (M := at2 P) (q := fun i => Q.getD i 0) (c := c) (by omega) (fun i j => by have := sP i j; omega) (fun i => by have := sQ i; omega) (by omega)
      have hG2 := g_lim (k := k) (L := 3) (D := 256) (M := fun i j => at2 P i j + wideP k (at2 G) i j) (q := fun i => Q.getD i 0 + wideQ k (fun i => p2.getD i 0) i) (c := c) (by omega) sMW sqW (by omega)
      have sX := pad_lim hlv m2
      have hXl := padL_len l m2
      have v1 := qvalue_ret (mat m2 (gP k (at2 P))) (rowF m2 (gQ k (at2 P) fun i => Q.getD i 0)) (padL l m2) (gC k (at2 P) (fun i => Q.getD i 0) c) m2 (by omega) (mat_sq _ _) (rowF_len _ _) hXl (lim_at_mat fun i j => by have := hG1.1 i j; omega) (fun i => by have := rng_lim (n := m2) hG1.2.1 i; unfold rowF; omega) (by have := hG1.2.2; omega) (fun i => by have := sX i; omega)
      rw [qval_g (n := n) m2 hnk.symm] at v1
      have v3 := qvalue_ret (mat m2 (gP k fun i j => at2 P i j + wideP k (at2 G) i j)) (rowF m2 (gQ k (fun i j => at2 P i j + wideP k (at2 G) i j) fun i => Q.getD i 0 + wideQ k (fun i => p2.getD i 0) i)) (padL l m2) (gC k (fun i j => at2 P i j + wideP k (at2 G) i j) (fun i => Q.getD i 0 + wideQ k (fun i => p2.getD i 0) i) c) m2 (by omega) (mat_sq _ _) (rowF_len _ _) hXl (lim_at_mat fun i j => by have := hG2.1 i j; omega) (fun i => by have := rng_lim (n := m2) hG2.2.1 i; unfold rowF; omega) (by have := hG2.2.2; omega) (fun i => by have := sX i; omega)
      rw [qval_g (n := n) m2 hnk.symm, sum_left] at v3
      have v2 := qvalue_ret G p2 (padL l m2) 0 m2 (by omega) hsq2 hQl2 hXl (fun i j => by have := sP2 i j; omega) (fun i => by have := sQ2 i; omega) (by rw [lim_zero]; omega) (fun i => by have := sX i; omega)
      rw [qval_val hsq2 hQl2] at v2
      have w1l := val_lim (n := m2) (P := gP k (at2 P)) (q := gQ k (at2 P) fun i => Q.getD i 0) (x := fun i => (padL l m2).getD i 0) (c := gC k (at2 P) (fun i => Q.getD i 0) c) (A := 3 + 256 + k + 1) (B := 2) (fun i j _ _ => hG1.1 i j) (fun i _ => hG1.2.1 i) hG1.2.2 (fun i _ => sX i)
      have w2l := val_lim (n := m2) (P := at2 G) (q := fun i => p2.getD i 0) (x := fun i => (padL l m2).getD i 0) (c := 0) (A := 2) (B := 2) (fun i j _ _ => sP2 i j) (fun i _ => sQ2 i) (by rw [lim_zero]; omega) (fun i _ => sX i)
      have sD := det_pw (n := k) (fun i j => Nat.le_trans (sP i j) (show 2 ≤ 3 by omega))
      generalize hva : valF m2 (gP k (at2 P)) (gQ k (at2 P) fun i => Q.getD i 0) (gC k (at2 P) (fun i => Q.getD i 0) c) (fun i => (padL l m2).getD i 0) = va at *
      generalize hvb : valF m2 (at2 G) (fun i => p2.getD i 0) 0 (fun i => (padL l m2).getD i 0) = vb at *
      generalize hdd : det k (at2 P) = d at *
      have l1 := lim_mul vb d
      have l2 := lim_add va (vb * d)
      have z1 : (d - d).sign = 0 := by rw [Int.sub_self]; rfl
      have z2 : (va + vb * d - (va + vb * d)).sign = 0 := by rw [Int.sub_self]; rfl
      generalize hMS : (mat n fun i j => at2 P i j + at2 (mat n (wideP k (at2 G))) i j) = MS at *
      generalize hQS : (rowF n fun i => Q.getD i 0 + (rowF n (wideQ k fun i => p2.getD i 0)).getD i 0) = QS at *
      by_cases hn0 : n = 0
      · obtain ⟨rfl, rfl⟩ := i8 hn0
        have d2 := add_nil (a := QV P Q c) (b := .bool false) (z := z) (r := QV MS QS c) (by
          have h := d2
          rw [show (List.range n).map (fun i => ivl (rowF n (wideP k (at2 G) i))) = [] by rw [hn0]; rfl, show (rowF n (wideQ k fun i => p2.getD i 0)).map IV = [] by rw [hn0]; rfl] at h
          exact h)
        by_cases hdf : defS k (at2 P) = true
        · rw [if_pos hdf] at d1
          simp -dsimp -implicitDefEqProofs (disch := (first | assumption | omega | (simp only [zE] <;> omega) | (apply isPure_intro <;> simp))) only [go_sem, hml, i3]
          first | refine callB_of (d1) (by simp) ?_ | refine callP_of (d1) (by simp) ?_
          simp -dsimp -implicitDefEqProofs (disch := (first | assumption | omega | (simp only [zE] <;> omega) | (apply isPure_intro <;> simp))) only [go_sem, hml, i3, i5, hwa1, hwa2]
          obtain ⟨H1, eH1⟩ : ∃ H1 : Hp, H1 = (((H.upd (nx + 12) (some ⟨[V.agg [V.nil, V.nil, V.bool false, V.sl []]], 4⟩)).upd (nx + 13) (some ⟨[V.agg [V.bool false, V.sl []]], 2⟩)).upd (nx + 12) (some ⟨[QV (mat m2 (gP k (at2 P))) (rowF m2 (gQ k (at2 P) fun i => Q.getD i 0)) (gC k (at2 P) (fun i => Q.getD i 0) c)], 4⟩)).upd (nx + 13) (some ⟨[IV d], 2⟩) := ⟨_, rfl⟩
          have f0 : ∀ b, b < nx → H1 b = H b := fun b hb => by rw [eH1, Hp.upd_ne _ _ (by omega), Hp.upd_ne _ _ (by omega), Hp.upd_ne _ _ (by omega), Hp.upd_ne _ _ (by omega)]
          have f1 : H1 (nx + 12) = some ⟨[QV (mat m2 (gP k (at2 P))) (rowF m2 (gQ k (at2 P) fun i => Q.getD i 0)) (gC k (at2 P) (fun i => Q.getD i 0) c)], 4⟩ := by rw [eH1, Hp.upd_ne _ _ (by omega), Hp.upd_same]
          have f2 : H1 (nx + 13) = some ⟨[IV d], 2⟩ := by rw [eH1, Hp.upd_same]
          rw [← eH1]
          clear eH1
          first | refine callB_of (d2) (by simp) ?_ | refine callP_of (d2) (by simp) ?_
          rw [if_pos hdf] at d4
          have p11 : H1 11 = some ⟨[QV P Q c], 4⟩ := ((f0 11 (by omega)).trans i3)
          have p41 : H1 41 = some ⟨[QV G p2 0], 4⟩ := ((f0 41 (by omega)).trans i4)
          have p12 : H1 (nx + 12) = some ⟨[QV (mat m2 (gP k (at2 P))) (rowF m2 (gQ k (at2 P) fun i => Q.getD i 0)) (gC k (at2 P) (fun i => Q.getD i 0) c)], 4⟩ := f1
          have p13 : H1 (nx + 13) = some ⟨[IV d], 2⟩ := f2
          clear f0 f1 f2
          simp -dsimp -implicitDefEqProofs (disch := (first | assumption | omega | (simp only [zE] <;> omega) | (apply isPure_intro <;> simp))) only [go_sem]
          first | refine callB_of (d4) (by simp) ?_ | refine callP_of (d4) (by simp) ?_
          simp -dsimp -implicitDefEqProofs (disch := (first | assumption | omega | (simp only [zE] <;> omega) | (apply isPure_intro <;> simp))) only [go_sem, p11, hml, en]
          first | refine callB_of (d3) (by simp) ?_ | refine callP_of (d3) (by simp) ?_
          simp -dsimp -implicitDefEqProofs (disch := (first | assumption | omega | (simp only [zE] <;> omega) | (apply isPure_intro <;> simp))) only [go_sem, p13]
          first | refine callB_of (icmp_ret d d (by omega) (by omega)) (by simp) ?_ | refine callP_of (icmp_ret d d (by omega) (by omega)) (by simp) ?_
          simp -dsimp -implicitDefEqProofs (disch := (first | assumption | omega | (simp only [zE] <;> omega) | (apply isPure_intro <;> simp))) only [go_sem, p12]
          first | refine callB_of (v1) (by simp) ?_ | refine callP_of (v1) (by simp) ?_
          simp -dsimp -implicitDefEqProofs (disch := (first | assumption | omega | (simp only [zE] <;> omega) | (apply isPure_intro <;> simp))) only [go_sem, p41]
          first | refine callB_of (v2) (by simp) ?_ | refine callP_of (v2) (by simp) ?_
          simp -dsimp -implicitDefEqProofs (disch := (first | assumption | omega | (simp only [zE] <;> omega) | (apply isPure_intro <;> simp))) only [go_sem, p13]
          first | refine callB_of (mul_ret vb d (by omega) (by omega)) (by simp) ?_ | refine callP_of (mul_ret vb d (by omega) (by omega)) (by simp) ?_
          simp -dsimp -implicitDefEqProofs (disch := (first | assumption | omega | (simp only [zE] <;> omega) | (apply isPure_intro <;> simp))) only [go_sem]
          first | refine callB_of (add_ret va (vb * d) (by omega) (by omega)) (by simp) ?_ | refine callP_of (add_ret va (vb * d) (by omega) (by omega)) (by simp) ?_
          simp -dsimp -implicitDefEqProofs (disch := (first | assumption | omega | (simp only [zE] <;> omega) | (apply isPure_intro <;> simp))) only [go_sem]
          first | refine callB_of (v3) (by simp) ?_ | refine callP_of (v3) (by simp) ?_
          simp -dsimp -implicitDefEqProofs (disch := (first | assumption | omega | (simp only [zE] <;> omega) | (apply isPure_intro <;> simp))) only [go_sem]
          first | refine callB_of (icmp_ret _ _ (by omega) (by omega)) (by simp) ?_ | refine callP_of (icmp_ret _ _ (by omega) (by omega)) (by simp) ?_
          simp -dsimp -implicitDefEqProofs (disch := (first | assumption | omega | (simp only [zE] <;> omega) | (apply isPure_intro <;> simp))) only [go_sem, z1, z2]
          done
        · rw [if_neg hdf] at d1
          simp -dsimp -implicitDefEqProofs (disch := (first | assumption | omega | (simp only [zE] <;> omega) | (apply isPure_intro <;> simp))) only [go_sem, hml, i3]
          first | refine callB_of (d1) (by simp) ?_ | refine callP_of (d1) (by simp) ?_
          simp -dsimp -implicitDefEqProofs (disch := (first | assumption | omega | (simp only [zE] <;> omega) | (apply isPure_intro <;> simp))) only [go_sem, hml, i3, i5, hwa1, hwa2]
          obtain ⟨H1, eH1⟩ : ∃ H1 : Hp, H1 = (((H.upd (nx + 12) (some ⟨[V.agg [V.nil, V.nil, V.bool false, V.sl []]], 4⟩)).upd (nx + 13) (some ⟨[V.agg [V.bool false, V.sl []]], 2⟩)).upd (nx + 12) (some ⟨[QV [] [] 0], 4⟩)).upd (nx + 13) (some ⟨[IV 0], 2⟩) := ⟨_, rfl⟩
          have f0 : ∀ b, b < nx → H1 b = H b := fun b hb => by rw [eH1, Hp.upd_ne _ _ (by omega), Hp.upd_ne _ _ (by omega), Hp.upd_ne _ _ (by omega), Hp.upd_ne _ _ (by omega)]
          have f1 : H1 (nx + 12) = some ⟨[QV [] [] 0], 4⟩ := by rw [eH1, Hp.upd_ne _ _ (by omega), Hp.upd_same]
          have f2 : H1 (nx + 13) = some ⟨[IV 0], 2⟩ := by rw [eH1, Hp.upd_same]
          rw [← eH1]
          clear eH1
          first | refine callB_of (d2) (by simp) ?_ | refine callP_of (d2) (by simp) ?_
          rw [if_neg hdf] at d4
          have p11 : H1 11 = some ⟨[QV P Q c], 4⟩ := ((f0 11 (by omega)).trans i3)
          have p41 : H1 41 = some ⟨[QV G p2 0], 4⟩ := ((f0 41 (by omega)).trans i4)
          have p12 : H1 (nx + 12) = some ⟨[QV [] [] 0], 4⟩ := f1
          have p13 : H1 (nx + 13) = some ⟨[IV 0], 2⟩ := f2
          clear f0 f1 f2
          simp -dsimp -implicitDefEqProofs (disch := (first | assumption | omega | (simp only [zE] <;> omega) | (apply isPure_intro <;> simp))) only [go_sem]
          first | refine callB_of (d4) (by simp) ?_ | refine callP_of (d4) (by simp) ?_
          simp -dsimp -implicitDefEqProofs (disch := (first | assumption | omega | (simp only [zE] <;> omega) | (apply isPure_intro <;> simp))) only [go_sem]
      obtain ⟨ba, hva, a1, a2, a3⟩ := i6.own_of (by simp; omega)
      obtain ⟨bb, hvb, e1, e2, e3⟩ := i7.own_of (by simp [rowF]; omega)
      have hab : ba ≠ bb := fun e => by
        have h1 := a3; rw [e, e3] at h1
        have h2 := congrArg Blk.size (Option.some.inj h1)
        dsimp only at h2; omega
      rw [List.length_map, List.length_range] at hva
      rw [List.length_map, rowF_len] at hvb
      subst hva hvb
      by_cases hdf : defS k (at2 P) = true
      · rw [if_pos hdf] at d1
        simp -dsimp -implicitDefEqProofs (disch := (first | assumption | omega | (simp only [zE] <;> omega) | (apply isPure_intro <;> simp))) only [go_sem, hml, i3]
        first | refine callB_of (d1) (by simp) ?_ | refine callP_of (d1) (by simp) ?_
        simp -dsimp -implicitDefEqProofs (disch := (first | assumption | omega | (simp only [zE] <;> omega) | (apply isPure_intro <;> simp))) only [go_sem, hml, i3, i5, hwa1, hwa2]
        obtain ⟨H1, eH1⟩ : ∃ H1 : Hp, H1 = (((H.upd (nx + 12) (some ⟨[V.agg [V.nil, V.nil, V.bool false, V.sl []]], 4⟩)).upd (nx + 13) (some ⟨[V.agg [V.bool false, V.sl []]], 2⟩)).upd (nx + 12) (some ⟨[QV (mat m2 (gP k (at2 P))) (rowF m2 (gQ k (at2 P) fun i => Q.getD i 0)) (gC k (at2 P) (fun i => Q.getD i 0) c)], 4⟩)).upd (nx + 13) (some ⟨[IV d], 2⟩) := ⟨_, rfl⟩
        have f0 : ∀ b, b < nx → H1 b = H b := fun b hb => by rw [eH1, Hp.upd_ne _ _ (by omega), Hp.upd_ne _ _ (by omega), Hp.upd_ne _ _ (by omega), Hp.upd_ne _ _ (by omega)]
        have f1 : H1 (nx + 12) = some ⟨[QV (mat m2 (gP k (at2 P))) (rowF m2 (gQ k (at2 P) fun i => Q.getD i 0)) (gC k (at2 P) (fun i => Q.getD i 0) c)], 4⟩ := by rw [eH1, Hp.upd_ne _ _ (by omega), Hp.upd_same]
        have f2 : H1 (nx + 13) = some ⟨[IV d], 2⟩ := by rw [eH1, Hp.upd_same]
        rw [← eH1]
        clear eH1
        refine callB_frE (fzD ba _ bb _) (fzD_ok ((f0 ba a2).trans a3) (pure_map fun x => by simp) ((f0 bb e2).trans e3) (pure_map fun x => by simp)) (by simp [V.sub, fzD, hab.symm, sub_QV, rowF_len]) d2 (by simp) ?_
        rw [if_pos hdf] at d4
        generalize hH9 : Hp.sub _ H1 = H9
        have p11 : H9 11 = some ⟨[QV P Q c], 4⟩ := by rw [← hH9]; exact Hp_sub_keep ((f0 11 (by omega)).trans i3) (fzD_none (by omega) (by omega)) (by simp)
        have p41 : H9 41 = some ⟨[QV G p2 0], 4⟩ := by rw [← hH9]; exact Hp_sub_keep ((f0 41 (by omega)).trans i4) (fzD_none (by omega) (by omega)) (by simp)
        have p12 : H9 (nx + 12) = some ⟨[QV (mat m2 (gP k (at2 P))) (rowF m2 (gQ k (at2 P) fun i => Q.getD i 0)) (gC k (at2 P) (fun i => Q.getD i 0) c)], 4⟩ := by rw [← hH9]; exact Hp_sub_keep f1 (fzD_none (by omega) (by omega)) (by simp)
        have p13 : H9 (nx + 13) = some ⟨[IV d], 2⟩ := by rw [← hH9]; exact Hp_sub_keep f2 (fzD_none (by omega) (by omega)) (by simp)
        clear hH9 f0 f1 f2
        have g11 : fzD ba ((List.range n).map fun i => ivl (rowF n (wideP k (at2 G) i))) bb ((rowF n (wideQ k fun i => p2.getD i 0)).map IV) 11 = none := fzD_none (by omega) (by omega)
        have g41 : fzD ba ((List.range n).map fun i => ivl (rowF n (wideP k (at2 G) i))) bb ((rowF n (wideQ k fun i => p2.getD i 0)).map IV) 41 = none := fzD_none (by omega) (by omega)
        have g62 : fzD ba ((List.range n).map fun i => ivl (rowF n (wideP k (at2 G) i))) bb ((rowF n (wideQ k fun i => p2.getD i 0)).map IV) 62 = none := fzD_none (by omega) (by omega)
        have g12 : fzD ba ((List.range n).map fun i => ivl (rowF n (wideP k (at2 G) i))) bb ((rowF n (wideQ k fun i => p2.getD i 0)).map IV) (nx + 12) = none := fzD_none (by omega) (by omega)
        have g13 : fzD ba ((List.range n).map fun i => ivl (rowF n (wideP k (at2 G) i))) bb ((rowF n (wideQ k fun i => p2.getD i 0)).map IV) (nx + 13) = none := fzD_none (by omega) (by omega)
        simp -dsimp -implicitDefEqProofs (disch := (first | assumption | omega | (simp only [zE] <;> omega) | (apply isPure_intro <;> simp))) only [go_sem, g11, g41, g62, g12, g13]
        first | refine callB_of (d4) (by simp) ?_ | refine callP_of (d4) (by simp) ?_
        simp -dsimp -implicitDefEqProofs (disch := (first | assumption | omega | (simp only [zE] <;> omega) | (apply isPure_intro <;> simp))) only [go_sem, p11, hml, en]
        first | refine callB_of (d3) (by simp) ?_ | refine callP_of (d3) (by simp) ?_
        simp -dsimp -implicitDefEqProofs (disch := (first | assumption | omega | (simp only [zE] <;> omega) | (apply isPure_intro <;> simp))) only [go_sem, p13]
        first | refine callB_of (icmp_ret d d (by omega) (by omega)) (by simp) ?_ | refine callP_of (icmp_ret d d (by omega) (by omega)) (by simp) ?_
        simp -dsimp -implicitDefEqProofs (disch := (first | assumption | omega | (simp only [zE] <;> omega) | (apply isPure_intro <;> simp))) only [go_sem, p12]
        first | refine callB_of (v1) (by simp) ?_ | refine callP_of (v1) (by simp) ?_
        simp -dsimp -implicitDefEqProofs (disch := (first | assumption | omega | (simp only [zE] <;> omega) | (apply isPure_intro <;> simp))) only [go_sem, p41]
        first | refine callB_of (v2) (by simp) ?_ | refine callP_of (v2) (by simp) ?_
        simp -dsimp -implicitDefEqProofs (disch := (first | assumption | omega | (simp only [zE] <;> omega) | (apply isPure_intro <;> simp))) only [go_sem, p13]
        first | refine callB_of (mul_ret vb d (by omega) (by omega)) (by simp) ?_ | refine callP_of (mul_ret vb d (by omega) (by omega)) (by simp) ?_
        simp -dsimp -implicitDefEqProofs (disch := (first | assumption | omega | (simp only [zE] <;> omega) | (apply isPure_intro <;> simp))) only [go_sem]
        first | refine callB_of (add_ret va (vb * d) (by omega) (by omega)) (by simp) ?_ | refine callP_of (add_ret va (vb * d) (by omega) (by omega)) (by simp) ?_
        simp -dsimp -implicitDefEqProofs (disch := (first | assumption | omega | (simp only [zE] <;> omega) | (apply isPure_intro <;> simp))) only [go_sem]
        first | refine callB_of (v3) (by simp) ?_ | refine callP_of (v3) (by simp) ?_
        simp -dsimp -implicitDefEqProofs (disch := (first | assumption | omega | (simp only [zE] <;> omega) | (apply isPure_intro <;> simp))) only [go_sem]
        first | refine callB_of (icmp_ret _ _ (by omega) (by omega)) (by simp) ?_ | refine callP_of (icmp_ret _ _ (by omega) (by omega)) (by simp) ?_
        simp -dsimp -implicitDefEqProofs (disch := (first | assumption | omega | (simp only [zE] <;> omega) | (apply isPure_intro <;> simp))) only [go_sem, z1, z2]
        done
      · rw [if_neg hdf] at d1
        simp -dsimp -implicitDefEqProofs (disch := (first | assumption | omega | (simp only [zE] <;> omega) | (apply isPure_intro <;> simp))) only [go_sem, hml, i3]
        first | refine callB_of (d1) (by simp) ?_ | refine callP_of (d1) (by simp) ?_
        simp -dsimp -implicitDefEqProofs (disch := (first | assumption | omega | (simp only [zE] <;> omega) | (apply isPure_intro <;> simp))) only [go_sem, hml, i3, i5, hwa1, hwa2]
        obtain ⟨H1, eH1⟩ : ∃ H1 : Hp, H1 = (((H.upd (nx + 12) (some ⟨[V.agg [V.nil, V.nil, V.bool false, V.sl []]], 4⟩)).upd (nx + 13) (some ⟨[V.agg [V.bool false, V.sl []]], 2⟩)).upd (nx + 12) (some ⟨[QV [] [] 0], 4⟩)).upd (nx + 13) (some ⟨[IV 0], 2⟩) := ⟨_, rfl⟩
        have f0 : ∀ b, b < nx → H1 b = H b := fun b hb => by rw [eH1, Hp.upd_ne _ _ (by omega), Hp.upd_ne _ _ (by omega), Hp.upd_ne _ _ (by omega), Hp.upd_ne _ _ (by omega)]
        have f1 : H1 (nx + 12) = some ⟨[QV [] [] 0], 4⟩ := by rw [eH1, Hp.upd_ne _ _ (by omega), Hp.upd_same]
        have f2 : H1 (nx + 13) = some ⟨[IV 0], 2⟩ := by rw [eH1, Hp.upd_same]
        rw [← eH1]
        clear eH1
        refine callB_frE (fzD ba _ bb _) (fzD_ok ((f0 ba a2).trans a3) (pure_map fun x => by simp) ((f0 bb e2).trans e3) (pure_map fun x => by simp)) (by simp [V.sub, fzD, hab.symm, sub_QV, rowF_len]) d2 (by simp) ?_
        rw [if_neg hdf] at d4
        generalize hH9 : Hp.sub _ H1 = H9
        have p11 : H9 11 = some ⟨[QV P Q c], 4⟩ := by rw [← hH9]; exact Hp_sub_keep ((f0 11 (by omega)).trans i3) (fzD_none (by omega) (by omega)) (by simp)
        have p41 : H9 41 = some ⟨[QV G p2 0], 4⟩ := by rw [← hH9]; exact Hp_sub_keep ((f0 41 (by omega)).trans i4) (fzD_none (by omega) (by omega)) (by simp)
        have p12 : H9 (nx + 12) = some ⟨[QV [] [] 0], 4⟩ := by rw [← hH9]; exact Hp_sub_keep f1 (fzD_none (by omega) (by omega)) (by simp)
        have p13 : H9 (nx + 13) = some ⟨[IV 0], 2⟩ := by rw [← hH9]; exact Hp_sub_keep f2 (fzD_none (by omega) (by omega)) (by simp)
        clear hH9 f0 f1 f2
        have g11 : fzD ba ((List.range n).map fun i => ivl (rowF n (wideP k (at2 G) i))) bb ((rowF n (wideQ k fun i => p2.getD i 0)).map IV) 11 = none := fzD_none (by omega) (by omega)
        have g41 : fzD ba ((List.range n).map fun i => ivl (rowF n (wideP k (at2 G) i))) bb ((rowF n (wideQ k fun i => p2.getD i 0)).map IV) 41 = none := fzD_none (by omega) (by omega)
        have g62 : fzD ba ((List.range n).map fun i => ivl (rowF n (wideP k (at2 G) i))) bb ((rowF n (wideQ k fun i => p2.getD i 0)).map IV) 62 = none := fzD_none (by omega) (by omega)
        have g12 : fzD ba ((List.range n).map fun i => ivl (rowF n (wideP k (at2 G) i))) bb ((rowF n (wideQ k fun i => p2.getD i 0)).map IV) (nx + 12) = none := fzD_none (by omega) (by omega)
        have g13 : fzD ba ((List.range n).map fun i => ivl (rowF n (wideP k (at2 G) i))) bb ((rowF n (wideQ k fun i => p2.getD i 0)).map IV) (nx + 13) = none := fzD_none (by omega) (by omega)
        simp -dsimp -implicitDefEqProofs (disch := (first | assumption | omega | (simp only [zE] <;> omega) | (apply isPure_intro <;> simp))) only [go_sem, g11, g41, g62, g12, g13]
        first | refine callB_of (d4) (by simp) ?_ | refine callP_of (d4) (by simp) ?_
        simp -dsimp -implicitDefEqProofs (disch := (first | assumption | omega | (simp only [zE] <;> omega) | (apply isPure_intro <;> simp))) only [go_sem]
  · simp -dsimp -implicitDefEqProofs (disch := (first | assumption | omega | (simp only [zE] <;> omega) | (apply isPure_intro <;> simp))) only [go_sem, hml, hml2, en]
end Go.Gim

import Derived.Test.YtjmbcnfhonfpkaaGreatDoorGC
import Derived.Test.YtjmbcnfhonfpkaaGreatDoorL1
set_option linter.unusedSimpArgs false
set_option linter.unusedVariables false
/- The codec: how many values, and what is wrong with a measurement. -/
set_option maxRecDepth 100000
namespace Go.Gim
open Go.Proofs
attribute [local go_sem] IntWalk.i64_in wu64 wu32 wu8 Nat.mod_eq_of_lt shr32 shr63 shl32 or32 quo64 quo32 zeh remk zcb zca zdc zdb zbx Nat.add_assoc zat lt_ne gt_ne zc7 dlt_t dlt_f dle_t dle_f deq_t deq_f zbq zec zeb za9 zbc za8 zay zcc zcf zcg zcx zag List.length_set ge_iff_le gt_iff_lt Int.toNat_natCast zb5 zcy zb6 zc0 zcz zb9 zbt zev zbv zbw zc6
def cints (l : List Int) : List V := l.map fun (x : Int) => .int .i64 x
theorem zan (l) : (cints l).length = l.length := by simp [cints]
theorem cints_at {l : List Int} {i : Nat} (h : i < l.length) : (cints l)[i]? = some (.int .i64 (l.getD i 0)) := by simp [cints, h, List.getD_eq_getElem?_getD]
theorem zak {l : List Int} {dr : Bool} {nx : Nat} {H : Hp} {k : IntKind} {j : Int} {Kn : V → Prop} {u : Dep Kn} (h0 : 0 ≤ j) (h1 : j < l.length) : idxB dr nx H 1 (.sl (cints l)) (.int k j) Kn u = Kn (.pp (.int .i64 (l.getD j.toNat 0))) := by
 have e : (cints l)[j.toNat]? = some (.int .i64 (l.getD j.toNat 0)) := cints_at (by omega)
 refine propext ⟨fun ⟨_, v, h2, h3, h4⟩ => ?_, fun h => idxB_sl h0 e rfl h⟩
 rw [e] at h2; cases h2; exact h4
def MV (k a s : Int) (v : List Int) : V := .agg [.int .i64 k, .int .i64 a, .int .i64 s, .sl (cints v)]
@[simp] theorem MV_pure (k a s v) : (MV k a s v).Pure := by simp [MV]
theorem za7 (k a s v) : (MV k a s v).cells = [.int .i64 k, .int .i64 a, .int .i64 s, .sl (cints v)] := rfl
theorem za6 (k a s v) : (MV k a s v).isAgg = true := rfl
@[simp] theorem zap (k a s v) : (MV k a s v).isJunk = false := rfl
theorem zby (k a s v) : V.part (MV k a s v) 0 4 true = some (MV k a s v) := rfl
def ccnt (k : Int) : Nat := if k = 1 ∨ k = 2 then 6 else if k = 3 then 1 else if k = 4 then 3 else 0
def cbad (x : Int) : Prop := x < -2147483647 ∨ 2147483647 < x
instance (x) : Decidable (cbad x) := by unfold cbad; infer_instance
def rightE (k a s : Int) (v : List Int) : Int := if ccnt k = 0 then 120 else if v.length ≠ ccnt k then 121 else if a < 0 ∨ 4294967296 ≤ a ∨ s < 0 ∨ 65536 ≤ s then 122 else if ∃ x ∈ v, cbad x then 122 else 0
theorem count_ret (k : Int) : Ret pg zgp [.int .i64 k] (.int .i64 (ccnt k)) := by
 refine codec_Count.of rfl (W_b ?_)
 unfold codec_Count.k codec_Count.res Ot kp Og Om Ol Oc ci
 by_cases h1 : k < 0
 ·have : ccnt k = 0 := by unfold ccnt; repeat (rw [if_neg (by omega)])
  simp -dsimp -implicitDefEqProofs (disch := try exact zdL) only [go_sem, this]
  rfl
 ·by_cases h2 : 5 ≤ k
  ·have : ccnt k = 0 := by unfold ccnt; repeat (rw [if_neg (by omega)])
   simp -dsimp -implicitDefEqProofs (disch := try exact zdL) only [go_sem, this]
   rfl
  ·have : k = 0 ∨ k = 1 ∨ k = 2 ∨ k = 3 ∨ k = 4 := by omega
   rcases this with rfl | rfl | rfl | rfl | rfl
   ·simp -dsimp -implicitDefEqProofs (disch := try exact zdL) only [go_sem]
    refine ⟨.pp (.int .i64 0), rfl, ?_⟩
    simp -dsimp -implicitDefEqProofs (disch := try exact zdL) only [go_sem]
    rfl
   ·simp -dsimp -implicitDefEqProofs (disch := try exact zdL) only [go_sem]
    refine ⟨.pp (.int .i64 6), rfl, ?_⟩
    simp -dsimp -implicitDefEqProofs (disch := try exact zdL) only [go_sem]
    rfl
   ·simp -dsimp -implicitDefEqProofs (disch := try exact zdL) only [go_sem]
    refine ⟨.pp (.int .i64 6), rfl, ?_⟩
    simp -dsimp -implicitDefEqProofs (disch := try exact zdL) only [go_sem]
    rfl
   ·simp -dsimp -implicitDefEqProofs (disch := try exact zdL) only [go_sem]
    refine ⟨.pp (.int .i64 1), rfl, ?_⟩
    simp -dsimp -implicitDefEqProofs (disch := try exact zdL) only [go_sem]
    rfl
   ·simp -dsimp -implicitDefEqProofs (disch := try exact zdL) only [go_sem]
    refine ⟨.pp (.int .i64 3), rfl, ?_⟩
    simp -dsimp -implicitDefEqProofs (disch := try exact zdL) only [go_sem]
    rfl
theorem ctake_getD {l : List Int} {i : Nat} (h : i < l.length) : l.take (i + 1) = l.take i ++ [l.getD i 0] := by rw [List.take_add_one]; simp [List.getD_eq_getElem?_getD, h]
set_option maxHeartbeats 1000000 in
theorem cright_ret (k a s : Int) (v : List Int) (hl : v.length ≤ 9223372036854775807) : Ret pg n_codec_right [MV k a s v] (.int .i64 (rightE k a s v)) := by
 refine codec_right.of rfl (W_b ?_)
 unfold codec_right.k codec_right.res Ot kp kd Og Om Ol Oq Oi Oc On ci rightE
 have hc := count_ret k
 simp -dsimp -implicitDefEqProofs (disch := try exact zdL) only [go_sem, za7, za6, zap, zby, zan, zak]
 refine zab hc (by simp) ?_
 by_cases h0 : ccnt k = 0
 ·simp -dsimp -implicitDefEqProofs (disch := try exact zdL) only [go_sem, za7, za6, zap, zby, zan, zak, h0]
 ·rw [if_neg h0]
  simp -dsimp -implicitDefEqProofs (disch := try exact zdL) only [go_sem, za7, za6, zap, zby, zan, zak, h0]
  refine zaa hc (by simp) ?_
  by_cases h1 : v.length = ccnt k
  ·rw [if_neg (by simpa using h1)]
   by_cases h2 : a < 0 ∨ 4294967296 ≤ a ∨ s < 0 ∨ 65536 ≤ s
   ·rw [if_pos h2]
    by_cases ha : a < 0
    ·simp -dsimp -implicitDefEqProofs (disch := try exact zdL) only [go_sem, za7, za6, zap, zby, zan, zak]
    ·by_cases ha2 : 4294967296 ≤ a
     ·simp -dsimp -implicitDefEqProofs (disch := try exact zdL) only [go_sem, za7, za6, zap, zby, zan, zak]
     ·by_cases hs : s < 0
      ·simp -dsimp -implicitDefEqProofs (disch := try exact zdL) only [go_sem, za7, za6, zap, zby, zan, zak]
      ·simp -dsimp -implicitDefEqProofs (disch := try exact zdL) only [go_sem, za7, za6, zap, zby, zan, zak]
   ·rw [if_neg h2]
    simp -dsimp -implicitDefEqProofs (disch := try exact zdL) only [go_sem, za7, za6, zap, zby, zan, zak]
    refine za1 (T := Nat × Nat) (fun t => ⟨E [(38, .sl (cints v)), (39, .int .i64 v.length), (40, .int .i64 t.1)], fun _ => none, t.2, t.2⟩) (fun t => t.1 ≤ v.length ∧ ∀ x ∈ v.take t.1, ¬ cbad x) (fun t => v.length - t.1) (0, _) rfl ⟨zdo, by simp⟩ ?_
    rintro ⟨i, nx⟩ ⟨i1, i2⟩
    dsimp only at i1 i2
    by_cases hi : i < v.length
    ·have hm : v.getD i 0 ∈ v := by simp [List.getD_eq_getElem?_getD, hi]
     have ht := ctake_getD hi
     generalize hX : v.getD i 0 = x at *
     by_cases hb : cbad x
     ·rw [if_pos ⟨x, hm, hb⟩]
      rcases hb with hb | hb
      ·simp -dsimp -implicitDefEqProofs (disch := try exact zdL) only [go_sem, za7, za6, zap, zby, zan, zak, hX]
      ·simp -dsimp -implicitDefEqProofs (disch := try exact zdL) only [go_sem, za7, za6, zap, zby, zan, zak, hX]
     ·have hb' : ¬ (x < -2147483647 ∨ 2147483647 < x) := hb
      simp -dsimp -implicitDefEqProofs (disch := try exact zdL) only [go_sem, za7, za6, zap, zby, zan, zak, hX]
      refine ⟨(i + 1, _), rfl, ⟨zdo, fun y hy => ?_⟩, zdo⟩
      dsimp only at hy
      rw [ht] at hy
      rcases List.mem_append.1 hy with hy | hy
      ·exact i2 y hy
      ·simp at hy; subst hy; exact hb
    ·rw [List.take_of_length_le (by omega)] at i2
     rw [if_neg (fun ⟨x, h1, h2⟩ => i2 x h1 h2)]
     simp -dsimp -implicitDefEqProofs (disch := try exact zdL) only [go_sem, za7, za6, zap, zby, zan, zak]
  ·rw [if_pos h1]
   simp -dsimp -implicitDefEqProofs (disch := try exact zdL) only [go_sem, za7, za6, zap, zby, zan, zak]
end Go.Gim
/- The codec: bytes, and a measurement's. -/
set_option maxRecDepth 100000
namespace Go.Gim
open Go.Proofs
attribute [local go_sem] IntWalk.i64_in wu64 wu32 wu8 Nat.mod_eq_of_lt shr32 shr63 shl32 or32 quo64 quo32 zeh remk zcb zca zdc zdb zbx Nat.add_assoc zat lt_ne gt_ne zc7 dlt_t dlt_f dle_t dle_f deq_t deq_f zbq zec zeb za9 zbc za8 zay zcc zcf zcg zcx zag List.length_set ge_iff_le gt_iff_lt Int.toNat_natCast zb5 zcy zb6 zc0 zcz zb9 zbt zev zbv zbw zc6
def cbyt (n : Int) (i : Nat) : Nat := (n / 2 ^ (8 * i) % 256).toNat
def cbytL (n : Int) : Nat → List Nat
 | 0 => []
 | j + 1 => cbyt n j :: cbytL n j
theorem cbytL_len (n j) : (cbytL n j).length = j := by induction j with | zero => rfl | succ j ih => simp [cbytL, ih]
theorem cbyt_lt (n i) : cbyt n i < 256 := by unfold cbyt; omega
theorem cwrap_u8' (n : Int) : IntKind.u8.wrap n = ((n % 256).toNat : Int) := by rw [IntKind.wrap_u8]; omega
theorem cnats_app2 {k : IntKind} {l : List Nat} {m : Nat} {e : V} (h : e = .int k (m : Int)) : nats k l ++ [e] = nats k (l ++ [m]) := by subst h; simp [nats]
theorem cshrB (n : Int) {i : Nat} (h : i ≤ 7) : zdt .shr .i64 n (8 * (i : Int)) = some (.int .i64 (n / 2 ^ (8 * i))) := by
 have e : min (8 * (i : Int)).toNat IntKind.i64.bits = 8 * i := by
  have : IntKind.i64.bits = 64 := rfl
  omega
 simp only [zdt]
 rw [if_neg (by omega), e, Int.fdiv_eq_ediv_of_nonneg _ (Int.pow_nonneg (by decide))]
theorem cbytes_G (v : V) (ahead : List Nat) (n : Int) (many : Nat) (H : Hp) (n0 : Nat) (hv : Row 0 H n0 v 1 (nats .u8 ahead)) (hl : ahead.length ≤ 1099511627776) (hm : many ≤ 7) :
  ∃ r H' n', (Row 0 H' n' r 1 (nats .u8 (ahead ++ cbytL n many)) ∧ n0 ≤ n' ∧ ∀ b, b < n0 → (∀ k, v ≠ .own b k) → H' b = H b) ∧ RetG pg zfj [v, .int .i64 n, .int .i64 many] H n0 r H' n' := by
 refine codec_bytes.ofG rfl (W_b ?_)
 unfold codec_bytes.k codec_bytes.res Ot kp Om ci
 simp -dsimp -implicitDefEqProofs (disch := try exact zdL) only [go_sem]
 refine za1 (T := Nat × V × Hp × Nat × List Nat) (fun t => ⟨E [(0, t.2.1), (1, .int .i64 n), (7, .int .i64 ((t.1 : Int) - 1))], t.2.2.1, t.2.2.2.1, t.2.2.2.1⟩)
  (fun t => t.1 ≤ many ∧ n0 ≤ t.2.2.2.1 ∧ t.2.2.2.2.length + t.1 = ahead.length + many ∧ Row 0 t.2.2.1 t.2.2.2.1 t.2.1 1 (nats .u8 t.2.2.2.2) ∧ t.2.2.2.2 ++ cbytL n t.1 = ahead ++ cbytL n many ∧ ∀ b, b < n0 → (∀ k, v ≠ .own b k) → (∀ k, t.2.1 ≠ .own b k) ∧ t.2.2.1 b = H b) (fun t => t.1) (many, v, H, _, ahead) rfl ⟨Nat.le_refl _, zdo, rfl, hv.same (fun _ _ => rfl) zdo, rfl, fun b _ h => ⟨h, rfl⟩⟩ ?_
 rintro ⟨j, w, H1, nx, ds⟩ ⟨i0, i1, i2, i3, i4, i5⟩
 dsimp only at i0 i1 i2 i3 i4 i5
 by_cases hj : j = 0
 ·subst hj
  rw [cbytL, List.append_nil] at i4
  subst i4
  simp -dsimp -implicitDefEqProofs (disch := try exact zdL) only [go_sem]
  exact ⟨_, rfl, zdo, i3.same (fun _ _ => rfl) zdo, zdo, fun b h1 h2 => (i5 b h1 h2).2⟩
 ·obtain ⟨m, rfl⟩ : ∃ m, j = m + 1 := ⟨j - 1, by omega⟩
  have e1 := cshrB n (i := m) (by omega)
  have e2 : IntKind.u8.wrap (n / 2 ^ (8 * m)) = (cbyt n m : Int) := cwrap_u8' _
  have e3 := cbyt_lt n m
  rw [cbytL] at i4
  generalize cbyt n m = y at *
  simp -dsimp -implicitDefEqProofs (disch := try exact zdL) only [go_sem, Nat.add_sub_cancel, e1, e2]
  refine zf7 (lo := 0) (nx := nx) (H0 := H1) (xs := nats .u8 ds) i3 (by omega) rfl (by omega) (by omega) (by simp [rowOk, V.isJunk, V.cells, V.cellOk]) (by decide) (by simp [zag]; omega) (by simp [zag]; omega) fun v2 H2 r1 r2 r3 _ => ?_
  rw [cnats_app2 rfl] at r1
  simp -dsimp -implicitDefEqProofs (disch := try exact zdL) only [go_sem]
  refine ⟨(m, v2, H2, _, ds ++ [y]), rfl, ⟨zdo, zdo, by simp; omega, r1.same (fun _ _ => rfl) zdo, by rw [List.append_assoc]; exact i4, fun b h1 h2 => ⟨fun k h3 => ?_, ?_⟩⟩, zdo⟩
  ·have := r2 b k h3; omega
  ·dsimp only
   rw [r3 b (by omega) (i5 b h1 h2).1]; exact (i5 b h1 h2).2
end Go.Gim
/- The codec: a measurement's bytes. -/
set_option maxRecDepth 100000
namespace Go.Gim
open Go.Proofs
attribute [local go_sem] IntWalk.i64_in wu64 wu32 wu8 Nat.mod_eq_of_lt shr32 shr63 shl32 or32 quo64 quo32 zeh remk zcb zca zdc zdb zbx Nat.add_assoc zat lt_ne gt_ne zc7 dlt_t dlt_f dle_t dle_f deq_t deq_f zbq zec zeb za9 zbc za8 zay zcc zcf zcg zcx zag List.length_set ge_iff_le gt_iff_lt Int.toNat_natCast zb5 zcy zb6 zc0 zcz zb9 zbt zev zbv zbw zc6
def cbstr (l : List Nat) : ByteArray := ⟨(l.map UInt8.ofNat).toArray⟩
def cencL (a s : Int) (v : List Int) : List Nat := cbytL a 4 ++ cbytL s 2 ++ (v.map (cbytL · 4)).flatten
def encV (k a s : Int) (v : List Int) : V := if rightE k a s v = 0 then .tup [.int .u8 k, .str (cbstr (cencL a s v)), .int .i64 0] else .tup [.int .u8 0, .str ⟨#[]⟩, .int .i64 (rightE k a s v)]
theorem cright_ok {k a s : Int} {v : List Int} (h : rightE k a s v = 0) : (1 ≤ k ∧ k ≤ 4) ∧ v.length = ccnt k ∧ v.length ≤ 6 ∧ (0 ≤ a ∧ a < 4294967296) ∧ (0 ≤ s ∧ s < 65536) ∧ ∀ x ∈ v, ¬ cbad x := by
 unfold rightE at h
 split at h
 ·cases h
 ·rename_i h0
  split at h
  ·cases h
  ·rename_i h1
   split at h
   ·cases h
   ·rename_i h2
    split at h
    ·cases h
    ·rename_i h3
     have h1 : v.length = ccnt k := by simpa using h1
     refine ⟨?_, h1, ?_, by omega, by omega, fun x hx hb => h3 ⟨x, hx, hb⟩⟩
     ·have hk := h0
      unfold ccnt at hk
      by_cases a1 : k = 1 ∨ k = 2
      ·omega
      ·by_cases a3 : k = 3
       ·omega
       ·by_cases a4 : k = 4
        ·omega
        ·simp [a1, a3, a4] at hk
     ·rw [h1]; unfold ccnt; repeat' split
      all_goals omega
theorem faP0 (k a s v) : redV (.faP 0 1 false) [.pp (MV k a s v)] = some (.pp (.int .i64 k)) := rfl
theorem faP1 (k a s v) : redV (.faP 1 1 false) [.pp (MV k a s v)] = some (.pp (.int .i64 a)) := rfl
theorem faP2 (k a s v) : redV (.faP 2 1 false) [.pp (MV k a s v)] = some (.pp (.int .i64 s)) := rfl
theorem ldPi (k n) : redV (.ldP 1 false) [.pp (.int k n)] = some (.int k n) := rfl
theorem encode_ret (k a s : Int) (v : List Int) (hl : v.length ≤ 9223372036854775807) : Ret pg zh0 [MV k a s v] (encV k a s v) := by
 refine codec_Encode.of rfl (W_b ?_)
 unfold codec_Encode.k codec_Encode.res Ot kp kd Om Ol OL Oq Oi Oc On ci encV
 have hr := cright_ret k a s v hl
 simp -dsimp -implicitDefEqProofs (disch := try exact zdL) only [go_sem, za7, za6, zap, zby, zan, zak]
 refine zab hr (by simp) ?_
 by_cases h0 : rightE k a s v = 0
 ·rw [if_pos h0]
  obtain ⟨g1, g2, g3, g4, g5, g6⟩ := cright_ok h0
  simp -dsimp -implicitDefEqProofs (disch := try exact zdL) only [go_sem, za7, za6, zap, zby, zan, zak, h0, faP0, faP1, faP2, ldPi]
  refine Exists.elim (cbytes_G .nil [] a 4 (fun _ => none) _ (Row.nil _ _ _ _) (by simp) (by omega)) fun r1 hr => Exists.elim hr fun H1 hr => Exists.elim hr fun n1 hr => zd3 hr.2 ?_
  obtain ⟨⟨p1, p2, _⟩, _⟩ := hr
  clear hr
  simp -dsimp -implicitDefEqProofs (disch := try exact zdL) only [go_sem, za7, za6, zap, zby, zan, zak, h0, faP0, faP1, faP2, ldPi]
  refine Exists.elim (cbytes_G r1 _ s 2 H1 _ (p1.same (fun _ _ => rfl) (by omega)) (by simp [cbytL_len]) (by omega)) fun r2 hr => Exists.elim hr fun H2 hr => Exists.elim hr fun n2 hr => zd3 hr.2 ?_
  obtain ⟨⟨p3, p4, _⟩, _⟩ := hr
  clear hr
  simp -dsimp -implicitDefEqProofs (disch := try exact zdL) only [go_sem, za7, za6, zap, zby, zan, zak, h0, faP0, faP1, faP2, ldPi]
  refine za1 (T := Nat × V × Hp × Nat) (fun t => ⟨E [(1, .pp (MV k a s v)), (6, t.2.1), (21, .sl (cints v)), (22, .int .i64 v.length), (23, .int .i64 t.1)], t.2.2.1, t.2.2.2, t.2.2.2⟩)
   (fun t => t.1 ≤ v.length ∧ Row 0 t.2.2.1 t.2.2.2 t.2.1 1 (nats .u8 (cbytL a 4 ++ cbytL s 2 ++ ((v.take t.1).map (cbytL · 4)).flatten))) (fun t => v.length - t.1) (0, r2, H2, _) rfl ⟨zdo, by simpa using p3.same (fun _ _ => rfl) (by omega)⟩ ?_
  rintro ⟨i, w, H, nx⟩ ⟨i1, i2⟩
  dsimp only at i1 i2
  have hlen : ∀ u : List Int, ((u.map (cbytL · 4)).flatten).length = 4 * u.length := fun u => by
   induction u with
   | nil => rfl
   | cons x u ih => simp [cbytL_len, ih]; omega
  have hlt : (v.take i).length ≤ v.length := by simp; omega
  by_cases hi : i < v.length
  ·have ht := ctake_getD hi
   generalize hX : v.getD i 0 = x at *
   simp -dsimp -implicitDefEqProofs (disch := try exact zdL) only [go_sem, za7, za6, zap, zby, zan, zak, hX]
   refine Exists.elim (cbytes_G w _ x 4 H _ (i2.same (fun _ _ => rfl) (by omega)) (by simp only [List.length_append, cbytL_len, hlen]; omega) (by omega)) fun r3 hr => Exists.elim hr fun H3 hr => Exists.elim hr fun n3 hr => zd3 hr.2 ?_
   obtain ⟨⟨p5, p6, _⟩, _⟩ := hr
   clear hr
   simp -dsimp -implicitDefEqProofs (disch := try exact zdL) only [go_sem, za7, za6, zap, zby, zan, zak, hX]
   refine ⟨(i + 1, r3, H3, _), rfl, ⟨zdo, ?_⟩, zdo⟩
   dsimp only
   rw [ht, List.map_append, List.flatten_append, ← List.append_assoc]
   simpa using p5.same (fun _ _ => rfl) (by omega)
  ·rw [List.take_of_length_le (by omega)] at i2
   have e8 : IntKind.u8.wrap k = k := by rw [IntKind.wrap_u8]; omega
   simp -dsimp -implicitDefEqProofs (disch := try exact zdL) only [go_sem, za7, za6, zap, zby, zan, zak, faP0, ldPi, e8]
   refine effB_of (effV_b2s i2.slOf) ?_
   simp -dsimp -implicitDefEqProofs (disch := try exact zdL) only [go_sem, za7, za6, zap, zby, zan, zak, e8]
   rfl
 ·rw [if_neg h0]
  simp -dsimp -implicitDefEqProofs (disch := try exact zdL) only [go_sem, za7, za6, zap, zby, zan, zak, h0]
end Go.Gim

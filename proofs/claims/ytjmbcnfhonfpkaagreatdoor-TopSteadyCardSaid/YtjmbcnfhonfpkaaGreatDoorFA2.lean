import Derived.Test.YtjmbcnfhonfpkaaGreatDoorGG
import Derived.Test.YtjmbcnfhonfpkaaGreatDoorB2
set_option linter.unusedSimpArgs false
set_option linter.unusedVariables false
/- Rows: whether a row may be, what it lacks. -/
set_option maxRecDepth 100000
namespace Go.Gim
open Go.Proofs
def outB (n low top : Int) : Bool := decide (n < low) || decide (top < n)
theorem outB_f {n low top : Int} : outB n low top = false ↔ low ≤ n ∧ n ≤ top := by simp [outB]
theorem out_ret (n low top : Int) : Ret pg zew [.int .i64 n, .int .i64 low, .int .i64 top] (.bool (outB n low top)) := by
 refine factor_out.of rfl (W_b ?_)
 unfold factor_out.k factor_out.res Ot kp Og Om outB
 by_cases h : n < low
 ·simp -dsimp -implicitDefEqProofs (disch := try exact zdL) only [go_sem, IntWalk.i64_in, wu64, wu32, wu8, Nat.mod_eq_of_lt, shr32, shr63, shl32, or32, quo64, quo32, zeh, remk, zcb, zca, zdc, zdb, zbx, Nat.add_assoc, zat, lt_ne, gt_ne, zc7, dlt_t, dlt_f, dle_t, dle_f, deq_t, deq_f, zbq, zec, zeb, za9, zbc, za8, zay, zcc, zcf, zcg, zcx, zag, List.length_set, ge_iff_le, gt_iff_lt, Int.toNat_natCast, zb5, zcy, zb6, zc0, zcz, zb9, zbt, zev, zbv, zbw, zc6, decide_eq_true h, Bool.true_or]
 ·simp -dsimp -implicitDefEqProofs (disch := try exact zdL) only [go_sem, IntWalk.i64_in, wu64, wu32, wu8, Nat.mod_eq_of_lt, shr32, shr63, shl32, or32, quo64, quo32, zeh, remk, zcb, zca, zdc, zdb, zbx, Nat.add_assoc, zat, lt_ne, gt_ne, zc7, dlt_t, dlt_f, dle_t, dle_f, deq_t, deq_f, zbq, zec, zeb, za9, zbc, za8, zay, zcc, zcf, zcg, zcx, zag, List.length_set, ge_iff_le, gt_iff_lt, Int.toNat_natCast, zb5, zcy, zb6, zc0, zcz, zb9, zbt, zev, zbv, zbw, zc6, decide_eq_false h, Bool.false_or]
structure Row4 where
 co : List Int
 z : Int
 kn : Int
 w : Int
 deriving Inhabited, DecidableEq
def RV (r : Row4) : V := .agg [ints r.co, .int .i64 r.z, .int .i64 r.kn, .int .i64 r.w]
@[simp] theorem RV_pure (r) : (RV r).Pure := by simp [RV]
theorem sub_RV (g : Nat → Option (List V)) (r) : V.sub g (RV r) = RV r := zct _ (RV_pure r)
@[go_sem] theorem msub_RV (g) (l : List Row4) : (l.map RV).map (V.sub g) = l.map RV := msub sub_RV g l
attribute [go_sem] sub_RV
theorem RV_cells (r) : (RV r).cells = [ints r.co, .int .i64 r.z, .int .i64 r.kn, .int .i64 r.w] := rfl
theorem RV_isAgg (r) : (RV r).isAgg = true := rfl
@[simp] theorem RV_isJunk (r) : (RV r).isJunk = false := rfl
theorem part_RV (r) : V.part (RV r) 0 4 true = some (RV r) := rfl
theorem idxB_RV {l : List Row4} {dr : Bool} {nx : Nat} {H : Hp} {k : IntKind} {j : Int} {Kn : V → Prop} {u : Dep Kn} (h0 : 0 ≤ j) (h1 : j < l.length) :
  idxB dr nx H 4 (.sl (l.map RV)) (.int k j) Kn u = Kn (.pp (RV (l.getD j.toNat default))) := zgs (f := RV) default (fun _ => rfl) h0 h1
attribute [go_sem] RV_cells RV_isAgg RV_isJunk part_RV idxB_RV
def rightB (r : Row4) (n : Int) : Bool := decide ((r.co.length : Int) = n) && decide (n ≤ 11) && !outB r.z (-1000000000) 1000000000 && !outB r.kn 1 32768 && !outB r.w 1 100 && r.co.all (fun a => !outB a (-1000) 1000)
structure Right4 (r : Row4) (n : Nat) : Prop where
 len : r.co.length = n
 le : n ≤ 11
 z : -1000000000 ≤ r.z ∧ r.z ≤ 1000000000
 kn : 1 ≤ r.kn ∧ r.kn ≤ 32768
 w : 1 ≤ r.w ∧ r.w ≤ 100
 co : ∀ a ∈ r.co, -1000 ≤ a ∧ a ≤ 1000
theorem rightB_iff {r : Row4} {n : Nat} : rightB r n = true ↔ Right4 r n := by
 unfold rightB
 simp only [Bool.and_eq_true, decide_eq_true_eq, Bool.not_eq_true', outB_f, List.all_eq_true]
 exact ⟨fun ⟨⟨⟨⟨⟨a, b⟩, c⟩, d⟩, e⟩, f⟩ => ⟨by omega, by omega, c, d, e, f⟩, fun h => ⟨⟨⟨⟨⟨by have := h.len; omega, by have := h.le; omega⟩, h.z⟩, h.kn⟩, h.w⟩, h.co⟩⟩
set_option maxHeartbeats 1000000 in
theorem right_ret (r : Row4) (n : Int) (hl : r.co.length ≤ 9223372036854775807) : Ret pg zhz [RV r, .int .i64 n] (.bool (rightB r n)) := by
 refine factor_Right.of rfl (W_b ?_)
 unfold factor_Right.k factor_Right.res Ot kp Og Om Ol Oq Oi Oc On ci rightB
 by_cases h1 : (r.co.length : Int) = n
 ·by_cases h2 : n ≤ 11
  ·refine sgo ?_
   refine zab (out_ret _ _ _) (by simp) ?_
   cases hz : outB r.z (-1000000000) 1000000000
   ·refine sgo ?_
    refine zab (out_ret _ _ _) (by simp) ?_
    cases hk : outB r.kn 1 32768
    ·refine sgo ?_
     refine zab (out_ret _ _ _) (by simp) ?_
     cases hw : outB r.w 1 100
     ·refine sgo ?_
      refine za1 (T := Nat × Nat) (fun t => ⟨E [(32, ints r.co), (33, .int .i64 r.co.length), (34, .int .i64 t.1)], fun _ => none, t.2, t.2⟩) (fun t => t.1 ≤ r.co.length ∧ ∀ x ∈ r.co.take t.1, outB x (-1000) 1000 = false) (fun t => r.co.length - t.1) (0, _) rfl ⟨zdo, by simp⟩ ?_
      rintro ⟨i, nx⟩ ⟨i1, i2⟩
      dsimp only at i1 i2
      by_cases hi : i < r.co.length
      ·have hm := zaz 0 hi
       have ht := zef 0 hi
       generalize hX : r.co.getD i 0 = x at *
       simp -dsimp -implicitDefEqProofs (disch := try exact zdE) only [go_sem, hX]
       refine zab (out_ret _ _ _) (by simp) ?_
       cases hb : outB x (-1000) 1000
       ·simp -dsimp -implicitDefEqProofs (disch := try exact zdE) only [go_sem, hX]
        refine ⟨(i + 1, _), rfl, ⟨zdo, fun y hy => ?_⟩, zdo⟩
        dsimp only at hy
        rw [ht] at hy
        rcases List.mem_append.1 hy with hy | hy
        ·exact i2 y hy
        ·simp at hy; subst hy; exact hb
       ·have hall : (r.co.all fun a => !outB a (-1000) 1000) = false := List.all_eq_false.2 ⟨x, hm, by simp [hb]⟩
        rw [hall]
        exact sgo trivial
      ·rw [List.take_of_length_le (by omega)] at i2
       have hall : (r.co.all fun a => !outB a (-1000) 1000) = true := List.all_eq_true.2 fun x hx => by simp [i2 x hx]
       rw [hall]
       exact sgo trivial
     ·refine sgo ?_
      simp
    ·refine sgo ?_
     simp
   ·refine sgo ?_
    simp
  ·refine sgo ?_
   simp [h2]
 ·refine sgo ?_
  simp [h1]
end Go.Gim
/- Rows: what they lack. -/
set_option maxRecDepth 100000
namespace Go.Gim
open Go.Proofs
def dotN (a x : List Int) : Nat → Int
 | 0 => 0
 | n + 1 => dotN a x n + a.getD n 0 * x.getD n 0
def rawR (r : Row4) (x : List Int) : Int := -r.z + dotN r.co x r.co.length
def zdx (r : Row4) (x : List Int) : Int := max (-1000000000) (min (rawR r x) 1000000000)
theorem residR_bd (r x) : -1000000000 ≤ zdx r x ∧ zdx r x ≤ 1000000000 := by unfold zdx; omega
def State (x : List Int) : Prop := ∀ v ∈ x, -1000000 ≤ v ∧ v ≤ 1000000
theorem State.get {x : List Int} (h : State x) (i : Nat) : -1000000 ≤ x.getD i 0 ∧ x.getD i 0 ≤ 1000000 := by
 by_cases hi : i < x.length
 ·exact h _ (zaz 0 hi)
 ·simp [List.getD_eq_getElem?_getD, List.getElem?_eq_none (Nat.le_of_not_lt hi)]
theorem Right4.get {r : Row4} {n : Nat} (h : Right4 r n) (i : Nat) : -1000 ≤ r.co.getD i 0 ∧ r.co.getD i 0 ≤ 1000 := by
 by_cases hi : i < r.co.length
 ·exact h.co _ (zaz 0 hi)
 ·simp [List.getD_eq_getElem?_getD, List.getElem?_eq_none (Nat.le_of_not_lt hi)]
theorem zee {a b A B : Int} (ha : -A ≤ a ∧ a ≤ A) (hb : -B ≤ b ∧ b ≤ B) : -(A * B) ≤ a * b ∧ a * b ≤ A * B := by
 have h1 : (a * b).natAbs ≤ A.natAbs * B.natAbs := by
  rw [Int.natAbs_mul]
  exact Nat.mul_le_mul (by omega) (by omega)
 have h2 : A * B = ((A.natAbs * B.natAbs : Nat) : Int) := by
  rw [Int.natCast_mul, Int.natAbs_of_nonneg (by omega), Int.natAbs_of_nonneg (by omega)]
 omega
theorem dotN_bd {co x : List Int} (hc : ∀ i, -1000 ≤ co.getD i 0 ∧ co.getD i 0 ≤ 1000) (hx : ∀ i, -1000000 ≤ x.getD i 0 ∧ x.getD i 0 ≤ 1000000) : ∀ n : Nat, -(1000000000 * (n : Int)) ≤ dotN co x n ∧ dotN co x n ≤ 1000000000 * (n : Int)
 | 0 => by simp [dotN]
 | n + 1 => by
  have h1 := dotN_bd hc hx n
  have h2 := zee (hc n) (hx n)
  rw [dotN]
  omega
theorem resid_ret (r : Row4) (x : List Int) (hr : Right4 r x.length) (hx : State x) : Ret pg zdh [RV r, ints x] (.int .i64 (zdx r x)) := by
 have hz := hr.z
 have hn := hr.le
 have hl := hr.len
 have hb := dotN_bd hr.get hx.get
 refine factor_Residual.of rfl (W_b ?_)
 unfold factor_Residual.k factor_Residual.res Ot kp Om Ol Oq Oi Oc On ci
 refine sgo ?_
 refine za1 (T := Nat × Nat) (fun t => ⟨E [(1, ints x), (5, .int .i64 (-r.z + dotN r.co x t.1)), (12, ints r.co), (13, .int .i64 r.co.length), (14, .int .i64 t.1)], fun _ => none, t.2, t.2⟩) (fun t => t.1 ≤ r.co.length) (fun t => r.co.length - t.1) (0, _) (by simp [ints, dotN]; rfl) zdo ?_
 rintro ⟨i, nx⟩ i1
 dsimp only at i1
 by_cases hi : i < r.co.length
 ·have b1 := hb i
  have p1 := hr.get i
  have p2 := hx.get i
  have p3 := zee p1 p2
  have hs : dotN r.co x (i + 1) = dotN r.co x i + r.co.getD i 0 * x.getD i 0 := rfl
  generalize hX : r.co.getD i 0 = a at *
  generalize hY : x.getD i 0 = b at *
  generalize hM : a * b = m at *
  generalize dotN r.co x i = d at *
  simp -dsimp -implicitDefEqProofs (disch := try exact zdE) only [go_sem, hX, hY, hM]
  exact ⟨(i + 1, _), by dsimp only; rw [hs, Int.add_assoc], zdo, zdo⟩
 ·have he : i = r.co.length := by omega
  subst he
  refine sgo ?_
  simp [zdx, rawR]
end Go.Gim

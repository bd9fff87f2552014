import Derived.Test.YtjmbcnfhonfpkaaGreatDoorL1
import Derived.Test.YtjmbcnfhonfpkaaGreatDoorGC0
import Derived.RangeFuncNested
import Derived.RangeFuncBound
import Derived.RangeFuncCalls
import Derived.RangeFuncLeaves
import Derived.RangeFuncBox
import Derived.Shelf.Abstract
import Derived.WalkKit
import Derived.OwnWalkIn
import Derived.TacticsInMore
import Derived.LoopNIn
import Derived.LoopIn
import Derived.Test.YtjmbcnfhonfpkaaGreatDoorF19
import Derived.Still
import Derived.StillTactics
set_option linter.unusedSimpArgs false
set_option linter.unusedVariables false
/- A config, and its fields as data. -/
set_option maxRecDepth 100000
set_option maxHeartbeats 4000000
namespace Go.Gim
open Go.Proofs
structure Cfg where
 rate : Int
 step : Int
 keys : Int
 gap : Int
 turn : Int
 pull : Int
 k0 : Int
 k1 : Int
 k2 : Int
 k3 : Int
 w0 : Int
 w1 : Int
 w2 : Int
 w3 : Int
 rounds : Int
 raises : Int
 flat : Int
def CV (c : Cfg) : V := .agg [.int .i64 c.rate, .int .i64 c.step, .int .i64 c.keys, .int .i64 c.gap, .int .i64 c.turn, .int .i64 c.pull, .int .i64 c.k0, .int .i64 c.k1, .int .i64 c.k2, .int .i64 c.k3, .int .i64 c.w0, .int .i64 c.w1, .int .i64 c.w2, .int .i64 c.w3, .int .i64 c.rounds, .int .i64 c.raises, .int .i64 c.flat]
@[simp] theorem CV_pure (c) : (CV c).Pure := by simp [CV]
def fieldsV (c : Cfg) : List V := [.agg [.str ⟨#[82, 97, 116, 101]⟩, .sl [.pp (.int .i64 c.rate)], .int .i64 1, .int .i64 1000],
 .agg [.str ⟨#[83, 116, 101, 112]⟩, .sl [.pp (.int .i64 c.step)], .int .i64 1, .int .i64 1000],
 .agg [.str ⟨#[75, 101, 121, 115]⟩, .sl [.pp (.int .i64 c.keys)], .int .i64 2, .int .i64 5],
 .agg [.str ⟨#[71, 97, 112]⟩, .sl [.pp (.int .i64 c.gap)], .int .i64 1, .int .i64 1000],
 .agg [.str ⟨#[84, 117, 114, 110]⟩, .sl [.pp (.int .i64 c.turn)], .int .i64 1, .int .i64 4194304],
 .agg [.str ⟨#[80, 117, 108, 108]⟩, .sl [.pp (.int .i64 c.pull)], .int .i64 1, .int .i64 67108864],
 .agg [.str ⟨#[75, 110, 101, 101, 115]⟩, .sl [.pp (.int .i64 c.k0), .pp (.int .i64 c.k1), .pp (.int .i64 c.k2), .pp (.int .i64 c.k3)], .int .i64 1, .int .i64 32768],
 .agg [.str ⟨#[87, 101, 105, 103, 104, 116, 115]⟩, .sl [.pp (.int .i64 c.w0), .pp (.int .i64 c.w1), .pp (.int .i64 c.w2), .pp (.int .i64 c.w3)], .int .i64 1, .int .i64 100],
 .agg [.str ⟨#[82, 111, 117, 110, 100, 115]⟩, .sl [.pp (.int .i64 c.rounds)], .int .i64 1, .int .i64 30],
 .agg [.str ⟨#[82, 97, 105, 115, 101, 115]⟩, .sl [.pp (.int .i64 c.raises)], .int .i64 0, .int .i64 12],
 .agg [.str ⟨#[70, 108, 97, 116]⟩, .sl [.pp (.int .i64 c.flat)], .int .i64 0, .int .i64 1000000000]]
theorem one_ret (n : Int) : Ret pg zfx [.pp (.int .i64 n)] (.sl [.pp (.int .i64 n)]) := by
 refine config_fields_2.of rfl (W_b ?_)
 unfold config_fields_2.k config_fields_2.res Ot kp Om
 simp -dsimp -implicitDefEqProofs only [go_sem]
theorem four_ret (a b c d : Int) : Ret pg zfy [.pp (.agg [.int .i64 a, .int .i64 b, .int .i64 c, .int .i64 d])] (.sl [.pp (.int .i64 a), .pp (.int .i64 b), .pp (.int .i64 c), .pp (.int .i64 d)]) := by
 have h0 : redV (.aptr 4 1 false) [.pp (.agg [.int .i64 a, .int .i64 b, .int .i64 c, .int .i64 d]), .int .i64 0] = some (.pp (.int .i64 a)) := by simp [redV, V.part, V.cells, V.isAgg]
 have h1 : redV (.aptr 4 1 false) [.pp (.agg [.int .i64 a, .int .i64 b, .int .i64 c, .int .i64 d]), .int .i64 1] = some (.pp (.int .i64 b)) := by simp [redV, V.part, V.cells, V.isAgg]
 have h2 : redV (.aptr 4 1 false) [.pp (.agg [.int .i64 a, .int .i64 b, .int .i64 c, .int .i64 d]), .int .i64 2] = some (.pp (.int .i64 c)) := by simp [redV, V.part, V.cells, V.isAgg]
 have h3 : redV (.aptr 4 1 false) [.pp (.agg [.int .i64 a, .int .i64 b, .int .i64 c, .int .i64 d]), .int .i64 3] = some (.pp (.int .i64 d)) := by simp [redV, V.part, V.cells, V.isAgg]
 refine config_fields_1.of rfl (W_b ?_)
 unfold config_fields_1.k config_fields_1.res Ot kp kd Om ci
 simp -dsimp -implicitDefEqProofs only [go_sem, h0, h1, h2, h3]
 done
theorem fields_ret (c : Cfg) : Ret pg n_config_fields [.pp (CV c)] (.fn zd8 [.pp (.sl (fieldsV c))]) := by
 refine config_fields.of rfl (W_b ?_)
 unfold config_fields.k config_fields.res Ot kp kd Oy Om Oq ci CV
 simp -dsimp -implicitDefEqProofs only [go_sem]
 refine zaa (one_ret c.rate) (by simp) ?_
 simp -dsimp -implicitDefEqProofs only [go_sem]
 refine zaa (one_ret c.step) (by simp) ?_
 simp -dsimp -implicitDefEqProofs only [go_sem]
 refine zaa (one_ret c.keys) (by simp) ?_
 simp -dsimp -implicitDefEqProofs only [go_sem]
 refine zaa (one_ret c.gap) (by simp) ?_
 simp -dsimp -implicitDefEqProofs only [go_sem]
 refine zaa (one_ret c.turn) (by simp) ?_
 simp -dsimp -implicitDefEqProofs only [go_sem]
 refine zaa (one_ret c.pull) (by simp) ?_
 simp -dsimp -implicitDefEqProofs only [go_sem]
 refine zaa (four_ret c.k0 c.k1 c.k2 c.k3) (by simp) ?_
 simp -dsimp -implicitDefEqProofs only [go_sem]
 refine zaa (four_ret c.w0 c.w1 c.w2 c.w3) (by simp) ?_
 simp -dsimp -implicitDefEqProofs only [go_sem]
 refine zaa (one_ret c.rounds) (by simp) ?_
 simp -dsimp -implicitDefEqProofs only [go_sem]
 refine zaa (one_ret c.raises) (by simp) ?_
 simp -dsimp -implicitDefEqProofs only [go_sem]
 refine zaa (one_ret c.flat) (by simp) ?_
 simp -dsimp -implicitDefEqProofs only [go_sem]
 rfl
end Go.Gim
/- The iterator over a config's fields. -/
set_option maxRecDepth 100000
set_option maxHeartbeats 4000000
namespace Go.Gim
open Go.Proofs Go.RowKit Go.Shelf
attribute [local go_sem] Oper.semAt_some
theorem ntmps81 : Tryz.f115.ntmps = 16 := by kernel_rfl
theorem fields3_in (F : Fence) (n : Nat) (h81 : F.fn 115) (hro : F.round = none) (hn : 1 ≤ n) (l Bs oB n0 b off len cap : Nat) (s : Nat → ByteArray) (ad : Nat → Addr) (m cp : Nat → Nat) (lo hi : Nat → Int) (hlen : len ≤ 1000) (hb : b < n0) (J Jx : List Nat → World → Prop)
  {B0 : Nat} (hJ : AbidesFrom B0 J) (hY : ∀ pre x W, J pre W → pre.length < len → YieldAt F (n - 1) pg l #[.agg #[.string (s x), .slice (some (ad x)) (m x) (cp x), .int .i64 (lo x), .int .i64 (hi x)]] W fun e W' =>
   (e = .returned (.bool true) ∧ J (pre ++ [x]) W' ∧ Below n0 W W') ∨ (e = .returned (.bool false) ∧ Jx (pre ++ [x]) W'))
  (W : World) (hn0 : n0 ≤ W.heap.size) (hBs : W.cell? ⟨Bs, oB, none⟩ = some (.slice (some ⟨b, off, none⟩) len cap)) (hc : ∀ j, j < len → W.cell? ⟨b, off + j * 4, none⟩ = some (.string (s j)) ∧ W.cell? ⟨b, off + j * 4 + 1, none⟩ = some (.slice (some (ad j)) (m j) (cp j)) ∧ W.cell? ⟨b, off + j * 4 + 2, none⟩ = some (.int .i64 (lo j)) ∧ W.cell? ⟨b, off + j * 4 + 3, none⟩ = some (.int .i64 (hi j))) (h0 : J [] W) :
  CallsIn F n pg 115 #[.func (.yield l) #[] #[], .pointer (some ⟨Bs, oB, none⟩)] W fun e W' => (∃ v, e = .returned v) ∧
   ((∃ ys, ys = List.range len ∧ J ys W') ∨ (∃ pre, (∃ k, k ≤ len ∧ pre = List.range k) ∧ Jx pre W')) := by
 refine callsIn_of_wp Tryz.func115 rfl h81 ?_ hro
 simp only [ntmps81, List.size_toArray, List.length_cons, List.length_nil, Nat.reduceAdd, Nat.reduceSub, Array.replicate_succ, Array.replicate_zero, List.push_toArray, List.append_toArray, List.nil_append, List.cons_append]
 gi_wp2
 gi_loopw [7] (fun i wr => ∃ k : Nat, k ≤ len ∧ i = .int .i64 k ∧ J (List.range k) wr ∧ Below n0 W wr)
  (fun i _ => len - (intOf i).toNat)
 case atStart => exact ⟨0, Nat.zero_le _, rfl, h0, Below.refl _ _⟩
 case round =>
  obtain ⟨k, hk, rfl, hJs, hnx⟩ := hrel
  by_cases hlt : k < len
  ·obtain ⟨q0, q1, q2, q3⟩ := hc k hlt
   have c0 := (hnx.cell (p := ⟨b, off + k * 4, none⟩) hb).trans q0
   have c1 := (hnx.cell (p := ⟨b, off + k * 4 + 1, none⟩) hb).trans q1
   have c2 := (hnx.cell (p := ⟨b, off + k * 4 + 2, none⟩) hb).trans q2
   have c3 := (hnx.cell (p := ⟨b, off + k * 4 + 3, none⟩) hb).trans q3
   have hJ2 := hJ (List.range k) wr (wr.alloc (.cells #[.string (s k), .slice (some (ad k)) (m k) (cp k), .int .i64 (lo k), .int .i64 (hi k)] 159)) none hJs (World.grownBy_alloc wr _ none) (fun r e => by cases e)
   have hb2 : Below n0 wr (wr.alloc (.cells #[.string (s k), .slice (some (ad k)) (m k) (cp k), .int .i64 (lo k), .int .i64 (hi k)] 159)) := (Below.refl n0 wr).alloc (Nat.le_trans hn0 hnx.size) _
   obtain ⟨fn, tmps, assign, body, hy, hR⟩ := hY _ k _ hJ2 (by simp; omega)
   gi_wp2
   refine hR.mono ?_
   rintro e W3 (⟨rfl, hJ3, hk3⟩ | ⟨rfl, hJx3⟩)
   ·-- the round goes on
    gi_wp2
    go_roundw
    case rel => exact ⟨k + 1, by omega, by simp, by rw [List.range_succ]; exact hJ3, hnx.trans (hb2.trans hk3)⟩
    case measure => simp [intOf]; omega
   ·gi_wp2
    refine bodyPost_ret (results_none rfl _ _ _) rfl ?_
    exact ⟨⟨_, rfl⟩, .inr ⟨_, ⟨k + 1, by omega, List.range_succ.symm⟩, hJx3⟩⟩
  ·obtain rfl : k = len := by omega
   gi_wp2
   go_end0
   exact ⟨⟨_, rfl⟩, .inl ⟨_, rfl, hJs⟩⟩
theorem range_prefix {k n : Nat} (h : k ≤ n) : List.range k <+: List.range n := by
 have e : List.range k = (List.range n).take k := by rw [List.take_range, Nat.min_eq_left h]
 rw [e]; exact List.take_prefix _ _
theorem fields3_stops (F : Fence) (n : Nat) (h81 : F.fn 115) (hro : F.round = none) (hn : 1 ≤ n) (Bs oB n0 b off len cap : Nat) (s : Nat → ByteArray) (ad : Nat → Addr) (m cp : Nat → Nat) (lo hi : Nat → Int) (hlen : len ≤ 1000) (hb : b < n0) (w : World) (hBs : Bs < w.heap.size) (hn0 : n0 ≤ w.heap.size)
  (hc : w.cell? ⟨Bs, oB, none⟩ = some (.slice (some ⟨b, off, none⟩) len cap)) (hcs : ∀ j, j < len → w.cell? ⟨b, off + j * 4, none⟩ = some (.string (s j)) ∧ w.cell? ⟨b, off + j * 4 + 1, none⟩ = some (.slice (some (ad j)) (m j) (cp j)) ∧ w.cell? ⟨b, off + j * 4 + 2, none⟩ = some (.int .i64 (lo j)) ∧ w.cell? ⟨b, off + j * 4 + 3, none⟩ = some (.int .i64 (hi j))) :
  SeqStopsK F n pg 115 #[.pointer (some ⟨Bs, oB, none⟩)] (fun x : Nat => #[.agg #[.string (s x), .slice (some (ad x)) (m x) (cp x), .int .i64 (lo x), .int .i64 (hi x)]]) (Below n0) (fun ys => ys = List.range len) (fun pre => pre <+: List.range len) len w := fun l J Jx W hW hJ _ hY h0 => by
 have hbn : b < w.heap.size := Nat.lt_of_lt_of_le hb hn0
 refine (fields3_in F n h81 hro hn l Bs oB n0 b off len cap s ad m cp lo hi hlen hb J Jx hJ hY W (Nat.le_trans hn0 hW.size) ((hW.cell (p := ⟨Bs, oB, none⟩) hBs).trans hc) (fun j hj => ?_) h0).mono ?_
 ·obtain ⟨q0, q1, q2, q3⟩ := hcs j hj
  exact ⟨(hW.cell (p := ⟨b, off + j * 4, none⟩) hbn).trans q0, (hW.cell (p := ⟨b, off + j * 4 + 1, none⟩) hbn).trans q1, (hW.cell (p := ⟨b, off + j * 4 + 2, none⟩) hbn).trans q2, (hW.cell (p := ⟨b, off + j * 4 + 3, none⟩) hbn).trans q3⟩
 ·rintro e W' ⟨he, ⟨ys, rfl, hj⟩ | ⟨pre, ⟨k, hk, rfl⟩, hj⟩⟩
  ·exact ⟨he, .inl ⟨_, rfl, hj⟩⟩
  ·exact ⟨he, .inr ⟨_, range_prefix hk, hj⟩⟩
end Go.Gim
/- What is wrong with a config: the contract, by the kit's words. -/
set_option maxRecDepth 100000
set_option maxHeartbeats 4000000
namespace Go.Gim
open Go.Proofs Go.RowKit Go.Shelf
attribute [local go_sem] Oper.semAt_some
theorem ntmps27 : Tryz.f25.ntmps = 33 := by kernel_rfl
def zij (c : Cfg) : Array Value := #[.int .i64 c.rate, .int .i64 c.step, .int .i64 c.keys, .int .i64 c.gap, .int .i64 c.turn, .int .i64 c.pull, .int .i64 c.k0, .int .i64 c.k1, .int .i64 c.k2, .int .i64 c.k3, .int .i64 c.w0, .int .i64 c.w1, .int .i64 c.w2, .int .i64 c.w3, .int .i64 c.rounds, .int .i64 c.raises, .int .i64 c.flat]
theorem fields_in (c : Cfg) (W : World) (B : Nat) (ty : TypeId) (fr : Nat × Nat) (h : W.heap[B]? = some (.cells (zij c) ty fr)) (hg : GOk (fun _ => False) W) (n : Nat) :
  CallsIn Fence.wide n pg 69 #[.pointer (some ⟨B, 0, none⟩)] W fun e W' => ∃ x, e = .returned x ∧ Pur (fun _ => False) W' (.fn zd8 [.pp (.sl (fieldsV c))]) x ∧ Below W.heap.size W W' := by
 refine callsIn_wide.2 (((fields_ret c).2 (fun _ => False) W #[.pointer (some ⟨B, 0, none⟩)] (fun _ h => h.elim) hg rfl fun i hi => ?_).mono fun e w' ⟨x, h1, h2, h3⟩ => ⟨x, h1, h2, h3⟩)
 have : i = 0 := by simpa using hi
 subst this
 refine .pp _ _ (zij c) ty fr rfl h (fun h => h) (by simp [CV, V.cells, zij]) fun j hj => ?_
 have hj : j < 17 := by simpa [CV, V.cells] using hj
 simp only [CV, V.cells, zij, Nat.zero_add]
 match j, hj with
 | 0, _ => exact .int _ _
 | 1, _ => exact .int _ _
 | 2, _ => exact .int _ _
 | 3, _ => exact .int _ _
 | 4, _ => exact .int _ _
 | 5, _ => exact .int _ _
 | 6, _ => exact .int _ _
 | 7, _ => exact .int _ _
 | 8, _ => exact .int _ _
 | 9, _ => exact .int _ _
 | 10, _ => exact .int _ _
 | 11, _ => exact .int _ _
 | 12, _ => exact .int _ _
 | 13, _ => exact .int _ _
 | 14, _ => exact .int _ _
 | 15, _ => exact .int _ _
 | 16, _ => exact .int _ _
 | j + 17, hj => omega
def zaj (c : Cfg) : List (ByteArray × List Int × Int × Int) := [(⟨#[82, 97, 116, 101]⟩, [c.rate], 1, 1000),
 (⟨#[83, 116, 101, 112]⟩, [c.step], 1, 1000),
 (⟨#[75, 101, 121, 115]⟩, [c.keys], 2, 5),
 (⟨#[71, 97, 112]⟩, [c.gap], 1, 1000),
 (⟨#[84, 117, 114, 110]⟩, [c.turn], 1, 4194304),
 (⟨#[80, 117, 108, 108]⟩, [c.pull], 1, 67108864),
 (⟨#[75, 110, 101, 101, 115]⟩, [c.k0, c.k1, c.k2, c.k3], 1, 32768),
 (⟨#[87, 101, 105, 103, 104, 116, 115]⟩, [c.w0, c.w1, c.w2, c.w3], 1, 100),
 (⟨#[82, 111, 117, 110, 100, 115]⟩, [c.rounds], 1, 30),
 (⟨#[82, 97, 105, 115, 101, 115]⟩, [c.raises], 0, 12),
 (⟨#[70, 108, 97, 116]⟩, [c.flat], 0, 1000000000)]
def fvT (t : ByteArray × List Int × Int × Int) : V := .agg [.str t.1, .sl (t.2.1.map fun n => .pp (.int .i64 n)), .int .i64 t.2.2.1, .int .i64 t.2.2.2]
theorem fieldsV_T (c : Cfg) : fieldsV c = (zaj c).map fvT := rfl
theorem pur_sl {w : World} {xs : List V} {x : Value} (h : Pur (fun _ => False) w (.sl xs) x) (hne : 0 < xs.length) : ∃ b off cap size, x = .slice (some ⟨b, off, none⟩) xs.length cap ∧ b < w.heap.size ∧ (∀ i, i < xs.length → (xs.getD i .junk).cells.length = size) ∧
  ∀ i j, i < xs.length → j < size → ∃ y, w.cell? ⟨b, off + i * size + j, none⟩ = some y ∧ Pur (fun _ => False) w ((xs.getD i .junk).cells.getD j .junk) y := by
 cases h with
 | sl0 a cap => simp at hne
 | sl xs ad cap size arr ty fr hs hb hm hsz hin hcap hc =>
  obtain ⟨b, off, spot⟩ := ad
  obtain rfl : spot = none := hs
  refine ⟨b, off, cap, size, rfl, (Array.getElem?_eq_some_iff.1 hb).1, hsz, fun i j hi hj => ⟨_, ?_, hc i j hi hj⟩⟩
  have hlt : off + i * size + j < arr.size := by
   have := Nat.mul_le_mul_right size (show i + 1 ≤ xs.length by omega)
   rw [Nat.add_mul] at this
   have hin' : off + xs.length * size ≤ arr.size := hin
   omega
  have hb' : w.heap[b]? = some (.cells arr ty fr) := hb
  show w.cell? ⟨b, off + i * size + j, none⟩ = some (arr.getD (off + i * size + j) Go.undef)
  simp [World.cell?, hb', hlt]
theorem pur_pp_int {w : World} {n : Int} {x : Value} (h : Pur (fun _ => False) w (.pp (.int .i64 n)) x) : ∃ b off, x = .pointer (some ⟨b, off, none⟩) ∧ b < w.heap.size ∧ w.cell? ⟨b, off, none⟩ = some (.int .i64 n) := by
 cases h with
 | pp v ad arr ty fr hs hb hm hin hc =>
  obtain ⟨b, off, spot⟩ := ad
  obtain rfl : spot = none := hs
  have h0 := hc 0 (by simp [V.cells])
  have hin' : off + 1 ≤ arr.size := hin
  have hb' : w.heap[b]? = some (.cells arr ty fr) := hb
  refine ⟨b, off, rfl, (Array.getElem?_eq_some_iff.1 hb).1, ?_⟩
  simp only [V.cells, List.getD_cons_zero, Nat.add_zero] at h0
  generalize hy : arr.getD off Go.undef = y at h0
  cases h0
  simp [World.cell?, hb', show off < arr.size by omega]
  simpa [Array.getD_eq_getD_getElem?, show off < arr.size by omega] using hy
abbrev tD : ByteArray × List Int × Int × Int := (⟨#[]⟩, [], 0, 0)
theorem fields_open {c : Cfg} {w : World} {x : Value} (h : Pur (fun _ => False) w (.fn zd8 [.pp (.sl (fieldsV c))]) x) : ∃ (Bs oB b off cap : Nat) (ab ao cp : Nat → Nat),
  x = .func (.func 115) #[] #[.pointer (some ⟨Bs, oB, none⟩)] ∧ Bs < w.heap.size ∧ b < w.heap.size ∧ w.cell? ⟨Bs, oB, none⟩ = some (.slice (some ⟨b, off, none⟩) 11 cap) ∧
  (∀ j, j < 11 → w.cell? ⟨b, off + j * 4, none⟩ = some (.string ((zaj c).getD j tD).1) ∧ w.cell? ⟨b, off + j * 4 + 1, none⟩ = some (.slice (some ⟨ab j, ao j, none⟩) ((zaj c).getD j tD).2.1.length (cp j)) ∧ w.cell? ⟨b, off + j * 4 + 2, none⟩ = some (.int .i64 ((zaj c).getD j tD).2.2.1) ∧ w.cell? ⟨b, off + j * 4 + 3, none⟩ = some (.int .i64 ((zaj c).getD j tD).2.2.2)) ∧
  (∀ j i, i < ((zaj c).getD j tD).2.1.length → ab j < w.heap.size ∧ ∃ pb po, pb < w.heap.size ∧ w.cell? ⟨ab j, ao j + i, none⟩ = some (.pointer (some ⟨pb, po, none⟩)) ∧ w.cell? ⟨pb, po, none⟩ = some (.int .i64 (((zaj c).getD j tD).2.1.getD i 0))) := by
 cases h with
 | fn f cs arr hn hc =>
  have h0 := hc 0 (by simp)
  simp only [List.getD_cons_zero] at h0
  obtain ⟨y, rfl⟩ : ∃ y, arr = #[y] := by
   obtain ⟨l⟩ := arr
   match l, hn with
   | [y], _ => exact ⟨y, rfl⟩
  have h0 : Pur (fun _ => False) w (.pp (.sl (fieldsV c))) y := h0
  clear hc
  cases h0 with
  | pp v ad arr ty fr hs hb hm hin h2c =>
   obtain ⟨Bs, oB, spot⟩ := ad
   obtain rfl : spot = none := hs
   have hb' : w.heap[Bs]? = some (.cells arr ty fr) := hb
   have hin' : oB + 1 ≤ arr.size := hin
   have h1 := h2c 0 (by simp [V.cells])
   simp only [V.cells, List.getD_cons_zero, Nat.add_zero] at h1
   rw [fieldsV_T] at h1
   obtain ⟨b, off, cap, size, e1, hbs, hsz, hcs⟩ := pur_sl h1 (by simp [zaj])
   have hlen : ((zaj c).map fvT).length = 11 := by simp [zaj]
   rw [hlen] at e1
   have hT : ∀ j, j < 11 → ((zaj c).map fvT).getD j .junk = fvT ((zaj c).getD j tD) := fun j hj => by
    have : j < (zaj c).length := by simpa using hlen ▸ hj
    simp [List.getD_eq_getElem?_getD, this]
   have h4 : size = 4 := by have := hsz 0 (by omega); rw [hT 0 (by omega)] at this; simpa [fvT, V.cells] using this.symm
   subst h4
   have hrow : ∀ j, j < 11 → ∃ y0 y1 y2 y3, (w.cell? ⟨b, off + j * 4, none⟩ = some y0 ∧ w.cell? ⟨b, off + j * 4 + 1, none⟩ = some y1 ∧ w.cell? ⟨b, off + j * 4 + 2, none⟩ = some y2 ∧ w.cell? ⟨b, off + j * 4 + 3, none⟩ = some y3) ∧ Pur (fun _ => False) w (.str ((zaj c).getD j tD).1) y0 ∧ Pur (fun _ => False) w (.sl (((zaj c).getD j tD).2.1.map fun n => .pp (.int .i64 n))) y1 ∧ Pur (fun _ => False) w (.int .i64 ((zaj c).getD j tD).2.2.1) y2 ∧ Pur (fun _ => False) w (.int .i64 ((zaj c).getD j tD).2.2.2) y3 := fun j hj => by
    obtain ⟨y0, a0, p0⟩ := hcs j 0 (by omega) (by omega)
    obtain ⟨y1, a1, p1⟩ := hcs j 1 (by omega) (by omega)
    obtain ⟨y2, a2, p2⟩ := hcs j 2 (by omega) (by omega)
    obtain ⟨y3, a3, p3⟩ := hcs j 3 (by omega) (by omega)
    rw [hT j hj] at p0 p1 p2 p3
    exact ⟨y0, y1, y2, y3, ⟨a0, a1, a2, a3⟩, p0, p1, p2, p3⟩
   have hne : ∀ j, j < 11 → 0 < ((zaj c).getD j tD).2.1.length := fun j hj => by
    match j, hj with
    | 0, _ => simp [zaj]
    | 1, _ => simp [zaj]
    | 2, _ => simp [zaj]
    | 3, _ => simp [zaj]
    | 4, _ => simp [zaj]
    | 5, _ => simp [zaj]
    | 6, _ => simp [zaj]
    | 7, _ => simp [zaj]
    | 8, _ => simp [zaj]
    | 9, _ => simp [zaj]
    | 10, _ => simp [zaj]
    | j + 11, hj => omega
   have hsl : ∀ j, ∃ ab ao cp, ∀ (hj : j < 11), w.cell? ⟨b, off + j * 4 + 1, none⟩ = some (.slice (some ⟨ab, ao, none⟩) ((zaj c).getD j tD).2.1.length cp) ∧ ab < w.heap.size ∧ ∀ i, i < ((zaj c).getD j tD).2.1.length → ∃ y, w.cell? ⟨ab, ao + i, none⟩ = some y ∧ Pur (fun _ => False) w (.pp (.int .i64 (((zaj c).getD j tD).2.1.getD i 0))) y := fun j => by
    by_cases hj : j < 11
    ·obtain ⟨y0, y1, y2, y3, ⟨a0, a1, a2, a3⟩, p0, p1, p2, p3⟩ := hrow j hj
     obtain ⟨ab, ao, cp, sz, e, hab, hz, hcc⟩ := pur_sl p1 (by simpa using hne j hj)
     rw [List.length_map] at e hz hcc
     have hget : ∀ i, i < ((zaj c).getD j tD).2.1.length → (((zaj c).getD j tD).2.1.map fun n => V.pp (.int .i64 n)).getD i .junk = .pp (.int .i64 (((zaj c).getD j tD).2.1.getD i 0)) := fun i hi => by
      simp [List.getD_eq_getElem?_getD] at hi ⊢
      simp [hi]
     have h1z : sz = 1 := by have := hz 0 (hne j hj); rw [hget 0 (hne j hj)] at this; simpa [V.cells] using this.symm
     subst h1z
     refine ⟨ab, ao, cp, fun _ => ⟨by rw [a1, e], hab, fun i hi => ?_⟩⟩
     obtain ⟨y, q1, q2⟩ := hcc i 0 hi (by omega)
     rw [hget i hi] at q2
     exact ⟨y, by simpa using q1, q2⟩
    ·exact ⟨0, 0, 0, fun h => absurd h hj⟩
   have hT11 : ∀ j, ¬ j < 11 → (zaj c).getD j tD = tD := fun j hj => by rw [List.getD_eq_getElem?_getD, List.getElem?_eq_none (by simp [zaj]; omega)]; rfl
   have spec := fun j => Classical.choose_spec (Classical.choose_spec (Classical.choose_spec (hsl j)))
   refine ⟨Bs, oB, b, off, cap, fun j => Classical.choose (hsl j), fun j => Classical.choose (Classical.choose_spec (hsl j)), fun j => Classical.choose (Classical.choose_spec (Classical.choose_spec (hsl j))), rfl, (Array.getElem?_eq_some_iff.1 hb).1, hbs, ?_, fun j hj => ?_, fun j i hi => ?_⟩
   ·simp [World.cell?, hb', show oB < arr.size by omega]
    simpa [Array.getD_eq_getD_getElem?, show oB < arr.size by omega] using e1
   ·obtain ⟨y0, y1, y2, y3, ⟨a0, a1, a2, a3⟩, p0, p1, p2, p3⟩ := hrow j hj
    cases p0
    cases p2
    cases p3
    exact ⟨a0, (spec j hj).1, a2, a3⟩
   ·by_cases hj : j < 11
    ·obtain ⟨_, s2, s3⟩ := spec j hj
     obtain ⟨y, q1, q2⟩ := s3 i hi
     obtain ⟨pb, po, rfl, q3, q4⟩ := pur_pp_int q2
     exact ⟨s2, pb, po, q3, q1, q4⟩
    ·rw [hT11 j hj] at hi; simp at hi
end Go.Gim
/- What is wrong with a config: the walk. -/
set_option maxRecDepth 100000
set_option maxHeartbeats 4000000
namespace Go.Gim
open Go.Proofs Go.RowKit Go.Shelf
attribute [local go_sem] Oper.semAt_some
def noDefer (o : Oper) : Bool := match o.op with | .defer _ => false | _ => true
theorem zdv {P : Program} {l0 n id : Nat} {Q : Exit → Act → World → Prop} {a : Act} {w : World} {l : List Oper} (hm : P.follows .mixedOrders = true) (hB : Region.lexB .any l.toArray = true) (hd : l.all noDefer = true) (hQ : ¬ LetsOut Q)
  (h : wpStill P l.toArray w.drew (fun a' => Q .normal a' w.drew) l a) : (Code.region id l.toArray true).wpIn (FR l0) n P Q a w := by
 simp only [Region.lexB, Bool.and_eq_true] at hB
 refine wpIn_region_any hm (anyIn (fun i o ho c e => ?_) hQ _ _ _ _ ?_)
 ·have hmem : o ∈ l := List.mem_of_getElem? (by simpa using ho)
  have := List.all_eq_true.1 hd o hmem
  simp [noDefer, e] at this
 ·refine wpAny_of_still (Q := fun a' => Q .normal a' { w with drawn := w.drawn + 1 }) (fun _ h => h) _ _ _ ?_
  have := wpAnyS_lex (md := .any) hB.1 l 0 (Array.replicate l.toArray.size false) a (by simp) (by simpa using hB.2) h
  simpa using this
def fineT (t : ByteArray × List Int × Int × Int) : Prop := ∀ i, i < t.2.1.length → t.2.2.1 ≤ t.2.1.getD i 0 ∧ t.2.1.getD i 0 ≤ t.2.2.2
def ChkSays (c : Cfg) (nm : ByteArray) (e : Int) : Prop :=
 ((∀ j, j < 11 → fineT ((zaj c).getD j tD)) ∧ nm = ⟨#[]⟩ ∧ e = 0) ∨
 ∃ k, k < 11 ∧ (∀ j, j < k → fineT ((zaj c).getD j tD)) ∧ ¬ fineT ((zaj c).getD k tD) ∧ nm = ((zaj c).getD k tD).1 ∧ e = 130
theorem prefix_range {pre0 : List Nat} {k n : Nat} (h : pre0 ++ [k] <+: List.range n) : pre0 = List.range k ∧ k < n := by
 have e := List.prefix_iff_eq_take.1 h
 have hl := h.length_le
 simp at hl e
 rw [Nat.min_eq_left hl, List.range_succ] at e
 obtain ⟨e1, e2⟩ := List.append_inj e (by simp)
 simp at e2
 subst e2
 exact ⟨e1, by omega⟩
theorem results27 {w : World} {tmps : Array Value} {b2 b3 : Nat} {s : ByteArray} {e : Int} (h2 : tmps.getD 2 Go.undef = .pointer (some ⟨b2, 0, none⟩)) (h3 : tmps.getD 3 Go.undef = .pointer (some ⟨b3, 0, none⟩))
  (c2 : w.cell? ⟨b2, 0, none⟩ = some (.string s)) (c3 : w.cell? ⟨b3, 0, none⟩ = some (.int .i64 e)) : (results Tryz.f25 tmps).run pg w = .ok (.tuple #[.string s, .int .i64 e]) w := by
 rw [Array.getD_eq_getD_getElem?] at h2 h3
 simp only [results, show Tryz.f25.results = #[.cell 2 9, .cell 3 28] from rfl]
 simp [go_sem, h2, h3, c2, c3]
theorem fieldT_len (c : Cfg) (j : Nat) : ((zaj c).getD j tD).2.1.length ≤ 4 := by
 match j with
 | 0 => simp [zaj]
 | 1 => simp [zaj]
 | 2 => simp [zaj]
 | 3 => simp [zaj]
 | 4 => simp [zaj]
 | 5 => simp [zaj]
 | 6 => simp [zaj]
 | 7 => simp [zaj]
 | 8 => simp [zaj]
 | 9 => simp [zaj]
 | 10 => simp [zaj]
 | j + 11 => simp [zaj]
theorem check_in (c : Cfg) (w : World) (n : Nat) (hn : 6 ≤ n) (hgo : GOk (fun _ => False) w) :
  CallsIn Fence.wide n pg 25 #[.agg (zij c)] w fun e W => (∃ nm e', e = .returned (.tuple #[.string nm, .int .i64 e']) ∧ ChkSays c nm e') ∧ Below w.heap.size w W := by
 refine callsIn_of_wp_marks Tryz.func25 rfl trivial ?_ rfl
 simp only [ntmps27, zij, List.size_toArray, List.length_cons, List.length_nil, Nat.reduceAdd, Nat.reduceSub, Array.replicate_succ, Array.replicate_zero, List.push_toArray, List.append_toArray, List.nil_append, List.cons_append]
 gi_wp2
 refine ⟨trivial, fun _ => (by omega), (fields_in c _ w.heap.size 25 (0,0) (by rw [Below.heap_alloc _ _ _ (by simp; omega), Below.heap_alloc _ _ _ (by simp)]; exact World.alloc_heap_new w _) (hgo.mono fun g o h1 _ => ⟨((((Below.refl w.heap.size w).alloc (Nat.le_refl _) _).alloc (by simp) _).alloc (by simp; omega) _).block g (by rcases Nat.lt_or_ge g w.heap.size with h | h; exact h; rw [Array.getElem?_eq_none h] at h1; cases h1) |>.trans h1, fun h => h⟩) _).mono ?_⟩
 rintro e W1 ⟨x, rfl, hp, hb⟩
 gi_wp2
 obtain ⟨Bs, oB, b, off, cap, ab, ao, cp, rfl, hBs, hbL, hcB, hrows, hptr⟩ := fields_open hp
 have hb0 : Below w.heap.size w W1 := ((((Below.refl _ w).alloc (Nat.le_refl _) _).alloc (by simp) _).alloc (by simp; omega) _).trans (hb.mono (by simp; omega))
 have hsz : w.heap.size + 3 ≤ W1.heap.size := by have := hb.size; simp at this; omega
 have bS : Boxed W1 (w.heap.size + 1) 9 (.string ⟨#[]⟩) := (hb.block _ (by simp)).trans (((Boxed.new (w.alloc (.cells (zij c) 25)) 9 (.string ⟨#[]⟩)).alloc (.cells #[.int .i64 0] 28)) |> fun h => by simpa [World.size_alloc, zij, Boxed] using h)
 have bE : Boxed W1 (w.heap.size + 1 + 1) 28 (.int .i64 0) := (hb.block _ (by simp)).trans ((Boxed.new ((w.alloc (.cells (zij c) 25)).alloc (.cells #[.string ⟨#[]⟩] 9)) 28 (.int .i64 0)) |> fun h => by simpa [World.size_alloc, zij, Boxed] using h)
 clear hb hp
 refine wpIn_rangeFunc_ownH (F := Fence.wide) (n := n) rfl (by omega) (gf := 115) (lb := #[.pointer (some ⟨Bs, oB, none⟩)]) rfl trivial (enters_of Tryz.func115 (by kernel_rfl) rfl)
  (fields3_stops Fence.wide (n - 1) trivial rfl (by omega) Bs oB W1.heap.size b off 11 cap (fun j => ((zaj c).getD j tD).1) (fun j => ⟨ab j, ao j, none⟩) (fun j => ((zaj c).getD j tD).2.1.length) cp (fun j => ((zaj c).getD j tD).2.2.1) (fun j => ((zaj c).getD j tD).2.2.2) (by omega) hbL W1 hBs (Nat.le_refl _) hcB hrows) belowK_t (belowK_b (Nat.le_refl _)) (Below.refl _ _) (fun _ => rfl)
  (fun pre W => (∀ k, k ∈ pre → fineT ((zaj c).getD k tD)) ∧ Below W1.heap.size W1 W)
  (fun cd pre W => cd = .ret ∧ ∃ pre0 k, pre = pre0 ++ [k] ∧ (∀ k, k ∈ pre0 → fineT ((zaj c).getD k tD)) ∧ ¬ fineT ((zaj c).getD k tD) ∧ (Boxed W (w.heap.size + 1) 9 (.string ((zaj c).getD k tD).1) ∧ Boxed W (w.heap.size + 1 + 1) 28 (.int .i64 130)) ∧ Below w.heap.size w W)
  (fun s X Y row hs hg hr => ⟨hs.1, ownFrom_below (β := Unit) (Nat.le_refl _) (Nat.le_refl _) () X Y row hs.2 hg hr⟩)
  (fun cd s X Y row hs hg hr => by
   obtain ⟨h1, pre0, k, h2, h3, h4, ⟨h5, h6⟩, h7⟩ := hs
   exact ⟨h1, pre0, k, h2, h3, h4, ⟨boxed_own _ 9 (fun (_ : Unit) => Value.string ((zaj c).getD k tD).1) () X Y row h5 hg (fun r e => (hr r e).2), boxed_own _ 28 (fun (_ : Unit) => Value.int .i64 130) () X Y row h6 hg (fun r e => (hr r e).2)⟩, ownFrom_below (β := Unit) (Nat.le_refl _) (by omega) () X Y row h7 hg hr⟩)
  ⟨fun k h => (by simp at h), Below.refl _ _⟩
  (fun x a' W => ∃ Bx, W.heap[Bx]? = some (.cells #[.string ((zaj c).getD x tD).1, .slice (some ⟨ab x, ao x, none⟩) ((zaj c).getD x tD).2.1.length (cp x), .int .i64 ((zaj c).getD x tD).2.2.1, .int .i64 ((zaj c).getD x tD).2.2.2] 159) ∧
   ∃ y0 y7 y8, a' = { tmps := #[y0, Value.pointer (some { block := w.heap.size, off := 0 }), Value.pointer (some { block := w.heap.size + 1, off := 0 }), Value.pointer (some { block := w.heap.size + 1 + 1, off := 0 }), Value.pointer (some { block := Bx, off := 0 }), undef, undef, y7, y8, undef, undef,
     undef, undef, undef, undef, undef, undef, undef, undef, undef, undef, undef, undef, undef, undef, undef,
     undef, undef, undef, undef, undef, undef, undef], defers := [] })
  (fun x a' _ X Y row hs hg hr => by obtain ⟨Bx, h1, h2⟩ := hs; exact ⟨Bx, (grownBy_keeps_cells hg (fun r e => (hr r e).2) h1 rfl).trans h1, h2⟩)
  ?assign ?body ?done ?stop
 case assign =>
  rintro l pre x W K ⟨hF1, hB1⟩ hK
  gi_wp2
  exact hK _ _ ((KeepsOthers.alloc _ _).from _) ((Below.refl _ W).alloc hB1.size _) ⟨hF1, hB1.alloc hB1.size _⟩ ⟨W.heap.size, World.alloc_heap_new W _, _, _, _, rfl⟩
 case body =>
  rintro l pre x a' W hl ⟨r, hr⟩ ⟨hF1, hB1⟩ ⟨Bx, hBx, y0, y7, y8, rfl⟩ hlt
  have c0 : W.cell? ⟨Bx, 0, none⟩ = some (.string ((zaj c).getD x tD).1) := by simp [World.cell?, hBx]
  have c1 : W.cell? ⟨Bx, 1, none⟩ = some (.slice (some ⟨ab x, ao x, none⟩) ((zaj c).getD x tD).2.1.length (cp x)) := by simp [World.cell?, hBx]
  have c2 : W.cell? ⟨Bx, 2, none⟩ = some (.int .i64 ((zaj c).getD x tD).2.2.1) := by simp [World.cell?, hBx]
  have c3 : W.cell? ⟨Bx, 3, none⟩ = some (.int .i64 ((zaj c).getD x tD).2.2.2) := by simp [World.cell?, hBx]
  have hpt : ∀ i, i < ((zaj c).getD x tD).2.1.length → ∃ pb po, W.cell? ⟨ab x, ao x + i, none⟩ = some (.pointer (some ⟨pb, po, none⟩)) ∧ W.cell? ⟨pb, po, none⟩ = some (.int .i64 (((zaj c).getD x tD).2.1.getD i 0)) := fun i hi => by
   obtain ⟨q1, pb, po, q2, q3, q4⟩ := hptr x i hi
   exact ⟨pb, po, (hB1.cell (p := ⟨ab x, ao x + i, none⟩) q1).trans q3, (hB1.cell (p := ⟨pb, po, none⟩) q2).trans q4⟩
  have hTl := fieldT_len c x
  have cS := (hB1.cell (p := ⟨w.heap.size + 1, 0, none⟩) (by simp; omega)).trans bS.cell
  have cE := (hB1.cell (p := ⟨w.heap.size + 1 + 1, 0, none⟩) (by simp; omega)).trans bE.cell
  generalize hT : (zaj c).getD x tD = T at c0 c1 c2 c3 hpt hTl ⊢
  have hfS : W.frozen? ⟨w.heap.size + 1, 0, none⟩ = false := (hB1.frozen (p := ⟨w.heap.size + 1, 0, none⟩) (by simp; omega)).trans bS.frozen
  have hfE : W.frozen? ⟨w.heap.size + 1 + 1, 0, none⟩ = false := (hB1.frozen (p := ⟨w.heap.size + 1 + 1, 0, none⟩) (by simp; omega)).trans bE.frozen
  gi_wp2
  gi_loopw [12] (fun i wr => (wr.heap = W.heap ∧ Below W1.heap.size W wr ∧ KeepsFrom W1.heap.size W wr) ∧ ∃ k : Nat, k ≤ T.2.1.length ∧ i = .int .i64 k ∧ ∀ j, j < k → T.2.2.1 ≤ T.2.1.getD j 0 ∧ T.2.1.getD j 0 ≤ T.2.2.2)
   (fun i _ => T.2.1.length - (intOf i).toNat)
  case atStart => exact ⟨⟨rfl, Below.refl _ _, KeepsFrom.refl _ _⟩, 0, Nat.zero_le _, rfl, fun j hj => by omega⟩
  case round =>
   obtain ⟨⟨hH, hBl, hKF⟩, k, hk, rfl, hfin⟩ := hrel
   have cw : ∀ p, wr.cell? p = W.cell? p := fun p => World.cell?_of_block (by rw [hH])
   have fw : ∀ p, wr.frozen? p = W.frozen? p := fun p => World.frozen?_of_block (by rw [hH])
   rw [← cw] at c0 c1 c2 c3 cS cE
   rw [← fw] at hfS hfE
   by_cases hlt2 : k < T.2.1.length
   ·obtain ⟨pb, po, p1, p2⟩ := hpt k hlt2
    rw [← cw] at p1 p2
    clear cw fw hpt
    have hend : ¬ fineT T → ∀ W' : World, W' = ((wr.setCell ⟨w.heap.size + 1, 0, none⟩ (.string T.1)).setCell ⟨w.heap.size + 1 + 1, 0, none⟩ (.int .i64 130)).drew →
      KeepsFrom W1.heap.size W W' ∧ (Boxed W' (w.heap.size + 1) 9 (.string T.1) ∧ Boxed W' (w.heap.size + 1 + 1) 28 (.int .i64 130)) ∧ Below w.heap.size w W' := by
     rintro - W' rfl
     have xS : Boxed wr (w.heap.size + 1) 9 (.string ⟨#[]⟩) := (hBl.block _ (by omega)).trans ((hB1.block _ (by omega)).trans bS)
     have xE : Boxed wr (w.heap.size + 1 + 1) 28 (.int .i64 0) := (hBl.block _ (by omega)).trans ((hB1.block _ (by omega)).trans bE)
     have zS : Boxed ((wr.setCell ⟨w.heap.size + 1, 0, none⟩ (.string T.1)).setCell ⟨w.heap.size + 1 + 1, 0, none⟩ (.int .i64 130)) (w.heap.size + 1) 9 (.string T.1) := (xS.set _).other (by omega) _
     have zE : Boxed ((wr.setCell ⟨w.heap.size + 1, 0, none⟩ (.string T.1)).setCell ⟨w.heap.size + 1 + 1, 0, none⟩ (.int .i64 130)) (w.heap.size + 1 + 1) 28 (.int .i64 130) := (xE.other (by omega) _).set _
     exact ⟨hKF.trans ((((KeepsOthers.setCell _ _ _).trans (KeepsOthers.setCell _ _ _)).trans (KeepsOthers.drew _)).from _), ⟨zS, zE⟩,
      (((hb0.trans ((hB1.trans hBl).mono (by omega))).setCell (p := ⟨w.heap.size + 1, 0, none⟩) (by simp) _).setCell (p := ⟨w.heap.size + 1 + 1, 0, none⟩) (by simp; omega) _).drew⟩
    generalize hv : T.2.1.getD k 0 = v at p2
    by_cases hlo : v < T.2.2.1
    ·gi_wp2
     refine zdv (by kernel_rfl) (by kernel_rfl) (by kernel_rfl) (fun ⟨_, _, h⟩ => h) ?_
     repeat
      with_reducible refine wpStill_step (fun K hK => ?_)
      go_simp
      with_reducible refine hK _ ?_
      clear hK K
     with_reducible refine wpStill_nil ?_
     gi_wp2
     have hnf : ¬ fineT T := fun hf => by have := (hf k hlt2).1; rw [hv] at this; omega
     obtain ⟨e1, e2, e3⟩ := hend hnf _ rfl
     refine ⟨e1, rfl, pre, x, rfl, hF1, ?_, ?_, e3⟩
     ·rw [hT]; exact hnf
     ·rw [hT]; exact e2
    ·by_cases hhi : T.2.2.2 < v
     ·gi_wp2
      refine zdv (by kernel_rfl) (by kernel_rfl) (by kernel_rfl) (fun ⟨_, _, h⟩ => h) ?_
      repeat
       with_reducible refine wpStill_step (fun K hK => ?_)
       go_simp
       with_reducible refine hK _ ?_
       clear hK K
      with_reducible refine wpStill_nil ?_
      gi_wp2
      have hnf : ¬ fineT T := fun hf => by have := (hf k hlt2).2; rw [hv] at this; omega
      obtain ⟨e1, e2, e3⟩ := hend hnf _ rfl
      refine ⟨e1, rfl, pre, x, rfl, hF1, ?_, ?_, e3⟩
      ·rw [hT]; exact hnf
      ·rw [hT]; exact e2
     ·gi_wp2
      refine zdv (by kernel_rfl) (by kernel_rfl) (by kernel_rfl) (fun ⟨_, _, h⟩ => h) ?_
      repeat
       with_reducible refine wpStill_step (fun K hK => ?_)
       go_simp
       with_reducible refine hK _ ?_
       clear hK K
      with_reducible refine wpStill_nil ?_
      gi_wp2
      go_roundw
      case rel =>
       exact ⟨⟨hH, hBl.drew, hKF.trans ((KeepsOthers.drew _).from _)⟩, k + 1, by omega, by simp, fun j hj => by
        by_cases hjk : j < k
        ·exact hfin j hjk
        ·obtain rfl : j = k := by omega
         rw [hv]; omega⟩
      case measure => simp [intOf]; omega
   ·clear cw fw
    obtain rfl : k = T.2.1.length := by omega
    gi_wp2
    refine ⟨hKF, hBl, fun j hj => ?_, hB1.trans hBl⟩
    rcases List.mem_append.1 hj with hj | hj
    ·exact hF1 j hj
    ·obtain rfl : j = x := by simpa using hj
     rw [hT]; exact hfin
 case done =>
  rintro D zs W hD rfl ⟨hF1, hB1⟩ hK
  have hfS : W.frozen? ⟨w.heap.size + 1, 0, none⟩ = false := (hB1.frozen (p := ⟨w.heap.size + 1, 0, none⟩) (by simp; omega)).trans bS.frozen
  have hfE : W.frozen? ⟨w.heap.size + 1 + 1, 0, none⟩ = false := (hB1.frozen (p := ⟨w.heap.size + 1 + 1, 0, none⟩) (by simp; omega)).trans bE.frozen
  have cS := (hB1.cell (p := ⟨w.heap.size + 1, 0, none⟩) (by simp; omega)).trans bS.cell
  have cE := (hB1.cell (p := ⟨w.heap.size + 1 + 1, 0, none⟩) (by simp; omega)).trans bE.cell
  have xS : Boxed W (w.heap.size + 1) 9 (.string ⟨#[]⟩) := (hB1.block _ (by omega)).trans bS
  have xE : Boxed W (w.heap.size + 1 + 1) 28 (.int .i64 0) := (hB1.block _ (by omega)).trans bE
  gi_wp2
  generalize hW2 : (W.setCell ⟨w.heap.size + 1, 0, none⟩ (Value.string ⟨#[]⟩)).setCell ⟨w.heap.size + 1 + 1, 0, none⟩ (Value.int IntKind.i64 0) = W2
  have zS : Boxed W2 (w.heap.size + 1) 9 (.string ⟨#[]⟩) := by rw [← hW2]; exact (xS.set _).other (by omega) _
  have zE : Boxed W2 (w.heap.size + 1 + 1) 28 (.int .i64 0) := by rw [← hW2]; exact (xE.other (by omega) _).set _
  have zB : Below w.heap.size w W2 := by rw [← hW2]; exact ((hb0.trans (hB1.mono (by omega))).setCell (p := ⟨w.heap.size + 1, 0, none⟩) (by simp) _).setCell (p := ⟨w.heap.size + 1 + 1, 0, none⟩) (by simp; omega) _
  have zK : W2.heap[D]? = some (.deferred (some [])) := by rw [← hW2, Below.heap_setCell _ _ _ _ (by simp; omega), Below.heap_setCell _ _ _ _ (by simp; omega)]; exact hK
  clear hW2
  refine ⟨by simp, .inl ⟨_, _, rfl, run_takeDeferred zK, ?_⟩⟩
  have hbl := belowK_b (w := w) (Nat.le_refl _) W2 D _ (.deferred none) (by omega) zK rfl rfl
  refine ⟨_, results27 rfl rfl ?_ ?_, ⟨_, _, rfl, .inl ⟨fun j hj => hF1 j (List.mem_range.2 hj), rfl, rfl⟩⟩, zB.trans hbl⟩
  ·exact (Boxed.kept zS (grownBy_putObj' W2 D _) (by intro e; cases e; omega)).cell
  ·exact (Boxed.kept zE (grownBy_putObj' W2 D _) (by intro e; cases e; omega)).cell
 case stop =>
  rintro D cd pre W hD hpre ⟨rfl, pre0, k, rfl, h3, h4, ⟨h5, h6⟩, h7⟩ hK
  have cS := h5.cell
  have cE := h6.cell
  gi_wp2
  refine ⟨by simp, .inl ⟨_, _, rfl, run_takeDeferred hK, ?_⟩⟩
  have hbl := belowK_b (w := w) (Nat.le_refl _) W D _ (.deferred none) (by omega) hK rfl rfl
  obtain ⟨g1, g2⟩ : pre0 = List.range k ∧ k < 11 := prefix_range hpre
  subst g1
  refine ⟨_, results27 rfl rfl ?_ ?_, ⟨_, _, rfl, .inr ⟨k, g2, fun j hj => h3 j (List.mem_range.2 hj), h4, rfl, rfl⟩⟩, h7.trans hbl⟩
  ·exact (Boxed.kept h5 (grownBy_putObj' W D _) (by intro e; cases e; omega)).cell
  ·exact (Boxed.kept h6 (grownBy_putObj' W D _) (by intro e; cases e; omega)).cell
end Go.Gim
/- What is wrong with a config: the contract. -/
set_option maxRecDepth 100000
namespace Go.Gim
open Go.Proofs Go.RowKit
def fineB (t : ByteArray × List Int × Int × Int) : Bool := t.2.1.all fun v => decide (t.2.2.1 ≤ v) && decide (v ≤ t.2.2.2)
theorem fineB_iff {t : ByteArray × List Int × Int × Int} : fineB t = true ↔ fineT t := by
 simp only [fineB, fineT, List.all_eq_true, Bool.and_eq_true, decide_eq_true_eq]
 constructor
 ·intro h i hi
  have := h (t.2.1[i]) (List.getElem_mem hi)
  simpa [List.getD_eq_getElem?_getD, hi] using this
 ·intro h v hv
  obtain ⟨i, hi, rfl⟩ := List.mem_iff_getElem.1 hv
  have := h i hi
  simpa [List.getD_eq_getElem?_getD, hi] using this
def zd9 : List (ByteArray × List Int × Int × Int) → ByteArray × Int
 | [] => (⟨#[]⟩, 0)
 | t :: l => if fineB t then zd9 l else (t.1, 130)
def chk (c : Cfg) : ByteArray × Int := zd9 (zaj c)
theorem firstBad_fine : ∀ (l : List (ByteArray × List Int × Int × Int)), (∀ j, j < l.length → fineT (l.getD j tD)) → zd9 l = (⟨#[]⟩, 0)
 | [], _ => rfl
 | t :: l, h => by
  have h0 : fineT t := h 0 (by simp)
  rw [zd9, if_pos (fineB_iff.2 h0)]
  exact firstBad_fine l fun j hj => by simpa using h (j + 1) (by simp; omega)
theorem firstBad_at : ∀ (l : List (ByteArray × List Int × Int × Int)) (k : Nat), k < l.length → (∀ j, j < k → fineT (l.getD j tD)) → ¬ fineT (l.getD k tD) → zd9 l = ((l.getD k tD).1, 130)
 | t :: l, 0, _, _, h => by
  have h0 : ¬ fineT t := h
  rw [zd9, if_neg (fun e => h0 (fineB_iff.1 e))]; rfl
 | t :: l, k + 1, hk, hb, h => by
  have h0 : fineT t := hb 0 (by omega)
  rw [zd9, if_pos (fineB_iff.2 h0)]
  rw [firstBad_at l k (by simpa using hk) (fun j hj => by simpa using hb (j + 1) (by omega)) (by simpa using h)]
  simp
theorem chk_says {c : Cfg} {nm : ByteArray} {e : Int} (h : ChkSays c nm e) : nm = (chk c).1 ∧ e = (chk c).2 := by
 have hl : (zaj c).length = 11 := by simp [zaj]
 rcases h with ⟨h1, h2, h3⟩ | ⟨k, h1, h2, h3, h4, h5⟩
 ·rw [chk, firstBad_fine _ (fun j hj => h1 j (by omega))]; exact ⟨h2, h3⟩
 ·rw [chk, firstBad_at _ k (by omega) h2 h3]; exact ⟨h4, h5⟩
theorem cfg_agg {M : Nat → Prop} {w : World} {c : Cfg} {x : Value} (h : Pur M w (CV c) x) : x = .agg (zij c) := by
 cases h with
 | agg cs arr hn hc =>
  have hn : arr.size = 17 := hn
  congr 1
  apply Array.ext
  ·simpa [zij] using hn
  ·intro i h1 h2
   have h3 : i < 17 := by omega
   have := hc i h3
   have e : arr.getD i Go.undef = arr[i] := by simp [Array.getD, h1]
   rw [e] at this
   generalize arr[i] = y at this ⊢
   clear e
   match i, h3 with
   | 0, _ => cases this; rfl
   | 1, _ => cases this; rfl
   | 2, _ => cases this; rfl
   | 3, _ => cases this; rfl
   | 4, _ => cases this; rfl
   | 5, _ => cases this; rfl
   | 6, _ => cases this; rfl
   | 7, _ => cases this; rfl
   | 8, _ => cases this; rfl
   | 9, _ => cases this; rfl
   | 10, _ => cases this; rfl
   | 11, _ => cases this; rfl
   | 12, _ => cases this; rfl
   | 13, _ => cases this; rfl
   | 14, _ => cases this; rfl
   | 15, _ => cases this; rfl
   | 16, _ => cases this; rfl
   | i + 17, h => omega
theorem check_ret (c : Cfg) : Ret pg zek [CV c] (.tup [.str (chk c).1, .int .i64 (chk c).2]) := by
 refine ⟨fun vals w => ?_, fun M w vals Mb hgl hs ha => ?_⟩
 ·simp only [callFunc, Sem.run_bind, run_program, Result.andThen_ok]
  rw [show pg.funcs[zek]? = some Tryz.f25 from Tryz.func25]
  simp only []
  rw [if_neg (by decide), if_neg (by decide)]
  rfl
 ·obtain ⟨x, rfl⟩ : ∃ x, vals = #[x] := by
   obtain ⟨l⟩ := vals
   match l, hs with
   | [x], _ => exact ⟨x, rfl⟩
  have h0 := cfg_agg (ha 0 (by simp))
  have h0 : x = .agg (zij c) := h0
  subst h0
  refine (callsIn_wide.1 (check_in c w 6 (Nat.le_refl _) (hgl.mono fun g o h1 _ => ⟨h1, fun h => h⟩))).mono fun e W h => ?_
  obtain ⟨⟨nm, e', h1, h2⟩, h3⟩ := h
  obtain ⟨rfl, rfl⟩ := chk_says h2
  refine ⟨_, h1, .tup _ _ rfl fun i hi => ?_, h3⟩
  match i, hi with
  | 0, _ => exact .str _
  | 1, _ => exact .int _ _
  | i + 2, hi => exact absurd hi (by simp)
end Go.Gim
/- A config that may be one. -/
set_option maxRecDepth 100000
set_option maxHeartbeats 4000000
namespace Go.Gim
open Go.Proofs
theorem zgg (c) : (CV c).isJunk = false := rfl
attribute [simp] zgg
theorem CV_cells (c : Cfg) : (CV c).cells = [.int .i64 c.rate, .int .i64 c.step, .int .i64 c.keys, .int .i64 c.gap, .int .i64 c.turn, .int .i64 c.pull, .int .i64 c.k0, .int .i64 c.k1, .int .i64 c.k2, .int .i64 c.k3, .int .i64 c.w0, .int .i64 c.w1, .int .i64 c.w2, .int .i64 c.w3, .int .i64 c.rounds, .int .i64 c.raises, .int .i64 c.flat] := rfl
theorem part_CV (c) : V.part (CV c) 0 17 true = some (CV c) := rfl
theorem CV_isAgg (c) : (CV c).isAgg = true := rfl
structure FineC (c : Cfg) : Prop where
 rate : 1 ≤ c.rate ∧ c.rate ≤ 1000
 step : 1 ≤ c.step ∧ c.step ≤ 1000
 keys : 2 ≤ c.keys ∧ c.keys ≤ 5
 gap : 1 ≤ c.gap ∧ c.gap ≤ 1000
 turn : 1 ≤ c.turn ∧ c.turn ≤ 4194304
 pull : 1 ≤ c.pull ∧ c.pull ≤ 67108864
 k0 : 1 ≤ c.k0 ∧ c.k0 ≤ 32768
 k1 : 1 ≤ c.k1 ∧ c.k1 ≤ 32768
 k2 : 1 ≤ c.k2 ∧ c.k2 ≤ 32768
 k3 : 1 ≤ c.k3 ∧ c.k3 ≤ 32768
 w0 : 1 ≤ c.w0 ∧ c.w0 ≤ 100
 w1 : 1 ≤ c.w1 ∧ c.w1 ≤ 100
 w2 : 1 ≤ c.w2 ∧ c.w2 ≤ 100
 w3 : 1 ≤ c.w3 ∧ c.w3 ≤ 100
 rounds : 1 ≤ c.rounds ∧ c.rounds ≤ 30
 raises : 0 ≤ c.raises ∧ c.raises ≤ 12
 flat : 0 ≤ c.flat ∧ c.flat ≤ 1000000000
theorem firstBad_two : ∀ (l : List (ByteArray × List Int × Int × Int)), ((zd9 l).2 = 0 ∧ (zd9 l).1 = ⟨#[]⟩ ∧ ∀ t ∈ l, fineB t = true) ∨ ((zd9 l).2 = 130 ∧ ∃ t ∈ l, fineB t = false ∧ (zd9 l).1 = t.1)
 | [] => .inl ⟨rfl, rfl, fun t h => (by cases h)⟩
 | t :: l => by
  rw [zd9]
  split
  ·rename_i ht
   rcases firstBad_two l with ⟨h1, h2, h3⟩ | ⟨h1, u, h2, h3⟩
   ·refine .inl ⟨h1, h2, fun u hu => ?_⟩
    rcases List.mem_cons.1 hu with rfl | hu
    ·exact ht
    ·exact h3 u hu
   ·exact .inr ⟨h1, u, List.mem_cons_of_mem _ h2, h3⟩
  ·rename_i ht
   exact .inr ⟨rfl, t, by simp, by simpa using ht, rfl⟩
theorem chk_two (c : Cfg) : ((chk c).2 = 0 ∧ (chk c).1 = ⟨#[]⟩ ∧ FineC c) ∨ ((chk c).2 = 130 ∧ (chk c).1 ≠ ⟨#[]⟩ ∧ ¬ FineC c) := by
 rcases firstBad_two (zaj c) with ⟨h1, h2, h3⟩ | ⟨h1, t, h2, h3, h4⟩
 ·refine .inl ⟨h1, h2, ?_⟩
  simp [zaj, fineB] at h3
  obtain ⟨a1, a2, a3, a4, a5, a6, ⟨b1, b2, b3, b4⟩, ⟨c1, c2, c3, c4⟩, a7, a8, a9⟩ := h3
  exact ⟨a1, a2, a3, a4, a5, a6, b1, b2, b3, b4, c1, c2, c3, c4, a7, a8, a9⟩
 ·refine .inr ⟨h1, ?_, fun h => ?_⟩
  ·show (zd9 (zaj c)).1 ≠ _
   rw [h4]
   simp only [zaj, List.mem_cons, List.not_mem_nil, or_false] at h2
   rcases h2 with rfl | rfl | rfl | rfl | rfl | rfl | rfl | rfl | rfl | rfl | rfl <;> intro e <;> cases e
  ·simp only [zaj, List.mem_cons, List.not_mem_nil, or_false] at h2
   obtain ⟨a1, a2, a3, a4, a5, a6, b1, b2, b3, b4, c1, c2, c3, c4, a7, a8, a9⟩ := h
   rcases h2 with rfl | rfl | rfl | rfl | rfl | rfl | rfl | rfl | rfl | rfl | rfl <;> simp [fineB, *] at h3
theorem chk_fine {c : Cfg} : (chk c).2 = 0 ↔ FineC c := by
 rcases chk_two c with ⟨h1, h2, h3⟩ | ⟨h1, h2, h3⟩
 ·exact ⟨fun _ => h3, fun _ => h1⟩
 ·exact ⟨fun h => by omega, fun h => absurd h h3⟩
end Go.Gim

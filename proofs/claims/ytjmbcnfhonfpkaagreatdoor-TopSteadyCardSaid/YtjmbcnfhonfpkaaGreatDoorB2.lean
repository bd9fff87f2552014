import Derived.Test.YtjmbcnfhonfpkaaGreatDoorL1
import Derived.Test.YtjmbcnfhonfpkaaGreatDoorM3
import Derived.Test.YtjmbcnfhonfpkaaGreatDoorLI4
import Derived.Test.YtjmbcnfhonfpkaaGreatDoorLR5
set_option linter.unusedSimpArgs false
set_option linter.unusedVariables false
/- Lists and rows of whole numbers as data: how they are read; how large numbers may be. -/
namespace Go.Gim
def ints (l : List Int) : V := .sl (l.map (V.int .i64))
theorem map_at {α : Type} {f : α → V} {l : List α} {i : Nat} (d : α) (h : i < l.length) : (l.map f)[i]? = some (f (l.getD i d)) := by simp [h, List.getD_eq_getElem?_getD]
theorem zgs {α : Type} {f : α → V} (d : α) {es : Nat} (hc : ∀ x, (f x).cells.length = es) {l : List α} {dr : Bool} {nx : Nat} {H : Hp} {k : IntKind} {j : Int} {Kn : V → Prop} {u : Dep Kn} (h0 : 0 ≤ j) (h1 : j < l.length) :
  idxB dr nx H es (.sl (l.map f)) (.int k j) Kn u = Kn (.pp (f (l.getD j.toNat d))) := by
 have e : (l.map f)[j.toNat]? = some (f (l.getD j.toNat d)) := map_at d (by omega)
 refine propext ⟨fun ⟨_, v, h2, h3, h4⟩ => ?_, fun h => idxB_sl h0 e (hc _) h⟩
 rw [e] at h2; cases h2; exact h4
theorem idxB_int {l : List Int} {dr : Bool} {nx : Nat} {H : Hp} {k : IntKind} {j : Int} {Kn : V → Prop} {u : Dep Kn} (h0 : 0 ≤ j) (h1 : j < l.length) :
  idxB dr nx H 1 (.sl (l.map (V.int .i64))) (.int k j) Kn u = Kn (.pp (.int .i64 (l.getD j.toNat 0))) := zgs (f := V.int .i64) 0 (fun _ => rfl) h0 h1
theorem idxB_ints {l : List (List Int)} {dr : Bool} {nx : Nat} {H : Hp} {k : IntKind} {j : Int} {Kn : V → Prop} {u : Dep Kn} (h0 : 0 ≤ j) (h1 : j < l.length) :
  idxB dr nx H 1 (.sl (l.map ints)) (.int k j) Kn u = Kn (.pp (ints (l.getD j.toNat []))) := zgs (f := ints) [] (fun _ => rfl) h0 h1
theorem zgm {α : Type} {f : α → V} {l : List α} (h : ∀ x, V.Pure (f x)) : ∀ v ∈ l.map f, V.Pure v := fun v hv => by obtain ⟨a, _, rfl⟩ := List.mem_map.1 hv; exact h a
theorem pure_ints {l : List Int} : ∀ v ∈ l.map (V.int .i64), V.Pure v := zgm fun x => .int _ _
@[simp] theorem ints_pure (l : List Int) : (ints l).Pure := .sl _
theorem zfk {α : Type} {f : α → V} {l : List α} {H : Hp} {n : Nat} (h : ∀ x, frz H n (f x) = some (f x)) : allOf (frz H n) (l.map f) = some (l.map f) := allOf_self fun v hv => by obtain ⟨a, _, rfl⟩ := List.mem_map.1 hv; exact h a
theorem zef {α : Type} {l : List α} {i : Nat} (d : α) (h : i < l.length) : l.take (i + 1) = l.take i ++ [l.getD i d] := by rw [List.take_add_one]; simp [List.getD_eq_getElem?_getD, h]
theorem zh1 {α β : Type} (f : α → β) (l : List α) (x : α) : l.map f ++ [f x] = (l ++ [x]).map f := by simp
theorem zaz {α : Type} {l : List α} {i : Nat} (d : α) (h : i < l.length) : l.getD i d ∈ l := by simp [List.getD_eq_getElem?_getD, h]
theorem loadO_gen {nx b n i es size : Nat} {ag dr : Bool} {xs : List V} {e : V} (hd : dr = true → b < nx) (hl : xs.length = n) (he : xs[i]? = some e) (hs : e.cells.length = size) (ha : e.isAgg = ag) : loadO dr nx b (some ⟨xs, es⟩) n i 0 size ag = some e := by
 unfold loadO
 rw [if_neg (fun h => by have := hd h.1; omega)]
 simp [hl, he, V.part, hs, ha]
theorem zh5 {b n i es size : Nat} {xs : List V} {x e : V} (hl : xs.length = n) (he : xs[i]? = some e) (hes : e.cells.length = size) (hx : x.cells.length = size) (ha : x.isAgg = e.isAgg) (hc : x.cells.all V.cellOk = true) : zf8 b (some ⟨xs, es⟩) n i 0 size x = some (b, ⟨xs.set i x, es⟩) := by
 unfold zf8
 simp only
 rw [if_pos ⟨hl, hx, hc⟩, he]
 simp [V.setPart, hx, hes, ha]
end Go.Gim
/- Lists and rows of whole numbers of any size; what walks rewrite by. -/
namespace Go.Gim
def ivl (l : List Int) : V := .sl (l.map IV)
theorem ivl_eq (l : List Int) : ivl l = .sl (l.map IV) := rfl
@[simp] theorem ivl_pure (l : List Int) : (ivl l).Pure := .sl _
section idx
variable {dr : Bool} {nx : Nat} {H : Hp} {k : IntKind} {j : Int} {Kn : V → Prop} {u : Dep Kn}
theorem idxB_iv {l : List Int} (h0 : 0 ≤ j) (h1 : j < l.length) : idxB dr nx H 2 (.sl (l.map IV)) (.int k j) Kn u = Kn (.pp (IV (l.getD j.toNat 0))) := zgs (f := IV) 0 (fun _ => rfl) h0 h1
theorem idxB_dv {l : List Int} (h0 : 0 ≤ j) (h1 : j < l.length) : idxB dr nx H 2 (.sl (l.map DV)) (.int k j) Kn u = Kn (.pp (DV (l.getD j.toNat 0))) := zgs (f := DV) 0 (fun _ => rfl) h0 h1
theorem idxB_ivl {l : List (List Int)} (h0 : 0 ≤ j) (h1 : j < l.length) : idxB dr nx H 1 (.sl (l.map ivl)) (.int k j) Kn u = Kn (.pp (ivl (l.getD j.toNat []))) := zgs (f := ivl) [] (fun _ => rfl) h0 h1
end idx
theorem IV_fold (x : Int) : V.agg [.bool (decide (x < 0)), .sl (nats .u32 (digs W32 x.natAbs))] = IV x := rfl
theorem DV_fold (x : Int) : V.agg [.bool (decide (x < 0)), .sl (nats .i64 (digs 10 x.natAbs))] = DV x := rfl
abbrev In64 (n : Int) : Prop := -9223372036854775808 ≤ n ∧ n ≤ 9223372036854775807
theorem newV_mk {es bytes n : Nat} {zero : V} {k1 k2 : IntKind} (h1 : bytes * n ≤ 140737488355328) (h2 : n ≤ 140737488355328) (hz : zero.cells.length = es) (he : 0 < es) : newV (.mks es bytes zero) [.int k1 (n : Int), .int k2 (n : Int)] = some (n, ⟨List.replicate n zero, es⟩) := by
 simp only [newV]
 rw [if_pos ⟨by omega, by omega, by omega, by omega, hz, he⟩]
 simp
theorem newV_mkI {bytes n : Nat} {k1 k2 : IntKind} (h1 : bytes * n ≤ 140737488355328) (h2 : n ≤ 140737488355328) : newV (.mks 1 bytes (.int .i64 0)) [.int k1 (n : Int), .int k2 (n : Int)] = some (n, ⟨(List.replicate n 0).map (V.int .i64), 1⟩) := by
 rw [newV_mk (es := 1) (zero := .int .i64 0) h1 h2 rfl (by decide)]; simp
theorem newV_mkN {bytes n : Nat} {k1 k2 : IntKind} (h1 : bytes * n ≤ 140737488355328) (h2 : n ≤ 140737488355328) : newV (.mks 1 bytes .nil) [.int k1 (n : Int), .int k2 (n : Int)] = some (n, ⟨List.replicate n .nil, 1⟩) := newV_mk h1 h2 rfl (by decide)
theorem zdl : IV 0 = .agg [.bool false, .sl []] := by
 show V.agg [.bool (decide ((0 : Int) < 0)), .sl (nats .u32 (digs W32 (0 : Int).natAbs))] = _
 rw [show (0 : Int).natAbs = 0 from rfl, zdm]; rfl
theorem newV_mkV {bytes n : Nat} {k1 k2 : IntKind} (h1 : bytes * n ≤ 140737488355328) (h2 : n ≤ 140737488355328) : newV (.mks 2 bytes (.agg [.bool false, .sl []])) [.int k1 (n : Int), .int k2 (n : Int)] = some (n, ⟨(List.replicate n 0).map IV, 2⟩) := by
 rw [newV_mk (es := 2) (zero := .agg [.bool false, .sl []]) h1 h2 rfl (by decide), ← zdl]; simp
theorem storeO_iv {b n i : Nat} {l : List Int} {y : Int} (hl : l.length = n) (hi : i < n) : zf8 b (some ⟨l.map IV, 2⟩) n i 0 2 (IV y) = some (b, ⟨(l.set i y).map IV, 2⟩) := by
 rw [zh5 (size := 2) (es := 2) (x := IV y) (e := IV (l.getD i 0)) (by simpa using hl) (map_at 0 (by omega)) rfl rfl rfl rfl, List.map_set]
theorem loadO_iv {dr : Bool} {nx b n i : Nat} {l : List Int} (hl : l.length = n) (hi : i < n) (hd : dr = false ∨ b < nx) : loadO dr nx b (some ⟨l.map IV, 2⟩) n i 0 2 true = some (IV (l.getD i 0)) :=
 loadO_gen (fun h => by rcases hd with hd | hd; (rw [hd] at h; cases h); exact hd) (by simpa using hl) (map_at 0 (by omega)) rfl rfl
theorem storeO_dv {b n i : Nat} {l : List Int} {y : Int} (hl : l.length = n) (hi : i < n) : zf8 b (some ⟨l.map DV, 2⟩) n i 0 2 (DV y) = some (b, ⟨(l.set i y).map DV, 2⟩) := by
 rw [zh5 (size := 2) (es := 2) (x := DV y) (e := DV (l.getD i 0)) (by simpa using hl) (map_at 0 (by omega)) rfl rfl rfl rfl, List.map_set]
theorem loadO_dv {dr : Bool} {nx b n i : Nat} {l : List Int} (hl : l.length = n) (hi : i < n) (hd : dr = false ∨ b < nx) : loadO dr nx b (some ⟨l.map DV, 2⟩) n i 0 2 true = some (DV (l.getD i 0)) :=
 loadO_gen (fun h => by rcases hd with hd | hd; (rw [hd] at h; cases h); exact hd) (by simpa using hl) (map_at 0 (by omega)) rfl rfl
theorem storeO_int {b n i : Nat} {l : List Int} {y : Int} (hl : l.length = n) (hi : i < n) : zf8 b (some ⟨l.map (V.int .i64), 1⟩) n i 0 1 (.int .i64 y) = some (b, ⟨(l.set i y).map (V.int .i64), 1⟩) := by
 rw [zh5 (size := 1) (es := 1) (x := .int .i64 y) (e := V.int .i64 (l.getD i 0)) (by simpa using hl) (map_at (f := V.int .i64) 0 (by omega)) rfl rfl rfl rfl, List.map_set]
theorem loadO_int {dr : Bool} {nx b n i : Nat} {l : List Int} (hl : l.length = n) (hi : i < n) (hd : dr = false ∨ b < nx) : loadO dr nx b (some ⟨l.map (V.int .i64), 1⟩) n i 0 1 false = some (.int .i64 (l.getD i 0)) :=
 loadO_gen (fun h => by rcases hd with hd | hd; (rw [hd] at h; cases h); exact hd) (by simpa using hl) (map_at (f := V.int .i64) 0 (by omega)) rfl rfl
theorem loadO_ivf {nx b n i : Nat} {l : List Int} (hl : l.length = n) (hi : i < n) : loadO false nx b (some ⟨l.map IV, 2⟩) n i 0 2 true = some (IV (l.getD i 0)) := loadO_iv hl hi (.inl rfl)
theorem loadO_ivt {nx b n i : Nat} {l : List Int} (hl : l.length = n) (hi : i < n) (hd : b < nx) : loadO true nx b (some ⟨l.map IV, 2⟩) n i 0 2 true = some (IV (l.getD i 0)) := loadO_iv hl hi (.inr hd)
theorem loadO_dvf {nx b n i : Nat} {l : List Int} (hl : l.length = n) (hi : i < n) : loadO false nx b (some ⟨l.map DV, 2⟩) n i 0 2 true = some (DV (l.getD i 0)) := loadO_dv hl hi (.inl rfl)
theorem loadO_dvt {nx b n i : Nat} {l : List Int} (hl : l.length = n) (hi : i < n) (hd : b < nx) : loadO true nx b (some ⟨l.map DV, 2⟩) n i 0 2 true = some (DV (l.getD i 0)) := loadO_dv hl hi (.inr hd)
theorem loadO_intf {nx b n i : Nat} {l : List Int} (hl : l.length = n) (hi : i < n) : loadO false nx b (some ⟨l.map (V.int .i64), 1⟩) n i 0 1 false = some (.int .i64 (l.getD i 0)) := loadO_int hl hi (.inl rfl)
theorem loadO_intt {nx b n i : Nat} {l : List Int} (hl : l.length = n) (hi : i < n) (hd : b < nx) : loadO true nx b (some ⟨l.map (V.int .i64), 1⟩) n i 0 1 false = some (.int .i64 (l.getD i 0)) := loadO_int hl hi (.inr hd)
def upto (n i : Nat) (f : Nat → Int) : List Int := (List.range n).map fun k => if k < i then f k else 0
theorem upto_len (n i f) : (upto n i f).length = n := by simp [upto]
theorem upto_zero (n f) : upto n 0 f = List.replicate n 0 := by
 refine List.ext_getElem (by simp [upto]) fun i h1 h2 => by simp [upto]
theorem upto_set {n i : Nat} {f : Nat → Int} (h : i < n) : (upto n i f).set i (f i) = upto n (i + 1) f := by
 refine List.ext_getElem (by simp [upto]) fun k h1 h2 => ?_
 simp only [upto, List.getElem_set, List.getElem_map, List.getElem_range]
 by_cases hk : i = k
 ·subst hk; simp
 ·rw [if_neg hk]
  by_cases h3 : k < i
  ·rw [if_pos h3, if_pos (by omega)]
  ·rw [if_neg h3, if_neg (by omega)]
theorem upto_all (n f) : upto n n f = (List.range n).map f := List.map_congr_left fun k hk => by simp at hk; simp [hk]
theorem zia {α : Type} {n i : Nat} {f : Nat → α} {v : α} : ((List.range n).map f).set i v = (List.range n).map fun k => if k = i then v else f k := by
 refine List.ext_getElem (by simp) fun k h1 h2 => ?_
 simp only [List.getElem_set, List.getElem_map, List.getElem_range]
 by_cases h : i = k
 ·subst h; simp
 ·rw [if_neg h, if_neg (by omega)]
theorem range_snoc {α : Type} (f : Nat → α) (n : Nat) : (List.range n).map f ++ [f n] = (List.range (n + 1)).map f := by simp [List.range_succ]
theorem zbh {α : Type} {f : Nat → α} {n i : Nat} (d : α) (h : i < n) : ((List.range n).map f).getD i d = f i := by simp [List.getD_eq_getElem?_getD, h]
def els (n i : Nat) (f : Nat → V) : List V := (List.range n).map fun k => if k < i then f k else .nil
theorem els_len (n i f) : (els n i f).length = n := by simp [els]
theorem zE : (∀ n i f, (upto n i f).length = n) ∧ (∀ n i f, (els n i f).length = n) ∧ (∀ n, (List.range n).length = n) ∧ (∀ k l, (nats k l).length = l.length) ∧ (∀ (α β : Type) (f : α → β) (l : List α), (l.map f).length = l.length) ∧ (∀ (α : Type) (l : List α) (i : Nat) (a : α), (l.set i a).length = l.length) ∧ (∀ (α : Type) (n : Nat) (a : α), (List.replicate n a).length = n) ∧ (∀ (α : Type) (l m : List α), (l ++ m).length = l.length + m.length) ∧ (∀ (α : Type) (a : α) (l : List α), (a :: l).length = l.length + 1) ∧ (∀ (α : Type), ([] : List α).length = 0) :=
 ⟨upto_len, els_len, fun _ => List.length_range, zL.1, zL.2.1, zL.2.2.1, zL.2.2.2.1, zL.2.2.2.2.1, fun _ _ _ => rfl, fun _ => rfl⟩
theorem zdE {p : Prop} (h : p := by (first | assumption | omega | (simp only [zE] <;> omega) | (apply zhn <;> simp))) : p := h
theorem sgo {a b : Prop} (k : b) (h : a = b := by simp -dsimp -implicitDefEqProofs (disch := (first | assumption | omega | (simp only [zE] <;> omega) | (apply zhn <;> simp))) only [go_sem]; try rfl) : a := h ▸ k
theorem els_zero (n f) : els n 0 f = List.replicate n .nil := by
 refine List.ext_getElem (by simp [els]) fun i h1 h2 => by simp [els]
theorem els_set {n i : Nat} {f : Nat → V} (h : i < n) : (els n i f).set i (f i) = els n (i + 1) f := by
 refine List.ext_getElem (by simp [els]) fun k h1 h2 => ?_
 simp only [els, List.getElem_set, List.getElem_map, List.getElem_range]
 by_cases hk : i = k
 ·subst hk; simp
 ·rw [if_neg hk]
  by_cases h3 : k < i
  ·rw [if_pos h3, if_pos (by omega)]
  ·rw [if_neg h3, if_neg (by omega)]
theorem els_all (n f) : els n n f = (List.range n).map f := List.map_congr_left fun k hk => by simp at hk; simp [hk]
theorem storeO_els {b n i : Nat} {f : Nat → V} {v : V} (hi : i < n) (hv : v = f i) (hc : v.cells.length = 1) (ha : v.isAgg = false) (ho : v.cells.all V.cellOk = true) : zf8 b (some ⟨els n i f, 1⟩) n i 0 1 v = some (b, ⟨els n (i + 1) f, 1⟩) := by
 subst hv
 rw [zh5 (size := 1) (es := 1) (e := .nil) (els_len _ _ _) (by simp [els, hi]) rfl hc ha ho, els_set hi]
theorem ghost_drop {env : Nat → V} {H H' : Hp} {nx : Nat} (h : ∀ b, H' b = none ∨ H' b = H b) : Ghost ⟨env, H, nx, nx⟩ ⟨env, H', nx, nx⟩ := .drop ⟨env, H, nx, nx⟩ H' h
theorem ze4 {caps : List V} (hc : ∀ v ∈ caps, V.Pure v) (k : IntKind) (i : Int) : ∀ v ∈ V.int k i :: caps, V.Pure v := fun v hv => by
 rcases List.mem_cons.1 hv with rfl | hv
 ·exact .int _ _
 ·exact hc v hv
@[go_sem] theorem cells_ints (l : List Int) : (ints l).cells = [ints l] := rfl
@[go_sem] theorem isAgg_ints (l : List Int) : (ints l).isAgg = false := rfl
@[go_sem] theorem isJunk_ints (l : List Int) : (ints l).isJunk = false := rfl
@[go_sem] theorem cellOk_ints (l : List Int) : (ints l).cellOk = true := rfl
@[go_sem] theorem frz_ints (H : Hp) (n : Nat) (l : List Int) : frz H (n + 1) (ints l) = some (ints l) := rfl
@[go_sem] theorem lenB_ints (dr : Bool) (nx : Nat) (H : Hp) (l : List Int) : lenB dr nx H false (ints l) = some (.int .i64 l.length) := by
 show some (V.int .i64 ((l.map (V.int .i64)).length : Nat)) = _
 simp
theorem idxB_ints_ {l : List Int} {dr : Bool} {nx : Nat} {H : Hp} {k : IntKind} {j : Int} {Kn : V → Prop} {u : Dep Kn} (h0 : 0 ≤ j) (h1 : j < l.length) : idxB dr nx H 1 (ints l) (.int k j) Kn u = Kn (.pp (V.int .i64 (l.getD j.toNat 0))) := zgs (f := V.int .i64) 0 (fun _ => rfl) h0 h1
theorem sub_ints (g) (l : List Int) : V.sub g (ints l) = ints l := by simp [ints, V.sub]
attribute [go_sem] idxB_ints_
@[go_sem] theorem cells_ivl (l : List Int) : (ivl l).cells = [ivl l] := rfl
@[go_sem] theorem isAgg_ivl (l : List Int) : (ivl l).isAgg = false := rfl
@[go_sem] theorem isJunk_ivl (l : List Int) : (ivl l).isJunk = false := rfl
@[go_sem] theorem cellOk_ivl (l : List Int) : (ivl l).cellOk = true := rfl
@[go_sem] theorem frz_ivl (H : Hp) (n : Nat) (l : List Int) : frz H (n + 1) (ivl l) = some (ivl l) := rfl
@[go_sem] theorem lenB_ivl (dr : Bool) (nx : Nat) (H : Hp) (l : List Int) : lenB dr nx H false (ivl l) = some (.int .i64 l.length) := by
 show some (V.int .i64 ((l.map (IV)).length : Nat)) = _
 simp
theorem idxB_ivl_ {l : List Int} {dr : Bool} {nx : Nat} {H : Hp} {k : IntKind} {j : Int} {Kn : V → Prop} {u : Dep Kn} (h0 : 0 ≤ j) (h1 : j < l.length) : idxB dr nx H 2 (ivl l) (.int k j) Kn u = Kn (.pp (IV (l.getD j.toNat 0))) := zgs (f := IV) 0 (fun _ => rfl) h0 h1
theorem sub_ivl (g) (l : List Int) : V.sub g (ivl l) = ivl l := by simp [ivl, V.sub]
attribute [go_sem] idxB_ivl_
@[go_sem] theorem redV_ldP (size : Nat) (ag : Bool) (u : V) : redV (.ldP size ag) [.pp u] = V.part u 0 size ag := rfl
@[go_sem] theorem redV_faP (off size : Nat) (ag : Bool) (u : V) : redV (.faP off size ag) [.pp u] = (V.part u off size ag).map .pp := rfl
theorem redV_ix {α : Type} {f : α → V} (d : α) {es : Nat} (hc : ∀ x, (f x).cells.length = es) {l : List α} {k : IntKind} {j : Int} (h0 : 0 ≤ j) (h1 : j < l.length) : redV (.ixP es) [.sl (l.map f), .int k j] = some (.pp (f (l.getD j.toNat d))) := by
 simp only [redV]
 rw [if_pos h0, map_at d (by omega)]
 simp [hc]
section ix
variable {k : IntKind} {j : Int}
theorem redV_ints {l : List Int} (h0 : 0 ≤ j) (h1 : j < l.length) : redV (.ixP 1) [ints l, .int k j] = some (.pp (.int .i64 (l.getD j.toNat 0))) := redV_ix (f := V.int .i64) 0 (fun _ => rfl) h0 h1
theorem redV_ivl {l : List Int} (h0 : 0 ≤ j) (h1 : j < l.length) : redV (.ixP 2) [ivl l, .int k j] = some (.pp (IV (l.getD j.toNat 0))) := redV_ix (f := IV) 0 (fun _ => rfl) h0 h1
theorem redV_ivm {l : List (List Int)} (h0 : 0 ≤ j) (h1 : j < l.length) : redV (.ixP 1) [.sl (l.map ivl), .int k j] = some (.pp (ivl (l.getD j.toNat []))) := redV_ix (f := ivl) [] (fun _ => rfl) h0 h1
theorem redV_intm {l : List (List Int)} (h0 : 0 ≤ j) (h1 : j < l.length) : redV (.ixP 1) [.sl (l.map ints), .int k j] = some (.pp (ints (l.getD j.toNat []))) := redV_ix (f := ints) [] (fun _ => rfl) h0 h1
end ix
attribute [go_sem] redV_ints redV_ivl redV_ivm redV_intm
theorem upd_at_ne {H H3 : Hp} {b c : Nat} {x y : Option Blk} (h : H.upd b x = H3) (hy : H c = y) (hc : c ≠ b) : H3 c = y := by rw [← h, Hp.upd_ne _ _ hc]; exact hy
theorem upd_at_same {H H3 : Hp} {b : Nat} {x : Option Blk} (h : H.upd b x = H3) : H3 b = x := by rw [← h]; exact Hp.upd_same _ _ _
theorem Row.upd {lo nx es b : Nat} {H : Hp} {v : V} {xs : List V} {x : Option Blk} (h : Row lo H nx v es xs) (hb : b < lo) : Row lo (H.upd b x) nx v es xs := by
 rcases h with h | ⟨c, h1, h2, h3, h4⟩
 ·exact .inl h
 ·exact .inr ⟨c, h1, h2, h3, by rw [Hp.upd_ne _ _ (by omega)]; exact h4⟩
theorem Row.flat {lo nx es : Nat} {H : Hp} {v : V} {xs : List V} (h : Row lo H nx v es xs) : v.isAgg = false ∧ v.cellOk = true ∧ v.cells = [v] ∧ v.isJunk = false := by
 rcases h with ⟨rfl, _⟩ | ⟨b, rfl, _⟩ <;> exact ⟨rfl, rfl, rfl, rfl⟩
theorem Row.own_of {lo nx es : Nat} {H : Hp} {v : V} {xs : List V} (h : Row lo H nx v es xs) (hne : 0 < xs.length) : ∃ b, v = .own b xs.length ∧ lo ≤ b ∧ b < nx ∧ H b = some ⟨xs, es⟩ := by
 rcases h with ⟨_, rfl⟩ | h
 ·simp at hne
 ·exact h
theorem E_subl (g : Nat → Option (List V)) (l : List (Nat × V)) : (fun s => (E l s).sub g) = E (l.map fun p => (p.1, p.2.sub g)) := by
 funext s
 induction l with
 | nil => simp [E, V.sub]
 | cons p l ih =>
  obtain ⟨a, v⟩ := p
  simp only [List.map_cons, E]
  split
  ·rfl
  ·exact ih
theorem gh_fz1 {P : Program} {a : K} {Q : AX → St → Prop} {u : Dep Q} {l l' : List (Nat × V)} {H : Hp} {nx es : Nat} (c : Nat) (xs : List V) (hb : H c = some ⟨xs, es⟩) (hp : ∀ x ∈ xs, V.Pure x) (hl : l.map (fun p => (p.1, p.2.sub (fz1 c xs))) = l') (hk : Wb P a Q u ⟨E l', H.sub (fz1 c xs), nx, nx⟩) : Wb P (.gh a) Q u ⟨E l, H, nx, nx⟩ := by
 refine W_gh (S0 := ⟨E l', H.sub (fz1 c xs), nx, nx⟩) ?_ hk
 have := Ghost.fz ⟨E l, H, nx, nx⟩ (fz1 c xs) (fz1_ok hb hp)
 unfold St.fz at this
 rw [E_subl, hl] at this
 exact this
theorem zex {xs : List V} (hp : ∀ x ∈ xs, V.Pure x) (g : Nat → Option (List V)) : xs.map (V.sub g) = xs := by
 have : xs.map (V.sub g) = xs.map id := List.map_congr_left fun x hx => zct _ (hp x hx)
 simpa using this
theorem Row.sub {lo nx es c : Nat} {H : Hp} {v : V} {xs ys : List V} (h : Row lo H nx v es xs) (hp : ∀ x ∈ xs, V.Pure x) (hc : ∀ n, v ≠ .own c n) : Row lo (H.sub (fz1 c ys)) nx v es xs ∧ v.sub (fz1 c ys) = v := by
 rcases h with ⟨rfl, h⟩ | ⟨b, rfl, h2, h3, h4⟩
 ·exact ⟨.inl ⟨rfl, h⟩, by simp [V.sub]⟩
 ·have hb : b ≠ c := fun e => hc _ (by rw [e])
  refine ⟨.inr ⟨b, rfl, h2, h3, ?_⟩, by simp [V.sub, fz1, hb]⟩
  simp [Hp.sub, fz1, hb, h4, zex hp]
theorem Row.told {lo0 nx0 nx lo es : Nat} {H H' : Hp} {v : V} {xs : List V} (h : Row lo0 H nx0 v es xs) (hlo : nx0 ≤ lo) (hnx : nx0 ≤ nx) (hp : ∀ x ∈ xs, V.Pure x) (hH : ∀ b blk, b < lo → H b = some blk → (∀ x ∈ blk.elems, V.Pure x) → H' b = some blk) : Row lo0 H' nx v es xs := by
 rcases h with h | ⟨b, rfl, h1, h2, h3⟩
 ·exact .inl h
 ·exact .inr ⟨b, rfl, h1, by omega, hH b _ (by omega) h3 hp⟩
def subE (g : Nat → Option (List V)) (f : Nat → V) : Nat → V := fun s => (f s).sub g
@[go_sem] theorem subE_upd (g : Nat → Option (List V)) (f : Nat → V) (k : Nat) (v : V) : subE g (upd f k v) = upd (subE g f) k (v.sub g) := by
 funext s; simp only [subE, upd]; split <;> rfl
@[go_sem] theorem subE_E (g : Nat → Option (List V)) (l : List (Nat × V)) : subE g (E l) = E (l.map fun p => (p.1, p.2.sub g)) := E_subl g l
theorem zg9 {P : Program} {env : Nat → V} {hi : Nat} {H : Hp} {f : Nat} {args args2 : List V} {r : V} {K : (Nat → V) → V → Hp → Nat → Prop} {u : Dep K} (g : Nat → Option (List V)) (hg : Fz H g) (ha : args.map (V.sub g) = args2) (hr : Ret P f args2 r) (hp : ∀ v ∈ args2, v.Pure) (hk : K (subE g env) r (H.sub g) hi) : callB P false env H hi f args K u := callB_fr g hg ha hr hp hk
attribute [go_sem] sub_agg sub_tup sub_fn sub_IV sub_DV sub_ints sub_ivl fz1_at
@[go_sem] theorem sub_c_int (g) (k : IntKind) (n : Int) : V.sub g (.int k n) = .int k n := by simp [V.sub]
@[go_sem] theorem sub_c_bool (g) (b : Bool) : V.sub g (.bool b) = .bool b := by simp [V.sub]
@[go_sem] theorem sub_c_str (g) (s : ByteArray) : V.sub g (.str s) = .str s := by simp [V.sub]
@[go_sem] theorem sub_c_sl (g) (xs : List V) : V.sub g (.sl xs) = .sl xs := by simp [V.sub]
@[go_sem] theorem sub_c_nil (g) : V.sub g .nil = .nil := by simp [V.sub]
@[go_sem] theorem sub_c_pp (g) (v : V) : V.sub g (.pp v) = .pp v := by simp [V.sub]
@[go_sem] theorem sub_c_undef (g) : V.sub g .undef = .undef := by simp [V.sub]
@[go_sem] theorem sub_c_junk (g) : V.sub g .junk = .junk := by simp [V.sub]
@[go_sem] theorem sub_c_nilptr (g) : V.sub g .nilptr = .nilptr := by simp [V.sub]
@[go_sem] theorem sub_c_nilfn (g) : V.sub g .nilfn = .nilfn := by simp [V.sub]
def subO (o : Option (List V)) (b m : Nat) : V := match o with | some xs => if xs.length = m then .sl xs else .own b m | none => .own b m
@[go_sem] theorem sub_c_own (g : Nat → Option (List V)) (b m : Nat) : V.sub g (.own b m) = subO (g b) b m := by rw [V.sub]; rfl
@[go_sem] theorem subO_none (b m : Nat) : subO none b m = .own b m := rfl
theorem subO_some {xs : List V} {m : Nat} (h : xs.length = m) (b : Nat) : subO (some xs) b m = .sl xs := by simp [subO, h]
def subP (o : Option (List V)) (b m i off : Nat) : V := match o with | some xs => if xs.length = m ∧ off = 0 then (match xs[i]? with | some e => .pp e | none => .ptr b m i off) else .ptr b m i off | none => .ptr b m i off
@[go_sem] theorem sub_c_ptr (g : Nat → Option (List V)) (b m i off : Nat) : V.sub g (.ptr b m i off) = subP (g b) b m i off := by rw [V.sub]; rfl
@[go_sem] theorem subP_none (b m i off : Nat) : subP none b m i off = .ptr b m i off := rfl
@[go_sem] theorem subP_one (e : V) (b : Nat) : subP (some [e]) b 1 0 0 = .pp e := rfl
def subB (o : Option (List V)) (g : Nat → Option (List V)) (blk : Blk) : Option Blk := match o with | some _ => none | none => some ⟨blk.elems.map (V.sub g), blk.size⟩
@[go_sem] theorem subB_none (g : Nat → Option (List V)) (xs : List V) (es : Nat) : subB none g ⟨xs, es⟩ = some ⟨xs.map (V.sub g), es⟩ := rfl
@[go_sem] theorem subB_some (xs : List V) (g : Nat → Option (List V)) (blk : Blk) : subB (some xs) g blk = none := rfl
@[go_sem] theorem Hsub_some (g : Nat → Option (List V)) (H : Hp) (b : Nat) (blk : Blk) : Hp.sub g (H.upd b (some blk)) = (Hp.sub g H).upd b (subB (g b) g blk) := by
 funext c
 simp only [Hp.sub, Hp.upd, subB]
 by_cases h : c = b
 ·subst h; cases g c <;> simp
 ·simp [h]
@[go_sem] theorem Hsub_no (g : Nat → Option (List V)) (H : Hp) (b : Nat) : Hp.sub g (H.upd b none) = (Hp.sub g H).upd b none := by
 funext c
 simp only [Hp.sub, Hp.upd]
 by_cases h : c = b
 ·subst h; simp
 ·simp [h]
@[go_sem] theorem Hsub_nil (g : Nat → Option (List V)) : Hp.sub g (fun _ => none) = fun _ => none := by funext c; simp [Hp.sub]
theorem msub {α : Type} {f : α → V} (h : ∀ g x, V.sub g (f x) = f x) (g : Nat → Option (List V)) (l : List α) : (l.map f).map (V.sub g) = l.map f := by simp [h]
@[go_sem] theorem msub_iv (g) (l : List Int) : (l.map IV).map (V.sub g) = l.map IV := msub sub_IV g l
@[go_sem] theorem msub_dv (g) (l : List Int) : (l.map DV).map (V.sub g) = l.map DV := msub sub_DV g l
@[go_sem] theorem msub_int (g) (k : IntKind) (l : List Int) : (l.map (V.int k)).map (V.sub g) = l.map (V.int k) := msub (fun g x => sub_c_int g k x) g l
@[go_sem] theorem msub_ints (g) (l : List (List Int)) : (l.map ints).map (V.sub g) = l.map ints := msub sub_ints g l
@[go_sem] theorem msub_ivl (g) (l : List (List Int)) : (l.map ivl).map (V.sub g) = l.map ivl := msub sub_ivl g l
@[go_sem] theorem effV_boxO (H : Hp) (id size : Nat) (x : V) : effV H id (.boxO size) [x] = if x.cells.length = size ∧ x.isJunk = false ∧ 0 < size ∧ x.cells.all V.cellOk then some (.ptr id 1 0 0, H.upd id (some ⟨[x], size⟩)) else none := rfl
def fz2 (c : Nat) (xs : List V) (d : Nat) (y : V) : Nat → Option (List V) := fun b => if b = c then some xs else if b = d then some [y] else none
@[go_sem] theorem fz2_at (c xs d y b) : fz2 c xs d y b = sel (b = c) (some xs) (sel (b = d) (some [y]) none dp dp) dp dp := rfl
theorem fz2_ok {H : Hp} {c d es es' : Nat} {xs : List V} {v y : V} (hcd : c ≠ d) (hb : H c = some ⟨xs, es⟩) (hp : ∀ x ∈ xs, V.Pure x) (hd : H d = some ⟨[v], es'⟩) (hv : v.sub (fz2 c xs d y) = y) (hy : V.Pure y) : Fz H (fz2 c xs d y) := fun b zs h => by
 unfold fz2 at h
 split at h
 ·rename_i e; subst e; cases h
  exact ⟨_, hb, by simpa using (zex hp _).symm, fun e he => (hp e he).cells⟩
 ·split at h
  ·rename_i e; subst e; cases h
   exact ⟨_, hd, by simp [hv], fun e he => by simp at he; subst he; exact hy.cells⟩
  ·cases h
def sumZ (f : Nat → Int) : Nat → Int
 | 0 => 0
 | n + 1 => sumZ f n + f n
theorem zac {f g : Nat → Int} : ∀ {n : Nat}, (∀ k, k < n → f k = g k) → sumZ f n = sumZ g n
 | 0, _ => rfl
 | n + 1, h => by rw [sumZ, sumZ, zac fun k hk => h k (by omega), h n (by omega)]
theorem sumZ_bd {f : Nat → Int} {B : Int} (hB : 0 ≤ B) (h : ∀ k, -B ≤ f k ∧ f k ≤ B) : ∀ n : Nat, -(B * n) ≤ sumZ f n ∧ sumZ f n ≤ B * n
 | 0 => by simp [sumZ]
 | n + 1 => by
  have h1 := sumZ_bd hB h n
  have h2 := h n
  have e : B * ((n + 1 : Nat) : Int) = B * n + B := by rw [Int.natCast_add, Int.mul_add]; simp
  rw [sumZ, e]
  omega
def fzl : List (Nat × List V) → Nat → Option (List V)
 | [], _ => none
 | (c, xs) :: l, b => if b = c then some xs else fzl l b
@[go_sem] theorem fzl_nil (b) : fzl [] b = none := rfl
@[go_sem] theorem fzl_cons (c xs l b) : fzl ((c, xs) :: l) b = sel (b = c) (some xs) (fzl l b) dp dp := rfl
theorem fzl_mem {b : Nat} {xs : List V} : ∀ {l : List (Nat × List V)}, fzl l b = some xs → (b, xs) ∈ l
 | [], h => by cases h
 | (c, ys) :: l, h => by
  unfold fzl at h
  split at h
  ·rename_i e; subst e; cases h; exact List.mem_cons_self
  ·exact List.mem_cons_of_mem _ (fzl_mem h)
theorem fzl_ok {H : Hp} {l : List (Nat × List V)} (h : ∀ p ∈ l, (∃ es ds, H p.1 = some ⟨ds, es⟩ ∧ ds.map (V.sub (fzl l)) = p.2) ∧ ∀ x ∈ p.2, V.Pure x) : Fz H (fzl l) := fun b xs hb => by
 obtain ⟨⟨es, ds, h1, h2⟩, h3⟩ := h _ (fzl_mem hb)
 exact ⟨_, h1, h2.symm, fun e he => (h3 e he).cells⟩
theorem allOf_map {α : Type} {f : V → Option V} {a b : α → V} : ∀ {l : List α}, (∀ k ∈ l, f (a k) = some (b k)) → allOf f (l.map a) = some (l.map b)
 | [], _ => rfl
 | x :: l, h => by
  have ih := allOf_map (f := f) (a := a) (b := b) (l := l) fun k hk => h k (List.mem_cons_of_mem _ hk)
  have hx := h x List.mem_cons_self
  simp only [List.map_cons, allOf, hx, ih]
def V.nn0 : V → V
 | .nil => .sl []
 | v => v
def V.nn : V → V
 | .nil => .sl []
 | .agg cs => .agg (cs.map V.nn0)
 | v => v
theorem Pur.nn0 {M : Nat → Prop} {w : World} {v : V} {x : Value} (h : Pur M w v x) : Pur M w v.nn0 x := by
 cases v <;> first | exact h | (cases h; exact .sl0 _ _)
theorem Pur.nn {M : Nat → Prop} {w : World} {v : V} {x : Value} (h : Pur M w v x) : Pur M w v.nn x := by
 cases v with
 | nil => cases h; exact .sl0 _ _
 | agg cs =>
  cases h with
  | agg cs arr hn hc =>
   refine .agg _ _ (by rw [List.length_map]; exact hn) fun i hi => ?_
   rw [List.length_map] at hi
   have : (cs.map V.nn0).getD i .junk = (cs.getD i .junk).nn0 := by simp [List.getD_eq_getElem?_getD, hi]
   rw [this]
   exact (hc i hi).nn0
 | _ => exact h
theorem Ret.nn {P : Program} {f : Nat} {args args2 : List V} {r : V} (h : Ret P f args2 r) (ha : args.map V.nn = args2) : Ret P f args r := by
 subst ha
 refine ⟨h.1, fun M w vals Mb hg hs hp => h.2 M w vals Mb hg (by rw [hs, List.length_map]) fun k hk => ?_⟩
 rw [List.length_map] at hk
 have : (args.map V.nn).getD k .junk = (args.getD k .junk).nn := by simp [List.getD_eq_getElem?_getD, hk]
 rw [this]
 exact (hp k hk).nn
attribute [simp] isJunk_c_sl isJunk_c_int isJunk_c_bool isJunk_c_str isJunk_c_fn isJunk_c_agg isJunk_c_pp isJunk_ints isJunk_ivl
attribute [go_sem] subO_some IntWalk.i64_in zag List.length_set List.length_map ge_iff_le gt_iff_lt Int.toNat_natCast zb5 zcy zb6 zc0 zcz dlt_t dlt_f dle_t dle_f deq_t deq_f zat lt_ne gt_ne zc7 Nat.add_assoc zcx zc6
attribute [go_sem] zaf zae zad zal DV_cells DV_isAgg DV_isJunk part_DV idxB_int idxB_ints idxB_iv idxB_dv idxB_ivl newV_mkI newV_mkN newV_mkV storeO_iv storeO_dv storeO_int loadO_ivf loadO_ivt loadO_dvf loadO_dvt loadO_intf loadO_intt zec zeb upto_len List.length_range zas frz_DV zah IV_fold DV_fold
end Go.Gim

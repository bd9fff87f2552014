import Derived.Test.YtmfenpedpajfkaaL1
import Derived.Test.YtmfenpedpajfkaaM3
/- Lists and rows of whole numbers as data: how they are read; how large numbers may be. -/
set_option linter.unusedSimpArgs false
set_option linter.unusedVariables false
namespace Go.Gim
def ints (l : List Int) : V := .sl (l.map (V.int .i64))
theorem map_at {α : Type} {f : α → V} {l : List α} {i : Nat} (d : α) (h : i < l.length) : (l.map f)[i]? = some (f (l.getD i d)) := by simp [h, List.getD_eq_getElem?_getD]
theorem idxB_gen {α : Type} {f : α → V} (d : α) {es : Nat} (hc : ∀ x, (f x).cells.length = es) {l : List α} {dr : Bool} {nx : Nat} {H : Hp} {k : IntKind} {j : Int} {Kn : V → Prop} {u : Dep Kn} (h0 : 0 ≤ j) (h1 : j < l.length) :
    idxB dr nx H es (.sl (l.map f)) (.int k j) Kn u = Kn (.pp (f (l.getD j.toNat d))) := by
  have e : (l.map f)[j.toNat]? = some (f (l.getD j.toNat d)) := map_at d (by omega)
  refine propext ⟨fun ⟨_, v, h2, h3, h4⟩ => ?_, fun h => idxB_sl h0 e (hc _) h⟩
  rw [e] at h2; cases h2; exact h4
theorem idxB_int {l : List Int} {dr : Bool} {nx : Nat} {H : Hp} {k : IntKind} {j : Int} {Kn : V → Prop} {u : Dep Kn} (h0 : 0 ≤ j) (h1 : j < l.length) :
    idxB dr nx H 1 (.sl (l.map (V.int .i64))) (.int k j) Kn u = Kn (.pp (.int .i64 (l.getD j.toNat 0))) := idxB_gen (f := V.int .i64) 0 (fun _ => rfl) h0 h1
theorem idxB_ints {l : List (List Int)} {dr : Bool} {nx : Nat} {H : Hp} {k : IntKind} {j : Int} {Kn : V → Prop} {u : Dep Kn} (h0 : 0 ≤ j) (h1 : j < l.length) :
    idxB dr nx H 1 (.sl (l.map ints)) (.int k j) Kn u = Kn (.pp (ints (l.getD j.toNat []))) := idxB_gen (f := ints) [] (fun _ => rfl) h0 h1
theorem pure_map {α : Type} {f : α → V} {l : List α} (h : ∀ x, V.Pure (f x)) : ∀ v ∈ l.map f, V.Pure v := fun v hv => by obtain ⟨a, _, rfl⟩ := List.mem_map.1 hv; exact h a
@[simp] theorem ints_pure (l : List Int) : (ints l).Pure := .sl _
theorem frz_map {α : Type} {f : α → V} {l : List α} {H : Hp} {n : Nat} (h : ∀ x, frz H n (f x) = some (f x)) : allOf (frz H n) (l.map f) = some (l.map f) := allOf_self fun v hv => by obtain ⟨a, _, rfl⟩ := List.mem_map.1 hv; exact h a
theorem take_getD {α : Type} {l : List α} {i : Nat} (d : α) (h : i < l.length) : l.take (i + 1) = l.take i ++ [l.getD i d] := by rw [List.take_add_one]; simp [List.getD_eq_getElem?_getD, h]
theorem map_app {α β : Type} (f : α → β) (l : List α) (x : α) : l.map f ++ [f x] = (l ++ [x]).map f := by simp
theorem getD_mem' {α : Type} {l : List α} {i : Nat} (d : α) (h : i < l.length) : l.getD i d ∈ l := by simp [List.getD_eq_getElem?_getD, h]
theorem loadO_gen {nx b n i es size : Nat} {ag dr : Bool} {xs : List V} {e : V} (hd : dr = true → b < nx) (hl : xs.length = n) (he : xs[i]? = some e) (hs : e.cells.length = size) (ha : e.isAgg = ag) : loadO dr nx b (some ⟨xs, es⟩) n i 0 size ag = some e := by
  unfold loadO
  rw [if_neg (fun h => by have := hd h.1; omega)]
  simp [hl, he, V.part, hs, ha]
theorem storeO_gen {b n i es size : Nat} {xs : List V} {x e : V} (hl : xs.length = n) (he : xs[i]? = some e) (hes : e.cells.length = size) (hx : x.cells.length = size) (ha : x.isAgg = e.isAgg) (hc : x.cells.all V.cellOk = true) : storeO b (some ⟨xs, es⟩) n i 0 size x = some (b, ⟨xs.set i x, es⟩) := by
  unfold storeO
  simp only
  rw [if_pos ⟨hl, hx, hc⟩, he]
  simp [V.setPart, hx, hes, ha]
theorem decL_len (x : Int) : (decL x).length ≤ dlim x + 1 := by
  unfold decL dlim
  split
  · simp
  · split <;> simp <;> omega
end Go.Gim

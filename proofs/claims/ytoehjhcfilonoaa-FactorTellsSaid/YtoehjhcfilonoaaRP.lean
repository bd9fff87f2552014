import Derived.Test.YtoehjhcfilonoaaRA1
import Derived.Test.YtoehjhcfilonoaaSB
import Derived.Test.YtoehjhcfilonoaaHB
/- The reference reads a told number back. -/
set_option maxRecDepth 100000
set_option maxHeartbeats 4000000
set_option linter.unusedSimpArgs false
set_option linter.unusedVariables false
namespace Go.Gim
open Go.Proofs
theorem u8_nat {x : Nat} (h : x < 256) : (UInt8.ofNat x).toNat = x := by rw [UInt8.toNat_ofNat']; omega
theorem idxS_bst {l : List Nat} {i : Nat} (h : ∀ x ∈ l, x < 256) (hi : i < l.length) : redV .idxS [.str (bst l), .int .i64 (i : Int)] = some (.int .u8 (l.getD i 0)) := by
  have e : l.getD i 0 = l[i] := by simp [List.getD_eq_getElem?_getD, hi]
  have hx := h l[i] (List.getElem_mem hi)
  simp only [redV, bst, List.toList_toArray, Int.toNat_natCast]
  rw [if_pos (by omega), List.getElem?_map, List.getElem?_eq_getElem hi, e]
  simp only [Option.map_some, u8_nat hx]
theorem toList_loop (b : ByteArray) : ∀ (n i : Nat) (r : List UInt8), b.size - i = n → ByteArray.toList.loop b i r = r.reverse ++ b.data.toList.drop i
  | 0, i, r, h => by
    rw [ByteArray.toList.loop]
    have hs : b.size = b.data.toList.length := by simp
    rw [if_neg (by omega), List.drop_eq_nil_of_le (by omega), List.append_nil]
  | n + 1, i, r, h => by
    rw [ByteArray.toList.loop]
    have hs : b.size = b.data.toList.length := by simp
    rw [if_pos (by omega), toList_loop b n (i + 1) _ (by omega), List.drop_eq_getElem_cons (show i < b.data.toList.length by omega), List.reverse_cons, List.append_assoc]
    congr 1
    simp only [List.singleton_append]
    congr 1
    have hi : i < b.data.size := by simpa using (show i < b.data.toList.length by omega)
    show b.get! i = _
    simp only [ByteArray.get!]
    rw [getElem!_pos b.data i hi]; simp
theorem toList_data (b : ByteArray) : b.toList = b.data.toList := by
  have := toList_loop b _ 0 [] rfl
  simpa [ByteArray.toList] using this
theorem bst_list (l : List Nat) : (bst l).toList = l.map UInt8.ofNat := by rw [toList_data]; rfl
theorem bst_ne {a b : List Nat} (ha : ∀ x ∈ a, x < 256) (hb : ∀ x ∈ b, x < 256) (h : a ≠ b) : strV .eql (bst a) (bst b) = some (.bool false) := by
  unfold strV
  simp only [bst_list, Option.some.injEq, V.bool.injEq, decide_eq_false_iff_not]
  intro e
  refine h ?_
  have k : ∀ l : List Nat, (∀ x ∈ l, x < 256) → (l.map UInt8.ofNat).map UInt8.toNat = l := fun l hl => by
    rw [List.map_map]
    refine (List.map_congr_left fun x hx => ?_).trans (List.map_id l)
    exact u8_nat (hl x hx)
  rw [← k a ha, ← k b hb, e]
theorem digs_top {n : Nat} (h : n ≠ 0) : (digs 10 n).getD ((digs 10 n).length - 1) 0 ≠ 0 := by
  intro e
  have hl : 0 < (digs 10 n).length := List.length_pos_iff.2 fun h' => h ((digs_nil d2).1 h')
  have h1 : val 10 ((digs 10 n).take ((digs 10 n).length - 1)) = val 10 (digs 10 n) := val_take fun i hi hi' => by
    have : i = (digs 10 n).length - 1 := by omega
    subst this
    rw [List.getD_eq_getElem?_getD, List.getElem?_eq_getElem hi'] at e
    exact e
  have h2 := val_lt d2 (l := (digs 10 n).take ((digs 10 n).length - 1)) fun x hx => digs_lt d2 n x (List.mem_of_mem_take hx)
  have h3 := digs_ge d2 h
  rw [h1, val_digs d2, List.length_take, Nat.min_eq_left (by omega)] at h2
  omega
theorem decL_at {d : List Nat} {i : Nat} (h : i < d.length) : ((d.map (48 + ·)).reverse).getD i 0 = 48 + d.getD (d.length - 1 - i) 0 := by
  simp [List.getD_eq_getElem?_getD, List.getElem?_reverse, h, show d.length - 1 - i < d.length by omega]
theorem rparse_ret (v : Int) (hv : 0 ≤ v) (hd : dlim v ≤ 2000) : Ret pg n_gimbalref01_Parse [.str (decS v)] (.tup [DV v, .int .i64 0]) := by
  refine gimbalref01_Parse.of rfl (W_b ?_)
  unfold gimbalref01_Parse.k gimbalref01_Parse.res
  rw [decS_bst]
  have hlen := decL_len v
  by_cases h0 : v = 0
  · subst h0
    have e : decL 0 = [48] := rfl
    have s1 : strV .eql (bst [48]) ⟨#[48]⟩ = some (.bool true) := bst_eq (a := [48]) (b := [48]) rfl
    have s2 : (bst [48]).size = 1 := rfl
    rw [e]
    simp -dsimp -implicitDefEqProofs (disch := (first | assumption | omega | (simp only [nats_len, List.length_map, List.length_set, List.length_replicate, List.length_append, List.length_range, upto_len, els_len, List.length_cons, List.length_nil] <;> omega) | (apply isPure_intro <;> simp))) only [go_sem, s1, s2]
    rw [DV_zero]
  · have hn : v.natAbs ≠ 0 := by omega
    have hneg : ¬ v < 0 := by omega
    have hT : decL v = ((digs 10 v.natAbs).map (48 + ·)).reverse := by unfold decL; rw [if_neg h0, if_neg hneg]; rfl
    have hdl := digs_lt d2 v.natAbs
    have htop := digs_top hn
    have hval := val_digs d2 v.natAbs
    have hl0 : 0 < (digs 10 v.natAbs).length := List.length_pos_iff.2 fun h' => hn ((digs_nil d2).1 h')
    have hd' : (digs 10 v.natAbs).length ≤ 2000 := hd
    rw [hT]
    generalize digs 10 v.natAbs = d at *
    have hTl : ((d.map (48 + ·)).reverse).length = d.length := by simp
    have hTb : ∀ x ∈ (d.map (48 + ·)).reverse, x < 256 := fun x hx => by
      rw [List.mem_reverse] at hx
      obtain ⟨y, hy, rfl⟩ := List.mem_map.1 hx
      have := hdl y hy; omega
    have hTa := fun i (h : i < d.length) => decL_at (d := d) h
    generalize hTT : (d.map (48 + ·)).reverse = T at *
    have hix := fun i (h : i < d.length) => idxS_bst (l := T) (i := i) hTb (by omega)
    have hsz := bst_size T
    have hx0 : redV .idxS [.str (bst T), .int .i64 0] = some (.int .u8 (T.getD 0 0)) := hix 0 hl0
    have t0 := hTa 0 hl0
    rw [Nat.sub_zero] at t0
    have ht10 := hdl _ (getD_mem' 0 (show d.length - 1 < d.length by omega))
    have s1 : strV .eql (bst T) ⟨#[48]⟩ = some (.bool false) := bst_ne (b := [48]) hTb (by simp) fun e => by
      rw [e] at t0
      have : ([48] : List Nat).getD 0 0 = 48 := rfl
      omega
    rw [t0] at hx0
    generalize d.getD (d.length - 1) 0 = top at *
    have q1 : (((48 + top : Nat) : Int) = 45) = False := by simp; omega
    have q2 : (((48 + top : Nat) : Int) = 48) = False := by simp; omega
    simp -dsimp -implicitDefEqProofs (disch := (first | assumption | omega | (simp only [nats_len, List.length_map, List.length_set, List.length_replicate, List.length_append, List.length_range, upto_len, els_len, List.length_cons, List.length_nil] <;> omega) | (apply isPure_intro <;> simp))) only [go_sem, s1, hsz, hTl, hx0, q1, q2]
    refine W_loop (T := Nat × V × Hp × Nat) (fun t => ⟨E [(0, .str (bst T)), (2, .ptr 0 1 0 0), (4, .int .i64 0), (5, .bool false), (6, t.2.1), (7, .int .i64 ((d.length : Int) - 1 - t.1))], t.2.2.1, t.2.2.2, t.2.2.2⟩)
      (fun t => t.1 ≤ d.length ∧ 0 < t.2.2.2 ∧ t.2.2.1 0 = some ⟨[.agg [.bool false, .nil]], 2⟩ ∧ Row 1 t.2.2.1 t.2.2.2 t.2.1 1 (nats .i64 (d.take t.1))) (fun t => d.length - t.1) (0, .nil, _, _) (by dsimp only; rw [show ((d.length - 1 : Nat) : Int) = (d.length : Int) - 1 - ((0 : Nat) : Int) by omega]) ⟨by dsimp only; omega, by dsimp only; omega, rfl, Row.nil _ _ _ _⟩ ?_
    rintro ⟨k, w, H, nx⟩ ⟨k1, k2, k3, k4⟩
    dsimp only at k1 k2 k3 k4
    by_cases hk : k < d.length
    · have e1 : (d.length : Int) - 1 - (k : Int) = ((d.length - 1 - k : Nat) : Int) := by omega
      have hxk := hix (d.length - 1 - k) (by omega)
      rw [hTa _ (by omega), show d.length - 1 - (d.length - 1 - k) = k by omega] at hxk
      have hx10 := hdl _ (getD_mem' 0 hk)
      have ht := take_getD (l := d) (i := k) 0 hk
      generalize d.getD k 0 = x at *
      have q3 : decide (((48 + x : Nat) : Int) < 48) = false := decide_eq_false (by omega)
      have q4 : decide ((57 : Int) < ((48 + x : Nat) : Int)) = false := decide_eq_false (by omega)
      have q5 : IntKind.u8.wrap (((48 + x : Nat) : Int) - 48) = (x : Int) := by rw [show ((48 + x : Nat) : Int) - 48 = (x : Int) by omega, wu8]; omega
      have q6 : IntKind.i64.wrap (x : Int) = (x : Int) := w64 (by omega)
      rw [e1]
      simp -dsimp -implicitDefEqProofs (disch := (first | assumption | omega | (simp only [nats_len, List.length_map, List.length_set, List.length_replicate, List.length_append, List.length_range, upto_len, els_len, List.length_cons, List.length_nil] <;> omega) | (apply isPure_intro <;> simp))) only [go_sem, hxk, q3, q4, q5, q6]
      refine effB_row (lo := 1) (nx := nx) (H0 := H) (xs := nats .i64 (d.take k)) k4 (by omega) rfl (by omega) (by omega) (by simp [rowOk, V.cells, V.cellOk, V.isJunk]) (by decide) (by simp [nats]; omega) (by simp [nats]; omega) fun v2 H2 r1 _ _ r4 => ?_
      have hna : nats .i64 (d.take k) ++ [.int .i64 (x : Int)] = nats .i64 (d.take (k + 1)) := by rw [ht]; simp [nats]
      rw [hna] at r1
      simp -dsimp -implicitDefEqProofs (disch := (first | assumption | omega | (simp only [nats_len, List.length_map, List.length_set, List.length_replicate, List.length_append, List.length_range, upto_len, els_len, List.length_cons, List.length_nil] <;> omega) | (apply isPure_intro <;> simp))) only [go_sem]
      exact ⟨(k + 1, v2, H2, _), by dsimp only; rw [show (((d.length - 1 - k : Nat) : Int) - 1) = ((d.length - 1 : Nat) : Int) - ((k + 1 : Nat) : Int) by omega], ⟨by dsimp only; omega, by dsimp only; omega, (r4 0 (by omega)).trans k3, r1.same (fun _ _ => rfl) (by dsimp only; omega)⟩, by dsimp only; omega⟩
    · have hke : d.length = k := by omega
      subst hke
      rw [List.take_length] at k4
      have e1 : (d.length : Int) - 1 - (d.length : Int) = -1 := by omega
      obtain ⟨c, rfl, c1, c2, c3⟩ := k4.own_of (by rw [nats_len]; exact hl0)
      have hmd := r_made false d hdl (by omega)
      have hsg : sg false (val 10 d) = v := by rw [hval]; simp [sg]; omega
      rw [hsg] at hmd
      rw [e1]
      simp -dsimp -implicitDefEqProofs (disch := (first | assumption | omega | (simp only [nats_len, List.length_map, List.length_set, List.length_replicate, List.length_append, List.length_range, upto_len, els_len, List.length_cons, List.length_nil] <;> omega) | (apply isPure_intro <;> simp))) only [go_sem]
      refine callB_frE (fz1 c (nats .i64 d)) (fz1_ok c3 (pure_map fun x => by simp)) (by simp -dsimp -implicitDefEqProofs (disch := (first | assumption | omega | (simp only [nats_len, List.length_map, List.length_set, List.length_replicate, List.length_append, List.length_range, upto_len, els_len, List.length_cons, List.length_nil] <;> omega) | (apply isPure_intro <;> simp))) only [go_sem]) hmd (by simp) ?_
      have h0c : (0 = c) = False := by simp; omega
      have p0 : Hp.sub (fz1 c (nats .i64 d)) H 0 = some ⟨[.agg [.bool false, .nil]], 2⟩ := sub_at (fz1_ne (by omega)) k3 (by simp -dsimp -implicitDefEqProofs (disch := (first | assumption | omega | (simp only [nats_len, List.length_map, List.length_set, List.length_replicate, List.length_append, List.length_range, upto_len, els_len, List.length_cons, List.length_nil] <;> omega) | (apply isPure_intro <;> simp))) only [go_sem] <;> rfl)
      simp -dsimp -implicitDefEqProofs (disch := (first | assumption | omega | (simp only [nats_len, List.length_map, List.length_set, List.length_replicate, List.length_append, List.length_range, upto_len, els_len, List.length_cons, List.length_nil] <;> omega) | (apply isPure_intro <;> simp))) only [go_sem, p0, h0c]
end Go.Gim

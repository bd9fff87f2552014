/- Encoded is decoded, decoded is encoded: plain Lean. -/
import Derived.Test.YtnaclocpmkldnaaDoorC9
set_option maxRecDepth 100000
set_option linter.unusedSimpArgs false
set_option linter.unusedVariables false
namespace Go.Gim
theorem numL4 (a b c d : Nat) : numL [a, b, c, d] = ((a * 256 + b) * 256 + c) * 256 + d := by simp [numL]
theorem numL_byt4 (x : Int) : (numL (bytL x 4) : Int) = x % 4294967296 := by
  rw [bytL_eq, numL4]; omega
theorem byt2_eq (x : Int) : bytL x 2 = [(x / 256 % 256).toNat, (x % 256).toNat] := by
  obtain ⟨_, _, h1, h0⟩ := byt_num x
  simp only [bytL, h1, h0]
theorem numL_byt2 (x : Int) (h : 0 ≤ x ∧ x < 65536) : (numL (bytL x 2) : Int) = x := by
  rw [byt2_eq]
  have : numL [(x / 256 % 256).toNat, (x % 256).toNat] = (x / 256 % 256).toNat * 256 + (x % 256).toNat := by simp [numL]
  rw [this]; omega
theorem i32_back (x : Int) (h : ¬ bad x) : i32 (numL (bytL x 4)) = x := by
  have h1 := numL_byt4 x
  unfold bad at h
  unfold i32
  split <;> omega
theorem flat_lt (u : List Int) : ∀ x ∈ (u.map (bytL · 4)).flatten, x < 256 := fun x hx => by
  simp only [List.mem_flatten, List.mem_map] at hx
  obtain ⟨l, ⟨n, _, rfl⟩, hx⟩ := hx
  rw [bytL_eq] at hx
  simp at hx
  omega
theorem encL_lt (a s : Int) (v : List Int) : ∀ x ∈ encL a s v, x < 256 := fun x hx => by
  unfold encL at hx
  rcases List.mem_append.1 hx with hx | hx
  · rcases List.mem_append.1 hx with hx | hx
    · rw [bytL_eq] at hx; simp at hx; omega
    · rw [byt2_eq] at hx; simp at hx; omega
  · exact flat_lt v x hx
theorem encL_len (a s : Int) (v : List Int) : (encL a s v).length = 6 + 4 * v.length := by
  unfold encL; simp only [List.length_append, bytL_len, flat4]
theorem vals_back : ∀ (v : List Int), (∀ x ∈ v, ¬ bad x) → vals v.length ((v.map (bytL · 4)).flatten) = v
  | [], _ => rfl
  | x :: v, h => by
    have e : ((x :: v).map (bytL · 4)).flatten = bytL x 4 ++ (v.map (bytL · 4)).flatten := rfl
    rw [e, List.length_cons, vals, List.take_append_of_le_length (by rw [bytL_len]; omega), List.take_of_length_le (by rw [bytL_len]; omega), i32_back x (h x (by simp)), List.drop_append_of_le_length (by rw [bytL_len]; omega), List.drop_of_length_le (by rw [bytL_len]; omega), List.nil_append, vals_back v fun y hy => h y (by simp [hy])]
theorem enc_parts (a s : Int) (v : List Int) : (encL a s v).take 4 = bytL a 4 ∧ ((encL a s v).drop 4).take 2 = bytL s 2 ∧ (encL a s v).drop 6 = (v.map (bytL · 4)).flatten := by
  have e : encL a s v = bytL a 4 ++ (bytL s 2 ++ (v.map (bytL · 4)).flatten) := by unfold encL; rw [List.append_assoc]
  have l4 := bytL_len a 4
  have l2 := bytL_len s 2
  rw [e]
  refine ⟨?_, ?_, ?_⟩
  · rw [List.take_append_of_le_length (by omega), List.take_of_length_le (by omega)]
  · rw [List.drop_append_of_le_length (by omega), List.drop_of_length_le (by omega), List.nil_append, List.take_append_of_le_length (by omega), List.take_of_length_le (by omega)]
  · rw [← List.append_assoc, List.drop_append_of_le_length (by simp [l4, l2]), List.drop_of_length_le (by simp [l4, l2]), List.nil_append]
theorem dec_enc {k a s : Int} {v : List Int} (h : rightE k a s v = 0) : decV k (encL a s v) = .tup [MV k a s v, .int .i64 0] := by
  obtain ⟨g1, g2, g3, g4, g5, g6⟩ := right_ok h
  obtain ⟨p1, p2, p3⟩ := enc_parts a s v
  have h0 : cnt k ≠ 0 := by
    intro h0
    unfold rightE at h
    rw [if_pos h0] at h
    cases h
  unfold decV
  have hn := numL_byt4 a
  have hn' : (numL (bytL a 4) : Int) = a := by omega
  rw [if_neg h0, if_neg (by rw [encL_len]; omega), p1, p2, p3, ← g2, vals_back v g6, hn', numL_byt2 s g5, if_neg (fun ⟨x, h1, h2⟩ => g6 x h1 h2)]
theorem bytL_num {l : List Nat} (hl : l.length = 4) (h : ∀ x ∈ l, x < 256) : bytL (numL l : Int) 4 = l := by
  match l, hl with
  | [a, b, c, d], _ =>
    have ha := h a (by simp)
    have hb := h b (by simp)
    have hc := h c (by simp)
    have hd := h d (by simp)
    rw [bytL4, numL4]
    congr 1
    · omega
    · congr 1
      · omega
      · congr 1
        · omega
        · congr 1; omega
theorem bytL2_num {l : List Nat} (hl : l.length = 2) (h : ∀ x ∈ l, x < 256) : bytL (numL l : Int) 2 = l := by
  match l, hl with
  | [a, b], _ =>
    have ha := h a (by simp)
    have hb := h b (by simp)
    have e : numL [a, b] = a * 256 + b := by simp [numL]
    rw [byt2_eq, e]
    congr 1
    · omega
    · congr 1; omega
theorem bytL_i32 (n : Nat) : bytL (i32 n) 4 = bytL (n : Int) 4 := by
  unfold i32
  split
  · rfl
  · rw [← bytL_up, Int.sub_add_cancel]
theorem flat_vals : ∀ (n : Nat) (l : List Nat), l.length = 4 * n → (∀ x ∈ l, x < 256) → ((vals n l).map (bytL · 4)).flatten = l
  | 0, l, hl, _ => by
    have : l = [] := List.eq_nil_of_length_eq_zero (by omega)
    subst this; rfl
  | n + 1, l, hl, h => by
    rw [vals, List.map_cons, List.flatten_cons, flat_vals n (l.drop 4) (by simp; omega) fun x hx => h x (List.mem_of_mem_drop hx), bytL_i32, bytL_num (by simp; omega) fun x hx => h x (List.mem_of_mem_take hx), List.take_append_drop]
theorem enc_dec {k : Nat} {l : List Nat} (hl : l.length = 6 + 4 * k) (h : ∀ x ∈ l, x < 256) : encL (numL (l.take 4)) (numL ((l.drop 4).take 2)) (vals k (l.drop 6)) = l := by
  unfold encL
  rw [bytL_num (by simp; omega) fun x hx => h x (List.mem_of_mem_take hx), bytL2_num (by simp; omega) fun x hx => h x (List.mem_of_mem_drop (List.mem_of_mem_take hx)), flat_vals k _ (by simp; omega) fun x hx => h x (List.mem_of_mem_drop hx)]
  have e1 : l.drop 6 = (l.drop 4).drop 2 := by rw [List.drop_drop]
  rw [e1, List.append_assoc, List.take_append_drop, List.take_append_drop]
end Go.Gim

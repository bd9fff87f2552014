/- Numbers by their digits, and how many there are: plain Lean, no program. -/
set_option linter.unusedVariables false
namespace Go.Gim
/-- What digits are, to a base, the lowest first. -/
def val (B : Nat) : List Nat → Nat
  | [] => 0
  | x :: l => x + B * val B l
/-- A number's digits, the lowest first, the last one not 0. -/
def digs (B : Nat) (n : Nat) : List Nat :=
  if h : n = 0 ∨ B < 2 then [] else n % B :: digs B (n / B)
termination_by n
decreasing_by exact Nat.div_lt_self (by omega) (by omega)
theorem digs_zero (B : Nat) : digs B 0 = [] := by rw [digs]; simp
theorem digs_pos {B n : Nat} (hB : 2 ≤ B) (h : n ≠ 0) : digs B n = n % B :: digs B (n / B) := by rw [digs, dif_neg (by omega)]
theorem val_digs {B : Nat} (hB : 2 ≤ B) (n : Nat) : val B (digs B n) = n := by
  induction n using Nat.strongRecOn with
  | _ n ih =>
    by_cases h : n = 0
    · subst h; rw [digs_zero]; rfl
    · rw [digs_pos hB h, val, ih _ (Nat.div_lt_self (by omega) hB)]
      exact Nat.mod_add_div n B
theorem digs_lt {B : Nat} (hB : 2 ≤ B) (n : Nat) : ∀ x ∈ digs B n, x < B := by
  induction n using Nat.strongRecOn with
  | _ n ih =>
    by_cases h : n = 0
    · subst h; rw [digs_zero]; simp
    · rw [digs_pos hB h]
      intro x hx
      rcases List.mem_cons.1 hx with rfl | hx
      · exact Nat.mod_lt _ (by omega)
      · exact ih _ (Nat.div_lt_self (by omega) hB) x hx
theorem val_pos {B : Nat} (hB : 2 ≤ B) : ∀ {l : List Nat}, (∃ x ∈ l, x ≠ 0) → 0 < val B l
  | [], h => by obtain ⟨x, hx, _⟩ := h; simp at hx
  | y :: l, ⟨x, hx, h0⟩ => by
    rw [val]
    rcases List.mem_cons.1 hx with rfl | hx
    · omega
    · have := val_pos hB ⟨x, hx, h0⟩
      have := Nat.mul_pos (show 0 < B by omega) this
      omega
theorem digs_val {B : Nat} (hB : 2 ≤ B) : ∀ {l : List Nat}, (∀ x ∈ l, x < B) → (∀ h : l ≠ [], l.getLast h ≠ 0) → digs B (val B l) = l
  | [], _, _ => digs_zero B
  | x :: l, h, hl => by
    have hx := h x (by simp)
    have ih := digs_val hB (l := l) (fun y hy => h y (by simp [hy])) (fun hne => by
      have := hl (by simp); rwa [List.getLast_cons hne] at this)
    have hpos : val B (x :: l) ≠ 0 := by
      have := val_pos hB (l := x :: l) ⟨_, List.getLast_mem (by simp), hl (by simp)⟩
      omega
    rw [digs_pos hB hpos, val, Nat.add_mul_mod_self_left, Nat.mod_eq_of_lt hx, Nat.add_mul_div_left _ _ (by omega), Nat.div_eq_of_lt hx, Nat.zero_add, ih]
theorem val_append (B : Nat) : ∀ (a b : List Nat), val B (a ++ b) = val B a + B ^ a.length * val B b
  | [], b => by simp [val]
  | x :: a, b => by
    rw [List.cons_append, val, val, val_append B a b, List.length_cons, Nat.pow_succ, Nat.mul_add, Nat.mul_comm (B ^ a.length) B, Nat.mul_assoc, Nat.add_assoc]
theorem val_zeros (B : Nat) : ∀ {l : List Nat}, (∀ x ∈ l, x = 0) → val B l = 0
  | [], _ => rfl
  | x :: l, h => by rw [val, h x (by simp), val_zeros B (fun y hy => h y (by simp [hy]))]; simp
theorem val_take {B : Nat} {l : List Nat} {n : Nat} (h : ∀ i, n ≤ i → (hi : i < l.length) → l[i] = 0) : val B (l.take n) = val B l := by
  have := val_append B (l.take n) (l.drop n)
  rw [List.take_append_drop, val_zeros B (l := l.drop n) (fun x hx => by
    obtain ⟨i, hi, rfl⟩ := List.mem_iff_getElem.1 hx
    rw [List.getElem_drop]
    exact h _ (by omega) _)] at this
  omega
theorem val_lt {B : Nat} (hB : 2 ≤ B) : ∀ {l : List Nat}, (∀ x ∈ l, x < B) → val B l < B ^ l.length
  | [], _ => by simp [val]
  | x :: l, h => by
    have h1 := h x (by simp)
    have h2 := val_lt hB (l := l) fun y hy => h y (by simp [hy])
    rw [val, List.length_cons, Nat.pow_succ, Nat.mul_comm _ B]
    have : B * (val B l + 1) ≤ B * B ^ l.length := Nat.mul_le_mul_left _ h2
    rw [Nat.mul_add] at this
    omega
/-- What is made of digits: without the last ones that are 0. -/
theorem made_digs {B : Nat} (hB : 2 ≤ B) {l : List Nat} {n : Nat} (h : ∀ x ∈ l, x < B) (hn : n ≤ l.length) (hz : ∀ i, n ≤ i → (hi : i < l.length) → l[i] = 0) (h0 : ∀ (hp : 0 < n), l[n - 1]'(by omega) ≠ 0) : l.take n = digs B (val B l) := by
  rw [← val_take hz]
  refine (digs_val hB (fun x hx => h x (List.mem_of_mem_take hx)) fun hne => ?_).symm
  have hl : (l.take n).length = n := by simp; omega
  have hp : 0 < n := by
    rcases Nat.eq_zero_or_pos n with h | h
    · subst h; simp at hne
    · exact h
  rw [List.getLast_eq_getElem]
  simp only [hl, List.getElem_take]
  exact h0 hp
theorem digs_len {B : Nat} (hB : 2 ≤ B) : ∀ {k n : Nat}, n < B ^ k → (digs B n).length ≤ k
  | k, 0, _ => by rw [digs_zero]; simp
  | 0, n + 1, h => by simp at h
  | k + 1, n + 1, h => by
    rw [digs_pos hB (by omega), List.length_cons]
    have : (n + 1) / B < B ^ k := by
      rw [Nat.div_lt_iff_lt_mul (by omega), ← Nat.pow_succ]; exact h
    have := digs_len hB this
    omega
theorem lt_pow_digs {B : Nat} (hB : 2 ≤ B) (n : Nat) : n < B ^ (digs B n).length := by
  have := val_lt hB (digs_lt hB n)
  rwa [val_digs hB] at this
theorem digs_ge {B : Nat} (hB : 2 ≤ B) {n : Nat} (h : n ≠ 0) : B ^ ((digs B n).length - 1) ≤ n := by
  rcases Nat.lt_or_ge n (B ^ ((digs B n).length - 1)) with hlt | hge
  · have h1 := digs_len hB hlt
    have h2 : (digs B n).length ≠ 0 := by rw [digs_pos hB h]; simp
    omega
  · exact hge
theorem digs_mono {B : Nat} (hB : 2 ≤ B) {m n : Nat} (h : m ≤ n) : (digs B m).length ≤ (digs B n).length :=
  digs_len hB (Nat.lt_of_le_of_lt h (lt_pow_digs hB n))
theorem digs_nil {B : Nat} (hB : 2 ≤ B) {n : Nat} : digs B n = [] ↔ n = 0 := by
  constructor
  · intro h
    have := val_digs hB n
    rw [h] at this; exact this.symm
  · rintro rfl; exact digs_zero B
/-- Parts of 32 bits. -/
abbrev W32 : Nat := 4294967296
theorem w2 : 2 ≤ W32 := by decide
/-- How many parts of 32 bits a number has. -/
def lim (x : Int) : Nat := (digs W32 x.natAbs).length
theorem lim_lt (x : Int) : x.natAbs < W32 ^ lim x := lt_pow_digs w2 _
theorem lim_of {x : Int} {k : Nat} (h : x.natAbs < W32 ^ k) : lim x ≤ k := digs_len w2 h
theorem lim_neg (x : Int) : lim (-x) = lim x := by simp [lim]
theorem lim_zero : lim 0 = 0 := by simp [lim, digs_zero]
theorem lim_mono {x y : Int} (h : x.natAbs ≤ y.natAbs) : lim x ≤ lim y := digs_mono w2 h
theorem lim_add (x y : Int) : lim (x + y) ≤ max (lim x) (lim y) + 1 := by
  refine lim_of ?_
  have h1 := lim_lt x
  have h2 := lim_lt y
  have h3 : W32 ^ lim x ≤ W32 ^ max (lim x) (lim y) := Nat.pow_le_pow_right (by decide) (Nat.le_max_left _ _)
  have h4 : W32 ^ lim y ≤ W32 ^ max (lim x) (lim y) := Nat.pow_le_pow_right (by decide) (Nat.le_max_right _ _)
  rw [Nat.pow_succ]
  generalize W32 ^ max (lim x) (lim y) = p at *
  have : (x + y).natAbs ≤ x.natAbs + y.natAbs := Int.natAbs_add_le x y
  show _ < p * 4294967296
  omega
theorem lim_sub (x y : Int) : lim (x - y) ≤ max (lim x) (lim y) + 1 := by
  have := lim_add x (-y)
  rwa [lim_neg, ← Int.sub_eq_add_neg] at this
theorem lim_mul (x y : Int) : lim (x * y) ≤ lim x + lim y := by
  refine lim_of ?_
  rw [Int.natAbs_mul, Nat.pow_add]
  have h1 := lim_lt x
  have h2 := lim_lt y
  exact Nat.mul_lt_mul'' h1 h2
theorem lim_i64 {x : Int} (h : -9223372036854775808 ≤ x ∧ x ≤ 9223372036854775807) : lim x ≤ 2 := lim_of (by
  show x.natAbs < 4294967296 ^ 2
  have : (4294967296 : Nat) ^ 2 = 18446744073709551616 := by decide
  omega)
end Go.Gim

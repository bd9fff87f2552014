set_option linter.unusedVariables false
/- Numbers by their digits, and how many there are: plain Lean, no program. -/
namespace Go.Gim
def val (B : Nat) : List Nat → Nat
 | [] => 0
 | x :: l => x + B * val B l
def digs (B : Nat) (n : Nat) : List Nat :=
 if h : n = 0 ∨ B < 2 then [] else n % B :: digs B (n / B)
termination_by n
decreasing_by exact Nat.div_lt_self (by omega) (by omega)
theorem zdm (B : Nat) : digs B 0 = [] := by rw [digs]; simp
theorem zhp {B n : Nat} (hB : 2 ≤ B) (h : n ≠ 0) : digs B n = n % B :: digs B (n / B) := by rw [digs, dif_neg (by omega)]
theorem zbo {B : Nat} (hB : 2 ≤ B) (n : Nat) : val B (digs B n) = n := by
 induction n using Nat.strongRecOn with
 | _ n ih =>
  by_cases h : n = 0
  ·subst h; rw [zdm]; rfl
  ·rw [zhp hB h, val, ih _ (Nat.div_lt_self (by omega) hB)]
   exact Nat.mod_add_div n B
theorem zeu {B : Nat} (hB : 2 ≤ B) (n : Nat) : ∀ x ∈ digs B n, x < B := by
 induction n using Nat.strongRecOn with
 | _ n ih =>
  by_cases h : n = 0
  ·subst h; rw [zdm]; simp
  ·rw [zhp hB h]
   intro x hx
   rcases List.mem_cons.1 hx with rfl | hx
   ·exact Nat.mod_lt _ (by omega)
   ·exact ih _ (Nat.div_lt_self (by omega) hB) x hx
theorem val_pos {B : Nat} (hB : 2 ≤ B) : ∀ {l : List Nat}, (∃ x ∈ l, x ≠ 0) → 0 < val B l
 | [], h => by obtain ⟨x, hx, _⟩ := h; simp at hx
 | y :: l, ⟨x, hx, h0⟩ => by
  rw [val]
  rcases List.mem_cons.1 hx with rfl | hx
  ·omega
  ·have := val_pos hB ⟨x, hx, h0⟩
   have := Nat.mul_pos (show 0 < B by omega) this
   omega
theorem digs_val {B : Nat} (hB : 2 ≤ B) : ∀ {l : List Nat}, (∀ x ∈ l, x < B) → (∀ h : l ≠ [], l.getLast h ≠ 0) → digs B (val B l) = l
 | [], _, _ => zdm B
 | x :: l, h, hl => by
  have hx := h x (by simp)
  have ih := digs_val hB (l := l) (fun y hy => h y (by simp [hy])) (fun hne => by
   have := hl (by simp); rwa [List.getLast_cons hne] at this)
  have hpos : val B (x :: l) ≠ 0 := by
   have := val_pos hB (l := x :: l) ⟨_, List.getLast_mem (by simp), hl (by simp)⟩
   omega
  rw [zhp hB hpos, val, Nat.add_mul_mod_self_left, Nat.mod_eq_of_lt hx, Nat.add_mul_div_left _ _ (by omega), Nat.div_eq_of_lt hx, Nat.zero_add, ih]
theorem zd4 (B : Nat) : ∀ (a b : List Nat), val B (a ++ b) = val B a + B ^ a.length * val B b
 | [], b => by simp [val]
 | x :: a, b => by
  rw [List.cons_append, val, val, zd4 B a b, List.length_cons, Nat.pow_succ, Nat.mul_add, Nat.mul_comm (B ^ a.length) B, Nat.mul_assoc, Nat.add_assoc]
theorem zh3 (B : Nat) : ∀ {l : List Nat}, (∀ x ∈ l, x = 0) → val B l = 0
 | [], _ => rfl
 | x :: l, h => by rw [val, h x (by simp), zh3 B (fun y hy => h y (by simp [hy]))]; simp
theorem val_take {B : Nat} {l : List Nat} {n : Nat} (h : ∀ i, n ≤ i → (hi : i < l.length) → l[i] = 0) : val B (l.take n) = val B l := by
 have := zd4 B (l.take n) (l.drop n)
 rw [List.take_append_drop, zh3 B (l := l.drop n) (fun x hx => by
  obtain ⟨i, hi, rfl⟩ := List.mem_iff_getElem.1 hx
  rw [List.getElem_drop]
  exact h _ (by omega) _)] at this
 omega
theorem zgv {B : Nat} (hB : 2 ≤ B) : ∀ {l : List Nat}, (∀ x ∈ l, x < B) → val B l < B ^ l.length
 | [], _ => by simp [val]
 | x :: l, h => by
  have h1 := h x (by simp)
  have h2 := zgv hB (l := l) fun y hy => h y (by simp [hy])
  rw [val, List.length_cons, Nat.pow_succ, Nat.mul_comm _ B]
  have : B * (val B l + 1) ≤ B * B ^ l.length := Nat.mul_le_mul_left _ h2
  rw [Nat.mul_add] at this
  omega
theorem made_digs {B : Nat} (hB : 2 ≤ B) {l : List Nat} {n : Nat} (h : ∀ x ∈ l, x < B) (hn : n ≤ l.length) (hz : ∀ i, n ≤ i → (hi : i < l.length) → l[i] = 0) (h0 : ∀ (hp : 0 < n), l[n - 1]'(by omega) ≠ 0) : l.take n = digs B (val B l) := by
 rw [← val_take hz]
 refine (digs_val hB (fun x hx => h x (List.mem_of_mem_take hx)) fun hne => ?_).symm
 have hl : (l.take n).length = n := by simp; omega
 have hp : 0 < n := by
  rcases Nat.eq_zero_or_pos n with h | h
  ·subst h; simp at hne
  ·exact h
 rw [List.getLast_eq_getElem]
 simp only [hl, List.getElem_take]
 exact h0 hp
theorem zhq {B : Nat} (hB : 2 ≤ B) : ∀ {k n : Nat}, n < B ^ k → (digs B n).length ≤ k
 | k, 0, _ => by rw [zdm]; simp
 | 0, n + 1, h => by simp at h
 | k + 1, n + 1, h => by
  rw [zhp hB (by omega), List.length_cons]
  have : (n + 1) / B < B ^ k := by
   rw [Nat.div_lt_iff_lt_mul (by omega), ← Nat.pow_succ]; exact h
  have := zhq hB this
  omega
theorem lt_pow_digs {B : Nat} (hB : 2 ≤ B) (n : Nat) : n < B ^ (digs B n).length := by
 have := zgv hB (zeu hB n)
 rwa [zbo hB] at this
theorem digs_ge {B : Nat} (hB : 2 ≤ B) {n : Nat} (h : n ≠ 0) : B ^ ((digs B n).length - 1) ≤ n := by
 rcases Nat.lt_or_ge n (B ^ ((digs B n).length - 1)) with hlt | hge
 ·have h1 := zhq hB hlt
  have h2 : (digs B n).length ≠ 0 := by rw [zhp hB h]; simp
  omega
 ·exact hge
theorem digs_mono {B : Nat} (hB : 2 ≤ B) {m n : Nat} (h : m ≤ n) : (digs B m).length ≤ (digs B n).length :=
 zhq hB (Nat.lt_of_le_of_lt h (lt_pow_digs hB n))
theorem digs_nil {B : Nat} (hB : 2 ≤ B) {n : Nat} : digs B n = [] ↔ n = 0 := by
 constructor
 ·intro h
  have := zbo hB n
  rw [h] at this; exact this.symm
 ·rintro rfl; exact zdm B
abbrev W32 : Nat := 4294967296
theorem w2 : 2 ≤ W32 := by decide
def lim (x : Int) : Nat := (digs W32 x.natAbs).length
theorem lim_lt (x : Int) : x.natAbs < W32 ^ lim x := lt_pow_digs w2 _
theorem lim_of {x : Int} {k : Nat} (h : x.natAbs < W32 ^ k) : lim x ≤ k := zhq w2 h
theorem lim_neg (x : Int) : lim (-x) = lim x := by simp [lim]
theorem zbk : lim 0 = 0 := by simp [lim, zdm]
theorem lim_mono {x y : Int} (h : x.natAbs ≤ y.natAbs) : lim x ≤ lim y := digs_mono w2 h
theorem zg8 (x y : Int) : lim (x + y) ≤ max (lim x) (lim y) + 1 := by
 refine lim_of ?_
 have h1 := lim_lt x
 have h2 := lim_lt y
 have h3 : W32 ^ lim x ≤ W32 ^ max (lim x) (lim y) := Nat.pow_le_pow_right (by decide) (Nat.le_max_left _ _)
 have h4 : W32 ^ lim y ≤ W32 ^ max (lim x) (lim y) := Nat.pow_le_pow_right (by decide) (Nat.le_max_right _ _)
 rw [Nat.pow_succ]
 generalize W32 ^ max (lim x) (lim y) = p at *
 have : (x + y).natAbs ≤ x.natAbs + y.natAbs := Int.natAbs_add_le x y
 show _ < p * 4294967296
 omega
theorem lim_sub (x y : Int) : lim (x - y) ≤ max (lim x) (lim y) + 1 := by
 have := zg8 x (-y)
 rwa [lim_neg, ← Int.sub_eq_add_neg] at this
theorem za5 (x y : Int) : lim (x * y) ≤ lim x + lim y := by
 refine lim_of ?_
 rw [Int.natAbs_mul, Nat.pow_add]
 have h1 := lim_lt x
 have h2 := lim_lt y
 exact Nat.mul_lt_mul'' h1 h2
theorem zar {x : Int} (h : -9223372036854775808 ≤ x ∧ x ≤ 9223372036854775807) : lim x ≤ 2 := lim_of (by
 show x.natAbs < 4294967296 ^ 2
 have : (4294967296 : Nat) ^ 2 = 18446744073709551616 := by decide
 omega)
end Go.Gim
/- Sums, differences, products and parts of numbers by their digits: plain Lean, no program. -/
namespace Go.Gim
def addL (B : Nat) : List Nat → List Nat → Nat → List Nat
 | [], _, _ => []
 | x :: a, b, o => (x + b.headD 0 + o) % B :: addL B a b.tail ((x + b.headD 0 + o) / B)
theorem addL_len (B) : ∀ (a b : List Nat) (o : Nat), (addL B a b o).length = a.length
 | [], _, _ => rfl
 | x :: a, b, o => by simp [addL, addL_len B a]
theorem addL_lt {B : Nat} (hB : 2 ≤ B) : ∀ (a b : List Nat) (o : Nat), ∀ x ∈ addL B a b o, x < B
 | [], _, _ => by simp [addL]
 | x :: a, b, o => by
  intro y hy
  rw [addL] at hy
  rcases List.mem_cons.1 hy with rfl | hy
  ·exact Nat.mod_lt _ (by omega)
  ·exact addL_lt hB a _ _ y hy
theorem val_cons' (B : Nat) (b : List Nat) : val B b = b.headD 0 + B * val B b.tail := by cases b <;> simp [val]
theorem addL_val {B : Nat} (hB : 2 ≤ B) : ∀ (a b : List Nat) (o : Nat), b.length ≤ a.length → val B (addL B a b o) = (val B a + val B b + o) % B ^ a.length
 | [], b, o, h => by
  have : b = [] := List.eq_nil_of_length_eq_zero (by simpa using h)
  subst this
  simp [addL, val, Nat.mod_one]
 | x :: a, b, o, h => by
  rw [addL, val, addL_val hB a b.tail _ (by simp at h ⊢; omega), val_cons' B b, val, List.length_cons, Nat.pow_succ, Nat.mul_comm (B ^ a.length) B, Nat.mod_mul]
  have e : x + B * val B a + (b.headD 0 + B * val B b.tail) + o = x + b.headD 0 + o + B * (val B a + val B b.tail) := by rw [Nat.mul_add]; omega
  rw [e, Nat.add_mul_mod_self_left, Nat.add_mul_div_left _ _ (by omega)]
  congr 3
  omega
def subL (B : Nat) : List Nat → List Nat → Nat → List Nat
 | [], _, _ => []
 | x :: a, b, u => if x < b.headD 0 + u then (x + B - b.headD 0 - u) :: subL B a b.tail 1 else (x - b.headD 0 - u) :: subL B a b.tail 0
theorem subL_len (B) : ∀ (a b : List Nat) (o : Nat), (subL B a b o).length = a.length
 | [], _, _ => rfl
 | x :: a, b, o => by rw [subL]; split <;> simp [subL_len B a]
theorem headD_lt {B : Nat} (hB : 0 < B) {b : List Nat} (h : ∀ x ∈ b, x < B) : b.headD 0 < B := by
 cases b with
 | nil => exact hB
 | cons x b => exact h x (by simp)
theorem subL_lt {B : Nat} (hB : 2 ≤ B) : ∀ (a b : List Nat) (o : Nat), (∀ x ∈ a, x < B) → ∀ x ∈ subL B a b o, x < B
 | [], _, _, _ => by simp [subL]
 | x :: a, b, o, h => by
  intro y hy
  have hx := h x (by simp)
  rw [subL] at hy
  split at hy
  ·rcases List.mem_cons.1 hy with rfl | hy
   ·omega
   ·exact subL_lt hB a _ _ (fun z hz => h z (by simp [hz])) y hy
  ·rcases List.mem_cons.1 hy with rfl | hy
   ·omega
   ·exact subL_lt hB a _ _ (fun z hz => h z (by simp [hz])) y hy
theorem subL_val {B : Nat} (hB : 2 ≤ B) : ∀ (a b : List Nat) (u : Nat), (∀ x ∈ a, x < B) → (∀ x ∈ b, x < B) → u ≤ 1 → b.length ≤ a.length → val B b + u ≤ val B a → val B (subL B a b u) + (val B b + u) = val B a
 | [], b, u, ha, hb, hu, hl, h => by
  have : b = [] := List.eq_nil_of_length_eq_zero (by simpa using hl)
  subst this
  simp [val] at h
  simp [subL, val, h]
 | x :: a, b, u, ha, hb, hu, hl, h => by
  have hx := ha x (by simp)
  have hb0 := headD_lt (by omega) hb
  have ih := fun u hu => subL_val hB a b.tail u (fun y hy => ha y (by simp [hy])) (fun y hy => hb y (List.mem_of_mem_tail hy)) hu (by simp at hl ⊢; omega)
  rw [val_cons' B b, val] at h ⊢
  rw [subL]
  generalize b.headD 0 = b0 at *
  generalize val B b.tail = bt at *
  generalize hA : val B a = A at *
  split
  ·rename_i hlt
   have h1 : bt + 1 ≤ A := by
    rcases Nat.lt_or_ge bt A with h2 | h2
    ·omega
    ·have := Nat.mul_le_mul_left B h2; omega
   have := ih 1 (by omega) h1
   rw [val]
   have e : B * (val B (subL B a b.tail 1) + (bt + 1)) = B * A := by rw [this]
   rw [Nat.mul_add, Nat.mul_add] at e
   omega
  ·rename_i hge
   have h1 : bt + 0 ≤ A := by
    rcases Nat.lt_or_ge A bt with h2 | h2
    ·have := Nat.mul_le_mul_left B h2
     rw [Nat.mul_succ] at this; omega
    ·omega
   have := ih 0 (by omega) h1
   rw [val]
   have e : B * (val B (subL B a b.tail 0) + (bt + 0)) = B * A := by rw [this]
   rw [Nat.mul_add] at e
   simp only [Nat.add_zero] at e
   omega
def mulL (B : Nat) (m : Nat) : List Nat → List Nat → Nat → List Nat
 | [], o, c => c :: o.tail
 | y :: ys, o, c => (m * y + o.headD 0 + c) % B :: mulL B m ys o.tail ((m * y + o.headD 0 + c) / B)
theorem mulL_len (B m) : ∀ (ys o : List Nat) (c : Nat), ys.length < o.length → (mulL B m ys o c).length = o.length
 | [], o, c, h => by simp [mulL] at h ⊢; omega
 | y :: ys, o, c, h => by
  rw [mulL, List.length_cons, mulL_len B m ys o.tail _ (by simp at h ⊢; omega)]
  simp at h ⊢; omega
theorem mulL_lt {B m : Nat} (hB : 2 ≤ B) (hm : m < B) : ∀ (ys o : List Nat) (c : Nat), (∀ x ∈ ys, x < B) → (∀ x ∈ o, x < B) → c < B → ∀ x ∈ mulL B m ys o c, x < B
 | [], o, c, _, ho, hc => by
  intro x hx
  rw [mulL] at hx
  rcases List.mem_cons.1 hx with rfl | hx
  ·exact hc
  ·exact ho x (List.mem_of_mem_tail hx)
 | y :: ys, o, c, hy, ho, hc => by
  intro x hx
  have h0 := headD_lt (by omega) ho
  have h1 := hy y (by simp)
  rw [mulL] at hx
  rcases List.mem_cons.1 hx with rfl | hx
  ·exact Nat.mod_lt _ (by omega)
  ·refine mulL_lt hB hm ys o.tail _ (fun z hz => hy z (by simp [hz])) (fun z hz => ho z (List.mem_of_mem_tail hz)) ?_ x hx
   rw [Nat.div_lt_iff_lt_mul (by omega)]
   have : m * y ≤ (B - 1) * (B - 1) := Nat.mul_le_mul (by omega) (by omega)
   have e : (B - 1) * (B - 1) + (B - 1) + (B - 1) + 1 = B * B := by
    obtain ⟨k, rfl⟩ : ∃ k, B = k + 1 := ⟨B - 1, by omega⟩
    simp [Nat.add_mul, Nat.mul_add]; omega
   omega
theorem mulL_over {B m y o c : Nat} (hB : 2 ≤ B) (hm : m < B) (hy : y < B) (ho : o < B) (hc : c < B) : m * y + o + c < B * B := by
 have : m * y ≤ (B - 1) * (B - 1) := Nat.mul_le_mul (by omega) (by omega)
 have e : (B - 1) * (B - 1) + (B - 1) + (B - 1) + 1 = B * B := by
  obtain ⟨k, rfl⟩ : ∃ k, B = k + 1 := ⟨B - 1, by omega⟩
  simp [Nat.add_mul, Nat.mul_add]; omega
 omega
theorem mulL_val {B m : Nat} (hB : 2 ≤ B) : ∀ (ys o : List Nat) (c : Nat), ys.length < o.length → o.getD ys.length 0 = 0 → val B (mulL B m ys o c) = m * val B ys + c + val B o
 | [], o, c, h, h0 => by
  rw [mulL, val, val, val_cons' B o]
  have : o.headD 0 = 0 := by cases o <;> simp_all
  rw [this]; omega
 | y :: ys, o, c, h, h0 => by
  rw [mulL, val, mulL_val hB ys o.tail _ (by simp at h ⊢; omega) (by cases o <;> simp_all), val, val_cons' B o]
  have := Nat.mod_add_div (m * y + o.headD 0 + c) B
  generalize (m * y + o.headD 0 + c) % B = p at *
  generalize (m * y + o.headD 0 + c) / B = q at *
  simp only [Nat.mul_add, ← Nat.mul_assoc, Nat.mul_comm m B]
  omega
theorem val_take_lt {B : Nat} (hB : 2 ≤ B) {a b : List Nat} {i : Nat} (hl : a.length = b.length) (hi : i < a.length) (ha : ∀ x ∈ a, x < B) (hb : ∀ x ∈ b, x < B) (he : a.drop (i + 1) = b.drop (i + 1)) (hlt : a[i] < b[i]) : val B a < val B b := by
 have e : ∀ (l : List Nat) (h : i < l.length), val B l = val B (l.take i) + B ^ i * (l[i] + B * val B (l.drop (i + 1))) := fun l h => by
  have := zd4 B (l.take i) (l.drop i)
  rw [List.take_append_drop, List.drop_eq_getElem_cons h, val] at this
  have hlen : (l.take i).length = i := by simp; omega
  rw [hlen] at this; exact this
 rw [e a hi, e b (by omega), he]
 have h1 : val B (a.take i) < B ^ i := by
  have := zgv hB (l := a.take i) fun x hx => ha x (List.mem_of_mem_take hx)
  rwa [show (a.take i).length = i by simp; omega] at this
 have : B ^ i * (a[i] + B * val B (b.drop (i + 1)) + 1) ≤ B ^ i * (b[i] + B * val B (b.drop (i + 1))) := Nat.mul_le_mul_left _ (by omega)
 rw [Nat.mul_add] at this
 omega
theorem val_len_lt {B : Nat} (hB : 2 ≤ B) {x y : Nat} (h : (digs B x).length < (digs B y).length) : x < y := by
 rcases Nat.lt_or_ge x y with h1 | h1
 ·exact h1
 ·have := digs_mono hB h1; omega
theorem digs_inj {B : Nat} (hB : 2 ≤ B) {x y : Nat} (h : digs B x = digs B y) : x = y := by
 rw [← zbo hB x, ← zbo hB y, h]
theorem set_take {α : Type} {l : List α} {i : Nat} {v : α} (h : i < l.length) : (l.set i v).take (i + 1) = l.take i ++ [v] := by
 rw [List.take_add_one]
 have e : (l.set i v)[i]? = some v := by simp [h]
 rw [e, List.take_set_of_le (Nat.le_refl _)]; rfl
theorem set_drop {α : Type} {l : List α} {i : Nat} {v : α} : (l.set i v).drop (i + 1) = l.drop (i + 1) := by
 rw [List.drop_set_of_lt (by omega)]
theorem drop_head {l : List Nat} {i : Nat} : (l.drop i).headD 0 = l.getD i 0 := by simp [List.headD_eq_head?_getD, List.head?_drop, List.getD_eq_getElem?_getD]
theorem drop_tail {α : Type} {l : List α} {i : Nat} : (l.drop i).tail = l.drop (i + 1) := by simp
theorem zel {l : List Nat} {i : Nat} (h : i < l.length) : l.drop i = l.getD i 0 :: l.drop (i + 1) := by
 rw [List.drop_eq_getElem_cons h]; congr 1; simp [List.getD_eq_getElem?_getD, h]
theorem zco {l : List Nat} {B i : Nat} (h : ∀ x ∈ l, x < B) (hB : 0 < B) : l.getD i 0 < B := by
 by_cases hi : i < l.length
 ·have : l.getD i 0 ∈ l := by simp [List.getD_eq_getElem?_getD, hi]
  exact h _ this
 ·simp [List.getD_eq_getElem?_getD, List.getElem?_eq_none (Nat.le_of_not_lt hi)]; exact hB
theorem mulL_high {B m : Nat} : ∀ {ys o : List Nat} {c j : Nat}, ys.length < j → (mulL B m ys o c).getD j 0 = o.getD j 0
 | [], o, c, j, h => by
  obtain ⟨k, rfl⟩ : ∃ k, j = k + 1 := ⟨j - 1, by simp at h; omega⟩
  rw [mulL]; cases o <;> simp
 | y :: ys, o, c, j, h => by
  obtain ⟨k, rfl⟩ : ∃ k, j = k + 1 := ⟨j - 1, by simp at h; omega⟩
  have := mulL_high (B := B) (m := m) (ys := ys) (o := o.tail) (c := (m * y + o.headD 0 + c) / B) (j := k) (by simp at h; omega)
  rw [mulL]
  simp only [List.getD_cons_succ]
  rw [this]; cases o <;> simp
theorem getD_append_take {l m : List Nat} {i j : Nat} (hi : i ≤ l.length) (h : i ≤ j) : (l.take i ++ m).getD j 0 = m.getD (j - i) 0 := by
 have : (l.take i).length = i := by simp; omega
 simp [List.getD_eq_getElem?_getD, List.getElem?_append_right (show (l.take i).length ≤ j by omega), this]
theorem zbg {B : Nat} {l : List Nat} {i : Nat} (h : i < l.length) : val B (l.take (i + 1)) = val B (l.take i) + B ^ i * l.getD i 0 := by
 have e : l.take (i + 1) = l.take i ++ [l.getD i 0] := by
  rw [List.take_add_one]; simp [List.getD_eq_getElem?_getD, h]
 have hl : (l.take i).length = i := by simp; omega
 rw [e, zd4, hl]; simp [val]
theorem ze1 {B : Nat} {l : List Nat} {i : Nat} (h : i ≤ l.length) : val B l = val B (l.take i) + B ^ i * val B (l.drop i) := by
 have hl : (l.take i).length = i := by simp; omega
 have := zd4 B (l.take i) (l.drop i)
 rwa [List.take_append_drop, hl] at this
theorem getD_drop' {l : List Nat} {i j : Nat} : (l.drop i).getD j 0 = l.getD (i + j) 0 := by simp [List.getD_eq_getElem?_getD]
def divL (B b : Nat) : List Nat → List Nat × Nat
 | [] => ([], 0)
 | x :: a => (((divL B b a).2 * B + x) / b :: (divL B b a).1, ((divL B b a).2 * B + x) % b)
theorem divL_len (B b) : ∀ a : List Nat, (divL B b a).1.length = a.length
 | [] => rfl
 | x :: a => by simp [divL, divL_len B b a]
theorem divL_rest {B b : Nat} (hb : 0 < b) : ∀ a : List Nat, (divL B b a).2 < b
 | [] => hb
 | x :: a => Nat.mod_lt _ hb
theorem divL_val {B b : Nat} : ∀ a : List Nat, val B (divL B b a).1 * b + (divL B b a).2 = val B a
 | [] => by simp [divL, val]
 | x :: a => by
  have ih := divL_val (B := B) (b := b) a
  simp only [divL, val]
  have h := Nat.div_add_mod ((divL B b a).2 * B + x) b
  generalize ((divL B b a).2 * B + x) / b = q at *
  generalize ((divL B b a).2 * B + x) % b = r at *
  rw [← ih, Nat.add_mul, Nat.mul_add, Nat.mul_assoc B, Nat.mul_comm b q, Nat.mul_comm B (divL B b a).2] at *
  omega
theorem divL_lt {B b : Nat} (hb : 0 < b) : ∀ a : List Nat, (∀ x ∈ a, x < B) → ∀ x ∈ (divL B b a).1, x < B
 | [], _ => by simp [divL]
 | x :: a, h => by
  intro y hy
  rw [divL] at hy
  rcases List.mem_cons.1 hy with rfl | hy
  ·have h1 := divL_rest (B := B) hb a
   have h2 := h x (by simp)
   rw [Nat.div_lt_iff_lt_mul hb]
   have : ((divL B b a).2 + 1) * B ≤ b * B := Nat.mul_le_mul_right _ h1
   rw [Nat.add_mul, Nat.one_mul, Nat.mul_comm b B] at this
   omega
  ·exact divL_lt hb a (fun z hz => h z (by simp [hz])) y hy
theorem divL_quo {B b : Nat} (hb : 0 < b) (a : List Nat) : val B (divL B b a).1 = val B a / b ∧ (divL B b a).2 = val B a % b := by
 have h1 := divL_val (B := B) (b := b) a
 have h2 := divL_rest (B := B) hb a
 rw [← h1, Nat.mul_comm]
 exact ⟨by rw [Nat.mul_add_div hb, Nat.div_eq_of_lt h2, Nat.add_zero], by rw [Nat.mul_add_mod, Nat.mod_eq_of_lt h2]⟩
theorem digs_step {v : Nat} (h : v ≠ 0) : digs 10 v = v % 10 :: digs 10 (v / 10) := zhp (by decide) h
end Go.Gim
/- Numbers as decimal texts: plain Lean, no program. -/
namespace Go.Gim
def decL (x : Int) : List Nat := if x = 0 then [48] else (if x < 0 then [45] else []) ++ ((digs 10 x.natAbs).map (48 + ·)).reverse
def decS (x : Int) : ByteArray := ⟨((decL x).map UInt8.ofNat).toArray⟩
theorem digs_ne {n : Nat} (h : n ≠ 0) : digs 10 n ≠ [] := by rw [zhp (by decide) h]; simp
theorem tmod_abs (n : Int) : (n.tmod 10).natAbs = n.natAbs % 10 := by rw [Int.natAbs_tmod]; rfl
theorem tdiv_abs (n : Int) : (n.tdiv 10).natAbs = n.natAbs / 10 := by rw [Int.natAbs_tdiv]; rfl
theorem val_set {B : Nat} : ∀ {l : List Nat} {j v : Nat}, j < l.length → val B (l.set j v) + B ^ j * l.getD j 0 = val B l + B ^ j * v
 | [], j, v, h => by simp at h
 | x :: l, 0, v, h => by simp [val]; omega
 | x :: l, j + 1, v, h => by
  have ih := val_set (B := B) (l := l) (j := j) (v := v) (by simpa using h)
  simp only [List.set_cons_succ, val, List.getD_cons_succ, Nat.pow_succ]
  have e1 : B ^ j * B * l.getD j 0 = B * (B ^ j * l.getD j 0) := by rw [Nat.mul_comm (B ^ j) B, Nat.mul_assoc]
  have e2 : B ^ j * B * v = B * (B ^ j * v) := by rw [Nat.mul_comm (B ^ j) B, Nat.mul_assoc]
  rw [e1, e2]
  have := congrArg (B * ·) ih
  simp only [Nat.mul_add] at this
  omega
def dlim (x : Int) : Nat := (digs 10 x.natAbs).length
theorem dlim_lt (x : Int) : x.natAbs < 10 ^ dlim x := lt_pow_digs (by decide) _
theorem dlim_of {x : Int} {k : Nat} (h : x.natAbs < 10 ^ k) : dlim x ≤ k := zhq (by decide) h
theorem dlim_neg (x : Int) : dlim (-x) = dlim x := by simp [dlim]
theorem dlim_lim (x : Int) : dlim x ≤ 10 * lim x := by
 refine dlim_of (Nat.lt_of_lt_of_le (lim_lt x) ?_)
 rw [Nat.pow_mul]
 exact Nat.pow_le_pow_left (by decide) _
theorem dlim_add (x y : Int) : dlim (x + y) ≤ max (dlim x) (dlim y) + 1 := by
 refine dlim_of ?_
 have h1 := dlim_lt x
 have h2 := dlim_lt y
 have h3 : 10 ^ dlim x ≤ 10 ^ max (dlim x) (dlim y) := Nat.pow_le_pow_right (by decide) (Nat.le_max_left _ _)
 have h4 : 10 ^ dlim y ≤ 10 ^ max (dlim x) (dlim y) := Nat.pow_le_pow_right (by decide) (Nat.le_max_right _ _)
 rw [Nat.pow_succ]
 generalize 10 ^ max (dlim x) (dlim y) = p at *
 have : (x + y).natAbs ≤ x.natAbs + y.natAbs := Int.natAbs_add_le x y
 omega
theorem dlim_sub (x y : Int) : dlim (x - y) ≤ max (dlim x) (dlim y) + 1 := by
 have := dlim_add x (-y)
 rwa [dlim_neg, ← Int.sub_eq_add_neg] at this
theorem dlim_mul (x y : Int) : dlim (x * y) ≤ dlim x + dlim y := by
 refine dlim_of ?_
 rw [Int.natAbs_mul, Nat.pow_add]
 exact Nat.mul_lt_mul'' (dlim_lt x) (dlim_lt y)
theorem dlim_i64 {x : Int} (h : -9223372036854775808 ≤ x ∧ x ≤ 9223372036854775807) : dlim x ≤ 20 := Nat.le_trans (dlim_lim x) (by have := zar h; omega)
theorem d2 : 2 ≤ 10 := by decide
end Go.Gim

import Derived.Test.YtjmbcnfhonfpkaaGreatDoorLS4
set_option linter.unusedSimpArgs false
set_option linter.unusedVariables false
/- Sums, and products of matrices: plain laws. -/
set_option maxRecDepth 100000
namespace Go.Gim
theorem zfo (f g : Nat → Int) : ∀ n, sumZ (fun k => f k + g k) n = sumZ f n + sumZ g n
 | 0 => rfl
 | n + 1 => by rw [sumZ, sumZ, sumZ, zfo f g n]; omega
theorem sg_sub (f g : Nat → Int) : ∀ n, sumZ (fun k => f k - g k) n = sumZ f n - sumZ g n
 | 0 => rfl
 | n + 1 => by rw [sumZ, sumZ, sumZ, sg_sub f g n]; omega
theorem zcu (f : Nat → Int) (c : Int) : ∀ n, sumZ (fun k => c * f k) n = c * sumZ f n
 | 0 => by simp [sumZ]
 | n + 1 => by rw [sumZ, sumZ, zcu f c n, Int.mul_add]
theorem sg_mulr (f : Nat → Int) (c : Int) (n : Nat) : sumZ (fun k => f k * c) n = sumZ f n * c := by
 rw [Int.mul_comm, ← zcu]; exact zac fun k _ => Int.mul_comm _ _
theorem sg_neg (f : Nat → Int) : ∀ n, sumZ (fun k => -f k) n = -sumZ f n
 | 0 => rfl
 | n + 1 => by rw [sumZ, sumZ, sg_neg f n]; omega
theorem zgx {f : Nat → Int} : ∀ {n}, (∀ k, k < n → f k = 0) → sumZ f n = 0
 | 0, _ => rfl
 | n + 1, h => by rw [sumZ, zgx fun k hk => h k (by omega), h n (by omega)]; rfl
theorem sg_swap (F : Nat → Nat → Int) (m : Nat) : ∀ n, sumZ (fun i => sumZ (fun j => F i j) m) n = sumZ (fun j => sumZ (fun i => F i j) n) m
 | 0 => by
  show (0 : Int) = sumZ (fun j => 0) m
  rw [zgx fun _ _ => rfl]
 | n + 1 => by
  rw [sumZ, sg_swap F m n, ← zfo]
  exact zac fun k _ => rfl
theorem sg_one {f : Nat → Int} {i : Nat} : ∀ {n}, i < n → (∀ k, k < n → k ≠ i → f k = 0) → sumZ f n = f i
 | 0, h, _ => by omega
 | n + 1, h, hz => by
  rw [sumZ]
  by_cases hi : i = n
  ·subst hi
   rw [zgx fun k hk => hz k (by omega) (by omega)]; omega
  ·rw [sg_one (by omega) fun k hk hne => hz k (by omega) hne, hz n (by omega) (by omega)]; omega
def appS (n : Nat) (M : Nat → Nat → Int) (x : Nat → Int) (i : Nat) : Int := sumZ (fun k => M i k * x k) n
theorem appS_congr {n i : Nat} {M M' : Nat → Nat → Int} {x x' : Nat → Int} (h : ∀ k, k < n → M i k = M' i k) (h' : ∀ k, k < n → x k = x' k) : appS n M x i = appS n M' x' i :=
 zac fun k hk => by rw [h k hk, h' k hk]
end Go.Gim
/- Determinants by the first row; what is linear in each row and 0 where two neighbours are alike is a multiple of the determinant. -/
set_option maxRecDepth 100000
namespace Go.Gim
abbrev Mx := Nat → Nat → Int
def skip (k j : Nat) : Nat := if j < k then j else j + 1
def minor (M : Mx) (k : Nat) : Mx := fun i j => M (i + 1) (skip k j)
def sgn (k : Nat) : Int := if k % 2 = 0 then 1 else -1
theorem sgn_succ (k : Nat) : sgn (k + 1) = -sgn k := by unfold sgn; split <;> split <;> omega
def det : Nat → Mx → Int
 | 0, _ => 1
 | n + 1, M => sumZ (fun k => sgn k * (M 0 k * det n (minor M k))) (n + 1)
theorem skip_lt {n k j : Nat} (h : j < n) : skip k j < n + 1 := by unfold skip; split <;> omega
theorem zaw : ∀ {n : Nat} {M N : Mx}, (∀ i j, i < n → j < n → M i j = N i j) → det n M = det n N
 | 0, _, _, _ => rfl
 | n + 1, M, N, h => by
  rw [det, det]
  refine zac fun k hk => ?_
  rw [h 0 k (by omega) hk, zaw (n := n) (M := minor M k) (N := minor N k) fun i j hi hj => h _ _ (by omega) (skip_lt hj)]
def setR (M : Mx) (i : Nat) (u : Nat → Int) : Mx := fun a b => if a = i then u b else M a b
theorem zgy (M : Mx) (i : Nat) : setR M i (M i) = M := by funext a b; unfold setR; split; (rename_i h; rw [h]); rfl
theorem zgh (M : Mx) (i : Nat) (u : Nat → Int) (b : Nat) : setR M i u i b = u b := by simp [setR]
theorem zgz (M : Mx) {i a : Nat} (u : Nat → Int) (b : Nat) (h : a ≠ i) : setR M i u a b = M a b := by simp [setR, h]
theorem zh8 (M : Mx) {i k : Nat} (u v : Nat → Int) (h : i ≠ k) : setR (setR M i u) k v = setR (setR M k v) i u := by
 funext a b; unfold setR
 by_cases h1 : a = i
 ·have : a ≠ k := by omega
  rw [if_neg this, if_pos h1, if_pos h1]
 ·rw [if_neg h1, if_neg h1]
structure Alt (n w : Nat) (D : Mx → Int) : Prop where
 congr : ∀ M N, (∀ i j, i < n → j < w → M i j = N i j) → D M = D N
 lin : ∀ M i u v (a b : Int), i < n → D (setR M i fun j => a * u j + b * v j) = a * D (setR M i u) + b * D (setR M i v)
 adj : ∀ M i, i + 1 < n → (∀ j, j < w → M i j = M (i + 1) j) → D M = 0
theorem minor_set0 (M : Mx) (u : Nat → Int) (k : Nat) : minor (setR M 0 u) k = minor M k := by funext i j; simp [minor, setR]
theorem minor_setS (M : Mx) (i : Nat) (u : Nat → Int) (k : Nat) : minor (setR M (i + 1) u) k = setR (minor M k) i fun j => u (skip k j) := by
 funext a b; simp [minor, setR]
theorem det_lin : ∀ (n : Nat) (M : Mx) (i : Nat) (u v : Nat → Int) (a b : Int), i < n → det n (setR M i fun j => a * u j + b * v j) = a * det n (setR M i u) + b * det n (setR M i v)
 | 0, _, _, _, _, _, _, h => by omega
 | n + 1, M, 0, u, v, a, b, h => by
  rw [det, det, det, ← zcu, ← zcu, ← zfo]
  refine zac fun k _ => ?_
  rw [minor_set0, minor_set0, minor_set0, zgh, zgh, zgh]
  generalize det n (minor M k) = d
  generalize sgn k = s
  grind
 | n + 1, M, i + 1, u, v, a, b, h => by
  rw [det, det, det, ← zcu, ← zcu, ← zfo]
  refine zac fun k _ => ?_
  rw [minor_setS, minor_setS, minor_setS, zgz _ _ _ (by omega), zgz _ _ _ (by omega), zgz _ _ _ (by omega), det_lin n (minor M k) i _ _ a b (by omega)]
  generalize det n _ = d
  generalize det n _ = e
  generalize sgn k = s
  grind
theorem sum_pairs {F : Nat → Nat → Int} : ∀ {m : Nat}, (∀ k l, k ≤ l → l < m → F k l + F (l + 1) k = 0) → sumZ (fun k => sumZ (fun l => F k l) m) (m + 1) = 0
 | 0, _ => rfl
 | m + 1, h => by
  have ih := sum_pairs (F := F) (m := m) fun k l h1 h2 => h k l h1 (by omega)
  have e : sumZ (fun k => sumZ (fun l => F k l) (m + 1)) (m + 1) = sumZ (fun k => sumZ (fun l => F k l) m) (m + 1) + sumZ (fun k => F k m) (m + 1) := by
   rw [← zfo]; exact zac fun k _ => rfl
  rw [sumZ, e, ih]
  have e2 : sumZ (fun k => F k m) (m + 1) + sumZ (fun l => F (m + 1) l) (m + 1) = 0 := by
   rw [← zfo]; exact zgx fun k hk => h k m (by omega) (by omega)
  omega
theorem skip_skip {k l j : Nat} (h : k ≤ l) : skip k (skip l j) = skip (l + 1) (skip k j) := by
 unfold skip
 by_cases h1 : j < l <;> by_cases h2 : j < k <;> simp only [h1, h2, if_true, if_false] <;> (repeat' split) <;> omega
theorem det_adj : ∀ (n : Nat) (M : Mx) (i : Nat), i + 1 < n → (∀ j, j < n → M i j = M (i + 1) j) → det n M = 0
 | 0, _, _, h, _ => by omega
 | 1, _, _, h, _ => by omega
 | n + 2, M, 0, h, he => by
  rw [det]
  have e : ∀ k, k < n + 1 + 1 → sgn k * (M 0 k * det (n + 1) (minor M k)) = sumZ (fun l => sgn k * (M 0 k * (sgn l * (M 1 (skip k l) * det n (minor (minor M k) l))))) (n + 1) := fun k _ => by
   rw [det, zcu, zcu]; rfl
  rw [zac e]
  refine sum_pairs fun k l hkl hl => ?_
  have m : minor (minor M k) l = minor (minor M (l + 1)) k := by
   funext i j
   simp only [minor]
   rw [skip_skip hkl]
  have s1 : skip k l = l + 1 := by unfold skip; rw [if_neg (by omega)]
  have s2 : skip (l + 1) k = k := by unfold skip; rw [if_pos (by omega)]
  rw [m, s1, s2, sgn_succ, ← he k (by omega), ← he (l + 1) (by omega)]
  generalize det n _ = d
  generalize sgn k = s
  generalize sgn l = t
  grind
 | n + 2, M, i + 1, h, he => by
  rw [det]
  refine zgx fun k _ => ?_
  rw [det_adj (n + 1) (minor M k) i (by omega) fun j hj => he _ (skip_lt hj)]
  simp
theorem det_alt (n : Nat) : Alt n n (det n) := ⟨fun M N h => zaw h, fun M i u v a b h => det_lin n M i u v a b h, fun M i h he => det_adj n M i h he⟩
section alt
variable {n w : Nat} {D : Mx → Int}
theorem Alt.zero (h : Alt n w D) (M : Mx) {i : Nat} (hi : i < n) {u : Nat → Int} (hu : ∀ j, j < w → u j = 0) : D (setR M i u) = 0 := by
 have := h.lin M i u u 0 0 hi
 have e : D (setR M i u) = D (setR M i fun j => 0 * u j + 0 * u j) := h.congr _ _ fun a b ha hb => by
  unfold setR; split
  ·rw [hu b hb]; simp
  ·rfl
 rw [e, this]; omega
theorem Alt.scale (h : Alt n w D) (M : Mx) {i : Nat} (hi : i < n) (u : Nat → Int) (a : Int) : D (setR M i fun j => a * u j) = a * D (setR M i u) := by
 have := h.lin M i u u a 0 hi
 have e : (fun j => a * u j) = fun j => a * u j + 0 * u j := by funext j; omega
 rw [e, this]; omega
theorem Alt.add (h : Alt n w D) (M : Mx) {i : Nat} (hi : i < n) (u v : Nat → Int) : D (setR M i fun j => u j + v j) = D (setR M i u) + D (setR M i v) := by
 have := h.lin M i u v 1 1 hi
 have e : (fun j => u j + v j) = fun j => 1 * u j + 1 * v j := by funext j; omega
 rw [e, this]; omega
theorem Alt.sum (h : Alt n w D) (M : Mx) {i : Nat} (hi : i < n) (c : Nat → Int) (u : Nat → Nat → Int) : ∀ m, D (setR M i fun j => sumZ (fun k => c k * u k j) m) = sumZ (fun k => c k * D (setR M i (u k))) m
 | 0 => h.zero M hi fun _ _ => rfl
 | m + 1 => by
  rw [sumZ, ← h.sum M hi c u m, ← h.scale M hi, ← h.add M hi]; rfl
theorem Alt.swap1 (h : Alt n w D) (M : Mx) {i : Nat} (hi : i + 1 < n) : D (setR (setR M i (M (i + 1))) (i + 1) (M i)) = -D M := by
 have z : ∀ u : Nat → Int, D (setR (setR M i u) (i + 1) u) = 0 := fun u => h.adj _ i hi fun j _ => by rw [zgz _ _ _ (by omega), zgh, zgh]
 have A1 : ∀ u v v' : Nat → Int, D (setR (setR M i u) (i + 1) fun j => v j + v' j) = D (setR (setR M i u) (i + 1) v) + D (setR (setR M i u) (i + 1) v') := fun u v v' => h.add _ hi v v'
 have A2 : ∀ u u' v : Nat → Int, D (setR (setR M i fun j => u j + u' j) (i + 1) v) = D (setR (setR M i u) (i + 1) v) + D (setR (setR M i u') (i + 1) v) := fun u u' v => by
  rw [zh8 M _ v (show i ≠ i + 1 by omega), zh8 M _ v (show i ≠ i + 1 by omega), zh8 M _ v (show i ≠ i + 1 by omega)]
  exact h.add _ (by omega) u u'
 have e1 := z fun j => M i j + M (i + 1) j
 rw [A1, A2, A2, z, z] at e1
 have e2 : setR (setR M i (M i)) (i + 1) (M (i + 1)) = M := by rw [zgy, zgy]
 rw [e2] at e1
 omega
theorem Alt.alike (h : Alt n w D) : ∀ (g : Nat) (M : Mx) (i : Nat), i + 1 + g < n → (∀ j, j < w → M i j = M (i + 1 + g) j) → D M = 0
 | 0, M, i, hk, he => h.adj M i hk he
 | g + 1, M, i, hk, he => by
  have s := h.swap1 M (i := i + 1 + g) (by omega)
  have z := h.alike g (setR (setR M (i + 1 + g) (M (i + 1 + g + 1))) (i + 1 + g + 1) (M (i + 1 + g))) i (by omega) fun j hj => by
   rw [zgz _ _ _ (by omega), zgz _ _ _ (by omega), zgz _ _ _ (by omega), zgh]
   exact he j hj
  rw [z] at s
  omega
theorem Alt.same (h : Alt n w D) (M : Mx) {i k : Nat} (hi : i < n) (hk : k < n) (hne : i ≠ k) (he : ∀ j, j < w → M i j = M k j) : D M = 0 := by
 rcases Nat.lt_or_gt_of_ne hne with hlt | hlt
 ·obtain ⟨g, rfl⟩ : ∃ g, k = i + 1 + g := ⟨k - i - 1, by omega⟩
  exact h.alike g M i hk he
 ·obtain ⟨g, rfl⟩ : ∃ g, i = k + 1 + g := ⟨i - k - 1, by omega⟩
  exact h.alike g M k hi fun j hj => (he j hj).symm
theorem Alt.same' (h : Alt n w D) (M : Mx) {i k : Nat} (hi : i < n) (hk : k < n) (hne : i ≠ k) : D (setR M i (M k)) = 0 :=
 h.same _ hi hk hne fun j _ => by rw [zgh, zgz _ _ _ (by omega)]
theorem Alt.swap (h : Alt n w D) (M : Mx) {i k : Nat} (hi : i < n) (hk : k < n) (hne : i ≠ k) : D (swpN M i k) = -D M := by
 have z : ∀ u : Nat → Int, D (setR (setR M i u) k u) = 0 := fun u => h.same _ hi hk hne fun j _ => by rw [zgz _ _ _ hne, zgh, zgh]
 have A1 : ∀ u v v' : Nat → Int, D (setR (setR M i u) k fun j => v j + v' j) = D (setR (setR M i u) k v) + D (setR (setR M i u) k v') := fun u v v' => h.add _ hk v v'
 have A2 : ∀ u u' v : Nat → Int, D (setR (setR M i fun j => u j + u' j) k v) = D (setR (setR M i u) k v) + D (setR (setR M i u') k v) := fun u u' v => by
  rw [zh8 M _ v hne, zh8 M _ v hne, zh8 M _ v hne]
  exact h.add _ hi u u'
 have e1 := z fun j => M i j + M k j
 rw [A1, A2, A2, z, z] at e1
 have e2 : setR (setR M i (M i)) k (M k) = M := by rw [zgy, zgy]
 have e3 : setR (setR M i (M k)) k (M i) = swpN M i k := by
  funext a b
  unfold swpN setR
  by_cases h1 : a = k
  ·rw [if_pos h1, if_pos h1]
  ·rw [if_neg h1, if_neg h1]
   by_cases h2 : a = i
   ·rw [if_pos h2, if_pos h2]
   ·rw [if_neg h2, if_neg h2]
 rw [e2, e3] at e1
 omega
theorem Alt.addRow (h : Alt n w D) (M : Mx) {i r : Nat} (hi : i < n) (hr : r < n) (hne : i ≠ r) (c : Int) : D (setR M i fun j => M i j + c * M r j) = D M := by
 rw [h.add M hi, h.scale M hi, h.same' M hi hr hne, zgy]; omega
theorem Alt.addRows (h : Alt n w D) (M : Mx) {r : Nat} (hr : r < n) (c : Nat → Int) (hc : c r = 0) : ∀ m, m ≤ n → D (fun i j => if i < m then M i j + c i * M r j else M i j) = D M
 | 0, _ => by congr 1
 | m + 1, hm => by
  rw [← h.addRows M hr c hc m (by omega)]
  by_cases hmr : m = r
  ·congr 1
   funext i j
   by_cases h1 : i < m
   ·rw [if_pos h1, if_pos (by omega)]
   ·rw [if_neg h1]
    split
    ·have : i = r := by omega
     rw [this, hc]; omega
    ·rfl
  ·rw [← h.addRow (fun i j => if i < m then M i j + c i * M r j else M i j) (show m < n by omega) hr hmr (c m)]
   refine h.congr _ _ fun i j _ _ => ?_
   unfold setR
   have er : (if r < m then M r j + c r * M r j else M r j) = M r j := by rw [hc]; split <;> omega
   by_cases h1 : i = m
   ·subst h1
    rw [if_pos (by omega), if_pos rfl]
    simp only [er, Nat.lt_irrefl, if_false]
   ·rw [if_neg h1]
    by_cases h2 : i < m
    ·rw [if_pos (by omega)]; exact (if_pos h2).symm
    ·rw [if_neg (by omega)]; exact (if_neg h2).symm
end alt
end Go.Gim
/- Such a one is the determinant times what it is of 1; products, rows for columns. -/
set_option maxRecDepth 100000
namespace Go.Gim
def ek (k : Nat) : Nat → Int := fun j => if j = k then 1 else 0
def idM : Mx := fun i j => if i = j then 1 else 0
def unskip (k j : Nat) : Nat := if j < k then j else j - 1
theorem unskip_or (k j : Nat) : (j < k ∧ unskip k j = j) ∨ (k ≤ j ∧ unskip k j = j - 1) := by unfold unskip; split <;> omega
theorem skip_or (k j : Nat) : (j < k ∧ skip k j = j) ∨ (k ≤ j ∧ skip k j = j + 1) := by unfold skip; split <;> omega
theorem skip_unskip {k j : Nat} (h : j ≠ k) : skip k (unskip k j) = j := by have := unskip_or k j; have := skip_or k (unskip k j); omega
theorem unskip_skip {k j : Nat} : unskip k (skip k j) = j := by have := skip_or k j; have := unskip_or k (skip k j); omega
theorem skip_ne {k j : Nat} : skip k j ≠ k := by have := skip_or k j; omega
theorem unskip_lt {k j n : Nat} (hj : j < n + 1) (hk : k < n + 1) (h : j ≠ k) : unskip k j < n := by unfold unskip; split <;> omega
def ins (k : Nat) (N : Mx) : Mx
 | 0 => ek k
 | i + 1 => fun j => if j = k then 0 else N i (unskip k j)
theorem ins_set (k i : Nat) (N : Mx) (u : Nat → Int) : ins k (setR N i u) = setR (ins k N) (i + 1) fun j => if j = k then 0 else u (unskip k j) := by
 funext a b
 cases a with
 | zero => simp [ins, setR]
 | succ a =>
  simp only [ins, setR, Nat.add_right_cancel_iff]
  by_cases h : b = k <;> by_cases h2 : a = i <;> simp [h, h2]
theorem Alt.ins {n : Nat} {D : Mx → Int} (h : Alt (n + 1) (n + 1) D) {k : Nat} (hk : k < n + 1) : Alt n n fun N => D (ins k N) where
 congr M N he := h.congr _ _ fun i j hi hj => by
  cases i with
  | zero => rfl
  | succ i =>
   simp only [Gim.ins]
   split
   ·rfl
   ·rename_i hne; exact he _ _ (by omega) (unskip_lt hj hk hne)
 lin M i u v a b hi := by
  simp only [ins_set]
  rw [← h.lin (Gim.ins k M) (i + 1) _ _ a b (by omega)]
  congr 2
  funext j
  by_cases hj : j = k <;> simp [hj]
 adj M i hi he := h.adj _ (i + 1) (by omega) fun j hj => by
  simp only [Gim.ins]
  split
  ·rfl
  ·rename_i hne; exact he _ (unskip_lt hj hk hne)
theorem Alt.ins_id {n : Nat} {D : Mx → Int} (h : Alt (n + 1) (n + 1) D) : ∀ {k : Nat}, k < n + 1 → D (Gim.ins k idM) = sgn k * D idM
 | 0, _ => by
  rw [show sgn 0 = 1 from rfl, Int.one_mul]
  refine h.congr _ _ fun i j _ _ => ?_
  cases i with
  | zero => simp only [Gim.ins, ek, idM]; (repeat' split) <;> omega
  | succ i =>
   have u1 := unskip_or 0 j
   simp only [Gim.ins, idM]
   (repeat' split) <;> omega
 | k + 1, hk => by
  rw [sgn_succ, Int.neg_mul, ← h.ins_id (k := k) (by omega), ← h.swap (Gim.ins k idM) (show 0 < n + 1 by omega) hk (by omega)]
  refine h.congr _ _ fun i j _ _ => ?_
  have u1 := unskip_or k j
  have u2 := unskip_or (k + 1) j
  unfold swpN
  by_cases h1 : i = k + 1
  ·subst h1
   rw [if_pos rfl]
   simp only [Gim.ins, ek, idM]
   (repeat' split) <;> omega
  ·rw [if_neg h1]
   cases i with
   | zero =>
    rw [if_pos rfl]
    simp only [Gim.ins, ek, idM]
    (repeat' split) <;> omega
   | succ i =>
    rw [if_neg (by omega)]
    simp only [Gim.ins, idM]
    (repeat' split) <;> omega
theorem Alt.first {n : Nat} {D : Mx → Int} (h : Alt (n + 1) (n + 1) D) (M : Mx) : D M = sumZ (fun k => M 0 k * D (Gim.ins k (minor M k))) (n + 1) := by
 have e1 : D M = D (setR M 0 fun j => sumZ (fun k => M 0 k * ek k j) (n + 1)) := h.congr _ _ fun i j _ hj => by
  unfold setR
  by_cases hi : i = 0
  ·rw [if_pos hi, hi]
   have := sg_one (f := fun k => M 0 k * ek k j) hj fun k _ hk => by
    show M 0 k * (if j = k then 1 else 0) = 0
    rw [if_neg fun e => hk e.symm]; simp
   refine Eq.trans ?_ this.symm
   show M 0 j = M 0 j * (if j = j then 1 else 0)
   rw [if_pos rfl]; omega
  ·rw [if_neg hi]
 rw [e1, h.sum M (by omega)]
 refine zac fun k hk => ?_
 congr 1
 rw [← h.addRows (setR M 0 (ek k)) (r := 0) (by omega) (fun i => if i = 0 then 0 else -M i k) rfl (n + 1) (Nat.le_refl _)]
 refine h.congr _ _ fun i j hi hj => ?_
 rw [if_pos hi, zgh]
 cases i with
 | zero => simp [setR, Gim.ins]
 | succ i =>
  rw [zgz _ _ _ (by omega), if_neg (by omega)]
  simp only [Gim.ins, ek]
  by_cases hjk : j = k
  ·rw [if_pos hjk, if_pos hjk, hjk]; omega
  ·rw [if_neg hjk, if_neg hjk]
   simp only [minor]
   rw [skip_unskip hjk]; omega
theorem Alt.eq : ∀ {n : Nat} {D : Mx → Int}, Alt n n D → ∀ M, D M = det n M * D idM
 | 0, D, h, M => by
  rw [det, Int.one_mul]
  exact h.congr _ _ fun i j hi => by omega
 | n + 1, D, h, M => by
  rw [h.first M, det, ← sg_mulr]
  refine zac fun k hk => ?_
  have e := Alt.eq (h.ins hk) (minor M k)
  rw [e, h.ins_id hk]
  generalize det n (minor M k) = d
  generalize sgn k = s
  generalize D idM = x
  grind
theorem det_id (n : Nat) : det n idM = 1 := by
 induction n with
 | zero => rfl
 | succ n ih =>
  rw [det, sg_one (i := 0) (by omega) fun k hk hne => by simp only [idM]; rw [if_neg (by omega)]; simp]
  have : det n (minor idM 0) = det n idM := zaw fun i j _ _ => by simp [minor, skip, idM]
  rw [this, ih]
  simp [sgn, idM]
def trM (M : Mx) : Mx := fun i j => M j i
theorem det_colS (a b : Int) : ∀ {n : Nat} {M : Mx} {j : Nat} {u v : Nat → Int}, j < n → det n (trM (setR (trM M) j fun i => a * u i + b * v i)) = a * det n (trM (setR (trM M) j u)) + b * det n (trM (setR (trM M) j v)) := by
 intro n
 induction n with
 | zero => intro M j u v h; omega
 | succ n ih =>
  intro M j u v hj
  rw [det, det, det, ← zcu, ← zcu, ← zfo]
  refine zac fun k hk => ?_
  have e0 : ∀ w : Nat → Int, k = j → minor (trM (setR (trM M) j w)) k = minor M k := fun w e => by
   funext r c
   simp only [minor, trM, setR]
   rw [if_neg (by rw [e]; exact skip_ne)]
  have e1 : ∀ w : Nat → Int, k ≠ j → minor (trM (setR (trM M) j w)) k = trM (setR (trM (minor M k)) (unskip k j) fun i => w (i + 1)) := fun w e => by
   funext r c
   simp only [minor, trM, setR]
   by_cases hc : c = unskip k j
   ·rw [if_pos hc, if_pos (by rw [hc, skip_unskip (by omega)])]
   ·rw [if_neg hc, if_neg fun h => hc (by rw [← h, unskip_skip])]
  by_cases hkj : k = j
  ·rw [e0 _ hkj, e0 _ hkj, e0 _ hkj]
   have : ∀ w : Nat → Int, trM (setR (trM M) j w) 0 k = w 0 := fun w => by simp [trM, setR, hkj]
   rw [this, this, this]
   generalize det n _ = d
   generalize sgn k = s
   grind
  ·rw [e1 _ hkj, e1 _ hkj, e1 _ hkj]
   have : ∀ w : Nat → Int, trM (setR (trM M) j w) 0 k = M 0 k := fun w => by simp [trM, setR, hkj]
   rw [this, this, this, ih (unskip_lt hj hk (by omega))]
   generalize det n _ = d
   generalize det n _ = e
   generalize sgn k = s
   grind
theorem sg_two {f : Nat → Int} {j : Nat} : ∀ {n : Nat}, j + 1 < n → (∀ k, k < n → k ≠ j → k ≠ j + 1 → f k = 0) → f j + f (j + 1) = 0 → sumZ f n = 0
 | 0, h, _, _ => by omega
 | n + 1, h, hz, he => by
  rw [sumZ]
  by_cases hn : j + 1 = n
  ·subst hn
   rw [sumZ, zgx fun k hk => hz k (by omega) (by omega) (by omega)]
   omega
  ·rw [sg_two (j := j) (by omega) (fun k hk => hz k (by omega)) he, hz n (by omega) (by omega) (by omega)]; rfl
theorem det_coladj : ∀ (n : Nat) (M : Mx) (j : Nat), j + 1 < n → (∀ r, r < n → M r j = M r (j + 1)) → det n M = 0
 | 0, _, _, h, _ => by omega
 | n + 1, M, j, hj, he => by
  rw [det]
  refine sg_two hj (fun k hk h1 h2 => ?_) ?_
  ·have : det n (minor M k) = 0 := by
    by_cases hkj : k < j
    ·refine det_coladj n (minor M k) (j - 1) (by omega) fun r hr => ?_
     have s1 := skip_or k (j - 1)
     have s2 := skip_or k (j - 1 + 1)
     simp only [minor]
     rw [show skip k (j - 1) = j by omega, show skip k (j - 1 + 1) = j + 1 by omega]
     exact he _ (by omega)
    ·refine det_coladj n (minor M k) j (by omega) fun r hr => ?_
     have s1 := skip_or k j
     have s2 := skip_or k (j + 1)
     simp only [minor]
     rw [show skip k j = j by omega, show skip k (j + 1) = j + 1 by omega]
     exact he _ (by omega)
   rw [this]; simp
  ·have : det n (minor M j) = det n (minor M (j + 1)) := zaw fun r c hr hc => by
    have s1 := skip_or j c
    have s2 := skip_or (j + 1) c
    simp only [minor]
    by_cases hcj : c = j
    ·rw [show skip j c = j + 1 by omega, show skip (j + 1) c = j by omega]
     exact (he _ (by omega)).symm
    ·rw [show skip j c = skip (j + 1) c by omega]
   rw [this, sgn_succ, he 0 (by omega)]
   generalize det n _ = d
   generalize sgn j = s
   grind
theorem det_tr_alt (n : Nat) : Alt n n fun M => det n (trM M) :=
 ⟨fun M N h => zaw fun i j hi hj => h j i hj hi, fun M i u v a b hi => det_colS a b (M := trM M) hi, fun M i hi he => det_coladj n (trM M) i hi fun r hr => he r hr⟩
theorem det_tr (n : Nat) (M : Mx) : det n (trM M) = det n M := by
 have := (det_tr_alt n).eq M
 have e : det n (trM idM) = 1 := by
  rw [← det_id n]; exact zaw fun i j _ _ => by simp only [trM, idM]; (repeat' split) <;> omega
 rw [e] at this
 omega
def setC (M : Mx) (j : Nat) (u : Nat → Int) : Mx := fun a b => if b = j then u a else M a b
theorem setC_tr (M : Mx) (j : Nat) (u : Nat → Int) : setC M j u = trM (setR (trM M) j u) := by funext a b; rfl
theorem cramR {n : Nat} (M : Mx) {i j : Nat} (hi : i < n) (hj : j < n) : sumZ (fun c => M i c * det n (setR M j (ek c))) n = if i = j then det n M else 0 := by
 have h := det_alt n
 rw [← h.sum M hj (M i) ek n]
 have e : det n (setR M j fun b => sumZ (fun k => M i k * ek k b) n) = det n (setR M j (M i)) := zaw fun a b _ hb => by
  unfold setR
  split
  ·have := sg_one (f := fun k => M i k * ek k b) hb fun k _ hk => by
    show M i k * (if b = k then 1 else 0) = 0
    rw [if_neg fun e => hk e.symm]; simp
   refine this.trans ?_
   show M i b * (if b = b then 1 else 0) = M i b
   rw [if_pos rfl]; omega
  ·rfl
 rw [e]
 by_cases hij : i = j
 ·rw [if_pos hij, hij, zgy]
 ·rw [if_neg hij]; exact h.same' M hj hi fun e => hij e.symm
theorem cramC {n : Nat} (M : Mx) {i j : Nat} (hi : i < n) (hj : j < n) : sumZ (fun r => det n (setC M i (ek r)) * M r j) n = if i = j then det n M else 0 := by
 have := cramR (trM M) hj hi
 have e : ∀ r, det n (setC M i (ek r)) = det n (setR (trM M) i (ek r)) := fun r => by rw [setC_tr, det_tr]
 rw [zac fun r _ => by rw [e r, Int.mul_comm]]
 refine this.trans ?_
 rw [det_tr]
 by_cases h : i = j
 ·rw [if_pos h, if_pos h.symm]
 ·rw [if_neg h, if_neg fun e => h e.symm]
theorem row_zero {n : Nat} {M : Mx} (hd : det n M ≠ 0) {t : Nat → Int} (h : ∀ c, c < n → sumZ (fun j => t j * M j c) n = 0) {j : Nat} (hj : j < n) : t j = 0 := by
 have e : t j * det n M = 0 := by
  have e1 : sumZ (fun c => sumZ (fun i => t i * M i c) n * det n (setR M j (ek c))) n = t j * det n M := by
   rw [zac (g := fun c => sumZ (fun i => t i * M i c * det n (setR M j (ek c))) n) fun c _ => (sg_mulr _ _ _).symm, sg_swap]
   rw [zac (g := fun i => t i * if i = j then det n M else 0) fun i hi => by
    rw [← cramR M hi hj, ← zcu]
    exact zac fun c _ => Int.mul_assoc _ _ _]
   rw [sg_one (f := fun i => t i * if i = j then det n M else 0) hj fun k _ hk => by rw [if_neg hk]; simp]
   rw [if_pos rfl]
  rw [← e1]
  exact zgx fun c hc => by rw [h c hc]; simp
 rcases Int.mul_eq_zero.1 e with h | h
 ·exact h
 ·exact absurd h hd
theorem col_zero {n : Nat} {M : Mx} {v : Nat → Int} (h : ∀ i, i < n → sumZ (fun c => M i c * v c) n = 0) {k : Nat} (hk : k < n) (hv : v k ≠ 0) : det n M = 0 := by
 have e := row_zero (n := n) (M := trM M) (t := v) (j := k)
 by_cases hd : det n M = 0
 ·exact hd
 ·refine absurd (e (by rw [det_tr]; exact hd) (fun c hc => ?_) hk) hv
  rw [← h c hc]; exact zac fun j _ => Int.mul_comm _ _
theorem minor_zero (M : Mx) (i j : Nat) : minor M 0 i j = M (i + 1) (j + 1) := by simp [minor, skip]
theorem det_cornI : ∀ (n : Nat) (M : Mx), (∀ i j, i < n → j ≤ n → M i j = if i = j then 1 else 0) → det (n + 1) M = M n n
 | 0, M, _ => by simp [det, sumZ, sgn]
 | n + 1, M, h => by
  rw [det, sg_one (i := 0) (by omega) fun k hk hne => by rw [h 0 k (by omega) (by omega), if_neg (by omega)]; simp]
  rw [det_cornI n (minor M 0) fun i j hi hj => by
   rw [minor_zero, h _ _ (by omega) (by omega)]
   (repeat' split) <;> omega]
  rw [minor_zero, h 0 0 (by omega) (by omega)]
  simp [sgn]
def cornB (n : Nat) (r : Nat → Int) (P : Mx) : Mx := fun i j => if i < n then (if j < n then P i j else 0) else r j
theorem det_last {n : Nat} {M : Mx} (h : ∀ j, j < n → M n j = 0) : det (n + 1) M = M n n * det n M := by
 have hB : Alt n n fun P => det (n + 1) (cornB n (fun j => M j n) P) := by
  have hs : ∀ (P : Mx) (i : Nat) (u : Nat → Int), i < n → cornB n (fun j => M j n) (setR P i u) = setR (cornB n (fun j => M j n) P) i fun j => if j < n then u j else 0 := fun P i u hi => by
   funext a b
   unfold cornB setR
   by_cases ha : a = i
   ·rw [if_pos (by omega), if_pos ha, if_pos ha]
   ·rw [if_neg ha, if_neg ha]
  refine ⟨fun P Q he => zaw fun i j _ _ => ?_, fun P i u v a b hi => ?_, fun P i hi he => det_adj _ _ i (by omega) fun j _ => ?_⟩
  ·unfold cornB
   by_cases hi : i < n
   ·rw [if_pos hi, if_pos hi]
    by_cases hj : j < n
    ·rw [if_pos hj, if_pos hj, he i j hi hj]
    ·rw [if_neg hj, if_neg hj]
   ·rw [if_neg hi, if_neg hi]
  ·rw [hs _ _ _ hi, hs _ _ _ hi, hs _ _ _ hi, ← det_lin (n + 1) _ i _ _ a b (by omega)]
   congr 2
   funext j
   by_cases hj : j < n
   ·rw [if_pos hj, if_pos hj, if_pos hj]
   ·rw [if_neg hj, if_neg hj, if_neg hj]; omega
  ·show (if i < n then (if j < n then P i j else 0) else M j n) = if i + 1 < n then (if j < n then P (i + 1) j else 0) else M j n
   rw [if_pos (show i < n by omega), if_pos hi]
   by_cases hj : j < n
   ·rw [if_pos hj, if_pos hj, he j hj]
   ·rw [if_neg hj, if_neg hj]
 have e := hB.eq (trM M)
 have e1 : det (n + 1) (cornB n (fun j => M j n) (trM M)) = det (n + 1) (trM M) := zaw fun i j hi hj => by
  unfold cornB trM
  by_cases h1 : i < n
  ·rw [if_pos h1]
   by_cases h2 : j < n
   ·rw [if_pos h2]
   ·rw [if_neg h2, show j = n by omega, h i h1]
  ·rw [if_neg h1, show i = n by omega]
 have e2 : det (n + 1) (cornB n (fun j => M j n) idM) = M n n := by
  rw [det_cornI n _ fun i j hi hj => by
   unfold cornB idM
   rw [if_pos hi]
   (repeat' split) <;> omega]
  unfold cornB
  rw [if_neg (by omega)]
 rw [e1, e2, det_tr, det_tr] at e
 rw [e, Int.mul_comm]
end Go.Gim
/- What a sweep does to a matrix: each place is a determinant. -/
set_option maxRecDepth 100000
namespace Go.Gim
def cross (M : Mx) (j c : Nat) : Mx := fun a b => if a = j then (if b = c then 1 else 0) else if b = c then 0 else M a b
theorem det_cross {n : Nat} (M : Mx) {j c : Nat} (hj : j < n) : det n (setR M j (ek c)) = det n (cross M j c) := by
 rw [← (det_alt n).addRows (setR M j (ek c)) hj (fun i => if i = j then 0 else -M i c) (by simp) n (Nat.le_refl _)]
 refine zaw fun a b ha hb => ?_
 rw [if_pos ha]
 unfold cross setR ek
 by_cases h : a = j
 ·simp [h]
 ·by_cases h2 : b = c
  ·simp [h, h2]; omega
  ·simp [h, h2]
theorem det_row_col {n : Nat} (M : Mx) {j c : Nat} (hj : j < n) (hc : c < n) : det n (setR M j (ek c)) = det n (setC M c (ek j)) := by
 rw [det_cross M hj, setC_tr, det_tr, det_cross (trM M) hc, ← det_tr]
 congr 1
 funext a b
 unfold trM cross
 by_cases h1 : a = c <;> by_cases h2 : b = j <;> simp [h1, h2]
def adjK (k : Nat) (P : Mx) (c r : Nat) : Int := det k (setC P c (ek r))
theorem adj_left {k : Nat} (P : Mx) {i j : Nat} (hi : i < k) (hj : j < k) : sumZ (fun r => adjK k P i r * P r j) k = if i = j then det k P else 0 := cramC P hi hj
theorem adj_right {k : Nat} (P : Mx) {i j : Nat} (hi : i < k) (hj : j < k) : sumZ (fun c => P i c * adjK k P c j) k = if i = j then det k P else 0 := by
 rw [← cramR P hi hj]
 exact zac fun c hc => by rw [det_row_col P hj hc]; rfl
theorem adj_congr {k : Nat} {P Q : Mx} (h : ∀ i j, i < k → j < k → P i j = Q i j) (c r : Nat) : adjK k P c r = adjK k Q c r :=
 zaw fun i j hi hj => by unfold setC; split; rfl; exact h i j hi hj
def wK (k : Nat) (P : Mx) (c j : Nat) : Int := sumZ (fun r => adjK k P c r * P r j) k
def tgt (k : Nat) (P : Mx) (i j : Nat) : Int := if i < k then wK k P i j else det k P * P i j - sumZ (fun c => P i c * wK k P c j) k
theorem tgt_lo {k : Nat} (P : Mx) {i j : Nat} (hi : i < k) (hj : j < k) : tgt k P i j = if i = j then det k P else 0 := by
 unfold tgt; rw [if_pos hi]; exact adj_left P hi hj
theorem tgt_hi {k : Nat} (P : Mx) {i j : Nat} (hi : ¬ i < k) (hj : j < k) : tgt k P i j = 0 := by
 unfold tgt; rw [if_neg hi]
 rw [zac (g := fun c => if c = j then P i c * det k P else 0) fun c hc => by
  unfold wK; rw [adj_left P hc hj]; split <;> simp]
 rw [sg_one (f := fun c => if c = j then P i c * det k P else 0) hj fun c _ hne => if_neg hne]
 rw [if_pos rfl, Int.mul_comm]; omega
theorem tgt_zero (P : Mx) (i j : Nat) : tgt 0 P i j = P i j := by unfold tgt; rw [if_neg (Nat.not_lt_zero _)]; simp [det, sumZ]
def Cmb (m : Nat) (P : Mx) (i : Nat) (a : Int) (f : Nat → Int) : Prop := ∃ u : Nat → Int, ∀ j, f j = a * P i j + sumZ (fun r => u r * P r j) m
theorem Cmb.lin {m i : Nat} {P : Mx} {a b : Int} {f g : Nat → Int} (x y : Int) (h1 : Cmb m P i a f) (h2 : Cmb m P i b g) : Cmb m P i (x * a + y * b) fun j => x * f j + y * g j := by
 obtain ⟨u, h1⟩ := h1
 obtain ⟨v, h2⟩ := h2
 refine ⟨fun r => x * u r + y * v r, fun j => ?_⟩
 have e : sumZ (fun r => (x * u r + y * v r) * P r j) m = x * sumZ (fun r => u r * P r j) m + y * sumZ (fun r => v r * P r j) m := by
  rw [← zcu, ← zcu, ← zfo]
  exact zac fun r _ => by rw [Int.add_mul, Int.mul_assoc, Int.mul_assoc]
 dsimp only
 rw [e, h1, h2]
 generalize sumZ (fun r => u r * P r j) m = U
 generalize sumZ (fun r => v r * P r j) m = V
 grind
theorem Cmb.up {m m' i : Nat} {P : Mx} {a : Int} {f : Nat → Int} (h : Cmb m P i a f) (hm : m ≤ m') : Cmb m' P i a f := by
 obtain ⟨u, h⟩ := h
 induction hm with
 | refl => exact ⟨u, h⟩
 | @step k hk ih =>
  obtain ⟨v, ih⟩ := ih
  refine ⟨fun r => if r = k then 0 else v r, fun j => ?_⟩
  dsimp only
  rw [ih, sumZ, if_pos rfl, zac (f := fun r => (if r = k then 0 else v r) * P r j) (g := fun r => v r * P r j) fun r hr => by rw [if_neg (by omega)]]
  omega
theorem Cmb.own {m i : Nat} {P : Mx} {a : Int} {f : Nat → Int} (h : Cmb m P i a f) (hi : i < m) (i' : Nat) : Cmb m P i' 0 f := by
 obtain ⟨u, h⟩ := h
 refine ⟨fun r => u r + if r = i then a else 0, fun j => ?_⟩
 dsimp only
 rw [h, zac (f := fun r => (u r + if r = i then a else 0) * P r j) (g := fun r => u r * P r j + if r = i then a * P i j else 0) (fun r _ => by split; (rename_i e; subst e; grind); grind), zfo, sg_one (f := fun r => if r = i then a * P i j else 0) hi fun r _ hne => if_neg hne, if_pos rfl]
 omega
theorem Cmb.any {m i : Nat} {P : Mx} {f : Nat → Int} (h : Cmb m P i 0 f) (i' : Nat) : Cmb m P i' 0 f := by
 obtain ⟨u, h⟩ := h
 exact ⟨u, fun j => by rw [h]; omega⟩
theorem Cmb.eq {m i : Nat} {P : Mx} {a : Int} {f g : Nat → Int} (hd : det m P ≠ 0) (h1 : Cmb m P i a f) (h2 : Cmb m P i a g) (he : ∀ j, j < m → f j = g j) (j : Nat) : f j = g j := by
 obtain ⟨u, h1⟩ := h1
 obtain ⟨v, h2⟩ := h2
 have z : ∀ r, r < m → u r - v r = 0 := fun r hr => row_zero hd (t := fun r => u r - v r) (fun c hc => by
  have := he c hc
  rw [h1, h2] at this
  rw [zac (g := fun r => u r * P r c - v r * P r c) (fun r _ => Int.sub_mul _ _ _), sg_sub]
  omega) hr
 rw [h1, h2]
 congr 1
 exact zac fun r hr => by rw [show u r = v r by have := z r hr; omega]
theorem wK_cmb (k : Nat) (P : Mx) (c i : Nat) : Cmb k P i 0 fun j => wK k P c j := ⟨fun r => adjK k P c r, fun j => by dsimp only; unfold wK; omega⟩
theorem sum_cmb {m i : Nat} {P : Mx} (a : Nat → Int) (f : Nat → Nat → Int) : ∀ n, (∀ c, c < n → Cmb m P i 0 (f c)) → Cmb m P i 0 fun j => sumZ (fun c => a c * f c j) n
 | 0, _ => ⟨fun _ => 0, fun j => by simp only [sumZ]; rw [zgx fun _ _ => by simp]; simp⟩
 | n + 1, h => by
  have h1 := (sum_cmb a f n fun c hc => h c (by omega)).lin 1 (a n) (h n (by omega))
  obtain ⟨u, h1⟩ := h1
  exact ⟨u, fun j => by have := h1 j; dsimp only at this ⊢; rw [sumZ]; omega⟩
theorem tgt_cmb (k : Nat) (P : Mx) (i : Nat) : Cmb k P i (if i < k then 0 else det k P) fun j => tgt k P i j := by
 by_cases h : i < k
 ·rw [if_pos h]
  obtain ⟨u, hu⟩ := wK_cmb k P i i
  exact ⟨u, fun j => by dsimp only; unfold tgt; rw [if_pos h]; exact hu j⟩
 ·rw [if_neg h]
  have hs := (sum_cmb (m := k) (P := P) (i := i) (fun c => P i c) (fun c j => wK k P c j) k fun c _ => wK_cmb k P c i)
  obtain ⟨u, hu⟩ := hs
  refine ⟨fun r => -u r, fun j => ?_⟩
  have := hu j
  dsimp only at this ⊢
  unfold tgt
  rw [if_neg h, this, zac (f := fun r => -u r * P r j) (g := fun r => -(u r * P r j)) (fun r _ => Int.neg_mul _ _), sg_neg]
  omega
theorem tgt_diag {k : Nat} {P : Mx} (hd : det k P ≠ 0) : tgt k P k k = det (k + 1) P := by
 have h := det_alt (k + 1)
 obtain ⟨u, hu⟩ := tgt_cmb k P k
 rw [if_neg (Nat.lt_irrefl _)] at hu
 have e1 : det (k + 1) (setR P k fun j => tgt k P k j) = det k P * det (k + 1) P := by
  have : (fun j => tgt k P k j) = fun j => (det k P * P k j) + sumZ (fun r => u r * P r j) k := funext hu
  rw [this, h.add P (by omega), h.scale P (by omega), zgy, h.sum P (by omega) u P k, zgx fun r hr => by rw [h.same' P (by omega) (by omega) (by omega)]; simp]
  omega
 have e2 : det (k + 1) (setR P k fun j => tgt k P k j) = tgt k P k k * det k P := by
  rw [det_last fun j hj => by rw [zgh]; exact tgt_hi P (Nat.lt_irrefl _) hj, zgh]
  congr 1
  exact zaw fun i j hi _ => zgz _ _ _ (by omega)
 have e3 : det k P * tgt k P k k = det k P * det (k + 1) P := by rw [← e1, e2, Int.mul_comm]
 exact Int.eq_of_mul_eq_mul_left hd e3
theorem tgt_same {k : Nat} {P : Mx} (hd : det k P ≠ 0) (hd1 : det (k + 1) P ≠ 0) (j : Nat) : tgt (k + 1) P k j = tgt k P k j := by
 have h1 := tgt_cmb (k + 1) P k
 rw [if_pos (Nat.lt_succ_self k)] at h1
 have h2 := ((tgt_cmb k P k).up (Nat.le_succ k)).own (Nat.lt_succ_self k) k
 refine h1.eq hd1 h2 (fun c hc => ?_) j
 rw [tgt_lo P (by omega) hc]
 by_cases h : c = k
 ·subst h; rw [if_pos rfl, tgt_diag hd]
 ·rw [if_neg (by omega), tgt_hi P (Nat.lt_irrefl _) (by omega)]
theorem tgt_step {k : Nat} {P : Mx} (hd : det k P ≠ 0) (hd1 : det (k + 1) P ≠ 0) {i : Nat} (hi : i ≠ k) (j : Nat) : tgt k P k k * tgt k P i j - tgt k P i k * tgt k P k j = det k P * tgt (k + 1) P i j := by
 have hkk := ((tgt_cmb k P k).up (Nat.le_succ k)).own (Nat.lt_succ_self k) i
 have h1 := ((tgt_cmb k P i).up (Nat.le_succ k)).lin (tgt k P k k) (-tgt k P i k) hkk
 have h2 := (tgt_cmb (k + 1) P i).lin (det k P) 0 (tgt_cmb (k + 1) P i)
 have ea : tgt k P k k * (if i < k then 0 else det k P) + -tgt k P i k * 0 = det k P * (if i < k + 1 then 0 else det (k + 1) P) + 0 * (if i < k + 1 then 0 else det (k + 1) P) := by
  rw [tgt_diag hd]
  by_cases h : i < k
  ·rw [if_pos h, if_pos (by omega)]; simp
  ·rw [if_neg h, if_neg (by omega), Int.mul_comm]; simp
 rw [ea] at h1
 have := h1.eq hd1 h2 (fun c hc => ?_) j
 ·rw [show tgt k P k k * tgt k P i j - tgt k P i k * tgt k P k j = tgt k P k k * tgt k P i j + -tgt k P i k * tgt k P k j by rw [Int.neg_mul]; omega, this]; omega
 ·by_cases hik : i < k
  ·rw [tgt_lo P (show i < k + 1 by omega) hc]
   by_cases hck : c < k
   ·rw [tgt_lo P hik hck, tgt_hi P (Nat.lt_irrefl k) hck, tgt_diag hd]
    split <;> grind
   ·obtain rfl : c = k := by omega
    rw [if_neg hi]; grind
  ·rw [tgt_hi P (show ¬ i < k + 1 by omega) hc]
   by_cases hck : c < k
   ·rw [tgt_hi P hik hck, tgt_hi P (Nat.lt_irrefl k) hck]; simp
   ·obtain rfl : c = k := by omega
    grind
theorem wK_congr {k c j : Nat} {P Q : Mx} (h : ∀ r b, r < k → b < k → P r b = Q r b) (h' : ∀ r, r < k → P r j = Q r j) : wK k P c j = wK k Q c j :=
 zac fun r hr => by rw [adj_congr h, h' r hr]
theorem tgt_swap {k p : Nat} (P : Mx) (hp : k ≤ p) (i j : Nat) : tgt k (swpN P p k) i j = swpN (tgt k P) p k i j := by
 have lo : ∀ r, r < k → swpN P p k r = P r := fun r hr => by unfold swpN; rw [if_neg (by omega), if_neg (by omega)]
 have hd : det k (swpN P p k) = det k P := zaw fun r b hr _ => by rw [lo r hr]
 have hw : ∀ c, wK k (swpN P p k) c j = wK k P c j := fun c => wK_congr (fun r b hr _ => by rw [lo r hr]) fun r hr => by rw [lo r hr]
 have key : ∀ i', ¬ i' < k → (∀ i, ¬ i < k → (swpN P p k) i = P i' → tgt k (swpN P p k) i j = tgt k P i' j) := fun i' h' i h e => by
  unfold tgt
  rw [if_neg h, if_neg h', hd, e]
  congr 1
  exact zac fun c _ => by rw [hw]
 by_cases h1 : i = k
 ·subst h1
  have e : swpN (tgt i P) p i i j = tgt i P p j := by unfold swpN; rw [if_pos rfl]
  rw [e]; exact key p (by omega) i (by omega) (by unfold swpN; rw [if_pos rfl])
 ·by_cases h2 : i = p
  ·have e : swpN (tgt k P) p k i j = tgt k P k j := by unfold swpN; rw [if_neg h1, if_pos h2]
   rw [e]; exact key k (by omega) i (by omega) (by unfold swpN; rw [if_neg h1, if_pos h2])
  ·have e : swpN (tgt k P) p k i j = tgt k P i j := by unfold swpN; rw [if_neg h1, if_neg h2]
   rw [e]
   by_cases h3 : i < k
   ·unfold tgt; rw [if_pos h3, if_pos h3, hw]
   ·exact key i h3 i h3 (by unfold swpN; rw [if_neg h1, if_neg h2])
theorem sumZ_take {f : Nat → Int} {k : Nat} : ∀ {n}, k ≤ n → (∀ c, k ≤ c → c < n → f c = 0) → sumZ f n = sumZ f k
 | 0, h, _ => by rw [show k = 0 by omega]
 | n + 1, h, hz => by
  by_cases e : k = n + 1
  ·rw [e]
  ·rw [sumZ, sumZ_take (by omega) fun c h1 h2 => hz c h1 (by omega), hz n (by omega) (by omega)]; omega
theorem det_none {n k : Nat} {P : Mx} (hk : k < n) (hd : det k P ≠ 0) (h : ∀ q, k ≤ q → q < n → tgt k P q k = 0) : det n P = 0 := by
 refine col_zero (n := n) (M := P) (v := fun c => if c < k then wK k P c k else if c = k then -det k P else 0) (k := k) (fun i hi => ?_) hk (by simp only [Nat.lt_irrefl, if_false, if_true]; omega)
 rw [sumZ_take (k := k + 1) (by omega) fun c h1 _ => by rw [if_neg (by omega), if_neg (by omega)]; simp]
 rw [sumZ, zac (g := fun c => P i c * wK k P c k) fun c hc => by rw [if_pos hc]]
 simp only [Nat.lt_irrefl, if_false, if_true]
 by_cases hik : i < k
 ·have e : sumZ (fun c => P i c * wK k P c k) k = det k P * P i k := by
   unfold wK
   rw [zac (g := fun c => sumZ (fun r => P i c * adjK k P c r * P r k) k) fun c _ => by rw [← zcu]; exact zac fun r _ => by rw [Int.mul_assoc]]
   rw [sg_swap, zac (g := fun r => if i = r then det k P * P r k else 0) fun r hr => by
    rw [sg_mulr, adj_right P hik hr]; split <;> simp]
   rw [sg_one (f := fun r => if i = r then det k P * P r k else 0) hik fun r _ hne => if_neg fun e => hne e.symm, if_pos rfl]
  rw [e]; grind
 ·have := h i (by omega) hi
  unfold tgt at this
  rw [if_neg hik] at this
  grind
theorem sgnO_not (o : Bool) (x : Int) : sgnO (!o) x = -sgnO o x := by cases o <;> simp [sgnO]
theorem swp_self {α : Type} (f : Nat → α) (k : Nat) : swpN f k k = f := by funext i; unfold swpN; by_cases h : i = k <;> simp [h]
theorem sweepGo_spec {n : Nat} {A : Mx} : ∀ (f k : Nat) (M P : Mx) (last : Int) (odd : Bool), k + f = n → last = det k P → last ≠ 0 → (∀ i j, i < n → j < n + 1 → M i j = tgt k P i j) → (∀ D, Alt n (n + 1) D → D P = sgnO odd (D A)) →
  match ze2 n f k M last odd with
  | none => det n A = 0
  | some (X, o) => ∃ P, det n P ≠ 0 ∧ (∀ i j, i < n → j < n + 1 → X i j = tgt n P i j) ∧ ∀ D, Alt n (n + 1) D → D P = sgnO o (D A)
 | 0, k, M, P, last, odd, hk, hl, h0, hM, hD => by
  obtain rfl : k = n := by omega
  rw [ze2]
  exact ⟨P, hl ▸ h0, hM, hD⟩
 | f + 1, k, M, P, last, odd, hk, hl, h0, hM, hD => by
  have hA : Alt n (n + 1) (det n) := ⟨fun M N h => zaw fun i j hi hj => h i j hi (by omega), fun M i u v a b h => det_lin n M i u v a b h, fun M i h he => det_adj n M i h fun j hj => he j (by omega)⟩
  obtain ⟨p1, p2, p3, p4⟩ := findP_spec M (show k ≤ n by omega)
  rw [ze2]
  by_cases hp : findP n M k = n
  ·rw [if_pos hp]
   have e := det_none (n := n) (k := k) (P := P) (by omega) (hl ▸ h0) fun q h1 h2 => by rw [← hM q k h2 (by omega)]; exact p3 q h1 (by omega)
   have := hD _ hA
   rw [e] at this
   unfold sgnO at this
   show det n A = 0
   split at this <;> omega
  ·rw [if_neg hp]
   have p4 := p4 (by omega)
   generalize findP n M k = p at *
   have hp : p < n := by omega
   have hs : ∀ i j, i < n → j < n + 1 → swpN M p k i j = tgt k (swpN P p k) i j := fun i j hi hj => by
    rw [tgt_swap P p1]
    unfold swpN
    by_cases e1 : i = k
    ·rw [if_pos e1, if_pos e1]; exact hM p j hp hj
    ·rw [if_neg e1, if_neg e1]
     by_cases e2 : i = p
     ·rw [if_pos e2, if_pos e2]; exact hM k j (by omega) hj
     ·rw [if_neg e2, if_neg e2]; exact hM i j hi hj
   have hd0 : det k (swpN P p k) = last := by
    rw [hl]; exact zaw fun r b hr _ => by unfold swpN; rw [if_neg (by omega), if_neg (by omega)]
   have hd0' : det k (swpN P p k) ≠ 0 := hd0 ▸ h0
   have hpk : M p k = swpN M p k k k := by unfold swpN; rw [if_pos rfl]
   have hd1 : det (k + 1) (swpN P p k) = M p k := by
    rw [hpk, hs k k (by omega) (by omega), tgt_diag hd0']
   have hd1' : det (k + 1) (swpN P p k) ≠ 0 := hd1 ▸ p4
   refine sweepGo_spec f (k + 1) _ (swpN P p k) _ _ (by omega) hd1.symm p4 (fun i j hi hj => ?_) fun D h => ?_
   ·unfold stepM stepV
    by_cases e : i = k
    ·rw [if_pos e, hs i j hi hj, e, tgt_same hd0' hd1']
    ·rw [if_neg e, hs k k (by omega) (by omega), hs i j hi hj, hs i k hi (by omega), hs k j (by omega) hj, tgt_step hd0' hd1' e, hd0]
     exact Int.mul_fdiv_cancel_left _ h0
   ·by_cases e : p = k
    ·subst e; rw [if_pos rfl, swp_self]; exact hD D h
    ·rw [if_neg e, h.swap P (by omega) (by omega) e, hD D h, sgnO_not]
theorem wK_setC {n : Nat} (P : Mx) {i : Nat} (hi : i < n) (j : Nat) : wK n P i j = det n (setC P i fun r => P r j) := by
 have h := (det_tr_alt n).sum (trM P) hi (fun r => P r j) ek n
 unfold wK adjK
 rw [zac (g := fun k => P k j * det n (trM (setR (trM P) i (ek k)))) fun r _ => by rw [setC_tr, Int.mul_comm], ← h, setC_tr]
 refine zaw fun a b ha hb => ?_
 unfold trM setR
 by_cases e : b = i
 ·rw [if_pos e, if_pos e]
  dsimp only
  rw [sg_one (f := fun k => P k j * ek k a) ha fun k _ hne => by unfold ek; rw [if_neg fun e => hne e.symm]; simp]
  unfold ek; rw [if_pos rfl]; omega
 ·rw [if_neg e, if_neg e]
theorem setC_alt (n i : Nat) : Alt n (n + 1) fun M => det n (setC M i fun r => M r n) where
 congr M N h := zaw fun a b ha hb => by
  unfold setC
  split
  ·exact h a n ha (by omega)
  ·exact h a b ha (by omega)
 lin M r u v a b hr := by
  have e : ∀ u : Nat → Int, (setC (setR M r u) i fun x => setR M r u x n) = setR (setC M i fun x => M x n) r fun b => if b = i then u n else u b := fun u => by
   funext x y
   unfold setC setR
   by_cases h1 : x = r <;> by_cases h2 : y = i <;> simp [h1, h2]
  simp only [e]
  rw [← det_lin n _ r _ _ a b hr]
  congr 2
  funext y
  split <;> rfl
 adj M r hr he := det_adj n _ r hr fun j hj => by
  unfold setC
  split
  ·exact he n (by omega)
  ·exact he j (by omega)
theorem sweep_spec (n : Nat) (A : Mx) : match sweep n A with
  | none => det n A = 0
  | some (X, o) => det n A ≠ 0 ∧ (∀ i, i < n → sgnO o (X i i) = det n A) ∧ ∀ i, i < n → sgnO o (X i n) = det n (setC A i fun r => A r n) := by
 have h := sweepGo_spec (n := n) (A := A) n 0 A A 1 false (by omega) rfl (by decide) (fun i j _ _ => (tgt_zero A i j).symm) fun D _ => rfl
 unfold sweep
 generalize ze2 n n 0 A 1 false = r at h ⊢
 rcases r with _ | ⟨X, o⟩
 ·exact h
 ·obtain ⟨P, h1, h2, h3⟩ := h
  have hA : Alt n (n + 1) (det n) := ⟨fun M N h => zaw fun i j hi hj => h i j hi (by omega), fun M i u v a b h => det_lin n M i u v a b h, fun M i h he => det_adj n M i h fun j hj => he j (by omega)⟩
  have e1 := h3 _ hA
  have ss : ∀ x, sgnO o (sgnO o x) = x := fun x => by cases o <;> simp [sgnO]
  refine ⟨fun e => h1 (by rw [e1, e]; cases o <;> rfl), fun i hi => ?_, fun i hi => ?_⟩
  ·rw [h2 i i hi (by omega), tgt_lo P hi hi, if_pos rfl, e1, ss]
  ·rw [h2 i n hi (by omega)]
   unfold tgt
   rw [if_pos hi, wK_setC P hi, h3 _ (setC_alt n i), ss]
theorem detS_eq (n : Nat) (M : Mx) : detS n M = det n M := by
 have h := sweep_spec n (augF n M fun _ => 0)
 have e : det n (augF n M fun _ => 0) = det n M := zaw fun i j _ hj => by unfold augF; rw [if_pos hj]
 unfold detS
 generalize sweep n (augF n M fun _ => 0) = r at h ⊢
 rcases r with _ | ⟨X, o⟩
 ·exact (e.symm.trans h).symm
 ·obtain ⟨_, h2, _⟩ := h
  dsimp only
  split
  ·rename_i h0; subst h0; rfl
  ·rw [h2 (n - 1) (by omega), e]
theorem solveS_eq (n : Nat) (M : Mx) (c : Nat → Int) : solveS n M c = if det n M = 0 then none else some (rowF n fun i => det n (setC M i c)) := by
 have h := sweep_spec n (augF n M c)
 have e : det n (augF n M c) = det n M := zaw fun i j _ hj => by unfold augF; rw [if_pos hj]
 unfold solveS
 generalize sweep n (augF n M c) = r at h ⊢
 rcases r with _ | ⟨X, o⟩
 ·rw [if_pos (e.symm.trans h)]
 ·obtain ⟨h1, _, h3⟩ := h
  dsimp only
  rw [if_neg (e ▸ h1)]
  congr 1
  refine zh9 fun i hi => ?_
  rw [h3 i hi]
  refine zaw fun a b ha hb => ?_
  unfold setC
  split
  ·dsimp only; unfold augF; rw [if_neg (Nat.lt_irrefl _)]
  ·unfold augF; rw [if_pos hb]
end Go.Gim
/- Quadratic forms: completing the square; what is definite, by minors and by values; what is left out twice. -/
set_option maxRecDepth 100000
namespace Go.Gim
theorem sumZ_split (f : Nat → Int) (k : Nat) : ∀ m, sumZ f (k + m) = sumZ f k + sumZ (fun j => f (k + j)) m
 | 0 => by simp [sumZ]
 | m + 1 => by rw [← Nat.add_assoc, sumZ, sumZ_split f k m, sumZ]; omega
theorem sumZ_nonneg {f : Nat → Int} : ∀ {n}, (∀ k, k < n → 0 ≤ f k) → 0 ≤ sumZ f n
 | 0, _ => Int.le_refl _
 | n + 1, h => by rw [sumZ]; have := sumZ_nonneg (f := f) (n := n) fun k hk => h k (by omega); have := h n (by omega); omega
def qS (n : Nat) (M : Mx) (x : Nat → Int) : Int := sumZ (fun i => x i * appS n M x i) n
theorem qS_congr {n : Nat} {M N : Mx} {x y : Nat → Int} (h : ∀ i j, i < n → j < n → M i j = N i j) (h' : ∀ i, i < n → x i = y i) : qS n M x = qS n N y :=
 zac fun i hi => by rw [h' i hi, appS_congr (fun k hk => h i k hi hk) h']
def SymM (n : Nat) (M : Mx) : Prop := ∀ i j, i < n → j < n → M i j = M j i
theorem SymM.mono {n k : Nat} {M : Mx} (h : SymM n M) (hk : k ≤ n) : SymM k M := fun i j hi hj => h i j (by omega) (by omega)
theorem adj_solve {k : Nat} (P : Mx) {i : Nat} (hi : i < k) (j : Nat) : sumZ (fun c => P i c * wK k P c j) k = det k P * P i j := by
 unfold wK
 rw [zac (g := fun c => sumZ (fun r => P i c * adjK k P c r * P r j) k) fun c _ => by rw [← zcu]; exact zac fun r _ => by rw [Int.mul_assoc]]
 rw [sg_swap, zac (g := fun r => if i = r then det k P * P r j else 0) fun r hr => by
  rw [sg_mulr, adj_right P hi hr]; split <;> simp]
 rw [sg_one (f := fun r => if i = r then det k P * P r j else 0) hi fun r _ hne => if_neg fun e => hne e.symm, if_pos rfl]
theorem sg_move (a b : Nat → Int) (F : Nat → Nat → Int) (n m : Nat) : sumZ (fun i => a i * sumZ (fun j => F i j * b j) m) n = sumZ (fun j => b j * sumZ (fun i => F i j * a i) n) m := by
 rw [zac (g := fun i => sumZ (fun j => a i * (F i j * b j)) m) fun i _ => (zcu _ _ _).symm, sg_swap]
 exact zac fun j _ => by rw [← zcu]; exact zac fun i _ => by grind
theorem schur {k m : Nat} {P : Mx} (hs : SymM (k + m) P) (x : Nat → Int) :
  det k P * (det k P * qS (k + m) P x - sumZ (fun i => x (k + i) * sumZ (fun j => tgt k P (k + i) (k + j) * x (k + j)) m) m) = qS k P fun c => det k P * x c + sumZ (fun j => wK k P c (k + j) * x (k + j)) m := by
 obtain ⟨s, es⟩ : ∃ s, s = det k P := ⟨_, rfl⟩
 obtain ⟨W, eW⟩ : ∃ W : Nat → Int, ∀ c, W c = sumZ (fun j => wK k P c (k + j) * x (k + j)) m := ⟨_, fun _ => rfl⟩
 obtain ⟨B, eB⟩ : ∃ B : Nat → Int, ∀ c, B c = sumZ (fun j => P c (k + j) * x (k + j)) m := ⟨_, fun _ => rfl⟩
 obtain ⟨A, eA⟩ : ∃ A : Nat → Int, ∀ c, A c = sumZ (fun j => P c j * x j) k := ⟨_, fun _ => rfl⟩
 have hPW : ∀ i, i < k → sumZ (fun c => P i c * W c) k = s * B i := fun i hi => by
  rw [zac (g := fun c => P i c * sumZ (fun j => wK k P c (k + j) * x (k + j)) m) (fun c _ => by rw [eW]), sg_move]
  rw [zac (g := fun j => s * (P i (k + j) * x (k + j))) fun j _ => by
   rw [zac (g := fun c => P i c * wK k P c (k + j)) fun c _ => Int.mul_comm _ _, adj_solve P hi, es]; grind]
  rw [zcu, eB]
 have hWA : sumZ (fun i => W i * A i) k = s * sumZ (fun i => x i * B i) k := by
  rw [zac (g := fun i => W i * sumZ (fun j => P i j * x j) k) (fun i _ => by rw [eA]), sg_move, ← zcu]
  exact zac fun j hj => by
   rw [zac (g := fun i => P j i * W i) fun i hi => by rw [hs i j (by omega) (by omega)], hPW j hj]; grind
 have q1 : qS k P (fun c => s * x c + W c) = s * (s * sumZ (fun i => x i * A i) k + 2 * (s * sumZ (fun i => x i * B i) k) + sumZ (fun i => W i * B i) k) := by
  unfold qS
  rw [zac (g := fun i => s * s * (x i * A i) + (s * s * (x i * B i) + (s * (W i * A i) + s * (W i * B i)))) fun i hi => by
   have : appS k P (fun c => s * x c + W c) i = s * A i + s * B i := by
    unfold appS
    rw [zac (g := fun c => s * (P i c * x c) + P i c * W c) (fun c _ => by grind), zfo, zcu, hPW i hi, eA]
   rw [this]; grind]
  rw [zfo, zfo, zfo, zcu, zcu, zcu, zcu, hWA]
  grind
 have hxB : sumZ (fun i => x (k + i) * sumZ (fun c => P (k + i) c * x c) k) m = sumZ (fun i => x i * B i) k := by
  rw [sg_move]
  exact zac fun c hc => by
   rw [eB, zac fun i hi => by rw [hs (k + i) c (by omega) (by omega)]]
 have q2 : qS (k + m) P x = sumZ (fun i => x i * A i) k + 2 * sumZ (fun i => x i * B i) k + sumZ (fun i => x (k + i) * sumZ (fun j => P (k + i) (k + j) * x (k + j)) m) m := by
  unfold qS
  have ap : ∀ i, appS (k + m) P x i = A i + B i := fun i => by unfold appS; rw [sumZ_split, eA, eB]
  rw [sumZ_split, zac (g := fun i => x i * A i + x i * B i) (fun i _ => by rw [ap]; grind), zfo]
  rw [zac (f := fun i => x (k + i) * appS (k + m) P x (k + i)) (g := fun i => x (k + i) * sumZ (fun c => P (k + i) c * x c) k + x (k + i) * sumZ (fun j => P (k + i) (k + j) * x (k + j)) m) (fun i _ => by rw [ap, eA, eB, Int.mul_add]), zfo, hxB]
  omega
 have q3 : sumZ (fun i => x (k + i) * sumZ (fun j => tgt k P (k + i) (k + j) * x (k + j)) m) m = s * sumZ (fun i => x (k + i) * sumZ (fun j => P (k + i) (k + j) * x (k + j)) m) m - sumZ (fun i => W i * B i) k := by
  have t1 : ∀ i, sumZ (fun j => tgt k P (k + i) (k + j) * x (k + j)) m = s * sumZ (fun j => P (k + i) (k + j) * x (k + j)) m - sumZ (fun c => P (k + i) c * W c) k := fun i => by
   rw [zac (g := fun j => s * (P (k + i) (k + j) * x (k + j)) - x (k + j) * sumZ (fun c => wK k P c (k + j) * P (k + i) c) k) fun j _ => by
    unfold tgt
    rw [if_neg (by omega), ← es, zac (f := fun c => wK k P c (k + j) * P (k + i) c) fun c _ => Int.mul_comm _ _]
    grind]
   rw [sg_sub, zcu]
   congr 1
   have := sg_move (fun j => x (k + j)) (fun c => P (k + i) c) (fun j c => wK k P c (k + j)) m k
   rw [this]
   exact zac fun c _ => by rw [eW]
  rw [zac (g := fun i => s * (x (k + i) * sumZ (fun j => P (k + i) (k + j) * x (k + j)) m) - x (k + i) * sumZ (fun c => P (k + i) c * W c) k) fun i _ => by rw [t1]; grind]
  rw [sg_sub, zcu, sg_move (fun i => x (k + i)) W (fun i c => P (k + i) c) m k]
  congr 1
  exact zac fun c hc => by
   rw [eB, zac fun i hi => by rw [hs (k + i) c (by omega) (by omega)]]
 rw [← es, show (fun c => s * x c + sumZ (fun j => wK k P c (k + j) * x (k + j)) m) = fun c => s * x c + W c from funext fun c => by rw [eW], q1, q2, q3]
 grind
def PD (n : Nat) (M : Mx) : Prop := ∀ x : Nat → Int, (∃ i, i < n ∧ x i ≠ 0) → 0 < qS n M x
theorem qS_zero {n : Nat} {M : Mx} {x : Nat → Int} (h : ∀ i, i < n → x i = 0) : qS n M x = 0 := zgx fun i hi => by rw [h i hi]; simp
theorem appS_take {n k : Nat} {M : Mx} {x : Nat → Int} (hk : k ≤ n) (h : ∀ i, k ≤ i → i < n → x i = 0) (i : Nat) : appS n M x i = appS k M x i :=
 sumZ_take hk fun c h1 h2 => by rw [h c h1 h2]; simp
theorem qS_take {n k : Nat} {M : Mx} {x : Nat → Int} (hk : k ≤ n) (h : ∀ i, k ≤ i → i < n → x i = 0) : qS n M x = qS k M x := by
 unfold qS
 rw [sumZ_take hk fun c h1 h2 => by rw [h c h1 h2]; simp]
 exact zac fun i _ => by rw [appS_take hk h]
theorem PD.mono {n k : Nat} {M : Mx} (h : PD n M) (hk : k ≤ n) : PD k M := fun x ⟨i, hi, hx⟩ => by
 have := h (fun i => if i < k then x i else 0) ⟨i, by omega, by simp only [hi, if_true]; exact hx⟩
 rw [qS_take hk fun i h1 _ => if_neg (by omega)] at this
 rw [qS_congr (M := M) (N := M) (fun _ _ _ _ => rfl) (y := fun i => if i < k then x i else 0) fun i hi => (if_pos hi).symm]
 exact this
theorem defS_iff (n : Nat) (M : Mx) : defS n M = true ↔ SymM n M ∧ ∀ k, k < n → 0 < det (k + 1) M := by
 have e : ∀ k, k < n → detS (k + 1) (lead M (k + 1)) = det (k + 1) M := fun k _ => by rw [detS_eq]; exact zaw fun i j hi hj => lead_at hi hj
 unfold defS
 rw [decide_eq_true_iff]
 constructor
 ·intro h
  refine ⟨fun i j hi hj => ?_, fun k hk => by rw [← e k hk]; exact (h k hk).2⟩
  rcases Nat.lt_trichotomy i j with h1 | h1 | h1
  ·exact ((h j hj).1 i h1).symm
  ·rw [h1]
  ·exact (h i hi).1 j h1
 ·rintro ⟨h1, h2⟩ i hi
  exact ⟨fun j hj => h1 i j hi (by omega), by rw [e i hi]; exact h2 i hi⟩
theorem defS_det {n : Nat} {M : Mx} (h : defS n M = true) : 0 < det n M := by
 rcases n with _ | n
 ·exact Int.one_pos
 ·exact ((defS_iff _ _).1 h).2 n (by omega)
theorem defS_congr {n : Nat} {M N : Mx} (h : ∀ i j, i < n → j < n → M i j = N i j) : defS n M = defS n N := by
 rw [Bool.eq_iff_iff, defS_iff, defS_iff]
 have e : ∀ k, k < n → det (k + 1) M = det (k + 1) N := fun k hk => zaw fun i j hi hj => h i j (by omega) (by omega)
 constructor
 ·rintro ⟨h1, h2⟩; exact ⟨fun i j hi hj => by rw [← h i j hi hj, ← h j i hj hi]; exact h1 i j hi hj, fun k hk => by rw [← e k hk]; exact h2 k hk⟩
 ·rintro ⟨h1, h2⟩; exact ⟨fun i j hi hj => by rw [h i j hi hj, h j i hj hi]; exact h1 i j hi hj, fun k hk => by rw [e k hk]; exact h2 k hk⟩
theorem adj_sym {k : Nat} {P : Mx} (hs : SymM k P) {c r : Nat} (hc : c < k) (hr : r < k) : adjK k P c r = adjK k P r c := by
 unfold adjK
 rw [← det_row_col P hr hc, setC_tr P r, det_tr]
 refine zaw fun i j hi hj => ?_
 unfold setR trM
 split
 ·rfl
 ·exact hs i j hi hj
end Go.Gim

import Derived.Test.YtoehjhcfilonoaaFA3
/- How steep a cost is tells it from below: plain numbers. -/
set_option maxRecDepth 100000
set_option maxHeartbeats 4000000
set_option linter.unusedSimpArgs false
set_option linter.unusedVariables false
namespace Go.Gim
theorem sq_nn (a : Int) : 0 ≤ a * a := by rcases Int.le_total 0 a with h | h; exact Int.mul_nonneg h h; exact Int.mul_nonneg_of_nonpos_of_nonpos h h
theorem huber_line {a b k : Int} (hk : 1 ≤ k ∧ k ≤ 32768) (ha : -1000000000 ≤ a ∧ a ≤ 1000000000) (hb : -1000000000 ≤ b ∧ b ≤ 1000000000) : hRho a k + 2 * (hSlope a k * (b - a)) ≤ hRho b k := by
  have hc : clampK k = k := by unfold clampK; omega
  have ea : clampR a = a := by unfold clampR; omega
  have eb : clampR b = b := by unfold clampR; omega
  have sa : sizeR a = max a (-a) := by unfold sizeR; rw [ea]
  have sb : sizeR b = max b (-b) := by unfold sizeR; rw [eb]
  unfold hRho hSlope
  rw [hc, ea, eb, sa, sb]
  by_cases h1 : max a (-a) ≤ k
  · rw [if_pos h1, if_pos h1]
    by_cases h2 : max b (-b) ≤ k
    · rw [if_pos h2]
      have := sq_nn (b - a)
      grind
    · rw [if_neg h2]
      by_cases h3 : 0 ≤ b
      · rw [show max b (-b) = b by omega]
        have := Int.mul_nonneg (show 0 ≤ k - a by omega) (show 0 ≤ 2 * b - k - a by omega)
        grind
      · rw [show max b (-b) = -b by omega]
        have := Int.mul_nonneg (show 0 ≤ k + a by omega) (show 0 ≤ -2 * b - k + a by omega)
        grind
  · rw [if_neg h1, if_neg h1]
    by_cases h4 : 0 ≤ a
    · rw [show max a (-a) = a by omega, show max (-k) (min a k) = k by omega]
      by_cases h2 : max b (-b) ≤ k
      · rw [if_pos h2]
        have := sq_nn (b - k)
        grind
      · rw [if_neg h2]
        by_cases h3 : 0 ≤ b
        · rw [show max b (-b) = b by omega]
          grind
        · rw [show max b (-b) = -b by omega]
          have := Int.mul_nonneg (show 0 ≤ k by omega) (show 0 ≤ -b by omega)
          grind
    · rw [show max a (-a) = -a by omega, show max (-k) (min a k) = -k by omega]
      by_cases h2 : max b (-b) ≤ k
      · rw [if_pos h2]
        have := sq_nn (b + k)
        grind
      · rw [if_neg h2]
        by_cases h3 : 0 ≤ b
        · rw [show max b (-b) = b by omega]
          have := Int.mul_nonneg (show 0 ≤ k by omega) (show 0 ≤ b by omega)
          grind
        · rw [show max b (-b) = -b by omega]
          grind
def lineN (s x y : List Int) : Nat → Int
  | 0 => 0
  | n + 1 => lineN s x y n + s.getD n 0 * 2 * (y.getD n 0 - x.getD n 0)
theorem line_row {r : Row4} {x y : List Int} : ∀ n, n ≤ r.co.length → lineN (steepR r x) x y n = 2 * (slopeR r x * (dotN r.co y n - dotN r.co x n))
  | 0, _ => by simp [lineN, dotN]
  | n + 1, h => by
    have e : (steepR r x).getD n 0 = r.co.getD n 0 * slopeR r x := by simp [steepR, List.getD_eq_getElem?_getD, show n < r.co.length by omega]
    rw [lineN, line_row n (by omega), e, dotN, dotN]
    grind
theorem cost_line {r : Row4} {x y : List Int} {m : Nat} (h : Right4 r m) (hx : -1000000000 < residR r x ∧ residR r x < 1000000000) (hy : -1000000000 < residR r y ∧ residR r y < 1000000000) : costR r x + lineN (steepR r x) x y m ≤ costR r y := by
  have hl := h.len
  have e1 : residR r x = rawR r x := by unfold residR at *; omega
  have e2 : residR r y = rawR r y := by unfold residR at *; omega
  have hh := huber_line (a := residR r x) (b := residR r y) h.kn (by omega) (by omega)
  have hd : dotN r.co y m - dotN r.co x m = residR r y - residR r x := by rw [e1, e2]; unfold rawR; rw [show r.co.length = m by omega]; omega
  have hw := h.w
  rw [line_row m (by omega), hd]
  have h3 := Int.mul_le_mul_of_nonneg_left hh (show 0 ≤ r.w by omega)
  unfold costR slopeR
  grind
end Go.Gim

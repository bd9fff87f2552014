import Derived.Test.YtjmbcnfhonfpkaaGreatDoorSV6
import Derived.Test.YtjmbcnfhonfpkaaGreatDoorGA7
import Derived.Test.YtjmbcnfhonfpkaaGreatDoorSM0
import Derived.Test.YtjmbcnfhonfpkaaGreatDoorLR5
import Derived.Test.YtjmbcnfhonfpkaaGreatDoorGN
import Derived.Test.YtjmbcnfhonfpkaaGreatDoorRA1
import Derived.Test.YtjmbcnfhonfpkaaGreatDoorLI4
import Derived.Test.YtjmbcnfhonfpkaaGreatDoorB2
import Derived.Test.YtjmbcnfhonfpkaaGreatDoorLB2
/- The examples of the laws on looking for less. -/
set_option maxRecDepth 100000
set_option maxHeartbeats 4000000
set_option linter.unusedSimpArgs false
set_option linter.unusedVariables false
namespace Go.Gim
open Go.Proofs
attribute [local go_sem] CV_isAgg zgg CV_cells part_CV
@[simp] theorem ResV_pure (x : List Int) (a b c : Int) : (ResV x a b c).Pure := by simp [ResV]
@[simp] theorem ResV_isJunk (x : List Int) (a b c : Int) : (ResV x a b c).isJunk = false := rfl
theorem ResV_isAgg (x : List Int) (a b c : Int) : (ResV x a b c).isAgg = true := rfl
theorem ResV_cells (x : List Int) (a b c : Int) : (ResV x a b c).cells = [ints x, .int .i64 a, .int .i64 b, .int .i64 c] := rfl
theorem csub_CV (g : Nat → Option (List V)) (c : Cfg) : V.sub g (CV c) = CV c := zct _ (CV_pure c)
theorem csub_ResV (g : Nat → Option (List V)) (x : List Int) (a b c : Int) : V.sub g (ResV x a b c) = ResV x a b c := zct _ (ResV_pure x a b c)
def dfC : Cfg := ⟨100, 50, 4, 5, 2097152, 33554432, 2000, 1000, 500, 100, 4, 1, 2, 8, 12, 6, 1000⟩
theorem fill_k : fillV [.int .i64 0, .int .i64 0, .int .i64 0, .int .i64 0] [(0, 1, .int .i64 2000), (1, 1, .int .i64 1000), (2, 1, .int .i64 500), (3, 1, .int .i64 100)] = some [.int .i64 2000, .int .i64 1000, .int .i64 500, .int .i64 100] := rfl
theorem fill_w : fillV [.int .i64 0, .int .i64 0, .int .i64 0, .int .i64 0] [(0, 1, .int .i64 4), (1, 1, .int .i64 1), (2, 1, .int .i64 2), (3, 1, .int .i64 8)] = some [.int .i64 4, .int .i64 1, .int .i64 2, .int .i64 8] := rfl
theorem fill_d : fillV [.int .i64 0, .int .i64 0, .int .i64 0, .int .i64 0, .int .i64 0, .int .i64 0, .int .i64 0, .int .i64 0, .int .i64 0, .int .i64 0, .int .i64 0, .int .i64 0, .int .i64 0, .int .i64 0, .int .i64 0, .int .i64 0, .int .i64 0]
  [(0, 1, .int .i64 100), (1, 1, .int .i64 50), (2, 1, .int .i64 4), (3, 1, .int .i64 5), (4, 1, .int .i64 2097152), (5, 1, .int .i64 33554432), (6, 4, .agg [.int .i64 2000, .int .i64 1000, .int .i64 500, .int .i64 100]), (10, 4, .agg [.int .i64 4, .int .i64 1, .int .i64 2, .int .i64 8]), (14, 1, .int .i64 12), (15, 1, .int .i64 6), (16, 1, .int .i64 1000)] =
  some [.int .i64 100, .int .i64 50, .int .i64 4, .int .i64 5, .int .i64 2097152, .int .i64 33554432, .int .i64 2000, .int .i64 1000, .int .i64 500, .int .i64 100, .int .i64 4, .int .i64 1, .int .i64 2, .int .i64 8, .int .i64 12, .int .i64 6, .int .i64 1000] := rfl
attribute [-go_sem] fillV in
theorem za0 : Ret pg zep [] (CV dfC) := by
 refine config_Default.of rfl (W_b ?_)
 unfold config_Default.k config_Default.res Ot kp Oy ci
 simp -dsimp -implicitDefEqProofs (disch := try exact zdE) only [go_sem, fill_k, fill_w]
 simp -dsimp -implicitDefEqProofs (disch := try exact zdE) only [go_sem, fill_d]
 rfl
def va : Row4 := ⟨[1], 100, 32768, 1⟩
def vb : Row4 := ⟨[2], 5, 32768, 1⟩
end Go.Gim

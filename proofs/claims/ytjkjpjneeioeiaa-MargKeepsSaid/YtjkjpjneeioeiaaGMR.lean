import Derived.Test.YtjkjpjneeioeiaaGN
/- Functions' code as data (written by wip/tools/gen.py), and the step to their contracts. -/
set_option maxRecDepth 100000
namespace Go.Gim
open Go.Proofs
def gimbalref20_Touches.k : K :=
 (.seq (.keep [1, 2] (.ops false [⟨(some 2), none, .boxP (.t 0)⟩,
 ⟨(some 4), none, .mov (.c (.bool false))⟩]))
 (.seq (.seq (.keep [1, 2, 5] (.ops false [⟨(some 5), none, .mov (.c (.int .i64 0))⟩]))
 (.block 0 (.loop (.seq (.seq (.keep [1, 2, 5, 8] (.ops false [⟨(some 6), none, .mov (.t 5)⟩,
 ⟨(some 7), none, .mov (.t 1)⟩,
 ⟨(some 8), none, .bin .lss (.t 6) (.t 7)⟩]))
 (.cond (.t 8) .skip
 (.exit 0)))
 (.seq (.block 1 (.seq (.keep [1, 2, 5, 16] (.ops false [⟨(some 11), none, .fldA 0 1 false (.t 2)⟩,
 ⟨(some 12), none, .load 1 false (.t 11)⟩,
 ⟨(some 13), none, .mov (.t 5)⟩,
 ⟨(some 14), none, .idxA 1 (.t 12) (.t 13)⟩,
 ⟨(some 15), none, .load 1 false (.t 14)⟩,
 ⟨(some 16), none, .bin .neq (.t 15) (.c (.int .i64 0))⟩]))
 (.cond (.t 16) (.seq (.keep [4] (.ops false [⟨(some 4), none, .mov (.c (.bool true))⟩]))
 .ret)
 .skip)))
 (.keep [1, 2, 5] (.ops false [⟨(some 9), none, .mov (.t 5)⟩,
 ⟨(some 10), none, .bin .add (.t 9) (.c (.int .i64 1))⟩,
 ⟨(some 5), none, .mov (.t 10)⟩])))))))
 (.seq (.keep [4] (.ops false [⟨(some 4), none, .mov (.c (.bool false))⟩]))
 .ret)))
def gimbalref20_Touches.res : List RX := [(4, none)]
theorem gimbalref20_Touches.m : mK pg Try.f11.ntmps gimbalref20_Touches.k (Try.f11.body.getD .skip) = true := by kernel_rfl
theorem gimbalref20_Touches.mr : mRes pg Try.f11.results.toList gimbalref20_Touches.res = true := by kernel_rfl
theorem gimbalref20_Touches.of {args : List V} {r : V} (hn : args.length = 2) (hW : W pg gimbalref20_Touches.k (done gimbalref20_Touches.res r) (start args)) : Ret pg n_gimbalref20_Touches args r :=
 Ret_of (fn := Try.f11) Try.func11 rfl (by kernel_rfl) gimbalref20_Touches.m gimbalref20_Touches.mr (by rw [hn]; exact of_decide_eq_true (by kernel_rfl)) hW
end Go.Gim

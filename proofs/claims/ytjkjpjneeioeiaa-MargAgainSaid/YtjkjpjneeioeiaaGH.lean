import Derived.Test.YtjkjpjneeioeiaaGN
/- Functions' code as data (written by wip/tools/gen.py), and the step to their contracts. -/
set_option maxRecDepth 100000
namespace Go.Gim
open Go.Proofs
def cost_State.k : K :=
 (.seq (.keep [0] (.ops false [⟨(some 2), none, .mov (.c (.bool false))⟩]))
 (.seq (.seq (.keep [5, 6, 7] (.ops false [⟨(some 5), none, .mov (.t 0)⟩,
 ⟨(some 6), none, .len false (.t 5)⟩,
 ⟨(some 7), none, .mov (.c (.int .i64 0))⟩]))
 (.block 0 (.loop (.seq (.keep [5, 6, 7, 8] (.ops false [⟨(some 8), none, .bin .lss (.t 7) (.t 6)⟩]))
 (.seq (.cond (.t 8) .skip
 (.exit 0))
 (.seq (.block 1 (.seq (.keep [4, 5, 6, 7] (.ops false [⟨(some 9), none, .idxA 1 (.t 5) (.t 7)⟩,
 ⟨(some 10), none, .load 1 false (.t 9)⟩,
 ⟨(some 4), none, .mov (.t 10)⟩]))
 (.seq (.keep [5, 6, 7, 16] (.ops false [⟨(some 11), none, .mov (.t 4)⟩,
 ⟨(some 12), none, .bin .lss (.t 11) (.c (.int .i64 (-1000000)))⟩,
 ⟨(some 13), none, .mov (.t 12)⟩,
 ⟨(some 14), (some (13, false)), .mov (.t 4)⟩,
 ⟨(some 15), (some (13, false)), .bin .gtr (.t 14) (.c (.int .i64 1000000))⟩,
 ⟨(some 16), none, .pick (.t 13) (.c (.bool true)) (.t 15)⟩]))
 (.cond (.t 16) (.seq (.keep [2] (.ops false [⟨(some 2), none, .mov (.c (.bool false))⟩]))
 .ret)
 .skip))))
 (.keep [5, 6, 7] (.ops false [⟨(some 17), none, .bin .add (.t 7) (.c (.int .i64 1))⟩,
 ⟨(some 7), none, .mov (.t 17)⟩]))))))))
 (.seq (.keep [2] (.ops false [⟨(some 2), none, .mov (.c (.bool true))⟩]))
 .ret)))
def cost_State.res : List RX := [(2, none)]
theorem cost_State.m : mK pg Try.f33.ntmps cost_State.k (Try.f33.body.getD .skip) = true := by kernel_rfl
theorem cost_State.mr : mRes pg Try.f33.results.toList cost_State.res = true := by kernel_rfl
theorem cost_State.of {args : List V} {r : V} (hn : args.length = 1) (hW : W pg cost_State.k (done cost_State.res r) (start args)) : Ret pg n_cost_State args r :=
 Ret_of (fn := Try.f33) Try.func33 rfl (by kernel_rfl) cost_State.m cost_State.mr (by rw [hn]; exact of_decide_eq_true (by kernel_rfl)) hW
end Go.Gim

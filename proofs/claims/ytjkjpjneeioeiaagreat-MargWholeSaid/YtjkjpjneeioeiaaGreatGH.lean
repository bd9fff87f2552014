import Derived.Test.YtjkjpjneeioeiaaGreatGN
/- Functions' code as data (written by wip/tools/gen.py), and the step to their contracts. -/
set_option maxRecDepth 100000
namespace Go.Gim
open Go.Proofs
def cost_State.k : K :=
 (.seq (.keep [0] (.ops false [Ot 2 (.mov (.c (.bool false)))]))
 (.seq (.seq (.keep [5, 6, 7] (.ops false [Ot 5 (.mov (.t 0)),
 Ot 6 (.len false (.t 5)),
 Ot 7 (.mov (.c (.int .i64 0)))]))
 (.block 0 (.loop (.seq (.keep [5, 6, 7, 8] (.ops false [Ot 8 (.bin .lss (.t 7) (.t 6))]))
 (.seq (.cond (.t 8) .skip
 (.exit 0))
 (.seq (.block 1 (.seq (.keep [4, 5, 6, 7] (.ops false [Ot 9 (.idxA 1 (.t 5) (.t 7)),
 Ot 10 (.load 1 false (.t 9)),
 Ot 4 (.mov (.t 10))]))
 (.seq (.keep [5, 6, 7, 16] (.ops false [Ot 11 (.mov (.t 4)),
 Ot 12 (.bin .lss (.t 11) (.c (.int .i64 (-1000000)))),
 Ot 13 (.mov (.t 12)),
 ⟨(some 14), (some (13, false)), .mov (.t 4)⟩,
 ⟨(some 15), (some (13, false)), .bin .gtr (.t 14) (.c (.int .i64 1000000))⟩,
 Ot 16 (.pick (.t 13) (.c (.bool true)) (.t 15))]))
 (.cond (.t 16) (.seq (.keep [2] (.ops false [Ot 2 (.mov (.c (.bool false)))]))
 .ret)
 .skip))))
 (.keep [5, 6, 7] (.ops false [Ot 17 (.bin .add (.t 7) (.c (.int .i64 1))),
 Ot 7 (.mov (.t 17))]))))))))
 (.seq (.keep [2] (.ops false [Ot 2 (.mov (.c (.bool true)))]))
 .ret)))
def cost_State.res : List RX := [(2, none)]
theorem cost_State.m : mK pg Tryz.f59.ntmps cost_State.k (Tryz.f59.body.getD .skip) = true := by kernel_rfl
theorem cost_State.mr : mRes pg Tryz.f59.results.toList cost_State.res = true := by kernel_rfl
theorem cost_State.of {args : List V} {r : V} (hn : args.length = 1) (hW : W pg cost_State.k (done cost_State.res r) (start args)) : Ret pg n_cost_State args r :=
 Ret_of (fn := Tryz.f59) Tryz.func59 rfl (by kernel_rfl) cost_State.m cost_State.mr (by rw [hn]; exact of_decide_eq_true (by kernel_rfl)) hW
end Go.Gim

import Derived.Test.YtjkjpjneeioeiaaGreatGN
/- Functions' code as data (written by wip/tools/gen.py), and the step to their contracts. -/
set_option maxRecDepth 100000
namespace Go.Gim
open Go.Proofs
def gimbalref20_Touches.k : K :=
 (.seq (.keep [1, 2] (.ops false [Ot 2 (.boxP (.t 0)),
 Ot 4 (.mov (.c (.bool false)))]))
 (.seq (.seq (.keep [1, 2, 5] (.ops false [Ot 5 (.mov (.c (.int .i64 0)))]))
 (.block 0 (.loop (.seq (.seq (.keep [1, 2, 5, 8] (.ops false [Ot 6 (.mov (.t 5)),
 Ot 7 (.mov (.t 1)),
 Ot 8 (.bin .lss (.t 6) (.t 7))]))
 (.cond (.t 8) .skip
 (.exit 0)))
 (.seq (.block 1 (.seq (.keep [1, 2, 5, 16] (.ops false [Ot 11 (.fldA 0 1 false (.t 2)),
 Ot 12 (.load 1 false (.t 11)),
 Ot 13 (.mov (.t 5)),
 Ot 14 (.idxA 1 (.t 12) (.t 13)),
 Ot 15 (.load 1 false (.t 14)),
 Ot 16 (.bin .neq (.t 15) (.c (.int .i64 0)))]))
 (.cond (.t 16) (.seq (.keep [4] (.ops false [Ot 4 (.mov (.c (.bool true)))]))
 .ret)
 .skip)))
 (.keep [1, 2, 5] (.ops false [Ot 9 (.mov (.t 5)),
 Ot 10 (.bin .add (.t 9) (.c (.int .i64 1))),
 Ot 5 (.mov (.t 10))])))))))
 (.seq (.keep [4] (.ops false [Ot 4 (.mov (.c (.bool false)))]))
 .ret)))
def gimbalref20_Touches.res : List RX := [(4, none)]
theorem gimbalref20_Touches.m : mK pg Tryz.f24.ntmps gimbalref20_Touches.k (Tryz.f24.body.getD .skip) = true := by kernel_rfl
theorem gimbalref20_Touches.mr : mRes pg Tryz.f24.results.toList gimbalref20_Touches.res = true := by kernel_rfl
theorem gimbalref20_Touches.of {args : List V} {r : V} (hn : args.length = 2) (hW : W pg gimbalref20_Touches.k (done gimbalref20_Touches.res r) (start args)) : Ret pg zdl args r :=
 Ret_of (fn := Tryz.f24) Tryz.func24 rfl (by kernel_rfl) gimbalref20_Touches.m gimbalref20_Touches.mr (by rw [hn]; exact of_decide_eq_true (by kernel_rfl)) hW
end Go.Gim

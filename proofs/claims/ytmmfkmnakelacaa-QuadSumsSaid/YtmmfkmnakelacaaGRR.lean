import Derived.Test.YtmmfkmnakelacaaGN
/- Functions' code as data (written by wip/tools/gen.py), and the step to their contracts. -/
set_option maxRecDepth 100000
namespace Go.Gim
open Go.Proofs
def gimbalref07_Of.k : K :=
 (.seq (.keep [0] (.ops false [⟨(some 2), none, .mov (.c .nil)⟩]))
 (.seq (.keep [0, 3] (.ops false [⟨(some 3), none, .mov (.c .nil)⟩]))
 (.seq (.seq (.keep [0, 3, 4] (.ops false [⟨(some 4), none, .mov (.c (.int .i64 0))⟩]))
 (.block 0 (.loop (.seq (.seq (.keep [0, 3, 4, 10] (.ops false [⟨(some 7), none, .mov (.t 4)⟩,
 ⟨(some 8), none, .mov (.t 0)⟩,
 ⟨(some 9), none, .len false (.t 8)⟩,
 ⟨(some 10), none, .bin .lss (.t 7) (.t 9)⟩]))
 (.cond (.t 10) .skip
 (.exit 0)))
 (.seq (.block 1 (.seq (.keep [0, 3, 4, 5] (.ops false [⟨(some 5), none, .mov (.c .nil)⟩]))
 (.seq (.seq (.keep [0, 3, 4, 5, 6] (.ops false [⟨(some 6), none, .mov (.c (.int .i64 0))⟩]))
 (.block 2 (.loop (.seq (.seq (.keep [0, 3, 4, 5, 6, 19] (.ops false [⟨(some 13), none, .mov (.t 6)⟩,
 ⟨(some 14), none, .mov (.t 0)⟩,
 ⟨(some 15), none, .mov (.t 4)⟩,
 ⟨(some 16), none, .idxA 1 (.t 14) (.t 15)⟩,
 ⟨(some 17), none, .load 1 false (.t 16)⟩,
 ⟨(some 18), none, .len false (.t 17)⟩,
 ⟨(some 19), none, .bin .lss (.t 13) (.t 18)⟩]))
 (.cond (.t 19) .skip
 (.exit 2)))
 (.seq (.block 3 (.keep [0, 3, 4, 5, 6] (.ops false [⟨(some 22), none, .mov (.t 5)⟩,
 ⟨(some 23), none, .mov (.t 0)⟩,
 ⟨(some 24), none, .mov (.t 4)⟩,
 ⟨(some 25), none, .idxA 1 (.t 23) (.t 24)⟩,
 ⟨(some 26), none, .load 1 false (.t 25)⟩,
 ⟨(some 27), none, .mov (.t 6)⟩,
 ⟨(some 28), none, .idxA 1 (.t 26) (.t 27)⟩,
 ⟨(some 29), none, .load 1 false (.t 28)⟩,
 ⟨(some 30), none, .callG n_gimbalref01_Of [(.t 29)]⟩,
 ⟨(some 31), none, .new (.bsl 2) [(.t 30)]⟩,
 ⟨(some 32), none, .eff (.app 2 32) [(.t 22), (.t 31)]⟩,
 ⟨(some 5), none, .mov (.t 32)⟩])))
 (.keep [0, 3, 4, 5, 6] (.ops false [⟨(some 20), none, .mov (.t 6)⟩,
 ⟨(some 21), none, .bin .add (.t 20) (.c (.int .i64 1))⟩,
 ⟨(some 6), none, .mov (.t 21)⟩])))))))
 (.gh (.keep [0, 3, 4] (.ops false [⟨(some 33), none, .mov (.t 3)⟩,
 ⟨(some 34), none, .mov (.t 5)⟩,
 ⟨(some 35), none, .new (.bsl 1) [(.t 34)]⟩,
 ⟨(some 36), none, .eff (.app 1 24) [(.t 33), (.t 35)]⟩,
 ⟨(some 3), none, .mov (.t 36)⟩]))))))
 (.keep [0, 3, 4] (.ops false [⟨(some 11), none, .mov (.t 4)⟩,
 ⟨(some 12), none, .bin .add (.t 11) (.c (.int .i64 1))⟩,
 ⟨(some 4), none, .mov (.t 12)⟩])))))))
 (.seq (.keep [2] (.ops false [⟨(some 37), none, .mov (.t 3)⟩,
 ⟨(some 2), none, .mov (.t 37)⟩]))
 .ret))))
def gimbalref07_Of.res : List RX := [(2, none)]
theorem gimbalref07_Of.m : mK pg Try.f46.ntmps gimbalref07_Of.k (Try.f46.body.getD .skip) = true := by kernel_rfl
theorem gimbalref07_Of.mr : mRes pg Try.f46.results.toList gimbalref07_Of.res = true := by kernel_rfl
theorem gimbalref07_Of.of {args : List V} {r : V} (hn : args.length = 1) (hW : W pg gimbalref07_Of.k (done gimbalref07_Of.res r) (start args)) : Ret pg n_gimbalref07_Of args r :=
 Ret_of (fn := Try.f46) Try.func46 rfl (by kernel_rfl) gimbalref07_Of.m gimbalref07_Of.mr (by rw [hn]; exact of_decide_eq_true (by kernel_rfl)) hW
def gimbalref08_Of.k : K :=
 (.seq (.keep [0, 1, 2, 6] (.ops false [⟨(some 6), none, .alloc 4 (.agg [.nil, .nil, (.bool false), (.sl [])])⟩]))
 (.seq (.keep [1, 6, 7] (.ops false [⟨(some 9), none, .mov (.t 0)⟩,
 ⟨(some 10), none, .callG n_gimbalref07_Of [(.t 9)]⟩,
 ⟨(some 11), none, .mov (.t 2)⟩,
 ⟨(some 12), none, .callG n_gimbalref01_Of [(.t 11)]⟩,
 ⟨(some 13), none, .build [.nil, .nil, (.bool false), (.sl [])] [(0, 1, (.t 10)), (2, 2, (.t 12))]⟩,
 ⟨(some 7), none, .alloc 4 (.agg [.nil, .nil, (.bool false), (.sl [])])⟩,
 ⟨none, none, .store 4 (.t 7) (.t 13)⟩]))
 (.seq (.seq (.keep [1, 6, 7, 8] (.ops false [⟨(some 8), none, .mov (.c (.int .i64 0))⟩]))
 (.block 0 (.loop (.seq (.seq (.keep [1, 6, 7, 8, 17] (.ops false [⟨(some 14), none, .mov (.t 8)⟩,
 ⟨(some 15), none, .mov (.t 1)⟩,
 ⟨(some 16), none, .len false (.t 15)⟩,
 ⟨(some 17), none, .bin .lss (.t 14) (.t 16)⟩]))
 (.cond (.t 17) .skip
 (.exit 0)))
 (.seq (.block 1 (.keep [1, 6, 7, 8] (.ops true [⟨(some 20), none, .fldA 1 1 false (.t 7)⟩,
 ⟨(some 21), none, .load 1 false (.t 20)⟩,
 ⟨(some 22), none, .mov (.t 1)⟩,
 ⟨(some 23), none, .mov (.t 8)⟩,
 ⟨(some 24), none, .idxA 1 (.t 22) (.t 23)⟩,
 ⟨(some 25), none, .load 1 false (.t 24)⟩,
 ⟨(some 26), none, .call n_gimbalref01_Of [(.t 25)]⟩,
 ⟨(some 27), none, .new (.bsl 2) [(.t 26)]⟩,
 ⟨(some 28), none, .eff (.app 2 32) [(.t 21), (.t 27)]⟩,
 ⟨(some 29), none, .fldA 1 1 false (.t 7)⟩,
 ⟨none, none, .store 1 (.t 29) (.t 28)⟩])))
 (.keep [1, 6, 7, 8] (.ops false [⟨(some 18), none, .mov (.t 8)⟩,
 ⟨(some 19), none, .bin .add (.t 18) (.c (.int .i64 1))⟩,
 ⟨(some 8), none, .mov (.t 19)⟩])))))))
 (.seq (.keep [6] (.ops false [⟨(some 30), none, .load 4 true (.t 7)⟩,
 ⟨none, none, .store 4 (.t 6) (.t 30)⟩]))
 .ret))))
def gimbalref08_Of.res : List RX := [(6, some (4, true))]
theorem gimbalref08_Of.m : mK pg Try.f22.ntmps gimbalref08_Of.k (Try.f22.body.getD .skip) = true := by kernel_rfl
theorem gimbalref08_Of.mr : mRes pg Try.f22.results.toList gimbalref08_Of.res = true := by kernel_rfl
theorem gimbalref08_Of.of {args : List V} {r : V} (hn : args.length = 3) (hW : W pg gimbalref08_Of.k (done gimbalref08_Of.res r) (start args)) : Ret pg n_gimbalref08_Of args r :=
 Ret_of (fn := Try.f22) Try.func22 rfl (by kernel_rfl) gimbalref08_Of.m gimbalref08_Of.mr (by rw [hn]; exact of_decide_eq_true (by kernel_rfl)) hW
end Go.Gim

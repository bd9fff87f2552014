import Derived.Test.YtjkjpjneeioeiaaGN
/- Functions' code as data (written by wip/tools/gen.py), and the step to their contracts. -/
set_option maxRecDepth 100000
namespace Go.Gim
open Go.Proofs
def gimbalref01_Of.k : K :=
 (.seq (.keep [0, 2] (.ops false [⟨(some 2), none, .alloc 2 (.agg [(.bool false), .nil])⟩]))
 (.seq (.keep [0, 2, 3] (.ops false [⟨(some 3), none, .mov (.c .nil)⟩]))
 (.seq (.keep [0, 2, 3, 4] (.ops false [⟨(some 6), none, .mov (.t 0)⟩,
 ⟨(some 7), none, .bin .lss (.t 6) (.c (.int .i64 0))⟩,
 ⟨(some 4), none, .mov (.t 7)⟩]))
 (.seq (.block 0 (.loop (.seq (.seq (.keep [0, 2, 3, 4, 9] (.ops false [⟨(some 8), none, .mov (.t 0)⟩,
 ⟨(some 9), none, .bin .neq (.t 8) (.c (.int .i64 0))⟩]))
 (.cond (.t 9) .skip
 (.exit 0)))
 (.keep [0, 2, 3, 4] (.block 1 (.seq (.keep [0, 2, 3, 4, 5] (.ops false [⟨(some 10), none, .mov (.t 0)⟩,
 ⟨(some 11), none, .bin .rem (.t 10) (.c (.int .i64 10))⟩,
 ⟨(some 5), none, .mov (.t 11)⟩]))
 (.seq (.seq (.keep [0, 2, 3, 4, 5, 13] (.ops false [⟨(some 12), none, .mov (.t 5)⟩,
 ⟨(some 13), none, .bin .lss (.t 12) (.c (.int .i64 0))⟩]))
 (.cond (.t 13) (.keep [0, 2, 3, 4, 5] (.ops false [⟨(some 14), none, .mov (.t 5)⟩,
 ⟨(some 15), none, .un .neg (.t 14)⟩,
 ⟨(some 5), none, .mov (.t 15)⟩]))
 .skip))
 (.seq (.keep [0, 2, 3, 4] (.ops false [⟨(some 16), none, .mov (.t 3)⟩,
 ⟨(some 17), none, .mov (.t 5)⟩,
 ⟨(some 18), none, .new (.bsl 1) [(.t 17)]⟩,
 ⟨(some 19), none, .eff (.app 1 8) [(.t 16), (.t 18)]⟩,
 ⟨(some 3), none, .mov (.t 19)⟩]))
 (.keep [0, 2, 3, 4] (.ops false [⟨(some 20), none, .mov (.t 0)⟩,
 ⟨(some 21), none, .bin .quo (.t 20) (.c (.int .i64 10))⟩,
 ⟨(some 0), none, .mov (.t 21)⟩]))))))))))
 (.seq (.keep [2] (.ops false [⟨(some 22), none, .mov (.t 4)⟩,
 ⟨(some 23), none, .mov (.t 3)⟩,
 ⟨(some 24), none, .callG n_gimbalref01_made [(.t 22), (.t 23)]⟩,
 ⟨none, none, .store 2 (.t 2) (.t 24)⟩]))
 .ret)))))
def gimbalref01_Of.res : List RX := [(2, some (2, true))]
theorem gimbalref01_Of.m : mK pg Try.f31.ntmps gimbalref01_Of.k (Try.f31.body.getD .skip) = true := by kernel_rfl
theorem gimbalref01_Of.mr : mRes pg Try.f31.results.toList gimbalref01_Of.res = true := by kernel_rfl
theorem gimbalref01_Of.of {args : List V} {r : V} (hn : args.length = 1) (hW : W pg gimbalref01_Of.k (done gimbalref01_Of.res r) (start args)) : Ret pg n_gimbalref01_Of args r :=
 Ret_of (fn := Try.f31) Try.func31 rfl (by kernel_rfl) gimbalref01_Of.m gimbalref01_Of.mr (by rw [hn]; exact of_decide_eq_true (by kernel_rfl)) hW
def gimbalref01_made.k : K :=
 (.seq (.keep [0, 1, 4] (.ops false [⟨(some 4), none, .alloc 2 (.agg [(.bool false), .nil])⟩]))
 (.seq (.keep [0, 1, 4, 5] (.ops false [⟨(some 6), none, .mov (.t 1)⟩,
 ⟨(some 7), none, .len false (.t 6)⟩,
 ⟨(some 5), none, .mov (.t 7)⟩]))
 (.seq (.block 0 (.loop (.seq (.seq (.keep [0, 1, 4, 5, 17] (.ops false [⟨(some 8), none, .mov (.t 5)⟩,
 ⟨(some 9), none, .bin .gtr (.t 8) (.c (.int .i64 0))⟩,
 ⟨(some 10), none, .mov (.t 9)⟩,
 ⟨(some 11), (some (10, true)), .mov (.t 1)⟩,
 ⟨(some 12), (some (10, true)), .mov (.t 5)⟩,
 ⟨(some 13), (some (10, true)), .bin .sub (.t 12) (.c (.int .i64 1))⟩,
 ⟨(some 14), (some (10, true)), .idxA 1 (.t 11) (.t 13)⟩,
 ⟨(some 15), (some (10, true)), .load 1 false (.t 14)⟩,
 ⟨(some 16), (some (10, true)), .bin .eql (.t 15) (.c (.int .i64 0))⟩,
 ⟨(some 17), none, .pick (.t 10) (.t 16) (.c (.bool false))⟩]))
 (.cond (.t 17) .skip
 (.exit 0)))
 (.keep [0, 1, 4, 5] (.block 1 (.keep [0, 1, 4, 5] (.ops false [⟨(some 18), none, .mov (.t 5)⟩,
 ⟨(some 19), none, .bin .sub (.t 18) (.c (.int .i64 1))⟩,
 ⟨(some 5), none, .mov (.t 19)⟩])))))))
 (.seq (.keep [4] (.ops false [⟨(some 20), none, .mov (.t 0)⟩,
 ⟨(some 21), none, .mov (.t 20)⟩,
 ⟨(some 22), (some (21, true)), .mov (.t 5)⟩,
 ⟨(some 23), (some (21, true)), .bin .gtr (.t 22) (.c (.int .i64 0))⟩,
 ⟨(some 24), none, .pick (.t 21) (.t 23) (.c (.bool false))⟩,
 ⟨(some 25), none, .mov (.t 1)⟩,
 ⟨(some 26), none, .mov (.t 5)⟩,
 ⟨(some 27), none, .red (.slc 1 false true false) [(.t 25), (.t 26)]⟩,
 ⟨(some 28), none, .build [(.bool false), .nil] [(0, 1, (.t 24)), (1, 1, (.t 27))]⟩,
 ⟨none, none, .store 2 (.t 4) (.t 28)⟩]))
 .ret))))
def gimbalref01_made.res : List RX := [(4, some (2, true))]
theorem gimbalref01_made.m : mK pg Try.f68.ntmps gimbalref01_made.k (Try.f68.body.getD .skip) = true := by kernel_rfl
theorem gimbalref01_made.mr : mRes pg Try.f68.results.toList gimbalref01_made.res = true := by kernel_rfl
theorem gimbalref01_made.of {args : List V} {r : V} (hn : args.length = 2) (hW : W pg gimbalref01_made.k (done gimbalref01_made.res r) (start args)) : Ret pg n_gimbalref01_made args r :=
 Ret_of (fn := Try.f68) Try.func68 rfl (by kernel_rfl) gimbalref01_made.m gimbalref01_made.mr (by rw [hn]; exact of_decide_eq_true (by kernel_rfl)) hW
end Go.Gim

import Derived.Test.YtmfenpedpajfkaaGN
/- Functions' code as data (written by wip/tools/gen.py), and the step to their contracts. -/
set_option maxRecDepth 100000
namespace Go.Gim
open Go.Proofs
def gimbalref07_Of.k : K :=
 (.seq (.keep [0] (.ops false [⟨(some 2), none, .mov (.c .nil)⟩]))
 (.seq (.keep [0, 3] (.ops false [⟨(some 3), none, .mov (.c .nil)⟩]))
 (.seq (.seq (.keep [0, 3, 4] (.ops false [⟨(some 4), none, .mov (.c (.int .i64 0))⟩]))
 (.block 0 (.loop (.seq (.seq (.keep [0, 3, 4, 10] (.ops false [⟨(some 7), none, .mov (.t 4)⟩,
 ⟨(some 8), none, .mov (.t 0)⟩,
 ⟨(some 9), none, .len false (.t 8)⟩,
 ⟨(some 10), none, .bin .lss (.t 7) (.t 9)⟩]))
 (.cond (.t 10) .skip
 (.exit 0)))
 (.seq (.block 1 (.seq (.keep [0, 3, 4, 5] (.ops false [⟨(some 5), none, .mov (.c .nil)⟩]))
 (.seq (.seq (.keep [0, 3, 4, 5, 6] (.ops false [⟨(some 6), none, .mov (.c (.int .i64 0))⟩]))
 (.block 2 (.loop (.seq (.seq (.keep [0, 3, 4, 5, 6, 19] (.ops false [⟨(some 13), none, .mov (.t 6)⟩,
 ⟨(some 14), none, .mov (.t 0)⟩,
 ⟨(some 15), none, .mov (.t 4)⟩,
 ⟨(some 16), none, .idxA 1 (.t 14) (.t 15)⟩,
 ⟨(some 17), none, .load 1 false (.t 16)⟩,
 ⟨(some 18), none, .len false (.t 17)⟩,
 ⟨(some 19), none, .bin .lss (.t 13) (.t 18)⟩]))
 (.cond (.t 19) .skip
 (.exit 2)))
 (.seq (.block 3 (.keep [0, 3, 4, 5, 6] (.ops false [⟨(some 22), none, .mov (.t 5)⟩,
 ⟨(some 23), none, .mov (.t 0)⟩,
 ⟨(some 24), none, .mov (.t 4)⟩,
 ⟨(some 25), none, .idxA 1 (.t 23) (.t 24)⟩,
 ⟨(some 26), none, .load 1 false (.t 25)⟩,
 ⟨(some 27), none, .mov (.t 6)⟩,
 ⟨(some 28), none, .idxA 1 (.t 26) (.t 27)⟩,
 ⟨(some 29), none, .load 1 false (.t 28)⟩,
 ⟨(some 30), none, .callG n_gimbalref01_Of [(.t 29)]⟩,
 ⟨(some 31), none, .new (.bsl 2) [(.t 30)]⟩,
 ⟨(some 32), none, .eff (.app 2 32) [(.t 22), (.t 31)]⟩,
 ⟨(some 5), none, .mov (.t 32)⟩])))
 (.keep [0, 3, 4, 5, 6] (.ops false [⟨(some 20), none, .mov (.t 6)⟩,
 ⟨(some 21), none, .bin .add (.t 20) (.c (.int .i64 1))⟩,
 ⟨(some 6), none, .mov (.t 21)⟩])))))))
 (.gh (.keep [0, 3, 4] (.ops false [⟨(some 33), none, .mov (.t 3)⟩,
 ⟨(some 34), none, .mov (.t 5)⟩,
 ⟨(some 35), none, .new (.bsl 1) [(.t 34)]⟩,
 ⟨(some 36), none, .eff (.app 1 24) [(.t 33), (.t 35)]⟩,
 ⟨(some 3), none, .mov (.t 36)⟩]))))))
 (.keep [0, 3, 4] (.ops false [⟨(some 11), none, .mov (.t 4)⟩,
 ⟨(some 12), none, .bin .add (.t 11) (.c (.int .i64 1))⟩,
 ⟨(some 4), none, .mov (.t 12)⟩])))))))
 (.seq (.keep [2] (.ops false [⟨(some 37), none, .mov (.t 3)⟩,
 ⟨(some 2), none, .mov (.t 37)⟩]))
 .ret))))
def gimbalref07_Of.res : List RX := [(2, none)]
theorem gimbalref07_Of.m : mK pg Try.f22.ntmps gimbalref07_Of.k (Try.f22.body.getD .skip) = true := by kernel_rfl
theorem gimbalref07_Of.mr : mRes pg Try.f22.results.toList gimbalref07_Of.res = true := by kernel_rfl
theorem gimbalref07_Of.of {args : List V} {r : V} (hn : args.length = 1) (hW : W pg gimbalref07_Of.k (done gimbalref07_Of.res r) (start args)) : Ret pg n_gimbalref07_Of args r :=
 Ret_of (fn := Try.f22) Try.func22 rfl (by kernel_rfl) gimbalref07_Of.m gimbalref07_Of.mr (by rw [hn]; exact of_decide_eq_true (by kernel_rfl)) hW
def gimbalref07_Mat_Det.k : K :=
 (.seq (.keep [0, 2] (.ops false [⟨(some 2), none, .alloc 2 (.agg [(.bool false), (.sl [])])⟩]))
 (.seq (.seq (.keep [0, 2, 8] (.ops false [⟨(some 6), none, .mov (.t 0)⟩,
 ⟨(some 7), none, .len false (.t 6)⟩,
 ⟨(some 8), none, .bin .eql (.t 7) (.c (.int .i64 0))⟩]))
 (.cond (.t 8) (.seq (.keep [2] (.ops false [⟨(some 9), none, .callG n_gimbalref01_Of [(.c (.int .i64 1))]⟩,
 ⟨none, none, .store 2 (.t 2) (.t 9)⟩]))
 .ret)
 .skip))
 (.seq (.keep [0, 2, 3] (.ops false [⟨(some 10), none, .callG n_gimbalref01_Of [(.c (.int .i64 0))]⟩,
 ⟨(some 3), none, .alloc 2 (.agg [(.bool false), (.sl [])])⟩,
 ⟨none, none, .store 2 (.t 3) (.t 10)⟩]))
 (.seq (.seq (.keep [0, 2, 3, 4] (.ops false [⟨(some 4), none, .mov (.c (.int .i64 0))⟩]))
 (.block 0 (.loop (.seq (.seq (.keep [0, 2, 3, 4, 14] (.ops false [⟨(some 11), none, .mov (.t 4)⟩,
 ⟨(some 12), none, .mov (.t 0)⟩,
 ⟨(some 13), none, .len false (.t 12)⟩,
 ⟨(some 14), none, .bin .lss (.t 11) (.t 13)⟩]))
 (.cond (.t 14) .skip
 (.exit 0)))
 (.seq (.block 1 (.seq (.keep [0, 2, 3, 4, 5] (.ops true [⟨(some 17), none, .mov (.t 0)⟩,
 ⟨(some 18), none, .idxA 1 (.t 17) (.c (.int .i64 0))⟩,
 ⟨(some 19), none, .load 1 false (.t 18)⟩,
 ⟨(some 20), none, .mov (.t 4)⟩,
 ⟨(some 21), none, .idxA 2 (.t 19) (.t 20)⟩,
 ⟨(some 22), none, .load 2 true (.t 21)⟩,
 ⟨(some 23), none, .mov (.t 0)⟩,
 ⟨(some 24), none, .mov (.t 4)⟩,
 ⟨(some 25), none, .call n_gimbalref07_without [(.t 23), (.t 24)]⟩,
 ⟨(some 26), none, .call n_gimbalref07_Mat_Det [(.t 25)]⟩,
 ⟨(some 27), none, .call n_gimbalref01_Int_Mul [(.t 22), (.t 26)]⟩,
 ⟨(some 5), none, .alloc 2 (.agg [(.bool false), (.sl [])])⟩,
 ⟨none, none, .store 2 (.t 5) (.t 27)⟩]))
 (.seq (.seq (.keep [0, 2, 3, 4, 5, 30] (.ops false [⟨(some 28), none, .mov (.t 4)⟩,
 ⟨(some 29), none, .bin .rem (.t 28) (.c (.int .i64 2))⟩,
 ⟨(some 30), none, .bin .eql (.t 29) (.c (.int .i64 1))⟩]))
 (.cond (.t 30) (.keep [0, 2, 3, 4, 5] (.ops false [⟨(some 31), none, .load 2 true (.t 5)⟩,
 ⟨(some 32), none, .callG n_gimbalref01_Int_Minus [(.t 31)]⟩,
 ⟨none, none, .store 2 (.t 5) (.t 32)⟩]))
 .skip))
 (.keep [0, 2, 3, 4] (.ops false [⟨(some 33), none, .load 2 true (.t 3)⟩,
 ⟨(some 34), none, .load 2 true (.t 5)⟩,
 ⟨(some 35), none, .callG n_gimbalref01_Int_Add [(.t 33), (.t 34)]⟩,
 ⟨none, none, .store 2 (.t 3) (.t 35)⟩])))))
 (.keep [0, 2, 3, 4] (.ops false [⟨(some 15), none, .mov (.t 4)⟩,
 ⟨(some 16), none, .bin .add (.t 15) (.c (.int .i64 1))⟩,
 ⟨(some 4), none, .mov (.t 16)⟩])))))))
 (.seq (.keep [2] (.ops false [⟨(some 36), none, .load 2 true (.t 3)⟩,
 ⟨none, none, .store 2 (.t 2) (.t 36)⟩]))
 .ret)))))
def gimbalref07_Mat_Det.res : List RX := [(2, some (2, true))]
theorem gimbalref07_Mat_Det.m : mK pg Try.f28.ntmps gimbalref07_Mat_Det.k (Try.f28.body.getD .skip) = true := by kernel_rfl
theorem gimbalref07_Mat_Det.mr : mRes pg Try.f28.results.toList gimbalref07_Mat_Det.res = true := by kernel_rfl
theorem gimbalref07_Mat_Det.of {args : List V} {r : V} (hn : args.length = 1) (hW : W pg gimbalref07_Mat_Det.k (done gimbalref07_Mat_Det.res r) (start args)) : Ret pg n_gimbalref07_Mat_Det args r :=
 Ret_of (fn := Try.f28) Try.func28 rfl (by kernel_rfl) gimbalref07_Mat_Det.m gimbalref07_Mat_Det.mr (by rw [hn]; exact of_decide_eq_true (by kernel_rfl)) hW
def gimbalref07_Mat_Solve.k : K :=
 (.seq (.keep [0, 1] (.ops false [⟨(some 4), none, .mov (.c .nil)⟩]))
 (.seq (.keep [0, 1, 5] (.ops false [⟨(some 5), none, .mov (.c .nil)⟩]))
 (.seq (.seq (.keep [0, 1, 5, 6] (.ops false [⟨(some 6), none, .mov (.c (.int .i64 0))⟩]))
 (.block 0 (.loop (.seq (.seq (.keep [0, 1, 5, 6, 13] (.ops false [⟨(some 10), none, .mov (.t 6)⟩,
 ⟨(some 11), none, .mov (.t 0)⟩,
 ⟨(some 12), none, .len false (.t 11)⟩,
 ⟨(some 13), none, .bin .lss (.t 10) (.t 12)⟩]))
 (.cond (.t 13) .skip
 (.exit 0)))
 (.seq (.block 1 (.seq (.keep [0, 1, 5, 6, 7] (.ops false [⟨(some 7), none, .mov (.c .nil)⟩]))
 (.seq (.seq (.keep [0, 1, 5, 6, 7, 8] (.ops false [⟨(some 8), none, .mov (.c (.int .i64 0))⟩]))
 (.block 2 (.loop (.seq (.seq (.keep [0, 1, 5, 6, 7, 8, 19] (.ops false [⟨(some 16), none, .mov (.t 8)⟩,
 ⟨(some 17), none, .mov (.t 0)⟩,
 ⟨(some 18), none, .len false (.t 17)⟩,
 ⟨(some 19), none, .bin .lss (.t 16) (.t 18)⟩]))
 (.cond (.t 19) .skip
 (.exit 2)))
 (.seq (.block 3 (.seq (.keep [0, 1, 5, 6, 7, 8, 9] (.ops false [⟨(some 22), none, .new (.bsl 2) []⟩,
 ⟨(some 23), none, .mov (.t 0)⟩,
 ⟨(some 24), none, .mov (.t 8)⟩,
 ⟨(some 25), none, .idxA 1 (.t 23) (.t 24)⟩,
 ⟨(some 26), none, .load 1 false (.t 25)⟩,
 ⟨(some 27), none, .eff (.app 2 32) [(.t 22), (.t 26)]⟩,
 ⟨(some 9), none, .mov (.t 27)⟩]))
 (.seq (.keep [0, 1, 5, 6, 7, 8, 9] (.ops false [⟨(some 28), none, .mov (.t 9)⟩,
 ⟨(some 29), none, .mov (.t 6)⟩,
 ⟨(some 30), none, .mov (.t 1)⟩,
 ⟨(some 31), none, .mov (.t 8)⟩,
 ⟨(some 32), none, .idxA 2 (.t 30) (.t 31)⟩,
 ⟨(some 33), none, .load 2 true (.t 32)⟩,
 ⟨(some 34), none, .idxA 2 (.t 28) (.t 29)⟩,
 ⟨none, none, .store 2 (.t 34) (.t 33)⟩]))
 (.gh (.keep [0, 1, 5, 6, 7, 8] (.ops false [⟨(some 35), none, .mov (.t 7)⟩,
 ⟨(some 36), none, .mov (.t 9)⟩,
 ⟨(some 37), none, .new (.bsl 1) [(.t 36)]⟩,
 ⟨(some 38), none, .eff (.app 1 24) [(.t 35), (.t 37)]⟩,
 ⟨(some 7), none, .mov (.t 38)⟩]))))))
 (.keep [0, 1, 5, 6, 7, 8] (.ops false [⟨(some 20), none, .mov (.t 8)⟩,
 ⟨(some 21), none, .bin .add (.t 20) (.c (.int .i64 1))⟩,
 ⟨(some 8), none, .mov (.t 21)⟩])))))))
 (.keep [0, 1, 5, 6] (.ops false [⟨(some 39), none, .mov (.t 5)⟩,
 ⟨(some 40), none, .mov (.t 7)⟩,
 ⟨(some 41), none, .callG n_gimbalref07_Mat_Det [(.t 40)]⟩,
 ⟨(some 42), none, .new (.bsl 2) [(.t 41)]⟩,
 ⟨(some 43), none, .eff (.app 2 32) [(.t 39), (.t 42)]⟩,
 ⟨(some 5), none, .mov (.t 43)⟩])))))
 (.keep [0, 1, 5, 6] (.ops false [⟨(some 14), none, .mov (.t 6)⟩,
 ⟨(some 15), none, .bin .add (.t 14) (.c (.int .i64 1))⟩,
 ⟨(some 6), none, .mov (.t 15)⟩])))))))
 (.seq (.keep [4] (.ops false [⟨(some 44), none, .mov (.t 5)⟩,
 ⟨(some 4), none, .mov (.t 44)⟩]))
 .ret))))
def gimbalref07_Mat_Solve.res : List RX := [(4, none)]
theorem gimbalref07_Mat_Solve.m : mK pg Try.f33.ntmps gimbalref07_Mat_Solve.k (Try.f33.body.getD .skip) = true := by kernel_rfl
theorem gimbalref07_Mat_Solve.mr : mRes pg Try.f33.results.toList gimbalref07_Mat_Solve.res = true := by kernel_rfl
theorem gimbalref07_Mat_Solve.of {args : List V} {r : V} (hn : args.length = 2) (hW : W pg gimbalref07_Mat_Solve.k (done gimbalref07_Mat_Solve.res r) (start args)) : Ret pg n_gimbalref07_Mat_Solve args r :=
 Ret_of (fn := Try.f33) Try.func33 rfl (by kernel_rfl) gimbalref07_Mat_Solve.m gimbalref07_Mat_Solve.mr (by rw [hn]; exact of_decide_eq_true (by kernel_rfl)) hW
def gimbalref07_Mat_Definite.k : K :=
 (.seq (.keep [0] (.ops false [⟨(some 2), none, .mov (.c (.bool false))⟩]))
 (.seq (.seq (.keep [0, 3] (.ops false [⟨(some 3), none, .mov (.c (.int .i64 0))⟩]))
 (.block 0 (.loop (.seq (.seq (.keep [0, 3, 11] (.ops false [⟨(some 8), none, .mov (.t 3)⟩,
 ⟨(some 9), none, .mov (.t 0)⟩,
 ⟨(some 10), none, .len false (.t 9)⟩,
 ⟨(some 11), none, .bin .lss (.t 8) (.t 10)⟩]))
 (.cond (.t 11) .skip
 (.exit 0)))
 (.seq (.block 1 (.seq (.keep [0, 3, 4] (.ops false [⟨(some 4), none, .mov (.c .nil)⟩]))
 (.seq (.seq (.keep [0, 3, 4, 5] (.ops false [⟨(some 5), none, .mov (.c (.int .i64 0))⟩]))
 (.block 2 (.loop (.seq (.seq (.keep [0, 3, 4, 5, 16] (.ops false [⟨(some 14), none, .mov (.t 5)⟩,
 ⟨(some 15), none, .mov (.t 3)⟩,
 ⟨(some 16), none, .bin .leq (.t 14) (.t 15)⟩]))
 (.cond (.t 16) .skip
 (.exit 2)))
 (.seq (.block 3 (.seq (.gh (.keep [0, 3, 4, 5] (.ops false [⟨(some 19), none, .mov (.t 4)⟩,
 ⟨(some 20), none, .mov (.t 0)⟩,
 ⟨(some 21), none, .mov (.t 5)⟩,
 ⟨(some 22), none, .idxA 1 (.t 20) (.t 21)⟩,
 ⟨(some 23), none, .load 1 false (.t 22)⟩,
 ⟨(some 24), none, .mov (.t 3)⟩,
 ⟨(some 25), none, .bin .add (.t 24) (.c (.int .i64 1))⟩,
 ⟨(some 26), none, .red (.slc 2 false true false) [(.t 23), (.t 25)]⟩,
 ⟨(some 27), none, .new (.bsl 1) [(.t 26)]⟩,
 ⟨(some 28), none, .eff (.app 1 24) [(.t 19), (.t 27)]⟩,
 ⟨(some 4), none, .mov (.t 28)⟩])))
 (.seq (.keep [0, 3, 4, 5, 6] (.ops true [⟨(some 29), none, .mov (.t 0)⟩,
 ⟨(some 30), none, .mov (.t 3)⟩,
 ⟨(some 31), none, .idxA 1 (.t 29) (.t 30)⟩,
 ⟨(some 32), none, .load 1 false (.t 31)⟩,
 ⟨(some 33), none, .mov (.t 5)⟩,
 ⟨(some 34), none, .idxA 2 (.t 32) (.t 33)⟩,
 ⟨(some 35), none, .load 2 true (.t 34)⟩,
 ⟨(some 36), none, .mov (.t 0)⟩,
 ⟨(some 37), none, .mov (.t 5)⟩,
 ⟨(some 38), none, .idxA 1 (.t 36) (.t 37)⟩,
 ⟨(some 39), none, .load 1 false (.t 38)⟩,
 ⟨(some 40), none, .mov (.t 3)⟩,
 ⟨(some 41), none, .idxA 2 (.t 39) (.t 40)⟩,
 ⟨(some 42), none, .load 2 true (.t 41)⟩,
 ⟨(some 43), none, .call n_gimbalref01_Int_Cmp [(.t 35), (.t 42)]⟩,
 ⟨(some 6), none, .mov (.t 43)⟩]))
 (.seq (.keep [0, 3, 4, 5, 45] (.ops false [⟨(some 44), none, .mov (.t 6)⟩,
 ⟨(some 45), none, .bin .neq (.t 44) (.c (.int .i64 0))⟩]))
 (.cond (.t 45) (.seq (.keep [2] (.ops false [⟨(some 2), none, .mov (.c (.bool false))⟩]))
 .ret)
 .skip)))))
 (.keep [0, 3, 4, 5] (.ops false [⟨(some 17), none, .mov (.t 5)⟩,
 ⟨(some 18), none, .bin .add (.t 17) (.c (.int .i64 1))⟩,
 ⟨(some 5), none, .mov (.t 18)⟩])))))))
 (.seq (.keep [0, 3, 7] (.ops false [⟨(some 46), none, .mov (.t 4)⟩,
 ⟨(some 47), none, .callG n_gimbalref07_Mat_Det [(.t 46)]⟩,
 ⟨(some 48), none, .callG n_gimbalref01_Int_Sign [(.t 47)]⟩,
 ⟨(some 7), none, .mov (.t 48)⟩]))
 (.seq (.keep [0, 3, 50] (.ops false [⟨(some 49), none, .mov (.t 7)⟩,
 ⟨(some 50), none, .bin .leq (.t 49) (.c (.int .i64 0))⟩]))
 (.cond (.t 50) (.seq (.keep [2] (.ops false [⟨(some 2), none, .mov (.c (.bool false))⟩]))
 .ret)
 .skip))))))
 (.keep [0, 3] (.ops false [⟨(some 12), none, .mov (.t 3)⟩,
 ⟨(some 13), none, .bin .add (.t 12) (.c (.int .i64 1))⟩,
 ⟨(some 3), none, .mov (.t 13)⟩])))))))
 (.seq (.keep [2] (.ops false [⟨(some 2), none, .mov (.c (.bool true))⟩]))
 .ret)))
def gimbalref07_Mat_Definite.res : List RX := [(2, none)]
theorem gimbalref07_Mat_Definite.m : mK pg Try.f47.ntmps gimbalref07_Mat_Definite.k (Try.f47.body.getD .skip) = true := by kernel_rfl
theorem gimbalref07_Mat_Definite.mr : mRes pg Try.f47.results.toList gimbalref07_Mat_Definite.res = true := by kernel_rfl
theorem gimbalref07_Mat_Definite.of {args : List V} {r : V} (hn : args.length = 1) (hW : W pg gimbalref07_Mat_Definite.k (done gimbalref07_Mat_Definite.res r) (start args)) : Ret pg n_gimbalref07_Mat_Definite args r :=
 Ret_of (fn := Try.f47) Try.func47 rfl (by kernel_rfl) gimbalref07_Mat_Definite.m gimbalref07_Mat_Definite.mr (by rw [hn]; exact of_decide_eq_true (by kernel_rfl)) hW
def gimbalref07_without.k : K :=
 (.seq (.keep [0, 1] (.ops false [⟨(some 4), none, .mov (.c .nil)⟩]))
 (.seq (.keep [0, 1, 5] (.ops false [⟨(some 5), none, .mov (.c .nil)⟩]))
 (.seq (.seq (.keep [0, 1, 5, 6] (.ops false [⟨(some 6), none, .mov (.c (.int .i64 1))⟩]))
 (.block 0 (.loop (.seq (.seq (.keep [0, 1, 5, 6, 12] (.ops false [⟨(some 9), none, .mov (.t 6)⟩,
 ⟨(some 10), none, .mov (.t 0)⟩,
 ⟨(some 11), none, .len false (.t 10)⟩,
 ⟨(some 12), none, .bin .lss (.t 9) (.t 11)⟩]))
 (.cond (.t 12) .skip
 (.exit 0)))
 (.seq (.block 1 (.seq (.keep [0, 1, 5, 6, 7] (.ops false [⟨(some 7), none, .mov (.c .nil)⟩]))
 (.seq (.seq (.keep [0, 1, 5, 6, 7, 8] (.ops false [⟨(some 8), none, .mov (.c (.int .i64 0))⟩]))
 (.block 2 (.loop (.seq (.seq (.keep [0, 1, 5, 6, 7, 8, 21] (.ops false [⟨(some 15), none, .mov (.t 8)⟩,
 ⟨(some 16), none, .mov (.t 0)⟩,
 ⟨(some 17), none, .mov (.t 6)⟩,
 ⟨(some 18), none, .idxA 1 (.t 16) (.t 17)⟩,
 ⟨(some 19), none, .load 1 false (.t 18)⟩,
 ⟨(some 20), none, .len false (.t 19)⟩,
 ⟨(some 21), none, .bin .lss (.t 15) (.t 20)⟩]))
 (.cond (.t 21) .skip
 (.exit 2)))
 (.seq (.block 3 (.seq (.keep [0, 1, 5, 6, 7, 8, 26] (.ops false [⟨(some 24), none, .mov (.t 8)⟩,
 ⟨(some 25), none, .mov (.t 1)⟩,
 ⟨(some 26), none, .bin .neq (.t 24) (.t 25)⟩]))
 (.cond (.t 26) (.keep [0, 1, 5, 6, 7, 8] (.ops false [⟨(some 27), none, .mov (.t 7)⟩,
 ⟨(some 28), none, .mov (.t 0)⟩,
 ⟨(some 29), none, .mov (.t 6)⟩,
 ⟨(some 30), none, .idxA 1 (.t 28) (.t 29)⟩,
 ⟨(some 31), none, .load 1 false (.t 30)⟩,
 ⟨(some 32), none, .mov (.t 8)⟩,
 ⟨(some 33), none, .idxA 2 (.t 31) (.t 32)⟩,
 ⟨(some 34), none, .load 2 true (.t 33)⟩,
 ⟨(some 35), none, .new (.bsl 2) [(.t 34)]⟩,
 ⟨(some 36), none, .eff (.app 2 32) [(.t 27), (.t 35)]⟩,
 ⟨(some 7), none, .mov (.t 36)⟩]))
 .skip)))
 (.keep [0, 1, 5, 6, 7, 8] (.ops false [⟨(some 22), none, .mov (.t 8)⟩,
 ⟨(some 23), none, .bin .add (.t 22) (.c (.int .i64 1))⟩,
 ⟨(some 8), none, .mov (.t 23)⟩])))))))
 (.gh (.keep [0, 1, 5, 6] (.ops false [⟨(some 37), none, .mov (.t 5)⟩,
 ⟨(some 38), none, .mov (.t 7)⟩,
 ⟨(some 39), none, .new (.bsl 1) [(.t 38)]⟩,
 ⟨(some 40), none, .eff (.app 1 24) [(.t 37), (.t 39)]⟩,
 ⟨(some 5), none, .mov (.t 40)⟩]))))))
 (.keep [0, 1, 5, 6] (.ops false [⟨(some 13), none, .mov (.t 6)⟩,
 ⟨(some 14), none, .bin .add (.t 13) (.c (.int .i64 1))⟩,
 ⟨(some 6), none, .mov (.t 14)⟩])))))))
 (.seq (.keep [4] (.ops false [⟨(some 41), none, .mov (.t 5)⟩,
 ⟨(some 4), none, .mov (.t 41)⟩]))
 .ret))))
def gimbalref07_without.res : List RX := [(4, none)]
theorem gimbalref07_without.m : mK pg Try.f83.ntmps gimbalref07_without.k (Try.f83.body.getD .skip) = true := by kernel_rfl
theorem gimbalref07_without.mr : mRes pg Try.f83.results.toList gimbalref07_without.res = true := by kernel_rfl
theorem gimbalref07_without.of {args : List V} {r : V} (hn : args.length = 2) (hW : W pg gimbalref07_without.k (done gimbalref07_without.res r) (start args)) : Ret pg n_gimbalref07_without args r :=
 Ret_of (fn := Try.f83) Try.func83 rfl (by kernel_rfl) gimbalref07_without.m gimbalref07_without.mr (by rw [hn]; exact of_decide_eq_true (by kernel_rfl)) hW
def gimbalref07_Dot.k : K :=
 (.seq (.keep [0, 1, 4] (.ops false [⟨(some 4), none, .alloc 2 (.agg [(.bool false), (.sl [])])⟩]))
 (.seq (.keep [0, 1, 4, 5] (.ops false [⟨(some 7), none, .callG n_gimbalref01_Of [(.c (.int .i64 0))]⟩,
 ⟨(some 5), none, .alloc 2 (.agg [(.bool false), (.sl [])])⟩,
 ⟨none, none, .store 2 (.t 5) (.t 7)⟩]))
 (.seq (.seq (.keep [0, 1, 4, 5, 6] (.ops false [⟨(some 6), none, .mov (.c (.int .i64 0))⟩]))
 (.block 0 (.loop (.seq (.seq (.keep [0, 1, 4, 5, 6, 11] (.ops false [⟨(some 8), none, .mov (.t 6)⟩,
 ⟨(some 9), none, .mov (.t 0)⟩,
 ⟨(some 10), none, .len false (.t 9)⟩,
 ⟨(some 11), none, .bin .lss (.t 8) (.t 10)⟩]))
 (.cond (.t 11) .skip
 (.exit 0)))
 (.seq (.block 1 (.keep [0, 1, 4, 5, 6] (.ops true [⟨(some 14), none, .load 2 true (.t 5)⟩,
 ⟨(some 15), none, .mov (.t 0)⟩,
 ⟨(some 16), none, .mov (.t 6)⟩,
 ⟨(some 17), none, .idxA 2 (.t 15) (.t 16)⟩,
 ⟨(some 18), none, .load 2 true (.t 17)⟩,
 ⟨(some 19), none, .mov (.t 1)⟩,
 ⟨(some 20), none, .mov (.t 6)⟩,
 ⟨(some 21), none, .idxA 2 (.t 19) (.t 20)⟩,
 ⟨(some 22), none, .load 2 true (.t 21)⟩,
 ⟨(some 23), none, .call n_gimbalref01_Int_Mul [(.t 18), (.t 22)]⟩,
 ⟨(some 24), none, .call n_gimbalref01_Int_Add [(.t 14), (.t 23)]⟩,
 ⟨none, none, .store 2 (.t 5) (.t 24)⟩])))
 (.keep [0, 1, 4, 5, 6] (.ops false [⟨(some 12), none, .mov (.t 6)⟩,
 ⟨(some 13), none, .bin .add (.t 12) (.c (.int .i64 1))⟩,
 ⟨(some 6), none, .mov (.t 13)⟩])))))))
 (.seq (.keep [4] (.ops false [⟨(some 25), none, .load 2 true (.t 5)⟩,
 ⟨none, none, .store 2 (.t 4) (.t 25)⟩]))
 .ret))))
def gimbalref07_Dot.res : List RX := [(4, some (2, true))]
theorem gimbalref07_Dot.m : mK pg Try.f97.ntmps gimbalref07_Dot.k (Try.f97.body.getD .skip) = true := by kernel_rfl
theorem gimbalref07_Dot.mr : mRes pg Try.f97.results.toList gimbalref07_Dot.res = true := by kernel_rfl
theorem gimbalref07_Dot.of {args : List V} {r : V} (hn : args.length = 2) (hW : W pg gimbalref07_Dot.k (done gimbalref07_Dot.res r) (start args)) : Ret pg n_gimbalref07_Dot args r :=
 Ret_of (fn := Try.f97) Try.func97 rfl (by kernel_rfl) gimbalref07_Dot.m gimbalref07_Dot.mr (by rw [hn]; exact of_decide_eq_true (by kernel_rfl)) hW
def gimbalref08_Of.k : K :=
 (.seq (.keep [0, 1, 2, 6] (.ops false [⟨(some 6), none, .alloc 4 (.agg [.nil, .nil, (.bool false), (.sl [])])⟩]))
 (.seq (.keep [1, 6, 7] (.ops false [⟨(some 9), none, .mov (.t 0)⟩,
 ⟨(some 10), none, .callG n_gimbalref07_Of [(.t 9)]⟩,
 ⟨(some 11), none, .mov (.t 2)⟩,
 ⟨(some 12), none, .callG n_gimbalref01_Of [(.t 11)]⟩,
 ⟨(some 13), none, .build [.nil, .nil, (.bool false), (.sl [])] [(0, 1, (.t 10)), (2, 2, (.t 12))]⟩,
 ⟨(some 7), none, .alloc 4 (.agg [.nil, .nil, (.bool false), (.sl [])])⟩,
 ⟨none, none, .store 4 (.t 7) (.t 13)⟩]))
 (.seq (.seq (.keep [1, 6, 7, 8] (.ops false [⟨(some 8), none, .mov (.c (.int .i64 0))⟩]))
 (.block 0 (.loop (.seq (.seq (.keep [1, 6, 7, 8, 17] (.ops false [⟨(some 14), none, .mov (.t 8)⟩,
 ⟨(some 15), none, .mov (.t 1)⟩,
 ⟨(some 16), none, .len false (.t 15)⟩,
 ⟨(some 17), none, .bin .lss (.t 14) (.t 16)⟩]))
 (.cond (.t 17) .skip
 (.exit 0)))
 (.seq (.block 1 (.keep [1, 6, 7, 8] (.ops true [⟨(some 20), none, .fldA 1 1 false (.t 7)⟩,
 ⟨(some 21), none, .load 1 false (.t 20)⟩,
 ⟨(some 22), none, .mov (.t 1)⟩,
 ⟨(some 23), none, .mov (.t 8)⟩,
 ⟨(some 24), none, .idxA 1 (.t 22) (.t 23)⟩,
 ⟨(some 25), none, .load 1 false (.t 24)⟩,
 ⟨(some 26), none, .call n_gimbalref01_Of [(.t 25)]⟩,
 ⟨(some 27), none, .new (.bsl 2) [(.t 26)]⟩,
 ⟨(some 28), none, .eff (.app 2 32) [(.t 21), (.t 27)]⟩,
 ⟨(some 29), none, .fldA 1 1 false (.t 7)⟩,
 ⟨none, none, .store 1 (.t 29) (.t 28)⟩])))
 (.keep [1, 6, 7, 8] (.ops false [⟨(some 18), none, .mov (.t 8)⟩,
 ⟨(some 19), none, .bin .add (.t 18) (.c (.int .i64 1))⟩,
 ⟨(some 8), none, .mov (.t 19)⟩])))))))
 (.seq (.keep [6] (.ops false [⟨(some 30), none, .load 4 true (.t 7)⟩,
 ⟨none, none, .store 4 (.t 6) (.t 30)⟩]))
 .ret))))
def gimbalref08_Of.res : List RX := [(6, some (4, true))]
theorem gimbalref08_Of.m : mK pg Try.f54.ntmps gimbalref08_Of.k (Try.f54.body.getD .skip) = true := by kernel_rfl
theorem gimbalref08_Of.mr : mRes pg Try.f54.results.toList gimbalref08_Of.res = true := by kernel_rfl
theorem gimbalref08_Of.of {args : List V} {r : V} (hn : args.length = 3) (hW : W pg gimbalref08_Of.k (done gimbalref08_Of.res r) (start args)) : Ret pg n_gimbalref08_Of args r :=
 Ret_of (fn := Try.f54) Try.func54 rfl (by kernel_rfl) gimbalref08_Of.m gimbalref08_Of.mr (by rw [hn]; exact of_decide_eq_true (by kernel_rfl)) hW
def gimbalref08_Quad_Without.k : K :=
 (.seq (.keep [1, 2, 4, 5] (.ops false [⟨(some 2), none, .boxP (.t 0)⟩,
 ⟨(some 4), none, .alloc 4 (.agg [.nil, .nil, (.bool false), (.sl [])])⟩,
 ⟨(some 5), none, .alloc 2 (.agg [(.bool false), (.sl [])])⟩,
 ⟨(some 6), none, .mov (.c (.bool false))⟩]))
 (.seq (.keep [1, 2, 4, 5, 7] (.ops false [⟨(some 16), none, .fldA 0 1 false (.t 2)⟩,
 ⟨(some 17), none, .load 1 false (.t 16)⟩,
 ⟨(some 18), none, .mov (.t 1)⟩,
 ⟨(some 19), none, .callG n_gimbalref08_first [(.t 17), (.t 18)]⟩,
 ⟨(some 7), none, .mov (.t 19)⟩]))
 (.seq (.keep [1, 2, 4, 5, 7, 8] (.ops false [⟨(some 20), none, .mov (.t 7)⟩,
 ⟨(some 21), none, .callG n_gimbalref07_Mat_Definite [(.t 20)]⟩,
 ⟨(some 8), none, .mov (.t 21)⟩]))
 (.seq (.seq (.keep [1, 2, 4, 5, 7, 23] (.ops false [⟨(some 22), none, .mov (.t 8)⟩,
 ⟨(some 23), none, .un .not (.t 22)⟩]))
 (.cond (.t 23) (.seq (.keep [4, 5, 6] (.ops false [⟨(some 24), none, .build [.nil, .nil, (.bool false), (.sl [])] []⟩,
 ⟨(some 25), none, .build [(.bool false), (.sl [])] []⟩,
 ⟨none, none, .store 4 (.t 4) (.t 24)⟩,
 ⟨none, none, .store 2 (.t 5) (.t 25)⟩,
 ⟨(some 6), none, .mov (.c (.bool false))⟩]))
 .ret)
 .skip))
 (.seq (.keep [1, 2, 4, 5, 7, 9] (.ops false [⟨(some 26), none, .mov (.t 7)⟩,
 ⟨(some 27), none, .callG n_gimbalref07_Mat_Det [(.t 26)]⟩,
 ⟨(some 9), none, .alloc 2 (.agg [(.bool false), (.sl [])])⟩,
 ⟨none, none, .store 2 (.t 9) (.t 27)⟩]))
 (.seq (.keep [1, 2, 4, 5, 7, 9, 10] (.ops false [⟨(some 28), none, .mov (.t 7)⟩,
 ⟨(some 29), none, .fldA 1 1 false (.t 2)⟩,
 ⟨(some 30), none, .load 1 false (.t 29)⟩,
 ⟨(some 31), none, .mov (.t 1)⟩,
 ⟨(some 32), none, .red (.slc 2 false true false) [(.t 30), (.t 31)]⟩,
 ⟨(some 33), none, .callG n_gimbalref07_Mat_Solve [(.t 28), (.t 32)]⟩,
 ⟨(some 10), none, .mov (.t 33)⟩]))
 (.seq (.keep [1, 2, 4, 5, 7, 9, 10, 11] (.ops true [⟨(some 34), none, .load 2 true (.t 9)⟩,
 ⟨(some 35), none, .fldA 2 2 true (.t 2)⟩,
 ⟨(some 36), none, .load 2 true (.t 35)⟩,
 ⟨(some 37), none, .call n_gimbalref01_Int_Mul [(.t 34), (.t 36)]⟩,
 ⟨(some 38), none, .fldA 1 1 false (.t 2)⟩,
 ⟨(some 39), none, .load 1 false (.t 38)⟩,
 ⟨(some 40), none, .mov (.t 1)⟩,
 ⟨(some 41), none, .red (.slc 2 false true false) [(.t 39), (.t 40)]⟩,
 ⟨(some 42), none, .mov (.t 10)⟩,
 ⟨(some 43), none, .call n_gimbalref07_Dot [(.t 41), (.t 42)]⟩,
 ⟨(some 44), none, .call n_gimbalref01_Int_Sub [(.t 37), (.t 43)]⟩,
 ⟨(some 45), none, .build [.nil, .nil, (.bool false), (.sl [])] [(2, 2, (.t 44))]⟩,
 ⟨(some 11), none, .alloc 4 (.agg [.nil, .nil, (.bool false), (.sl [])])⟩,
 ⟨none, none, .store 4 (.t 11) (.t 45)⟩]))
 (.seq (.seq (.keep [1, 2, 4, 5, 7, 9, 10, 11, 12] (.ops false [⟨(some 46), none, .mov (.t 1)⟩,
 ⟨(some 12), none, .mov (.t 46)⟩]))
 (.block 0 (.loop (.seq (.seq (.keep [1, 2, 4, 5, 7, 9, 10, 11, 12, 51] (.ops false [⟨(some 47), none, .mov (.t 12)⟩,
 ⟨(some 48), none, .fldA 1 1 false (.t 2)⟩,
 ⟨(some 49), none, .load 1 false (.t 48)⟩,
 ⟨(some 50), none, .len false (.t 49)⟩,
 ⟨(some 51), none, .bin .lss (.t 47) (.t 50)⟩]))
 (.cond (.t 51) .skip
 (.exit 0)))
 (.seq (.block 1 (.seq (.keep [1, 2, 4, 5, 7, 9, 10, 11, 12, 13] (.ops false [⟨(some 13), none, .mov (.c .nil)⟩]))
 (.seq (.seq (.keep [1, 2, 4, 5, 7, 9, 10, 11, 12, 13, 14] (.ops false [⟨(some 54), none, .mov (.t 1)⟩,
 ⟨(some 14), none, .mov (.t 54)⟩]))
 (.block 2 (.loop (.seq (.seq (.keep [1, 2, 4, 5, 7, 9, 10, 11, 12, 13, 14, 59] (.ops false [⟨(some 55), none, .mov (.t 14)⟩,
 ⟨(some 56), none, .fldA 1 1 false (.t 2)⟩,
 ⟨(some 57), none, .load 1 false (.t 56)⟩,
 ⟨(some 58), none, .len false (.t 57)⟩,
 ⟨(some 59), none, .bin .lss (.t 55) (.t 58)⟩]))
 (.cond (.t 59) .skip
 (.exit 2)))
 (.seq (.block 3 (.seq (.keep [1, 2, 4, 5, 7, 9, 10, 11, 12, 13, 14, 15] (.ops false [⟨(some 62), none, .mov (.t 7)⟩,
 ⟨(some 63), none, .fldA 0 1 false (.t 2)⟩,
 ⟨(some 64), none, .load 1 false (.t 63)⟩,
 ⟨(some 65), none, .mov (.t 14)⟩,
 ⟨(some 66), none, .idxA 1 (.t 64) (.t 65)⟩,
 ⟨(some 67), none, .load 1 false (.t 66)⟩,
 ⟨(some 68), none, .mov (.t 1)⟩,
 ⟨(some 69), none, .red (.slc 2 false true false) [(.t 67), (.t 68)]⟩,
 ⟨(some 70), none, .callG n_gimbalref07_Mat_Solve [(.t 62), (.t 69)]⟩,
 ⟨(some 15), none, .mov (.t 70)⟩]))
 (.keep [1, 2, 4, 5, 7, 9, 10, 11, 12, 13, 14] (.ops true [⟨(some 71), none, .mov (.t 13)⟩,
 ⟨(some 72), none, .load 2 true (.t 9)⟩,
 ⟨(some 73), none, .fldA 0 1 false (.t 2)⟩,
 ⟨(some 74), none, .load 1 false (.t 73)⟩,
 ⟨(some 75), none, .mov (.t 12)⟩,
 ⟨(some 76), none, .idxA 1 (.t 74) (.t 75)⟩,
 ⟨(some 77), none, .load 1 false (.t 76)⟩,
 ⟨(some 78), none, .mov (.t 14)⟩,
 ⟨(some 79), none, .idxA 2 (.t 77) (.t 78)⟩,
 ⟨(some 80), none, .load 2 true (.t 79)⟩,
 ⟨(some 81), none, .call n_gimbalref01_Int_Mul [(.t 72), (.t 80)]⟩,
 ⟨(some 82), none, .fldA 0 1 false (.t 2)⟩,
 ⟨(some 83), none, .load 1 false (.t 82)⟩,
 ⟨(some 84), none, .mov (.t 12)⟩,
 ⟨(some 85), none, .idxA 1 (.t 83) (.t 84)⟩,
 ⟨(some 86), none, .load 1 false (.t 85)⟩,
 ⟨(some 87), none, .mov (.t 1)⟩,
 ⟨(some 88), none, .red (.slc 2 false true false) [(.t 86), (.t 87)]⟩,
 ⟨(some 89), none, .mov (.t 15)⟩,
 ⟨(some 90), none, .call n_gimbalref07_Dot [(.t 88), (.t 89)]⟩,
 ⟨(some 91), none, .call n_gimbalref01_Int_Sub [(.t 81), (.t 90)]⟩,
 ⟨(some 92), none, .new (.bsl 2) [(.t 91)]⟩,
 ⟨(some 93), none, .eff (.app 2 32) [(.t 71), (.t 92)]⟩,
 ⟨(some 13), none, .mov (.t 93)⟩]))))
 (.keep [1, 2, 4, 5, 7, 9, 10, 11, 12, 13, 14] (.ops false [⟨(some 60), none, .mov (.t 14)⟩,
 ⟨(some 61), none, .bin .add (.t 60) (.c (.int .i64 1))⟩,
 ⟨(some 14), none, .mov (.t 61)⟩])))))))
 (.seq (.gh (.keep [1, 2, 4, 5, 7, 9, 10, 11, 12] (.ops false [⟨(some 94), none, .fldA 0 1 false (.t 11)⟩,
 ⟨(some 95), none, .load 1 false (.t 94)⟩,
 ⟨(some 96), none, .mov (.t 13)⟩,
 ⟨(some 97), none, .new (.bsl 1) [(.t 96)]⟩,
 ⟨(some 98), none, .eff (.app 1 24) [(.t 95), (.t 97)]⟩,
 ⟨(some 99), none, .fldA 0 1 false (.t 11)⟩,
 ⟨none, none, .store 1 (.t 99) (.t 98)⟩])))
 (.keep [1, 2, 4, 5, 7, 9, 10, 11, 12] (.ops true [⟨(some 100), none, .fldA 1 1 false (.t 11)⟩,
 ⟨(some 101), none, .load 1 false (.t 100)⟩,
 ⟨(some 102), none, .load 2 true (.t 9)⟩,
 ⟨(some 103), none, .fldA 1 1 false (.t 2)⟩,
 ⟨(some 104), none, .load 1 false (.t 103)⟩,
 ⟨(some 105), none, .mov (.t 12)⟩,
 ⟨(some 106), none, .idxA 2 (.t 104) (.t 105)⟩,
 ⟨(some 107), none, .load 2 true (.t 106)⟩,
 ⟨(some 108), none, .call n_gimbalref01_Int_Mul [(.t 102), (.t 107)]⟩,
 ⟨(some 109), none, .fldA 0 1 false (.t 2)⟩,
 ⟨(some 110), none, .load 1 false (.t 109)⟩,
 ⟨(some 111), none, .mov (.t 12)⟩,
 ⟨(some 112), none, .idxA 1 (.t 110) (.t 111)⟩,
 ⟨(some 113), none, .load 1 false (.t 112)⟩,
 ⟨(some 114), none, .mov (.t 1)⟩,
 ⟨(some 115), none, .red (.slc 2 false true false) [(.t 113), (.t 114)]⟩,
 ⟨(some 116), none, .mov (.t 10)⟩,
 ⟨(some 117), none, .call n_gimbalref07_Dot [(.t 115), (.t 116)]⟩,
 ⟨(some 118), none, .call n_gimbalref01_Int_Sub [(.t 108), (.t 117)]⟩,
 ⟨(some 119), none, .new (.bsl 2) [(.t 118)]⟩,
 ⟨(some 120), none, .eff (.app 2 32) [(.t 101), (.t 119)]⟩,
 ⟨(some 121), none, .fldA 1 1 false (.t 11)⟩,
 ⟨none, none, .store 1 (.t 121) (.t 120)⟩]))))))
 (.keep [1, 2, 4, 5, 7, 9, 10, 11, 12] (.ops false [⟨(some 52), none, .mov (.t 12)⟩,
 ⟨(some 53), none, .bin .add (.t 52) (.c (.int .i64 1))⟩,
 ⟨(some 12), none, .mov (.t 53)⟩])))))))
 (.seq (.keep [4, 5, 6] (.ops true [⟨(some 122), none, .load 4 true (.t 11)⟩,
 ⟨(some 123), none, .loadN 2 true (.t 9) [4]⟩,
 ⟨none, none, .store 4 (.t 4) (.t 122)⟩,
 ⟨none, none, .store 2 (.t 5) (.t 123)⟩,
 ⟨(some 6), none, .mov (.c (.bool true))⟩]))
 .ret)))))))))
def gimbalref08_Quad_Without.res : List RX := [(4, some (4, true)), (5, some (2, true)), (6, none)]
theorem gimbalref08_Quad_Without.m : mK pg Try.f59.ntmps gimbalref08_Quad_Without.k (Try.f59.body.getD .skip) = true := by kernel_rfl
theorem gimbalref08_Quad_Without.mr : mRes pg Try.f59.results.toList gimbalref08_Quad_Without.res = true := by kernel_rfl
theorem gimbalref08_Quad_Without.of {args : List V} {r : V} (hn : args.length = 2) (hW : W pg gimbalref08_Quad_Without.k (done gimbalref08_Quad_Without.res r) (start args)) : Ret pg n_gimbalref08_Quad_Without args r :=
 Ret_of (fn := Try.f59) Try.func59 rfl (by kernel_rfl) gimbalref08_Quad_Without.m gimbalref08_Quad_Without.mr (by rw [hn]; exact of_decide_eq_true (by kernel_rfl)) hW
def gimbalref08_Quad_With.k : K :=
 (.seq (.keep [1, 2, 4] (.ops false [⟨(some 2), none, .boxP (.t 0)⟩,
 ⟨(some 4), none, .alloc 4 (.agg [.nil, .nil, (.bool false), (.sl [])])⟩]))
 (.seq (.keep [1, 2, 4, 5] (.ops false [⟨(some 13), none, .fldA 1 1 false (.t 2)⟩,
 ⟨(some 14), none, .load 1 false (.t 13)⟩,
 ⟨(some 15), none, .len false (.t 14)⟩,
 ⟨(some 16), none, .mov (.t 1)⟩,
 ⟨(some 17), none, .len false (.t 16)⟩,
 ⟨(some 18), none, .bin .sub (.t 15) (.t 17)⟩,
 ⟨(some 5), none, .mov (.t 18)⟩]))
 (.seq (.keep [1, 2, 4, 5, 6] (.ops true [⟨(some 19), none, .fldA 0 1 false (.t 2)⟩,
 ⟨(some 20), none, .load 1 false (.t 19)⟩,
 ⟨(some 21), none, .mov (.t 5)⟩,
 ⟨(some 22), none, .call n_gimbalref08_first [(.t 20), (.t 21)]⟩,
 ⟨(some 23), none, .fldA 2 2 true (.t 2)⟩,
 ⟨(some 24), none, .load 2 true (.t 23)⟩,
 ⟨(some 25), none, .build [.nil, .nil, (.bool false), (.sl [])] [(0, 1, (.t 22)), (2, 2, (.t 24))]⟩,
 ⟨(some 6), none, .alloc 4 (.agg [.nil, .nil, (.bool false), (.sl [])])⟩,
 ⟨none, none, .store 4 (.t 6) (.t 25)⟩]))
 (.seq (.keep [1, 2, 4, 5, 6, 7] (.ops false [⟨(some 26), none, .callG n_gimbalref01_Of [(.c (.int .i64 2))]⟩,
 ⟨(some 7), none, .alloc 2 (.agg [(.bool false), (.sl [])])⟩,
 ⟨none, none, .store 2 (.t 7) (.t 26)⟩]))
 (.seq (.seq (.keep [1, 2, 4, 5, 6, 7, 8] (.ops false [⟨(some 8), none, .mov (.c (.int .i64 0))⟩]))
 (.block 0 (.loop (.seq (.seq (.keep [1, 2, 4, 5, 6, 7, 8, 29] (.ops false [⟨(some 27), none, .mov (.t 8)⟩,
 ⟨(some 28), none, .mov (.t 5)⟩,
 ⟨(some 29), none, .bin .lss (.t 27) (.t 28)⟩]))
 (.cond (.t 29) .skip
 (.exit 0)))
 (.seq (.block 1 (.seq (.keep [1, 2, 4, 5, 6, 7, 8, 9] (.ops false [⟨(some 32), none, .fldA 1 1 false (.t 2)⟩,
 ⟨(some 33), none, .load 1 false (.t 32)⟩,
 ⟨(some 34), none, .mov (.t 8)⟩,
 ⟨(some 35), none, .idxA 2 (.t 33) (.t 34)⟩,
 ⟨(some 36), none, .load 2 true (.t 35)⟩,
 ⟨(some 9), none, .alloc 2 (.agg [(.bool false), (.sl [])])⟩,
 ⟨none, none, .store 2 (.t 9) (.t 36)⟩]))
 (.seq (.seq (.keep [1, 2, 4, 5, 6, 7, 8, 9, 10] (.ops false [⟨(some 10), none, .mov (.c (.int .i64 0))⟩]))
 (.block 2 (.loop (.seq (.seq (.keep [1, 2, 4, 5, 6, 7, 8, 9, 10, 40] (.ops false [⟨(some 37), none, .mov (.t 10)⟩,
 ⟨(some 38), none, .mov (.t 1)⟩,
 ⟨(some 39), none, .len false (.t 38)⟩,
 ⟨(some 40), none, .bin .lss (.t 37) (.t 39)⟩]))
 (.cond (.t 40) .skip
 (.exit 2)))
 (.seq (.block 3 (.keep [1, 2, 4, 5, 6, 7, 8, 9, 10] (.ops true [⟨(some 43), none, .load 2 true (.t 9)⟩,
 ⟨(some 44), none, .fldA 0 1 false (.t 2)⟩,
 ⟨(some 45), none, .load 1 false (.t 44)⟩,
 ⟨(some 46), none, .mov (.t 8)⟩,
 ⟨(some 47), none, .idxA 1 (.t 45) (.t 46)⟩,
 ⟨(some 48), none, .load 1 false (.t 47)⟩,
 ⟨(some 49), none, .mov (.t 5)⟩,
 ⟨(some 50), none, .mov (.t 10)⟩,
 ⟨(some 51), none, .bin .add (.t 49) (.t 50)⟩,
 ⟨(some 52), none, .idxA 2 (.t 48) (.t 51)⟩,
 ⟨(some 53), none, .load 2 true (.t 52)⟩,
 ⟨(some 54), none, .mov (.t 1)⟩,
 ⟨(some 55), none, .mov (.t 10)⟩,
 ⟨(some 56), none, .idxA 2 (.t 54) (.t 55)⟩,
 ⟨(some 57), none, .load 2 true (.t 56)⟩,
 ⟨(some 58), none, .call n_gimbalref01_Int_Mul [(.t 53), (.t 57)]⟩,
 ⟨(some 59), none, .call n_gimbalref01_Int_Sub [(.t 43), (.t 58)]⟩,
 ⟨none, none, .store 2 (.t 9) (.t 59)⟩])))
 (.keep [1, 2, 4, 5, 6, 7, 8, 9, 10] (.ops false [⟨(some 41), none, .mov (.t 10)⟩,
 ⟨(some 42), none, .bin .add (.t 41) (.c (.int .i64 1))⟩,
 ⟨(some 10), none, .mov (.t 42)⟩])))))))
 (.keep [1, 2, 4, 5, 6, 7, 8] (.ops false [⟨(some 60), none, .fldA 1 1 false (.t 6)⟩,
 ⟨(some 61), none, .load 1 false (.t 60)⟩,
 ⟨(some 62), none, .load 2 true (.t 9)⟩,
 ⟨(some 63), none, .new (.bsl 2) [(.t 62)]⟩,
 ⟨(some 64), none, .eff (.app 2 32) [(.t 61), (.t 63)]⟩,
 ⟨(some 65), none, .fldA 1 1 false (.t 6)⟩,
 ⟨none, none, .store 1 (.t 65) (.t 64)⟩])))))
 (.keep [1, 2, 4, 5, 6, 7, 8] (.ops false [⟨(some 30), none, .mov (.t 8)⟩,
 ⟨(some 31), none, .bin .add (.t 30) (.c (.int .i64 1))⟩,
 ⟨(some 8), none, .mov (.t 31)⟩])))))))
 (.seq (.seq (.keep [1, 2, 4, 5, 6, 7, 11] (.ops false [⟨(some 11), none, .mov (.c (.int .i64 0))⟩]))
 (.block 4 (.loop (.seq (.seq (.keep [1, 2, 4, 5, 6, 7, 11, 69] (.ops false [⟨(some 66), none, .mov (.t 11)⟩,
 ⟨(some 67), none, .mov (.t 1)⟩,
 ⟨(some 68), none, .len false (.t 67)⟩,
 ⟨(some 69), none, .bin .lss (.t 66) (.t 68)⟩]))
 (.cond (.t 69) .skip
 (.exit 4)))
 (.seq (.block 5 (.seq (.keep [1, 2, 4, 5, 6, 7, 11] (.ops true [⟨(some 72), none, .fldA 2 2 true (.t 6)⟩,
 ⟨(some 73), none, .load 2 true (.t 72)⟩,
 ⟨(some 74), none, .load 2 true (.t 7)⟩,
 ⟨(some 75), none, .fldA 1 1 false (.t 2)⟩,
 ⟨(some 76), none, .load 1 false (.t 75)⟩,
 ⟨(some 77), none, .mov (.t 5)⟩,
 ⟨(some 78), none, .mov (.t 11)⟩,
 ⟨(some 79), none, .bin .add (.t 77) (.t 78)⟩,
 ⟨(some 80), none, .idxA 2 (.t 76) (.t 79)⟩,
 ⟨(some 81), none, .load 2 true (.t 80)⟩,
 ⟨(some 82), none, .call n_gimbalref01_Int_Mul [(.t 74), (.t 81)]⟩,
 ⟨(some 83), none, .mov (.t 1)⟩,
 ⟨(some 84), none, .mov (.t 11)⟩,
 ⟨(some 85), none, .idxA 2 (.t 83) (.t 84)⟩,
 ⟨(some 86), none, .load 2 true (.t 85)⟩,
 ⟨(some 87), none, .call n_gimbalref01_Int_Mul [(.t 82), (.t 86)]⟩,
 ⟨(some 88), none, .call n_gimbalref01_Int_Sub [(.t 73), (.t 87)]⟩,
 ⟨(some 89), none, .fldA 2 2 true (.t 6)⟩,
 ⟨none, none, .store 2 (.t 89) (.t 88)⟩]))
 (.seq (.keep [1, 2, 4, 5, 6, 7, 11, 12] (.ops false [⟨(some 12), none, .mov (.c (.int .i64 0))⟩]))
 (.block 6 (.loop (.seq (.seq (.keep [1, 2, 4, 5, 6, 7, 11, 12, 93] (.ops false [⟨(some 90), none, .mov (.t 12)⟩,
 ⟨(some 91), none, .mov (.t 1)⟩,
 ⟨(some 92), none, .len false (.t 91)⟩,
 ⟨(some 93), none, .bin .lss (.t 90) (.t 92)⟩]))
 (.cond (.t 93) .skip
 (.exit 6)))
 (.seq (.block 7 (.keep [1, 2, 4, 5, 6, 7, 11, 12] (.ops true [⟨(some 96), none, .fldA 2 2 true (.t 6)⟩,
 ⟨(some 97), none, .load 2 true (.t 96)⟩,
 ⟨(some 98), none, .fldA 0 1 false (.t 2)⟩,
 ⟨(some 99), none, .load 1 false (.t 98)⟩,
 ⟨(some 100), none, .mov (.t 5)⟩,
 ⟨(some 101), none, .mov (.t 11)⟩,
 ⟨(some 102), none, .bin .add (.t 100) (.t 101)⟩,
 ⟨(some 103), none, .idxA 1 (.t 99) (.t 102)⟩,
 ⟨(some 104), none, .load 1 false (.t 103)⟩,
 ⟨(some 105), none, .mov (.t 5)⟩,
 ⟨(some 106), none, .mov (.t 12)⟩,
 ⟨(some 107), none, .bin .add (.t 105) (.t 106)⟩,
 ⟨(some 108), none, .idxA 2 (.t 104) (.t 107)⟩,
 ⟨(some 109), none, .load 2 true (.t 108)⟩,
 ⟨(some 110), none, .mov (.t 1)⟩,
 ⟨(some 111), none, .mov (.t 11)⟩,
 ⟨(some 112), none, .idxA 2 (.t 110) (.t 111)⟩,
 ⟨(some 113), none, .load 2 true (.t 112)⟩,
 ⟨(some 114), none, .call n_gimbalref01_Int_Mul [(.t 109), (.t 113)]⟩,
 ⟨(some 115), none, .mov (.t 1)⟩,
 ⟨(some 116), none, .mov (.t 12)⟩,
 ⟨(some 117), none, .idxA 2 (.t 115) (.t 116)⟩,
 ⟨(some 118), none, .load 2 true (.t 117)⟩,
 ⟨(some 119), none, .call n_gimbalref01_Int_Mul [(.t 114), (.t 118)]⟩,
 ⟨(some 120), none, .call n_gimbalref01_Int_Add [(.t 97), (.t 119)]⟩,
 ⟨(some 121), none, .fldA 2 2 true (.t 6)⟩,
 ⟨none, none, .store 2 (.t 121) (.t 120)⟩])))
 (.keep [1, 2, 4, 5, 6, 7, 11, 12] (.ops false [⟨(some 94), none, .mov (.t 12)⟩,
 ⟨(some 95), none, .bin .add (.t 94) (.c (.int .i64 1))⟩,
 ⟨(some 12), none, .mov (.t 95)⟩])))))))))
 (.keep [1, 2, 4, 5, 6, 7, 11] (.ops false [⟨(some 70), none, .mov (.t 11)⟩,
 ⟨(some 71), none, .bin .add (.t 70) (.c (.int .i64 1))⟩,
 ⟨(some 11), none, .mov (.t 71)⟩])))))))
 (.seq (.keep [4] (.ops false [⟨(some 122), none, .load 4 true (.t 6)⟩,
 ⟨none, none, .store 4 (.t 4) (.t 122)⟩]))
 .ret)))))))
def gimbalref08_Quad_With.res : List RX := [(4, some (4, true))]
theorem gimbalref08_Quad_With.m : mK pg Try.f60.ntmps gimbalref08_Quad_With.k (Try.f60.body.getD .skip) = true := by kernel_rfl
theorem gimbalref08_Quad_With.mr : mRes pg Try.f60.results.toList gimbalref08_Quad_With.res = true := by kernel_rfl
theorem gimbalref08_Quad_With.of {args : List V} {r : V} (hn : args.length = 2) (hW : W pg gimbalref08_Quad_With.k (done gimbalref08_Quad_With.res r) (start args)) : Ret pg n_gimbalref08_Quad_With args r :=
 Ret_of (fn := Try.f60) Try.func60 rfl (by kernel_rfl) gimbalref08_Quad_With.m gimbalref08_Quad_With.mr (by rw [hn]; exact of_decide_eq_true (by kernel_rfl)) hW
def gimbalref08_first.k : K :=
 (.seq (.keep [0, 1] (.ops false [⟨(some 4), none, .mov (.c .nil)⟩]))
 (.seq (.keep [0, 1, 5] (.ops false [⟨(some 5), none, .mov (.c .nil)⟩]))
 (.seq (.seq (.keep [0, 1, 5, 6] (.ops false [⟨(some 6), none, .mov (.c (.int .i64 0))⟩]))
 (.block 0 (.loop (.seq (.seq (.keep [0, 1, 5, 6, 9] (.ops false [⟨(some 7), none, .mov (.t 6)⟩,
 ⟨(some 8), none, .mov (.t 1)⟩,
 ⟨(some 9), none, .bin .lss (.t 7) (.t 8)⟩]))
 (.cond (.t 9) .skip
 (.exit 0)))
 (.seq (.block 1 (.gh (.keep [0, 1, 5, 6] (.ops false [⟨(some 12), none, .mov (.t 5)⟩,
 ⟨(some 13), none, .mov (.t 0)⟩,
 ⟨(some 14), none, .mov (.t 6)⟩,
 ⟨(some 15), none, .idxA 1 (.t 13) (.t 14)⟩,
 ⟨(some 16), none, .load 1 false (.t 15)⟩,
 ⟨(some 17), none, .mov (.t 1)⟩,
 ⟨(some 18), none, .red (.slc 2 false true false) [(.t 16), (.t 17)]⟩,
 ⟨(some 19), none, .new (.bsl 1) [(.t 18)]⟩,
 ⟨(some 20), none, .eff (.app 1 24) [(.t 12), (.t 19)]⟩,
 ⟨(some 5), none, .mov (.t 20)⟩]))))
 (.keep [0, 1, 5, 6] (.ops false [⟨(some 10), none, .mov (.t 6)⟩,
 ⟨(some 11), none, .bin .add (.t 10) (.c (.int .i64 1))⟩,
 ⟨(some 6), none, .mov (.t 11)⟩])))))))
 (.seq (.keep [4] (.ops false [⟨(some 21), none, .mov (.t 5)⟩,
 ⟨(some 4), none, .mov (.t 21)⟩]))
 .ret))))
def gimbalref08_first.res : List RX := [(4, none)]
theorem gimbalref08_first.m : mK pg Try.f105.ntmps gimbalref08_first.k (Try.f105.body.getD .skip) = true := by kernel_rfl
theorem gimbalref08_first.mr : mRes pg Try.f105.results.toList gimbalref08_first.res = true := by kernel_rfl
theorem gimbalref08_first.of {args : List V} {r : V} (hn : args.length = 2) (hW : W pg gimbalref08_first.k (done gimbalref08_first.res r) (start args)) : Ret pg n_gimbalref08_first args r :=
 Ret_of (fn := Try.f105) Try.func105 rfl (by kernel_rfl) gimbalref08_first.m gimbalref08_first.mr (by rw [hn]; exact of_decide_eq_true (by kernel_rfl)) hW
end Go.Gim

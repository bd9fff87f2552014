import Derived.Test.YtjkjpjneeioeiaaGN
/- Functions' code as data (written by wip/tools/gen.py), and the step to their contracts. -/
set_option maxRecDepth 100000
namespace Go.Gim
open Go.Proofs
def marg_Out.k : K :=
 (.seq (.keep [1, 2, 3, 6] (.ops false [⟨(some 3), none, .boxP (.t 0)⟩,
 ⟨(some 6), none, .alloc 8 (.agg [(.int .i64 0), .nil, .nil, .nil, (.bool false), (.sl []), (.bool false), (.sl [])])⟩,
 ⟨(some 7), none, .mov (.c (.int .i64 0))⟩]))
 (.seq (.block 0 (.seq (.keep [1, 2, 3, 6, 16] (.ops false [⟨(some 17), none, .mov (.t 1)⟩,
 ⟨(some 18), none, .len false (.t 17)⟩,
 ⟨(some 19), none, .fldA 0 1 false (.t 3)⟩,
 ⟨(some 20), none, .load 1 false (.t 19)⟩,
 ⟨(some 21), none, .bin .neq (.t 18) (.t 20)⟩,
 ⟨(some 22), none, .mov (.t 21)⟩,
 ⟨(some 23), (some (22, false)), .mov (.t 1)⟩,
 ⟨(some 24), (some (22, false)), .callG n_cost_State [(.t 23)]⟩,
 ⟨(some 25), (some (22, false)), .un .not (.t 24)⟩,
 ⟨(some 26), none, .pick (.t 22) (.c (.bool true)) (.t 25)⟩,
 ⟨(some 16), none, .mov (.t 26)⟩]))
 (.cond (.t 16) (.seq (.keep [6, 7] (.ops false [⟨(some 27), none, .build [(.int .i64 0), .nil, .nil, .nil, (.bool false), (.sl []), (.bool false), (.sl [])] []⟩,
 ⟨none, none, .store 8 (.t 6) (.t 27)⟩,
 ⟨(some 7), none, .mov (.c (.int .i64 170))⟩]))
 .ret)
 (.seq (.keep [1, 2, 3, 6, 28] (.ops false [⟨(some 29), none, .mov (.t 2)⟩,
 ⟨(some 30), none, .bin .lss (.t 29) (.c (.int .i64 0))⟩,
 ⟨(some 31), none, .mov (.t 30)⟩,
 ⟨(some 32), (some (31, false)), .mov (.t 2)⟩,
 ⟨(some 33), (some (31, false)), .fldA 0 1 false (.t 3)⟩,
 ⟨(some 34), (some (31, false)), .load 1 false (.t 33)⟩,
 ⟨(some 35), (some (31, false)), .bin .geq (.t 32) (.t 34)⟩,
 ⟨(some 36), none, .pick (.t 31) (.c (.bool true)) (.t 35)⟩,
 ⟨(some 28), none, .mov (.t 36)⟩]))
 (.cond (.t 28) (.seq (.keep [6, 7] (.ops false [⟨(some 37), none, .build [(.int .i64 0), .nil, .nil, .nil, (.bool false), (.sl []), (.bool false), (.sl [])] []⟩,
 ⟨none, none, .store 8 (.t 6) (.t 37)⟩,
 ⟨(some 7), none, .mov (.c (.int .i64 1))⟩]))
 .ret)
 .skip)))))
 (.seq (.keep [2, 3, 6, 8, 9] (.ops false [⟨(some 39), none, .load 8 true (.t 3)⟩,
 ⟨(some 40), none, .mov (.t 1)⟩,
 ⟨(some 41), none, .mov (.t 2)⟩,
 ⟨(some 42), none, .callG n_marg_Whole [(.t 39), (.t 40), (.t 41)]⟩,
 ⟨(some 38), none, .mov (.t 42)⟩,
 ⟨(some 43), none, .ext (.t 38) 0⟩,
 ⟨(some 44), none, .ext (.t 38) 1⟩,
 ⟨(some 8), none, .alloc 4 (.agg [.nil, .nil, (.bool false), (.sl [])])⟩,
 ⟨(some 9), none, .alloc 2 (.agg [(.bool false), (.sl [])])⟩,
 ⟨none, none, .store 4 (.t 8) (.t 43)⟩,
 ⟨none, none, .store 2 (.t 9) (.t 44)⟩]))
 (.seq (.keep [2, 3, 6, 9, 10, 11, 12] (.ops false [⟨(some 46), none, .load 4 true (.t 8)⟩,
 ⟨(some 47), none, .mov (.t 2)⟩,
 ⟨(some 48), none, .callG n_quad_Quad_Without [(.t 46), (.t 47)]⟩,
 ⟨(some 45), none, .mov (.t 48)⟩,
 ⟨(some 49), none, .ext (.t 45) 0⟩,
 ⟨(some 50), none, .ext (.t 45) 1⟩,
 ⟨(some 51), none, .ext (.t 45) 2⟩,
 ⟨(some 10), none, .alloc 4 (.agg [.nil, .nil, (.bool false), (.sl [])])⟩,
 ⟨(some 11), none, .alloc 2 (.agg [(.bool false), (.sl [])])⟩,
 ⟨none, none, .store 4 (.t 10) (.t 49)⟩,
 ⟨none, none, .store 2 (.t 11) (.t 50)⟩,
 ⟨(some 12), none, .mov (.t 51)⟩]))
 (.seq (.seq (.keep [2, 3, 6, 9, 10, 11, 12, 53] (.ops false [⟨(some 52), none, .mov (.t 12)⟩,
 ⟨(some 53), none, .bin .neq (.t 52) (.c (.int .i64 0))⟩]))
 (.cond (.t 53) (.seq (.keep [6, 7] (.ops false [⟨(some 54), none, .build [(.int .i64 0), .nil, .nil, .nil, (.bool false), (.sl []), (.bool false), (.sl [])] []⟩,
 ⟨(some 55), none, .mov (.t 12)⟩,
 ⟨none, none, .store 8 (.t 6) (.t 54)⟩,
 ⟨(some 7), none, .mov (.t 55)⟩]))
 .ret)
 .skip))
 (.seq (.keep [2, 3, 6, 13] (.ops true [⟨(some 56), none, .fldA 0 1 false (.t 3)⟩,
 ⟨(some 57), none, .load 1 false (.t 56)⟩,
 ⟨(some 58), none, .mov (.t 2)⟩,
 ⟨(some 59), none, .bin .sub (.t 57) (.t 58)⟩,
 ⟨(some 60), none, .load 4 true (.t 10)⟩,
 ⟨(some 61), none, .load 2 true (.t 9)⟩,
 ⟨(some 62), none, .load 2 true (.t 11)⟩,
 ⟨(some 63), none, .call n_long_Int_Mul [(.t 61), (.t 62)]⟩,
 ⟨(some 64), none, .call n_marg_rounded [(.t 60), (.t 63)]⟩,
 ⟨(some 65), none, .call n_long_Of [(.c (.int .i64 1024))]⟩,
 ⟨(some 66), none, .build [(.int .i64 0), .nil, .nil, .nil, (.bool false), (.sl []), (.bool false), (.sl [])] [(0, 1, (.t 59)), (2, 4, (.t 64)), (6, 2, (.t 65))]⟩,
 ⟨(some 13), none, .alloc 8 (.agg [(.int .i64 0), .nil, .nil, .nil, (.bool false), (.sl []), (.bool false), (.sl [])])⟩,
 ⟨none, none, .store 8 (.t 13) (.t 66)⟩]))
 (.seq (.seq (.keep [2, 6, 13, 68, 69, 70] (.ops false [⟨(some 67), none, .fldA 1 1 false (.t 3)⟩,
 ⟨(some 68), none, .load 1 false (.t 67)⟩,
 ⟨(some 69), none, .len false (.t 68)⟩,
 ⟨(some 70), none, .mov (.c (.int .i64 0))⟩]))
 (.block 1 (.loop (.seq (.keep [2, 6, 13, 68, 69, 70, 71] (.ops false [⟨(some 71), none, .bin .lss (.t 70) (.t 69)⟩]))
 (.seq (.cond (.t 71) .skip
 (.exit 1))
 (.seq (.block 2 (.seq (.keep [2, 6, 13, 15, 68, 69, 70] (.ops false [⟨(some 72), none, .idxA 4 (.t 68) (.t 70)⟩,
 ⟨(some 73), none, .load 4 true (.t 72)⟩,
 ⟨(some 15), none, .alloc 4 (.agg [(.sl []), (.int .i64 0), (.int .i64 0), (.int .i64 0)])⟩,
 ⟨none, none, .store 4 (.t 15) (.t 73)⟩]))
 (.seq (.keep [2, 6, 13, 15, 68, 69, 70, 77] (.ops false [⟨(some 74), none, .load 4 true (.t 15)⟩,
 ⟨(some 75), none, .mov (.t 2)⟩,
 ⟨(some 76), none, .callG n_marg_touches [(.t 74), (.t 75)]⟩,
 ⟨(some 77), none, .un .not (.t 76)⟩]))
 (.cond (.t 77) (.seq (.keep [2, 6, 13, 15, 68, 69, 70] (.ops false [⟨(some 78), none, .fldA 0 1 false (.t 15)⟩,
 ⟨(some 79), none, .load 1 false (.t 78)⟩,
 ⟨(some 80), none, .mov (.t 2)⟩,
 ⟨(some 81), none, .red (.slc 1 true false false) [(.t 79), (.t 80)]⟩,
 ⟨(some 82), none, .callG n_slices_Clone_Lint64_int64 [(.t 81)]⟩,
 ⟨(some 83), none, .fldA 0 1 false (.t 15)⟩,
 ⟨none, none, .store 1 (.t 83) (.t 82)⟩]))
 (.gh (.keep [2, 6, 13, 68, 69, 70] (.ops false [⟨(some 84), none, .fldA 1 1 false (.t 13)⟩,
 ⟨(some 85), none, .load 1 false (.t 84)⟩,
 ⟨(some 86), none, .load 4 true (.t 15)⟩,
 ⟨(some 87), none, .new (.bsl 4) [(.t 86)]⟩,
 ⟨(some 88), none, .eff (.app 4 48) [(.t 85), (.t 87)]⟩,
 ⟨(some 89), none, .fldA 1 1 false (.t 13)⟩,
 ⟨none, none, .store 1 (.t 89) (.t 88)⟩]))))
 .skip))))
 (.keep [2, 6, 13, 68, 69, 70] (.ops false [⟨(some 90), none, .bin .add (.t 70) (.c (.int .i64 1))⟩,
 ⟨(some 70), none, .mov (.t 90)⟩]))))))))
 (.seq (.keep [6, 7] (.ops false [⟨(some 91), none, .load 8 true (.t 13)⟩,
 ⟨none, none, .store 8 (.t 6) (.t 91)⟩,
 ⟨(some 7), none, .mov (.c (.int .i64 0))⟩]))
 .ret))))))))
def marg_Out.res : List RX := [(6, some (8, true)), (7, none)]
theorem marg_Out.m : mK pg Try.f10.ntmps marg_Out.k (Try.f10.body.getD .skip) = true := by kernel_rfl
theorem marg_Out.mr : mRes pg Try.f10.results.toList marg_Out.res = true := by kernel_rfl
theorem marg_Out.of {args : List V} {r : V} (hn : args.length = 3) (hW : W pg marg_Out.k (done marg_Out.res r) (start args)) : Ret pg n_marg_Out args r :=
 Ret_of (fn := Try.f10) Try.func10 rfl (by kernel_rfl) marg_Out.m marg_Out.mr (by rw [hn]; exact of_decide_eq_true (by kernel_rfl)) hW
def marg_Whole.k : K :=
 (.seq (.keep [1, 2, 3, 6, 7] (.ops false [⟨(some 3), none, .boxP (.t 0)⟩,
 ⟨(some 6), none, .alloc 4 (.agg [.nil, .nil, (.bool false), (.sl [])])⟩,
 ⟨(some 7), none, .alloc 2 (.agg [(.bool false), (.sl [])])⟩]))
 (.seq (.keep [1, 2, 3, 6, 7, 8] (.ops true [⟨(some 11), none, .fldA 2 4 true (.t 3)⟩,
 ⟨(some 12), none, .load 4 true (.t 11)⟩,
 ⟨(some 13), none, .call n_long_Of [(.c (.int .i64 1024))]⟩,
 ⟨(some 14), none, .call n_marg_scaled [(.t 12), (.t 13)]⟩,
 ⟨(some 8), none, .alloc 4 (.agg [.nil, .nil, (.bool false), (.sl [])])⟩,
 ⟨none, none, .store 4 (.t 8) (.t 14)⟩]))
 (.seq (.seq (.keep [1, 2, 3, 6, 7, 8, 16, 17, 18] (.ops false [⟨(some 15), none, .fldA 1 1 false (.t 3)⟩,
 ⟨(some 16), none, .load 1 false (.t 15)⟩,
 ⟨(some 17), none, .len false (.t 16)⟩,
 ⟨(some 18), none, .mov (.c (.int .i64 0))⟩]))
 (.block 0 (.loop (.seq (.keep [1, 2, 3, 6, 7, 8, 16, 17, 18, 19] (.ops false [⟨(some 19), none, .bin .lss (.t 18) (.t 17)⟩]))
 (.seq (.cond (.t 19) .skip
 (.exit 0))
 (.seq (.block 1 (.seq (.keep [1, 2, 3, 6, 7, 8, 10, 16, 17, 18] (.ops false [⟨(some 20), none, .idxA 4 (.t 16) (.t 18)⟩,
 ⟨(some 21), none, .load 4 true (.t 20)⟩,
 ⟨(some 10), none, .alloc 4 (.agg [(.sl []), (.int .i64 0), (.int .i64 0), (.int .i64 0)])⟩,
 ⟨none, none, .store 4 (.t 10) (.t 21)⟩]))
 (.seq (.keep [1, 2, 3, 6, 7, 8, 10, 16, 17, 18, 24] (.ops false [⟨(some 22), none, .load 4 true (.t 10)⟩,
 ⟨(some 23), none, .mov (.t 2)⟩,
 ⟨(some 24), none, .callG n_marg_touches [(.t 22), (.t 23)]⟩]))
 (.cond (.t 24) (.keep [1, 2, 3, 6, 7, 8, 16, 17, 18] (.ops true [⟨(some 25), none, .load 4 true (.t 8)⟩,
 ⟨(some 26), none, .load 4 true (.t 10)⟩,
 ⟨(some 27), none, .call n_marg_square [(.t 26)]⟩,
 ⟨(some 28), none, .fldA 6 2 true (.t 3)⟩,
 ⟨(some 29), none, .load 2 true (.t 28)⟩,
 ⟨(some 30), none, .fldA 3 1 false (.t 10)⟩,
 ⟨(some 31), none, .load 1 false (.t 30)⟩,
 ⟨(some 32), none, .load 8 true (.t 3)⟩,
 ⟨(some 33), none, .load 4 true (.t 10)⟩,
 ⟨(some 34), none, .mov (.t 1)⟩,
 ⟨(some 35), none, .call n_graph_Graph_Share [(.t 32), (.t 33), (.t 34)]⟩,
 ⟨(some 36), none, .bin .mul (.t 31) (.t 35)⟩,
 ⟨(some 37), none, .call n_long_Of [(.t 36)]⟩,
 ⟨(some 38), none, .call n_long_Int_Mul [(.t 29), (.t 37)]⟩,
 ⟨(some 39), none, .call n_marg_scaled [(.t 27), (.t 38)]⟩,
 ⟨(some 40), none, .call n_quad_Quad_Add [(.t 25), (.t 39)]⟩,
 ⟨none, none, .store 4 (.t 8) (.t 40)⟩]))
 .skip))))
 (.keep [1, 2, 3, 6, 7, 8, 16, 17, 18] (.ops false [⟨(some 41), none, .bin .add (.t 18) (.c (.int .i64 1))⟩,
 ⟨(some 18), none, .mov (.t 41)⟩]))))))))
 (.seq (.keep [6, 7] (.ops true [⟨(some 42), none, .load 4 true (.t 8)⟩,
 ⟨(some 43), none, .fldA 6 2 true (.t 3)⟩,
 ⟨(some 44), none, .loadN 2 true (.t 43) [6]⟩,
 ⟨(some 45), none, .call n_long_Of [(.c (.int .i64 1024))]⟩,
 ⟨(some 46), none, .call n_long_Int_Mul [(.t 44), (.t 45)]⟩,
 ⟨none, none, .store 4 (.t 6) (.t 42)⟩,
 ⟨none, none, .store 2 (.t 7) (.t 46)⟩]))
 .ret))))
def marg_Whole.res : List RX := [(6, some (4, true)), (7, some (2, true))]
theorem marg_Whole.m : mK pg Try.f13.ntmps marg_Whole.k (Try.f13.body.getD .skip) = true := by kernel_rfl
theorem marg_Whole.mr : mRes pg Try.f13.results.toList marg_Whole.res = true := by kernel_rfl
theorem marg_Whole.of {args : List V} {r : V} (hn : args.length = 3) (hW : W pg marg_Whole.k (done marg_Whole.res r) (start args)) : Ret pg n_marg_Whole args r :=
 Ret_of (fn := Try.f13) Try.func13 rfl (by kernel_rfl) marg_Whole.m marg_Whole.mr (by rw [hn]; exact of_decide_eq_true (by kernel_rfl)) hW
def marg_rounded.k : K :=
 (.seq (.keep [2, 3, 4] (.ops false [⟨(some 2), none, .boxP (.t 0)⟩,
 ⟨(some 3), none, .boxP (.t 1)⟩,
 ⟨(some 4), none, .alloc 4 (.agg [.nil, .nil, (.bool false), (.sl [])])⟩]))
 (.seq (.keep [2, 4, 5] (.ops false [⟨(some 10), none, .mkFn n_marg_rounded_1 [(.t 3)]⟩,
 ⟨(some 5), none, .mov (.t 10)⟩]))
 (.seq (.keep [2, 4, 5, 6] (.ops false [⟨(some 11), none, .mov (.t 5)⟩,
 ⟨(some 12), none, .fldA 2 2 true (.t 2)⟩,
 ⟨(some 13), none, .load 2 true (.t 12)⟩,
 ⟨(some 14), none, .callGV (.t 11) [(.t 13)]⟩,
 ⟨(some 15), none, .build [.nil, .nil, (.bool false), (.sl [])] [(2, 2, (.t 14))]⟩,
 ⟨(some 6), none, .alloc 4 (.agg [.nil, .nil, (.bool false), (.sl [])])⟩,
 ⟨none, none, .store 4 (.t 6) (.t 15)⟩]))
 (.seq (.seq (.keep [2, 4, 5, 6, 18, 19] (.ops false [⟨(some 16), none, .fldA 0 1 false (.t 2)⟩,
 ⟨(some 17), none, .load 1 false (.t 16)⟩,
 ⟨(some 18), none, .len false (.t 17)⟩,
 ⟨(some 19), none, .mov (.c (.int .i64 0))⟩]))
 (.block 0 (.loop (.seq (.keep [2, 4, 5, 6, 18, 19, 20] (.ops false [⟨(some 20), none, .bin .lss (.t 19) (.t 18)⟩]))
 (.seq (.cond (.t 20) .skip
 (.exit 0))
 (.seq (.block 1 (.seq (.keep [2, 4, 5, 6, 7, 18, 19] (.ops false [⟨(some 21), none, .mov (.t 19)⟩,
 ⟨(some 7), none, .mov (.t 21)⟩]))
 (.seq (.keep [2, 4, 5, 6, 7, 18, 19] (.ops true [⟨(some 22), none, .fldA 1 1 false (.t 6)⟩,
 ⟨(some 23), none, .load 1 false (.t 22)⟩,
 ⟨(some 24), none, .mov (.t 5)⟩,
 ⟨(some 25), none, .fldA 1 1 false (.t 2)⟩,
 ⟨(some 26), none, .load 1 false (.t 25)⟩,
 ⟨(some 27), none, .mov (.t 7)⟩,
 ⟨(some 28), none, .idxA 2 (.t 26) (.t 27)⟩,
 ⟨(some 29), none, .load 2 true (.t 28)⟩,
 ⟨(some 30), none, .callV (.t 24) [(.t 29)]⟩,
 ⟨(some 31), none, .new (.bsl 2) [(.t 30)]⟩,
 ⟨(some 32), none, .eff (.app 2 32) [(.t 23), (.t 31)]⟩,
 ⟨(some 33), none, .fldA 1 1 false (.t 6)⟩,
 ⟨none, none, .store 1 (.t 33) (.t 32)⟩]))
 (.seq (.keep [2, 4, 5, 6, 7, 8, 18, 19] (.ops false [⟨(some 8), none, .mov (.c .nil)⟩]))
 (.seq (.seq (.keep [2, 4, 5, 6, 7, 8, 18, 19, 39, 40] (.ops false [⟨(some 34), none, .fldA 0 1 false (.t 2)⟩,
 ⟨(some 35), none, .load 1 false (.t 34)⟩,
 ⟨(some 36), none, .mov (.t 7)⟩,
 ⟨(some 37), none, .idxA 1 (.t 35) (.t 36)⟩,
 ⟨(some 38), none, .load 1 false (.t 37)⟩,
 ⟨(some 39), none, .len false (.t 38)⟩,
 ⟨(some 40), none, .mov (.c (.int .i64 0))⟩]))
 (.block 2 (.loop (.seq (.keep [2, 4, 5, 6, 7, 8, 18, 19, 39, 40, 41] (.ops false [⟨(some 41), none, .bin .lss (.t 40) (.t 39)⟩]))
 (.seq (.cond (.t 41) .skip
 (.exit 2))
 (.seq (.block 3 (.seq (.keep [2, 4, 5, 6, 7, 8, 9, 18, 19, 39, 40] (.ops false [⟨(some 42), none, .mov (.t 40)⟩,
 ⟨(some 9), none, .mov (.t 42)⟩]))
 (.keep [2, 4, 5, 6, 7, 8, 18, 19, 39, 40] (.ops false [⟨(some 43), none, .mov (.t 8)⟩,
 ⟨(some 44), none, .mov (.t 5)⟩,
 ⟨(some 45), none, .fldA 0 1 false (.t 2)⟩,
 ⟨(some 46), none, .load 1 false (.t 45)⟩,
 ⟨(some 47), none, .mov (.t 7)⟩,
 ⟨(some 48), none, .idxA 1 (.t 46) (.t 47)⟩,
 ⟨(some 49), none, .load 1 false (.t 48)⟩,
 ⟨(some 50), none, .mov (.t 9)⟩,
 ⟨(some 51), none, .idxA 2 (.t 49) (.t 50)⟩,
 ⟨(some 52), none, .load 2 true (.t 51)⟩,
 ⟨(some 53), none, .callGV (.t 44) [(.t 52)]⟩,
 ⟨(some 54), none, .new (.bsl 2) [(.t 53)]⟩,
 ⟨(some 55), none, .eff (.app 2 32) [(.t 43), (.t 54)]⟩,
 ⟨(some 8), none, .mov (.t 55)⟩]))))
 (.keep [2, 4, 5, 6, 7, 8, 18, 19, 39, 40] (.ops false [⟨(some 56), none, .bin .add (.t 40) (.c (.int .i64 1))⟩,
 ⟨(some 40), none, .mov (.t 56)⟩]))))))))
 (.seq (.keep [2, 4, 5, 6, 8, 18, 19] (.ops true [⟨(some 57), none, .mov (.t 8)⟩,
 ⟨(some 58), none, .mov (.t 7)⟩,
 ⟨(some 59), none, .mov (.t 8)⟩,
 ⟨(some 60), none, .mov (.t 7)⟩,
 ⟨(some 61), none, .idxA 2 (.t 59) (.t 60)⟩,
 ⟨(some 62), none, .load 2 true (.t 61)⟩,
 ⟨(some 63), none, .fldA 0 1 false (.t 2)⟩,
 ⟨(some 64), none, .load 1 false (.t 63)⟩,
 ⟨(some 65), none, .len false (.t 64)⟩,
 ⟨(some 66), none, .call n_long_Of [(.t 65)]⟩,
 ⟨(some 67), none, .call n_long_Int_Sub [(.t 62), (.t 66)]⟩,
 ⟨(some 68), none, .idxA 2 (.t 57) (.t 58)⟩,
 ⟨none, none, .store 2 (.t 68) (.t 67)⟩]))
 (.gh (.keep [2, 4, 5, 6, 18, 19] (.ops false [⟨(some 69), none, .fldA 0 1 false (.t 6)⟩,
 ⟨(some 70), none, .load 1 false (.t 69)⟩,
 ⟨(some 71), none, .mov (.t 8)⟩,
 ⟨(some 72), none, .new (.bsl 1) [(.t 71)]⟩,
 ⟨(some 73), none, .eff (.app 1 24) [(.t 70), (.t 72)]⟩,
 ⟨(some 74), none, .fldA 0 1 false (.t 6)⟩,
 ⟨none, none, .store 1 (.t 74) (.t 73)⟩])))))))))
 (.keep [2, 4, 5, 6, 18, 19] (.ops false [⟨(some 75), none, .bin .add (.t 19) (.c (.int .i64 1))⟩,
 ⟨(some 19), none, .mov (.t 75)⟩]))))))))
 (.seq (.seq (.keep [4, 6, 79] (.ops false [⟨(some 76), none, .fldA 0 1 false (.t 6)⟩,
 ⟨(some 77), none, .load 1 false (.t 76)⟩,
 ⟨(some 78), none, .callG n_lin_Mat_Definite [(.t 77)]⟩,
 ⟨(some 79), none, .un .not (.t 78)⟩]))
 (.cond (.t 79) (.seq (.keep [4] (.ops false [⟨(some 80), none, .load 4 true (.t 6)⟩,
 ⟨(some 81), none, .build [(.bool false), (.sl [])] []⟩,
 ⟨(some 82), none, .callG n_marg_scaled [(.t 80), (.t 81)]⟩,
 ⟨none, none, .store 4 (.t 4) (.t 82)⟩]))
 .ret)
 .skip))
 (.seq (.keep [4] (.ops false [⟨(some 83), none, .load 4 true (.t 6)⟩,
 ⟨none, none, .store 4 (.t 4) (.t 83)⟩]))
 .ret))))))
def marg_rounded.res : List RX := [(4, some (4, true))]
theorem marg_rounded.m : mK pg Try.f34.ntmps marg_rounded.k (Try.f34.body.getD .skip) = true := by kernel_rfl
theorem marg_rounded.mr : mRes pg Try.f34.results.toList marg_rounded.res = true := by kernel_rfl
theorem marg_rounded.of {args : List V} {r : V} (hn : args.length = 2) (hW : W pg marg_rounded.k (done marg_rounded.res r) (start args)) : Ret pg n_marg_rounded args r :=
 Ret_of (fn := Try.f34) Try.func34 rfl (by kernel_rfl) marg_rounded.m marg_rounded.mr (by rw [hn]; exact of_decide_eq_true (by kernel_rfl)) hW
def marg_touches.k : K :=
 (.seq (.keep [1, 2] (.ops false [⟨(some 2), none, .boxP (.t 0)⟩,
 ⟨(some 4), none, .mov (.c (.bool false))⟩]))
 (.seq (.keep [4] (.ops false [⟨(some 5), none, .fldA 0 1 false (.t 2)⟩,
 ⟨(some 6), none, .load 1 false (.t 5)⟩,
 ⟨(some 7), none, .mov (.t 1)⟩,
 ⟨(some 8), none, .red (.slc 1 false true false) [(.t 6), (.t 7)]⟩,
 ⟨(some 9), none, .callG n_slices_ContainsFunc_Lint64_int64 [(.t 8), (.c (.fn n_marg_touches_1 []))]⟩,
 ⟨(some 4), none, .mov (.t 9)⟩]))
 .ret))
def marg_touches.res : List RX := [(4, none)]
theorem marg_touches.m : mK pg Try.f35.ntmps marg_touches.k (Try.f35.body.getD .skip) = true := by kernel_rfl
theorem marg_touches.mr : mRes pg Try.f35.results.toList marg_touches.res = true := by kernel_rfl
theorem marg_touches.of {args : List V} {r : V} (hn : args.length = 2) (hW : W pg marg_touches.k (done marg_touches.res r) (start args)) : Ret pg n_marg_touches args r :=
 Ret_of (fn := Try.f35) Try.func35 rfl (by kernel_rfl) marg_touches.m marg_touches.mr (by rw [hn]; exact of_decide_eq_true (by kernel_rfl)) hW
def marg_scaled.k : K :=
 (.seq (.keep [2, 3, 4] (.ops false [⟨(some 2), none, .boxP (.t 0)⟩,
 ⟨(some 3), none, .boxP (.t 1)⟩,
 ⟨(some 4), none, .alloc 4 (.agg [.nil, .nil, (.bool false), (.sl [])])⟩]))
 (.seq (.keep [2, 3, 4, 5] (.ops false [⟨(some 10), none, .fldA 2 2 true (.t 2)⟩,
 ⟨(some 11), none, .load 2 true (.t 10)⟩,
 ⟨(some 12), none, .load 2 true (.t 3)⟩,
 ⟨(some 13), none, .callG n_long_Int_Mul [(.t 11), (.t 12)]⟩,
 ⟨(some 14), none, .build [.nil, .nil, (.bool false), (.sl [])] [(2, 2, (.t 13))]⟩,
 ⟨(some 5), none, .alloc 4 (.agg [.nil, .nil, (.bool false), (.sl [])])⟩,
 ⟨none, none, .store 4 (.t 5) (.t 14)⟩]))
 (.seq (.seq (.keep [2, 3, 4, 5, 17, 18] (.ops false [⟨(some 15), none, .fldA 0 1 false (.t 2)⟩,
 ⟨(some 16), none, .load 1 false (.t 15)⟩,
 ⟨(some 17), none, .len false (.t 16)⟩,
 ⟨(some 18), none, .mov (.c (.int .i64 0))⟩]))
 (.block 0 (.loop (.seq (.keep [2, 3, 4, 5, 17, 18, 19] (.ops false [⟨(some 19), none, .bin .lss (.t 18) (.t 17)⟩]))
 (.seq (.cond (.t 19) .skip
 (.exit 0))
 (.seq (.block 1 (.seq (.keep [2, 3, 4, 5, 6, 17, 18] (.ops false [⟨(some 20), none, .mov (.t 18)⟩,
 ⟨(some 6), none, .mov (.t 20)⟩]))
 (.seq (.keep [2, 3, 4, 5, 6, 17, 18] (.ops true [⟨(some 21), none, .fldA 1 1 false (.t 5)⟩,
 ⟨(some 22), none, .load 1 false (.t 21)⟩,
 ⟨(some 23), none, .fldA 1 1 false (.t 2)⟩,
 ⟨(some 24), none, .load 1 false (.t 23)⟩,
 ⟨(some 25), none, .mov (.t 6)⟩,
 ⟨(some 26), none, .idxA 2 (.t 24) (.t 25)⟩,
 ⟨(some 27), none, .load 2 true (.t 26)⟩,
 ⟨(some 28), none, .load 2 true (.t 3)⟩,
 ⟨(some 29), none, .call n_long_Int_Mul [(.t 27), (.t 28)]⟩,
 ⟨(some 30), none, .new (.bsl 2) [(.t 29)]⟩,
 ⟨(some 31), none, .eff (.app 2 32) [(.t 22), (.t 30)]⟩,
 ⟨(some 32), none, .fldA 1 1 false (.t 5)⟩,
 ⟨none, none, .store 1 (.t 32) (.t 31)⟩]))
 (.seq (.keep [2, 3, 4, 5, 6, 7, 17, 18] (.ops false [⟨(some 7), none, .mov (.c .nil)⟩]))
 (.seq (.seq (.keep [2, 3, 4, 5, 7, 17, 18, 37, 38, 39] (.ops false [⟨(some 33), none, .fldA 0 1 false (.t 2)⟩,
 ⟨(some 34), none, .load 1 false (.t 33)⟩,
 ⟨(some 35), none, .mov (.t 6)⟩,
 ⟨(some 36), none, .idxA 1 (.t 34) (.t 35)⟩,
 ⟨(some 37), none, .load 1 false (.t 36)⟩,
 ⟨(some 38), none, .len false (.t 37)⟩,
 ⟨(some 39), none, .mov (.c (.int .i64 0))⟩]))
 (.block 2 (.loop (.seq (.keep [2, 3, 4, 5, 7, 17, 18, 37, 38, 39, 40] (.ops false [⟨(some 40), none, .bin .lss (.t 39) (.t 38)⟩]))
 (.seq (.cond (.t 40) .skip
 (.exit 2))
 (.seq (.block 3 (.seq (.keep [2, 3, 4, 5, 7, 9, 17, 18, 37, 38, 39] (.ops false [⟨(some 41), none, .idxA 2 (.t 37) (.t 39)⟩,
 ⟨(some 42), none, .load 2 true (.t 41)⟩,
 ⟨(some 9), none, .alloc 2 (.agg [(.bool false), (.sl [])])⟩,
 ⟨none, none, .store 2 (.t 9) (.t 42)⟩]))
 (.keep [2, 3, 4, 5, 7, 17, 18, 37, 38, 39] (.ops false [⟨(some 43), none, .mov (.t 7)⟩,
 ⟨(some 44), none, .load 2 true (.t 9)⟩,
 ⟨(some 45), none, .load 2 true (.t 3)⟩,
 ⟨(some 46), none, .callG n_long_Int_Mul [(.t 44), (.t 45)]⟩,
 ⟨(some 47), none, .new (.bsl 2) [(.t 46)]⟩,
 ⟨(some 48), none, .eff (.app 2 32) [(.t 43), (.t 47)]⟩,
 ⟨(some 7), none, .mov (.t 48)⟩]))))
 (.keep [2, 3, 4, 5, 7, 17, 18, 37, 38, 39] (.ops false [⟨(some 49), none, .bin .add (.t 39) (.c (.int .i64 1))⟩,
 ⟨(some 39), none, .mov (.t 49)⟩]))))))))
 (.gh (.keep [2, 3, 4, 5, 17, 18] (.ops false [⟨(some 50), none, .fldA 0 1 false (.t 5)⟩,
 ⟨(some 51), none, .load 1 false (.t 50)⟩,
 ⟨(some 52), none, .mov (.t 7)⟩,
 ⟨(some 53), none, .new (.bsl 1) [(.t 52)]⟩,
 ⟨(some 54), none, .eff (.app 1 24) [(.t 51), (.t 53)]⟩,
 ⟨(some 55), none, .fldA 0 1 false (.t 5)⟩,
 ⟨none, none, .store 1 (.t 55) (.t 54)⟩]))))))))
 (.keep [2, 3, 4, 5, 17, 18] (.ops false [⟨(some 56), none, .bin .add (.t 18) (.c (.int .i64 1))⟩,
 ⟨(some 18), none, .mov (.t 56)⟩]))))))))
 (.seq (.keep [4] (.ops false [⟨(some 57), none, .load 4 true (.t 5)⟩,
 ⟨none, none, .store 4 (.t 4) (.t 57)⟩]))
 .ret))))
def marg_scaled.res : List RX := [(4, some (4, true))]
theorem marg_scaled.m : mK pg Try.f38.ntmps marg_scaled.k (Try.f38.body.getD .skip) = true := by kernel_rfl
theorem marg_scaled.mr : mRes pg Try.f38.results.toList marg_scaled.res = true := by kernel_rfl
theorem marg_scaled.of {args : List V} {r : V} (hn : args.length = 2) (hW : W pg marg_scaled.k (done marg_scaled.res r) (start args)) : Ret pg n_marg_scaled args r :=
 Ret_of (fn := Try.f38) Try.func38 rfl (by kernel_rfl) marg_scaled.m marg_scaled.mr (by rw [hn]; exact of_decide_eq_true (by kernel_rfl)) hW
def marg_square.k : K :=
 (.seq (.keep [1, 2] (.ops false [⟨(some 1), none, .boxP (.t 0)⟩,
 ⟨(some 2), none, .alloc 4 (.agg [.nil, .nil, (.bool false), (.sl [])])⟩]))
 (.seq (.keep [1, 2, 3] (.ops true [⟨(some 9), none, .fldA 1 1 false (.t 1)⟩,
 ⟨(some 10), none, .load 1 false (.t 9)⟩,
 ⟨(some 11), none, .call n_long_Of [(.t 10)]⟩,
 ⟨(some 12), none, .fldA 1 1 false (.t 1)⟩,
 ⟨(some 13), none, .load 1 false (.t 12)⟩,
 ⟨(some 14), none, .call n_long_Of [(.t 13)]⟩,
 ⟨(some 15), none, .call n_long_Int_Mul [(.t 11), (.t 14)]⟩,
 ⟨(some 16), none, .build [.nil, .nil, (.bool false), (.sl [])] [(2, 2, (.t 15))]⟩,
 ⟨(some 3), none, .alloc 4 (.agg [.nil, .nil, (.bool false), (.sl [])])⟩,
 ⟨none, none, .store 4 (.t 3) (.t 16)⟩]))
 (.seq (.seq (.keep [1, 2, 3, 18, 19, 20] (.ops false [⟨(some 17), none, .fldA 0 1 false (.t 1)⟩,
 ⟨(some 18), none, .load 1 false (.t 17)⟩,
 ⟨(some 19), none, .len false (.t 18)⟩,
 ⟨(some 20), none, .mov (.c (.int .i64 0))⟩]))
 (.block 0 (.loop (.seq (.keep [1, 2, 3, 18, 19, 20, 21] (.ops false [⟨(some 21), none, .bin .lss (.t 20) (.t 19)⟩]))
 (.seq (.cond (.t 21) .skip
 (.exit 0))
 (.seq (.block 1 (.seq (.keep [1, 2, 3, 5, 18, 19, 20] (.ops false [⟨(some 22), none, .idxA 1 (.t 18) (.t 20)⟩,
 ⟨(some 23), none, .load 1 false (.t 22)⟩,
 ⟨(some 5), none, .mov (.t 23)⟩]))
 (.seq (.keep [1, 2, 3, 5, 18, 19, 20] (.ops true [⟨(some 24), none, .fldA 1 1 false (.t 3)⟩,
 ⟨(some 25), none, .load 1 false (.t 24)⟩,
 ⟨(some 26), none, .mov (.t 5)⟩,
 ⟨(some 27), none, .call n_long_Of [(.t 26)]⟩,
 ⟨(some 28), none, .fldA 1 1 false (.t 1)⟩,
 ⟨(some 29), none, .load 1 false (.t 28)⟩,
 ⟨(some 30), none, .call n_long_Of [(.t 29)]⟩,
 ⟨(some 31), none, .call n_long_Int_Mul [(.t 27), (.t 30)]⟩,
 ⟨(some 32), none, .new (.bsl 2) [(.t 31)]⟩,
 ⟨(some 33), none, .eff (.app 2 32) [(.t 25), (.t 32)]⟩,
 ⟨(some 34), none, .fldA 1 1 false (.t 3)⟩,
 ⟨none, none, .store 1 (.t 34) (.t 33)⟩]))
 (.seq (.keep [1, 2, 3, 5, 6, 18, 19, 20] (.ops false [⟨(some 6), none, .mov (.c .nil)⟩]))
 (.seq (.seq (.keep [1, 2, 3, 5, 6, 18, 19, 20, 36, 37, 38] (.ops false [⟨(some 35), none, .fldA 0 1 false (.t 1)⟩,
 ⟨(some 36), none, .load 1 false (.t 35)⟩,
 ⟨(some 37), none, .len false (.t 36)⟩,
 ⟨(some 38), none, .mov (.c (.int .i64 0))⟩]))
 (.block 2 (.loop (.seq (.keep [1, 2, 3, 5, 6, 18, 19, 20, 36, 37, 38, 39] (.ops false [⟨(some 39), none, .bin .lss (.t 38) (.t 37)⟩]))
 (.seq (.cond (.t 39) .skip
 (.exit 2))
 (.seq (.block 3 (.seq (.keep [1, 2, 3, 5, 6, 8, 18, 19, 20, 36, 37, 38] (.ops false [⟨(some 40), none, .idxA 1 (.t 36) (.t 38)⟩,
 ⟨(some 41), none, .load 1 false (.t 40)⟩,
 ⟨(some 8), none, .mov (.t 41)⟩]))
 (.keep [1, 2, 3, 5, 6, 18, 19, 20, 36, 37, 38] (.ops false [⟨(some 42), none, .mov (.t 6)⟩,
 ⟨(some 43), none, .mov (.t 5)⟩,
 ⟨(some 44), none, .mov (.t 8)⟩,
 ⟨(some 45), none, .bin .mul (.t 43) (.t 44)⟩,
 ⟨(some 46), none, .callG n_long_Of [(.t 45)]⟩,
 ⟨(some 47), none, .new (.bsl 2) [(.t 46)]⟩,
 ⟨(some 48), none, .eff (.app 2 32) [(.t 42), (.t 47)]⟩,
 ⟨(some 6), none, .mov (.t 48)⟩]))))
 (.keep [1, 2, 3, 5, 6, 18, 19, 20, 36, 37, 38] (.ops false [⟨(some 49), none, .bin .add (.t 38) (.c (.int .i64 1))⟩,
 ⟨(some 38), none, .mov (.t 49)⟩]))))))))
 (.gh (.keep [1, 2, 3, 18, 19, 20] (.ops false [⟨(some 50), none, .fldA 0 1 false (.t 3)⟩,
 ⟨(some 51), none, .load 1 false (.t 50)⟩,
 ⟨(some 52), none, .mov (.t 6)⟩,
 ⟨(some 53), none, .new (.bsl 1) [(.t 52)]⟩,
 ⟨(some 54), none, .eff (.app 1 24) [(.t 51), (.t 53)]⟩,
 ⟨(some 55), none, .fldA 0 1 false (.t 3)⟩,
 ⟨none, none, .store 1 (.t 55) (.t 54)⟩]))))))))
 (.keep [1, 2, 3, 18, 19, 20] (.ops false [⟨(some 56), none, .bin .add (.t 20) (.c (.int .i64 1))⟩,
 ⟨(some 20), none, .mov (.t 56)⟩]))))))))
 (.seq (.keep [2] (.ops false [⟨(some 57), none, .load 4 true (.t 3)⟩,
 ⟨none, none, .store 4 (.t 2) (.t 57)⟩]))
 .ret))))
def marg_square.res : List RX := [(2, some (4, true))]
theorem marg_square.m : mK pg Try.f40.ntmps marg_square.k (Try.f40.body.getD .skip) = true := by kernel_rfl
theorem marg_square.mr : mRes pg Try.f40.results.toList marg_square.res = true := by kernel_rfl
theorem marg_square.of {args : List V} {r : V} (hn : args.length = 1) (hW : W pg marg_square.k (done marg_square.res r) (start args)) : Ret pg n_marg_square args r :=
 Ret_of (fn := Try.f40) Try.func40 rfl (by kernel_rfl) marg_square.m marg_square.mr (by rw [hn]; exact of_decide_eq_true (by kernel_rfl)) hW
def marg_rounded_1.k : K :=
 (.seq (.keep [1, 2, 3] (.ops false [⟨(some 2), none, .boxP (.t 0)⟩,
 ⟨(some 3), none, .alloc 2 (.agg [(.bool false), (.sl [])])⟩]))
 (.seq (.keep [3, 4] (.ops true [⟨(some 8), none, .load 2 true (.t 2)⟩,
 ⟨(some 9), none, .call n_long_Of [(.c (.int .i64 1024))]⟩,
 ⟨(some 10), none, .call n_long_Int_Mul [(.t 8), (.t 9)]⟩,
 ⟨(some 11), none, .load 2 true (.t 1)⟩,
 ⟨(some 12), none, .call n_long_Int_Quo [(.t 10), (.t 11)]⟩,
 ⟨(some 7), none, .mov (.t 12)⟩,
 ⟨(some 13), none, .ext (.t 7) 0⟩,
 ⟨(some 14), none, .ext (.t 7) 1⟩,
 ⟨(some 15), none, .ext (.t 7) 2⟩,
 ⟨(some 4), none, .alloc 2 (.agg [(.bool false), (.sl [])])⟩,
 ⟨(some 5), none, .alloc 2 (.agg [(.bool false), (.sl [])])⟩,
 ⟨none, none, .store 2 (.t 4) (.t 13)⟩,
 ⟨none, none, .store 2 (.t 5) (.t 14)⟩,
 ⟨(some 6), none, .mov (.t 15)⟩]))
 (.seq (.keep [3] (.ops false [⟨(some 16), none, .load 2 true (.t 4)⟩,
 ⟨none, none, .store 2 (.t 3) (.t 16)⟩]))
 .ret)))
def marg_rounded_1.res : List RX := [(3, some (2, true))]
theorem marg_rounded_1.m : mK pg Try.f69.ntmps marg_rounded_1.k (Try.f69.body.getD .skip) = true := by kernel_rfl
theorem marg_rounded_1.mr : mRes pg Try.f69.results.toList marg_rounded_1.res = true := by kernel_rfl
theorem marg_rounded_1.of {args : List V} {r : V} (hn : args.length = 2) (hW : W pg marg_rounded_1.k (done marg_rounded_1.res r) (start args)) : Ret pg n_marg_rounded_1 args r :=
 Ret_of (fn := Try.f69) Try.func69 rfl (by kernel_rfl) marg_rounded_1.m marg_rounded_1.mr (by rw [hn]; exact of_decide_eq_true (by kernel_rfl)) hW
def marg_touches_1.k : K :=
 (.seq (.keep [0] (.ops false [⟨(some 2), none, .mov (.c (.bool false))⟩]))
 (.seq (.keep [2] (.ops false [⟨(some 3), none, .mov (.t 0)⟩,
 ⟨(some 4), none, .bin .neq (.t 3) (.c (.int .i64 0))⟩,
 ⟨(some 2), none, .mov (.t 4)⟩]))
 .ret))
def marg_touches_1.res : List RX := [(2, none)]
theorem marg_touches_1.m : mK pg Try.f72.ntmps marg_touches_1.k (Try.f72.body.getD .skip) = true := by kernel_rfl
theorem marg_touches_1.mr : mRes pg Try.f72.results.toList marg_touches_1.res = true := by kernel_rfl
theorem marg_touches_1.of {args : List V} {r : V} (hn : args.length = 1) (hW : W pg marg_touches_1.k (done marg_touches_1.res r) (start args)) : Ret pg n_marg_touches_1 args r :=
 Ret_of (fn := Try.f72) Try.func72 rfl (by kernel_rfl) marg_touches_1.m marg_touches_1.mr (by rw [hn]; exact of_decide_eq_true (by kernel_rfl)) hW
end Go.Gim

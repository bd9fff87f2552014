import Derived.Test.YtjkjpjneeioeiaaGN
/- Functions' code as data (written by wip/tools/gen.py), and the step to their contracts. -/
set_option maxRecDepth 100000
namespace Go.Gim
open Go.Proofs
def graph_New.k : K :=
 (.seq (.keep [1, 2, 4] (.ops false [⟨(some 2), none, .boxP (.t 0)⟩,
 ⟨(some 4), none, .alloc 8 (.agg [(.int .i64 0), .nil, .nil, .nil, (.bool false), (.sl []), (.bool false), (.sl [])])⟩,
 ⟨(some 5), none, .mov (.c (.int .i64 0))⟩]))
 (.seq (.block 0 (.seq (.keep [1, 2, 4, 7] (.ops false [⟨(some 8), none, .load 1 false (.t 2)⟩,
 ⟨(some 9), none, .bin .lss (.t 8) (.c (.int .i64 1))⟩,
 ⟨(some 10), none, .mov (.t 9)⟩,
 ⟨(some 11), (some (10, false)), .load 1 false (.t 2)⟩,
 ⟨(some 12), (some (10, false)), .bin .gtr (.t 11) (.c (.int .i64 11))⟩,
 ⟨(some 13), none, .pick (.t 10) (.c (.bool true)) (.t 12)⟩,
 ⟨(some 7), none, .mov (.t 13)⟩]))
 (.cond (.t 7) (.seq (.keep [4, 5] (.ops false [⟨(some 14), none, .build [(.int .i64 0), .nil, .nil, .nil, (.bool false), (.sl []), (.bool false), (.sl [])] []⟩,
 ⟨none, none, .store 8 (.t 4) (.t 14)⟩,
 ⟨(some 5), none, .mov (.c (.int .i64 1))⟩]))
 .ret)
 (.seq (.keep [1, 2, 4, 15] (.ops false [⟨(some 16), none, .mov (.t 1)⟩,
 ⟨(some 17), none, .len false (.t 16)⟩,
 ⟨(some 18), none, .bin .gtr (.t 17) (.c (.int .i64 60))⟩,
 ⟨(some 15), none, .mov (.t 18)⟩]))
 (.cond (.t 15) (.seq (.keep [4, 5] (.ops false [⟨(some 19), none, .build [(.int .i64 0), .nil, .nil, .nil, (.bool false), (.sl []), (.bool false), (.sl [])] []⟩,
 ⟨none, none, .store 8 (.t 4) (.t 19)⟩,
 ⟨(some 5), none, .mov (.c (.int .i64 3))⟩]))
 .ret)
 (.seq (.keep [1, 2, 4, 20] (.ops false [⟨(some 21), none, .mov (.t 1)⟩,
 ⟨(some 22), none, .mkFn n_graph_New_1 [(.t 2)]⟩,
 ⟨(some 23), none, .callG n_slices_ContainsFunc_Lapi_Row_api_Row [(.t 21), (.t 22)]⟩,
 ⟨(some 20), none, .mov (.t 23)⟩]))
 (.cond (.t 20) (.seq (.keep [4, 5] (.ops false [⟨(some 24), none, .build [(.int .i64 0), .nil, .nil, .nil, (.bool false), (.sl []), (.bool false), (.sl [])] []⟩,
 ⟨none, none, .store 8 (.t 4) (.t 24)⟩,
 ⟨(some 5), none, .mov (.c (.int .i64 160))⟩]))
 .ret)
 .skip)))))))
 (.seq (.keep [2, 4, 6] (.ops true [⟨(some 25), none, .load 1 false (.t 2)⟩,
 ⟨(some 26), none, .mov (.t 1)⟩,
 ⟨(some 27), none, .call n_long_Of [(.c (.int .i64 1))]⟩,
 ⟨(some 28), none, .build [(.int .i64 0), .nil, .nil, .nil, (.bool false), (.sl []), (.bool false), (.sl [])] [(0, 1, (.t 25)), (1, 1, (.t 26)), (6, 2, (.t 27))]⟩,
 ⟨(some 6), none, .alloc 8 (.agg [(.int .i64 0), .nil, .nil, .nil, (.bool false), (.sl []), (.bool false), (.sl [])])⟩,
 ⟨none, none, .store 8 (.t 6) (.t 28)⟩]))
 (.seq (.keep [4, 6] (.ops false [⟨(some 29), none, .load 1 false (.t 2)⟩,
 ⟨(some 30), none, .new (.mks 2 32 (.agg [(.bool false), (.sl [])])) [(.t 29), (.t 29)]⟩,
 ⟨(some 31), none, .fldA 2 4 true (.t 6)⟩,
 ⟨(some 32), none, .fldA 1 1 false (.t 31)⟩,
 ⟨none, none, .store 1 (.t 32) (.t 30)⟩]))
 (.seq (.keep [4, 6] (.ops false [⟨(some 33), none, .load 8 true (.t 6)⟩,
 ⟨(some 34), none, .callG n_graph_Graph_made [(.t 33), (.c (.fn n_graph_New_2 []))]⟩,
 ⟨(some 35), none, .fldA 2 4 true (.t 6)⟩,
 ⟨(some 36), none, .fldA 0 1 false (.t 35)⟩,
 ⟨none, none, .store 1 (.t 36) (.t 34)⟩]))
 (.seq (.keep [4, 5] (.ops false [⟨(some 37), none, .load 8 true (.t 6)⟩,
 ⟨none, none, .store 8 (.t 4) (.t 37)⟩,
 ⟨(some 5), none, .mov (.c (.int .i64 0))⟩]))
 .ret))))))
def graph_New.res : List RX := [(4, some (8, true)), (5, none)]
theorem graph_New.m : mK pg Try.f24.ntmps graph_New.k (Try.f24.body.getD .skip) = true := by kernel_rfl
theorem graph_New.mr : mRes pg Try.f24.results.toList graph_New.res = true := by kernel_rfl
theorem graph_New.of {args : List V} {r : V} (hn : args.length = 2) (hW : W pg graph_New.k (done graph_New.res r) (start args)) : Ret pg n_graph_New args r :=
 Ret_of (fn := Try.f24) Try.func24 rfl (by kernel_rfl) graph_New.m graph_New.mr (by rw [hn]; exact of_decide_eq_true (by kernel_rfl)) hW
def graph_New_1.k : K :=
 (.seq (.keep [1, 2] (.ops false [⟨(some 2), none, .boxP (.t 0)⟩,
 ⟨(some 3), none, .mov (.c (.bool false))⟩]))
 (.seq (.keep [3] (.ops false [⟨(some 4), none, .load 4 true (.t 2)⟩,
 ⟨(some 5), none, .load 1 false (.t 1)⟩,
 ⟨(some 6), none, .callG n_factor_Right [(.t 4), (.t 5)]⟩,
 ⟨(some 7), none, .un .not (.t 6)⟩,
 ⟨(some 3), none, .mov (.t 7)⟩]))
 .ret))
def graph_New_1.res : List RX := [(3, none)]
theorem graph_New_1.m : mK pg Try.f60.ntmps graph_New_1.k (Try.f60.body.getD .skip) = true := by kernel_rfl
theorem graph_New_1.mr : mRes pg Try.f60.results.toList graph_New_1.res = true := by kernel_rfl
theorem graph_New_1.of {args : List V} {r : V} (hn : args.length = 2) (hW : W pg graph_New_1.k (done graph_New_1.res r) (start args)) : Ret pg n_graph_New_1 args r :=
 Ret_of (fn := Try.f60) Try.func60 rfl (by kernel_rfl) graph_New_1.m graph_New_1.mr (by rw [hn]; exact of_decide_eq_true (by kernel_rfl)) hW
def graph_New_2.k : K :=
 (.seq (.keep [4] (.ops false [⟨(some 4), none, .alloc 2 (.agg [(.bool false), (.sl [])])⟩]))
 (.seq (.keep [4] (.ops false [⟨(some 5), none, .build [(.bool false), (.sl [])] []⟩,
 ⟨none, none, .store 2 (.t 4) (.t 5)⟩]))
 .ret))
def graph_New_2.res : List RX := [(4, some (2, true))]
theorem graph_New_2.m : mK pg Try.f63.ntmps graph_New_2.k (Try.f63.body.getD .skip) = true := by kernel_rfl
theorem graph_New_2.mr : mRes pg Try.f63.results.toList graph_New_2.res = true := by kernel_rfl
theorem graph_New_2.of {args : List V} {r : V} (hn : args.length = 2) (hW : W pg graph_New_2.k (done graph_New_2.res r) (start args)) : Ret pg n_graph_New_2 args r :=
 Ret_of (fn := Try.f63) Try.func63 rfl (by kernel_rfl) graph_New_2.m graph_New_2.mr (by rw [hn]; exact of_decide_eq_true (by kernel_rfl)) hW
def graph_Graph_With.k : K :=
 (.seq (.keep [3, 4, 5, 6] (.ops false [⟨(some 3), none, .eff (.boxO 8) [(.t 0)]⟩,
 ⟨(some 4), none, .boxP (.t 1)⟩,
 ⟨(some 5), none, .boxP (.t 2)⟩,
 ⟨(some 6), none, .alloc 8 (.agg [(.int .i64 0), .nil, .nil, .nil, (.bool false), (.sl []), (.bool false), (.sl [])])⟩,
 ⟨(some 7), none, .mov (.c (.int .i64 0))⟩]))
 (.seq (.seq (.keep [3, 4, 5, 6, 26] (.ops false [⟨(some 8), none, .fldA 0 1 false (.t 4)⟩,
 ⟨(some 9), none, .load 1 false (.t 8)⟩,
 ⟨(some 10), none, .len false (.t 9)⟩,
 ⟨(some 11), none, .fldA 0 1 false (.t 3)⟩,
 ⟨(some 12), none, .load 1 false (.t 11)⟩,
 ⟨(some 13), none, .bin .neq (.t 10) (.t 12)⟩,
 ⟨(some 14), none, .mov (.t 13)⟩,
 ⟨(some 15), (some (14, false)), .fldA 1 1 false (.t 4)⟩,
 ⟨(some 16), (some (14, false)), .load 1 false (.t 15)⟩,
 ⟨(some 17), (some (14, false)), .len false (.t 16)⟩,
 ⟨(some 18), (some (14, false)), .fldA 0 1 false (.t 3)⟩,
 ⟨(some 19), (some (14, false)), .load 1 false (.t 18)⟩,
 ⟨(some 20), (some (14, false)), .bin .neq (.t 17) (.t 19)⟩,
 ⟨(some 21), none, .pick (.t 14) (.c (.bool true)) (.t 20)⟩,
 ⟨(some 22), none, .mov (.t 21)⟩,
 ⟨(some 23), (some (22, false)), .load 2 true (.t 5)⟩,
 ⟨(some 24), (some (22, false)), .callG n_long_Int_Sign [(.t 23)]⟩,
 ⟨(some 25), (some (22, false)), .bin .leq (.t 24) (.c (.int .i64 0))⟩,
 ⟨(some 26), none, .pick (.t 22) (.c (.bool true)) (.t 25)⟩]))
 (.cond (.t 26) (.seq (.keep [6, 7] (.ops false [⟨(some 27), none, .build [(.int .i64 0), .nil, .nil, .nil, (.bool false), (.sl []), (.bool false), (.sl [])] []⟩,
 ⟨none, none, .store 8 (.t 6) (.t 27)⟩,
 ⟨(some 7), none, .mov (.c (.int .i64 1))⟩]))
 .ret)
 .skip))
 (.seq (.keep [3, 6] (.ops true [⟨(some 28), none, .red (.ldP 4 true) [(.t 4)]⟩,
 ⟨(some 29), none, .red (.ldP 2 true) [(.t 5)]⟩,
 ⟨(some 30), none, .fldA 2 4 true (.t 3)⟩,
 ⟨none, none, .store 4 (.t 30) (.t 28)⟩,
 ⟨(some 31), none, .fldA 6 2 true (.t 3)⟩,
 ⟨none, none, .store 2 (.t 31) (.t 29)⟩]))
 (.seq (.keep [6, 7] (.ops false [⟨(some 32), none, .load 8 true (.t 3)⟩,
 ⟨none, none, .store 8 (.t 6) (.t 32)⟩,
 ⟨(some 7), none, .mov (.c (.int .i64 0))⟩]))
 .ret))))
def graph_Graph_With.res : List RX := [(6, some (8, true)), (7, none)]
theorem graph_Graph_With.m : mK pg Try.f29.ntmps graph_Graph_With.k (Try.f29.body.getD .skip) = true := by kernel_rfl
theorem graph_Graph_With.mr : mRes pg Try.f29.results.toList graph_Graph_With.res = true := by kernel_rfl
theorem graph_Graph_With.of {args : List V} {r : V} (hn : args.length = 3) (hW : W pg graph_Graph_With.k (done graph_Graph_With.res r) (start args)) : Ret pg n_graph_Graph_With args r :=
 Ret_of (fn := Try.f29) Try.func29 rfl (by kernel_rfl) graph_Graph_With.m graph_Graph_With.mr (by rw [hn]; exact of_decide_eq_true (by kernel_rfl)) hW
def graph_Graph_Share.k : K :=
 (.seq (.keep [2, 4] (.ops false [⟨(some 3), none, .boxP (.t 0)⟩,
 ⟨(some 4), none, .boxP (.t 1)⟩,
 ⟨(some 6), none, .mov (.c (.int .i64 0))⟩]))
 (.seq (.keep [4, 7] (.ops false [⟨(some 8), none, .load 4 true (.t 4)⟩,
 ⟨(some 9), none, .mov (.t 2)⟩,
 ⟨(some 10), none, .callG n_factor_Residual [(.t 8), (.t 9)]⟩,
 ⟨(some 7), none, .mov (.t 10)⟩]))
 (.seq (.keep [4, 7] (.ops false [⟨(some 11), none, .mov (.t 7)⟩,
 ⟨(some 12), none, .mov (.t 7)⟩,
 ⟨(some 13), none, .un .neg (.t 12)⟩,
 ⟨(some 14), none, .mm true (.t 11) [(.t 13)]⟩,
 ⟨(some 7), none, .mov (.t 14)⟩]))
 (.seq (.seq (.keep [4, 7, 18] (.ops false [⟨(some 15), none, .mov (.t 7)⟩,
 ⟨(some 16), none, .fldA 2 1 false (.t 4)⟩,
 ⟨(some 17), none, .load 1 false (.t 16)⟩,
 ⟨(some 18), none, .bin .leq (.t 15) (.t 17)⟩]))
 (.cond (.t 18) (.seq (.keep [6] (.ops false [⟨(some 6), none, .mov (.c (.int .i64 1024))⟩]))
 .ret)
 .skip))
 (.seq (.keep [6] (.ops false [⟨(some 19), none, .fldA 2 1 false (.t 4)⟩,
 ⟨(some 20), none, .load 1 false (.t 19)⟩,
 ⟨(some 21), none, .bin .mul (.c (.int .i64 1024)) (.t 20)⟩,
 ⟨(some 22), none, .mov (.t 7)⟩,
 ⟨(some 23), none, .bin .quo (.t 21) (.t 22)⟩,
 ⟨(some 24), none, .mm true (.c (.int .i64 1)) [(.t 23)]⟩,
 ⟨(some 6), none, .mov (.t 24)⟩]))
 .ret)))))
def graph_Graph_Share.res : List RX := [(6, none)]
theorem graph_Graph_Share.m : mK pg Try.f41.ntmps graph_Graph_Share.k (Try.f41.body.getD .skip) = true := by kernel_rfl
theorem graph_Graph_Share.mr : mRes pg Try.f41.results.toList graph_Graph_Share.res = true := by kernel_rfl
theorem graph_Graph_Share.of {args : List V} {r : V} (hn : args.length = 3) (hW : W pg graph_Graph_Share.k (done graph_Graph_Share.res r) (start args)) : Ret pg n_graph_Graph_Share args r :=
 Ret_of (fn := Try.f41) Try.func41 rfl (by kernel_rfl) graph_Graph_Share.m graph_Graph_Share.mr (by rw [hn]; exact of_decide_eq_true (by kernel_rfl)) hW
def graph_Graph_made.k : K :=
 (.seq (.keep [1, 2] (.ops false [⟨(some 2), none, .boxP (.t 0)⟩,
 ⟨(some 4), none, .mov (.c .nil)⟩]))
 (.seq (.keep [1, 2, 5] (.ops false [⟨(some 5), none, .mov (.c .nil)⟩]))
 (.seq (.seq (.keep [1, 2, 5, 10, 11] (.ops false [⟨(some 9), none, .fldA 0 1 false (.t 2)⟩,
 ⟨(some 10), none, .load 1 false (.t 9)⟩,
 ⟨(some 11), none, .mov (.c (.int .i64 0))⟩]))
 (.block 0 (.loop (.seq (.keep [1, 2, 5, 10, 11, 12] (.ops false [⟨(some 12), none, .bin .lss (.t 11) (.t 10)⟩]))
 (.seq (.cond (.t 12) .skip
 (.exit 0))
 (.seq (.block 1 (.seq (.keep [1, 2, 5, 6, 10, 11] (.ops false [⟨(some 13), none, .mov (.t 11)⟩,
 ⟨(some 6), none, .mov (.t 13)⟩]))
 (.seq (.keep [1, 2, 5, 6, 7, 10, 11] (.ops false [⟨(some 7), none, .mov (.c .nil)⟩]))
 (.seq (.seq (.keep [1, 2, 5, 6, 7, 10, 11, 15, 16] (.ops false [⟨(some 14), none, .fldA 0 1 false (.t 2)⟩,
 ⟨(some 15), none, .load 1 false (.t 14)⟩,
 ⟨(some 16), none, .mov (.c (.int .i64 0))⟩]))
 (.block 2 (.loop (.seq (.keep [1, 2, 5, 6, 7, 10, 11, 15, 16, 17] (.ops false [⟨(some 17), none, .bin .lss (.t 16) (.t 15)⟩]))
 (.seq (.cond (.t 17) .skip
 (.exit 2))
 (.seq (.block 3 (.seq (.keep [1, 2, 5, 6, 7, 8, 10, 11, 15, 16] (.ops false [⟨(some 18), none, .mov (.t 16)⟩,
 ⟨(some 8), none, .mov (.t 18)⟩]))
 (.keep [1, 2, 5, 6, 7, 10, 11, 15, 16] (.ops false [⟨(some 19), none, .mov (.t 7)⟩,
 ⟨(some 20), none, .mov (.t 1)⟩,
 ⟨(some 21), none, .mov (.t 6)⟩,
 ⟨(some 22), none, .mov (.t 8)⟩,
 ⟨(some 23), none, .callGV (.t 20) [(.t 21), (.t 22)]⟩,
 ⟨(some 24), none, .new (.bsl 2) [(.t 23)]⟩,
 ⟨(some 25), none, .eff (.app 2 32) [(.t 19), (.t 24)]⟩,
 ⟨(some 7), none, .mov (.t 25)⟩]))))
 (.keep [1, 2, 5, 6, 7, 10, 11, 15, 16] (.ops false [⟨(some 26), none, .bin .add (.t 16) (.c (.int .i64 1))⟩,
 ⟨(some 16), none, .mov (.t 26)⟩]))))))))
 (.gh (.keep [1, 2, 5, 10, 11] (.ops false [⟨(some 27), none, .mov (.t 5)⟩,
 ⟨(some 28), none, .mov (.t 7)⟩,
 ⟨(some 29), none, .new (.bsl 1) [(.t 28)]⟩,
 ⟨(some 30), none, .eff (.app 1 24) [(.t 27), (.t 29)]⟩,
 ⟨(some 5), none, .mov (.t 30)⟩])))))))
 (.keep [1, 2, 5, 10, 11] (.ops false [⟨(some 31), none, .bin .add (.t 11) (.c (.int .i64 1))⟩,
 ⟨(some 11), none, .mov (.t 31)⟩]))))))))
 (.seq (.keep [4] (.ops false [⟨(some 32), none, .mov (.t 5)⟩,
 ⟨(some 4), none, .mov (.t 32)⟩]))
 .ret))))
def graph_Graph_made.res : List RX := [(4, none)]
theorem graph_Graph_made.m : mK pg Try.f62.ntmps graph_Graph_made.k (Try.f62.body.getD .skip) = true := by kernel_rfl
theorem graph_Graph_made.mr : mRes pg Try.f62.results.toList graph_Graph_made.res = true := by kernel_rfl
theorem graph_Graph_made.of {args : List V} {r : V} (hn : args.length = 2) (hW : W pg graph_Graph_made.k (done graph_Graph_made.res r) (start args)) : Ret pg n_graph_Graph_made args r :=
 Ret_of (fn := Try.f62) Try.func62 rfl (by kernel_rfl) graph_Graph_made.m graph_Graph_made.mr (by rw [hn]; exact of_decide_eq_true (by kernel_rfl)) hW
def lin_sum.k : K :=
 (.seq (.keep [0, 1, 4] (.ops false [⟨(some 4), none, .alloc 2 (.agg [(.bool false), (.sl [])])⟩]))
 (.seq (.keep [0, 1, 4, 5] (.ops false [⟨(some 5), none, .alloc 2 (.agg [(.bool false), (.sl [])])⟩]))
 (.seq (.seq (.keep [1, 4, 5, 9, 10] (.ops false [⟨(some 9), none, .mov (.t 0)⟩,
 ⟨(some 10), none, .mov (.c (.int .i64 0))⟩]))
 (.block 0 (.loop (.seq (.keep [1, 4, 5, 9, 10, 11] (.ops false [⟨(some 11), none, .bin .lss (.t 10) (.t 9)⟩]))
 (.seq (.cond (.t 11) .skip
 (.exit 0))
 (.seq (.block 1 (.seq (.keep [1, 4, 5, 6, 9, 10] (.ops false [⟨(some 12), none, .mov (.t 10)⟩,
 ⟨(some 6), none, .mov (.t 12)⟩]))
 (.seq (.keep [1, 4, 5, 7, 8, 9, 10] (.ops false [⟨(some 14), none, .mov (.t 1)⟩,
 ⟨(some 15), none, .mov (.t 6)⟩,
 ⟨(some 16), none, .callGV (.t 14) [(.t 15)]⟩,
 ⟨(some 13), none, .mov (.t 16)⟩,
 ⟨(some 17), none, .ext (.t 13) 0⟩,
 ⟨(some 18), none, .ext (.t 13) 1⟩,
 ⟨(some 7), none, .alloc 2 (.agg [(.bool false), (.sl [])])⟩,
 ⟨(some 8), none, .alloc 2 (.agg [(.bool false), (.sl [])])⟩,
 ⟨none, none, .store 2 (.t 7) (.t 17)⟩,
 ⟨none, none, .store 2 (.t 8) (.t 18)⟩]))
 (.keep [1, 4, 5, 9, 10] (.ops true [⟨(some 19), none, .load 2 true (.t 5)⟩,
 ⟨(some 20), none, .load 2 true (.t 7)⟩,
 ⟨(some 21), none, .load 2 true (.t 8)⟩,
 ⟨(some 22), none, .call n_long_Int_Mul [(.t 20), (.t 21)]⟩,
 ⟨(some 23), none, .call n_long_Int_Add [(.t 19), (.t 22)]⟩,
 ⟨none, none, .store 2 (.t 5) (.t 23)⟩])))))
 (.keep [1, 4, 5, 9, 10] (.ops false [⟨(some 24), none, .bin .add (.t 10) (.c (.int .i64 1))⟩,
 ⟨(some 10), none, .mov (.t 24)⟩]))))))))
 (.seq (.keep [4] (.ops false [⟨(some 25), none, .load 2 true (.t 5)⟩,
 ⟨none, none, .store 2 (.t 4) (.t 25)⟩]))
 .ret))))
def lin_sum.res : List RX := [(4, some (2, true))]
theorem lin_sum.m : mK pg Try.f49.ntmps lin_sum.k (Try.f49.body.getD .skip) = true := by kernel_rfl
theorem lin_sum.mr : mRes pg Try.f49.results.toList lin_sum.res = true := by kernel_rfl
theorem lin_sum.of {args : List V} {r : V} (hn : args.length = 2) (hW : W pg lin_sum.k (done lin_sum.res r) (start args)) : Ret pg n_lin_sum args r :=
 Ret_of (fn := Try.f49) Try.func49 rfl (by kernel_rfl) lin_sum.m lin_sum.mr (by rw [hn]; exact of_decide_eq_true (by kernel_rfl)) hW
def lin_made.k : K :=
 (.seq (.keep [2, 3] (.ops false [⟨(some 2), none, .boxP (.t 0)⟩,
 ⟨(some 3), none, .boxP (.t 1)⟩,
 ⟨(some 4), none, .mov (.c .nil)⟩]))
 (.seq (.keep [4] (.ops false [⟨(some 5), none, .load 1 false (.t 2)⟩,
 ⟨(some 6), none, .mkFn n_lin_made_1 [(.t 2), (.t 3)]⟩,
 ⟨(some 7), none, .callG n_lin_list_Llong_Int [(.t 5), (.t 6)]⟩,
 ⟨(some 4), none, .mov (.t 7)⟩]))
 .ret))
def lin_made.res : List RX := [(4, none)]
theorem lin_made.m : mK pg Try.f52.ntmps lin_made.k (Try.f52.body.getD .skip) = true := by kernel_rfl
theorem lin_made.mr : mRes pg Try.f52.results.toList lin_made.res = true := by kernel_rfl
theorem lin_made.of {args : List V} {r : V} (hn : args.length = 2) (hW : W pg lin_made.k (done lin_made.res r) (start args)) : Ret pg n_lin_made args r :=
 Ret_of (fn := Try.f52) Try.func52 rfl (by kernel_rfl) lin_made.m lin_made.mr (by rw [hn]; exact of_decide_eq_true (by kernel_rfl)) hW
def lin_Of.k : K :=
 (.seq (.keep [1] (.ops false [⟨(some 1), none, .boxP (.t 0)⟩,
 ⟨(some 2), none, .mov (.c .nil)⟩,
 ⟨(some 3), none, .mov (.c (.int .i64 0))⟩]))
 (.seq (.seq (.keep [1, 8] (.ops false [⟨(some 6), none, .load 1 false (.t 1)⟩,
 ⟨(some 7), none, .len false (.t 6)⟩,
 ⟨(some 8), none, .bin .gtr (.t 7) (.c (.int .i64 12))⟩]))
 (.cond (.t 8) (.seq (.keep [2, 3] (.ops false [⟨(some 2), none, .mov (.c .nil)⟩,
 ⟨(some 3), none, .mov (.c (.int .i64 2))⟩]))
 .ret)
 .skip))
 (.seq (.seq (.keep [1, 9, 10, 11] (.ops false [⟨(some 9), none, .load 1 false (.t 1)⟩,
 ⟨(some 10), none, .len false (.t 9)⟩,
 ⟨(some 11), none, .mov (.c (.int .i64 0))⟩]))
 (.block 0 (.loop (.seq (.keep [1, 9, 10, 11, 12] (.ops false [⟨(some 12), none, .bin .lss (.t 11) (.t 10)⟩]))
 (.seq (.cond (.t 12) .skip
 (.exit 0))
 (.seq (.block 1 (.seq (.keep [1, 5, 9, 10, 11] (.ops false [⟨(some 13), none, .idxA 1 (.t 9) (.t 11)⟩,
 ⟨(some 14), none, .load 1 false (.t 13)⟩,
 ⟨(some 5), none, .mov (.t 14)⟩]))
 (.seq (.keep [1, 9, 10, 11, 19] (.ops false [⟨(some 15), none, .mov (.t 5)⟩,
 ⟨(some 16), none, .len false (.t 15)⟩,
 ⟨(some 17), none, .load 1 false (.t 1)⟩,
 ⟨(some 18), none, .len false (.t 17)⟩,
 ⟨(some 19), none, .bin .neq (.t 16) (.t 18)⟩]))
 (.cond (.t 19) (.seq (.keep [2, 3] (.ops false [⟨(some 2), none, .mov (.c .nil)⟩,
 ⟨(some 3), none, .mov (.c (.int .i64 1))⟩]))
 .ret)
 .skip))))
 (.keep [1, 9, 10, 11] (.ops false [⟨(some 20), none, .bin .add (.t 11) (.c (.int .i64 1))⟩,
 ⟨(some 11), none, .mov (.t 20)⟩]))))))))
 (.seq (.keep [2, 3] (.ops false [⟨(some 21), none, .load 1 false (.t 1)⟩,
 ⟨(some 22), none, .len false (.t 21)⟩,
 ⟨(some 23), none, .mkFn n_lin_Of_1 [(.t 1)]⟩,
 ⟨(some 24), none, .callG n_lin_made [(.t 22), (.t 23)]⟩,
 ⟨(some 2), none, .mov (.t 24)⟩,
 ⟨(some 3), none, .mov (.c (.int .i64 0))⟩]))
 .ret))))
def lin_Of.res : List RX := [(2, none), (3, none)]
theorem lin_Of.m : mK pg Try.f65.ntmps lin_Of.k (Try.f65.body.getD .skip) = true := by kernel_rfl
theorem lin_Of.mr : mRes pg Try.f65.results.toList lin_Of.res = true := by kernel_rfl
theorem lin_Of.of {args : List V} {r : V} (hn : args.length = 1) (hW : W pg lin_Of.k (done lin_Of.res r) (start args)) : Ret pg n_lin_Of args r :=
 Ret_of (fn := Try.f65) Try.func65 rfl (by kernel_rfl) lin_Of.m lin_Of.mr (by rw [hn]; exact of_decide_eq_true (by kernel_rfl)) hW
def lin_zeros.k : K :=
 (.seq (.keep [0] (.ops false [⟨(some 2), none, .mov (.c .nil)⟩]))
 (.seq (.keep [2] (.ops false [⟨(some 3), none, .mov (.t 0)⟩,
 ⟨(some 4), none, .new (.mks 2 32 (.agg [(.bool false), (.sl [])])) [(.t 3), (.t 3)]⟩,
 ⟨(some 2), none, .mov (.t 4)⟩]))
 .ret))
def lin_zeros.res : List RX := [(2, none)]
theorem lin_zeros.m : mK pg Try.f77.ntmps lin_zeros.k (Try.f77.body.getD .skip) = true := by kernel_rfl
theorem lin_zeros.mr : mRes pg Try.f77.results.toList lin_zeros.res = true := by kernel_rfl
theorem lin_zeros.of {args : List V} {r : V} (hn : args.length = 1) (hW : W pg lin_zeros.k (done lin_zeros.res r) (start args)) : Ret pg n_lin_zeros args r :=
 Ret_of (fn := Try.f77) Try.func77 rfl (by kernel_rfl) lin_zeros.m lin_zeros.mr (by rw [hn]; exact of_decide_eq_true (by kernel_rfl)) hW
def lin_turned.k : K :=
 (.seq (.keep [1, 2, 4] (.ops false [⟨(some 2), none, .boxP (.t 0)⟩,
 ⟨(some 4), none, .alloc 2 (.agg [(.bool false), (.sl [])])⟩]))
 (.seq (.seq (.keep [2, 4, 5] (.ops false [⟨(some 5), none, .mov (.t 1)⟩]))
 (.cond (.t 5) (.seq (.keep [4] (.ops false [⟨(some 6), none, .load 2 true (.t 2)⟩,
 ⟨(some 7), none, .callG n_long_Int_Neg [(.t 6)]⟩,
 ⟨none, none, .store 2 (.t 4) (.t 7)⟩]))
 .ret)
 .skip))
 (.seq (.keep [4] (.ops false [⟨(some 8), none, .load 2 true (.t 2)⟩,
 ⟨none, none, .store 2 (.t 4) (.t 8)⟩]))
 .ret)))
def lin_turned.res : List RX := [(4, some (2, true))]
theorem lin_turned.m : mK pg Try.f78.ntmps lin_turned.k (Try.f78.body.getD .skip) = true := by kernel_rfl
theorem lin_turned.mr : mRes pg Try.f78.results.toList lin_turned.res = true := by kernel_rfl
theorem lin_turned.of {args : List V} {r : V} (hn : args.length = 2) (hW : W pg lin_turned.k (done lin_turned.res r) (start args)) : Ret pg n_lin_turned args r :=
 Ret_of (fn := Try.f78) Try.func78 rfl (by kernel_rfl) lin_turned.m lin_turned.mr (by rw [hn]; exact of_decide_eq_true (by kernel_rfl)) hW
def lin_list_long_Int.k : K :=
 (.seq (.keep [0, 1] (.ops false [⟨(some 4), none, .mov (.c .nil)⟩]))
 (.seq (.keep [1, 5] (.ops false [⟨(some 7), none, .mov (.t 0)⟩,
 ⟨(some 8), none, .new (.mks 2 32 (.agg [(.bool false), (.sl [])])) [(.t 7), (.t 7)]⟩,
 ⟨(some 5), none, .mov (.t 8)⟩]))
 (.seq (.seq (.keep [1, 5, 10, 11] (.ops false [⟨(some 9), none, .mov (.t 5)⟩,
 ⟨(some 10), none, .len false (.t 9)⟩,
 ⟨(some 11), none, .mov (.c (.int .i64 0))⟩]))
 (.block 0 (.loop (.seq (.keep [1, 5, 10, 11, 12] (.ops false [⟨(some 12), none, .bin .lss (.t 11) (.t 10)⟩]))
 (.seq (.cond (.t 12) .skip
 (.exit 0))
 (.seq (.block 1 (.seq (.keep [1, 5, 6, 10, 11] (.ops false [⟨(some 13), none, .mov (.t 11)⟩,
 ⟨(some 6), none, .mov (.t 13)⟩]))
 (.keep [1, 5, 10, 11] (.ops false [⟨(some 14), none, .mov (.t 5)⟩,
 ⟨(some 15), none, .mov (.t 6)⟩,
 ⟨(some 16), none, .mov (.t 1)⟩,
 ⟨(some 17), none, .mov (.t 6)⟩,
 ⟨(some 18), none, .callGV (.t 16) [(.t 17)]⟩,
 ⟨(some 19), none, .idxA 2 (.t 14) (.t 15)⟩,
 ⟨none, none, .store 2 (.t 19) (.t 18)⟩]))))
 (.keep [1, 5, 10, 11] (.ops false [⟨(some 20), none, .bin .add (.t 11) (.c (.int .i64 1))⟩,
 ⟨(some 11), none, .mov (.t 20)⟩]))))))))
 (.seq (.keep [4] (.ops false [⟨(some 21), none, .mov (.t 5)⟩,
 ⟨(some 4), none, .mov (.t 21)⟩]))
 .ret))))
def lin_list_long_Int.res : List RX := [(4, none)]
theorem lin_list_long_Int.m : mK pg Try.f79.ntmps lin_list_long_Int.k (Try.f79.body.getD .skip) = true := by kernel_rfl
theorem lin_list_long_Int.mr : mRes pg Try.f79.results.toList lin_list_long_Int.res = true := by kernel_rfl
theorem lin_list_long_Int.of {args : List V} {r : V} (hn : args.length = 2) (hW : W pg lin_list_long_Int.k (done lin_list_long_Int.res r) (start args)) : Ret pg n_lin_list_long_Int args r :=
 Ret_of (fn := Try.f79) Try.func79 rfl (by kernel_rfl) lin_list_long_Int.m lin_list_long_Int.mr (by rw [hn]; exact of_decide_eq_true (by kernel_rfl)) hW
theorem lin_list_long_Int.ofG {args : List V} {H : Hp} {n : Nat} {Q : V → Hp → Nat → Prop} (hn : args.length = 2) (hW : W pg lin_list_long_Int.k (doneG lin_list_long_Int.res (fun r H' n' => n ≤ n' ∧ Q r H' n')) (startG args H n)) : ∃ r H' n', Q r H' n' ∧ RetG pg n_lin_list_long_Int args H n r H' n' :=
 RetG_of (fn := Try.f79) Try.func79 rfl (by kernel_rfl) lin_list_long_Int.m lin_list_long_Int.mr (by rw [hn]; exact of_decide_eq_true (by kernel_rfl)) hW
def lin_list_Llong_Int.k : K :=
 (.seq (.keep [0, 1] (.ops false [⟨(some 4), none, .mov (.c .nil)⟩]))
 (.seq (.keep [1, 5] (.ops false [⟨(some 7), none, .mov (.t 0)⟩,
 ⟨(some 8), none, .new (.mks 1 24 .nil) [(.t 7), (.t 7)]⟩,
 ⟨(some 5), none, .mov (.t 8)⟩]))
 (.seq (.seq (.keep [1, 5, 10, 11] (.ops false [⟨(some 9), none, .mov (.t 5)⟩,
 ⟨(some 10), none, .len false (.t 9)⟩,
 ⟨(some 11), none, .mov (.c (.int .i64 0))⟩]))
 (.block 0 (.loop (.seq (.keep [1, 5, 10, 11, 12] (.ops false [⟨(some 12), none, .bin .lss (.t 11) (.t 10)⟩]))
 (.seq (.cond (.t 12) .skip
 (.exit 0))
 (.seq (.block 1 (.seq (.keep [1, 5, 6, 10, 11] (.ops false [⟨(some 13), none, .mov (.t 11)⟩,
 ⟨(some 6), none, .mov (.t 13)⟩]))
 (.keep [1, 5, 10, 11] (.ops false [⟨(some 14), none, .mov (.t 5)⟩,
 ⟨(some 15), none, .mov (.t 6)⟩,
 ⟨(some 16), none, .mov (.t 1)⟩,
 ⟨(some 17), none, .mov (.t 6)⟩,
 ⟨(some 18), none, .callGV (.t 16) [(.t 17)]⟩,
 ⟨(some 19), none, .idxA 1 (.t 14) (.t 15)⟩,
 ⟨none, none, .store 1 (.t 19) (.t 18)⟩]))))
 (.keep [1, 5, 10, 11] (.ops false [⟨(some 20), none, .bin .add (.t 11) (.c (.int .i64 1))⟩,
 ⟨(some 11), none, .mov (.t 20)⟩]))))))))
 (.seq (.keep [4] (.ops false [⟨(some 21), none, .mov (.t 5)⟩,
 ⟨(some 4), none, .mov (.t 21)⟩]))
 .ret))))
def lin_list_Llong_Int.res : List RX := [(4, none)]
theorem lin_list_Llong_Int.m : mK pg Try.f84.ntmps lin_list_Llong_Int.k (Try.f84.body.getD .skip) = true := by kernel_rfl
theorem lin_list_Llong_Int.mr : mRes pg Try.f84.results.toList lin_list_Llong_Int.res = true := by kernel_rfl
theorem lin_list_Llong_Int.of {args : List V} {r : V} (hn : args.length = 2) (hW : W pg lin_list_Llong_Int.k (done lin_list_Llong_Int.res r) (start args)) : Ret pg n_lin_list_Llong_Int args r :=
 Ret_of (fn := Try.f84) Try.func84 rfl (by kernel_rfl) lin_list_Llong_Int.m lin_list_Llong_Int.mr (by rw [hn]; exact of_decide_eq_true (by kernel_rfl)) hW
theorem lin_list_Llong_Int.ofG {args : List V} {H : Hp} {n : Nat} {Q : V → Hp → Nat → Prop} (hn : args.length = 2) (hW : W pg lin_list_Llong_Int.k (doneG lin_list_Llong_Int.res (fun r H' n' => n ≤ n' ∧ Q r H' n')) (startG args H n)) : ∃ r H' n', Q r H' n' ∧ RetG pg n_lin_list_Llong_Int args H n r H' n' :=
 RetG_of (fn := Try.f84) Try.func84 rfl (by kernel_rfl) lin_list_Llong_Int.m lin_list_Llong_Int.mr (by rw [hn]; exact of_decide_eq_true (by kernel_rfl)) hW
def lin_made_1.k : K :=
 (.seq (.keep [1, 2, 3] (.ops false [⟨(some 3), none, .boxP (.t 0)⟩,
 ⟨(some 4), none, .mov (.c .nil)⟩]))
 (.seq (.keep [4] (.ops false [⟨(some 5), none, .load 1 false (.t 1)⟩,
 ⟨(some 6), none, .mkFn n_lin_made_1_1 [(.t 2), (.t 3)]⟩,
 ⟨(some 7), none, .callG n_lin_list_long_Int [(.t 5), (.t 6)]⟩,
 ⟨(some 4), none, .mov (.t 7)⟩]))
 .ret))
def lin_made_1.res : List RX := [(4, none)]
theorem lin_made_1.m : mK pg Try.f85.ntmps lin_made_1.k (Try.f85.body.getD .skip) = true := by kernel_rfl
theorem lin_made_1.mr : mRes pg Try.f85.results.toList lin_made_1.res = true := by kernel_rfl
theorem lin_made_1.of {args : List V} {r : V} (hn : args.length = 3) (hW : W pg lin_made_1.k (done lin_made_1.res r) (start args)) : Ret pg n_lin_made_1 args r :=
 Ret_of (fn := Try.f85) Try.func85 rfl (by kernel_rfl) lin_made_1.m lin_made_1.mr (by rw [hn]; exact of_decide_eq_true (by kernel_rfl)) hW
def lin_made_1_1.k : K :=
 (.seq (.keep [0, 1, 2, 4] (.ops false [⟨(some 4), none, .alloc 2 (.agg [(.bool false), (.sl [])])⟩]))
 (.seq (.keep [4] (.ops false [⟨(some 5), none, .load 1 false (.t 1)⟩,
 ⟨(some 6), none, .load 1 false (.t 2)⟩,
 ⟨(some 7), none, .mov (.t 0)⟩,
 ⟨(some 8), none, .callGV (.t 5) [(.t 6), (.t 7)]⟩,
 ⟨none, none, .store 2 (.t 4) (.t 8)⟩]))
 .ret))
def lin_made_1_1.res : List RX := [(4, some (2, true))]
theorem lin_made_1_1.m : mK pg Try.f86.ntmps lin_made_1_1.k (Try.f86.body.getD .skip) = true := by kernel_rfl
theorem lin_made_1_1.mr : mRes pg Try.f86.results.toList lin_made_1_1.res = true := by kernel_rfl
theorem lin_made_1_1.of {args : List V} {r : V} (hn : args.length = 3) (hW : W pg lin_made_1_1.k (done lin_made_1_1.res r) (start args)) : Ret pg n_lin_made_1_1 args r :=
 Ret_of (fn := Try.f86) Try.func86 rfl (by kernel_rfl) lin_made_1_1.m lin_made_1_1.mr (by rw [hn]; exact of_decide_eq_true (by kernel_rfl)) hW
def lin_Of_1.k : K :=
 (.seq (.keep [0, 1, 2, 5] (.ops false [⟨(some 5), none, .alloc 2 (.agg [(.bool false), (.sl [])])⟩]))
 (.seq (.keep [5] (.ops false [⟨(some 6), none, .load 1 false (.t 2)⟩,
 ⟨(some 7), none, .mov (.t 0)⟩,
 ⟨(some 8), none, .idxA 1 (.t 6) (.t 7)⟩,
 ⟨(some 9), none, .load 1 false (.t 8)⟩,
 ⟨(some 10), none, .mov (.t 1)⟩,
 ⟨(some 11), none, .idxA 1 (.t 9) (.t 10)⟩,
 ⟨(some 12), none, .load 1 false (.t 11)⟩,
 ⟨(some 13), none, .callG n_long_Of [(.t 12)]⟩,
 ⟨none, none, .store 2 (.t 5) (.t 13)⟩]))
 .ret))
def lin_Of_1.res : List RX := [(5, some (2, true))]
theorem lin_Of_1.m : mK pg Try.f90.ntmps lin_Of_1.k (Try.f90.body.getD .skip) = true := by kernel_rfl
theorem lin_Of_1.mr : mRes pg Try.f90.results.toList lin_Of_1.res = true := by kernel_rfl
theorem lin_Of_1.of {args : List V} {r : V} (hn : args.length = 3) (hW : W pg lin_Of_1.k (done lin_Of_1.res r) (start args)) : Ret pg n_lin_Of_1 args r :=
 Ret_of (fn := Try.f90) Try.func90 rfl (by kernel_rfl) lin_Of_1.m lin_Of_1.mr (by rw [hn]; exact of_decide_eq_true (by kernel_rfl)) hW
def lin_Mat_Quad.k : K :=
 (.seq (.keep [0, 3, 4] (.ops false [⟨(some 3), none, .boxP (.t 1)⟩,
 ⟨(some 4), none, .alloc 2 (.agg [(.bool false), (.sl [])])⟩]))
 (.seq (.keep [0, 3, 4, 5] (.ops false [⟨(some 6), none, .mov (.t 0)⟩,
 ⟨(some 7), none, .load 1 false (.t 3)⟩,
 ⟨(some 8), none, .callG n_lin_Mat_Apply [(.t 6), (.t 7)]⟩,
 ⟨(some 5), none, .alloc 1 .nil⟩,
 ⟨none, none, .store 1 (.t 5) (.t 8)⟩]))
 (.seq (.keep [4] (.ops false [⟨(some 9), none, .mov (.t 0)⟩,
 ⟨(some 10), none, .len false (.t 9)⟩,
 ⟨(some 11), none, .mkFn n_lin_Mat_Quad_1 [(.t 3), (.t 5)]⟩,
 ⟨(some 12), none, .callG n_lin_sum [(.t 10), (.t 11)]⟩,
 ⟨none, none, .store 2 (.t 4) (.t 12)⟩]))
 .ret)))
def lin_Mat_Quad.res : List RX := [(4, some (2, true))]
theorem lin_Mat_Quad.m : mK pg Try.f16.ntmps lin_Mat_Quad.k (Try.f16.body.getD .skip) = true := by kernel_rfl
theorem lin_Mat_Quad.mr : mRes pg Try.f16.results.toList lin_Mat_Quad.res = true := by kernel_rfl
theorem lin_Mat_Quad.of {args : List V} {r : V} (hn : args.length = 2) (hW : W pg lin_Mat_Quad.k (done lin_Mat_Quad.res r) (start args)) : Ret pg n_lin_Mat_Quad args r :=
 Ret_of (fn := Try.f16) Try.func16 rfl (by kernel_rfl) lin_Mat_Quad.m lin_Mat_Quad.mr (by rw [hn]; exact of_decide_eq_true (by kernel_rfl)) hW
def lin_Mat_Turned.k : K :=
 (.seq (.keep [1] (.ops false [⟨(some 1), none, .boxP (.t 0)⟩,
 ⟨(some 2), none, .mov (.c .nil)⟩]))
 (.seq (.keep [2] (.ops false [⟨(some 3), none, .load 1 false (.t 1)⟩,
 ⟨(some 4), none, .len false (.t 3)⟩,
 ⟨(some 5), none, .mkFn n_lin_Mat_Turned_1 [(.t 1)]⟩,
 ⟨(some 6), none, .callG n_lin_made [(.t 4), (.t 5)]⟩,
 ⟨(some 2), none, .mov (.t 6)⟩]))
 .ret))
def lin_Mat_Turned.res : List RX := [(2, none)]
theorem lin_Mat_Turned.m : mK pg Try.f21.ntmps lin_Mat_Turned.k (Try.f21.body.getD .skip) = true := by kernel_rfl
theorem lin_Mat_Turned.mr : mRes pg Try.f21.results.toList lin_Mat_Turned.res = true := by kernel_rfl
theorem lin_Mat_Turned.of {args : List V} {r : V} (hn : args.length = 1) (hW : W pg lin_Mat_Turned.k (done lin_Mat_Turned.res r) (start args)) : Ret pg n_lin_Mat_Turned args r :=
 Ret_of (fn := Try.f21) Try.func21 rfl (by kernel_rfl) lin_Mat_Turned.m lin_Mat_Turned.mr (by rw [hn]; exact of_decide_eq_true (by kernel_rfl)) hW
def lin_Mat_Definite.k : K :=
 (.seq (.keep [1] (.ops false [⟨(some 1), none, .boxP (.t 0)⟩,
 ⟨(some 2), none, .mov (.c (.bool false))⟩]))
 (.seq (.seq (.keep [1, 7, 8] (.ops false [⟨(some 6), none, .load 1 false (.t 1)⟩,
 ⟨(some 7), none, .len false (.t 6)⟩,
 ⟨(some 8), none, .mov (.c (.int .i64 0))⟩]))
 (.block 0 (.loop (.seq (.keep [1, 7, 8, 9] (.ops false [⟨(some 9), none, .bin .lss (.t 8) (.t 7)⟩]))
 (.seq (.cond (.t 9) .skip
 (.exit 0))
 (.seq (.block 1 (.seq (.keep [1, 3, 7, 8] (.ops false [⟨(some 10), none, .mov (.t 8)⟩,
 ⟨(some 3), none, .mov (.t 10)⟩]))
 (.seq (.seq (.keep [1, 3, 7, 8, 11, 12] (.ops false [⟨(some 11), none, .mov (.t 3)⟩,
 ⟨(some 12), none, .mov (.c (.int .i64 0))⟩]))
 (.block 2 (.loop (.seq (.keep [1, 3, 7, 8, 11, 12, 13] (.ops false [⟨(some 13), none, .bin .lss (.t 12) (.t 11)⟩]))
 (.seq (.cond (.t 13) .skip
 (.exit 2))
 (.seq (.block 3 (.seq (.keep [1, 3, 4, 7, 8, 11, 12] (.ops false [⟨(some 14), none, .mov (.t 12)⟩,
 ⟨(some 4), none, .mov (.t 14)⟩]))
 (.seq (.keep [1, 3, 7, 8, 11, 12, 30] (.ops true [⟨(some 15), none, .load 1 false (.t 1)⟩,
 ⟨(some 16), none, .mov (.t 3)⟩,
 ⟨(some 17), none, .idxA 1 (.t 15) (.t 16)⟩,
 ⟨(some 18), none, .load 1 false (.t 17)⟩,
 ⟨(some 19), none, .mov (.t 4)⟩,
 ⟨(some 20), none, .idxA 2 (.t 18) (.t 19)⟩,
 ⟨(some 21), none, .load 2 true (.t 20)⟩,
 ⟨(some 22), none, .load 1 false (.t 1)⟩,
 ⟨(some 23), none, .mov (.t 4)⟩,
 ⟨(some 24), none, .idxA 1 (.t 22) (.t 23)⟩,
 ⟨(some 25), none, .load 1 false (.t 24)⟩,
 ⟨(some 26), none, .mov (.t 3)⟩,
 ⟨(some 27), none, .idxA 2 (.t 25) (.t 26)⟩,
 ⟨(some 28), none, .load 2 true (.t 27)⟩,
 ⟨(some 29), none, .call n_long_Int_Cmp [(.t 21), (.t 28)]⟩,
 ⟨(some 30), none, .bin .neq (.t 29) (.c (.int .i64 0))⟩]))
 (.cond (.t 30) (.seq (.keep [2] (.ops false [⟨(some 2), none, .mov (.c (.bool false))⟩]))
 .ret)
 .skip))))
 (.keep [1, 3, 7, 8, 11, 12] (.ops false [⟨(some 31), none, .bin .add (.t 12) (.c (.int .i64 1))⟩,
 ⟨(some 12), none, .mov (.t 31)⟩]))))))))
 (.seq (.keep [1, 5, 7, 8] (.ops false [⟨(some 32), none, .mov (.t 3)⟩,
 ⟨(some 33), none, .bin .add (.t 32) (.c (.int .i64 1))⟩,
 ⟨(some 34), none, .mkFn n_lin_Mat_Definite_1 [(.t 1)]⟩,
 ⟨(some 35), none, .callG n_lin_made [(.t 33), (.t 34)]⟩,
 ⟨(some 5), none, .mov (.t 35)⟩]))
 (.seq (.keep [1, 7, 8, 39] (.ops false [⟨(some 36), none, .mov (.t 5)⟩,
 ⟨(some 37), none, .callG n_lin_Mat_Det [(.t 36)]⟩,
 ⟨(some 38), none, .callG n_long_Int_Sign [(.t 37)]⟩,
 ⟨(some 39), none, .bin .leq (.t 38) (.c (.int .i64 0))⟩]))
 (.cond (.t 39) (.seq (.keep [2] (.ops false [⟨(some 2), none, .mov (.c (.bool false))⟩]))
 .ret)
 .skip))))))
 (.keep [1, 7, 8] (.ops false [⟨(some 40), none, .bin .add (.t 8) (.c (.int .i64 1))⟩,
 ⟨(some 8), none, .mov (.t 40)⟩]))))))))
 (.seq (.keep [2] (.ops false [⟨(some 2), none, .mov (.c (.bool true))⟩]))
 .ret)))
def lin_Mat_Definite.res : List RX := [(2, none)]
theorem lin_Mat_Definite.m : mK pg Try.f43.ntmps lin_Mat_Definite.k (Try.f43.body.getD .skip) = true := by kernel_rfl
theorem lin_Mat_Definite.mr : mRes pg Try.f43.results.toList lin_Mat_Definite.res = true := by kernel_rfl
theorem lin_Mat_Definite.of {args : List V} {r : V} (hn : args.length = 1) (hW : W pg lin_Mat_Definite.k (done lin_Mat_Definite.res r) (start args)) : Ret pg n_lin_Mat_Definite args r :=
 Ret_of (fn := Try.f43) Try.func43 rfl (by kernel_rfl) lin_Mat_Definite.m lin_Mat_Definite.mr (by rw [hn]; exact of_decide_eq_true (by kernel_rfl)) hW
def lin_Mat_Det.k : K :=
 (.seq (.keep [0, 2] (.ops false [⟨(some 2), none, .alloc 2 (.agg [(.bool false), (.sl [])])⟩]))
 (.seq (.keep [0, 2, 3, 4, 5] (.ops false [⟨(some 7), none, .mov (.t 0)⟩,
 ⟨(some 8), none, .mov (.t 0)⟩,
 ⟨(some 9), none, .len false (.t 8)⟩,
 ⟨(some 10), none, .callG n_lin_zeros [(.t 9)]⟩,
 ⟨(some 11), none, .callG n_lin_Mat_swept [(.t 7), (.t 10)]⟩,
 ⟨(some 6), none, .mov (.t 11)⟩,
 ⟨(some 12), none, .ext (.t 6) 0⟩,
 ⟨(some 13), none, .ext (.t 6) 1⟩,
 ⟨(some 14), none, .ext (.t 6) 2⟩,
 ⟨(some 3), none, .mov (.t 12)⟩,
 ⟨(some 4), none, .mov (.t 13)⟩,
 ⟨(some 5), none, .mov (.t 14)⟩]))
 (.seq (.block 0 (.seq (.keep [0, 2, 3, 4, 15] (.ops false [⟨(some 16), none, .mov (.t 5)⟩,
 ⟨(some 17), none, .un .not (.t 16)⟩,
 ⟨(some 15), none, .mov (.t 17)⟩]))
 (.cond (.t 15) (.seq (.keep [2] (.ops false [⟨(some 18), none, .build [(.bool false), (.sl [])] []⟩,
 ⟨none, none, .store 2 (.t 2) (.t 18)⟩]))
 .ret)
 (.seq (.keep [0, 2, 3, 4, 19] (.ops false [⟨(some 20), none, .mov (.t 0)⟩,
 ⟨(some 21), none, .len false (.t 20)⟩,
 ⟨(some 22), none, .bin .eql (.t 21) (.c (.int .i64 0))⟩,
 ⟨(some 19), none, .mov (.t 22)⟩]))
 (.cond (.t 19) (.seq (.keep [2] (.ops false [⟨(some 23), none, .callG n_long_Of [(.c (.int .i64 1))]⟩,
 ⟨none, none, .store 2 (.t 2) (.t 23)⟩]))
 .ret)
 .skip)))))
 (.seq (.keep [2] (.ops false [⟨(some 24), none, .mov (.t 3)⟩,
 ⟨(some 25), none, .mov (.t 0)⟩,
 ⟨(some 26), none, .len false (.t 25)⟩,
 ⟨(some 27), none, .bin .sub (.t 26) (.c (.int .i64 1))⟩,
 ⟨(some 28), none, .idxA 1 (.t 24) (.t 27)⟩,
 ⟨(some 29), none, .load 1 false (.t 28)⟩,
 ⟨(some 30), none, .mov (.t 0)⟩,
 ⟨(some 31), none, .len false (.t 30)⟩,
 ⟨(some 32), none, .bin .sub (.t 31) (.c (.int .i64 1))⟩,
 ⟨(some 33), none, .idxA 2 (.t 29) (.t 32)⟩,
 ⟨(some 34), none, .load 2 true (.t 33)⟩,
 ⟨(some 35), none, .mov (.t 4)⟩,
 ⟨(some 36), none, .callG n_lin_turned [(.t 34), (.t 35)]⟩,
 ⟨none, none, .store 2 (.t 2) (.t 36)⟩]))
 .ret))))
def lin_Mat_Det.res : List RX := [(2, some (2, true))]
theorem lin_Mat_Det.m : mK pg Try.f44.ntmps lin_Mat_Det.k (Try.f44.body.getD .skip) = true := by kernel_rfl
theorem lin_Mat_Det.mr : mRes pg Try.f44.results.toList lin_Mat_Det.res = true := by kernel_rfl
theorem lin_Mat_Det.of {args : List V} {r : V} (hn : args.length = 1) (hW : W pg lin_Mat_Det.k (done lin_Mat_Det.res r) (start args)) : Ret pg n_lin_Mat_Det args r :=
 Ret_of (fn := Try.f44) Try.func44 rfl (by kernel_rfl) lin_Mat_Det.m lin_Mat_Det.mr (by rw [hn]; exact of_decide_eq_true (by kernel_rfl)) hW
def lin_Mat_Solve.k : K :=
 (.seq (.keep [1, 2, 5] (.ops false [⟨(some 2), none, .boxP (.t 0)⟩,
 ⟨(some 4), none, .mov (.c .nil)⟩,
 ⟨(some 5), none, .alloc 2 (.agg [(.bool false), (.sl [])])⟩,
 ⟨(some 6), none, .mov (.c (.int .i64 0))⟩]))
 (.seq (.seq (.keep [1, 2, 5, 14] (.ops false [⟨(some 10), none, .mov (.t 1)⟩,
 ⟨(some 11), none, .len false (.t 10)⟩,
 ⟨(some 12), none, .load 1 false (.t 2)⟩,
 ⟨(some 13), none, .len false (.t 12)⟩,
 ⟨(some 14), none, .bin .neq (.t 11) (.t 13)⟩]))
 (.cond (.t 14) (.seq (.keep [4, 5, 6] (.ops false [⟨(some 15), none, .build [(.bool false), (.sl [])] []⟩,
 ⟨(some 4), none, .mov (.c .nil)⟩,
 ⟨none, none, .store 2 (.t 5) (.t 15)⟩,
 ⟨(some 6), none, .mov (.c (.int .i64 1))⟩]))
 .ret)
 .skip))
 (.seq (.keep [2, 5, 7, 8, 9] (.ops false [⟨(some 17), none, .load 1 false (.t 2)⟩,
 ⟨(some 18), none, .mov (.t 1)⟩,
 ⟨(some 19), none, .callG n_lin_Mat_swept [(.t 17), (.t 18)]⟩,
 ⟨(some 16), none, .mov (.t 19)⟩,
 ⟨(some 20), none, .ext (.t 16) 0⟩,
 ⟨(some 21), none, .ext (.t 16) 1⟩,
 ⟨(some 22), none, .ext (.t 16) 2⟩,
 ⟨(some 7), none, .alloc 1 .nil⟩,
 ⟨(some 8), none, .alloc 1 (.bool false)⟩,
 ⟨none, none, .store 1 (.t 7) (.t 20)⟩,
 ⟨none, none, .store 1 (.t 8) (.t 21)⟩,
 ⟨(some 9), none, .mov (.t 22)⟩]))
 (.seq (.seq (.keep [2, 5, 7, 8, 24] (.ops false [⟨(some 23), none, .mov (.t 9)⟩,
 ⟨(some 24), none, .un .not (.t 23)⟩]))
 (.cond (.t 24) (.seq (.keep [4, 5, 6] (.ops false [⟨(some 25), none, .build [(.bool false), (.sl [])] []⟩,
 ⟨(some 4), none, .mov (.c .nil)⟩,
 ⟨none, none, .store 2 (.t 5) (.t 25)⟩,
 ⟨(some 6), none, .mov (.c (.int .i64 11))⟩]))
 .ret)
 .skip))
 (.seq (.gh (.keep [4, 5, 6] (.ops true [⟨(some 26), none, .load 1 false (.t 2)⟩,
 ⟨(some 27), none, .len false (.t 26)⟩,
 ⟨(some 28), none, .mkFn n_lin_Mat_Solve_1 [(.t 7), (.t 2), (.t 8)]⟩,
 ⟨(some 29), none, .call n_lin_list_long_Int [(.t 27), (.t 28)]⟩,
 ⟨(some 30), none, .load 1 false (.t 2)⟩,
 ⟨(some 31), none, .call n_lin_Mat_Det [(.t 30)]⟩,
 ⟨(some 4), none, .mov (.t 29)⟩,
 ⟨none, none, .store 2 (.t 5) (.t 31)⟩,
 ⟨(some 6), none, .mov (.c (.int .i64 0))⟩])))
 .ret)))))
def lin_Mat_Solve.res : List RX := [(4, none), (5, some (2, true)), (6, none)]
theorem lin_Mat_Solve.m : mK pg Try.f45.ntmps lin_Mat_Solve.k (Try.f45.body.getD .skip) = true := by kernel_rfl
theorem lin_Mat_Solve.mr : mRes pg Try.f45.results.toList lin_Mat_Solve.res = true := by kernel_rfl
theorem lin_Mat_Solve.of {args : List V} {r : V} (hn : args.length = 2) (hW : W pg lin_Mat_Solve.k (done lin_Mat_Solve.res r) (start args)) : Ret pg n_lin_Mat_Solve args r :=
 Ret_of (fn := Try.f45) Try.func45 rfl (by kernel_rfl) lin_Mat_Solve.m lin_Mat_Solve.mr (by rw [hn]; exact of_decide_eq_true (by kernel_rfl)) hW
def lin_Mat_Apply.k : K :=
 (.seq (.keep [2, 3] (.ops false [⟨(some 2), none, .boxP (.t 0)⟩,
 ⟨(some 3), none, .boxP (.t 1)⟩,
 ⟨(some 4), none, .mov (.c .nil)⟩]))
 (.seq (.keep [4] (.ops false [⟨(some 5), none, .load 1 false (.t 2)⟩,
 ⟨(some 6), none, .len false (.t 5)⟩,
 ⟨(some 7), none, .mkFn n_lin_Mat_Apply_1 [(.t 2), (.t 3)]⟩,
 ⟨(some 8), none, .callG n_lin_list_long_Int [(.t 6), (.t 7)]⟩,
 ⟨(some 4), none, .mov (.t 8)⟩]))
 .ret))
def lin_Mat_Apply.res : List RX := [(4, none)]
theorem lin_Mat_Apply.m : mK pg Try.f48.ntmps lin_Mat_Apply.k (Try.f48.body.getD .skip) = true := by kernel_rfl
theorem lin_Mat_Apply.mr : mRes pg Try.f48.results.toList lin_Mat_Apply.res = true := by kernel_rfl
theorem lin_Mat_Apply.of {args : List V} {r : V} (hn : args.length = 2) (hW : W pg lin_Mat_Apply.k (done lin_Mat_Apply.res r) (start args)) : Ret pg n_lin_Mat_Apply args r :=
 Ret_of (fn := Try.f48) Try.func48 rfl (by kernel_rfl) lin_Mat_Apply.m lin_Mat_Apply.mr (by rw [hn]; exact of_decide_eq_true (by kernel_rfl)) hW
def lin_Mat_Quad_1.k : K :=
 (.seq (.keep [0, 1, 2, 4, 5] (.ops false [⟨(some 4), none, .alloc 2 (.agg [(.bool false), (.sl [])])⟩,
 ⟨(some 5), none, .alloc 2 (.agg [(.bool false), (.sl [])])⟩]))
 (.seq (.keep [4, 5] (.ops true [⟨(some 6), none, .red (.ldP 1 false) [(.t 1)]⟩,
 ⟨(some 7), none, .mov (.t 0)⟩,
 ⟨(some 8), none, .red (.ixP 2) [(.t 6), (.t 7)]⟩,
 ⟨(some 9), none, .red (.ldP 2 true) [(.t 8)]⟩,
 ⟨(some 10), none, .red (.ldP 1 false) [(.t 2)]⟩,
 ⟨(some 11), none, .mov (.t 0)⟩,
 ⟨(some 12), none, .red (.ixP 2) [(.t 10), (.t 11)]⟩,
 ⟨(some 13), none, .red (.ldP 2 true) [(.t 12)]⟩,
 ⟨none, none, .store 2 (.t 4) (.t 9)⟩,
 ⟨none, none, .store 2 (.t 5) (.t 13)⟩]))
 .ret))
def lin_Mat_Quad_1.res : List RX := [(4, some (2, true)), (5, some (2, true))]
theorem lin_Mat_Quad_1.m : mK pg Try.f50.ntmps lin_Mat_Quad_1.k (Try.f50.body.getD .skip) = true := by kernel_rfl
theorem lin_Mat_Quad_1.mr : mRes pg Try.f50.results.toList lin_Mat_Quad_1.res = true := by kernel_rfl
theorem lin_Mat_Quad_1.of {args : List V} {r : V} (hn : args.length = 3) (hW : W pg lin_Mat_Quad_1.k (done lin_Mat_Quad_1.res r) (start args)) : Ret pg n_lin_Mat_Quad_1 args r :=
 Ret_of (fn := Try.f50) Try.func50 rfl (by kernel_rfl) lin_Mat_Quad_1.m lin_Mat_Quad_1.mr (by rw [hn]; exact of_decide_eq_true (by kernel_rfl)) hW
def lin_Mat_Turned_1.k : K :=
 (.seq (.keep [0, 1, 2, 5] (.ops false [⟨(some 5), none, .alloc 2 (.agg [(.bool false), (.sl [])])⟩]))
 (.seq (.keep [5] (.ops false [⟨(some 6), none, .load 1 false (.t 2)⟩,
 ⟨(some 7), none, .mov (.t 1)⟩,
 ⟨(some 8), none, .idxA 1 (.t 6) (.t 7)⟩,
 ⟨(some 9), none, .load 1 false (.t 8)⟩,
 ⟨(some 10), none, .mov (.t 0)⟩,
 ⟨(some 11), none, .idxA 2 (.t 9) (.t 10)⟩,
 ⟨(some 12), none, .load 2 true (.t 11)⟩,
 ⟨none, none, .store 2 (.t 5) (.t 12)⟩]))
 .ret))
def lin_Mat_Turned_1.res : List RX := [(5, some (2, true))]
theorem lin_Mat_Turned_1.m : mK pg Try.f53.ntmps lin_Mat_Turned_1.k (Try.f53.body.getD .skip) = true := by kernel_rfl
theorem lin_Mat_Turned_1.mr : mRes pg Try.f53.results.toList lin_Mat_Turned_1.res = true := by kernel_rfl
theorem lin_Mat_Turned_1.of {args : List V} {r : V} (hn : args.length = 3) (hW : W pg lin_Mat_Turned_1.k (done lin_Mat_Turned_1.res r) (start args)) : Ret pg n_lin_Mat_Turned_1 args r :=
 Ret_of (fn := Try.f53) Try.func53 rfl (by kernel_rfl) lin_Mat_Turned_1.m lin_Mat_Turned_1.mr (by rw [hn]; exact of_decide_eq_true (by kernel_rfl)) hW
def lin_Mat_Definite_1.k : K :=
 (.seq (.keep [0, 1, 2, 5] (.ops false [⟨(some 5), none, .alloc 2 (.agg [(.bool false), (.sl [])])⟩]))
 (.seq (.keep [5] (.ops false [⟨(some 6), none, .load 1 false (.t 2)⟩,
 ⟨(some 7), none, .mov (.t 0)⟩,
 ⟨(some 8), none, .idxA 1 (.t 6) (.t 7)⟩,
 ⟨(some 9), none, .load 1 false (.t 8)⟩,
 ⟨(some 10), none, .mov (.t 1)⟩,
 ⟨(some 11), none, .idxA 2 (.t 9) (.t 10)⟩,
 ⟨(some 12), none, .load 2 true (.t 11)⟩,
 ⟨none, none, .store 2 (.t 5) (.t 12)⟩]))
 .ret))
def lin_Mat_Definite_1.res : List RX := [(5, some (2, true))]
theorem lin_Mat_Definite_1.m : mK pg Try.f75.ntmps lin_Mat_Definite_1.k (Try.f75.body.getD .skip) = true := by kernel_rfl
theorem lin_Mat_Definite_1.mr : mRes pg Try.f75.results.toList lin_Mat_Definite_1.res = true := by kernel_rfl
theorem lin_Mat_Definite_1.of {args : List V} {r : V} (hn : args.length = 3) (hW : W pg lin_Mat_Definite_1.k (done lin_Mat_Definite_1.res r) (start args)) : Ret pg n_lin_Mat_Definite_1 args r :=
 Ret_of (fn := Try.f75) Try.func75 rfl (by kernel_rfl) lin_Mat_Definite_1.m lin_Mat_Definite_1.mr (by rw [hn]; exact of_decide_eq_true (by kernel_rfl)) hW
def lin_Mat_swept.k : K :=
 (.seq (.keep [2, 3, 5] (.ops false [⟨(some 2), none, .boxP (.t 0)⟩,
 ⟨(some 3), none, .boxP (.t 1)⟩,
 ⟨(some 4), none, .mov (.c .nil)⟩,
 ⟨(some 5), none, .mov (.c (.bool false))⟩,
 ⟨(some 6), none, .mov (.c (.bool false))⟩]))
 (.seq (.keep [2, 3, 5, 7] (.ops false [⟨(some 15), none, .load 1 false (.t 2)⟩,
 ⟨(some 16), none, .len false (.t 15)⟩,
 ⟨(some 7), none, .alloc 1 (.int .i64 0)⟩,
 ⟨none, none, .store 1 (.t 7) (.t 16)⟩]))
 (.seq (.keep [4, 5, 7] (.ops false [⟨(some 17), none, .load 1 false (.t 7)⟩,
 ⟨(some 18), none, .mkFn n_lin_Mat_swept_1 [(.t 7), (.t 2), (.t 3)]⟩,
 ⟨(some 19), none, .callG n_lin_list_Llong_Int [(.t 17), (.t 18)]⟩,
 ⟨(some 4), none, .mov (.t 19)⟩]))
 (.seq (.keep [4, 5, 7, 8] (.ops false [⟨(some 20), none, .callG n_long_Of [(.c (.int .i64 1))]⟩,
 ⟨(some 8), none, .alloc 2 (.agg [(.bool false), (.sl [])])⟩,
 ⟨none, none, .store 2 (.t 8) (.t 20)⟩]))
 (.seq (.seq (.keep [4, 5, 7, 8, 21, 22] (.ops false [⟨(some 21), none, .load 1 false (.t 7)⟩,
 ⟨(some 22), none, .mov (.c (.int .i64 0))⟩]))
 (.block 0 (.loop (.seq (.keep [4, 5, 7, 8, 21, 22, 23] (.ops false [⟨(some 23), none, .bin .lss (.t 22) (.t 21)⟩]))
 (.seq (.cond (.t 23) .skip
 (.exit 0))
 (.seq (.block 1 (.seq (.keep [4, 5, 7, 8, 9, 21, 22] (.ops false [⟨(some 24), none, .mov (.t 22)⟩,
 ⟨(some 9), none, .mov (.t 24)⟩]))
 (.seq (.keep [4, 5, 7, 8, 9, 10, 21, 22] (.ops false [⟨(some 25), none, .mov (.t 9)⟩,
 ⟨(some 10), none, .mov (.t 25)⟩]))
 (.seq (.block 2 (.loop (.seq (.seq (.keep [4, 5, 7, 8, 9, 10, 21, 22, 39] (.ops false [⟨(some 26), none, .mov (.t 10)⟩,
 ⟨(some 27), none, .load 1 false (.t 7)⟩,
 ⟨(some 28), none, .bin .lss (.t 26) (.t 27)⟩,
 ⟨(some 29), none, .mov (.t 28)⟩,
 ⟨(some 30), (some (29, true)), .mov (.t 4)⟩,
 ⟨(some 31), (some (29, true)), .mov (.t 10)⟩,
 ⟨(some 32), (some (29, true)), .idxA 1 (.t 30) (.t 31)⟩,
 ⟨(some 33), (some (29, true)), .load 1 false (.t 32)⟩,
 ⟨(some 34), (some (29, true)), .mov (.t 9)⟩,
 ⟨(some 35), (some (29, true)), .idxA 2 (.t 33) (.t 34)⟩,
 ⟨(some 36), (some (29, true)), .load 2 true (.t 35)⟩,
 ⟨(some 37), (some (29, true)), .callG n_long_Int_Sign [(.t 36)]⟩,
 ⟨(some 38), (some (29, true)), .bin .eql (.t 37) (.c (.int .i64 0))⟩,
 ⟨(some 39), none, .pick (.t 29) (.t 38) (.c (.bool false))⟩]))
 (.cond (.t 39) .skip
 (.exit 2)))
 (.keep [4, 5, 7, 8, 9, 10, 21, 22] (.block 3 (.keep [4, 5, 7, 8, 9, 10, 21, 22] (.ops false [⟨(some 40), none, .mov (.t 10)⟩,
 ⟨(some 41), none, .bin .add (.t 40) (.c (.int .i64 1))⟩,
 ⟨(some 10), none, .mov (.t 41)⟩])))))))
 (.seq (.seq (.keep [4, 5, 7, 8, 9, 10, 21, 22, 44] (.ops false [⟨(some 42), none, .mov (.t 10)⟩,
 ⟨(some 43), none, .load 1 false (.t 7)⟩,
 ⟨(some 44), none, .bin .eql (.t 42) (.t 43)⟩]))
 (.cond (.t 44) (.seq (.keep [4, 5, 6] (.ops false [⟨(some 4), none, .mov (.c .nil)⟩,
 ⟨(some 5), none, .mov (.c (.bool false))⟩,
 ⟨(some 6), none, .mov (.c (.bool false))⟩]))
 .ret)
 .skip))
 (.seq (.seq (.keep [4, 5, 7, 8, 9, 10, 21, 22, 47] (.ops false [⟨(some 45), none, .mov (.t 10)⟩,
 ⟨(some 46), none, .mov (.t 9)⟩,
 ⟨(some 47), none, .bin .neq (.t 45) (.t 46)⟩]))
 (.cond (.t 47) (.keep [4, 5, 7, 8, 9, 21, 22] (.ops true [⟨(some 48), none, .mov (.t 4)⟩,
 ⟨(some 49), none, .mov (.t 10)⟩,
 ⟨(some 50), none, .mov (.t 4)⟩,
 ⟨(some 51), none, .mov (.t 9)⟩,
 ⟨(some 52), none, .mov (.t 4)⟩,
 ⟨(some 53), none, .mov (.t 9)⟩,
 ⟨(some 54), none, .idxA 1 (.t 52) (.t 53)⟩,
 ⟨(some 55), none, .load 1 false (.t 54)⟩,
 ⟨(some 56), none, .mov (.t 4)⟩,
 ⟨(some 57), none, .mov (.t 10)⟩,
 ⟨(some 58), none, .idxA 1 (.t 56) (.t 57)⟩,
 ⟨(some 59), none, .load 1 false (.t 58)⟩,
 ⟨(some 60), none, .mov (.t 5)⟩,
 ⟨(some 61), none, .un .not (.t 60)⟩,
 ⟨(some 62), none, .idxA 1 (.t 48) (.t 49)⟩,
 ⟨none, none, .store 1 (.t 62) (.t 55)⟩,
 ⟨(some 63), none, .idxA 1 (.t 50) (.t 51)⟩,
 ⟨none, none, .store 1 (.t 63) (.t 59)⟩,
 ⟨(some 5), none, .mov (.t 61)⟩]))
 .skip))
 (.seq (.keep [4, 5, 7, 8, 9, 11, 21, 22] (.ops false [⟨(some 64), none, .mov (.t 4)⟩,
 ⟨(some 65), none, .mov (.t 9)⟩,
 ⟨(some 66), none, .idxA 1 (.t 64) (.t 65)⟩,
 ⟨(some 67), none, .load 1 false (.t 66)⟩,
 ⟨(some 68), none, .mov (.t 9)⟩,
 ⟨(some 69), none, .idxA 2 (.t 67) (.t 68)⟩,
 ⟨(some 70), none, .load 2 true (.t 69)⟩,
 ⟨(some 11), none, .alloc 2 (.agg [(.bool false), (.sl [])])⟩,
 ⟨none, none, .store 2 (.t 11) (.t 70)⟩]))
 (.seq (.seq (.keep [4, 5, 7, 8, 9, 11, 21, 22, 71, 72] (.ops false [⟨(some 71), none, .load 1 false (.t 7)⟩,
 ⟨(some 72), none, .mov (.c (.int .i64 0))⟩]))
 (.block 4 (.loop (.seq (.keep [4, 5, 7, 8, 9, 11, 21, 22, 71, 72, 73] (.ops false [⟨(some 73), none, .bin .lss (.t 72) (.t 71)⟩]))
 (.seq (.cond (.t 73) .skip
 (.exit 4))
 (.seq (.block 5 (.seq (.keep [4, 5, 7, 8, 9, 11, 12, 21, 22, 71, 72] (.ops false [⟨(some 74), none, .mov (.t 72)⟩,
 ⟨(some 12), none, .mov (.t 74)⟩]))
 (.seq (.seq (.keep [4, 5, 7, 8, 9, 11, 12, 21, 22, 71, 72, 77] (.ops false [⟨(some 75), none, .mov (.t 12)⟩,
 ⟨(some 76), none, .mov (.t 9)⟩,
 ⟨(some 77), none, .bin .eql (.t 75) (.t 76)⟩]))
 (.cond (.t 77) (.exit 5)
 .skip))
 (.seq (.keep [4, 5, 7, 8, 9, 11, 12, 13, 21, 22, 71, 72] (.ops false [⟨(some 78), none, .mov (.t 4)⟩,
 ⟨(some 79), none, .mov (.t 12)⟩,
 ⟨(some 80), none, .idxA 1 (.t 78) (.t 79)⟩,
 ⟨(some 81), none, .load 1 false (.t 80)⟩,
 ⟨(some 82), none, .mov (.t 9)⟩,
 ⟨(some 83), none, .idxA 2 (.t 81) (.t 82)⟩,
 ⟨(some 84), none, .load 2 true (.t 83)⟩,
 ⟨(some 13), none, .alloc 2 (.agg [(.bool false), (.sl [])])⟩,
 ⟨none, none, .store 2 (.t 13) (.t 84)⟩]))
 (.seq (.keep [4, 5, 7, 8, 9, 11, 12, 13, 21, 22, 71, 72, 89, 90] (.ops false [⟨(some 85), none, .mov (.t 4)⟩,
 ⟨(some 86), none, .mov (.t 12)⟩,
 ⟨(some 87), none, .idxA 1 (.t 85) (.t 86)⟩,
 ⟨(some 88), none, .load 1 false (.t 87)⟩,
 ⟨(some 89), none, .len false (.t 88)⟩,
 ⟨(some 90), none, .mov (.c (.int .i64 0))⟩]))
 (.block 6 (.loop (.seq (.keep [4, 5, 7, 8, 9, 11, 12, 13, 21, 22, 71, 72, 89, 90, 91] (.ops false [⟨(some 91), none, .bin .lss (.t 90) (.t 89)⟩]))
 (.seq (.cond (.t 91) .skip
 (.exit 6))
 (.seq (.block 7 (.seq (.keep [4, 5, 7, 8, 9, 11, 12, 13, 14, 21, 22, 71, 72, 89, 90] (.ops false [⟨(some 92), none, .mov (.t 90)⟩,
 ⟨(some 14), none, .mov (.t 92)⟩]))
 (.keep [4, 5, 7, 8, 9, 11, 12, 13, 21, 22, 71, 72, 89, 90] (.ops true [⟨(some 94), none, .mov (.t 4)⟩,
 ⟨(some 95), none, .mov (.t 12)⟩,
 ⟨(some 96), none, .idxA 1 (.t 94) (.t 95)⟩,
 ⟨(some 97), none, .load 1 false (.t 96)⟩,
 ⟨(some 98), none, .mov (.t 14)⟩,
 ⟨(some 99), none, .load 2 true (.t 11)⟩,
 ⟨(some 100), none, .mov (.t 4)⟩,
 ⟨(some 101), none, .mov (.t 12)⟩,
 ⟨(some 102), none, .idxA 1 (.t 100) (.t 101)⟩,
 ⟨(some 103), none, .load 1 false (.t 102)⟩,
 ⟨(some 104), none, .mov (.t 14)⟩,
 ⟨(some 105), none, .idxA 2 (.t 103) (.t 104)⟩,
 ⟨(some 106), none, .load 2 true (.t 105)⟩,
 ⟨(some 107), none, .call n_long_Int_Mul [(.t 99), (.t 106)]⟩,
 ⟨(some 108), none, .load 2 true (.t 13)⟩,
 ⟨(some 109), none, .mov (.t 4)⟩,
 ⟨(some 110), none, .mov (.t 9)⟩,
 ⟨(some 111), none, .idxA 1 (.t 109) (.t 110)⟩,
 ⟨(some 112), none, .load 1 false (.t 111)⟩,
 ⟨(some 113), none, .mov (.t 14)⟩,
 ⟨(some 114), none, .idxA 2 (.t 112) (.t 113)⟩,
 ⟨(some 115), none, .load 2 true (.t 114)⟩,
 ⟨(some 116), none, .call n_long_Int_Mul [(.t 108), (.t 115)]⟩,
 ⟨(some 117), none, .call n_long_Int_Sub [(.t 107), (.t 116)]⟩,
 ⟨(some 118), none, .load 2 true (.t 8)⟩,
 ⟨(some 119), none, .call n_long_Int_Quo [(.t 117), (.t 118)]⟩,
 ⟨(some 93), none, .mov (.t 119)⟩,
 ⟨(some 120), none, .ext (.t 93) 0⟩,
 ⟨(some 121), none, .ext (.t 93) 1⟩,
 ⟨(some 122), none, .ext (.t 93) 2⟩,
 ⟨(some 123), none, .idxA 2 (.t 97) (.t 98)⟩,
 ⟨none, none, .store 2 (.t 123) (.t 120)⟩]))))
 (.keep [4, 5, 7, 8, 9, 11, 12, 13, 21, 22, 71, 72, 89, 90] (.ops false [⟨(some 124), none, .bin .add (.t 90) (.c (.int .i64 1))⟩,
 ⟨(some 90), none, .mov (.t 124)⟩]))))))))))))
 (.keep [4, 5, 7, 8, 9, 11, 21, 22, 71, 72] (.ops false [⟨(some 125), none, .bin .add (.t 72) (.c (.int .i64 1))⟩,
 ⟨(some 72), none, .mov (.t 125)⟩]))))))))
 (.keep [4, 5, 7, 8, 21, 22] (.ops false [⟨(some 126), none, .load 2 true (.t 11)⟩,
 ⟨none, none, .store 2 (.t 8) (.t 126)⟩]))))))))))
 (.keep [4, 5, 7, 8, 21, 22] (.ops false [⟨(some 127), none, .bin .add (.t 22) (.c (.int .i64 1))⟩,
 ⟨(some 22), none, .mov (.t 127)⟩]))))))))
 (.seq (.keep [4, 5, 6] (.ops false [⟨(some 128), none, .mov (.t 4)⟩,
 ⟨(some 129), none, .mov (.t 5)⟩,
 ⟨(some 4), none, .mov (.t 128)⟩,
 ⟨(some 5), none, .mov (.t 129)⟩,
 ⟨(some 6), none, .mov (.c (.bool true))⟩]))
 .ret))))))
def lin_Mat_swept.res : List RX := [(4, none), (5, none), (6, none)]
theorem lin_Mat_swept.m : mK pg Try.f76.ntmps lin_Mat_swept.k (Try.f76.body.getD .skip) = true := by kernel_rfl
theorem lin_Mat_swept.mr : mRes pg Try.f76.results.toList lin_Mat_swept.res = true := by kernel_rfl
theorem lin_Mat_swept.of {args : List V} {r : V} (hn : args.length = 2) (hW : W pg lin_Mat_swept.k (done lin_Mat_swept.res r) (start args)) : Ret pg n_lin_Mat_swept args r :=
 Ret_of (fn := Try.f76) Try.func76 rfl (by kernel_rfl) lin_Mat_swept.m lin_Mat_swept.mr (by rw [hn]; exact of_decide_eq_true (by kernel_rfl)) hW
def lin_Mat_Solve_1.k : K :=
 (.seq (.keep [0, 1, 2, 3, 5] (.ops false [⟨(some 5), none, .alloc 2 (.agg [(.bool false), (.sl [])])⟩]))
 (.seq (.keep [5] (.ops true [⟨(some 6), none, .load 1 false (.t 1)⟩,
 ⟨(some 7), none, .mov (.t 0)⟩,
 ⟨(some 8), none, .idxA 1 (.t 6) (.t 7)⟩,
 ⟨(some 9), none, .load 1 false (.t 8)⟩,
 ⟨(some 10), none, .load 1 false (.t 2)⟩,
 ⟨(some 11), none, .len false (.t 10)⟩,
 ⟨(some 12), none, .idxA 2 (.t 9) (.t 11)⟩,
 ⟨(some 13), none, .load 2 true (.t 12)⟩,
 ⟨(some 14), none, .load 1 false (.t 3)⟩,
 ⟨(some 15), none, .call n_lin_turned [(.t 13), (.t 14)]⟩,
 ⟨none, none, .store 2 (.t 5) (.t 15)⟩]))
 .ret))
def lin_Mat_Solve_1.res : List RX := [(5, some (2, true))]
theorem lin_Mat_Solve_1.m : mK pg Try.f80.ntmps lin_Mat_Solve_1.k (Try.f80.body.getD .skip) = true := by kernel_rfl
theorem lin_Mat_Solve_1.mr : mRes pg Try.f80.results.toList lin_Mat_Solve_1.res = true := by kernel_rfl
theorem lin_Mat_Solve_1.of {args : List V} {r : V} (hn : args.length = 4) (hW : W pg lin_Mat_Solve_1.k (done lin_Mat_Solve_1.res r) (start args)) : Ret pg n_lin_Mat_Solve_1 args r :=
 Ret_of (fn := Try.f80) Try.func80 rfl (by kernel_rfl) lin_Mat_Solve_1.m lin_Mat_Solve_1.mr (by rw [hn]; exact of_decide_eq_true (by kernel_rfl)) hW
def lin_Mat_Apply_1.k : K :=
 (.seq (.keep [1, 2, 3, 4] (.ops false [⟨(some 3), none, .boxP (.t 0)⟩,
 ⟨(some 4), none, .alloc 2 (.agg [(.bool false), (.sl [])])⟩]))
 (.seq (.keep [4] (.ops false [⟨(some 5), none, .load 1 false (.t 1)⟩,
 ⟨(some 6), none, .len false (.t 5)⟩,
 ⟨(some 7), none, .mkFn n_lin_Mat_Apply_1_1 [(.t 1), (.t 3), (.t 2)]⟩,
 ⟨(some 8), none, .callG n_lin_sum [(.t 6), (.t 7)]⟩,
 ⟨none, none, .store 2 (.t 4) (.t 8)⟩]))
 .ret))
def lin_Mat_Apply_1.res : List RX := [(4, some (2, true))]
theorem lin_Mat_Apply_1.m : mK pg Try.f82.ntmps lin_Mat_Apply_1.k (Try.f82.body.getD .skip) = true := by kernel_rfl
theorem lin_Mat_Apply_1.mr : mRes pg Try.f82.results.toList lin_Mat_Apply_1.res = true := by kernel_rfl
theorem lin_Mat_Apply_1.of {args : List V} {r : V} (hn : args.length = 3) (hW : W pg lin_Mat_Apply_1.k (done lin_Mat_Apply_1.res r) (start args)) : Ret pg n_lin_Mat_Apply_1 args r :=
 Ret_of (fn := Try.f82) Try.func82 rfl (by kernel_rfl) lin_Mat_Apply_1.m lin_Mat_Apply_1.mr (by rw [hn]; exact of_decide_eq_true (by kernel_rfl)) hW
def lin_Mat_Apply_1_1.k : K :=
 (.seq (.keep [0, 1, 2, 3, 5, 6] (.ops false [⟨(some 5), none, .alloc 2 (.agg [(.bool false), (.sl [])])⟩,
 ⟨(some 6), none, .alloc 2 (.agg [(.bool false), (.sl [])])⟩]))
 (.seq (.keep [5, 6] (.ops true [⟨(some 7), none, .red (.ldP 1 false) [(.t 1)]⟩,
 ⟨(some 8), none, .red (.ldP 1 false) [(.t 2)]⟩,
 ⟨(some 9), none, .red (.ixP 1) [(.t 7), (.t 8)]⟩,
 ⟨(some 10), none, .red (.ldP 1 false) [(.t 9)]⟩,
 ⟨(some 11), none, .mov (.t 0)⟩,
 ⟨(some 12), none, .red (.ixP 2) [(.t 10), (.t 11)]⟩,
 ⟨(some 13), none, .red (.ldP 2 true) [(.t 12)]⟩,
 ⟨(some 14), none, .red (.ldP 1 false) [(.t 3)]⟩,
 ⟨(some 15), none, .mov (.t 0)⟩,
 ⟨(some 16), none, .red (.ixP 2) [(.t 14), (.t 15)]⟩,
 ⟨(some 17), none, .red (.ldP 2 true) [(.t 16)]⟩,
 ⟨none, none, .store 2 (.t 5) (.t 13)⟩,
 ⟨none, none, .store 2 (.t 6) (.t 17)⟩]))
 .ret))
def lin_Mat_Apply_1_1.res : List RX := [(5, some (2, true)), (6, some (2, true))]
theorem lin_Mat_Apply_1_1.m : mK pg Try.f83.ntmps lin_Mat_Apply_1_1.k (Try.f83.body.getD .skip) = true := by kernel_rfl
theorem lin_Mat_Apply_1_1.mr : mRes pg Try.f83.results.toList lin_Mat_Apply_1_1.res = true := by kernel_rfl
theorem lin_Mat_Apply_1_1.of {args : List V} {r : V} (hn : args.length = 4) (hW : W pg lin_Mat_Apply_1_1.k (done lin_Mat_Apply_1_1.res r) (start args)) : Ret pg n_lin_Mat_Apply_1_1 args r :=
 Ret_of (fn := Try.f83) Try.func83 rfl (by kernel_rfl) lin_Mat_Apply_1_1.m lin_Mat_Apply_1_1.mr (by rw [hn]; exact of_decide_eq_true (by kernel_rfl)) hW
def lin_Mat_swept_1.k : K :=
 (.seq (.keep [1, 2, 3, 4] (.ops false [⟨(some 4), none, .boxP (.t 0)⟩,
 ⟨(some 5), none, .mov (.c .nil)⟩]))
 (.seq (.keep [5] (.ops false [⟨(some 6), none, .load 1 false (.t 1)⟩,
 ⟨(some 7), none, .bin .add (.t 6) (.c (.int .i64 1))⟩,
 ⟨(some 8), none, .mkFn n_lin_Mat_swept_1_1 [(.t 1), (.t 2), (.t 4), (.t 3)]⟩,
 ⟨(some 9), none, .callG n_lin_list_long_Int [(.t 7), (.t 8)]⟩,
 ⟨(some 5), none, .mov (.t 9)⟩]))
 .ret))
def lin_Mat_swept_1.res : List RX := [(5, none)]
theorem lin_Mat_swept_1.m : mK pg Try.f93.ntmps lin_Mat_swept_1.k (Try.f93.body.getD .skip) = true := by kernel_rfl
theorem lin_Mat_swept_1.mr : mRes pg Try.f93.results.toList lin_Mat_swept_1.res = true := by kernel_rfl
theorem lin_Mat_swept_1.ofG {args : List V} {H : Hp} {n : Nat} {Q : V → Hp → Nat → Prop} (hn : args.length = 4) (hW : W pg lin_Mat_swept_1.k (doneG lin_Mat_swept_1.res (fun r H' n' => n ≤ n' ∧ Q r H' n')) (startG args H n)) : ∃ r H' n', Q r H' n' ∧ RetG pg n_lin_Mat_swept_1 args H n r H' n' :=
 RetG_of (fn := Try.f93) Try.func93 rfl (by kernel_rfl) lin_Mat_swept_1.m lin_Mat_swept_1.mr (by rw [hn]; exact of_decide_eq_true (by kernel_rfl)) hW
def lin_Mat_swept_1_1.k : K :=
 (.seq (.keep [0, 1, 2, 3, 4, 6] (.ops false [⟨(some 6), none, .alloc 2 (.agg [(.bool false), (.sl [])])⟩]))
 (.seq (.seq (.keep [0, 2, 3, 4, 6, 9] (.ops false [⟨(some 7), none, .mov (.t 0)⟩,
 ⟨(some 8), none, .load 1 false (.t 1)⟩,
 ⟨(some 9), none, .bin .lss (.t 7) (.t 8)⟩]))
 (.cond (.t 9) (.seq (.keep [6] (.ops false [⟨(some 10), none, .load 1 false (.t 2)⟩,
 ⟨(some 11), none, .load 1 false (.t 3)⟩,
 ⟨(some 12), none, .idxA 1 (.t 10) (.t 11)⟩,
 ⟨(some 13), none, .load 1 false (.t 12)⟩,
 ⟨(some 14), none, .mov (.t 0)⟩,
 ⟨(some 15), none, .idxA 2 (.t 13) (.t 14)⟩,
 ⟨(some 16), none, .load 2 true (.t 15)⟩,
 ⟨none, none, .store 2 (.t 6) (.t 16)⟩]))
 .ret)
 .skip))
 (.seq (.keep [6] (.ops false [⟨(some 17), none, .load 1 false (.t 4)⟩,
 ⟨(some 18), none, .load 1 false (.t 3)⟩,
 ⟨(some 19), none, .idxA 2 (.t 17) (.t 18)⟩,
 ⟨(some 20), none, .load 2 true (.t 19)⟩,
 ⟨none, none, .store 2 (.t 6) (.t 20)⟩]))
 .ret)))
def lin_Mat_swept_1_1.res : List RX := [(6, some (2, true))]
theorem lin_Mat_swept_1_1.m : mK pg Try.f94.ntmps lin_Mat_swept_1_1.k (Try.f94.body.getD .skip) = true := by kernel_rfl
theorem lin_Mat_swept_1_1.mr : mRes pg Try.f94.results.toList lin_Mat_swept_1_1.res = true := by kernel_rfl
theorem lin_Mat_swept_1_1.of {args : List V} {r : V} (hn : args.length = 5) (hW : W pg lin_Mat_swept_1_1.k (done lin_Mat_swept_1_1.res r) (start args)) : Ret pg n_lin_Mat_swept_1_1 args r :=
 Ret_of (fn := Try.f94) Try.func94 rfl (by kernel_rfl) lin_Mat_swept_1_1.m lin_Mat_swept_1_1.mr (by rw [hn]; exact of_decide_eq_true (by kernel_rfl)) hW
def quad_Of.k : K :=
 (.seq (.keep [0, 1, 2, 6] (.ops false [⟨(some 6), none, .alloc 4 (.agg [.nil, .nil, (.bool false), (.sl [])])⟩,
 ⟨(some 7), none, .mov (.c (.int .i64 0))⟩]))
 (.seq (.keep [1, 2, 6, 8, 9] (.ops false [⟨(some 14), none, .mov (.t 0)⟩,
 ⟨(some 15), none, .callG n_lin_Of [(.t 14)]⟩,
 ⟨(some 13), none, .mov (.t 15)⟩,
 ⟨(some 16), none, .ext (.t 13) 0⟩,
 ⟨(some 17), none, .ext (.t 13) 1⟩,
 ⟨(some 8), none, .mov (.t 16)⟩,
 ⟨(some 9), none, .mov (.t 17)⟩]))
 (.seq (.block 0 (.seq (.keep [1, 2, 6, 8, 9, 18] (.ops false [⟨(some 19), none, .mov (.t 9)⟩,
 ⟨(some 20), none, .bin .neq (.t 19) (.c (.int .i64 0))⟩,
 ⟨(some 18), none, .mov (.t 20)⟩]))
 (.cond (.t 18) (.seq (.keep [6, 7] (.ops false [⟨(some 21), none, .build [.nil, .nil, (.bool false), (.sl [])] []⟩,
 ⟨(some 22), none, .mov (.t 9)⟩,
 ⟨none, none, .store 4 (.t 6) (.t 21)⟩,
 ⟨(some 7), none, .mov (.t 22)⟩]))
 .ret)
 (.seq (.keep [1, 2, 6, 8, 23] (.ops false [⟨(some 24), none, .mov (.t 1)⟩,
 ⟨(some 25), none, .len false (.t 24)⟩,
 ⟨(some 26), none, .mov (.t 8)⟩,
 ⟨(some 27), none, .len false (.t 26)⟩,
 ⟨(some 28), none, .bin .neq (.t 25) (.t 27)⟩,
 ⟨(some 29), none, .mov (.t 28)⟩,
 ⟨(some 30), (some (29, false)), .mov (.t 8)⟩,
 ⟨(some 31), (some (29, false)), .mov (.t 8)⟩,
 ⟨(some 32), (some (29, false)), .callG n_lin_Mat_Turned [(.t 31)]⟩,
 ⟨(some 33), (some (29, false)), .callG n_quad_same [(.t 30), (.t 32)]⟩,
 ⟨(some 34), (some (29, false)), .un .not (.t 33)⟩,
 ⟨(some 35), none, .pick (.t 29) (.c (.bool true)) (.t 34)⟩,
 ⟨(some 23), none, .mov (.t 35)⟩]))
 (.cond (.t 23) (.seq (.keep [6, 7] (.ops false [⟨(some 36), none, .build [.nil, .nil, (.bool false), (.sl [])] []⟩,
 ⟨none, none, .store 4 (.t 6) (.t 36)⟩,
 ⟨(some 7), none, .mov (.c (.int .i64 1))⟩]))
 .ret)
 .skip)))))
 (.seq (.keep [1, 6, 10] (.ops false [⟨(some 37), none, .mov (.t 8)⟩,
 ⟨(some 38), none, .mov (.t 2)⟩,
 ⟨(some 39), none, .callG n_long_Of [(.t 38)]⟩,
 ⟨(some 40), none, .build [.nil, .nil, (.bool false), (.sl [])] [(0, 1, (.t 37)), (2, 2, (.t 39))]⟩,
 ⟨(some 10), none, .alloc 4 (.agg [.nil, .nil, (.bool false), (.sl [])])⟩,
 ⟨none, none, .store 4 (.t 10) (.t 40)⟩]))
 (.seq (.seq (.keep [6, 10, 41, 42, 43] (.ops false [⟨(some 41), none, .mov (.t 1)⟩,
 ⟨(some 42), none, .len false (.t 41)⟩,
 ⟨(some 43), none, .mov (.c (.int .i64 0))⟩]))
 (.block 1 (.loop (.seq (.keep [6, 10, 41, 42, 43, 44] (.ops false [⟨(some 44), none, .bin .lss (.t 43) (.t 42)⟩]))
 (.seq (.cond (.t 44) .skip
 (.exit 1))
 (.seq (.block 2 (.seq (.keep [6, 10, 12, 41, 42, 43] (.ops false [⟨(some 45), none, .idxA 1 (.t 41) (.t 43)⟩,
 ⟨(some 46), none, .load 1 false (.t 45)⟩,
 ⟨(some 12), none, .mov (.t 46)⟩]))
 (.keep [6, 10, 41, 42, 43] (.ops true [⟨(some 47), none, .fldA 1 1 false (.t 10)⟩,
 ⟨(some 48), none, .load 1 false (.t 47)⟩,
 ⟨(some 49), none, .mov (.t 12)⟩,
 ⟨(some 50), none, .call n_long_Of [(.t 49)]⟩,
 ⟨(some 51), none, .new (.bsl 2) [(.t 50)]⟩,
 ⟨(some 52), none, .eff (.app 2 32) [(.t 48), (.t 51)]⟩,
 ⟨(some 53), none, .fldA 1 1 false (.t 10)⟩,
 ⟨none, none, .store 1 (.t 53) (.t 52)⟩]))))
 (.keep [6, 10, 41, 42, 43] (.ops false [⟨(some 54), none, .bin .add (.t 43) (.c (.int .i64 1))⟩,
 ⟨(some 43), none, .mov (.t 54)⟩]))))))))
 (.seq (.keep [6, 7] (.ops false [⟨(some 55), none, .load 4 true (.t 10)⟩,
 ⟨none, none, .store 4 (.t 6) (.t 55)⟩,
 ⟨(some 7), none, .mov (.c (.int .i64 0))⟩]))
 .ret))))))
def quad_Of.res : List RX := [(6, some (4, true)), (7, none)]
theorem quad_Of.m : mK pg Try.f28.ntmps quad_Of.k (Try.f28.body.getD .skip) = true := by kernel_rfl
theorem quad_Of.mr : mRes pg Try.f28.results.toList quad_Of.res = true := by kernel_rfl
theorem quad_Of.of {args : List V} {r : V} (hn : args.length = 3) (hW : W pg quad_Of.k (done quad_Of.res r) (start args)) : Ret pg n_quad_Of args r :=
 Ret_of (fn := Try.f28) Try.func28 rfl (by kernel_rfl) quad_Of.m quad_Of.mr (by rw [hn]; exact of_decide_eq_true (by kernel_rfl)) hW
def quad_first.k : K :=
 (.seq (.keep [0, 1] (.ops false [⟨(some 4), none, .mov (.c .nil)⟩]))
 (.seq (.keep [0, 1, 5] (.ops false [⟨(some 5), none, .mov (.c .nil)⟩]))
 (.seq (.seq (.keep [1, 5, 10, 11, 12] (.ops false [⟨(some 8), none, .mov (.t 0)⟩,
 ⟨(some 9), none, .mov (.t 1)⟩,
 ⟨(some 10), none, .red (.slc 1 false true false) [(.t 8), (.t 9)]⟩,
 ⟨(some 11), none, .len false (.t 10)⟩,
 ⟨(some 12), none, .mov (.c (.int .i64 0))⟩]))
 (.block 0 (.loop (.seq (.keep [1, 5, 10, 11, 12, 13] (.ops false [⟨(some 13), none, .bin .lss (.t 12) (.t 11)⟩]))
 (.seq (.cond (.t 13) .skip
 (.exit 0))
 (.seq (.block 1 (.seq (.keep [1, 5, 7, 10, 11, 12] (.ops false [⟨(some 14), none, .idxA 1 (.t 10) (.t 12)⟩,
 ⟨(some 15), none, .load 1 false (.t 14)⟩,
 ⟨(some 7), none, .mov (.t 15)⟩]))
 (.gh (.keep [1, 5, 10, 11, 12] (.ops false [⟨(some 16), none, .mov (.t 5)⟩,
 ⟨(some 17), none, .mov (.t 7)⟩,
 ⟨(some 18), none, .mov (.t 1)⟩,
 ⟨(some 19), none, .mov (.t 1)⟩,
 ⟨(some 20), none, .red (.slc 2 false true true) [(.t 17), (.t 18), (.t 19)]⟩,
 ⟨(some 21), none, .new (.bsl 1) [(.t 20)]⟩,
 ⟨(some 22), none, .eff (.app 1 24) [(.t 16), (.t 21)]⟩,
 ⟨(some 5), none, .mov (.t 22)⟩])))))
 (.keep [1, 5, 10, 11, 12] (.ops false [⟨(some 23), none, .bin .add (.t 12) (.c (.int .i64 1))⟩,
 ⟨(some 12), none, .mov (.t 23)⟩]))))))))
 (.seq (.keep [4] (.ops false [⟨(some 24), none, .mov (.t 5)⟩,
 ⟨(some 4), none, .mov (.t 24)⟩]))
 .ret))))
def quad_first.res : List RX := [(4, none)]
theorem quad_first.m : mK pg Try.f42.ntmps quad_first.k (Try.f42.body.getD .skip) = true := by kernel_rfl
theorem quad_first.mr : mRes pg Try.f42.results.toList quad_first.res = true := by kernel_rfl
theorem quad_first.of {args : List V} {r : V} (hn : args.length = 2) (hW : W pg quad_first.k (done quad_first.res r) (start args)) : Ret pg n_quad_first args r :=
 Ret_of (fn := Try.f42) Try.func42 rfl (by kernel_rfl) quad_first.m quad_first.mr (by rw [hn]; exact of_decide_eq_true (by kernel_rfl)) hW
def quad_dot.k : K :=
 (.seq (.keep [0, 1, 4] (.ops false [⟨(some 4), none, .alloc 2 (.agg [(.bool false), (.sl [])])⟩]))
 (.seq (.keep [0, 1, 4, 5] (.ops false [⟨(some 5), none, .alloc 2 (.agg [(.bool false), (.sl [])])⟩]))
 (.seq (.seq (.keep [0, 1, 4, 5, 8, 9] (.ops false [⟨(some 7), none, .mov (.t 0)⟩,
 ⟨(some 8), none, .len false (.t 7)⟩,
 ⟨(some 9), none, .mov (.c (.int .i64 0))⟩]))
 (.block 0 (.loop (.seq (.keep [0, 1, 4, 5, 8, 9, 10] (.ops false [⟨(some 10), none, .bin .lss (.t 9) (.t 8)⟩]))
 (.seq (.cond (.t 10) .skip
 (.exit 0))
 (.seq (.block 1 (.seq (.keep [0, 1, 4, 5, 6, 8, 9] (.ops false [⟨(some 11), none, .mov (.t 9)⟩,
 ⟨(some 6), none, .mov (.t 11)⟩]))
 (.keep [0, 1, 4, 5, 8, 9] (.ops true [⟨(some 12), none, .load 2 true (.t 5)⟩,
 ⟨(some 13), none, .mov (.t 0)⟩,
 ⟨(some 14), none, .mov (.t 6)⟩,
 ⟨(some 15), none, .idxA 2 (.t 13) (.t 14)⟩,
 ⟨(some 16), none, .load 2 true (.t 15)⟩,
 ⟨(some 17), none, .mov (.t 1)⟩,
 ⟨(some 18), none, .mov (.t 6)⟩,
 ⟨(some 19), none, .idxA 2 (.t 17) (.t 18)⟩,
 ⟨(some 20), none, .load 2 true (.t 19)⟩,
 ⟨(some 21), none, .call n_long_Int_Mul [(.t 16), (.t 20)]⟩,
 ⟨(some 22), none, .call n_long_Int_Add [(.t 12), (.t 21)]⟩,
 ⟨none, none, .store 2 (.t 5) (.t 22)⟩]))))
 (.keep [0, 1, 4, 5, 8, 9] (.ops false [⟨(some 23), none, .bin .add (.t 9) (.c (.int .i64 1))⟩,
 ⟨(some 9), none, .mov (.t 23)⟩]))))))))
 (.seq (.keep [4] (.ops false [⟨(some 24), none, .load 2 true (.t 5)⟩,
 ⟨none, none, .store 2 (.t 4) (.t 24)⟩]))
 .ret))))
def quad_dot.res : List RX := [(4, some (2, true))]
theorem quad_dot.m : mK pg Try.f47.ntmps quad_dot.k (Try.f47.body.getD .skip) = true := by kernel_rfl
theorem quad_dot.mr : mRes pg Try.f47.results.toList quad_dot.res = true := by kernel_rfl
theorem quad_dot.of {args : List V} {r : V} (hn : args.length = 2) (hW : W pg quad_dot.k (done quad_dot.res r) (start args)) : Ret pg n_quad_dot args r :=
 Ret_of (fn := Try.f47) Try.func47 rfl (by kernel_rfl) quad_dot.m quad_dot.mr (by rw [hn]; exact of_decide_eq_true (by kernel_rfl)) hW
def quad_same.k : K :=
 (.seq (.keep [0, 1] (.ops false [⟨(some 4), none, .mov (.c (.bool false))⟩]))
 (.seq (.seq (.keep [0, 1, 8, 9] (.ops false [⟨(some 7), none, .mov (.t 0)⟩,
 ⟨(some 8), none, .len false (.t 7)⟩,
 ⟨(some 9), none, .mov (.c (.int .i64 0))⟩]))
 (.block 0 (.loop (.seq (.keep [0, 1, 8, 9, 10] (.ops false [⟨(some 10), none, .bin .lss (.t 9) (.t 8)⟩]))
 (.seq (.cond (.t 10) .skip
 (.exit 0))
 (.seq (.block 1 (.seq (.keep [0, 1, 5, 8, 9] (.ops false [⟨(some 11), none, .mov (.t 9)⟩,
 ⟨(some 5), none, .mov (.t 11)⟩]))
 (.seq (.keep [0, 1, 5, 8, 9, 16, 17] (.ops false [⟨(some 12), none, .mov (.t 0)⟩,
 ⟨(some 13), none, .mov (.t 5)⟩,
 ⟨(some 14), none, .idxA 1 (.t 12) (.t 13)⟩,
 ⟨(some 15), none, .load 1 false (.t 14)⟩,
 ⟨(some 16), none, .len false (.t 15)⟩,
 ⟨(some 17), none, .mov (.c (.int .i64 0))⟩]))
 (.block 2 (.loop (.seq (.keep [0, 1, 5, 8, 9, 16, 17, 18] (.ops false [⟨(some 18), none, .bin .lss (.t 17) (.t 16)⟩]))
 (.seq (.cond (.t 18) .skip
 (.exit 2))
 (.seq (.block 3 (.seq (.keep [0, 1, 5, 6, 8, 9, 16, 17] (.ops false [⟨(some 19), none, .mov (.t 17)⟩,
 ⟨(some 6), none, .mov (.t 19)⟩]))
 (.seq (.keep [0, 1, 5, 8, 9, 16, 17, 35] (.ops true [⟨(some 20), none, .mov (.t 0)⟩,
 ⟨(some 21), none, .mov (.t 5)⟩,
 ⟨(some 22), none, .idxA 1 (.t 20) (.t 21)⟩,
 ⟨(some 23), none, .load 1 false (.t 22)⟩,
 ⟨(some 24), none, .mov (.t 6)⟩,
 ⟨(some 25), none, .idxA 2 (.t 23) (.t 24)⟩,
 ⟨(some 26), none, .load 2 true (.t 25)⟩,
 ⟨(some 27), none, .mov (.t 1)⟩,
 ⟨(some 28), none, .mov (.t 5)⟩,
 ⟨(some 29), none, .idxA 1 (.t 27) (.t 28)⟩,
 ⟨(some 30), none, .load 1 false (.t 29)⟩,
 ⟨(some 31), none, .mov (.t 6)⟩,
 ⟨(some 32), none, .idxA 2 (.t 30) (.t 31)⟩,
 ⟨(some 33), none, .load 2 true (.t 32)⟩,
 ⟨(some 34), none, .call n_long_Int_Cmp [(.t 26), (.t 33)]⟩,
 ⟨(some 35), none, .bin .neq (.t 34) (.c (.int .i64 0))⟩]))
 (.cond (.t 35) (.seq (.keep [4] (.ops false [⟨(some 4), none, .mov (.c (.bool false))⟩]))
 .ret)
 .skip))))
 (.keep [0, 1, 5, 8, 9, 16, 17] (.ops false [⟨(some 36), none, .bin .add (.t 17) (.c (.int .i64 1))⟩,
 ⟨(some 17), none, .mov (.t 36)⟩]))))))))))
 (.keep [0, 1, 8, 9] (.ops false [⟨(some 37), none, .bin .add (.t 9) (.c (.int .i64 1))⟩,
 ⟨(some 9), none, .mov (.t 37)⟩]))))))))
 (.seq (.keep [4] (.ops false [⟨(some 4), none, .mov (.c (.bool true))⟩]))
 .ret)))
def quad_same.res : List RX := [(4, none)]
theorem quad_same.m : mK pg Try.f66.ntmps quad_same.k (Try.f66.body.getD .skip) = true := by kernel_rfl
theorem quad_same.mr : mRes pg Try.f66.results.toList quad_same.res = true := by kernel_rfl
theorem quad_same.of {args : List V} {r : V} (hn : args.length = 2) (hW : W pg quad_same.k (done quad_same.res r) (start args)) : Ret pg n_quad_same args r :=
 Ret_of (fn := Try.f66) Try.func66 rfl (by kernel_rfl) quad_same.m quad_same.mr (by rw [hn]; exact of_decide_eq_true (by kernel_rfl)) hW
def quad_sums.k : K :=
 (.seq (.keep [0, 1] (.ops false [⟨(some 4), none, .mov (.c .nil)⟩]))
 (.seq (.keep [1, 5] (.ops false [⟨(some 9), none, .mov (.t 0)⟩,
 ⟨(some 10), none, .red (.slc 2 false true true) [(.t 9), (.c (.int .i64 0)), (.c (.int .i64 0))]⟩,
 ⟨(some 11), none, .mov (.t 0)⟩,
 ⟨(some 12), none, .eff (.app 2 32) [(.t 10), (.t 11)]⟩,
 ⟨(some 5), none, .mov (.t 12)⟩]))
 (.seq (.seq (.keep [5, 13, 14, 15] (.ops false [⟨(some 13), none, .mov (.t 1)⟩,
 ⟨(some 14), none, .len false (.t 13)⟩,
 ⟨(some 15), none, .mov (.c (.int .i64 0))⟩]))
 (.block 0 (.loop (.seq (.keep [5, 13, 14, 15, 16] (.ops false [⟨(some 16), none, .bin .lss (.t 15) (.t 14)⟩]))
 (.seq (.cond (.t 16) .skip
 (.exit 0))
 (.seq (.block 1 (.seq (.keep [5, 7, 13, 14, 15] (.ops false [⟨(some 17), none, .idxA 1 (.t 13) (.t 15)⟩,
 ⟨(some 18), none, .load 1 false (.t 17)⟩,
 ⟨(some 7), none, .mov (.t 18)⟩]))
 (.seq (.keep [5, 7, 13, 14, 15, 20, 21] (.ops false [⟨(some 19), none, .mov (.t 5)⟩,
 ⟨(some 20), none, .len false (.t 19)⟩,
 ⟨(some 21), none, .mov (.c (.int .i64 0))⟩]))
 (.block 2 (.loop (.seq (.keep [5, 7, 13, 14, 15, 20, 21, 22] (.ops false [⟨(some 22), none, .bin .lss (.t 21) (.t 20)⟩]))
 (.seq (.cond (.t 22) .skip
 (.exit 2))
 (.seq (.block 3 (.seq (.keep [5, 7, 8, 13, 14, 15, 20, 21] (.ops false [⟨(some 23), none, .mov (.t 21)⟩,
 ⟨(some 8), none, .mov (.t 23)⟩]))
 (.keep [5, 7, 13, 14, 15, 20, 21] (.ops true [⟨(some 24), none, .mov (.t 5)⟩,
 ⟨(some 25), none, .mov (.t 8)⟩,
 ⟨(some 26), none, .mov (.t 5)⟩,
 ⟨(some 27), none, .mov (.t 8)⟩,
 ⟨(some 28), none, .idxA 2 (.t 26) (.t 27)⟩,
 ⟨(some 29), none, .load 2 true (.t 28)⟩,
 ⟨(some 30), none, .mov (.t 7)⟩,
 ⟨(some 31), none, .mov (.t 8)⟩,
 ⟨(some 32), none, .idxA 2 (.t 30) (.t 31)⟩,
 ⟨(some 33), none, .load 2 true (.t 32)⟩,
 ⟨(some 34), none, .call n_long_Int_Add [(.t 29), (.t 33)]⟩,
 ⟨(some 35), none, .idxA 2 (.t 24) (.t 25)⟩,
 ⟨none, none, .store 2 (.t 35) (.t 34)⟩]))))
 (.keep [5, 7, 13, 14, 15, 20, 21] (.ops false [⟨(some 36), none, .bin .add (.t 21) (.c (.int .i64 1))⟩,
 ⟨(some 21), none, .mov (.t 36)⟩]))))))))))
 (.keep [5, 13, 14, 15] (.ops false [⟨(some 37), none, .bin .add (.t 15) (.c (.int .i64 1))⟩,
 ⟨(some 15), none, .mov (.t 37)⟩]))))))))
 (.seq (.keep [4] (.ops false [⟨(some 38), none, .mov (.t 5)⟩,
 ⟨(some 4), none, .mov (.t 38)⟩]))
 .ret))))
def quad_sums.res : List RX := [(4, none)]
theorem quad_sums.m : mK pg Try.f73.ntmps quad_sums.k (Try.f73.body.getD .skip) = true := by kernel_rfl
theorem quad_sums.mr : mRes pg Try.f73.results.toList quad_sums.res = true := by kernel_rfl
theorem quad_sums.of {args : List V} {r : V} (hn : args.length = 2) (hW : W pg quad_sums.k (done quad_sums.res r) (start args)) : Ret pg n_quad_sums args r :=
 Ret_of (fn := Try.f73) Try.func73 rfl (by kernel_rfl) quad_sums.m quad_sums.mr (by rw [hn]; exact of_decide_eq_true (by kernel_rfl)) hW
def quad_Quad_Without.k : K :=
 (.seq (.keep [1, 2, 4, 5] (.ops false [⟨(some 2), none, .boxP (.t 0)⟩,
 ⟨(some 4), none, .alloc 4 (.agg [.nil, .nil, (.bool false), (.sl [])])⟩,
 ⟨(some 5), none, .alloc 2 (.agg [(.bool false), (.sl [])])⟩,
 ⟨(some 6), none, .mov (.c (.int .i64 0))⟩]))
 (.seq (.seq (.keep [1, 2, 4, 5, 25] (.ops false [⟨(some 17), none, .mov (.t 1)⟩,
 ⟨(some 18), none, .bin .lss (.t 17) (.c (.int .i64 0))⟩,
 ⟨(some 19), none, .mov (.t 18)⟩,
 ⟨(some 20), (some (19, false)), .mov (.t 1)⟩,
 ⟨(some 21), (some (19, false)), .fldA 0 1 false (.t 2)⟩,
 ⟨(some 22), (some (19, false)), .load 1 false (.t 21)⟩,
 ⟨(some 23), (some (19, false)), .len false (.t 22)⟩,
 ⟨(some 24), (some (19, false)), .bin .gtr (.t 20) (.t 23)⟩,
 ⟨(some 25), none, .pick (.t 19) (.c (.bool true)) (.t 24)⟩]))
 (.cond (.t 25) (.seq (.keep [4, 5, 6] (.ops false [⟨(some 26), none, .build [.nil, .nil, (.bool false), (.sl [])] []⟩,
 ⟨(some 27), none, .build [(.bool false), (.sl [])] []⟩,
 ⟨none, none, .store 4 (.t 4) (.t 26)⟩,
 ⟨none, none, .store 2 (.t 5) (.t 27)⟩,
 ⟨(some 6), none, .mov (.c (.int .i64 1))⟩]))
 .ret)
 .skip))
 (.seq (.keep [1, 2, 4, 5, 7] (.ops false [⟨(some 28), none, .fldA 0 1 false (.t 2)⟩,
 ⟨(some 29), none, .load 1 false (.t 28)⟩,
 ⟨(some 30), none, .mov (.t 1)⟩,
 ⟨(some 31), none, .callG n_quad_first [(.t 29), (.t 30)]⟩,
 ⟨(some 7), none, .mov (.t 31)⟩]))
 (.seq (.seq (.keep [1, 2, 4, 5, 7, 34] (.ops false [⟨(some 32), none, .mov (.t 7)⟩,
 ⟨(some 33), none, .callG n_lin_Mat_Definite [(.t 32)]⟩,
 ⟨(some 34), none, .un .not (.t 33)⟩]))
 (.cond (.t 34) (.seq (.keep [4, 5, 6] (.ops false [⟨(some 35), none, .build [.nil, .nil, (.bool false), (.sl [])] []⟩,
 ⟨(some 36), none, .build [(.bool false), (.sl [])] []⟩,
 ⟨none, none, .store 4 (.t 4) (.t 35)⟩,
 ⟨none, none, .store 2 (.t 5) (.t 36)⟩,
 ⟨(some 6), none, .mov (.c (.int .i64 80))⟩]))
 .ret)
 .skip))
 (.seq (.keep [1, 2, 4, 5, 7] (.ops false [⟨(some 37), none, .mov (.t 7)⟩,
 ⟨(some 38), none, .callG n_lin_Mat_Det [(.t 37)]⟩,
 ⟨none, none, .store 2 (.t 5) (.t 38)⟩]))
 (.seq (.keep [1, 2, 4, 5, 7, 8] (.ops false [⟨(some 40), none, .mov (.t 7)⟩,
 ⟨(some 41), none, .fldA 1 1 false (.t 2)⟩,
 ⟨(some 42), none, .load 1 false (.t 41)⟩,
 ⟨(some 43), none, .mov (.t 1)⟩,
 ⟨(some 44), none, .red (.slc 2 false true false) [(.t 42), (.t 43)]⟩,
 ⟨(some 45), none, .callG n_lin_Mat_Solve [(.t 40), (.t 44)]⟩,
 ⟨(some 39), none, .mov (.t 45)⟩,
 ⟨(some 46), none, .ext (.t 39) 0⟩,
 ⟨(some 47), none, .ext (.t 39) 1⟩,
 ⟨(some 48), none, .ext (.t 39) 2⟩,
 ⟨(some 9), none, .alloc 2 (.agg [(.bool false), (.sl [])])⟩,
 ⟨(some 8), none, .mov (.t 46)⟩,
 ⟨none, none, .store 2 (.t 9) (.t 47)⟩,
 ⟨(some 10), none, .mov (.t 48)⟩]))
 (.seq (.keep [1, 2, 4, 5, 7, 8] (.ops true [⟨(some 49), none, .fldA 2 2 true (.t 2)⟩,
 ⟨(some 50), none, .load 2 true (.t 49)⟩,
 ⟨(some 51), none, .load 2 true (.t 5)⟩,
 ⟨(some 52), none, .call n_long_Int_Mul [(.t 50), (.t 51)]⟩,
 ⟨(some 53), none, .fldA 1 1 false (.t 2)⟩,
 ⟨(some 54), none, .load 1 false (.t 53)⟩,
 ⟨(some 55), none, .mov (.t 1)⟩,
 ⟨(some 56), none, .red (.slc 2 false true false) [(.t 54), (.t 55)]⟩,
 ⟨(some 57), none, .mov (.t 8)⟩,
 ⟨(some 58), none, .call n_quad_dot [(.t 56), (.t 57)]⟩,
 ⟨(some 59), none, .call n_long_Int_Sub [(.t 52), (.t 58)]⟩,
 ⟨(some 60), none, .fldA 2 2 true (.t 4)⟩,
 ⟨none, none, .store 2 (.t 60) (.t 59)⟩]))
 (.seq (.seq (.keep [1, 2, 4, 5, 7, 8, 11] (.ops false [⟨(some 61), none, .mov (.t 1)⟩,
 ⟨(some 11), none, .mov (.t 61)⟩]))
 (.block 0 (.loop (.seq (.seq (.keep [1, 2, 4, 5, 7, 8, 11, 66] (.ops false [⟨(some 62), none, .mov (.t 11)⟩,
 ⟨(some 63), none, .fldA 0 1 false (.t 2)⟩,
 ⟨(some 64), none, .load 1 false (.t 63)⟩,
 ⟨(some 65), none, .len false (.t 64)⟩,
 ⟨(some 66), none, .bin .lss (.t 62) (.t 65)⟩]))
 (.cond (.t 66) .skip
 (.exit 0)))
 (.seq (.block 1 (.seq (.keep [1, 2, 4, 5, 7, 8, 11, 12] (.ops false [⟨(some 70), none, .mov (.t 7)⟩,
 ⟨(some 71), none, .fldA 0 1 false (.t 2)⟩,
 ⟨(some 72), none, .load 1 false (.t 71)⟩,
 ⟨(some 73), none, .mov (.t 11)⟩,
 ⟨(some 74), none, .idxA 1 (.t 72) (.t 73)⟩,
 ⟨(some 75), none, .load 1 false (.t 74)⟩,
 ⟨(some 76), none, .mov (.t 1)⟩,
 ⟨(some 77), none, .red (.slc 2 false true false) [(.t 75), (.t 76)]⟩,
 ⟨(some 78), none, .callG n_lin_Mat_Solve [(.t 70), (.t 77)]⟩,
 ⟨(some 69), none, .mov (.t 78)⟩,
 ⟨(some 79), none, .ext (.t 69) 0⟩,
 ⟨(some 80), none, .ext (.t 69) 1⟩,
 ⟨(some 81), none, .ext (.t 69) 2⟩,
 ⟨(some 13), none, .alloc 2 (.agg [(.bool false), (.sl [])])⟩,
 ⟨(some 12), none, .mov (.t 79)⟩,
 ⟨none, none, .store 2 (.t 13) (.t 80)⟩,
 ⟨(some 14), none, .mov (.t 81)⟩]))
 (.seq (.keep [1, 2, 4, 5, 7, 8, 11, 12, 15] (.ops false [⟨(some 15), none, .mov (.c .nil)⟩]))
 (.seq (.seq (.keep [1, 2, 4, 5, 7, 8, 11, 12, 15, 16] (.ops false [⟨(some 82), none, .mov (.t 1)⟩,
 ⟨(some 16), none, .mov (.t 82)⟩]))
 (.block 2 (.loop (.seq (.seq (.keep [1, 2, 4, 5, 7, 8, 11, 12, 15, 16, 87] (.ops false [⟨(some 83), none, .mov (.t 16)⟩,
 ⟨(some 84), none, .fldA 0 1 false (.t 2)⟩,
 ⟨(some 85), none, .load 1 false (.t 84)⟩,
 ⟨(some 86), none, .len false (.t 85)⟩,
 ⟨(some 87), none, .bin .lss (.t 83) (.t 86)⟩]))
 (.cond (.t 87) .skip
 (.exit 2)))
 (.seq (.block 3 (.keep [1, 2, 4, 5, 7, 8, 11, 12, 15, 16] (.ops true [⟨(some 90), none, .mov (.t 15)⟩,
 ⟨(some 91), none, .fldA 0 1 false (.t 2)⟩,
 ⟨(some 92), none, .load 1 false (.t 91)⟩,
 ⟨(some 93), none, .mov (.t 11)⟩,
 ⟨(some 94), none, .idxA 1 (.t 92) (.t 93)⟩,
 ⟨(some 95), none, .load 1 false (.t 94)⟩,
 ⟨(some 96), none, .mov (.t 16)⟩,
 ⟨(some 97), none, .idxA 2 (.t 95) (.t 96)⟩,
 ⟨(some 98), none, .load 2 true (.t 97)⟩,
 ⟨(some 99), none, .load 2 true (.t 5)⟩,
 ⟨(some 100), none, .call n_long_Int_Mul [(.t 98), (.t 99)]⟩,
 ⟨(some 101), none, .mov (.t 12)⟩,
 ⟨(some 102), none, .fldA 0 1 false (.t 2)⟩,
 ⟨(some 103), none, .load 1 false (.t 102)⟩,
 ⟨(some 104), none, .mov (.t 16)⟩,
 ⟨(some 105), none, .idxA 1 (.t 103) (.t 104)⟩,
 ⟨(some 106), none, .load 1 false (.t 105)⟩,
 ⟨(some 107), none, .mov (.t 1)⟩,
 ⟨(some 108), none, .red (.slc 2 false true false) [(.t 106), (.t 107)]⟩,
 ⟨(some 109), none, .call n_quad_dot [(.t 101), (.t 108)]⟩,
 ⟨(some 110), none, .call n_long_Int_Sub [(.t 100), (.t 109)]⟩,
 ⟨(some 111), none, .new (.bsl 2) [(.t 110)]⟩,
 ⟨(some 112), none, .eff (.app 2 32) [(.t 90), (.t 111)]⟩,
 ⟨(some 15), none, .mov (.t 112)⟩])))
 (.keep [1, 2, 4, 5, 7, 8, 11, 12, 15, 16] (.ops false [⟨(some 88), none, .mov (.t 16)⟩,
 ⟨(some 89), none, .bin .add (.t 88) (.c (.int .i64 1))⟩,
 ⟨(some 16), none, .mov (.t 89)⟩])))))))
 (.seq (.gh (.keep [1, 2, 4, 5, 7, 8, 11] (.ops false [⟨(some 113), none, .fldA 0 1 false (.t 4)⟩,
 ⟨(some 114), none, .load 1 false (.t 113)⟩,
 ⟨(some 115), none, .mov (.t 15)⟩,
 ⟨(some 116), none, .new (.bsl 1) [(.t 115)]⟩,
 ⟨(some 117), none, .eff (.app 1 24) [(.t 114), (.t 116)]⟩,
 ⟨(some 118), none, .fldA 0 1 false (.t 4)⟩,
 ⟨none, none, .store 1 (.t 118) (.t 117)⟩])))
 (.keep [1, 2, 4, 5, 7, 8, 11] (.ops true [⟨(some 119), none, .fldA 1 1 false (.t 4)⟩,
 ⟨(some 120), none, .load 1 false (.t 119)⟩,
 ⟨(some 121), none, .fldA 1 1 false (.t 2)⟩,
 ⟨(some 122), none, .load 1 false (.t 121)⟩,
 ⟨(some 123), none, .mov (.t 11)⟩,
 ⟨(some 124), none, .idxA 2 (.t 122) (.t 123)⟩,
 ⟨(some 125), none, .load 2 true (.t 124)⟩,
 ⟨(some 126), none, .load 2 true (.t 5)⟩,
 ⟨(some 127), none, .call n_long_Int_Mul [(.t 125), (.t 126)]⟩,
 ⟨(some 128), none, .fldA 0 1 false (.t 2)⟩,
 ⟨(some 129), none, .load 1 false (.t 128)⟩,
 ⟨(some 130), none, .mov (.t 11)⟩,
 ⟨(some 131), none, .idxA 1 (.t 129) (.t 130)⟩,
 ⟨(some 132), none, .load 1 false (.t 131)⟩,
 ⟨(some 133), none, .mov (.t 1)⟩,
 ⟨(some 134), none, .red (.slc 2 false true false) [(.t 132), (.t 133)]⟩,
 ⟨(some 135), none, .mov (.t 8)⟩,
 ⟨(some 136), none, .call n_quad_dot [(.t 134), (.t 135)]⟩,
 ⟨(some 137), none, .call n_long_Int_Sub [(.t 127), (.t 136)]⟩,
 ⟨(some 138), none, .new (.bsl 2) [(.t 137)]⟩,
 ⟨(some 139), none, .eff (.app 2 32) [(.t 120), (.t 138)]⟩,
 ⟨(some 140), none, .fldA 1 1 false (.t 4)⟩,
 ⟨none, none, .store 1 (.t 140) (.t 139)⟩])))))))
 (.keep [1, 2, 4, 5, 7, 8, 11] (.ops false [⟨(some 67), none, .mov (.t 11)⟩,
 ⟨(some 68), none, .bin .add (.t 67) (.c (.int .i64 1))⟩,
 ⟨(some 11), none, .mov (.t 68)⟩])))))))
 (.seq (.keep [4, 5, 6] (.ops true [⟨(some 141), none, .load 4 true (.t 4)⟩,
 ⟨(some 142), none, .loadN 2 true (.t 5) [4]⟩,
 ⟨none, none, .store 4 (.t 4) (.t 141)⟩,
 ⟨none, none, .store 2 (.t 5) (.t 142)⟩,
 ⟨(some 6), none, .mov (.c (.int .i64 0))⟩]))
 .ret)))))))))
def quad_Quad_Without.res : List RX := [(4, some (4, true)), (5, some (2, true)), (6, none)]
theorem quad_Quad_Without.m : mK pg Try.f14.ntmps quad_Quad_Without.k (Try.f14.body.getD .skip) = true := by kernel_rfl
theorem quad_Quad_Without.mr : mRes pg Try.f14.results.toList quad_Quad_Without.res = true := by kernel_rfl
theorem quad_Quad_Without.of {args : List V} {r : V} (hn : args.length = 2) (hW : W pg quad_Quad_Without.k (done quad_Quad_Without.res r) (start args)) : Ret pg n_quad_Quad_Without args r :=
 Ret_of (fn := Try.f14) Try.func14 rfl (by kernel_rfl) quad_Quad_Without.m quad_Quad_Without.mr (by rw [hn]; exact of_decide_eq_true (by kernel_rfl)) hW
def quad_Quad_Add.k : K :=
 (.seq (.keep [2, 3, 4] (.ops false [⟨(some 2), none, .boxP (.t 0)⟩,
 ⟨(some 3), none, .boxP (.t 1)⟩,
 ⟨(some 4), none, .alloc 4 (.agg [.nil, .nil, (.bool false), (.sl [])])⟩]))
 (.seq (.keep [2, 3, 4, 5] (.ops true [⟨(some 7), none, .fldA 1 1 false (.t 2)⟩,
 ⟨(some 8), none, .load 1 false (.t 7)⟩,
 ⟨(some 9), none, .fldA 1 1 false (.t 3)⟩,
 ⟨(some 10), none, .load 1 false (.t 9)⟩,
 ⟨(some 11), none, .red .bsz [(.t 10)]⟩,
 ⟨(some 12), none, .call n_quad_sums [(.t 8), (.t 11)]⟩,
 ⟨(some 13), none, .fldA 2 2 true (.t 2)⟩,
 ⟨(some 14), none, .load 2 true (.t 13)⟩,
 ⟨(some 15), none, .fldA 2 2 true (.t 3)⟩,
 ⟨(some 16), none, .load 2 true (.t 15)⟩,
 ⟨(some 17), none, .call n_long_Int_Add [(.t 14), (.t 16)]⟩,
 ⟨(some 18), none, .build [.nil, .nil, (.bool false), (.sl [])] [(1, 1, (.t 12)), (2, 2, (.t 17))]⟩,
 ⟨(some 5), none, .alloc 4 (.agg [.nil, .nil, (.bool false), (.sl [])])⟩,
 ⟨none, none, .store 4 (.t 5) (.t 18)⟩]))
 (.seq (.seq (.keep [2, 3, 4, 5, 21, 22] (.ops false [⟨(some 19), none, .fldA 0 1 false (.t 2)⟩,
 ⟨(some 20), none, .load 1 false (.t 19)⟩,
 ⟨(some 21), none, .len false (.t 20)⟩,
 ⟨(some 22), none, .mov (.c (.int .i64 0))⟩]))
 (.block 0 (.loop (.seq (.keep [2, 3, 4, 5, 21, 22, 23] (.ops false [⟨(some 23), none, .bin .lss (.t 22) (.t 21)⟩]))
 (.seq (.cond (.t 23) .skip
 (.exit 0))
 (.seq (.block 1 (.seq (.keep [2, 3, 4, 5, 6, 21, 22] (.ops false [⟨(some 24), none, .mov (.t 22)⟩,
 ⟨(some 6), none, .mov (.t 24)⟩]))
 (.gh (.keep [2, 3, 4, 5, 21, 22] (.ops true [⟨(some 25), none, .fldA 0 1 false (.t 5)⟩,
 ⟨(some 26), none, .load 1 false (.t 25)⟩,
 ⟨(some 27), none, .fldA 0 1 false (.t 2)⟩,
 ⟨(some 28), none, .load 1 false (.t 27)⟩,
 ⟨(some 29), none, .mov (.t 6)⟩,
 ⟨(some 30), none, .idxA 1 (.t 28) (.t 29)⟩,
 ⟨(some 31), none, .load 1 false (.t 30)⟩,
 ⟨(some 32), none, .fldA 0 1 false (.t 3)⟩,
 ⟨(some 33), none, .load 1 false (.t 32)⟩,
 ⟨(some 34), none, .mov (.t 6)⟩,
 ⟨(some 35), none, .idxA 1 (.t 33) (.t 34)⟩,
 ⟨(some 36), none, .load 1 false (.t 35)⟩,
 ⟨(some 37), none, .red .bsz [(.t 36)]⟩,
 ⟨(some 38), none, .call n_quad_sums [(.t 31), (.t 37)]⟩,
 ⟨(some 39), none, .red .bsz [(.t 38)]⟩,
 ⟨(some 40), none, .eff (.app 1 24) [(.t 26), (.t 39)]⟩,
 ⟨(some 41), none, .fldA 0 1 false (.t 5)⟩,
 ⟨none, none, .store 1 (.t 41) (.t 40)⟩])))))
 (.keep [2, 3, 4, 5, 21, 22] (.ops false [⟨(some 42), none, .bin .add (.t 22) (.c (.int .i64 1))⟩,
 ⟨(some 22), none, .mov (.t 42)⟩]))))))))
 (.seq (.keep [4] (.ops false [⟨(some 43), none, .load 4 true (.t 5)⟩,
 ⟨none, none, .store 4 (.t 4) (.t 43)⟩]))
 .ret))))
def quad_Quad_Add.res : List RX := [(4, some (4, true))]
theorem quad_Quad_Add.m : mK pg Try.f39.ntmps quad_Quad_Add.k (Try.f39.body.getD .skip) = true := by kernel_rfl
theorem quad_Quad_Add.mr : mRes pg Try.f39.results.toList quad_Quad_Add.res = true := by kernel_rfl
theorem quad_Quad_Add.of {args : List V} {r : V} (hn : args.length = 2) (hW : W pg quad_Quad_Add.k (done quad_Quad_Add.res r) (start args)) : Ret pg n_quad_Quad_Add args r :=
 Ret_of (fn := Try.f39) Try.func39 rfl (by kernel_rfl) quad_Quad_Add.m quad_Quad_Add.mr (by rw [hn]; exact of_decide_eq_true (by kernel_rfl)) hW
def factor_Right.k : K :=
 (.seq (.keep [1, 2] (.ops false [⟨(some 2), none, .boxP (.t 0)⟩,
 ⟨(some 4), none, .mov (.c (.bool false))⟩]))
 (.seq (.seq (.keep [2, 30] (.ops false [⟨(some 7), none, .fldA 0 1 false (.t 2)⟩,
 ⟨(some 8), none, .load 1 false (.t 7)⟩,
 ⟨(some 9), none, .len false (.t 8)⟩,
 ⟨(some 10), none, .mov (.t 1)⟩,
 ⟨(some 11), none, .bin .neq (.t 9) (.t 10)⟩,
 ⟨(some 12), none, .mov (.t 11)⟩,
 ⟨(some 13), (some (12, false)), .mov (.t 1)⟩,
 ⟨(some 14), (some (12, false)), .bin .gtr (.t 13) (.c (.int .i64 11))⟩,
 ⟨(some 15), none, .pick (.t 12) (.c (.bool true)) (.t 14)⟩,
 ⟨(some 16), none, .mov (.t 15)⟩,
 ⟨(some 17), (some (16, false)), .fldA 1 1 false (.t 2)⟩,
 ⟨(some 18), (some (16, false)), .load 1 false (.t 17)⟩,
 ⟨(some 19), (some (16, false)), .callG n_factor_out [(.t 18), (.c (.int .i64 (-1000000000))), (.c (.int .i64 1000000000))]⟩,
 ⟨(some 20), none, .pick (.t 16) (.c (.bool true)) (.t 19)⟩,
 ⟨(some 21), none, .mov (.t 20)⟩,
 ⟨(some 22), (some (21, false)), .fldA 2 1 false (.t 2)⟩,
 ⟨(some 23), (some (21, false)), .load 1 false (.t 22)⟩,
 ⟨(some 24), (some (21, false)), .callG n_factor_out [(.t 23), (.c (.int .i64 1)), (.c (.int .i64 32768))]⟩,
 ⟨(some 25), none, .pick (.t 21) (.c (.bool true)) (.t 24)⟩,
 ⟨(some 26), none, .mov (.t 25)⟩,
 ⟨(some 27), (some (26, false)), .fldA 3 1 false (.t 2)⟩,
 ⟨(some 28), (some (26, false)), .load 1 false (.t 27)⟩,
 ⟨(some 29), (some (26, false)), .callG n_factor_out [(.t 28), (.c (.int .i64 1)), (.c (.int .i64 100))]⟩,
 ⟨(some 30), none, .pick (.t 26) (.c (.bool true)) (.t 29)⟩]))
 (.cond (.t 30) (.seq (.keep [4] (.ops false [⟨(some 4), none, .mov (.c (.bool false))⟩]))
 .ret)
 .skip))
 (.seq (.seq (.keep [32, 33, 34] (.ops false [⟨(some 31), none, .fldA 0 1 false (.t 2)⟩,
 ⟨(some 32), none, .load 1 false (.t 31)⟩,
 ⟨(some 33), none, .len false (.t 32)⟩,
 ⟨(some 34), none, .mov (.c (.int .i64 0))⟩]))
 (.block 0 (.loop (.seq (.keep [32, 33, 34, 35] (.ops false [⟨(some 35), none, .bin .lss (.t 34) (.t 33)⟩]))
 (.seq (.cond (.t 35) .skip
 (.exit 0))
 (.seq (.block 1 (.seq (.keep [6, 32, 33, 34] (.ops false [⟨(some 36), none, .idxA 1 (.t 32) (.t 34)⟩,
 ⟨(some 37), none, .load 1 false (.t 36)⟩,
 ⟨(some 6), none, .mov (.t 37)⟩]))
 (.seq (.keep [32, 33, 34, 39] (.ops false [⟨(some 38), none, .mov (.t 6)⟩,
 ⟨(some 39), none, .callG n_factor_out [(.t 38), (.c (.int .i64 (-1000))), (.c (.int .i64 1000))]⟩]))
 (.cond (.t 39) (.seq (.keep [4] (.ops false [⟨(some 4), none, .mov (.c (.bool false))⟩]))
 .ret)
 .skip))))
 (.keep [32, 33, 34] (.ops false [⟨(some 40), none, .bin .add (.t 34) (.c (.int .i64 1))⟩,
 ⟨(some 34), none, .mov (.t 40)⟩]))))))))
 (.seq (.keep [4] (.ops false [⟨(some 4), none, .mov (.c (.bool true))⟩]))
 .ret))))
def factor_Right.res : List RX := [(4, none)]
theorem factor_Right.m : mK pg Try.f61.ntmps factor_Right.k (Try.f61.body.getD .skip) = true := by kernel_rfl
theorem factor_Right.mr : mRes pg Try.f61.results.toList factor_Right.res = true := by kernel_rfl
theorem factor_Right.of {args : List V} {r : V} (hn : args.length = 2) (hW : W pg factor_Right.k (done factor_Right.res r) (start args)) : Ret pg n_factor_Right args r :=
 Ret_of (fn := Try.f61) Try.func61 rfl (by kernel_rfl) factor_Right.m factor_Right.mr (by rw [hn]; exact of_decide_eq_true (by kernel_rfl)) hW
def factor_Residual.k : K :=
 (.seq (.keep [1, 2] (.ops false [⟨(some 2), none, .boxP (.t 0)⟩,
 ⟨(some 4), none, .mov (.c (.int .i64 0))⟩]))
 (.seq (.keep [1, 2, 5] (.ops false [⟨(some 8), none, .fldA 1 1 false (.t 2)⟩,
 ⟨(some 9), none, .load 1 false (.t 8)⟩,
 ⟨(some 10), none, .un .neg (.t 9)⟩,
 ⟨(some 5), none, .mov (.t 10)⟩]))
 (.seq (.seq (.keep [1, 5, 12, 13, 14] (.ops false [⟨(some 11), none, .fldA 0 1 false (.t 2)⟩,
 ⟨(some 12), none, .load 1 false (.t 11)⟩,
 ⟨(some 13), none, .len false (.t 12)⟩,
 ⟨(some 14), none, .mov (.c (.int .i64 0))⟩]))
 (.block 0 (.loop (.seq (.keep [1, 5, 12, 13, 14, 15] (.ops false [⟨(some 15), none, .bin .lss (.t 14) (.t 13)⟩]))
 (.seq (.cond (.t 15) .skip
 (.exit 0))
 (.seq (.block 1 (.seq (.keep [1, 5, 6, 7, 12, 13, 14] (.ops false [⟨(some 16), none, .mov (.t 14)⟩,
 ⟨(some 17), none, .idxA 1 (.t 12) (.t 14)⟩,
 ⟨(some 18), none, .load 1 false (.t 17)⟩,
 ⟨(some 6), none, .mov (.t 16)⟩,
 ⟨(some 7), none, .mov (.t 18)⟩]))
 (.keep [1, 5, 12, 13, 14] (.ops false [⟨(some 19), none, .mov (.t 5)⟩,
 ⟨(some 20), none, .mov (.t 7)⟩,
 ⟨(some 21), none, .mov (.t 1)⟩,
 ⟨(some 22), none, .mov (.t 6)⟩,
 ⟨(some 23), none, .idxA 1 (.t 21) (.t 22)⟩,
 ⟨(some 24), none, .load 1 false (.t 23)⟩,
 ⟨(some 25), none, .bin .mul (.t 20) (.t 24)⟩,
 ⟨(some 26), none, .bin .add (.t 19) (.t 25)⟩,
 ⟨(some 5), none, .mov (.t 26)⟩]))))
 (.keep [1, 5, 12, 13, 14] (.ops false [⟨(some 27), none, .bin .add (.t 14) (.c (.int .i64 1))⟩,
 ⟨(some 14), none, .mov (.t 27)⟩]))))))))
 (.seq (.keep [4] (.ops false [⟨(some 28), none, .mov (.t 5)⟩,
 ⟨(some 29), none, .mm false (.t 28) [(.c (.int .i64 1000000000))]⟩,
 ⟨(some 30), none, .mm true (.c (.int .i64 (-1000000000))) [(.t 29)]⟩,
 ⟨(some 4), none, .mov (.t 30)⟩]))
 .ret))))
def factor_Residual.res : List RX := [(4, none)]
theorem factor_Residual.m : mK pg Try.f74.ntmps factor_Residual.k (Try.f74.body.getD .skip) = true := by kernel_rfl
theorem factor_Residual.mr : mRes pg Try.f74.results.toList factor_Residual.res = true := by kernel_rfl
theorem factor_Residual.of {args : List V} {r : V} (hn : args.length = 2) (hW : W pg factor_Residual.k (done factor_Residual.res r) (start args)) : Ret pg n_factor_Residual args r :=
 Ret_of (fn := Try.f74) Try.func74 rfl (by kernel_rfl) factor_Residual.m factor_Residual.mr (by rw [hn]; exact of_decide_eq_true (by kernel_rfl)) hW
def factor_out.k : K :=
 (.seq (.keep [0, 1, 2] (.ops false [⟨(some 6), none, .mov (.c (.bool false))⟩]))
 (.seq (.keep [6] (.ops false [⟨(some 7), none, .mov (.t 0)⟩,
 ⟨(some 8), none, .mov (.t 1)⟩,
 ⟨(some 9), none, .bin .lss (.t 7) (.t 8)⟩,
 ⟨(some 10), none, .mov (.t 9)⟩,
 ⟨(some 11), (some (10, false)), .mov (.t 0)⟩,
 ⟨(some 12), (some (10, false)), .mov (.t 2)⟩,
 ⟨(some 13), (some (10, false)), .bin .gtr (.t 11) (.t 12)⟩,
 ⟨(some 14), none, .pick (.t 10) (.c (.bool true)) (.t 13)⟩,
 ⟨(some 6), none, .mov (.t 14)⟩]))
 .ret))
def factor_out.res : List RX := [(6, none)]
theorem factor_out.m : mK pg Try.f89.ntmps factor_out.k (Try.f89.body.getD .skip) = true := by kernel_rfl
theorem factor_out.mr : mRes pg Try.f89.results.toList factor_out.res = true := by kernel_rfl
theorem factor_out.of {args : List V} {r : V} (hn : args.length = 3) (hW : W pg factor_out.k (done factor_out.res r) (start args)) : Ret pg n_factor_out args r :=
 Ret_of (fn := Try.f89) Try.func89 rfl (by kernel_rfl) factor_out.m factor_out.mr (by rw [hn]; exact of_decide_eq_true (by kernel_rfl)) hW
def slices_ContainsFunc_Lapi_Row_api_Row.k : K :=
 (.seq (.keep [0, 1] (.ops false [⟨(some 4), none, .mov (.c (.bool false))⟩]))
 (.seq (.keep [4] (.ops false [⟨(some 5), none, .mov (.t 0)⟩,
 ⟨(some 6), none, .mov (.t 1)⟩,
 ⟨(some 7), none, .callG n_slices_IndexFunc_Lapi_Row_api_Row [(.t 5), (.t 6)]⟩,
 ⟨(some 8), none, .bin .geq (.t 7) (.c (.int .i64 0))⟩,
 ⟨(some 4), none, .mov (.t 8)⟩]))
 .ret))
def slices_ContainsFunc_Lapi_Row_api_Row.res : List RX := [(4, none)]
theorem slices_ContainsFunc_Lapi_Row_api_Row.m : mK pg Try.f59.ntmps slices_ContainsFunc_Lapi_Row_api_Row.k (Try.f59.body.getD .skip) = true := by kernel_rfl
theorem slices_ContainsFunc_Lapi_Row_api_Row.mr : mRes pg Try.f59.results.toList slices_ContainsFunc_Lapi_Row_api_Row.res = true := by kernel_rfl
theorem slices_ContainsFunc_Lapi_Row_api_Row.of {args : List V} {r : V} (hn : args.length = 2) (hW : W pg slices_ContainsFunc_Lapi_Row_api_Row.k (done slices_ContainsFunc_Lapi_Row_api_Row.res r) (start args)) : Ret pg n_slices_ContainsFunc_Lapi_Row_api_Row args r :=
 Ret_of (fn := Try.f59) Try.func59 rfl (by kernel_rfl) slices_ContainsFunc_Lapi_Row_api_Row.m slices_ContainsFunc_Lapi_Row_api_Row.mr (by rw [hn]; exact of_decide_eq_true (by kernel_rfl)) hW
def slices_ContainsFunc_Lint64_int64.k : K :=
 (.seq (.keep [0, 1] (.ops false [⟨(some 4), none, .mov (.c (.bool false))⟩]))
 (.seq (.keep [4] (.ops false [⟨(some 5), none, .mov (.t 0)⟩,
 ⟨(some 6), none, .mov (.t 1)⟩,
 ⟨(some 7), none, .callG n_slices_IndexFunc_Lint64_int64 [(.t 5), (.t 6)]⟩,
 ⟨(some 8), none, .bin .geq (.t 7) (.c (.int .i64 0))⟩,
 ⟨(some 4), none, .mov (.t 8)⟩]))
 .ret))
def slices_ContainsFunc_Lint64_int64.res : List RX := [(4, none)]
theorem slices_ContainsFunc_Lint64_int64.m : mK pg Try.f71.ntmps slices_ContainsFunc_Lint64_int64.k (Try.f71.body.getD .skip) = true := by kernel_rfl
theorem slices_ContainsFunc_Lint64_int64.mr : mRes pg Try.f71.results.toList slices_ContainsFunc_Lint64_int64.res = true := by kernel_rfl
theorem slices_ContainsFunc_Lint64_int64.of {args : List V} {r : V} (hn : args.length = 2) (hW : W pg slices_ContainsFunc_Lint64_int64.k (done slices_ContainsFunc_Lint64_int64.res r) (start args)) : Ret pg n_slices_ContainsFunc_Lint64_int64 args r :=
 Ret_of (fn := Try.f71) Try.func71 rfl (by kernel_rfl) slices_ContainsFunc_Lint64_int64.m slices_ContainsFunc_Lint64_int64.mr (by rw [hn]; exact of_decide_eq_true (by kernel_rfl)) hW
def slices_IndexFunc_Lapi_Row_api_Row.k : K :=
 (.seq (.keep [0, 1] (.ops false [⟨(some 4), none, .mov (.c (.int .i64 0))⟩]))
 (.seq (.seq (.keep [0, 1, 7, 8] (.ops false [⟨(some 6), none, .mov (.t 0)⟩,
 ⟨(some 7), none, .len false (.t 6)⟩,
 ⟨(some 8), none, .mov (.c (.int .i64 0))⟩]))
 (.block 0 (.loop (.seq (.keep [0, 1, 7, 8, 9] (.ops false [⟨(some 9), none, .bin .lss (.t 8) (.t 7)⟩]))
 (.seq (.cond (.t 9) .skip
 (.exit 0))
 (.seq (.block 1 (.seq (.keep [0, 1, 5, 7, 8] (.ops false [⟨(some 10), none, .mov (.t 8)⟩,
 ⟨(some 5), none, .mov (.t 10)⟩]))
 (.seq (.keep [0, 1, 5, 7, 8, 16] (.ops false [⟨(some 11), none, .mov (.t 1)⟩,
 ⟨(some 12), none, .mov (.t 0)⟩,
 ⟨(some 13), none, .mov (.t 5)⟩,
 ⟨(some 14), none, .idxA 4 (.t 12) (.t 13)⟩,
 ⟨(some 15), none, .load 4 true (.t 14)⟩,
 ⟨(some 16), none, .callGV (.t 11) [(.t 15)]⟩]))
 (.cond (.t 16) (.seq (.keep [4] (.ops false [⟨(some 17), none, .mov (.t 5)⟩,
 ⟨(some 4), none, .mov (.t 17)⟩]))
 .ret)
 .skip))))
 (.keep [0, 1, 7, 8] (.ops false [⟨(some 18), none, .bin .add (.t 8) (.c (.int .i64 1))⟩,
 ⟨(some 8), none, .mov (.t 18)⟩]))))))))
 (.seq (.keep [4] (.ops false [⟨(some 4), none, .mov (.c (.int .i64 (-1)))⟩]))
 .ret)))
def slices_IndexFunc_Lapi_Row_api_Row.res : List RX := [(4, none)]
theorem slices_IndexFunc_Lapi_Row_api_Row.m : mK pg Try.f88.ntmps slices_IndexFunc_Lapi_Row_api_Row.k (Try.f88.body.getD .skip) = true := by kernel_rfl
theorem slices_IndexFunc_Lapi_Row_api_Row.mr : mRes pg Try.f88.results.toList slices_IndexFunc_Lapi_Row_api_Row.res = true := by kernel_rfl
theorem slices_IndexFunc_Lapi_Row_api_Row.of {args : List V} {r : V} (hn : args.length = 2) (hW : W pg slices_IndexFunc_Lapi_Row_api_Row.k (done slices_IndexFunc_Lapi_Row_api_Row.res r) (start args)) : Ret pg n_slices_IndexFunc_Lapi_Row_api_Row args r :=
 Ret_of (fn := Try.f88) Try.func88 rfl (by kernel_rfl) slices_IndexFunc_Lapi_Row_api_Row.m slices_IndexFunc_Lapi_Row_api_Row.mr (by rw [hn]; exact of_decide_eq_true (by kernel_rfl)) hW
def slices_IndexFunc_Lint64_int64.k : K :=
 (.seq (.keep [0, 1] (.ops false [⟨(some 4), none, .mov (.c (.int .i64 0))⟩]))
 (.seq (.seq (.keep [0, 1, 7, 8] (.ops false [⟨(some 6), none, .mov (.t 0)⟩,
 ⟨(some 7), none, .len false (.t 6)⟩,
 ⟨(some 8), none, .mov (.c (.int .i64 0))⟩]))
 (.block 0 (.loop (.seq (.keep [0, 1, 7, 8, 9] (.ops false [⟨(some 9), none, .bin .lss (.t 8) (.t 7)⟩]))
 (.seq (.cond (.t 9) .skip
 (.exit 0))
 (.seq (.block 1 (.seq (.keep [0, 1, 5, 7, 8] (.ops false [⟨(some 10), none, .mov (.t 8)⟩,
 ⟨(some 5), none, .mov (.t 10)⟩]))
 (.seq (.keep [0, 1, 5, 7, 8, 16] (.ops false [⟨(some 11), none, .mov (.t 1)⟩,
 ⟨(some 12), none, .mov (.t 0)⟩,
 ⟨(some 13), none, .mov (.t 5)⟩,
 ⟨(some 14), none, .idxA 1 (.t 12) (.t 13)⟩,
 ⟨(some 15), none, .load 1 false (.t 14)⟩,
 ⟨(some 16), none, .callGV (.t 11) [(.t 15)]⟩]))
 (.cond (.t 16) (.seq (.keep [4] (.ops false [⟨(some 17), none, .mov (.t 5)⟩,
 ⟨(some 4), none, .mov (.t 17)⟩]))
 .ret)
 .skip))))
 (.keep [0, 1, 7, 8] (.ops false [⟨(some 18), none, .bin .add (.t 8) (.c (.int .i64 1))⟩,
 ⟨(some 8), none, .mov (.t 18)⟩]))))))))
 (.seq (.keep [4] (.ops false [⟨(some 4), none, .mov (.c (.int .i64 (-1)))⟩]))
 .ret)))
def slices_IndexFunc_Lint64_int64.res : List RX := [(4, none)]
theorem slices_IndexFunc_Lint64_int64.m : mK pg Try.f92.ntmps slices_IndexFunc_Lint64_int64.k (Try.f92.body.getD .skip) = true := by kernel_rfl
theorem slices_IndexFunc_Lint64_int64.mr : mRes pg Try.f92.results.toList slices_IndexFunc_Lint64_int64.res = true := by kernel_rfl
theorem slices_IndexFunc_Lint64_int64.of {args : List V} {r : V} (hn : args.length = 2) (hW : W pg slices_IndexFunc_Lint64_int64.k (done slices_IndexFunc_Lint64_int64.res r) (start args)) : Ret pg n_slices_IndexFunc_Lint64_int64 args r :=
 Ret_of (fn := Try.f92) Try.func92 rfl (by kernel_rfl) slices_IndexFunc_Lint64_int64.m slices_IndexFunc_Lint64_int64.mr (by rw [hn]; exact of_decide_eq_true (by kernel_rfl)) hW
end Go.Gim

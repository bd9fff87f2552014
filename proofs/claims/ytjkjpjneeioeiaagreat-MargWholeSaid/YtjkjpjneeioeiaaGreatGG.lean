import Derived.Test.YtjkjpjneeioeiaaGreatGN
/- Functions' code as data (written by wip/tools/gen.py), and the step to their contracts. -/
set_option maxRecDepth 100000
namespace Go.Gim
open Go.Proofs
def graph_New.k : K :=
 (.seq (.keep [1, 2, 4] (.ops false [Ot 2 (.boxP (.t 0)),
 Ot 4 (.alloc 8 (.agg [(.int .i64 0), .nil, .nil, .nil, (.bool false), (.sl []), (.bool false), (.sl [])])),
 Ot 5 (.mov (.c (.int .i64 0)))]))
 (.seq (.block 0 (.seq (.keep [1, 2, 4, 7] (.ops false [Ot 8 (.load 1 false (.t 2)),
 Ot 9 (.bin .lss (.t 8) (.c (.int .i64 1))),
 Ot 10 (.mov (.t 9)),
 ⟨(some 11), (some (10, false)), .load 1 false (.t 2)⟩,
 ⟨(some 12), (some (10, false)), .bin .gtr (.t 11) (.c (.int .i64 11))⟩,
 Ot 13 (.pick (.t 10) (.c (.bool true)) (.t 12)),
 Ot 7 (.mov (.t 13))]))
 (.cond (.t 7) (.seq (.keep [4, 5] (.ops false [Ot 14 (.build [(.int .i64 0), .nil, .nil, .nil, (.bool false), (.sl []), (.bool false), (.sl [])] []),
 ⟨none, none, .store 8 (.t 4) (.t 14)⟩,
 Ot 5 (.mov (.c (.int .i64 1)))]))
 .ret)
 (.seq (.keep [1, 2, 4, 15] (.ops false [Ot 16 (.mov (.t 1)),
 Ot 17 (.len false (.t 16)),
 Ot 18 (.bin .gtr (.t 17) (.c (.int .i64 60))),
 Ot 15 (.mov (.t 18))]))
 (.cond (.t 15) (.seq (.keep [4, 5] (.ops false [Ot 19 (.build [(.int .i64 0), .nil, .nil, .nil, (.bool false), (.sl []), (.bool false), (.sl [])] []),
 ⟨none, none, .store 8 (.t 4) (.t 19)⟩,
 Ot 5 (.mov (.c (.int .i64 3)))]))
 .ret)
 (.seq (.keep [1, 2, 4, 20] (.ops false [Ot 21 (.mov (.t 1)),
 Ot 22 (.mkFn zeq [(.t 2)]),
 Ot 23 (.callG zbd [(.t 21), (.t 22)]),
 Ot 20 (.mov (.t 23))]))
 (.cond (.t 20) (.seq (.keep [4, 5] (.ops false [Ot 24 (.build [(.int .i64 0), .nil, .nil, .nil, (.bool false), (.sl []), (.bool false), (.sl [])] []),
 ⟨none, none, .store 8 (.t 4) (.t 24)⟩,
 Ot 5 (.mov (.c (.int .i64 160)))]))
 .ret)
 .skip)))))))
 (.seq (.keep [2, 4, 6] (.ops true [Ot 25 (.load 1 false (.t 2)),
 Ot 26 (.mov (.t 1)),
 Ot 27 (.call za0 [(.c (.int .i64 1))]),
 Ot 28 (.build [(.int .i64 0), .nil, .nil, .nil, (.bool false), (.sl []), (.bool false), (.sl [])] [(0, 1, (.t 25)), (1, 1, (.t 26)), (6, 2, (.t 27))]),
 Ot 6 (.alloc 8 (.agg [(.int .i64 0), .nil, .nil, .nil, (.bool false), (.sl []), (.bool false), (.sl [])])),
 ⟨none, none, .store 8 (.t 6) (.t 28)⟩]))
 (.seq (.keep [4, 6] (.ops false [Ot 29 (.load 1 false (.t 2)),
 Ot 30 (.new (.mks 2 32 (.agg [(.bool false), (.sl [])])) [(.t 29), (.t 29)]),
 Ot 31 (.fldA 2 4 true (.t 6)),
 Ot 32 (.fldA 1 1 false (.t 31)),
 ⟨none, none, .store 1 (.t 32) (.t 30)⟩]))
 (.seq (.keep [4, 6] (.ops false [Ot 33 (.load 8 true (.t 6)),
 Ot 34 (.callG zc9 [(.t 33), (.c (.fn zep []))]),
 Ot 35 (.fldA 2 4 true (.t 6)),
 Ot 36 (.fldA 0 1 false (.t 35)),
 ⟨none, none, .store 1 (.t 36) (.t 34)⟩]))
 (.seq (.keep [4, 5] (.ops false [Ot 37 (.load 8 true (.t 6)),
 ⟨none, none, .store 8 (.t 4) (.t 37)⟩,
 Ot 5 (.mov (.c (.int .i64 0)))]))
 .ret))))))
def graph_New.res : List RX := [(4, some (8, true)), (5, none)]
theorem graph_New.m : mK pg Tryz.f53.ntmps graph_New.k (Tryz.f53.body.getD .skip) = true := by kernel_rfl
theorem graph_New.mr : mRes pg Tryz.f53.results.toList graph_New.res = true := by kernel_rfl
theorem graph_New.of {args : List V} {r : V} (hn : args.length = 2) (hW : W pg graph_New.k (done graph_New.res r) (start args)) : Ret pg zgf args r :=
 Ret_of (fn := Tryz.f53) Tryz.func53 rfl (by kernel_rfl) graph_New.m graph_New.mr (by rw [hn]; exact of_decide_eq_true (by kernel_rfl)) hW
def graph_New_1.k : K :=
 (.seq (.keep [1, 2] (.ops false [Ot 2 (.boxP (.t 0)),
 Ot 3 (.mov (.c (.bool false)))]))
 (.seq (.keep [3] (.ops false [Ot 4 (.load 4 true (.t 2)),
 Ot 5 (.load 1 false (.t 1)),
 Ot 6 (.callG zgx [(.t 4), (.t 5)]),
 Ot 7 (.un .not (.t 6)),
 Ot 3 (.mov (.t 7))]))
 .ret))
def graph_New_1.res : List RX := [(3, none)]
theorem graph_New_1.m : mK pg Tryz.f123.ntmps graph_New_1.k (Tryz.f123.body.getD .skip) = true := by kernel_rfl
theorem graph_New_1.mr : mRes pg Tryz.f123.results.toList graph_New_1.res = true := by kernel_rfl
theorem graph_New_1.of {args : List V} {r : V} (hn : args.length = 2) (hW : W pg graph_New_1.k (done graph_New_1.res r) (start args)) : Ret pg zeq args r :=
 Ret_of (fn := Tryz.f123) Tryz.func123 rfl (by kernel_rfl) graph_New_1.m graph_New_1.mr (by rw [hn]; exact of_decide_eq_true (by kernel_rfl)) hW
def graph_New_2.k : K :=
 (.seq (.keep [4] (.ops false [Ot 4 (.alloc 2 (.agg [(.bool false), (.sl [])]))]))
 (.seq (.keep [4] (.ops false [Ot 5 (.build [(.bool false), (.sl [])] []),
 ⟨none, none, .store 2 (.t 4) (.t 5)⟩]))
 .ret))
def graph_New_2.res : List RX := [(4, some (2, true))]
theorem graph_New_2.m : mK pg Tryz.f125.ntmps graph_New_2.k (Tryz.f125.body.getD .skip) = true := by kernel_rfl
theorem graph_New_2.mr : mRes pg Tryz.f125.results.toList graph_New_2.res = true := by kernel_rfl
theorem graph_New_2.of {args : List V} {r : V} (hn : args.length = 2) (hW : W pg graph_New_2.k (done graph_New_2.res r) (start args)) : Ret pg zep args r :=
 Ret_of (fn := Tryz.f125) Tryz.func125 rfl (by kernel_rfl) graph_New_2.m graph_New_2.mr (by rw [hn]; exact of_decide_eq_true (by kernel_rfl)) hW
def graph_Graph_With.k : K :=
 (.seq (.keep [3, 4, 5, 6] (.ops false [Ot 3 (.eff (.boxO 8) [(.t 0)]),
 Ot 4 (.boxP (.t 1)),
 Ot 5 (.boxP (.t 2)),
 Ot 6 (.alloc 8 (.agg [(.int .i64 0), .nil, .nil, .nil, (.bool false), (.sl []), (.bool false), (.sl [])])),
 Ot 7 (.mov (.c (.int .i64 0)))]))
 (.seq (.seq (.keep [3, 4, 5, 6, 26] (.ops false [Ot 8 (.fldA 0 1 false (.t 4)),
 Ot 9 (.load 1 false (.t 8)),
 Ot 10 (.len false (.t 9)),
 Ot 11 (.fldA 0 1 false (.t 3)),
 Ot 12 (.load 1 false (.t 11)),
 Ot 13 (.bin .neq (.t 10) (.t 12)),
 Ot 14 (.mov (.t 13)),
 ⟨(some 15), (some (14, false)), .fldA 1 1 false (.t 4)⟩,
 ⟨(some 16), (some (14, false)), .load 1 false (.t 15)⟩,
 ⟨(some 17), (some (14, false)), .len false (.t 16)⟩,
 ⟨(some 18), (some (14, false)), .fldA 0 1 false (.t 3)⟩,
 ⟨(some 19), (some (14, false)), .load 1 false (.t 18)⟩,
 ⟨(some 20), (some (14, false)), .bin .neq (.t 17) (.t 19)⟩,
 Ot 21 (.pick (.t 14) (.c (.bool true)) (.t 20)),
 Ot 22 (.mov (.t 21)),
 ⟨(some 23), (some (22, false)), .load 2 true (.t 5)⟩,
 ⟨(some 24), (some (22, false)), .callG zca [(.t 23)]⟩,
 ⟨(some 25), (some (22, false)), .bin .leq (.t 24) (.c (.int .i64 0))⟩,
 Ot 26 (.pick (.t 22) (.c (.bool true)) (.t 25))]))
 (.cond (.t 26) (.seq (.keep [6, 7] (.ops false [Ot 27 (.build [(.int .i64 0), .nil, .nil, .nil, (.bool false), (.sl []), (.bool false), (.sl [])] []),
 ⟨none, none, .store 8 (.t 6) (.t 27)⟩,
 Ot 7 (.mov (.c (.int .i64 1)))]))
 .ret)
 .skip))
 (.seq (.keep [3, 6] (.ops true [Ot 28 (.red (.ldP 4 true) [(.t 4)]),
 Ot 29 (.red (.ldP 2 true) [(.t 5)]),
 Ot 30 (.fldA 2 4 true (.t 3)),
 ⟨none, none, .store 4 (.t 30) (.t 28)⟩,
 Ot 31 (.fldA 6 2 true (.t 3)),
 ⟨none, none, .store 2 (.t 31) (.t 29)⟩]))
 (.seq (.keep [6, 7] (.ops false [Ot 32 (.load 8 true (.t 3)),
 ⟨none, none, .store 8 (.t 6) (.t 32)⟩,
 Ot 7 (.mov (.c (.int .i64 0)))]))
 .ret))))
def graph_Graph_With.res : List RX := [(6, some (8, true)), (7, none)]
theorem graph_Graph_With.m : mK pg Tryz.f56.ntmps graph_Graph_With.k (Tryz.f56.body.getD .skip) = true := by kernel_rfl
theorem graph_Graph_With.mr : mRes pg Tryz.f56.results.toList graph_Graph_With.res = true := by kernel_rfl
theorem graph_Graph_With.of {args : List V} {r : V} (hn : args.length = 3) (hW : W pg graph_Graph_With.k (done graph_Graph_With.res r) (start args)) : Ret pg zer args r :=
 Ret_of (fn := Tryz.f56) Tryz.func56 rfl (by kernel_rfl) graph_Graph_With.m graph_Graph_With.mr (by rw [hn]; exact of_decide_eq_true (by kernel_rfl)) hW
def graph_Graph_Share.k : K :=
 (.seq (.keep [2, 4] (.ops false [Ot 3 (.boxP (.t 0)),
 Ot 4 (.boxP (.t 1)),
 Ot 6 (.mov (.c (.int .i64 0)))]))
 (.seq (.keep [4, 7] (.ops false [Ot 8 (.load 4 true (.t 4)),
 Ot 9 (.mov (.t 2)),
 Ot 10 (.callG zfb [(.t 8), (.t 9)]),
 Ot 7 (.mov (.t 10))]))
 (.seq (.keep [4, 7] (.ops false [Ot 11 (.mov (.t 7)),
 Ot 12 (.mov (.t 7)),
 Ot 13 (.un .neg (.t 12)),
 Ot 14 (.mm true (.t 11) [(.t 13)]),
 Ot 7 (.mov (.t 14))]))
 (.seq (.seq (.keep [4, 7, 18] (.ops false [Ot 15 (.mov (.t 7)),
 Ot 16 (.fldA 2 1 false (.t 4)),
 Ot 17 (.load 1 false (.t 16)),
 Ot 18 (.bin .leq (.t 15) (.t 17))]))
 (.cond (.t 18) (.seq (.keep [6] (.ops false [Ot 6 (.mov (.c (.int .i64 1024)))]))
 .ret)
 .skip))
 (.seq (.keep [6] (.ops false [Ot 19 (.fldA 2 1 false (.t 4)),
 Ot 20 (.load 1 false (.t 19)),
 Ot 21 (.bin .mul (.c (.int .i64 1024)) (.t 20)),
 Ot 22 (.mov (.t 7)),
 Ot 23 (.bin .quo (.t 21) (.t 22)),
 Ot 24 (.mm true (.c (.int .i64 1)) [(.t 23)]),
 Ot 6 (.mov (.t 24))]))
 .ret)))))
def graph_Graph_Share.res : List RX := [(6, none)]
theorem graph_Graph_Share.m : mK pg Tryz.f74.ntmps graph_Graph_Share.k (Tryz.f74.body.getD .skip) = true := by kernel_rfl
theorem graph_Graph_Share.mr : mRes pg Tryz.f74.results.toList graph_Graph_Share.res = true := by kernel_rfl
theorem graph_Graph_Share.of {args : List V} {r : V} (hn : args.length = 3) (hW : W pg graph_Graph_Share.k (done graph_Graph_Share.res r) (start args)) : Ret pg zd5 args r :=
 Ret_of (fn := Tryz.f74) Tryz.func74 rfl (by kernel_rfl) graph_Graph_Share.m graph_Graph_Share.mr (by rw [hn]; exact of_decide_eq_true (by kernel_rfl)) hW
def graph_Graph_made.k : K :=
 (.seq (.keep [1, 2] (.ops false [Ot 2 (.boxP (.t 0)),
 Ot 4 (.mov (.c .nil))]))
 (.seq (.keep [1, 2, 5] (.ops false [Ot 5 (.mov (.c .nil))]))
 (.seq (.seq (.keep [1, 2, 5, 10, 11] (.ops false [Ot 9 (.fldA 0 1 false (.t 2)),
 Ot 10 (.load 1 false (.t 9)),
 Ot 11 (.mov (.c (.int .i64 0)))]))
 (.block 0 (.loop (.seq (.keep [1, 2, 5, 10, 11, 12] (.ops false [Ot 12 (.bin .lss (.t 11) (.t 10))]))
 (.seq (.cond (.t 12) .skip
 (.exit 0))
 (.seq (.block 1 (.seq (.keep [1, 2, 5, 6, 10, 11] (.ops false [Ot 13 (.mov (.t 11)),
 Ot 6 (.mov (.t 13))]))
 (.seq (.keep [1, 2, 5, 6, 7, 10, 11] (.ops false [Ot 7 (.mov (.c .nil))]))
 (.seq (.seq (.keep [1, 2, 5, 6, 7, 10, 11, 15, 16] (.ops false [Ot 14 (.fldA 0 1 false (.t 2)),
 Ot 15 (.load 1 false (.t 14)),
 Ot 16 (.mov (.c (.int .i64 0)))]))
 (.block 2 (.loop (.seq (.keep [1, 2, 5, 6, 7, 10, 11, 15, 16, 17] (.ops false [Ot 17 (.bin .lss (.t 16) (.t 15))]))
 (.seq (.cond (.t 17) .skip
 (.exit 2))
 (.seq (.block 3 (.seq (.keep [1, 2, 5, 6, 7, 8, 10, 11, 15, 16] (.ops false [Ot 18 (.mov (.t 16)),
 Ot 8 (.mov (.t 18))]))
 (.keep [1, 2, 5, 6, 7, 10, 11, 15, 16] (.ops false [Ot 19 (.mov (.t 7)),
 Ot 20 (.mov (.t 1)),
 Ot 21 (.mov (.t 6)),
 Ot 22 (.mov (.t 8)),
 Ot 23 (.callGV (.t 20) [(.t 21), (.t 22)]),
 Ot 24 (.new (.bsl 2) [(.t 23)]),
 Ot 25 (.eff (.app 2 32) [(.t 19), (.t 24)]),
 Ot 7 (.mov (.t 25))]))))
 (.keep [1, 2, 5, 6, 7, 10, 11, 15, 16] (.ops false [Ot 26 (.bin .add (.t 16) (.c (.int .i64 1))),
 Ot 16 (.mov (.t 26))]))))))))
 (.gh (.keep [1, 2, 5, 10, 11] (.ops false [Ot 27 (.mov (.t 5)),
 Ot 28 (.mov (.t 7)),
 Ot 29 (.new (.bsl 1) [(.t 28)]),
 Ot 30 (.eff (.app 1 24) [(.t 27), (.t 29)]),
 Ot 5 (.mov (.t 30))])))))))
 (.keep [1, 2, 5, 10, 11] (.ops false [Ot 31 (.bin .add (.t 11) (.c (.int .i64 1))),
 Ot 11 (.mov (.t 31))]))))))))
 (.seq (.keep [4] (.ops false [Ot 32 (.mov (.t 5)),
 Ot 4 (.mov (.t 32))]))
 .ret))))
def graph_Graph_made.res : List RX := [(4, none)]
theorem graph_Graph_made.m : mK pg Tryz.f111.ntmps graph_Graph_made.k (Tryz.f111.body.getD .skip) = true := by kernel_rfl
theorem graph_Graph_made.mr : mRes pg Tryz.f111.results.toList graph_Graph_made.res = true := by kernel_rfl
theorem graph_Graph_made.of {args : List V} {r : V} (hn : args.length = 2) (hW : W pg graph_Graph_made.k (done graph_Graph_made.res r) (start args)) : Ret pg zc9 args r :=
 Ret_of (fn := Tryz.f111) Tryz.func111 rfl (by kernel_rfl) graph_Graph_made.m graph_Graph_made.mr (by rw [hn]; exact of_decide_eq_true (by kernel_rfl)) hW
def lin_Of.k : K :=
 (.seq (.keep [1] (.ops false [Ot 1 (.boxP (.t 0)),
 Ot 2 (.mov (.c .nil)),
 Ot 3 (.mov (.c (.int .i64 0)))]))
 (.seq (.seq (.keep [1, 8] (.ops false [Ot 6 (.load 1 false (.t 1)),
 Ot 7 (.len false (.t 6)),
 Ot 8 (.bin .gtr (.t 7) (.c (.int .i64 12)))]))
 (.cond (.t 8) (.seq (.keep [2, 3] (.ops false [Ot 2 (.mov (.c .nil)),
 Ot 3 (.mov (.c (.int .i64 2)))]))
 .ret)
 .skip))
 (.seq (.seq (.keep [1, 9, 10, 11] (.ops false [Ot 9 (.load 1 false (.t 1)),
 Ot 10 (.len false (.t 9)),
 Ot 11 (.mov (.c (.int .i64 0)))]))
 (.block 0 (.loop (.seq (.keep [1, 9, 10, 11, 12] (.ops false [Ot 12 (.bin .lss (.t 11) (.t 10))]))
 (.seq (.cond (.t 12) .skip
 (.exit 0))
 (.seq (.block 1 (.seq (.keep [1, 5, 9, 10, 11] (.ops false [Ot 13 (.idxA 1 (.t 9) (.t 11)),
 Ot 14 (.load 1 false (.t 13)),
 Ot 5 (.mov (.t 14))]))
 (.seq (.keep [1, 9, 10, 11, 19] (.ops false [Ot 15 (.mov (.t 5)),
 Ot 16 (.len false (.t 15)),
 Ot 17 (.load 1 false (.t 1)),
 Ot 18 (.len false (.t 17)),
 Ot 19 (.bin .neq (.t 16) (.t 18))]))
 (.cond (.t 19) (.seq (.keep [2, 3] (.ops false [Ot 2 (.mov (.c .nil)),
 Ot 3 (.mov (.c (.int .i64 1)))]))
 .ret)
 .skip))))
 (.keep [1, 9, 10, 11] (.ops false [Ot 20 (.bin .add (.t 11) (.c (.int .i64 1))),
 Ot 11 (.mov (.t 20))]))))))))
 (.seq (.keep [2, 3] (.ops false [Ot 21 (.load 1 false (.t 1)),
 Ot 22 (.len false (.t 21)),
 Ot 23 (.mkFn n_lin_Of_1 [(.t 1)]),
 Ot 24 (.callG zg8 [(.t 22), (.t 23)]),
 Ot 2 (.mov (.t 24)),
 Ot 3 (.mov (.c (.int .i64 0)))]))
 .ret))))
def lin_Of.res : List RX := [(2, none), (3, none)]
theorem lin_Of.m : mK pg Tryz.f118.ntmps lin_Of.k (Tryz.f118.body.getD .skip) = true := by kernel_rfl
theorem lin_Of.mr : mRes pg Tryz.f118.results.toList lin_Of.res = true := by kernel_rfl
theorem lin_Of.of {args : List V} {r : V} (hn : args.length = 1) (hW : W pg lin_Of.k (done lin_Of.res r) (start args)) : Ret pg n_lin_Of args r :=
 Ret_of (fn := Tryz.f118) Tryz.func118 rfl (by kernel_rfl) lin_Of.m lin_Of.mr (by rw [hn]; exact of_decide_eq_true (by kernel_rfl)) hW
def lin_sum.k : K :=
 (.seq (.keep [0, 1, 4] (.ops false [Ot 4 (.alloc 2 (.agg [(.bool false), (.sl [])]))]))
 (.seq (.keep [0, 1, 4, 5] (.ops false [Ot 5 (.alloc 2 (.agg [(.bool false), (.sl [])]))]))
 (.seq (.seq (.keep [1, 4, 5, 9, 10] (.ops false [Ot 9 (.mov (.t 0)),
 Ot 10 (.mov (.c (.int .i64 0)))]))
 (.block 0 (.loop (.seq (.keep [1, 4, 5, 9, 10, 11] (.ops false [Ot 11 (.bin .lss (.t 10) (.t 9))]))
 (.seq (.cond (.t 11) .skip
 (.exit 0))
 (.seq (.block 1 (.seq (.keep [1, 4, 5, 6, 9, 10] (.ops false [Ot 12 (.mov (.t 10)),
 Ot 6 (.mov (.t 12))]))
 (.seq (.keep [1, 4, 5, 7, 8, 9, 10] (.ops false [Ot 14 (.mov (.t 1)),
 Ot 15 (.mov (.t 6)),
 Ot 16 (.callGV (.t 14) [(.t 15)]),
 Ot 13 (.mov (.t 16)),
 Ot 17 (.ext (.t 13) 0),
 Ot 18 (.ext (.t 13) 1),
 Ot 7 (.alloc 2 (.agg [(.bool false), (.sl [])])),
 Ot 8 (.alloc 2 (.agg [(.bool false), (.sl [])])),
 ⟨none, none, .store 2 (.t 7) (.t 17)⟩,
 ⟨none, none, .store 2 (.t 8) (.t 18)⟩]))
 (.keep [1, 4, 5, 9, 10] (.ops true [Ot 19 (.load 2 true (.t 5)),
 Ot 20 (.load 2 true (.t 7)),
 Ot 21 (.load 2 true (.t 8)),
 Ot 22 (.call zap [(.t 20), (.t 21)]),
 Ot 23 (.call zbh [(.t 19), (.t 22)]),
 ⟨none, none, .store 2 (.t 5) (.t 23)⟩])))))
 (.keep [1, 4, 5, 9, 10] (.ops false [Ot 24 (.bin .add (.t 10) (.c (.int .i64 1))),
 Ot 10 (.mov (.t 24))]))))))))
 (.seq (.keep [4] (.ops false [Ot 25 (.load 2 true (.t 5)),
 ⟨none, none, .store 2 (.t 4) (.t 25)⟩]))
 .ret))))
def lin_sum.res : List RX := [(4, some (2, true))]
theorem lin_sum.m : mK pg Tryz.f143.ntmps lin_sum.k (Tryz.f143.body.getD .skip) = true := by kernel_rfl
theorem lin_sum.mr : mRes pg Tryz.f143.results.toList lin_sum.res = true := by kernel_rfl
theorem lin_sum.of {args : List V} {r : V} (hn : args.length = 2) (hW : W pg lin_sum.k (done lin_sum.res r) (start args)) : Ret pg n_lin_sum args r :=
 Ret_of (fn := Tryz.f143) Tryz.func143 rfl (by kernel_rfl) lin_sum.m lin_sum.mr (by rw [hn]; exact of_decide_eq_true (by kernel_rfl)) hW
def lin_made.k : K :=
 (.seq (.keep [2, 3] (.ops false [Ot 2 (.boxP (.t 0)),
 Ot 3 (.boxP (.t 1)),
 Ot 4 (.mov (.c .nil))]))
 (.seq (.keep [4] (.ops false [Ot 5 (.load 1 false (.t 2)),
 Ot 6 (.mkFn zgq [(.t 2), (.t 3)]),
 Ot 7 (.callG zbf [(.t 5), (.t 6)]),
 Ot 4 (.mov (.t 7))]))
 .ret))
def lin_made.res : List RX := [(4, none)]
theorem lin_made.m : mK pg Tryz.f146.ntmps lin_made.k (Tryz.f146.body.getD .skip) = true := by kernel_rfl
theorem lin_made.mr : mRes pg Tryz.f146.results.toList lin_made.res = true := by kernel_rfl
theorem lin_made.of {args : List V} {r : V} (hn : args.length = 2) (hW : W pg lin_made.k (done lin_made.res r) (start args)) : Ret pg zg8 args r :=
 Ret_of (fn := Tryz.f146) Tryz.func146 rfl (by kernel_rfl) lin_made.m lin_made.mr (by rw [hn]; exact of_decide_eq_true (by kernel_rfl)) hW
def lin_list_long_Int.k : K :=
 (.seq (.keep [0, 1] (.ops false [Ot 4 (.mov (.c .nil))]))
 (.seq (.keep [1, 5] (.ops false [Ot 7 (.mov (.t 0)),
 Ot 8 (.new (.mks 2 32 (.agg [(.bool false), (.sl [])])) [(.t 7), (.t 7)]),
 Ot 5 (.mov (.t 8))]))
 (.seq (.seq (.keep [1, 5, 10, 11] (.ops false [Ot 9 (.mov (.t 5)),
 Ot 10 (.len false (.t 9)),
 Ot 11 (.mov (.c (.int .i64 0)))]))
 (.block 0 (.loop (.seq (.keep [1, 5, 10, 11, 12] (.ops false [Ot 12 (.bin .lss (.t 11) (.t 10))]))
 (.seq (.cond (.t 12) .skip
 (.exit 0))
 (.seq (.block 1 (.seq (.keep [1, 5, 6, 10, 11] (.ops false [Ot 13 (.mov (.t 11)),
 Ot 6 (.mov (.t 13))]))
 (.keep [1, 5, 10, 11] (.ops false [Ot 14 (.mov (.t 5)),
 Ot 15 (.mov (.t 6)),
 Ot 16 (.mov (.t 1)),
 Ot 17 (.mov (.t 6)),
 Ot 18 (.callGV (.t 16) [(.t 17)]),
 Ot 19 (.idxA 2 (.t 14) (.t 15)),
 ⟨none, none, .store 2 (.t 19) (.t 18)⟩]))))
 (.keep [1, 5, 10, 11] (.ops false [Ot 20 (.bin .add (.t 11) (.c (.int .i64 1))),
 Ot 11 (.mov (.t 20))]))))))))
 (.seq (.keep [4] (.ops false [Ot 21 (.mov (.t 5)),
 Ot 4 (.mov (.t 21))]))
 .ret))))
def lin_list_long_Int.res : List RX := [(4, none)]
theorem lin_list_long_Int.m : mK pg Tryz.f149.ntmps lin_list_long_Int.k (Tryz.f149.body.getD .skip) = true := by kernel_rfl
theorem lin_list_long_Int.mr : mRes pg Tryz.f149.results.toList lin_list_long_Int.res = true := by kernel_rfl
theorem lin_list_long_Int.of {args : List V} {r : V} (hn : args.length = 2) (hW : W pg lin_list_long_Int.k (done lin_list_long_Int.res r) (start args)) : Ret pg za4 args r :=
 Ret_of (fn := Tryz.f149) Tryz.func149 rfl (by kernel_rfl) lin_list_long_Int.m lin_list_long_Int.mr (by rw [hn]; exact of_decide_eq_true (by kernel_rfl)) hW
theorem lin_list_long_Int.ofG {args : List V} {H : Hp} {n : Nat} {Q : V → Hp → Nat → Prop} (hn : args.length = 2) (hW : W pg lin_list_long_Int.k (doneG lin_list_long_Int.res (fun r H' n' => n ≤ n' ∧ Q r H' n')) (zfp args H n)) : ∃ r H' n', Q r H' n' ∧ RetG pg za4 args H n r H' n' :=
 RetG_of (fn := Tryz.f149) Tryz.func149 rfl (by kernel_rfl) lin_list_long_Int.m lin_list_long_Int.mr (by rw [hn]; exact of_decide_eq_true (by kernel_rfl)) hW
def lin_turned.k : K :=
 (.seq (.keep [1, 2, 4] (.ops false [Ot 2 (.boxP (.t 0)),
 Ot 4 (.alloc 2 (.agg [(.bool false), (.sl [])]))]))
 (.seq (.seq (.keep [2, 4, 5] (.ops false [Ot 5 (.mov (.t 1))]))
 (.cond (.t 5) (.seq (.keep [4] (.ops false [Ot 6 (.load 2 true (.t 2)),
 Ot 7 (.callG zfj [(.t 6)]),
 ⟨none, none, .store 2 (.t 4) (.t 7)⟩]))
 .ret)
 .skip))
 (.seq (.keep [4] (.ops false [Ot 8 (.load 2 true (.t 2)),
 ⟨none, none, .store 2 (.t 4) (.t 8)⟩]))
 .ret)))
def lin_turned.res : List RX := [(4, some (2, true))]
theorem lin_turned.m : mK pg Tryz.f151.ntmps lin_turned.k (Tryz.f151.body.getD .skip) = true := by kernel_rfl
theorem lin_turned.mr : mRes pg Tryz.f151.results.toList lin_turned.res = true := by kernel_rfl
theorem lin_turned.of {args : List V} {r : V} (hn : args.length = 2) (hW : W pg lin_turned.k (done lin_turned.res r) (start args)) : Ret pg zgp args r :=
 Ret_of (fn := Tryz.f151) Tryz.func151 rfl (by kernel_rfl) lin_turned.m lin_turned.mr (by rw [hn]; exact of_decide_eq_true (by kernel_rfl)) hW
def lin_Of_1.k : K :=
 (.seq (.keep [0, 1, 2, 5] (.ops false [Ot 5 (.alloc 2 (.agg [(.bool false), (.sl [])]))]))
 (.seq (.keep [5] (.ops false [Ot 6 (.load 1 false (.t 2)),
 Ot 7 (.mov (.t 0)),
 Ot 8 (.idxA 1 (.t 6) (.t 7)),
 Ot 9 (.load 1 false (.t 8)),
 Ot 10 (.mov (.t 1)),
 Ot 11 (.idxA 1 (.t 9) (.t 10)),
 Ot 12 (.load 1 false (.t 11)),
 Ot 13 (.callG za0 [(.t 12)]),
 ⟨none, none, .store 2 (.t 5) (.t 13)⟩]))
 .ret))
def lin_Of_1.res : List RX := [(5, some (2, true))]
theorem lin_Of_1.m : mK pg Tryz.f167.ntmps lin_Of_1.k (Tryz.f167.body.getD .skip) = true := by kernel_rfl
theorem lin_Of_1.mr : mRes pg Tryz.f167.results.toList lin_Of_1.res = true := by kernel_rfl
theorem lin_Of_1.of {args : List V} {r : V} (hn : args.length = 3) (hW : W pg lin_Of_1.k (done lin_Of_1.res r) (start args)) : Ret pg n_lin_Of_1 args r :=
 Ret_of (fn := Tryz.f167) Tryz.func167 rfl (by kernel_rfl) lin_Of_1.m lin_Of_1.mr (by rw [hn]; exact of_decide_eq_true (by kernel_rfl)) hW
def lin_zeros.k : K :=
 (.seq (.keep [0] (.ops false [Ot 2 (.mov (.c .nil))]))
 (.seq (.keep [2] (.ops false [Ot 3 (.mov (.t 0)),
 Ot 4 (.new (.mks 2 32 (.agg [(.bool false), (.sl [])])) [(.t 3), (.t 3)]),
 Ot 2 (.mov (.t 4))]))
 .ret))
def lin_zeros.res : List RX := [(2, none)]
theorem lin_zeros.m : mK pg Tryz.f174.ntmps lin_zeros.k (Tryz.f174.body.getD .skip) = true := by kernel_rfl
theorem lin_zeros.mr : mRes pg Tryz.f174.results.toList lin_zeros.res = true := by kernel_rfl
theorem lin_zeros.of {args : List V} {r : V} (hn : args.length = 1) (hW : W pg lin_zeros.k (done lin_zeros.res r) (start args)) : Ret pg n_lin_zeros args r :=
 Ret_of (fn := Tryz.f174) Tryz.func174 rfl (by kernel_rfl) lin_zeros.m lin_zeros.mr (by rw [hn]; exact of_decide_eq_true (by kernel_rfl)) hW
def lin_list_Llong_Int.k : K :=
 (.seq (.keep [0, 1] (.ops false [Ot 4 (.mov (.c .nil))]))
 (.seq (.keep [1, 5] (.ops false [Ot 7 (.mov (.t 0)),
 Ot 8 (.new (.mks 1 24 .nil) [(.t 7), (.t 7)]),
 Ot 5 (.mov (.t 8))]))
 (.seq (.seq (.keep [1, 5, 10, 11] (.ops false [Ot 9 (.mov (.t 5)),
 Ot 10 (.len false (.t 9)),
 Ot 11 (.mov (.c (.int .i64 0)))]))
 (.block 0 (.loop (.seq (.keep [1, 5, 10, 11, 12] (.ops false [Ot 12 (.bin .lss (.t 11) (.t 10))]))
 (.seq (.cond (.t 12) .skip
 (.exit 0))
 (.seq (.block 1 (.seq (.keep [1, 5, 6, 10, 11] (.ops false [Ot 13 (.mov (.t 11)),
 Ot 6 (.mov (.t 13))]))
 (.keep [1, 5, 10, 11] (.ops false [Ot 14 (.mov (.t 5)),
 Ot 15 (.mov (.t 6)),
 Ot 16 (.mov (.t 1)),
 Ot 17 (.mov (.t 6)),
 Ot 18 (.callGV (.t 16) [(.t 17)]),
 Ot 19 (.idxA 1 (.t 14) (.t 15)),
 ⟨none, none, .store 1 (.t 19) (.t 18)⟩]))))
 (.keep [1, 5, 10, 11] (.ops false [Ot 20 (.bin .add (.t 11) (.c (.int .i64 1))),
 Ot 11 (.mov (.t 20))]))))))))
 (.seq (.keep [4] (.ops false [Ot 21 (.mov (.t 5)),
 Ot 4 (.mov (.t 21))]))
 .ret))))
def lin_list_Llong_Int.res : List RX := [(4, none)]
theorem lin_list_Llong_Int.m : mK pg Tryz.f178.ntmps lin_list_Llong_Int.k (Tryz.f178.body.getD .skip) = true := by kernel_rfl
theorem lin_list_Llong_Int.mr : mRes pg Tryz.f178.results.toList lin_list_Llong_Int.res = true := by kernel_rfl
theorem lin_list_Llong_Int.of {args : List V} {r : V} (hn : args.length = 2) (hW : W pg lin_list_Llong_Int.k (done lin_list_Llong_Int.res r) (start args)) : Ret pg zbf args r :=
 Ret_of (fn := Tryz.f178) Tryz.func178 rfl (by kernel_rfl) lin_list_Llong_Int.m lin_list_Llong_Int.mr (by rw [hn]; exact of_decide_eq_true (by kernel_rfl)) hW
theorem lin_list_Llong_Int.ofG {args : List V} {H : Hp} {n : Nat} {Q : V → Hp → Nat → Prop} (hn : args.length = 2) (hW : W pg lin_list_Llong_Int.k (doneG lin_list_Llong_Int.res (fun r H' n' => n ≤ n' ∧ Q r H' n')) (zfp args H n)) : ∃ r H' n', Q r H' n' ∧ RetG pg zbf args H n r H' n' :=
 RetG_of (fn := Tryz.f178) Tryz.func178 rfl (by kernel_rfl) lin_list_Llong_Int.m lin_list_Llong_Int.mr (by rw [hn]; exact of_decide_eq_true (by kernel_rfl)) hW
def lin_made_1.k : K :=
 (.seq (.keep [1, 2, 3] (.ops false [Ot 3 (.boxP (.t 0)),
 Ot 4 (.mov (.c .nil))]))
 (.seq (.keep [4] (.ops false [Ot 5 (.load 1 false (.t 1)),
 Ot 6 (.mkFn zfk [(.t 2), (.t 3)]),
 Ot 7 (.callG za4 [(.t 5), (.t 6)]),
 Ot 4 (.mov (.t 7))]))
 .ret))
def lin_made_1.res : List RX := [(4, none)]
theorem lin_made_1.m : mK pg Tryz.f179.ntmps lin_made_1.k (Tryz.f179.body.getD .skip) = true := by kernel_rfl
theorem lin_made_1.mr : mRes pg Tryz.f179.results.toList lin_made_1.res = true := by kernel_rfl
theorem lin_made_1.of {args : List V} {r : V} (hn : args.length = 3) (hW : W pg lin_made_1.k (done lin_made_1.res r) (start args)) : Ret pg zgq args r :=
 Ret_of (fn := Tryz.f179) Tryz.func179 rfl (by kernel_rfl) lin_made_1.m lin_made_1.mr (by rw [hn]; exact of_decide_eq_true (by kernel_rfl)) hW
def lin_made_1_1.k : K :=
 (.seq (.keep [0, 1, 2, 4] (.ops false [Ot 4 (.alloc 2 (.agg [(.bool false), (.sl [])]))]))
 (.seq (.keep [4] (.ops false [Ot 5 (.load 1 false (.t 1)),
 Ot 6 (.load 1 false (.t 2)),
 Ot 7 (.mov (.t 0)),
 Ot 8 (.callGV (.t 5) [(.t 6), (.t 7)]),
 ⟨none, none, .store 2 (.t 4) (.t 8)⟩]))
 .ret))
def lin_made_1_1.res : List RX := [(4, some (2, true))]
theorem lin_made_1_1.m : mK pg Tryz.f180.ntmps lin_made_1_1.k (Tryz.f180.body.getD .skip) = true := by kernel_rfl
theorem lin_made_1_1.mr : mRes pg Tryz.f180.results.toList lin_made_1_1.res = true := by kernel_rfl
theorem lin_made_1_1.of {args : List V} {r : V} (hn : args.length = 3) (hW : W pg lin_made_1_1.k (done lin_made_1_1.res r) (start args)) : Ret pg zfk args r :=
 Ret_of (fn := Tryz.f180) Tryz.func180 rfl (by kernel_rfl) lin_made_1_1.m lin_made_1_1.mr (by rw [hn]; exact of_decide_eq_true (by kernel_rfl)) hW
def lin_Mat_Quad.k : K :=
 (.seq (.keep [0, 3, 4] (.ops false [Ot 3 (.boxP (.t 1)),
 Ot 4 (.alloc 2 (.agg [(.bool false), (.sl [])]))]))
 (.seq (.keep [0, 3, 4, 5] (.ops false [Ot 6 (.mov (.t 0)),
 Ot 7 (.load 1 false (.t 3)),
 Ot 8 (.callG zge [(.t 6), (.t 7)]),
 Ot 5 (.alloc 1 .nil),
 ⟨none, none, .store 1 (.t 5) (.t 8)⟩]))
 (.seq (.keep [4] (.ops false [Ot 9 (.mov (.t 0)),
 Ot 10 (.len false (.t 9)),
 Ot 11 (.mkFn zdz [(.t 3), (.t 5)]),
 Ot 12 (.callG n_lin_sum [(.t 10), (.t 11)]),
 ⟨none, none, .store 2 (.t 4) (.t 12)⟩]))
 .ret)))
def lin_Mat_Quad.res : List RX := [(4, some (2, true))]
theorem lin_Mat_Quad.m : mK pg Tryz.f85.ntmps lin_Mat_Quad.k (Tryz.f85.body.getD .skip) = true := by kernel_rfl
theorem lin_Mat_Quad.mr : mRes pg Tryz.f85.results.toList lin_Mat_Quad.res = true := by kernel_rfl
theorem lin_Mat_Quad.of {args : List V} {r : V} (hn : args.length = 2) (hW : W pg lin_Mat_Quad.k (done lin_Mat_Quad.res r) (start args)) : Ret pg zgw args r :=
 Ret_of (fn := Tryz.f85) Tryz.func85 rfl (by kernel_rfl) lin_Mat_Quad.m lin_Mat_Quad.mr (by rw [hn]; exact of_decide_eq_true (by kernel_rfl)) hW
def lin_Mat_Definite.k : K :=
 (.seq (.keep [1] (.ops false [Ot 1 (.boxP (.t 0)),
 Ot 2 (.mov (.c (.bool false)))]))
 (.seq (.seq (.keep [1, 7, 8] (.ops false [Ot 6 (.load 1 false (.t 1)),
 Ot 7 (.len false (.t 6)),
 Ot 8 (.mov (.c (.int .i64 0)))]))
 (.block 0 (.loop (.seq (.keep [1, 7, 8, 9] (.ops false [Ot 9 (.bin .lss (.t 8) (.t 7))]))
 (.seq (.cond (.t 9) .skip
 (.exit 0))
 (.seq (.block 1 (.seq (.keep [1, 3, 7, 8] (.ops false [Ot 10 (.mov (.t 8)),
 Ot 3 (.mov (.t 10))]))
 (.seq (.seq (.keep [1, 3, 7, 8, 11, 12] (.ops false [Ot 11 (.mov (.t 3)),
 Ot 12 (.mov (.c (.int .i64 0)))]))
 (.block 2 (.loop (.seq (.keep [1, 3, 7, 8, 11, 12, 13] (.ops false [Ot 13 (.bin .lss (.t 12) (.t 11))]))
 (.seq (.cond (.t 13) .skip
 (.exit 2))
 (.seq (.block 3 (.seq (.keep [1, 3, 4, 7, 8, 11, 12] (.ops false [Ot 14 (.mov (.t 12)),
 Ot 4 (.mov (.t 14))]))
 (.seq (.keep [1, 3, 7, 8, 11, 12, 30] (.ops true [Ot 15 (.load 1 false (.t 1)),
 Ot 16 (.mov (.t 3)),
 Ot 17 (.idxA 1 (.t 15) (.t 16)),
 Ot 18 (.load 1 false (.t 17)),
 Ot 19 (.mov (.t 4)),
 Ot 20 (.idxA 2 (.t 18) (.t 19)),
 Ot 21 (.load 2 true (.t 20)),
 Ot 22 (.load 1 false (.t 1)),
 Ot 23 (.mov (.t 4)),
 Ot 24 (.idxA 1 (.t 22) (.t 23)),
 Ot 25 (.load 1 false (.t 24)),
 Ot 26 (.mov (.t 3)),
 Ot 27 (.idxA 2 (.t 25) (.t 26)),
 Ot 28 (.load 2 true (.t 27)),
 Ot 29 (.call zc3 [(.t 21), (.t 28)]),
 Ot 30 (.bin .neq (.t 29) (.c (.int .i64 0)))]))
 (.cond (.t 30) (.seq (.keep [2] (.ops false [Ot 2 (.mov (.c (.bool false)))]))
 .ret)
 .skip))))
 (.keep [1, 3, 7, 8, 11, 12] (.ops false [Ot 31 (.bin .add (.t 12) (.c (.int .i64 1))),
 Ot 12 (.mov (.t 31))]))))))))
 (.seq (.keep [1, 5, 7, 8] (.ops false [Ot 32 (.mov (.t 3)),
 Ot 33 (.bin .add (.t 32) (.c (.int .i64 1))),
 Ot 34 (.mkFn zco [(.t 1)]),
 Ot 35 (.callG zg8 [(.t 33), (.t 34)]),
 Ot 5 (.mov (.t 35))]))
 (.seq (.keep [1, 7, 8, 39] (.ops false [Ot 36 (.mov (.t 5)),
 Ot 37 (.callG zeo [(.t 36)]),
 Ot 38 (.callG zca [(.t 37)]),
 Ot 39 (.bin .leq (.t 38) (.c (.int .i64 0)))]))
 (.cond (.t 39) (.seq (.keep [2] (.ops false [Ot 2 (.mov (.c (.bool false)))]))
 .ret)
 .skip))))))
 (.keep [1, 7, 8] (.ops false [Ot 40 (.bin .add (.t 8) (.c (.int .i64 1))),
 Ot 8 (.mov (.t 40))]))))))))
 (.seq (.keep [2] (.ops false [Ot 2 (.mov (.c (.bool true)))]))
 .ret)))
def lin_Mat_Definite.res : List RX := [(2, none)]
theorem lin_Mat_Definite.m : mK pg Tryz.f90.ntmps lin_Mat_Definite.k (Tryz.f90.body.getD .skip) = true := by kernel_rfl
theorem lin_Mat_Definite.mr : mRes pg Tryz.f90.results.toList lin_Mat_Definite.res = true := by kernel_rfl
theorem lin_Mat_Definite.of {args : List V} {r : V} (hn : args.length = 1) (hW : W pg lin_Mat_Definite.k (done lin_Mat_Definite.res r) (start args)) : Ret pg zc8 args r :=
 Ret_of (fn := Tryz.f90) Tryz.func90 rfl (by kernel_rfl) lin_Mat_Definite.m lin_Mat_Definite.mr (by rw [hn]; exact of_decide_eq_true (by kernel_rfl)) hW
def lin_Mat_Solve.k : K :=
 (.seq (.keep [1, 2, 5] (.ops false [Ot 2 (.boxP (.t 0)),
 Ot 4 (.mov (.c .nil)),
 Ot 5 (.alloc 2 (.agg [(.bool false), (.sl [])])),
 Ot 6 (.mov (.c (.int .i64 0)))]))
 (.seq (.seq (.keep [1, 2, 5, 14] (.ops false [Ot 10 (.mov (.t 1)),
 Ot 11 (.len false (.t 10)),
 Ot 12 (.load 1 false (.t 2)),
 Ot 13 (.len false (.t 12)),
 Ot 14 (.bin .neq (.t 11) (.t 13))]))
 (.cond (.t 14) (.seq (.keep [4, 5, 6] (.ops false [Ot 15 (.build [(.bool false), (.sl [])] []),
 Ot 4 (.mov (.c .nil)),
 ⟨none, none, .store 2 (.t 5) (.t 15)⟩,
 Ot 6 (.mov (.c (.int .i64 1)))]))
 .ret)
 .skip))
 (.seq (.keep [2, 5, 7, 8, 9] (.ops false [Ot 17 (.load 1 false (.t 2)),
 Ot 18 (.mov (.t 1)),
 Ot 19 (.callG zen [(.t 17), (.t 18)]),
 Ot 16 (.mov (.t 19)),
 Ot 20 (.ext (.t 16) 0),
 Ot 21 (.ext (.t 16) 1),
 Ot 22 (.ext (.t 16) 2),
 Ot 7 (.alloc 1 .nil),
 Ot 8 (.alloc 1 (.bool false)),
 ⟨none, none, .store 1 (.t 7) (.t 20)⟩,
 ⟨none, none, .store 1 (.t 8) (.t 21)⟩,
 Ot 9 (.mov (.t 22))]))
 (.seq (.seq (.keep [2, 5, 7, 8, 24] (.ops false [Ot 23 (.mov (.t 9)),
 Ot 24 (.un .not (.t 23))]))
 (.cond (.t 24) (.seq (.keep [4, 5, 6] (.ops false [Ot 25 (.build [(.bool false), (.sl [])] []),
 Ot 4 (.mov (.c .nil)),
 ⟨none, none, .store 2 (.t 5) (.t 25)⟩,
 Ot 6 (.mov (.c (.int .i64 11)))]))
 .ret)
 .skip))
 (.seq (.gh (.keep [4, 5, 6] (.ops true [Ot 26 (.load 1 false (.t 2)),
 Ot 27 (.len false (.t 26)),
 Ot 28 (.mkFn zdq [(.t 7), (.t 2), (.t 8)]),
 Ot 29 (.call za4 [(.t 27), (.t 28)]),
 Ot 30 (.load 1 false (.t 2)),
 Ot 31 (.call zeo [(.t 30)]),
 Ot 4 (.mov (.t 29)),
 ⟨none, none, .store 2 (.t 5) (.t 31)⟩,
 Ot 6 (.mov (.c (.int .i64 0)))])))
 .ret)))))
def lin_Mat_Solve.res : List RX := [(4, none), (5, some (2, true)), (6, none)]
theorem lin_Mat_Solve.m : mK pg Tryz.f91.ntmps lin_Mat_Solve.k (Tryz.f91.body.getD .skip) = true := by kernel_rfl
theorem lin_Mat_Solve.mr : mRes pg Tryz.f91.results.toList lin_Mat_Solve.res = true := by kernel_rfl
theorem lin_Mat_Solve.of {args : List V} {r : V} (hn : args.length = 2) (hW : W pg lin_Mat_Solve.k (done lin_Mat_Solve.res r) (start args)) : Ret pg zdk args r :=
 Ret_of (fn := Tryz.f91) Tryz.func91 rfl (by kernel_rfl) lin_Mat_Solve.m lin_Mat_Solve.mr (by rw [hn]; exact of_decide_eq_true (by kernel_rfl)) hW
def lin_Mat_Turned.k : K :=
 (.seq (.keep [1] (.ops false [Ot 1 (.boxP (.t 0)),
 Ot 2 (.mov (.c .nil))]))
 (.seq (.keep [2] (.ops false [Ot 3 (.load 1 false (.t 1)),
 Ot 4 (.len false (.t 3)),
 Ot 5 (.mkFn zc7 [(.t 1)]),
 Ot 6 (.callG zg8 [(.t 4), (.t 5)]),
 Ot 2 (.mov (.t 6))]))
 .ret))
def lin_Mat_Turned.res : List RX := [(2, none)]
theorem lin_Mat_Turned.m : mK pg Tryz.f120.ntmps lin_Mat_Turned.k (Tryz.f120.body.getD .skip) = true := by kernel_rfl
theorem lin_Mat_Turned.mr : mRes pg Tryz.f120.results.toList lin_Mat_Turned.res = true := by kernel_rfl
theorem lin_Mat_Turned.of {args : List V} {r : V} (hn : args.length = 1) (hW : W pg lin_Mat_Turned.k (done lin_Mat_Turned.res r) (start args)) : Ret pg zfz args r :=
 Ret_of (fn := Tryz.f120) Tryz.func120 rfl (by kernel_rfl) lin_Mat_Turned.m lin_Mat_Turned.mr (by rw [hn]; exact of_decide_eq_true (by kernel_rfl)) hW
def lin_Mat_Det.k : K :=
 (.seq (.keep [0, 2] (.ops false [Ot 2 (.alloc 2 (.agg [(.bool false), (.sl [])]))]))
 (.seq (.keep [0, 2, 3, 4, 5] (.ops false [Ot 7 (.mov (.t 0)),
 Ot 8 (.mov (.t 0)),
 Ot 9 (.len false (.t 8)),
 Ot 10 (.callG n_lin_zeros [(.t 9)]),
 Ot 11 (.callG zen [(.t 7), (.t 10)]),
 Ot 6 (.mov (.t 11)),
 Ot 12 (.ext (.t 6) 0),
 Ot 13 (.ext (.t 6) 1),
 Ot 14 (.ext (.t 6) 2),
 Ot 3 (.mov (.t 12)),
 Ot 4 (.mov (.t 13)),
 Ot 5 (.mov (.t 14))]))
 (.seq (.block 0 (.seq (.keep [0, 2, 3, 4, 15] (.ops false [Ot 16 (.mov (.t 5)),
 Ot 17 (.un .not (.t 16)),
 Ot 15 (.mov (.t 17))]))
 (.cond (.t 15) (.seq (.keep [2] (.ops false [Ot 18 (.build [(.bool false), (.sl [])] []),
 ⟨none, none, .store 2 (.t 2) (.t 18)⟩]))
 .ret)
 (.seq (.keep [0, 2, 3, 4, 19] (.ops false [Ot 20 (.mov (.t 0)),
 Ot 21 (.len false (.t 20)),
 Ot 22 (.bin .eql (.t 21) (.c (.int .i64 0))),
 Ot 19 (.mov (.t 22))]))
 (.cond (.t 19) (.seq (.keep [2] (.ops false [Ot 23 (.callG za0 [(.c (.int .i64 1))]),
 ⟨none, none, .store 2 (.t 2) (.t 23)⟩]))
 .ret)
 .skip)))))
 (.seq (.keep [2] (.ops false [Ot 24 (.mov (.t 3)),
 Ot 25 (.mov (.t 0)),
 Ot 26 (.len false (.t 25)),
 Ot 27 (.bin .sub (.t 26) (.c (.int .i64 1))),
 Ot 28 (.idxA 1 (.t 24) (.t 27)),
 Ot 29 (.load 1 false (.t 28)),
 Ot 30 (.mov (.t 0)),
 Ot 31 (.len false (.t 30)),
 Ot 32 (.bin .sub (.t 31) (.c (.int .i64 1))),
 Ot 33 (.idxA 2 (.t 29) (.t 32)),
 Ot 34 (.load 2 true (.t 33)),
 Ot 35 (.mov (.t 4)),
 Ot 36 (.callG zgp [(.t 34), (.t 35)]),
 ⟨none, none, .store 2 (.t 2) (.t 36)⟩]))
 .ret))))
def lin_Mat_Det.res : List RX := [(2, some (2, true))]
theorem lin_Mat_Det.m : mK pg Tryz.f130.ntmps lin_Mat_Det.k (Tryz.f130.body.getD .skip) = true := by kernel_rfl
theorem lin_Mat_Det.mr : mRes pg Tryz.f130.results.toList lin_Mat_Det.res = true := by kernel_rfl
theorem lin_Mat_Det.of {args : List V} {r : V} (hn : args.length = 1) (hW : W pg lin_Mat_Det.k (done lin_Mat_Det.res r) (start args)) : Ret pg zeo args r :=
 Ret_of (fn := Tryz.f130) Tryz.func130 rfl (by kernel_rfl) lin_Mat_Det.m lin_Mat_Det.mr (by rw [hn]; exact of_decide_eq_true (by kernel_rfl)) hW
def lin_Mat_Apply.k : K :=
 (.seq (.keep [2, 3] (.ops false [Ot 2 (.boxP (.t 0)),
 Ot 3 (.boxP (.t 1)),
 Ot 4 (.mov (.c .nil))]))
 (.seq (.keep [4] (.ops false [Ot 5 (.load 1 false (.t 2)),
 Ot 6 (.len false (.t 5)),
 Ot 7 (.mkFn zdr [(.t 2), (.t 3)]),
 Ot 8 (.callG za4 [(.t 6), (.t 7)]),
 Ot 4 (.mov (.t 8))]))
 .ret))
def lin_Mat_Apply.res : List RX := [(4, none)]
theorem lin_Mat_Apply.m : mK pg Tryz.f142.ntmps lin_Mat_Apply.k (Tryz.f142.body.getD .skip) = true := by kernel_rfl
theorem lin_Mat_Apply.mr : mRes pg Tryz.f142.results.toList lin_Mat_Apply.res = true := by kernel_rfl
theorem lin_Mat_Apply.of {args : List V} {r : V} (hn : args.length = 2) (hW : W pg lin_Mat_Apply.k (done lin_Mat_Apply.res r) (start args)) : Ret pg zge args r :=
 Ret_of (fn := Tryz.f142) Tryz.func142 rfl (by kernel_rfl) lin_Mat_Apply.m lin_Mat_Apply.mr (by rw [hn]; exact of_decide_eq_true (by kernel_rfl)) hW
def lin_Mat_Quad_1.k : K :=
 (.seq (.keep [0, 1, 2, 4, 5] (.ops false [Ot 4 (.alloc 2 (.agg [(.bool false), (.sl [])])),
 Ot 5 (.alloc 2 (.agg [(.bool false), (.sl [])]))]))
 (.seq (.keep [4, 5] (.ops true [Ot 6 (.red (.ldP 1 false) [(.t 1)]),
 Ot 7 (.mov (.t 0)),
 Ot 8 (.red (.ixP 2) [(.t 6), (.t 7)]),
 Ot 9 (.red (.ldP 2 true) [(.t 8)]),
 Ot 10 (.red (.ldP 1 false) [(.t 2)]),
 Ot 11 (.mov (.t 0)),
 Ot 12 (.red (.ixP 2) [(.t 10), (.t 11)]),
 Ot 13 (.red (.ldP 2 true) [(.t 12)]),
 ⟨none, none, .store 2 (.t 4) (.t 9)⟩,
 ⟨none, none, .store 2 (.t 5) (.t 13)⟩]))
 .ret))
def lin_Mat_Quad_1.res : List RX := [(4, some (2, true)), (5, some (2, true))]
theorem lin_Mat_Quad_1.m : mK pg Tryz.f144.ntmps lin_Mat_Quad_1.k (Tryz.f144.body.getD .skip) = true := by kernel_rfl
theorem lin_Mat_Quad_1.mr : mRes pg Tryz.f144.results.toList lin_Mat_Quad_1.res = true := by kernel_rfl
theorem lin_Mat_Quad_1.of {args : List V} {r : V} (hn : args.length = 3) (hW : W pg lin_Mat_Quad_1.k (done lin_Mat_Quad_1.res r) (start args)) : Ret pg zdz args r :=
 Ret_of (fn := Tryz.f144) Tryz.func144 rfl (by kernel_rfl) lin_Mat_Quad_1.m lin_Mat_Quad_1.mr (by rw [hn]; exact of_decide_eq_true (by kernel_rfl)) hW
def lin_Mat_Definite_1.k : K :=
 (.seq (.keep [0, 1, 2, 5] (.ops false [Ot 5 (.alloc 2 (.agg [(.bool false), (.sl [])]))]))
 (.seq (.keep [5] (.ops false [Ot 6 (.load 1 false (.t 2)),
 Ot 7 (.mov (.t 0)),
 Ot 8 (.idxA 1 (.t 6) (.t 7)),
 Ot 9 (.load 1 false (.t 8)),
 Ot 10 (.mov (.t 1)),
 Ot 11 (.idxA 2 (.t 9) (.t 10)),
 Ot 12 (.load 2 true (.t 11)),
 ⟨none, none, .store 2 (.t 5) (.t 12)⟩]))
 .ret))
def lin_Mat_Definite_1.res : List RX := [(5, some (2, true))]
theorem lin_Mat_Definite_1.m : mK pg Tryz.f147.ntmps lin_Mat_Definite_1.k (Tryz.f147.body.getD .skip) = true := by kernel_rfl
theorem lin_Mat_Definite_1.mr : mRes pg Tryz.f147.results.toList lin_Mat_Definite_1.res = true := by kernel_rfl
theorem lin_Mat_Definite_1.of {args : List V} {r : V} (hn : args.length = 3) (hW : W pg lin_Mat_Definite_1.k (done lin_Mat_Definite_1.res r) (start args)) : Ret pg zco args r :=
 Ret_of (fn := Tryz.f147) Tryz.func147 rfl (by kernel_rfl) lin_Mat_Definite_1.m lin_Mat_Definite_1.mr (by rw [hn]; exact of_decide_eq_true (by kernel_rfl)) hW
def lin_Mat_swept.k : K :=
 (.seq (.keep [2, 3, 5] (.ops false [Ot 2 (.boxP (.t 0)),
 Ot 3 (.boxP (.t 1)),
 Ot 4 (.mov (.c .nil)),
 Ot 5 (.mov (.c (.bool false))),
 Ot 6 (.mov (.c (.bool false)))]))
 (.seq (.keep [2, 3, 5, 7] (.ops false [Ot 15 (.load 1 false (.t 2)),
 Ot 16 (.len false (.t 15)),
 Ot 7 (.alloc 1 (.int .i64 0)),
 ⟨none, none, .store 1 (.t 7) (.t 16)⟩]))
 (.seq (.keep [4, 5, 7] (.ops false [Ot 17 (.load 1 false (.t 7)),
 Ot 18 (.mkFn zbx [(.t 7), (.t 2), (.t 3)]),
 Ot 19 (.callG zbf [(.t 17), (.t 18)]),
 Ot 4 (.mov (.t 19))]))
 (.seq (.keep [4, 5, 7, 8] (.ops false [Ot 20 (.callG za0 [(.c (.int .i64 1))]),
 Ot 8 (.alloc 2 (.agg [(.bool false), (.sl [])])),
 ⟨none, none, .store 2 (.t 8) (.t 20)⟩]))
 (.seq (.seq (.keep [4, 5, 7, 8, 21, 22] (.ops false [Ot 21 (.load 1 false (.t 7)),
 Ot 22 (.mov (.c (.int .i64 0)))]))
 (.block 0 (.loop (.seq (.keep [4, 5, 7, 8, 21, 22, 23] (.ops false [Ot 23 (.bin .lss (.t 22) (.t 21))]))
 (.seq (.cond (.t 23) .skip
 (.exit 0))
 (.seq (.block 1 (.seq (.keep [4, 5, 7, 8, 9, 21, 22] (.ops false [Ot 24 (.mov (.t 22)),
 Ot 9 (.mov (.t 24))]))
 (.seq (.keep [4, 5, 7, 8, 9, 10, 21, 22] (.ops false [Ot 25 (.mov (.t 9)),
 Ot 10 (.mov (.t 25))]))
 (.seq (.block 2 (.loop (.seq (.seq (.keep [4, 5, 7, 8, 9, 10, 21, 22, 39] (.ops false [Ot 26 (.mov (.t 10)),
 Ot 27 (.load 1 false (.t 7)),
 Ot 28 (.bin .lss (.t 26) (.t 27)),
 Ot 29 (.mov (.t 28)),
 ⟨(some 30), (some (29, true)), .mov (.t 4)⟩,
 ⟨(some 31), (some (29, true)), .mov (.t 10)⟩,
 ⟨(some 32), (some (29, true)), .idxA 1 (.t 30) (.t 31)⟩,
 ⟨(some 33), (some (29, true)), .load 1 false (.t 32)⟩,
 ⟨(some 34), (some (29, true)), .mov (.t 9)⟩,
 ⟨(some 35), (some (29, true)), .idxA 2 (.t 33) (.t 34)⟩,
 ⟨(some 36), (some (29, true)), .load 2 true (.t 35)⟩,
 ⟨(some 37), (some (29, true)), .callG zca [(.t 36)]⟩,
 ⟨(some 38), (some (29, true)), .bin .eql (.t 37) (.c (.int .i64 0))⟩,
 Ot 39 (.pick (.t 29) (.t 38) (.c (.bool false)))]))
 (.cond (.t 39) .skip
 (.exit 2)))
 (.keep [4, 5, 7, 8, 9, 10, 21, 22] (.block 3 (.keep [4, 5, 7, 8, 9, 10, 21, 22] (.ops false [Ot 40 (.mov (.t 10)),
 Ot 41 (.bin .add (.t 40) (.c (.int .i64 1))),
 Ot 10 (.mov (.t 41))])))))))
 (.seq (.seq (.keep [4, 5, 7, 8, 9, 10, 21, 22, 44] (.ops false [Ot 42 (.mov (.t 10)),
 Ot 43 (.load 1 false (.t 7)),
 Ot 44 (.bin .eql (.t 42) (.t 43))]))
 (.cond (.t 44) (.seq (.keep [4, 5, 6] (.ops false [Ot 4 (.mov (.c .nil)),
 Ot 5 (.mov (.c (.bool false))),
 Ot 6 (.mov (.c (.bool false)))]))
 .ret)
 .skip))
 (.seq (.seq (.keep [4, 5, 7, 8, 9, 10, 21, 22, 47] (.ops false [Ot 45 (.mov (.t 10)),
 Ot 46 (.mov (.t 9)),
 Ot 47 (.bin .neq (.t 45) (.t 46))]))
 (.cond (.t 47) (.keep [4, 5, 7, 8, 9, 21, 22] (.ops true [Ot 48 (.mov (.t 4)),
 Ot 49 (.mov (.t 10)),
 Ot 50 (.mov (.t 4)),
 Ot 51 (.mov (.t 9)),
 Ot 52 (.mov (.t 4)),
 Ot 53 (.mov (.t 9)),
 Ot 54 (.idxA 1 (.t 52) (.t 53)),
 Ot 55 (.load 1 false (.t 54)),
 Ot 56 (.mov (.t 4)),
 Ot 57 (.mov (.t 10)),
 Ot 58 (.idxA 1 (.t 56) (.t 57)),
 Ot 59 (.load 1 false (.t 58)),
 Ot 60 (.mov (.t 5)),
 Ot 61 (.un .not (.t 60)),
 Ot 62 (.idxA 1 (.t 48) (.t 49)),
 ⟨none, none, .store 1 (.t 62) (.t 55)⟩,
 Ot 63 (.idxA 1 (.t 50) (.t 51)),
 ⟨none, none, .store 1 (.t 63) (.t 59)⟩,
 Ot 5 (.mov (.t 61))]))
 .skip))
 (.seq (.keep [4, 5, 7, 8, 9, 11, 21, 22] (.ops false [Ot 64 (.mov (.t 4)),
 Ot 65 (.mov (.t 9)),
 Ot 66 (.idxA 1 (.t 64) (.t 65)),
 Ot 67 (.load 1 false (.t 66)),
 Ot 68 (.mov (.t 9)),
 Ot 69 (.idxA 2 (.t 67) (.t 68)),
 Ot 70 (.load 2 true (.t 69)),
 Ot 11 (.alloc 2 (.agg [(.bool false), (.sl [])])),
 ⟨none, none, .store 2 (.t 11) (.t 70)⟩]))
 (.seq (.seq (.keep [4, 5, 7, 8, 9, 11, 21, 22, 71, 72] (.ops false [Ot 71 (.load 1 false (.t 7)),
 Ot 72 (.mov (.c (.int .i64 0)))]))
 (.block 4 (.loop (.seq (.keep [4, 5, 7, 8, 9, 11, 21, 22, 71, 72, 73] (.ops false [Ot 73 (.bin .lss (.t 72) (.t 71))]))
 (.seq (.cond (.t 73) .skip
 (.exit 4))
 (.seq (.block 5 (.seq (.keep [4, 5, 7, 8, 9, 11, 12, 21, 22, 71, 72] (.ops false [Ot 74 (.mov (.t 72)),
 Ot 12 (.mov (.t 74))]))
 (.seq (.seq (.keep [4, 5, 7, 8, 9, 11, 12, 21, 22, 71, 72, 77] (.ops false [Ot 75 (.mov (.t 12)),
 Ot 76 (.mov (.t 9)),
 Ot 77 (.bin .eql (.t 75) (.t 76))]))
 (.cond (.t 77) (.exit 5)
 .skip))
 (.seq (.keep [4, 5, 7, 8, 9, 11, 12, 13, 21, 22, 71, 72] (.ops false [Ot 78 (.mov (.t 4)),
 Ot 79 (.mov (.t 12)),
 Ot 80 (.idxA 1 (.t 78) (.t 79)),
 Ot 81 (.load 1 false (.t 80)),
 Ot 82 (.mov (.t 9)),
 Ot 83 (.idxA 2 (.t 81) (.t 82)),
 Ot 84 (.load 2 true (.t 83)),
 Ot 13 (.alloc 2 (.agg [(.bool false), (.sl [])])),
 ⟨none, none, .store 2 (.t 13) (.t 84)⟩]))
 (.seq (.keep [4, 5, 7, 8, 9, 11, 12, 13, 21, 22, 71, 72, 89, 90] (.ops false [Ot 85 (.mov (.t 4)),
 Ot 86 (.mov (.t 12)),
 Ot 87 (.idxA 1 (.t 85) (.t 86)),
 Ot 88 (.load 1 false (.t 87)),
 Ot 89 (.len false (.t 88)),
 Ot 90 (.mov (.c (.int .i64 0)))]))
 (.block 6 (.loop (.seq (.keep [4, 5, 7, 8, 9, 11, 12, 13, 21, 22, 71, 72, 89, 90, 91] (.ops false [Ot 91 (.bin .lss (.t 90) (.t 89))]))
 (.seq (.cond (.t 91) .skip
 (.exit 6))
 (.seq (.block 7 (.seq (.keep [4, 5, 7, 8, 9, 11, 12, 13, 14, 21, 22, 71, 72, 89, 90] (.ops false [Ot 92 (.mov (.t 90)),
 Ot 14 (.mov (.t 92))]))
 (.keep [4, 5, 7, 8, 9, 11, 12, 13, 21, 22, 71, 72, 89, 90] (.ops true [Ot 94 (.mov (.t 4)),
 Ot 95 (.mov (.t 12)),
 Ot 96 (.idxA 1 (.t 94) (.t 95)),
 Ot 97 (.load 1 false (.t 96)),
 Ot 98 (.mov (.t 14)),
 Ot 99 (.load 2 true (.t 11)),
 Ot 100 (.mov (.t 4)),
 Ot 101 (.mov (.t 12)),
 Ot 102 (.idxA 1 (.t 100) (.t 101)),
 Ot 103 (.load 1 false (.t 102)),
 Ot 104 (.mov (.t 14)),
 Ot 105 (.idxA 2 (.t 103) (.t 104)),
 Ot 106 (.load 2 true (.t 105)),
 Ot 107 (.call zap [(.t 99), (.t 106)]),
 Ot 108 (.load 2 true (.t 13)),
 Ot 109 (.mov (.t 4)),
 Ot 110 (.mov (.t 9)),
 Ot 111 (.idxA 1 (.t 109) (.t 110)),
 Ot 112 (.load 1 false (.t 111)),
 Ot 113 (.mov (.t 14)),
 Ot 114 (.idxA 2 (.t 112) (.t 113)),
 Ot 115 (.load 2 true (.t 114)),
 Ot 116 (.call zap [(.t 108), (.t 115)]),
 Ot 117 (.call zbq [(.t 107), (.t 116)]),
 Ot 118 (.load 2 true (.t 8)),
 Ot 119 (.call zfi [(.t 117), (.t 118)]),
 Ot 93 (.mov (.t 119)),
 Ot 120 (.ext (.t 93) 0),
 Ot 121 (.ext (.t 93) 1),
 Ot 122 (.ext (.t 93) 2),
 Ot 123 (.idxA 2 (.t 97) (.t 98)),
 ⟨none, none, .store 2 (.t 123) (.t 120)⟩]))))
 (.keep [4, 5, 7, 8, 9, 11, 12, 13, 21, 22, 71, 72, 89, 90] (.ops false [Ot 124 (.bin .add (.t 90) (.c (.int .i64 1))),
 Ot 90 (.mov (.t 124))]))))))))))))
 (.keep [4, 5, 7, 8, 9, 11, 21, 22, 71, 72] (.ops false [Ot 125 (.bin .add (.t 72) (.c (.int .i64 1))),
 Ot 72 (.mov (.t 125))]))))))))
 (.keep [4, 5, 7, 8, 21, 22] (.ops false [Ot 126 (.load 2 true (.t 11)),
 ⟨none, none, .store 2 (.t 8) (.t 126)⟩]))))))))))
 (.keep [4, 5, 7, 8, 21, 22] (.ops false [Ot 127 (.bin .add (.t 22) (.c (.int .i64 1))),
 Ot 22 (.mov (.t 127))]))))))))
 (.seq (.keep [4, 5, 6] (.ops false [Ot 128 (.mov (.t 4)),
 Ot 129 (.mov (.t 5)),
 Ot 4 (.mov (.t 128)),
 Ot 5 (.mov (.t 129)),
 Ot 6 (.mov (.c (.bool true)))]))
 .ret))))))
def lin_Mat_swept.res : List RX := [(4, none), (5, none), (6, none)]
theorem lin_Mat_swept.m : mK pg Tryz.f148.ntmps lin_Mat_swept.k (Tryz.f148.body.getD .skip) = true := by kernel_rfl
theorem lin_Mat_swept.mr : mRes pg Tryz.f148.results.toList lin_Mat_swept.res = true := by kernel_rfl
theorem lin_Mat_swept.of {args : List V} {r : V} (hn : args.length = 2) (hW : W pg lin_Mat_swept.k (done lin_Mat_swept.res r) (start args)) : Ret pg zen args r :=
 Ret_of (fn := Tryz.f148) Tryz.func148 rfl (by kernel_rfl) lin_Mat_swept.m lin_Mat_swept.mr (by rw [hn]; exact of_decide_eq_true (by kernel_rfl)) hW
def lin_Mat_Solve_1.k : K :=
 (.seq (.keep [0, 1, 2, 3, 5] (.ops false [Ot 5 (.alloc 2 (.agg [(.bool false), (.sl [])]))]))
 (.seq (.keep [5] (.ops true [Ot 6 (.load 1 false (.t 1)),
 Ot 7 (.mov (.t 0)),
 Ot 8 (.idxA 1 (.t 6) (.t 7)),
 Ot 9 (.load 1 false (.t 8)),
 Ot 10 (.load 1 false (.t 2)),
 Ot 11 (.len false (.t 10)),
 Ot 12 (.idxA 2 (.t 9) (.t 11)),
 Ot 13 (.load 2 true (.t 12)),
 Ot 14 (.load 1 false (.t 3)),
 Ot 15 (.call zgp [(.t 13), (.t 14)]),
 ⟨none, none, .store 2 (.t 5) (.t 15)⟩]))
 .ret))
def lin_Mat_Solve_1.res : List RX := [(5, some (2, true))]
theorem lin_Mat_Solve_1.m : mK pg Tryz.f150.ntmps lin_Mat_Solve_1.k (Tryz.f150.body.getD .skip) = true := by kernel_rfl
theorem lin_Mat_Solve_1.mr : mRes pg Tryz.f150.results.toList lin_Mat_Solve_1.res = true := by kernel_rfl
theorem lin_Mat_Solve_1.of {args : List V} {r : V} (hn : args.length = 4) (hW : W pg lin_Mat_Solve_1.k (done lin_Mat_Solve_1.res r) (start args)) : Ret pg zdq args r :=
 Ret_of (fn := Tryz.f150) Tryz.func150 rfl (by kernel_rfl) lin_Mat_Solve_1.m lin_Mat_Solve_1.mr (by rw [hn]; exact of_decide_eq_true (by kernel_rfl)) hW
def lin_Mat_Turned_1.k : K :=
 (.seq (.keep [0, 1, 2, 5] (.ops false [Ot 5 (.alloc 2 (.agg [(.bool false), (.sl [])]))]))
 (.seq (.keep [5] (.ops false [Ot 6 (.load 1 false (.t 2)),
 Ot 7 (.mov (.t 1)),
 Ot 8 (.idxA 1 (.t 6) (.t 7)),
 Ot 9 (.load 1 false (.t 8)),
 Ot 10 (.mov (.t 0)),
 Ot 11 (.idxA 2 (.t 9) (.t 10)),
 Ot 12 (.load 2 true (.t 11)),
 ⟨none, none, .store 2 (.t 5) (.t 12)⟩]))
 .ret))
def lin_Mat_Turned_1.res : List RX := [(5, some (2, true))]
theorem lin_Mat_Turned_1.m : mK pg Tryz.f168.ntmps lin_Mat_Turned_1.k (Tryz.f168.body.getD .skip) = true := by kernel_rfl
theorem lin_Mat_Turned_1.mr : mRes pg Tryz.f168.results.toList lin_Mat_Turned_1.res = true := by kernel_rfl
theorem lin_Mat_Turned_1.of {args : List V} {r : V} (hn : args.length = 3) (hW : W pg lin_Mat_Turned_1.k (done lin_Mat_Turned_1.res r) (start args)) : Ret pg zc7 args r :=
 Ret_of (fn := Tryz.f168) Tryz.func168 rfl (by kernel_rfl) lin_Mat_Turned_1.m lin_Mat_Turned_1.mr (by rw [hn]; exact of_decide_eq_true (by kernel_rfl)) hW
def lin_Mat_Apply_1.k : K :=
 (.seq (.keep [1, 2, 3, 4] (.ops false [Ot 3 (.boxP (.t 0)),
 Ot 4 (.alloc 2 (.agg [(.bool false), (.sl [])]))]))
 (.seq (.keep [4] (.ops false [Ot 5 (.load 1 false (.t 1)),
 Ot 6 (.len false (.t 5)),
 Ot 7 (.mkFn zcv [(.t 1), (.t 3), (.t 2)]),
 Ot 8 (.callG n_lin_sum [(.t 6), (.t 7)]),
 ⟨none, none, .store 2 (.t 4) (.t 8)⟩]))
 .ret))
def lin_Mat_Apply_1.res : List RX := [(4, some (2, true))]
theorem lin_Mat_Apply_1.m : mK pg Tryz.f176.ntmps lin_Mat_Apply_1.k (Tryz.f176.body.getD .skip) = true := by kernel_rfl
theorem lin_Mat_Apply_1.mr : mRes pg Tryz.f176.results.toList lin_Mat_Apply_1.res = true := by kernel_rfl
theorem lin_Mat_Apply_1.of {args : List V} {r : V} (hn : args.length = 3) (hW : W pg lin_Mat_Apply_1.k (done lin_Mat_Apply_1.res r) (start args)) : Ret pg zdr args r :=
 Ret_of (fn := Tryz.f176) Tryz.func176 rfl (by kernel_rfl) lin_Mat_Apply_1.m lin_Mat_Apply_1.mr (by rw [hn]; exact of_decide_eq_true (by kernel_rfl)) hW
def lin_Mat_Apply_1_1.k : K :=
 (.seq (.keep [0, 1, 2, 3, 5, 6] (.ops false [Ot 5 (.alloc 2 (.agg [(.bool false), (.sl [])])),
 Ot 6 (.alloc 2 (.agg [(.bool false), (.sl [])]))]))
 (.seq (.keep [5, 6] (.ops true [Ot 7 (.red (.ldP 1 false) [(.t 1)]),
 Ot 8 (.red (.ldP 1 false) [(.t 2)]),
 Ot 9 (.red (.ixP 1) [(.t 7), (.t 8)]),
 Ot 10 (.red (.ldP 1 false) [(.t 9)]),
 Ot 11 (.mov (.t 0)),
 Ot 12 (.red (.ixP 2) [(.t 10), (.t 11)]),
 Ot 13 (.red (.ldP 2 true) [(.t 12)]),
 Ot 14 (.red (.ldP 1 false) [(.t 3)]),
 Ot 15 (.mov (.t 0)),
 Ot 16 (.red (.ixP 2) [(.t 14), (.t 15)]),
 Ot 17 (.red (.ldP 2 true) [(.t 16)]),
 ⟨none, none, .store 2 (.t 5) (.t 13)⟩,
 ⟨none, none, .store 2 (.t 6) (.t 17)⟩]))
 .ret))
def lin_Mat_Apply_1_1.res : List RX := [(5, some (2, true)), (6, some (2, true))]
theorem lin_Mat_Apply_1_1.m : mK pg Tryz.f177.ntmps lin_Mat_Apply_1_1.k (Tryz.f177.body.getD .skip) = true := by kernel_rfl
theorem lin_Mat_Apply_1_1.mr : mRes pg Tryz.f177.results.toList lin_Mat_Apply_1_1.res = true := by kernel_rfl
theorem lin_Mat_Apply_1_1.of {args : List V} {r : V} (hn : args.length = 4) (hW : W pg lin_Mat_Apply_1_1.k (done lin_Mat_Apply_1_1.res r) (start args)) : Ret pg zcv args r :=
 Ret_of (fn := Tryz.f177) Tryz.func177 rfl (by kernel_rfl) lin_Mat_Apply_1_1.m lin_Mat_Apply_1_1.mr (by rw [hn]; exact of_decide_eq_true (by kernel_rfl)) hW
def lin_Mat_swept_1.k : K :=
 (.seq (.keep [1, 2, 3, 4] (.ops false [Ot 4 (.boxP (.t 0)),
 Ot 5 (.mov (.c .nil))]))
 (.seq (.keep [5] (.ops false [Ot 6 (.load 1 false (.t 1)),
 Ot 7 (.bin .add (.t 6) (.c (.int .i64 1))),
 Ot 8 (.mkFn zcu [(.t 1), (.t 2), (.t 4), (.t 3)]),
 Ot 9 (.callG za4 [(.t 7), (.t 8)]),
 Ot 5 (.mov (.t 9))]))
 .ret))
def lin_Mat_swept_1.res : List RX := [(5, none)]
theorem lin_Mat_swept_1.m : mK pg Tryz.f181.ntmps lin_Mat_swept_1.k (Tryz.f181.body.getD .skip) = true := by kernel_rfl
theorem lin_Mat_swept_1.mr : mRes pg Tryz.f181.results.toList lin_Mat_swept_1.res = true := by kernel_rfl
theorem lin_Mat_swept_1.ofG {args : List V} {H : Hp} {n : Nat} {Q : V → Hp → Nat → Prop} (hn : args.length = 4) (hW : W pg lin_Mat_swept_1.k (doneG lin_Mat_swept_1.res (fun r H' n' => n ≤ n' ∧ Q r H' n')) (zfp args H n)) : ∃ r H' n', Q r H' n' ∧ RetG pg zbx args H n r H' n' :=
 RetG_of (fn := Tryz.f181) Tryz.func181 rfl (by kernel_rfl) lin_Mat_swept_1.m lin_Mat_swept_1.mr (by rw [hn]; exact of_decide_eq_true (by kernel_rfl)) hW
def lin_Mat_swept_1_1.k : K :=
 (.seq (.keep [0, 1, 2, 3, 4, 6] (.ops false [Ot 6 (.alloc 2 (.agg [(.bool false), (.sl [])]))]))
 (.seq (.seq (.keep [0, 2, 3, 4, 6, 9] (.ops false [Ot 7 (.mov (.t 0)),
 Ot 8 (.load 1 false (.t 1)),
 Ot 9 (.bin .lss (.t 7) (.t 8))]))
 (.cond (.t 9) (.seq (.keep [6] (.ops false [Ot 10 (.load 1 false (.t 2)),
 Ot 11 (.load 1 false (.t 3)),
 Ot 12 (.idxA 1 (.t 10) (.t 11)),
 Ot 13 (.load 1 false (.t 12)),
 Ot 14 (.mov (.t 0)),
 Ot 15 (.idxA 2 (.t 13) (.t 14)),
 Ot 16 (.load 2 true (.t 15)),
 ⟨none, none, .store 2 (.t 6) (.t 16)⟩]))
 .ret)
 .skip))
 (.seq (.keep [6] (.ops false [Ot 17 (.load 1 false (.t 4)),
 Ot 18 (.load 1 false (.t 3)),
 Ot 19 (.idxA 2 (.t 17) (.t 18)),
 Ot 20 (.load 2 true (.t 19)),
 ⟨none, none, .store 2 (.t 6) (.t 20)⟩]))
 .ret)))
def lin_Mat_swept_1_1.res : List RX := [(6, some (2, true))]
theorem lin_Mat_swept_1_1.m : mK pg Tryz.f182.ntmps lin_Mat_swept_1_1.k (Tryz.f182.body.getD .skip) = true := by kernel_rfl
theorem lin_Mat_swept_1_1.mr : mRes pg Tryz.f182.results.toList lin_Mat_swept_1_1.res = true := by kernel_rfl
theorem lin_Mat_swept_1_1.of {args : List V} {r : V} (hn : args.length = 5) (hW : W pg lin_Mat_swept_1_1.k (done lin_Mat_swept_1_1.res r) (start args)) : Ret pg zcu args r :=
 Ret_of (fn := Tryz.f182) Tryz.func182 rfl (by kernel_rfl) lin_Mat_swept_1_1.m lin_Mat_swept_1_1.mr (by rw [hn]; exact of_decide_eq_true (by kernel_rfl)) hW
def quad_Of.k : K :=
 (.seq (.keep [0, 1, 2, 6] (.ops false [Ot 6 (.alloc 4 (.agg [.nil, .nil, (.bool false), (.sl [])])),
 Ot 7 (.mov (.c (.int .i64 0)))]))
 (.seq (.keep [1, 2, 6, 8, 9] (.ops false [Ot 14 (.mov (.t 0)),
 Ot 15 (.callG n_lin_Of [(.t 14)]),
 Ot 13 (.mov (.t 15)),
 Ot 16 (.ext (.t 13) 0),
 Ot 17 (.ext (.t 13) 1),
 Ot 8 (.mov (.t 16)),
 Ot 9 (.mov (.t 17))]))
 (.seq (.block 0 (.seq (.keep [1, 2, 6, 8, 9, 18] (.ops false [Ot 19 (.mov (.t 9)),
 Ot 20 (.bin .neq (.t 19) (.c (.int .i64 0))),
 Ot 18 (.mov (.t 20))]))
 (.cond (.t 18) (.seq (.keep [6, 7] (.ops false [Ot 21 (.build [.nil, .nil, (.bool false), (.sl [])] []),
 Ot 22 (.mov (.t 9)),
 ⟨none, none, .store 4 (.t 6) (.t 21)⟩,
 Ot 7 (.mov (.t 22))]))
 .ret)
 (.seq (.keep [1, 2, 6, 8, 23] (.ops false [Ot 24 (.mov (.t 1)),
 Ot 25 (.len false (.t 24)),
 Ot 26 (.mov (.t 8)),
 Ot 27 (.len false (.t 26)),
 Ot 28 (.bin .neq (.t 25) (.t 27)),
 Ot 29 (.mov (.t 28)),
 ⟨(some 30), (some (29, false)), .mov (.t 8)⟩,
 ⟨(some 31), (some (29, false)), .mov (.t 8)⟩,
 ⟨(some 32), (some (29, false)), .callG zfz [(.t 31)]⟩,
 ⟨(some 33), (some (29, false)), .callG n_quad_same [(.t 30), (.t 32)]⟩,
 ⟨(some 34), (some (29, false)), .un .not (.t 33)⟩,
 Ot 35 (.pick (.t 29) (.c (.bool true)) (.t 34)),
 Ot 23 (.mov (.t 35))]))
 (.cond (.t 23) (.seq (.keep [6, 7] (.ops false [Ot 36 (.build [.nil, .nil, (.bool false), (.sl [])] []),
 ⟨none, none, .store 4 (.t 6) (.t 36)⟩,
 Ot 7 (.mov (.c (.int .i64 1)))]))
 .ret)
 .skip)))))
 (.seq (.keep [1, 6, 10] (.ops false [Ot 37 (.mov (.t 8)),
 Ot 38 (.mov (.t 2)),
 Ot 39 (.callG za0 [(.t 38)]),
 Ot 40 (.build [.nil, .nil, (.bool false), (.sl [])] [(0, 1, (.t 37)), (2, 2, (.t 39))]),
 Ot 10 (.alloc 4 (.agg [.nil, .nil, (.bool false), (.sl [])])),
 ⟨none, none, .store 4 (.t 10) (.t 40)⟩]))
 (.seq (.seq (.keep [6, 10, 41, 42, 43] (.ops false [Ot 41 (.mov (.t 1)),
 Ot 42 (.len false (.t 41)),
 Ot 43 (.mov (.c (.int .i64 0)))]))
 (.block 1 (.loop (.seq (.keep [6, 10, 41, 42, 43, 44] (.ops false [Ot 44 (.bin .lss (.t 43) (.t 42))]))
 (.seq (.cond (.t 44) .skip
 (.exit 1))
 (.seq (.block 2 (.seq (.keep [6, 10, 12, 41, 42, 43] (.ops false [Ot 45 (.idxA 1 (.t 41) (.t 43)),
 Ot 46 (.load 1 false (.t 45)),
 Ot 12 (.mov (.t 46))]))
 (.keep [6, 10, 41, 42, 43] (.ops true [Ot 47 (.fldA 1 1 false (.t 10)),
 Ot 48 (.load 1 false (.t 47)),
 Ot 49 (.mov (.t 12)),
 Ot 50 (.call za0 [(.t 49)]),
 Ot 51 (.new (.bsl 2) [(.t 50)]),
 Ot 52 (.eff (.app 2 32) [(.t 48), (.t 51)]),
 Ot 53 (.fldA 1 1 false (.t 10)),
 ⟨none, none, .store 1 (.t 53) (.t 52)⟩]))))
 (.keep [6, 10, 41, 42, 43] (.ops false [Ot 54 (.bin .add (.t 43) (.c (.int .i64 1))),
 Ot 43 (.mov (.t 54))]))))))))
 (.seq (.keep [6, 7] (.ops false [Ot 55 (.load 4 true (.t 10)),
 ⟨none, none, .store 4 (.t 6) (.t 55)⟩,
 Ot 7 (.mov (.c (.int .i64 0)))]))
 .ret))))))
def quad_Of.res : List RX := [(6, some (4, true)), (7, none)]
theorem quad_Of.m : mK pg Tryz.f47.ntmps quad_Of.k (Tryz.f47.body.getD .skip) = true := by kernel_rfl
theorem quad_Of.mr : mRes pg Tryz.f47.results.toList quad_Of.res = true := by kernel_rfl
theorem quad_Of.of {args : List V} {r : V} (hn : args.length = 3) (hW : W pg quad_Of.k (done quad_Of.res r) (start args)) : Ret pg n_quad_Of args r :=
 Ret_of (fn := Tryz.f47) Tryz.func47 rfl (by kernel_rfl) quad_Of.m quad_Of.mr (by rw [hn]; exact of_decide_eq_true (by kernel_rfl)) hW
def quad_dot.k : K :=
 (.seq (.keep [0, 1, 4] (.ops false [Ot 4 (.alloc 2 (.agg [(.bool false), (.sl [])]))]))
 (.seq (.keep [0, 1, 4, 5] (.ops false [Ot 5 (.alloc 2 (.agg [(.bool false), (.sl [])]))]))
 (.seq (.seq (.keep [0, 1, 4, 5, 8, 9] (.ops false [Ot 7 (.mov (.t 0)),
 Ot 8 (.len false (.t 7)),
 Ot 9 (.mov (.c (.int .i64 0)))]))
 (.block 0 (.loop (.seq (.keep [0, 1, 4, 5, 8, 9, 10] (.ops false [Ot 10 (.bin .lss (.t 9) (.t 8))]))
 (.seq (.cond (.t 10) .skip
 (.exit 0))
 (.seq (.block 1 (.seq (.keep [0, 1, 4, 5, 6, 8, 9] (.ops false [Ot 11 (.mov (.t 9)),
 Ot 6 (.mov (.t 11))]))
 (.keep [0, 1, 4, 5, 8, 9] (.ops true [Ot 12 (.load 2 true (.t 5)),
 Ot 13 (.mov (.t 0)),
 Ot 14 (.mov (.t 6)),
 Ot 15 (.idxA 2 (.t 13) (.t 14)),
 Ot 16 (.load 2 true (.t 15)),
 Ot 17 (.mov (.t 1)),
 Ot 18 (.mov (.t 6)),
 Ot 19 (.idxA 2 (.t 17) (.t 18)),
 Ot 20 (.load 2 true (.t 19)),
 Ot 21 (.call zap [(.t 16), (.t 20)]),
 Ot 22 (.call zbh [(.t 12), (.t 21)]),
 ⟨none, none, .store 2 (.t 5) (.t 22)⟩]))))
 (.keep [0, 1, 4, 5, 8, 9] (.ops false [Ot 23 (.bin .add (.t 9) (.c (.int .i64 1))),
 Ot 9 (.mov (.t 23))]))))))))
 (.seq (.keep [4] (.ops false [Ot 24 (.load 2 true (.t 5)),
 ⟨none, none, .store 2 (.t 4) (.t 24)⟩]))
 .ret))))
def quad_dot.res : List RX := [(4, some (2, true))]
theorem quad_dot.m : mK pg Tryz.f86.ntmps quad_dot.k (Tryz.f86.body.getD .skip) = true := by kernel_rfl
theorem quad_dot.mr : mRes pg Tryz.f86.results.toList quad_dot.res = true := by kernel_rfl
theorem quad_dot.of {args : List V} {r : V} (hn : args.length = 2) (hW : W pg quad_dot.k (done quad_dot.res r) (start args)) : Ret pg ze6 args r :=
 Ret_of (fn := Tryz.f86) Tryz.func86 rfl (by kernel_rfl) quad_dot.m quad_dot.mr (by rw [hn]; exact of_decide_eq_true (by kernel_rfl)) hW
def quad_same.k : K :=
 (.seq (.keep [0, 1] (.ops false [Ot 4 (.mov (.c (.bool false)))]))
 (.seq (.seq (.keep [0, 1, 8, 9] (.ops false [Ot 7 (.mov (.t 0)),
 Ot 8 (.len false (.t 7)),
 Ot 9 (.mov (.c (.int .i64 0)))]))
 (.block 0 (.loop (.seq (.keep [0, 1, 8, 9, 10] (.ops false [Ot 10 (.bin .lss (.t 9) (.t 8))]))
 (.seq (.cond (.t 10) .skip
 (.exit 0))
 (.seq (.block 1 (.seq (.keep [0, 1, 5, 8, 9] (.ops false [Ot 11 (.mov (.t 9)),
 Ot 5 (.mov (.t 11))]))
 (.seq (.keep [0, 1, 5, 8, 9, 16, 17] (.ops false [Ot 12 (.mov (.t 0)),
 Ot 13 (.mov (.t 5)),
 Ot 14 (.idxA 1 (.t 12) (.t 13)),
 Ot 15 (.load 1 false (.t 14)),
 Ot 16 (.len false (.t 15)),
 Ot 17 (.mov (.c (.int .i64 0)))]))
 (.block 2 (.loop (.seq (.keep [0, 1, 5, 8, 9, 16, 17, 18] (.ops false [Ot 18 (.bin .lss (.t 17) (.t 16))]))
 (.seq (.cond (.t 18) .skip
 (.exit 2))
 (.seq (.block 3 (.seq (.keep [0, 1, 5, 6, 8, 9, 16, 17] (.ops false [Ot 19 (.mov (.t 17)),
 Ot 6 (.mov (.t 19))]))
 (.seq (.keep [0, 1, 5, 8, 9, 16, 17, 35] (.ops true [Ot 20 (.mov (.t 0)),
 Ot 21 (.mov (.t 5)),
 Ot 22 (.idxA 1 (.t 20) (.t 21)),
 Ot 23 (.load 1 false (.t 22)),
 Ot 24 (.mov (.t 6)),
 Ot 25 (.idxA 2 (.t 23) (.t 24)),
 Ot 26 (.load 2 true (.t 25)),
 Ot 27 (.mov (.t 1)),
 Ot 28 (.mov (.t 5)),
 Ot 29 (.idxA 1 (.t 27) (.t 28)),
 Ot 30 (.load 1 false (.t 29)),
 Ot 31 (.mov (.t 6)),
 Ot 32 (.idxA 2 (.t 30) (.t 31)),
 Ot 33 (.load 2 true (.t 32)),
 Ot 34 (.call zc3 [(.t 26), (.t 33)]),
 Ot 35 (.bin .neq (.t 34) (.c (.int .i64 0)))]))
 (.cond (.t 35) (.seq (.keep [4] (.ops false [Ot 4 (.mov (.c (.bool false)))]))
 .ret)
 .skip))))
 (.keep [0, 1, 5, 8, 9, 16, 17] (.ops false [Ot 36 (.bin .add (.t 17) (.c (.int .i64 1))),
 Ot 17 (.mov (.t 36))]))))))))))
 (.keep [0, 1, 8, 9] (.ops false [Ot 37 (.bin .add (.t 9) (.c (.int .i64 1))),
 Ot 9 (.mov (.t 37))]))))))))
 (.seq (.keep [4] (.ops false [Ot 4 (.mov (.c (.bool true)))]))
 .ret)))
def quad_same.res : List RX := [(4, none)]
theorem quad_same.m : mK pg Tryz.f119.ntmps quad_same.k (Tryz.f119.body.getD .skip) = true := by kernel_rfl
theorem quad_same.mr : mRes pg Tryz.f119.results.toList quad_same.res = true := by kernel_rfl
theorem quad_same.of {args : List V} {r : V} (hn : args.length = 2) (hW : W pg quad_same.k (done quad_same.res r) (start args)) : Ret pg n_quad_same args r :=
 Ret_of (fn := Tryz.f119) Tryz.func119 rfl (by kernel_rfl) quad_same.m quad_same.mr (by rw [hn]; exact of_decide_eq_true (by kernel_rfl)) hW
def quad_first.k : K :=
 (.seq (.keep [0, 1] (.ops false [Ot 4 (.mov (.c .nil))]))
 (.seq (.keep [0, 1, 5] (.ops false [Ot 5 (.mov (.c .nil))]))
 (.seq (.seq (.keep [1, 5, 10, 11, 12] (.ops false [Ot 8 (.mov (.t 0)),
 Ot 9 (.mov (.t 1)),
 Ot 10 (.red (.slc 1 false true false) [(.t 8), (.t 9)]),
 Ot 11 (.len false (.t 10)),
 Ot 12 (.mov (.c (.int .i64 0)))]))
 (.block 0 (.loop (.seq (.keep [1, 5, 10, 11, 12, 13] (.ops false [Ot 13 (.bin .lss (.t 12) (.t 11))]))
 (.seq (.cond (.t 13) .skip
 (.exit 0))
 (.seq (.block 1 (.seq (.keep [1, 5, 7, 10, 11, 12] (.ops false [Ot 14 (.idxA 1 (.t 10) (.t 12)),
 Ot 15 (.load 1 false (.t 14)),
 Ot 7 (.mov (.t 15))]))
 (.gh (.keep [1, 5, 10, 11, 12] (.ops false [Ot 16 (.mov (.t 5)),
 Ot 17 (.mov (.t 7)),
 Ot 18 (.mov (.t 1)),
 Ot 19 (.mov (.t 1)),
 Ot 20 (.red (.slc 2 false true true) [(.t 17), (.t 18), (.t 19)]),
 Ot 21 (.new (.bsl 1) [(.t 20)]),
 Ot 22 (.eff (.app 1 24) [(.t 16), (.t 21)]),
 Ot 5 (.mov (.t 22))])))))
 (.keep [1, 5, 10, 11, 12] (.ops false [Ot 23 (.bin .add (.t 12) (.c (.int .i64 1))),
 Ot 12 (.mov (.t 23))]))))))))
 (.seq (.keep [4] (.ops false [Ot 24 (.mov (.t 5)),
 Ot 4 (.mov (.t 24))]))
 .ret))))
def quad_first.res : List RX := [(4, none)]
theorem quad_first.m : mK pg Tryz.f129.ntmps quad_first.k (Tryz.f129.body.getD .skip) = true := by kernel_rfl
theorem quad_first.mr : mRes pg Tryz.f129.results.toList quad_first.res = true := by kernel_rfl
theorem quad_first.of {args : List V} {r : V} (hn : args.length = 2) (hW : W pg quad_first.k (done quad_first.res r) (start args)) : Ret pg n_quad_first args r :=
 Ret_of (fn := Tryz.f129) Tryz.func129 rfl (by kernel_rfl) quad_first.m quad_first.mr (by rw [hn]; exact of_decide_eq_true (by kernel_rfl)) hW
def quad_sums.k : K :=
 (.seq (.keep [0, 1] (.ops false [Ot 4 (.mov (.c .nil))]))
 (.seq (.keep [1, 5] (.ops false [Ot 9 (.mov (.t 0)),
 Ot 10 (.red (.slc 2 false true true) [(.t 9), (.c (.int .i64 0)), (.c (.int .i64 0))]),
 Ot 11 (.mov (.t 0)),
 Ot 12 (.eff (.app 2 32) [(.t 10), (.t 11)]),
 Ot 5 (.mov (.t 12))]))
 (.seq (.seq (.keep [5, 13, 14, 15] (.ops false [Ot 13 (.mov (.t 1)),
 Ot 14 (.len false (.t 13)),
 Ot 15 (.mov (.c (.int .i64 0)))]))
 (.block 0 (.loop (.seq (.keep [5, 13, 14, 15, 16] (.ops false [Ot 16 (.bin .lss (.t 15) (.t 14))]))
 (.seq (.cond (.t 16) .skip
 (.exit 0))
 (.seq (.block 1 (.seq (.keep [5, 7, 13, 14, 15] (.ops false [Ot 17 (.idxA 1 (.t 13) (.t 15)),
 Ot 18 (.load 1 false (.t 17)),
 Ot 7 (.mov (.t 18))]))
 (.seq (.keep [5, 7, 13, 14, 15, 20, 21] (.ops false [Ot 19 (.mov (.t 5)),
 Ot 20 (.len false (.t 19)),
 Ot 21 (.mov (.c (.int .i64 0)))]))
 (.block 2 (.loop (.seq (.keep [5, 7, 13, 14, 15, 20, 21, 22] (.ops false [Ot 22 (.bin .lss (.t 21) (.t 20))]))
 (.seq (.cond (.t 22) .skip
 (.exit 2))
 (.seq (.block 3 (.seq (.keep [5, 7, 8, 13, 14, 15, 20, 21] (.ops false [Ot 23 (.mov (.t 21)),
 Ot 8 (.mov (.t 23))]))
 (.keep [5, 7, 13, 14, 15, 20, 21] (.ops true [Ot 24 (.mov (.t 5)),
 Ot 25 (.mov (.t 8)),
 Ot 26 (.mov (.t 5)),
 Ot 27 (.mov (.t 8)),
 Ot 28 (.idxA 2 (.t 26) (.t 27)),
 Ot 29 (.load 2 true (.t 28)),
 Ot 30 (.mov (.t 7)),
 Ot 31 (.mov (.t 8)),
 Ot 32 (.idxA 2 (.t 30) (.t 31)),
 Ot 33 (.load 2 true (.t 32)),
 Ot 34 (.call zbh [(.t 29), (.t 33)]),
 Ot 35 (.idxA 2 (.t 24) (.t 25)),
 ⟨none, none, .store 2 (.t 35) (.t 34)⟩]))))
 (.keep [5, 7, 13, 14, 15, 20, 21] (.ops false [Ot 36 (.bin .add (.t 21) (.c (.int .i64 1))),
 Ot 21 (.mov (.t 36))]))))))))))
 (.keep [5, 13, 14, 15] (.ops false [Ot 37 (.bin .add (.t 15) (.c (.int .i64 1))),
 Ot 15 (.mov (.t 37))]))))))))
 (.seq (.keep [4] (.ops false [Ot 38 (.mov (.t 5)),
 Ot 4 (.mov (.t 38))]))
 .ret))))
def quad_sums.res : List RX := [(4, none)]
theorem quad_sums.m : mK pg Tryz.f137.ntmps quad_sums.k (Tryz.f137.body.getD .skip) = true := by kernel_rfl
theorem quad_sums.mr : mRes pg Tryz.f137.results.toList quad_sums.res = true := by kernel_rfl
theorem quad_sums.of {args : List V} {r : V} (hn : args.length = 2) (hW : W pg quad_sums.k (done quad_sums.res r) (start args)) : Ret pg zgc args r :=
 Ret_of (fn := Tryz.f137) Tryz.func137 rfl (by kernel_rfl) quad_sums.m quad_sums.mr (by rw [hn]; exact of_decide_eq_true (by kernel_rfl)) hW
def quad_Quad_Value.k : K :=
 (.seq (.keep [1, 2, 4] (.ops false [Ot 2 (.boxP (.t 0)),
 Ot 4 (.alloc 2 (.agg [(.bool false), (.sl [])]))]))
 (.seq (.keep [4] (.ops true [Ot 5 (.fldA 0 1 false (.t 2)),
 Ot 6 (.load 1 false (.t 5)),
 Ot 7 (.mov (.t 1)),
 Ot 8 (.call zgw [(.t 6), (.t 7)]),
 Ot 9 (.fldA 1 1 false (.t 2)),
 Ot 10 (.load 1 false (.t 9)),
 Ot 11 (.mov (.t 1)),
 Ot 12 (.call ze6 [(.t 10), (.t 11)]),
 Ot 13 (.call za0 [(.c (.int .i64 2))]),
 Ot 14 (.call zap [(.t 12), (.t 13)]),
 Ot 15 (.call zbq [(.t 8), (.t 14)]),
 Ot 16 (.fldA 2 2 true (.t 2)),
 Ot 17 (.load 2 true (.t 16)),
 Ot 18 (.call zbh [(.t 15), (.t 17)]),
 ⟨none, none, .store 2 (.t 4) (.t 18)⟩]))
 .ret))
def quad_Quad_Value.res : List RX := [(4, some (2, true))]
theorem quad_Quad_Value.m : mK pg Tryz.f30.ntmps quad_Quad_Value.k (Tryz.f30.body.getD .skip) = true := by kernel_rfl
theorem quad_Quad_Value.mr : mRes pg Tryz.f30.results.toList quad_Quad_Value.res = true := by kernel_rfl
theorem quad_Quad_Value.of {args : List V} {r : V} (hn : args.length = 2) (hW : W pg quad_Quad_Value.k (done quad_Quad_Value.res r) (start args)) : Ret pg ze7 args r :=
 Ret_of (fn := Tryz.f30) Tryz.func30 rfl (by kernel_rfl) quad_Quad_Value.m quad_Quad_Value.mr (by rw [hn]; exact of_decide_eq_true (by kernel_rfl)) hW
def quad_Quad_Without.k : K :=
 (.seq (.keep [1, 2, 4, 5] (.ops false [Ot 2 (.boxP (.t 0)),
 Ot 4 (.alloc 4 (.agg [.nil, .nil, (.bool false), (.sl [])])),
 Ot 5 (.alloc 2 (.agg [(.bool false), (.sl [])])),
 Ot 6 (.mov (.c (.int .i64 0)))]))
 (.seq (.seq (.keep [1, 2, 4, 5, 25] (.ops false [Ot 17 (.mov (.t 1)),
 Ot 18 (.bin .lss (.t 17) (.c (.int .i64 0))),
 Ot 19 (.mov (.t 18)),
 ⟨(some 20), (some (19, false)), .mov (.t 1)⟩,
 ⟨(some 21), (some (19, false)), .fldA 0 1 false (.t 2)⟩,
 ⟨(some 22), (some (19, false)), .load 1 false (.t 21)⟩,
 ⟨(some 23), (some (19, false)), .len false (.t 22)⟩,
 ⟨(some 24), (some (19, false)), .bin .gtr (.t 20) (.t 23)⟩,
 Ot 25 (.pick (.t 19) (.c (.bool true)) (.t 24))]))
 (.cond (.t 25) (.seq (.keep [4, 5, 6] (.ops false [Ot 26 (.build [.nil, .nil, (.bool false), (.sl [])] []),
 Ot 27 (.build [(.bool false), (.sl [])] []),
 ⟨none, none, .store 4 (.t 4) (.t 26)⟩,
 ⟨none, none, .store 2 (.t 5) (.t 27)⟩,
 Ot 6 (.mov (.c (.int .i64 1)))]))
 .ret)
 .skip))
 (.seq (.keep [1, 2, 4, 5, 7] (.ops false [Ot 28 (.fldA 0 1 false (.t 2)),
 Ot 29 (.load 1 false (.t 28)),
 Ot 30 (.mov (.t 1)),
 Ot 31 (.callG n_quad_first [(.t 29), (.t 30)]),
 Ot 7 (.mov (.t 31))]))
 (.seq (.seq (.keep [1, 2, 4, 5, 7, 34] (.ops false [Ot 32 (.mov (.t 7)),
 Ot 33 (.callG zc8 [(.t 32)]),
 Ot 34 (.un .not (.t 33))]))
 (.cond (.t 34) (.seq (.keep [4, 5, 6] (.ops false [Ot 35 (.build [.nil, .nil, (.bool false), (.sl [])] []),
 Ot 36 (.build [(.bool false), (.sl [])] []),
 ⟨none, none, .store 4 (.t 4) (.t 35)⟩,
 ⟨none, none, .store 2 (.t 5) (.t 36)⟩,
 Ot 6 (.mov (.c (.int .i64 80)))]))
 .ret)
 .skip))
 (.seq (.keep [1, 2, 4, 5, 7] (.ops false [Ot 37 (.mov (.t 7)),
 Ot 38 (.callG zeo [(.t 37)]),
 ⟨none, none, .store 2 (.t 5) (.t 38)⟩]))
 (.seq (.keep [1, 2, 4, 5, 7, 8] (.ops false [Ot 40 (.mov (.t 7)),
 Ot 41 (.fldA 1 1 false (.t 2)),
 Ot 42 (.load 1 false (.t 41)),
 Ot 43 (.mov (.t 1)),
 Ot 44 (.red (.slc 2 false true false) [(.t 42), (.t 43)]),
 Ot 45 (.callG zdk [(.t 40), (.t 44)]),
 Ot 39 (.mov (.t 45)),
 Ot 46 (.ext (.t 39) 0),
 Ot 47 (.ext (.t 39) 1),
 Ot 48 (.ext (.t 39) 2),
 Ot 9 (.alloc 2 (.agg [(.bool false), (.sl [])])),
 Ot 8 (.mov (.t 46)),
 ⟨none, none, .store 2 (.t 9) (.t 47)⟩,
 Ot 10 (.mov (.t 48))]))
 (.seq (.keep [1, 2, 4, 5, 7, 8] (.ops true [Ot 49 (.fldA 2 2 true (.t 2)),
 Ot 50 (.load 2 true (.t 49)),
 Ot 51 (.load 2 true (.t 5)),
 Ot 52 (.call zap [(.t 50), (.t 51)]),
 Ot 53 (.fldA 1 1 false (.t 2)),
 Ot 54 (.load 1 false (.t 53)),
 Ot 55 (.mov (.t 1)),
 Ot 56 (.red (.slc 2 false true false) [(.t 54), (.t 55)]),
 Ot 57 (.mov (.t 8)),
 Ot 58 (.call ze6 [(.t 56), (.t 57)]),
 Ot 59 (.call zbq [(.t 52), (.t 58)]),
 Ot 60 (.fldA 2 2 true (.t 4)),
 ⟨none, none, .store 2 (.t 60) (.t 59)⟩]))
 (.seq (.seq (.keep [1, 2, 4, 5, 7, 8, 11] (.ops false [Ot 61 (.mov (.t 1)),
 Ot 11 (.mov (.t 61))]))
 (.block 0 (.loop (.seq (.seq (.keep [1, 2, 4, 5, 7, 8, 11, 66] (.ops false [Ot 62 (.mov (.t 11)),
 Ot 63 (.fldA 0 1 false (.t 2)),
 Ot 64 (.load 1 false (.t 63)),
 Ot 65 (.len false (.t 64)),
 Ot 66 (.bin .lss (.t 62) (.t 65))]))
 (.cond (.t 66) .skip
 (.exit 0)))
 (.seq (.block 1 (.seq (.keep [1, 2, 4, 5, 7, 8, 11, 12] (.ops false [Ot 70 (.mov (.t 7)),
 Ot 71 (.fldA 0 1 false (.t 2)),
 Ot 72 (.load 1 false (.t 71)),
 Ot 73 (.mov (.t 11)),
 Ot 74 (.idxA 1 (.t 72) (.t 73)),
 Ot 75 (.load 1 false (.t 74)),
 Ot 76 (.mov (.t 1)),
 Ot 77 (.red (.slc 2 false true false) [(.t 75), (.t 76)]),
 Ot 78 (.callG zdk [(.t 70), (.t 77)]),
 Ot 69 (.mov (.t 78)),
 Ot 79 (.ext (.t 69) 0),
 Ot 80 (.ext (.t 69) 1),
 Ot 81 (.ext (.t 69) 2),
 Ot 13 (.alloc 2 (.agg [(.bool false), (.sl [])])),
 Ot 12 (.mov (.t 79)),
 ⟨none, none, .store 2 (.t 13) (.t 80)⟩,
 Ot 14 (.mov (.t 81))]))
 (.seq (.keep [1, 2, 4, 5, 7, 8, 11, 12, 15] (.ops false [Ot 15 (.mov (.c .nil))]))
 (.seq (.seq (.keep [1, 2, 4, 5, 7, 8, 11, 12, 15, 16] (.ops false [Ot 82 (.mov (.t 1)),
 Ot 16 (.mov (.t 82))]))
 (.block 2 (.loop (.seq (.seq (.keep [1, 2, 4, 5, 7, 8, 11, 12, 15, 16, 87] (.ops false [Ot 83 (.mov (.t 16)),
 Ot 84 (.fldA 0 1 false (.t 2)),
 Ot 85 (.load 1 false (.t 84)),
 Ot 86 (.len false (.t 85)),
 Ot 87 (.bin .lss (.t 83) (.t 86))]))
 (.cond (.t 87) .skip
 (.exit 2)))
 (.seq (.block 3 (.keep [1, 2, 4, 5, 7, 8, 11, 12, 15, 16] (.ops true [Ot 90 (.mov (.t 15)),
 Ot 91 (.fldA 0 1 false (.t 2)),
 Ot 92 (.load 1 false (.t 91)),
 Ot 93 (.mov (.t 11)),
 Ot 94 (.idxA 1 (.t 92) (.t 93)),
 Ot 95 (.load 1 false (.t 94)),
 Ot 96 (.mov (.t 16)),
 Ot 97 (.idxA 2 (.t 95) (.t 96)),
 Ot 98 (.load 2 true (.t 97)),
 Ot 99 (.load 2 true (.t 5)),
 Ot 100 (.call zap [(.t 98), (.t 99)]),
 Ot 101 (.mov (.t 12)),
 Ot 102 (.fldA 0 1 false (.t 2)),
 Ot 103 (.load 1 false (.t 102)),
 Ot 104 (.mov (.t 16)),
 Ot 105 (.idxA 1 (.t 103) (.t 104)),
 Ot 106 (.load 1 false (.t 105)),
 Ot 107 (.mov (.t 1)),
 Ot 108 (.red (.slc 2 false true false) [(.t 106), (.t 107)]),
 Ot 109 (.call ze6 [(.t 101), (.t 108)]),
 Ot 110 (.call zbq [(.t 100), (.t 109)]),
 Ot 111 (.new (.bsl 2) [(.t 110)]),
 Ot 112 (.eff (.app 2 32) [(.t 90), (.t 111)]),
 Ot 15 (.mov (.t 112))])))
 (.keep [1, 2, 4, 5, 7, 8, 11, 12, 15, 16] (.ops false [Ot 88 (.mov (.t 16)),
 Ot 89 (.bin .add (.t 88) (.c (.int .i64 1))),
 Ot 16 (.mov (.t 89))])))))))
 (.seq (.gh (.keep [1, 2, 4, 5, 7, 8, 11] (.ops false [Ot 113 (.fldA 0 1 false (.t 4)),
 Ot 114 (.load 1 false (.t 113)),
 Ot 115 (.mov (.t 15)),
 Ot 116 (.new (.bsl 1) [(.t 115)]),
 Ot 117 (.eff (.app 1 24) [(.t 114), (.t 116)]),
 Ot 118 (.fldA 0 1 false (.t 4)),
 ⟨none, none, .store 1 (.t 118) (.t 117)⟩])))
 (.keep [1, 2, 4, 5, 7, 8, 11] (.ops true [Ot 119 (.fldA 1 1 false (.t 4)),
 Ot 120 (.load 1 false (.t 119)),
 Ot 121 (.fldA 1 1 false (.t 2)),
 Ot 122 (.load 1 false (.t 121)),
 Ot 123 (.mov (.t 11)),
 Ot 124 (.idxA 2 (.t 122) (.t 123)),
 Ot 125 (.load 2 true (.t 124)),
 Ot 126 (.load 2 true (.t 5)),
 Ot 127 (.call zap [(.t 125), (.t 126)]),
 Ot 128 (.fldA 0 1 false (.t 2)),
 Ot 129 (.load 1 false (.t 128)),
 Ot 130 (.mov (.t 11)),
 Ot 131 (.idxA 1 (.t 129) (.t 130)),
 Ot 132 (.load 1 false (.t 131)),
 Ot 133 (.mov (.t 1)),
 Ot 134 (.red (.slc 2 false true false) [(.t 132), (.t 133)]),
 Ot 135 (.mov (.t 8)),
 Ot 136 (.call ze6 [(.t 134), (.t 135)]),
 Ot 137 (.call zbq [(.t 127), (.t 136)]),
 Ot 138 (.new (.bsl 2) [(.t 137)]),
 Ot 139 (.eff (.app 2 32) [(.t 120), (.t 138)]),
 Ot 140 (.fldA 1 1 false (.t 4)),
 ⟨none, none, .store 1 (.t 140) (.t 139)⟩])))))))
 (.keep [1, 2, 4, 5, 7, 8, 11] (.ops false [Ot 67 (.mov (.t 11)),
 Ot 68 (.bin .add (.t 67) (.c (.int .i64 1))),
 Ot 11 (.mov (.t 68))])))))))
 (.seq (.keep [4, 5, 6] (.ops true [Ot 141 (.load 4 true (.t 4)),
 Ot 142 (.loadN 2 true (.t 5) [4]),
 ⟨none, none, .store 4 (.t 4) (.t 141)⟩,
 ⟨none, none, .store 2 (.t 5) (.t 142)⟩,
 Ot 6 (.mov (.c (.int .i64 0)))]))
 .ret)))))))))
def quad_Quad_Without.res : List RX := [(4, some (4, true)), (5, some (2, true)), (6, none)]
theorem quad_Quad_Without.m : mK pg Tryz.f60.ntmps quad_Quad_Without.k (Tryz.f60.body.getD .skip) = true := by kernel_rfl
theorem quad_Quad_Without.mr : mRes pg Tryz.f60.results.toList quad_Quad_Without.res = true := by kernel_rfl
theorem quad_Quad_Without.of {args : List V} {r : V} (hn : args.length = 2) (hW : W pg quad_Quad_Without.k (done quad_Quad_Without.res r) (start args)) : Ret pg zd3 args r :=
 Ret_of (fn := Tryz.f60) Tryz.func60 rfl (by kernel_rfl) quad_Quad_Without.m quad_Quad_Without.mr (by rw [hn]; exact of_decide_eq_true (by kernel_rfl)) hW
def quad_Quad_Add.k : K :=
 (.seq (.keep [2, 3, 4] (.ops false [Ot 2 (.boxP (.t 0)),
 Ot 3 (.boxP (.t 1)),
 Ot 4 (.alloc 4 (.agg [.nil, .nil, (.bool false), (.sl [])]))]))
 (.seq (.keep [2, 3, 4, 5] (.ops true [Ot 7 (.fldA 1 1 false (.t 2)),
 Ot 8 (.load 1 false (.t 7)),
 Ot 9 (.fldA 1 1 false (.t 3)),
 Ot 10 (.load 1 false (.t 9)),
 Ot 11 (.red .bsz [(.t 10)]),
 Ot 12 (.call zgc [(.t 8), (.t 11)]),
 Ot 13 (.fldA 2 2 true (.t 2)),
 Ot 14 (.load 2 true (.t 13)),
 Ot 15 (.fldA 2 2 true (.t 3)),
 Ot 16 (.load 2 true (.t 15)),
 Ot 17 (.call zbh [(.t 14), (.t 16)]),
 Ot 18 (.build [.nil, .nil, (.bool false), (.sl [])] [(1, 1, (.t 12)), (2, 2, (.t 17))]),
 Ot 5 (.alloc 4 (.agg [.nil, .nil, (.bool false), (.sl [])])),
 ⟨none, none, .store 4 (.t 5) (.t 18)⟩]))
 (.seq (.seq (.keep [2, 3, 4, 5, 21, 22] (.ops false [Ot 19 (.fldA 0 1 false (.t 2)),
 Ot 20 (.load 1 false (.t 19)),
 Ot 21 (.len false (.t 20)),
 Ot 22 (.mov (.c (.int .i64 0)))]))
 (.block 0 (.loop (.seq (.keep [2, 3, 4, 5, 21, 22, 23] (.ops false [Ot 23 (.bin .lss (.t 22) (.t 21))]))
 (.seq (.cond (.t 23) .skip
 (.exit 0))
 (.seq (.block 1 (.seq (.keep [2, 3, 4, 5, 6, 21, 22] (.ops false [Ot 24 (.mov (.t 22)),
 Ot 6 (.mov (.t 24))]))
 (.gh (.keep [2, 3, 4, 5, 21, 22] (.ops true [Ot 25 (.fldA 0 1 false (.t 5)),
 Ot 26 (.load 1 false (.t 25)),
 Ot 27 (.fldA 0 1 false (.t 2)),
 Ot 28 (.load 1 false (.t 27)),
 Ot 29 (.mov (.t 6)),
 Ot 30 (.idxA 1 (.t 28) (.t 29)),
 Ot 31 (.load 1 false (.t 30)),
 Ot 32 (.fldA 0 1 false (.t 3)),
 Ot 33 (.load 1 false (.t 32)),
 Ot 34 (.mov (.t 6)),
 Ot 35 (.idxA 1 (.t 33) (.t 34)),
 Ot 36 (.load 1 false (.t 35)),
 Ot 37 (.red .bsz [(.t 36)]),
 Ot 38 (.call zgc [(.t 31), (.t 37)]),
 Ot 39 (.red .bsz [(.t 38)]),
 Ot 40 (.eff (.app 1 24) [(.t 26), (.t 39)]),
 Ot 41 (.fldA 0 1 false (.t 5)),
 ⟨none, none, .store 1 (.t 41) (.t 40)⟩])))))
 (.keep [2, 3, 4, 5, 21, 22] (.ops false [Ot 42 (.bin .add (.t 22) (.c (.int .i64 1))),
 Ot 22 (.mov (.t 42))]))))))))
 (.seq (.keep [4] (.ops false [Ot 43 (.load 4 true (.t 5)),
 ⟨none, none, .store 4 (.t 4) (.t 43)⟩]))
 .ret))))
def quad_Quad_Add.res : List RX := [(4, some (4, true))]
theorem quad_Quad_Add.m : mK pg Tryz.f72.ntmps quad_Quad_Add.k (Tryz.f72.body.getD .skip) = true := by kernel_rfl
theorem quad_Quad_Add.mr : mRes pg Tryz.f72.results.toList quad_Quad_Add.res = true := by kernel_rfl
theorem quad_Quad_Add.of {args : List V} {r : V} (hn : args.length = 2) (hW : W pg quad_Quad_Add.k (done quad_Quad_Add.res r) (start args)) : Ret pg zgd args r :=
 Ret_of (fn := Tryz.f72) Tryz.func72 rfl (by kernel_rfl) quad_Quad_Add.m quad_Quad_Add.mr (by rw [hn]; exact of_decide_eq_true (by kernel_rfl)) hW
def factor_Residual.k : K :=
 (.seq (.keep [1, 2] (.ops false [Ot 2 (.boxP (.t 0)),
 Ot 4 (.mov (.c (.int .i64 0)))]))
 (.seq (.keep [1, 2, 5] (.ops false [Ot 8 (.fldA 1 1 false (.t 2)),
 Ot 9 (.load 1 false (.t 8)),
 Ot 10 (.un .neg (.t 9)),
 Ot 5 (.mov (.t 10))]))
 (.seq (.seq (.keep [1, 5, 12, 13, 14] (.ops false [Ot 11 (.fldA 0 1 false (.t 2)),
 Ot 12 (.load 1 false (.t 11)),
 Ot 13 (.len false (.t 12)),
 Ot 14 (.mov (.c (.int .i64 0)))]))
 (.block 0 (.loop (.seq (.keep [1, 5, 12, 13, 14, 15] (.ops false [Ot 15 (.bin .lss (.t 14) (.t 13))]))
 (.seq (.cond (.t 15) .skip
 (.exit 0))
 (.seq (.block 1 (.seq (.keep [1, 5, 6, 7, 12, 13, 14] (.ops false [Ot 16 (.mov (.t 14)),
 Ot 17 (.idxA 1 (.t 12) (.t 14)),
 Ot 18 (.load 1 false (.t 17)),
 Ot 6 (.mov (.t 16)),
 Ot 7 (.mov (.t 18))]))
 (.keep [1, 5, 12, 13, 14] (.ops false [Ot 19 (.mov (.t 5)),
 Ot 20 (.mov (.t 7)),
 Ot 21 (.mov (.t 1)),
 Ot 22 (.mov (.t 6)),
 Ot 23 (.idxA 1 (.t 21) (.t 22)),
 Ot 24 (.load 1 false (.t 23)),
 Ot 25 (.bin .mul (.t 20) (.t 24)),
 Ot 26 (.bin .add (.t 19) (.t 25)),
 Ot 5 (.mov (.t 26))]))))
 (.keep [1, 5, 12, 13, 14] (.ops false [Ot 27 (.bin .add (.t 14) (.c (.int .i64 1))),
 Ot 14 (.mov (.t 27))]))))))))
 (.seq (.keep [4] (.ops false [Ot 28 (.mov (.t 5)),
 Ot 29 (.mm false (.t 28) [(.c (.int .i64 1000000000))]),
 Ot 30 (.mm true (.c (.int .i64 (-1000000000))) [(.t 29)]),
 Ot 4 (.mov (.t 30))]))
 .ret))))
def factor_Residual.res : List RX := [(4, none)]
theorem factor_Residual.m : mK pg Tryz.f51.ntmps factor_Residual.k (Tryz.f51.body.getD .skip) = true := by kernel_rfl
theorem factor_Residual.mr : mRes pg Tryz.f51.results.toList factor_Residual.res = true := by kernel_rfl
theorem factor_Residual.of {args : List V} {r : V} (hn : args.length = 2) (hW : W pg factor_Residual.k (done factor_Residual.res r) (start args)) : Ret pg zfb args r :=
 Ret_of (fn := Tryz.f51) Tryz.func51 rfl (by kernel_rfl) factor_Residual.m factor_Residual.mr (by rw [hn]; exact of_decide_eq_true (by kernel_rfl)) hW
def factor_Right.k : K :=
 (.seq (.keep [1, 2] (.ops false [Ot 2 (.boxP (.t 0)),
 Ot 4 (.mov (.c (.bool false)))]))
 (.seq (.seq (.keep [2, 30] (.ops false [Ot 7 (.fldA 0 1 false (.t 2)),
 Ot 8 (.load 1 false (.t 7)),
 Ot 9 (.len false (.t 8)),
 Ot 10 (.mov (.t 1)),
 Ot 11 (.bin .neq (.t 9) (.t 10)),
 Ot 12 (.mov (.t 11)),
 ⟨(some 13), (some (12, false)), .mov (.t 1)⟩,
 ⟨(some 14), (some (12, false)), .bin .gtr (.t 13) (.c (.int .i64 11))⟩,
 Ot 15 (.pick (.t 12) (.c (.bool true)) (.t 14)),
 Ot 16 (.mov (.t 15)),
 ⟨(some 17), (some (16, false)), .fldA 1 1 false (.t 2)⟩,
 ⟨(some 18), (some (16, false)), .load 1 false (.t 17)⟩,
 ⟨(some 19), (some (16, false)), .callG zee [(.t 18), (.c (.int .i64 (-1000000000))), (.c (.int .i64 1000000000))]⟩,
 Ot 20 (.pick (.t 16) (.c (.bool true)) (.t 19)),
 Ot 21 (.mov (.t 20)),
 ⟨(some 22), (some (21, false)), .fldA 2 1 false (.t 2)⟩,
 ⟨(some 23), (some (21, false)), .load 1 false (.t 22)⟩,
 ⟨(some 24), (some (21, false)), .callG zee [(.t 23), (.c (.int .i64 1)), (.c (.int .i64 32768))]⟩,
 Ot 25 (.pick (.t 21) (.c (.bool true)) (.t 24)),
 Ot 26 (.mov (.t 25)),
 ⟨(some 27), (some (26, false)), .fldA 3 1 false (.t 2)⟩,
 ⟨(some 28), (some (26, false)), .load 1 false (.t 27)⟩,
 ⟨(some 29), (some (26, false)), .callG zee [(.t 28), (.c (.int .i64 1)), (.c (.int .i64 100))]⟩,
 Ot 30 (.pick (.t 26) (.c (.bool true)) (.t 29))]))
 (.cond (.t 30) (.seq (.keep [4] (.ops false [Ot 4 (.mov (.c (.bool false)))]))
 .ret)
 .skip))
 (.seq (.seq (.keep [32, 33, 34] (.ops false [Ot 31 (.fldA 0 1 false (.t 2)),
 Ot 32 (.load 1 false (.t 31)),
 Ot 33 (.len false (.t 32)),
 Ot 34 (.mov (.c (.int .i64 0)))]))
 (.block 0 (.loop (.seq (.keep [32, 33, 34, 35] (.ops false [Ot 35 (.bin .lss (.t 34) (.t 33))]))
 (.seq (.cond (.t 35) .skip
 (.exit 0))
 (.seq (.block 1 (.seq (.keep [6, 32, 33, 34] (.ops false [Ot 36 (.idxA 1 (.t 32) (.t 34)),
 Ot 37 (.load 1 false (.t 36)),
 Ot 6 (.mov (.t 37))]))
 (.seq (.keep [32, 33, 34, 39] (.ops false [Ot 38 (.mov (.t 6)),
 Ot 39 (.callG zee [(.t 38), (.c (.int .i64 (-1000))), (.c (.int .i64 1000))])]))
 (.cond (.t 39) (.seq (.keep [4] (.ops false [Ot 4 (.mov (.c (.bool false)))]))
 .ret)
 .skip))))
 (.keep [32, 33, 34] (.ops false [Ot 40 (.bin .add (.t 34) (.c (.int .i64 1))),
 Ot 34 (.mov (.t 40))]))))))))
 (.seq (.keep [4] (.ops false [Ot 4 (.mov (.c (.bool true)))]))
 .ret))))
def factor_Right.res : List RX := [(4, none)]
theorem factor_Right.m : mK pg Tryz.f124.ntmps factor_Right.k (Tryz.f124.body.getD .skip) = true := by kernel_rfl
theorem factor_Right.mr : mRes pg Tryz.f124.results.toList factor_Right.res = true := by kernel_rfl
theorem factor_Right.of {args : List V} {r : V} (hn : args.length = 2) (hW : W pg factor_Right.k (done factor_Right.res r) (start args)) : Ret pg zgx args r :=
 Ret_of (fn := Tryz.f124) Tryz.func124 rfl (by kernel_rfl) factor_Right.m factor_Right.mr (by rw [hn]; exact of_decide_eq_true (by kernel_rfl)) hW
def factor_out.k : K :=
 (.seq (.keep [0, 1, 2] (.ops false [Ot 6 (.mov (.c (.bool false)))]))
 (.seq (.keep [6] (.ops false [Ot 7 (.mov (.t 0)),
 Ot 8 (.mov (.t 1)),
 Ot 9 (.bin .lss (.t 7) (.t 8)),
 Ot 10 (.mov (.t 9)),
 ⟨(some 11), (some (10, false)), .mov (.t 0)⟩,
 ⟨(some 12), (some (10, false)), .mov (.t 2)⟩,
 ⟨(some 13), (some (10, false)), .bin .gtr (.t 11) (.t 12)⟩,
 Ot 14 (.pick (.t 10) (.c (.bool true)) (.t 13)),
 Ot 6 (.mov (.t 14))]))
 .ret))
def factor_out.res : List RX := [(6, none)]
theorem factor_out.m : mK pg Tryz.f173.ntmps factor_out.k (Tryz.f173.body.getD .skip) = true := by kernel_rfl
theorem factor_out.mr : mRes pg Tryz.f173.results.toList factor_out.res = true := by kernel_rfl
theorem factor_out.of {args : List V} {r : V} (hn : args.length = 3) (hW : W pg factor_out.k (done factor_out.res r) (start args)) : Ret pg zee args r :=
 Ret_of (fn := Tryz.f173) Tryz.func173 rfl (by kernel_rfl) factor_out.m factor_out.mr (by rw [hn]; exact of_decide_eq_true (by kernel_rfl)) hW
def slices_ContainsFunc_Lint64_int64.k : K :=
 (.seq (.keep [0, 1] (.ops false [Ot 4 (.mov (.c (.bool false)))]))
 (.seq (.keep [4] (.ops false [Ot 5 (.mov (.t 0)),
 Ot 6 (.mov (.t 1)),
 Ot 7 (.callG zbw [(.t 5), (.t 6)]),
 Ot 8 (.bin .geq (.t 7) (.c (.int .i64 0))),
 Ot 4 (.mov (.t 8))]))
 .ret))
def slices_ContainsFunc_Lint64_int64.res : List RX := [(4, none)]
theorem slices_ContainsFunc_Lint64_int64.m : mK pg Tryz.f100.ntmps slices_ContainsFunc_Lint64_int64.k (Tryz.f100.body.getD .skip) = true := by kernel_rfl
theorem slices_ContainsFunc_Lint64_int64.mr : mRes pg Tryz.f100.results.toList slices_ContainsFunc_Lint64_int64.res = true := by kernel_rfl
theorem slices_ContainsFunc_Lint64_int64.of {args : List V} {r : V} (hn : args.length = 2) (hW : W pg slices_ContainsFunc_Lint64_int64.k (done slices_ContainsFunc_Lint64_int64.res r) (start args)) : Ret pg zbp args r :=
 Ret_of (fn := Tryz.f100) Tryz.func100 rfl (by kernel_rfl) slices_ContainsFunc_Lint64_int64.m slices_ContainsFunc_Lint64_int64.mr (by rw [hn]; exact of_decide_eq_true (by kernel_rfl)) hW
def slices_ContainsFunc_Lapi_Row_api_Row.k : K :=
 (.seq (.keep [0, 1] (.ops false [Ot 4 (.mov (.c (.bool false)))]))
 (.seq (.keep [4] (.ops false [Ot 5 (.mov (.t 0)),
 Ot 6 (.mov (.t 1)),
 Ot 7 (.callG zbi [(.t 5), (.t 6)]),
 Ot 8 (.bin .geq (.t 7) (.c (.int .i64 0))),
 Ot 4 (.mov (.t 8))]))
 .ret))
def slices_ContainsFunc_Lapi_Row_api_Row.res : List RX := [(4, none)]
theorem slices_ContainsFunc_Lapi_Row_api_Row.m : mK pg Tryz.f122.ntmps slices_ContainsFunc_Lapi_Row_api_Row.k (Tryz.f122.body.getD .skip) = true := by kernel_rfl
theorem slices_ContainsFunc_Lapi_Row_api_Row.mr : mRes pg Tryz.f122.results.toList slices_ContainsFunc_Lapi_Row_api_Row.res = true := by kernel_rfl
theorem slices_ContainsFunc_Lapi_Row_api_Row.of {args : List V} {r : V} (hn : args.length = 2) (hW : W pg slices_ContainsFunc_Lapi_Row_api_Row.k (done slices_ContainsFunc_Lapi_Row_api_Row.res r) (start args)) : Ret pg zbd args r :=
 Ret_of (fn := Tryz.f122) Tryz.func122 rfl (by kernel_rfl) slices_ContainsFunc_Lapi_Row_api_Row.m slices_ContainsFunc_Lapi_Row_api_Row.mr (by rw [hn]; exact of_decide_eq_true (by kernel_rfl)) hW
def slices_IndexFunc_Lint64_int64.k : K :=
 (.seq (.keep [0, 1] (.ops false [Ot 4 (.mov (.c (.int .i64 0)))]))
 (.seq (.seq (.keep [0, 1, 7, 8] (.ops false [Ot 6 (.mov (.t 0)),
 Ot 7 (.len false (.t 6)),
 Ot 8 (.mov (.c (.int .i64 0)))]))
 (.block 0 (.loop (.seq (.keep [0, 1, 7, 8, 9] (.ops false [Ot 9 (.bin .lss (.t 8) (.t 7))]))
 (.seq (.cond (.t 9) .skip
 (.exit 0))
 (.seq (.block 1 (.seq (.keep [0, 1, 5, 7, 8] (.ops false [Ot 10 (.mov (.t 8)),
 Ot 5 (.mov (.t 10))]))
 (.seq (.keep [0, 1, 5, 7, 8, 16] (.ops false [Ot 11 (.mov (.t 1)),
 Ot 12 (.mov (.t 0)),
 Ot 13 (.mov (.t 5)),
 Ot 14 (.idxA 1 (.t 12) (.t 13)),
 Ot 15 (.load 1 false (.t 14)),
 Ot 16 (.callGV (.t 11) [(.t 15)])]))
 (.cond (.t 16) (.seq (.keep [4] (.ops false [Ot 17 (.mov (.t 5)),
 Ot 4 (.mov (.t 17))]))
 .ret)
 .skip))))
 (.keep [0, 1, 7, 8] (.ops false [Ot 18 (.bin .add (.t 8) (.c (.int .i64 1))),
 Ot 8 (.mov (.t 18))]))))))))
 (.seq (.keep [4] (.ops false [Ot 4 (.mov (.c (.int .i64 (-1))))]))
 .ret)))
def slices_IndexFunc_Lint64_int64.res : List RX := [(4, none)]
theorem slices_IndexFunc_Lint64_int64.m : mK pg Tryz.f156.ntmps slices_IndexFunc_Lint64_int64.k (Tryz.f156.body.getD .skip) = true := by kernel_rfl
theorem slices_IndexFunc_Lint64_int64.mr : mRes pg Tryz.f156.results.toList slices_IndexFunc_Lint64_int64.res = true := by kernel_rfl
theorem slices_IndexFunc_Lint64_int64.of {args : List V} {r : V} (hn : args.length = 2) (hW : W pg slices_IndexFunc_Lint64_int64.k (done slices_IndexFunc_Lint64_int64.res r) (start args)) : Ret pg zbw args r :=
 Ret_of (fn := Tryz.f156) Tryz.func156 rfl (by kernel_rfl) slices_IndexFunc_Lint64_int64.m slices_IndexFunc_Lint64_int64.mr (by rw [hn]; exact of_decide_eq_true (by kernel_rfl)) hW
def slices_IndexFunc_Lapi_Row_api_Row.k : K :=
 (.seq (.keep [0, 1] (.ops false [Ot 4 (.mov (.c (.int .i64 0)))]))
 (.seq (.seq (.keep [0, 1, 7, 8] (.ops false [Ot 6 (.mov (.t 0)),
 Ot 7 (.len false (.t 6)),
 Ot 8 (.mov (.c (.int .i64 0)))]))
 (.block 0 (.loop (.seq (.keep [0, 1, 7, 8, 9] (.ops false [Ot 9 (.bin .lss (.t 8) (.t 7))]))
 (.seq (.cond (.t 9) .skip
 (.exit 0))
 (.seq (.block 1 (.seq (.keep [0, 1, 5, 7, 8] (.ops false [Ot 10 (.mov (.t 8)),
 Ot 5 (.mov (.t 10))]))
 (.seq (.keep [0, 1, 5, 7, 8, 16] (.ops false [Ot 11 (.mov (.t 1)),
 Ot 12 (.mov (.t 0)),
 Ot 13 (.mov (.t 5)),
 Ot 14 (.idxA 4 (.t 12) (.t 13)),
 Ot 15 (.load 4 true (.t 14)),
 Ot 16 (.callGV (.t 11) [(.t 15)])]))
 (.cond (.t 16) (.seq (.keep [4] (.ops false [Ot 17 (.mov (.t 5)),
 Ot 4 (.mov (.t 17))]))
 .ret)
 .skip))))
 (.keep [0, 1, 7, 8] (.ops false [Ot 18 (.bin .add (.t 8) (.c (.int .i64 1))),
 Ot 8 (.mov (.t 18))]))))))))
 (.seq (.keep [4] (.ops false [Ot 4 (.mov (.c (.int .i64 (-1))))]))
 .ret)))
def slices_IndexFunc_Lapi_Row_api_Row.res : List RX := [(4, none)]
theorem slices_IndexFunc_Lapi_Row_api_Row.m : mK pg Tryz.f172.ntmps slices_IndexFunc_Lapi_Row_api_Row.k (Tryz.f172.body.getD .skip) = true := by kernel_rfl
theorem slices_IndexFunc_Lapi_Row_api_Row.mr : mRes pg Tryz.f172.results.toList slices_IndexFunc_Lapi_Row_api_Row.res = true := by kernel_rfl
theorem slices_IndexFunc_Lapi_Row_api_Row.of {args : List V} {r : V} (hn : args.length = 2) (hW : W pg slices_IndexFunc_Lapi_Row_api_Row.k (done slices_IndexFunc_Lapi_Row_api_Row.res r) (start args)) : Ret pg zbi args r :=
 Ret_of (fn := Tryz.f172) Tryz.func172 rfl (by kernel_rfl) slices_IndexFunc_Lapi_Row_api_Row.m slices_IndexFunc_Lapi_Row_api_Row.mr (by rw [hn]; exact of_decide_eq_true (by kernel_rfl)) hW
end Go.Gim

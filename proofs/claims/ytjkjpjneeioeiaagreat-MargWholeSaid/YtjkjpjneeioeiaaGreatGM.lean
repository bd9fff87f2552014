import Derived.Test.YtjkjpjneeioeiaaGreatGN
/- Functions' code as data (written by wip/tools/gen.py), and the step to their contracts. -/
set_option maxRecDepth 100000
namespace Go.Gim
open Go.Proofs
def marg_Out.k : K :=
 (.seq (.keep [1, 2, 3, 6] (.ops false [Ot 3 (.boxP (.t 0)),
 Ot 6 (.alloc 8 (.agg [(.int .i64 0), .nil, .nil, .nil, (.bool false), (.sl []), (.bool false), (.sl [])])),
 Ot 7 (.mov (.c (.int .i64 0)))]))
 (.seq (.block 0 (.seq (.keep [1, 2, 3, 6, 16] (.ops false [Ot 17 (.mov (.t 1)),
 Ot 18 (.len false (.t 17)),
 Ot 19 (.fldA 0 1 false (.t 3)),
 Ot 20 (.load 1 false (.t 19)),
 Ot 21 (.bin .neq (.t 18) (.t 20)),
 Ot 22 (.mov (.t 21)),
 ⟨(some 23), (some (22, false)), .mov (.t 1)⟩,
 ⟨(some 24), (some (22, false)), .callG n_cost_State [(.t 23)]⟩,
 ⟨(some 25), (some (22, false)), .un .not (.t 24)⟩,
 Ot 26 (.pick (.t 22) (.c (.bool true)) (.t 25)),
 Ot 16 (.mov (.t 26))]))
 (.cond (.t 16) (.seq (.keep [6, 7] (.ops false [Ot 27 (.build [(.int .i64 0), .nil, .nil, .nil, (.bool false), (.sl []), (.bool false), (.sl [])] []),
 ⟨none, none, .store 8 (.t 6) (.t 27)⟩,
 Ot 7 (.mov (.c (.int .i64 170)))]))
 .ret)
 (.seq (.keep [1, 2, 3, 6, 28] (.ops false [Ot 29 (.mov (.t 2)),
 Ot 30 (.bin .lss (.t 29) (.c (.int .i64 0))),
 Ot 31 (.mov (.t 30)),
 ⟨(some 32), (some (31, false)), .mov (.t 2)⟩,
 ⟨(some 33), (some (31, false)), .fldA 0 1 false (.t 3)⟩,
 ⟨(some 34), (some (31, false)), .load 1 false (.t 33)⟩,
 ⟨(some 35), (some (31, false)), .bin .geq (.t 32) (.t 34)⟩,
 Ot 36 (.pick (.t 31) (.c (.bool true)) (.t 35)),
 Ot 28 (.mov (.t 36))]))
 (.cond (.t 28) (.seq (.keep [6, 7] (.ops false [Ot 37 (.build [(.int .i64 0), .nil, .nil, .nil, (.bool false), (.sl []), (.bool false), (.sl [])] []),
 ⟨none, none, .store 8 (.t 6) (.t 37)⟩,
 Ot 7 (.mov (.c (.int .i64 1)))]))
 .ret)
 .skip)))))
 (.seq (.keep [2, 3, 6, 8, 9] (.ops false [Ot 39 (.load 8 true (.t 3)),
 Ot 40 (.mov (.t 1)),
 Ot 41 (.mov (.t 2)),
 Ot 42 (.callG zed [(.t 39), (.t 40), (.t 41)]),
 Ot 38 (.mov (.t 42)),
 Ot 43 (.ext (.t 38) 0),
 Ot 44 (.ext (.t 38) 1),
 Ot 8 (.alloc 4 (.agg [.nil, .nil, (.bool false), (.sl [])])),
 Ot 9 (.alloc 2 (.agg [(.bool false), (.sl [])])),
 ⟨none, none, .store 4 (.t 8) (.t 43)⟩,
 ⟨none, none, .store 2 (.t 9) (.t 44)⟩]))
 (.seq (.keep [2, 3, 6, 9, 10, 11, 12] (.ops false [Ot 46 (.load 4 true (.t 8)),
 Ot 47 (.mov (.t 2)),
 Ot 48 (.callG zd3 [(.t 46), (.t 47)]),
 Ot 45 (.mov (.t 48)),
 Ot 49 (.ext (.t 45) 0),
 Ot 50 (.ext (.t 45) 1),
 Ot 51 (.ext (.t 45) 2),
 Ot 10 (.alloc 4 (.agg [.nil, .nil, (.bool false), (.sl [])])),
 Ot 11 (.alloc 2 (.agg [(.bool false), (.sl [])])),
 ⟨none, none, .store 4 (.t 10) (.t 49)⟩,
 ⟨none, none, .store 2 (.t 11) (.t 50)⟩,
 Ot 12 (.mov (.t 51))]))
 (.seq (.seq (.keep [2, 3, 6, 9, 10, 11, 12, 53] (.ops false [Ot 52 (.mov (.t 12)),
 Ot 53 (.bin .neq (.t 52) (.c (.int .i64 0)))]))
 (.cond (.t 53) (.seq (.keep [6, 7] (.ops false [Ot 54 (.build [(.int .i64 0), .nil, .nil, .nil, (.bool false), (.sl []), (.bool false), (.sl [])] []),
 Ot 55 (.mov (.t 12)),
 ⟨none, none, .store 8 (.t 6) (.t 54)⟩,
 Ot 7 (.mov (.t 55))]))
 .ret)
 .skip))
 (.seq (.keep [2, 3, 6, 13] (.ops true [Ot 56 (.fldA 0 1 false (.t 3)),
 Ot 57 (.load 1 false (.t 56)),
 Ot 58 (.mov (.t 2)),
 Ot 59 (.bin .sub (.t 57) (.t 58)),
 Ot 60 (.load 4 true (.t 10)),
 Ot 61 (.load 2 true (.t 9)),
 Ot 62 (.load 2 true (.t 11)),
 Ot 63 (.call zap [(.t 61), (.t 62)]),
 Ot 64 (.call zgv [(.t 60), (.t 63)]),
 Ot 65 (.call za0 [(.c (.int .i64 1024))]),
 Ot 66 (.build [(.int .i64 0), .nil, .nil, .nil, (.bool false), (.sl []), (.bool false), (.sl [])] [(0, 1, (.t 59)), (2, 4, (.t 64)), (6, 2, (.t 65))]),
 Ot 13 (.alloc 8 (.agg [(.int .i64 0), .nil, .nil, .nil, (.bool false), (.sl []), (.bool false), (.sl [])])),
 ⟨none, none, .store 8 (.t 13) (.t 66)⟩]))
 (.seq (.seq (.keep [2, 6, 13, 68, 69, 70] (.ops false [Ot 67 (.fldA 1 1 false (.t 3)),
 Ot 68 (.load 1 false (.t 67)),
 Ot 69 (.len false (.t 68)),
 Ot 70 (.mov (.c (.int .i64 0)))]))
 (.block 1 (.loop (.seq (.keep [2, 6, 13, 68, 69, 70, 71] (.ops false [Ot 71 (.bin .lss (.t 70) (.t 69))]))
 (.seq (.cond (.t 71) .skip
 (.exit 1))
 (.seq (.block 2 (.seq (.keep [2, 6, 13, 15, 68, 69, 70] (.ops false [Ot 72 (.idxA 4 (.t 68) (.t 70)),
 Ot 73 (.load 4 true (.t 72)),
 Ot 15 (.alloc 4 (.agg [(.sl []), (.int .i64 0), (.int .i64 0), (.int .i64 0)])),
 ⟨none, none, .store 4 (.t 15) (.t 73)⟩]))
 (.seq (.keep [2, 6, 13, 15, 68, 69, 70, 77] (.ops false [Ot 74 (.load 4 true (.t 15)),
 Ot 75 (.mov (.t 2)),
 Ot 76 (.callG zfh [(.t 74), (.t 75)]),
 Ot 77 (.un .not (.t 76))]))
 (.cond (.t 77) (.seq (.keep [2, 6, 13, 15, 68, 69, 70] (.ops false [Ot 78 (.fldA 0 1 false (.t 15)),
 Ot 79 (.load 1 false (.t 78)),
 Ot 80 (.mov (.t 2)),
 Ot 81 (.red (.slc 1 true false false) [(.t 79), (.t 80)]),
 Ot 82 (.callG zb9 [(.t 81)]),
 Ot 83 (.fldA 0 1 false (.t 15)),
 ⟨none, none, .store 1 (.t 83) (.t 82)⟩]))
 (.gh (.keep [2, 6, 13, 68, 69, 70] (.ops false [Ot 84 (.fldA 1 1 false (.t 13)),
 Ot 85 (.load 1 false (.t 84)),
 Ot 86 (.load 4 true (.t 15)),
 Ot 87 (.new (.bsl 4) [(.t 86)]),
 Ot 88 (.eff (.app 4 48) [(.t 85), (.t 87)]),
 Ot 89 (.fldA 1 1 false (.t 13)),
 ⟨none, none, .store 1 (.t 89) (.t 88)⟩]))))
 .skip))))
 (.keep [2, 6, 13, 68, 69, 70] (.ops false [Ot 90 (.bin .add (.t 70) (.c (.int .i64 1))),
 Ot 70 (.mov (.t 90))]))))))))
 (.seq (.keep [6, 7] (.ops false [Ot 91 (.load 8 true (.t 13)),
 ⟨none, none, .store 8 (.t 6) (.t 91)⟩,
 Ot 7 (.mov (.c (.int .i64 0)))]))
 .ret))))))))
def marg_Out.res : List RX := [(6, some (8, true)), (7, none)]
theorem marg_Out.m : mK pg Tryz.f13.ntmps marg_Out.k (Tryz.f13.body.getD .skip) = true := by kernel_rfl
theorem marg_Out.mr : mRes pg Tryz.f13.results.toList marg_Out.res = true := by kernel_rfl
theorem marg_Out.of {args : List V} {r : V} (hn : args.length = 3) (hW : W pg marg_Out.k (done marg_Out.res r) (start args)) : Ret pg ze9 args r :=
 Ret_of (fn := Tryz.f13) Tryz.func13 rfl (by kernel_rfl) marg_Out.m marg_Out.mr (by rw [hn]; exact of_decide_eq_true (by kernel_rfl)) hW
def marg_Whole.k : K :=
 (.seq (.keep [1, 2, 3, 6, 7] (.ops false [Ot 3 (.boxP (.t 0)),
 Ot 6 (.alloc 4 (.agg [.nil, .nil, (.bool false), (.sl [])])),
 Ot 7 (.alloc 2 (.agg [(.bool false), (.sl [])]))]))
 (.seq (.keep [1, 2, 3, 6, 7, 8] (.ops true [Ot 11 (.fldA 2 4 true (.t 3)),
 Ot 12 (.load 4 true (.t 11)),
 Ot 13 (.call za0 [(.c (.int .i64 1024))]),
 Ot 14 (.call zel [(.t 12), (.t 13)]),
 Ot 8 (.alloc 4 (.agg [.nil, .nil, (.bool false), (.sl [])])),
 ⟨none, none, .store 4 (.t 8) (.t 14)⟩]))
 (.seq (.seq (.keep [1, 2, 3, 6, 7, 8, 16, 17, 18] (.ops false [Ot 15 (.fldA 1 1 false (.t 3)),
 Ot 16 (.load 1 false (.t 15)),
 Ot 17 (.len false (.t 16)),
 Ot 18 (.mov (.c (.int .i64 0)))]))
 (.block 0 (.loop (.seq (.keep [1, 2, 3, 6, 7, 8, 16, 17, 18, 19] (.ops false [Ot 19 (.bin .lss (.t 18) (.t 17))]))
 (.seq (.cond (.t 19) .skip
 (.exit 0))
 (.seq (.block 1 (.seq (.keep [1, 2, 3, 6, 7, 8, 10, 16, 17, 18] (.ops false [Ot 20 (.idxA 4 (.t 16) (.t 18)),
 Ot 21 (.load 4 true (.t 20)),
 Ot 10 (.alloc 4 (.agg [(.sl []), (.int .i64 0), (.int .i64 0), (.int .i64 0)])),
 ⟨none, none, .store 4 (.t 10) (.t 21)⟩]))
 (.seq (.keep [1, 2, 3, 6, 7, 8, 10, 16, 17, 18, 24] (.ops false [Ot 22 (.load 4 true (.t 10)),
 Ot 23 (.mov (.t 2)),
 Ot 24 (.callG zfh [(.t 22), (.t 23)])]))
 (.cond (.t 24) (.keep [1, 2, 3, 6, 7, 8, 16, 17, 18] (.ops true [Ot 25 (.load 4 true (.t 8)),
 Ot 26 (.load 4 true (.t 10)),
 Ot 27 (.call n_marg_square [(.t 26)]),
 Ot 28 (.fldA 6 2 true (.t 3)),
 Ot 29 (.load 2 true (.t 28)),
 Ot 30 (.fldA 3 1 false (.t 10)),
 Ot 31 (.load 1 false (.t 30)),
 Ot 32 (.load 8 true (.t 3)),
 Ot 33 (.load 4 true (.t 10)),
 Ot 34 (.mov (.t 1)),
 Ot 35 (.call zd5 [(.t 32), (.t 33), (.t 34)]),
 Ot 36 (.bin .mul (.t 31) (.t 35)),
 Ot 37 (.call za0 [(.t 36)]),
 Ot 38 (.call zap [(.t 29), (.t 37)]),
 Ot 39 (.call zel [(.t 27), (.t 38)]),
 Ot 40 (.call zgd [(.t 25), (.t 39)]),
 ⟨none, none, .store 4 (.t 8) (.t 40)⟩]))
 .skip))))
 (.keep [1, 2, 3, 6, 7, 8, 16, 17, 18] (.ops false [Ot 41 (.bin .add (.t 18) (.c (.int .i64 1))),
 Ot 18 (.mov (.t 41))]))))))))
 (.seq (.keep [6, 7] (.ops true [Ot 42 (.load 4 true (.t 8)),
 Ot 43 (.fldA 6 2 true (.t 3)),
 Ot 44 (.loadN 2 true (.t 43) [6]),
 Ot 45 (.call za0 [(.c (.int .i64 1024))]),
 Ot 46 (.call zap [(.t 44), (.t 45)]),
 ⟨none, none, .store 4 (.t 6) (.t 42)⟩,
 ⟨none, none, .store 2 (.t 7) (.t 46)⟩]))
 .ret))))
def marg_Whole.res : List RX := [(6, some (4, true)), (7, some (2, true))]
theorem marg_Whole.m : mK pg Tryz.f16.ntmps marg_Whole.k (Tryz.f16.body.getD .skip) = true := by kernel_rfl
theorem marg_Whole.mr : mRes pg Tryz.f16.results.toList marg_Whole.res = true := by kernel_rfl
theorem marg_Whole.of {args : List V} {r : V} (hn : args.length = 3) (hW : W pg marg_Whole.k (done marg_Whole.res r) (start args)) : Ret pg zed args r :=
 Ret_of (fn := Tryz.f16) Tryz.func16 rfl (by kernel_rfl) marg_Whole.m marg_Whole.mr (by rw [hn]; exact of_decide_eq_true (by kernel_rfl)) hW
def marg_rounded.k : K :=
 (.seq (.keep [2, 3, 4] (.ops false [Ot 2 (.boxP (.t 0)),
 Ot 3 (.boxP (.t 1)),
 Ot 4 (.alloc 4 (.agg [.nil, .nil, (.bool false), (.sl [])]))]))
 (.seq (.keep [2, 4, 5] (.ops false [Ot 10 (.mkFn zcf [(.t 3)]),
 Ot 5 (.mov (.t 10))]))
 (.seq (.keep [2, 4, 5, 6] (.ops false [Ot 11 (.mov (.t 5)),
 Ot 12 (.fldA 2 2 true (.t 2)),
 Ot 13 (.load 2 true (.t 12)),
 Ot 14 (.callGV (.t 11) [(.t 13)]),
 Ot 15 (.build [.nil, .nil, (.bool false), (.sl [])] [(2, 2, (.t 14))]),
 Ot 6 (.alloc 4 (.agg [.nil, .nil, (.bool false), (.sl [])])),
 ⟨none, none, .store 4 (.t 6) (.t 15)⟩]))
 (.seq (.seq (.keep [2, 4, 5, 6, 18, 19] (.ops false [Ot 16 (.fldA 0 1 false (.t 2)),
 Ot 17 (.load 1 false (.t 16)),
 Ot 18 (.len false (.t 17)),
 Ot 19 (.mov (.c (.int .i64 0)))]))
 (.block 0 (.loop (.seq (.keep [2, 4, 5, 6, 18, 19, 20] (.ops false [Ot 20 (.bin .lss (.t 19) (.t 18))]))
 (.seq (.cond (.t 20) .skip
 (.exit 0))
 (.seq (.block 1 (.seq (.keep [2, 4, 5, 6, 7, 18, 19] (.ops false [Ot 21 (.mov (.t 19)),
 Ot 7 (.mov (.t 21))]))
 (.seq (.keep [2, 4, 5, 6, 7, 18, 19] (.ops true [Ot 22 (.fldA 1 1 false (.t 6)),
 Ot 23 (.load 1 false (.t 22)),
 Ot 24 (.mov (.t 5)),
 Ot 25 (.fldA 1 1 false (.t 2)),
 Ot 26 (.load 1 false (.t 25)),
 Ot 27 (.mov (.t 7)),
 Ot 28 (.idxA 2 (.t 26) (.t 27)),
 Ot 29 (.load 2 true (.t 28)),
 Ot 30 (.callV (.t 24) [(.t 29)]),
 Ot 31 (.new (.bsl 2) [(.t 30)]),
 Ot 32 (.eff (.app 2 32) [(.t 23), (.t 31)]),
 Ot 33 (.fldA 1 1 false (.t 6)),
 ⟨none, none, .store 1 (.t 33) (.t 32)⟩]))
 (.seq (.keep [2, 4, 5, 6, 7, 8, 18, 19] (.ops false [Ot 8 (.mov (.c .nil))]))
 (.seq (.seq (.keep [2, 4, 5, 6, 7, 8, 18, 19, 39, 40] (.ops false [Ot 34 (.fldA 0 1 false (.t 2)),
 Ot 35 (.load 1 false (.t 34)),
 Ot 36 (.mov (.t 7)),
 Ot 37 (.idxA 1 (.t 35) (.t 36)),
 Ot 38 (.load 1 false (.t 37)),
 Ot 39 (.len false (.t 38)),
 Ot 40 (.mov (.c (.int .i64 0)))]))
 (.block 2 (.loop (.seq (.keep [2, 4, 5, 6, 7, 8, 18, 19, 39, 40, 41] (.ops false [Ot 41 (.bin .lss (.t 40) (.t 39))]))
 (.seq (.cond (.t 41) .skip
 (.exit 2))
 (.seq (.block 3 (.seq (.keep [2, 4, 5, 6, 7, 8, 9, 18, 19, 39, 40] (.ops false [Ot 42 (.mov (.t 40)),
 Ot 9 (.mov (.t 42))]))
 (.keep [2, 4, 5, 6, 7, 8, 18, 19, 39, 40] (.ops false [Ot 43 (.mov (.t 8)),
 Ot 44 (.mov (.t 5)),
 Ot 45 (.fldA 0 1 false (.t 2)),
 Ot 46 (.load 1 false (.t 45)),
 Ot 47 (.mov (.t 7)),
 Ot 48 (.idxA 1 (.t 46) (.t 47)),
 Ot 49 (.load 1 false (.t 48)),
 Ot 50 (.mov (.t 9)),
 Ot 51 (.idxA 2 (.t 49) (.t 50)),
 Ot 52 (.load 2 true (.t 51)),
 Ot 53 (.callGV (.t 44) [(.t 52)]),
 Ot 54 (.new (.bsl 2) [(.t 53)]),
 Ot 55 (.eff (.app 2 32) [(.t 43), (.t 54)]),
 Ot 8 (.mov (.t 55))]))))
 (.keep [2, 4, 5, 6, 7, 8, 18, 19, 39, 40] (.ops false [Ot 56 (.bin .add (.t 40) (.c (.int .i64 1))),
 Ot 40 (.mov (.t 56))]))))))))
 (.seq (.keep [2, 4, 5, 6, 8, 18, 19] (.ops true [Ot 57 (.mov (.t 8)),
 Ot 58 (.mov (.t 7)),
 Ot 59 (.mov (.t 8)),
 Ot 60 (.mov (.t 7)),
 Ot 61 (.idxA 2 (.t 59) (.t 60)),
 Ot 62 (.load 2 true (.t 61)),
 Ot 63 (.fldA 0 1 false (.t 2)),
 Ot 64 (.load 1 false (.t 63)),
 Ot 65 (.len false (.t 64)),
 Ot 66 (.call za0 [(.t 65)]),
 Ot 67 (.call zbq [(.t 62), (.t 66)]),
 Ot 68 (.idxA 2 (.t 57) (.t 58)),
 ⟨none, none, .store 2 (.t 68) (.t 67)⟩]))
 (.gh (.keep [2, 4, 5, 6, 18, 19] (.ops false [Ot 69 (.fldA 0 1 false (.t 6)),
 Ot 70 (.load 1 false (.t 69)),
 Ot 71 (.mov (.t 8)),
 Ot 72 (.new (.bsl 1) [(.t 71)]),
 Ot 73 (.eff (.app 1 24) [(.t 70), (.t 72)]),
 Ot 74 (.fldA 0 1 false (.t 6)),
 ⟨none, none, .store 1 (.t 74) (.t 73)⟩])))))))))
 (.keep [2, 4, 5, 6, 18, 19] (.ops false [Ot 75 (.bin .add (.t 19) (.c (.int .i64 1))),
 Ot 19 (.mov (.t 75))]))))))))
 (.seq (.seq (.keep [4, 6, 79] (.ops false [Ot 76 (.fldA 0 1 false (.t 6)),
 Ot 77 (.load 1 false (.t 76)),
 Ot 78 (.callG zc8 [(.t 77)]),
 Ot 79 (.un .not (.t 78))]))
 (.cond (.t 79) (.seq (.keep [4] (.ops false [Ot 80 (.load 4 true (.t 6)),
 Ot 81 (.build [(.bool false), (.sl [])] []),
 Ot 82 (.callG zel [(.t 80), (.t 81)]),
 ⟨none, none, .store 4 (.t 4) (.t 82)⟩]))
 .ret)
 .skip))
 (.seq (.keep [4] (.ops false [Ot 83 (.load 4 true (.t 6)),
 ⟨none, none, .store 4 (.t 4) (.t 83)⟩]))
 .ret))))))
def marg_rounded.res : List RX := [(4, some (4, true))]
theorem marg_rounded.m : mK pg Tryz.f61.ntmps marg_rounded.k (Tryz.f61.body.getD .skip) = true := by kernel_rfl
theorem marg_rounded.mr : mRes pg Tryz.f61.results.toList marg_rounded.res = true := by kernel_rfl
theorem marg_rounded.of {args : List V} {r : V} (hn : args.length = 2) (hW : W pg marg_rounded.k (done marg_rounded.res r) (start args)) : Ret pg zgv args r :=
 Ret_of (fn := Tryz.f61) Tryz.func61 rfl (by kernel_rfl) marg_rounded.m marg_rounded.mr (by rw [hn]; exact of_decide_eq_true (by kernel_rfl)) hW
def marg_touches.k : K :=
 (.seq (.keep [1, 2] (.ops false [Ot 2 (.boxP (.t 0)),
 Ot 4 (.mov (.c (.bool false)))]))
 (.seq (.keep [4] (.ops false [Ot 5 (.fldA 0 1 false (.t 2)),
 Ot 6 (.load 1 false (.t 5)),
 Ot 7 (.mov (.t 1)),
 Ot 8 (.red (.slc 1 false true false) [(.t 6), (.t 7)]),
 Ot 9 (.callG zbp [(.t 8), (.c (.fn zcz []))]),
 Ot 4 (.mov (.t 9))]))
 .ret))
def marg_touches.res : List RX := [(4, none)]
theorem marg_touches.m : mK pg Tryz.f62.ntmps marg_touches.k (Tryz.f62.body.getD .skip) = true := by kernel_rfl
theorem marg_touches.mr : mRes pg Tryz.f62.results.toList marg_touches.res = true := by kernel_rfl
theorem marg_touches.of {args : List V} {r : V} (hn : args.length = 2) (hW : W pg marg_touches.k (done marg_touches.res r) (start args)) : Ret pg zfh args r :=
 Ret_of (fn := Tryz.f62) Tryz.func62 rfl (by kernel_rfl) marg_touches.m marg_touches.mr (by rw [hn]; exact of_decide_eq_true (by kernel_rfl)) hW
def marg_scaled.k : K :=
 (.seq (.keep [2, 3, 4] (.ops false [Ot 2 (.boxP (.t 0)),
 Ot 3 (.boxP (.t 1)),
 Ot 4 (.alloc 4 (.agg [.nil, .nil, (.bool false), (.sl [])]))]))
 (.seq (.keep [2, 3, 4, 5] (.ops false [Ot 10 (.fldA 2 2 true (.t 2)),
 Ot 11 (.load 2 true (.t 10)),
 Ot 12 (.load 2 true (.t 3)),
 Ot 13 (.callG zap [(.t 11), (.t 12)]),
 Ot 14 (.build [.nil, .nil, (.bool false), (.sl [])] [(2, 2, (.t 13))]),
 Ot 5 (.alloc 4 (.agg [.nil, .nil, (.bool false), (.sl [])])),
 ⟨none, none, .store 4 (.t 5) (.t 14)⟩]))
 (.seq (.seq (.keep [2, 3, 4, 5, 17, 18] (.ops false [Ot 15 (.fldA 0 1 false (.t 2)),
 Ot 16 (.load 1 false (.t 15)),
 Ot 17 (.len false (.t 16)),
 Ot 18 (.mov (.c (.int .i64 0)))]))
 (.block 0 (.loop (.seq (.keep [2, 3, 4, 5, 17, 18, 19] (.ops false [Ot 19 (.bin .lss (.t 18) (.t 17))]))
 (.seq (.cond (.t 19) .skip
 (.exit 0))
 (.seq (.block 1 (.seq (.keep [2, 3, 4, 5, 6, 17, 18] (.ops false [Ot 20 (.mov (.t 18)),
 Ot 6 (.mov (.t 20))]))
 (.seq (.keep [2, 3, 4, 5, 6, 17, 18] (.ops true [Ot 21 (.fldA 1 1 false (.t 5)),
 Ot 22 (.load 1 false (.t 21)),
 Ot 23 (.fldA 1 1 false (.t 2)),
 Ot 24 (.load 1 false (.t 23)),
 Ot 25 (.mov (.t 6)),
 Ot 26 (.idxA 2 (.t 24) (.t 25)),
 Ot 27 (.load 2 true (.t 26)),
 Ot 28 (.load 2 true (.t 3)),
 Ot 29 (.call zap [(.t 27), (.t 28)]),
 Ot 30 (.new (.bsl 2) [(.t 29)]),
 Ot 31 (.eff (.app 2 32) [(.t 22), (.t 30)]),
 Ot 32 (.fldA 1 1 false (.t 5)),
 ⟨none, none, .store 1 (.t 32) (.t 31)⟩]))
 (.seq (.keep [2, 3, 4, 5, 6, 7, 17, 18] (.ops false [Ot 7 (.mov (.c .nil))]))
 (.seq (.seq (.keep [2, 3, 4, 5, 7, 17, 18, 37, 38, 39] (.ops false [Ot 33 (.fldA 0 1 false (.t 2)),
 Ot 34 (.load 1 false (.t 33)),
 Ot 35 (.mov (.t 6)),
 Ot 36 (.idxA 1 (.t 34) (.t 35)),
 Ot 37 (.load 1 false (.t 36)),
 Ot 38 (.len false (.t 37)),
 Ot 39 (.mov (.c (.int .i64 0)))]))
 (.block 2 (.loop (.seq (.keep [2, 3, 4, 5, 7, 17, 18, 37, 38, 39, 40] (.ops false [Ot 40 (.bin .lss (.t 39) (.t 38))]))
 (.seq (.cond (.t 40) .skip
 (.exit 2))
 (.seq (.block 3 (.seq (.keep [2, 3, 4, 5, 7, 9, 17, 18, 37, 38, 39] (.ops false [Ot 41 (.idxA 2 (.t 37) (.t 39)),
 Ot 42 (.load 2 true (.t 41)),
 Ot 9 (.alloc 2 (.agg [(.bool false), (.sl [])])),
 ⟨none, none, .store 2 (.t 9) (.t 42)⟩]))
 (.keep [2, 3, 4, 5, 7, 17, 18, 37, 38, 39] (.ops false [Ot 43 (.mov (.t 7)),
 Ot 44 (.load 2 true (.t 9)),
 Ot 45 (.load 2 true (.t 3)),
 Ot 46 (.callG zap [(.t 44), (.t 45)]),
 Ot 47 (.new (.bsl 2) [(.t 46)]),
 Ot 48 (.eff (.app 2 32) [(.t 43), (.t 47)]),
 Ot 7 (.mov (.t 48))]))))
 (.keep [2, 3, 4, 5, 7, 17, 18, 37, 38, 39] (.ops false [Ot 49 (.bin .add (.t 39) (.c (.int .i64 1))),
 Ot 39 (.mov (.t 49))]))))))))
 (.gh (.keep [2, 3, 4, 5, 17, 18] (.ops false [Ot 50 (.fldA 0 1 false (.t 5)),
 Ot 51 (.load 1 false (.t 50)),
 Ot 52 (.mov (.t 7)),
 Ot 53 (.new (.bsl 1) [(.t 52)]),
 Ot 54 (.eff (.app 1 24) [(.t 51), (.t 53)]),
 Ot 55 (.fldA 0 1 false (.t 5)),
 ⟨none, none, .store 1 (.t 55) (.t 54)⟩]))))))))
 (.keep [2, 3, 4, 5, 17, 18] (.ops false [Ot 56 (.bin .add (.t 18) (.c (.int .i64 1))),
 Ot 18 (.mov (.t 56))]))))))))
 (.seq (.keep [4] (.ops false [Ot 57 (.load 4 true (.t 5)),
 ⟨none, none, .store 4 (.t 4) (.t 57)⟩]))
 .ret))))
def marg_scaled.res : List RX := [(4, some (4, true))]
theorem marg_scaled.m : mK pg Tryz.f71.ntmps marg_scaled.k (Tryz.f71.body.getD .skip) = true := by kernel_rfl
theorem marg_scaled.mr : mRes pg Tryz.f71.results.toList marg_scaled.res = true := by kernel_rfl
theorem marg_scaled.of {args : List V} {r : V} (hn : args.length = 2) (hW : W pg marg_scaled.k (done marg_scaled.res r) (start args)) : Ret pg zel args r :=
 Ret_of (fn := Tryz.f71) Tryz.func71 rfl (by kernel_rfl) marg_scaled.m marg_scaled.mr (by rw [hn]; exact of_decide_eq_true (by kernel_rfl)) hW
def marg_square.k : K :=
 (.seq (.keep [1, 2] (.ops false [Ot 1 (.boxP (.t 0)),
 Ot 2 (.alloc 4 (.agg [.nil, .nil, (.bool false), (.sl [])]))]))
 (.seq (.keep [1, 2, 3] (.ops true [Ot 9 (.fldA 1 1 false (.t 1)),
 Ot 10 (.load 1 false (.t 9)),
 Ot 11 (.call za0 [(.t 10)]),
 Ot 12 (.fldA 1 1 false (.t 1)),
 Ot 13 (.load 1 false (.t 12)),
 Ot 14 (.call za0 [(.t 13)]),
 Ot 15 (.call zap [(.t 11), (.t 14)]),
 Ot 16 (.build [.nil, .nil, (.bool false), (.sl [])] [(2, 2, (.t 15))]),
 Ot 3 (.alloc 4 (.agg [.nil, .nil, (.bool false), (.sl [])])),
 ⟨none, none, .store 4 (.t 3) (.t 16)⟩]))
 (.seq (.seq (.keep [1, 2, 3, 18, 19, 20] (.ops false [Ot 17 (.fldA 0 1 false (.t 1)),
 Ot 18 (.load 1 false (.t 17)),
 Ot 19 (.len false (.t 18)),
 Ot 20 (.mov (.c (.int .i64 0)))]))
 (.block 0 (.loop (.seq (.keep [1, 2, 3, 18, 19, 20, 21] (.ops false [Ot 21 (.bin .lss (.t 20) (.t 19))]))
 (.seq (.cond (.t 21) .skip
 (.exit 0))
 (.seq (.block 1 (.seq (.keep [1, 2, 3, 5, 18, 19, 20] (.ops false [Ot 22 (.idxA 1 (.t 18) (.t 20)),
 Ot 23 (.load 1 false (.t 22)),
 Ot 5 (.mov (.t 23))]))
 (.seq (.keep [1, 2, 3, 5, 18, 19, 20] (.ops true [Ot 24 (.fldA 1 1 false (.t 3)),
 Ot 25 (.load 1 false (.t 24)),
 Ot 26 (.mov (.t 5)),
 Ot 27 (.call za0 [(.t 26)]),
 Ot 28 (.fldA 1 1 false (.t 1)),
 Ot 29 (.load 1 false (.t 28)),
 Ot 30 (.call za0 [(.t 29)]),
 Ot 31 (.call zap [(.t 27), (.t 30)]),
 Ot 32 (.new (.bsl 2) [(.t 31)]),
 Ot 33 (.eff (.app 2 32) [(.t 25), (.t 32)]),
 Ot 34 (.fldA 1 1 false (.t 3)),
 ⟨none, none, .store 1 (.t 34) (.t 33)⟩]))
 (.seq (.keep [1, 2, 3, 5, 6, 18, 19, 20] (.ops false [Ot 6 (.mov (.c .nil))]))
 (.seq (.seq (.keep [1, 2, 3, 5, 6, 18, 19, 20, 36, 37, 38] (.ops false [Ot 35 (.fldA 0 1 false (.t 1)),
 Ot 36 (.load 1 false (.t 35)),
 Ot 37 (.len false (.t 36)),
 Ot 38 (.mov (.c (.int .i64 0)))]))
 (.block 2 (.loop (.seq (.keep [1, 2, 3, 5, 6, 18, 19, 20, 36, 37, 38, 39] (.ops false [Ot 39 (.bin .lss (.t 38) (.t 37))]))
 (.seq (.cond (.t 39) .skip
 (.exit 2))
 (.seq (.block 3 (.seq (.keep [1, 2, 3, 5, 6, 8, 18, 19, 20, 36, 37, 38] (.ops false [Ot 40 (.idxA 1 (.t 36) (.t 38)),
 Ot 41 (.load 1 false (.t 40)),
 Ot 8 (.mov (.t 41))]))
 (.keep [1, 2, 3, 5, 6, 18, 19, 20, 36, 37, 38] (.ops false [Ot 42 (.mov (.t 6)),
 Ot 43 (.mov (.t 5)),
 Ot 44 (.mov (.t 8)),
 Ot 45 (.bin .mul (.t 43) (.t 44)),
 Ot 46 (.callG za0 [(.t 45)]),
 Ot 47 (.new (.bsl 2) [(.t 46)]),
 Ot 48 (.eff (.app 2 32) [(.t 42), (.t 47)]),
 Ot 6 (.mov (.t 48))]))))
 (.keep [1, 2, 3, 5, 6, 18, 19, 20, 36, 37, 38] (.ops false [Ot 49 (.bin .add (.t 38) (.c (.int .i64 1))),
 Ot 38 (.mov (.t 49))]))))))))
 (.gh (.keep [1, 2, 3, 18, 19, 20] (.ops false [Ot 50 (.fldA 0 1 false (.t 3)),
 Ot 51 (.load 1 false (.t 50)),
 Ot 52 (.mov (.t 6)),
 Ot 53 (.new (.bsl 1) [(.t 52)]),
 Ot 54 (.eff (.app 1 24) [(.t 51), (.t 53)]),
 Ot 55 (.fldA 0 1 false (.t 3)),
 ⟨none, none, .store 1 (.t 55) (.t 54)⟩]))))))))
 (.keep [1, 2, 3, 18, 19, 20] (.ops false [Ot 56 (.bin .add (.t 20) (.c (.int .i64 1))),
 Ot 20 (.mov (.t 56))]))))))))
 (.seq (.keep [2] (.ops false [Ot 57 (.load 4 true (.t 3)),
 ⟨none, none, .store 4 (.t 2) (.t 57)⟩]))
 .ret))))
def marg_square.res : List RX := [(2, some (4, true))]
theorem marg_square.m : mK pg Tryz.f73.ntmps marg_square.k (Tryz.f73.body.getD .skip) = true := by kernel_rfl
theorem marg_square.mr : mRes pg Tryz.f73.results.toList marg_square.res = true := by kernel_rfl
theorem marg_square.of {args : List V} {r : V} (hn : args.length = 1) (hW : W pg marg_square.k (done marg_square.res r) (start args)) : Ret pg n_marg_square args r :=
 Ret_of (fn := Tryz.f73) Tryz.func73 rfl (by kernel_rfl) marg_square.m marg_square.mr (by rw [hn]; exact of_decide_eq_true (by kernel_rfl)) hW
def marg_rounded_1.k : K :=
 (.seq (.keep [1, 2, 3] (.ops false [Ot 2 (.boxP (.t 0)),
 Ot 3 (.alloc 2 (.agg [(.bool false), (.sl [])]))]))
 (.seq (.keep [3, 4] (.ops true [Ot 8 (.load 2 true (.t 2)),
 Ot 9 (.call za0 [(.c (.int .i64 1024))]),
 Ot 10 (.call zap [(.t 8), (.t 9)]),
 Ot 11 (.load 2 true (.t 1)),
 Ot 12 (.call zfi [(.t 10), (.t 11)]),
 Ot 7 (.mov (.t 12)),
 Ot 13 (.ext (.t 7) 0),
 Ot 14 (.ext (.t 7) 1),
 Ot 15 (.ext (.t 7) 2),
 Ot 4 (.alloc 2 (.agg [(.bool false), (.sl [])])),
 Ot 5 (.alloc 2 (.agg [(.bool false), (.sl [])])),
 ⟨none, none, .store 2 (.t 4) (.t 13)⟩,
 ⟨none, none, .store 2 (.t 5) (.t 14)⟩,
 Ot 6 (.mov (.t 15))]))
 (.seq (.keep [3] (.ops false [Ot 16 (.load 2 true (.t 4)),
 ⟨none, none, .store 2 (.t 3) (.t 16)⟩]))
 .ret)))
def marg_rounded_1.res : List RX := [(3, some (2, true))]
theorem marg_rounded_1.m : mK pg Tryz.f131.ntmps marg_rounded_1.k (Tryz.f131.body.getD .skip) = true := by kernel_rfl
theorem marg_rounded_1.mr : mRes pg Tryz.f131.results.toList marg_rounded_1.res = true := by kernel_rfl
theorem marg_rounded_1.of {args : List V} {r : V} (hn : args.length = 2) (hW : W pg marg_rounded_1.k (done marg_rounded_1.res r) (start args)) : Ret pg zcf args r :=
 Ret_of (fn := Tryz.f131) Tryz.func131 rfl (by kernel_rfl) marg_rounded_1.m marg_rounded_1.mr (by rw [hn]; exact of_decide_eq_true (by kernel_rfl)) hW
def marg_touches_1.k : K :=
 (.seq (.keep [0] (.ops false [Ot 2 (.mov (.c (.bool false)))]))
 (.seq (.keep [2] (.ops false [Ot 3 (.mov (.t 0)),
 Ot 4 (.bin .neq (.t 3) (.c (.int .i64 0))),
 Ot 2 (.mov (.t 4))]))
 .ret))
def marg_touches_1.res : List RX := [(2, none)]
theorem marg_touches_1.m : mK pg Tryz.f132.ntmps marg_touches_1.k (Tryz.f132.body.getD .skip) = true := by kernel_rfl
theorem marg_touches_1.mr : mRes pg Tryz.f132.results.toList marg_touches_1.res = true := by kernel_rfl
theorem marg_touches_1.of {args : List V} {r : V} (hn : args.length = 1) (hW : W pg marg_touches_1.k (done marg_touches_1.res r) (start args)) : Ret pg zcz args r :=
 Ret_of (fn := Tryz.f132) Tryz.func132 rfl (by kernel_rfl) marg_touches_1.m marg_touches_1.mr (by rw [hn]; exact of_decide_eq_true (by kernel_rfl)) hW
end Go.Gim

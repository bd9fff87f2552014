import Derived.Test.YtjkjpjneeioeiaaGreatGN
/- Functions' code as data (written by wip/tools/gen.py), and the step to their contracts. -/
set_option maxRecDepth 100000
namespace Go.Gim
open Go.Proofs
def gimbalref16_State.k : K :=
 (.seq (.keep [0] (.ops false [Ot 2 (.mov (.c (.bool false)))]))
 (.seq (.seq (.keep [0, 3] (.ops false [Ot 3 (.mov (.c (.int .i64 0)))]))
 (.block 0 (.loop (.seq (.seq (.keep [0, 3, 7] (.ops false [Ot 4 (.mov (.t 3)),
 Ot 5 (.mov (.t 0)),
 Ot 6 (.len false (.t 5)),
 Ot 7 (.bin .lss (.t 4) (.t 6))]))
 (.cond (.t 7) .skip
 (.exit 0)))
 (.seq (.block 1 (.seq (.keep [0, 3, 14] (.ops false [Ot 10 (.mov (.t 0)),
 Ot 11 (.mov (.t 3)),
 Ot 12 (.idxA 1 (.t 10) (.t 11)),
 Ot 13 (.load 1 false (.t 12)),
 Ot 14 (.callG zby [(.t 13), (.c (.int .i64 (-1000000))), (.c (.int .i64 1000000))])]))
 (.cond (.t 14) (.seq (.keep [2] (.ops false [Ot 2 (.mov (.c (.bool false)))]))
 .ret)
 .skip)))
 (.keep [0, 3] (.ops false [Ot 8 (.mov (.t 3)),
 Ot 9 (.bin .add (.t 8) (.c (.int .i64 1))),
 Ot 3 (.mov (.t 9))])))))))
 (.seq (.keep [2] (.ops false [Ot 2 (.mov (.c (.bool true)))]))
 .ret)))
def gimbalref16_State.res : List RX := [(2, none)]
theorem gimbalref16_State.m : mK pg Tryz.f15.ntmps gimbalref16_State.k (Tryz.f15.body.getD .skip) = true := by kernel_rfl
theorem gimbalref16_State.mr : mRes pg Tryz.f15.results.toList gimbalref16_State.res = true := by kernel_rfl
theorem gimbalref16_State.of {args : List V} {r : V} (hn : args.length = 1) (hW : W pg gimbalref16_State.k (done gimbalref16_State.res r) (start args)) : Ret pg zd7 args r :=
 Ret_of (fn := Tryz.f15) Tryz.func15 rfl (by kernel_rfl) gimbalref16_State.m gimbalref16_State.mr (by rw [hn]; exact of_decide_eq_true (by kernel_rfl)) hW
def gimbalref16_out.k : K :=
 (.seq (.keep [0, 1, 2] (.ops false [Ot 6 (.mov (.c (.bool false)))]))
 (.seq (.keep [6] (.ops false [Ot 7 (.mov (.t 0)),
 Ot 8 (.mov (.t 1)),
 Ot 9 (.bin .lss (.t 7) (.t 8)),
 Ot 10 (.mov (.t 9)),
 ⟨(some 11), (some (10, false)), .mov (.t 0)⟩,
 ⟨(some 12), (some (10, false)), .mov (.t 2)⟩,
 ⟨(some 13), (some (10, false)), .bin .gtr (.t 11) (.t 12)⟩,
 Ot 14 (.pick (.t 10) (.c (.bool true)) (.t 13)),
 Ot 6 (.mov (.t 14))]))
 .ret))
def gimbalref16_out.res : List RX := [(6, none)]
theorem gimbalref16_out.m : mK pg Tryz.f70.ntmps gimbalref16_out.k (Tryz.f70.body.getD .skip) = true := by kernel_rfl
theorem gimbalref16_out.mr : mRes pg Tryz.f70.results.toList gimbalref16_out.res = true := by kernel_rfl
theorem gimbalref16_out.of {args : List V} {r : V} (hn : args.length = 3) (hW : W pg gimbalref16_out.k (done gimbalref16_out.res r) (start args)) : Ret pg zby args r :=
 Ret_of (fn := Tryz.f70) Tryz.func70 rfl (by kernel_rfl) gimbalref16_out.m gimbalref16_out.mr (by rw [hn]; exact of_decide_eq_true (by kernel_rfl)) hW
def gimbalref16_Same.k : K :=
 (.seq (.keep [2, 3] (.ops false [Ot 2 (.boxP (.t 0)),
 Ot 3 (.boxP (.t 1)),
 Ot 4 (.mov (.c (.bool false)))]))
 (.seq (.seq (.keep [2, 3, 33] (.ops false [Ot 6 (.fldA 0 1 false (.t 2)),
 Ot 7 (.load 1 false (.t 6)),
 Ot 8 (.len false (.t 7)),
 Ot 9 (.fldA 0 1 false (.t 3)),
 Ot 10 (.load 1 false (.t 9)),
 Ot 11 (.len false (.t 10)),
 Ot 12 (.bin .neq (.t 8) (.t 11)),
 Ot 13 (.mov (.t 12)),
 ⟨(some 14), (some (13, false)), .fldA 1 1 false (.t 2)⟩,
 ⟨(some 15), (some (13, false)), .load 1 false (.t 14)⟩,
 ⟨(some 16), (some (13, false)), .fldA 1 1 false (.t 3)⟩,
 ⟨(some 17), (some (13, false)), .load 1 false (.t 16)⟩,
 ⟨(some 18), (some (13, false)), .bin .neq (.t 15) (.t 17)⟩,
 Ot 19 (.pick (.t 13) (.c (.bool true)) (.t 18)),
 Ot 20 (.mov (.t 19)),
 ⟨(some 21), (some (20, false)), .fldA 2 1 false (.t 2)⟩,
 ⟨(some 22), (some (20, false)), .load 1 false (.t 21)⟩,
 ⟨(some 23), (some (20, false)), .fldA 2 1 false (.t 3)⟩,
 ⟨(some 24), (some (20, false)), .load 1 false (.t 23)⟩,
 ⟨(some 25), (some (20, false)), .bin .neq (.t 22) (.t 24)⟩,
 Ot 26 (.pick (.t 20) (.c (.bool true)) (.t 25)),
 Ot 27 (.mov (.t 26)),
 ⟨(some 28), (some (27, false)), .fldA 3 1 false (.t 2)⟩,
 ⟨(some 29), (some (27, false)), .load 1 false (.t 28)⟩,
 ⟨(some 30), (some (27, false)), .fldA 3 1 false (.t 3)⟩,
 ⟨(some 31), (some (27, false)), .load 1 false (.t 30)⟩,
 ⟨(some 32), (some (27, false)), .bin .neq (.t 29) (.t 31)⟩,
 Ot 33 (.pick (.t 27) (.c (.bool true)) (.t 32))]))
 (.cond (.t 33) (.seq (.keep [4] (.ops false [Ot 4 (.mov (.c (.bool false)))]))
 .ret)
 .skip))
 (.seq (.seq (.keep [2, 3, 5] (.ops false [Ot 5 (.mov (.c (.int .i64 0)))]))
 (.block 0 (.loop (.seq (.seq (.keep [2, 3, 5, 38] (.ops false [Ot 34 (.mov (.t 5)),
 Ot 35 (.fldA 0 1 false (.t 2)),
 Ot 36 (.load 1 false (.t 35)),
 Ot 37 (.len false (.t 36)),
 Ot 38 (.bin .lss (.t 34) (.t 37))]))
 (.cond (.t 38) .skip
 (.exit 0)))
 (.seq (.block 1 (.seq (.keep [2, 3, 5, 51] (.ops true [Ot 41 (.fldA 0 1 false (.t 2)),
 Ot 42 (.load 1 false (.t 41)),
 Ot 43 (.mov (.t 5)),
 Ot 44 (.idxA 1 (.t 42) (.t 43)),
 Ot 45 (.load 1 false (.t 44)),
 Ot 46 (.fldA 0 1 false (.t 3)),
 Ot 47 (.load 1 false (.t 46)),
 Ot 48 (.mov (.t 5)),
 Ot 49 (.idxA 1 (.t 47) (.t 48)),
 Ot 50 (.load 1 false (.t 49)),
 Ot 51 (.bin .neq (.t 45) (.t 50))]))
 (.cond (.t 51) (.seq (.keep [4] (.ops false [Ot 4 (.mov (.c (.bool false)))]))
 .ret)
 .skip)))
 (.keep [2, 3, 5] (.ops false [Ot 39 (.mov (.t 5)),
 Ot 40 (.bin .add (.t 39) (.c (.int .i64 1))),
 Ot 5 (.mov (.t 40))])))))))
 (.seq (.keep [4] (.ops false [Ot 4 (.mov (.c (.bool true)))]))
 .ret))))
def gimbalref16_Same.res : List RX := [(4, none)]
theorem gimbalref16_Same.m : mK pg Tryz.f79.ntmps gimbalref16_Same.k (Tryz.f79.body.getD .skip) = true := by kernel_rfl
theorem gimbalref16_Same.mr : mRes pg Tryz.f79.results.toList gimbalref16_Same.res = true := by kernel_rfl
theorem gimbalref16_Same.of {args : List V} {r : V} (hn : args.length = 2) (hW : W pg gimbalref16_Same.k (done gimbalref16_Same.res r) (start args)) : Ret pg zes args r :=
 Ret_of (fn := Tryz.f79) Tryz.func79 rfl (by kernel_rfl) gimbalref16_Same.m gimbalref16_Same.mr (by rw [hn]; exact of_decide_eq_true (by kernel_rfl)) hW
def gimbalref16_Residual.k : K :=
 (.seq (.keep [1, 2] (.ops false [Ot 2 (.boxP (.t 0)),
 Ot 4 (.mov (.c (.int .i64 0)))]))
 (.seq (.keep [1, 2, 5] (.ops false [Ot 12 (.fldA 1 1 false (.t 2)),
 Ot 13 (.load 1 false (.t 12)),
 Ot 14 (.un .neg (.t 13)),
 Ot 15 (.callG zax [(.t 14)]),
 Ot 5 (.alloc 2 (.agg [(.bool false), (.sl [])])),
 ⟨none, none, .store 2 (.t 5) (.t 15)⟩]))
 (.seq (.seq (.keep [1, 2, 5, 6] (.ops false [Ot 6 (.mov (.c (.int .i64 0)))]))
 (.block 0 (.loop (.seq (.seq (.keep [1, 2, 5, 6, 19] (.ops false [Ot 16 (.mov (.t 6)),
 Ot 17 (.mov (.t 1)),
 Ot 18 (.len false (.t 17)),
 Ot 19 (.bin .lss (.t 16) (.t 18))]))
 (.cond (.t 19) .skip
 (.exit 0)))
 (.seq (.block 1 (.keep [1, 2, 5, 6] (.ops true [Ot 22 (.load 2 true (.t 5)),
 Ot 23 (.fldA 0 1 false (.t 2)),
 Ot 24 (.load 1 false (.t 23)),
 Ot 25 (.mov (.t 6)),
 Ot 26 (.idxA 1 (.t 24) (.t 25)),
 Ot 27 (.load 1 false (.t 26)),
 Ot 28 (.call zax [(.t 27)]),
 Ot 29 (.mov (.t 1)),
 Ot 30 (.mov (.t 6)),
 Ot 31 (.idxA 1 (.t 29) (.t 30)),
 Ot 32 (.load 1 false (.t 31)),
 Ot 33 (.call zax [(.t 32)]),
 Ot 34 (.call zdm [(.t 28), (.t 33)]),
 Ot 35 (.call zdn [(.t 22), (.t 34)]),
 ⟨none, none, .store 2 (.t 5) (.t 35)⟩])))
 (.keep [1, 2, 5, 6] (.ops false [Ot 20 (.mov (.t 6)),
 Ot 21 (.bin .add (.t 20) (.c (.int .i64 1))),
 Ot 6 (.mov (.t 21))])))))))
 (.seq (.keep [5, 7] (.ops false [Ot 36 (.callG zax [(.c (.int .i64 1000000000))]),
 Ot 7 (.alloc 2 (.agg [(.bool false), (.sl [])])),
 ⟨none, none, .store 2 (.t 7) (.t 36)⟩]))
 (.seq (.keep [5, 7, 8] (.ops false [Ot 37 (.load 2 true (.t 5)),
 Ot 38 (.load 2 true (.t 7)),
 Ot 39 (.callG zbo [(.t 37), (.t 38)]),
 Ot 8 (.mov (.t 39))]))
 (.seq (.keep [5, 8, 9] (.ops true [Ot 40 (.load 2 true (.t 5)),
 Ot 41 (.load 2 true (.t 7)),
 Ot 42 (.call zcx [(.t 41)]),
 Ot 43 (.call zbo [(.t 40), (.t 42)]),
 Ot 9 (.mov (.t 43))]))
 (.seq (.seq (.keep [5, 9, 45] (.ops false [Ot 44 (.mov (.t 8)),
 Ot 45 (.bin .gtr (.t 44) (.c (.int .i64 0)))]))
 (.cond (.t 45) (.seq (.keep [4] (.ops false [Ot 4 (.mov (.c (.int .i64 1000000000)))]))
 .ret)
 .skip))
 (.seq (.seq (.keep [5, 47] (.ops false [Ot 46 (.mov (.t 9)),
 Ot 47 (.bin .lss (.t 46) (.c (.int .i64 0)))]))
 (.cond (.t 47) (.seq (.keep [4] (.ops false [Ot 4 (.mov (.c (.int .i64 (-1000000000))))]))
 .ret)
 .skip))
 (.seq (.keep [10] (.ops false [Ot 49 (.load 2 true (.t 5)),
 Ot 50 (.callG zcw [(.t 49)]),
 Ot 48 (.mov (.t 50)),
 Ot 51 (.ext (.t 48) 0),
 Ot 52 (.ext (.t 48) 1),
 Ot 10 (.mov (.t 51)),
 Ot 11 (.mov (.t 52))]))
 (.seq (.keep [4] (.ops false [Ot 53 (.mov (.t 10)),
 Ot 4 (.mov (.t 53))]))
 .ret))))))))))
def gimbalref16_Residual.res : List RX := [(4, none)]
theorem gimbalref16_Residual.m : mK pg Tryz.f83.ntmps gimbalref16_Residual.k (Tryz.f83.body.getD .skip) = true := by kernel_rfl
theorem gimbalref16_Residual.mr : mRes pg Tryz.f83.results.toList gimbalref16_Residual.res = true := by kernel_rfl
theorem gimbalref16_Residual.of {args : List V} {r : V} (hn : args.length = 2) (hW : W pg gimbalref16_Residual.k (done gimbalref16_Residual.res r) (start args)) : Ret pg zc5 args r :=
 Ret_of (fn := Tryz.f83) Tryz.func83 rfl (by kernel_rfl) gimbalref16_Residual.m gimbalref16_Residual.mr (by rw [hn]; exact of_decide_eq_true (by kernel_rfl)) hW
def gimbalref16_Right.k : K :=
 (.seq (.keep [1, 2] (.ops false [Ot 2 (.boxP (.t 0)),
 Ot 4 (.mov (.c (.bool false)))]))
 (.seq (.seq (.keep [1, 2, 29] (.ops false [Ot 6 (.fldA 0 1 false (.t 2)),
 Ot 7 (.load 1 false (.t 6)),
 Ot 8 (.len false (.t 7)),
 Ot 9 (.mov (.t 1)),
 Ot 10 (.bin .neq (.t 8) (.t 9)),
 Ot 11 (.mov (.t 10)),
 ⟨(some 12), (some (11, false)), .mov (.t 1)⟩,
 ⟨(some 13), (some (11, false)), .bin .gtr (.t 12) (.c (.int .i64 11))⟩,
 Ot 14 (.pick (.t 11) (.c (.bool true)) (.t 13)),
 Ot 15 (.mov (.t 14)),
 ⟨(some 16), (some (15, false)), .fldA 1 1 false (.t 2)⟩,
 ⟨(some 17), (some (15, false)), .load 1 false (.t 16)⟩,
 ⟨(some 18), (some (15, false)), .callG zby [(.t 17), (.c (.int .i64 (-1000000000))), (.c (.int .i64 1000000000))]⟩,
 Ot 19 (.pick (.t 15) (.c (.bool true)) (.t 18)),
 Ot 20 (.mov (.t 19)),
 ⟨(some 21), (some (20, false)), .fldA 2 1 false (.t 2)⟩,
 ⟨(some 22), (some (20, false)), .load 1 false (.t 21)⟩,
 ⟨(some 23), (some (20, false)), .callG zby [(.t 22), (.c (.int .i64 1)), (.c (.int .i64 32768))]⟩,
 Ot 24 (.pick (.t 20) (.c (.bool true)) (.t 23)),
 Ot 25 (.mov (.t 24)),
 ⟨(some 26), (some (25, false)), .fldA 3 1 false (.t 2)⟩,
 ⟨(some 27), (some (25, false)), .load 1 false (.t 26)⟩,
 ⟨(some 28), (some (25, false)), .callG zby [(.t 27), (.c (.int .i64 1)), (.c (.int .i64 100))]⟩,
 Ot 29 (.pick (.t 25) (.c (.bool true)) (.t 28))]))
 (.cond (.t 29) (.seq (.keep [4] (.ops false [Ot 4 (.mov (.c (.bool false)))]))
 .ret)
 .skip))
 (.seq (.seq (.keep [1, 2, 5] (.ops false [Ot 5 (.mov (.c (.int .i64 0)))]))
 (.block 0 (.loop (.seq (.seq (.keep [1, 2, 5, 32] (.ops false [Ot 30 (.mov (.t 5)),
 Ot 31 (.mov (.t 1)),
 Ot 32 (.bin .lss (.t 30) (.t 31))]))
 (.cond (.t 32) .skip
 (.exit 0)))
 (.seq (.block 1 (.seq (.keep [1, 2, 5, 40] (.ops false [Ot 35 (.fldA 0 1 false (.t 2)),
 Ot 36 (.load 1 false (.t 35)),
 Ot 37 (.mov (.t 5)),
 Ot 38 (.idxA 1 (.t 36) (.t 37)),
 Ot 39 (.load 1 false (.t 38)),
 Ot 40 (.callG zby [(.t 39), (.c (.int .i64 (-1000))), (.c (.int .i64 1000))])]))
 (.cond (.t 40) (.seq (.keep [4] (.ops false [Ot 4 (.mov (.c (.bool false)))]))
 .ret)
 .skip)))
 (.keep [1, 2, 5] (.ops false [Ot 33 (.mov (.t 5)),
 Ot 34 (.bin .add (.t 33) (.c (.int .i64 1))),
 Ot 5 (.mov (.t 34))])))))))
 (.seq (.keep [4] (.ops false [Ot 4 (.mov (.c (.bool true)))]))
 .ret))))
def gimbalref16_Right.res : List RX := [(4, none)]
theorem gimbalref16_Right.m : mK pg Tryz.f126.ntmps gimbalref16_Right.k (Tryz.f126.body.getD .skip) = true := by kernel_rfl
theorem gimbalref16_Right.mr : mRes pg Tryz.f126.results.toList gimbalref16_Right.res = true := by kernel_rfl
theorem gimbalref16_Right.of {args : List V} {r : V} (hn : args.length = 2) (hW : W pg gimbalref16_Right.k (done gimbalref16_Right.res r) (start args)) : Ret pg zd8 args r :=
 Ret_of (fn := Tryz.f126) Tryz.func126 rfl (by kernel_rfl) gimbalref16_Right.m gimbalref16_Right.mr (by rw [hn]; exact of_decide_eq_true (by kernel_rfl)) hW
def gimbalref17_Share.k : K :=
 (.seq (.keep [1, 2] (.ops false [Ot 2 (.boxP (.t 0)),
 Ot 4 (.mov (.c (.int .i64 0)))]))
 (.seq (.keep [2, 5] (.ops false [Ot 7 (.load 4 true (.t 2)),
 Ot 8 (.mov (.t 1)),
 Ot 9 (.callG zc5 [(.t 7), (.t 8)]),
 Ot 5 (.mov (.t 9))]))
 (.seq (.seq (.keep [2, 5, 11] (.ops false [Ot 10 (.mov (.t 5)),
 Ot 11 (.bin .lss (.t 10) (.c (.int .i64 0)))]))
 (.cond (.t 11) (.keep [2, 5] (.ops false [Ot 12 (.mov (.t 5)),
 Ot 13 (.un .neg (.t 12)),
 Ot 5 (.mov (.t 13))]))
 .skip))
 (.seq (.seq (.keep [2, 5, 17] (.ops false [Ot 14 (.mov (.t 5)),
 Ot 15 (.fldA 2 1 false (.t 2)),
 Ot 16 (.load 1 false (.t 15)),
 Ot 17 (.bin .leq (.t 14) (.t 16))]))
 (.cond (.t 17) (.seq (.keep [4] (.ops false [Ot 4 (.mov (.c (.int .i64 1024)))]))
 .ret)
 .skip))
 (.seq (.keep [6] (.ops false [Ot 18 (.fldA 2 1 false (.t 2)),
 Ot 19 (.load 1 false (.t 18)),
 Ot 20 (.bin .mul (.c (.int .i64 1024)) (.t 19)),
 Ot 21 (.mov (.t 5)),
 Ot 22 (.bin .quo (.t 20) (.t 21)),
 Ot 6 (.mov (.t 22))]))
 (.seq (.seq (.keep [6, 24] (.ops false [Ot 23 (.mov (.t 6)),
 Ot 24 (.bin .lss (.t 23) (.c (.int .i64 1)))]))
 (.cond (.t 24) (.seq (.keep [4] (.ops false [Ot 4 (.mov (.c (.int .i64 1)))]))
 .ret)
 .skip))
 (.seq (.keep [4] (.ops false [Ot 25 (.mov (.t 6)),
 Ot 4 (.mov (.t 25))]))
 .ret)))))))
def gimbalref17_Share.res : List RX := [(4, none)]
theorem gimbalref17_Share.m : mK pg Tryz.f28.ntmps gimbalref17_Share.k (Tryz.f28.body.getD .skip) = true := by kernel_rfl
theorem gimbalref17_Share.mr : mRes pg Tryz.f28.results.toList gimbalref17_Share.res = true := by kernel_rfl
theorem gimbalref17_Share.of {args : List V} {r : V} (hn : args.length = 2) (hW : W pg gimbalref17_Share.k (done gimbalref17_Share.res r) (start args)) : Ret pg zd6 args r :=
 Ret_of (fn := Tryz.f28) Tryz.func28 rfl (by kernel_rfl) gimbalref17_Share.m gimbalref17_Share.mr (by rw [hn]; exact of_decide_eq_true (by kernel_rfl)) hW
def gimbalref17_New.k : K :=
 (.seq (.keep [0, 1, 4] (.ops false [Ot 4 (.alloc 8 (.agg [(.int .i64 0), .nil, .nil, .nil, (.bool false), (.sl []), (.bool false), (.sl [])])),
 Ot 5 (.mov (.c (.int .i64 0)))]))
 (.seq (.seq (.keep [0, 1, 4, 15] (.ops false [Ot 10 (.mov (.t 0)),
 Ot 11 (.bin .lss (.t 10) (.c (.int .i64 1))),
 Ot 12 (.mov (.t 11)),
 ⟨(some 13), (some (12, false)), .mov (.t 0)⟩,
 ⟨(some 14), (some (12, false)), .bin .gtr (.t 13) (.c (.int .i64 11))⟩,
 Ot 15 (.pick (.t 12) (.c (.bool true)) (.t 14))]))
 (.cond (.t 15) (.seq (.keep [4, 5] (.ops false [Ot 16 (.build [(.int .i64 0), .nil, .nil, .nil, (.bool false), (.sl []), (.bool false), (.sl [])] []),
 ⟨none, none, .store 8 (.t 4) (.t 16)⟩,
 Ot 5 (.mov (.c (.int .i64 1)))]))
 .ret)
 .skip))
 (.seq (.seq (.keep [0, 1, 4, 19] (.ops false [Ot 17 (.mov (.t 1)),
 Ot 18 (.len false (.t 17)),
 Ot 19 (.bin .gtr (.t 18) (.c (.int .i64 60)))]))
 (.cond (.t 19) (.seq (.keep [4, 5] (.ops false [Ot 20 (.build [(.int .i64 0), .nil, .nil, .nil, (.bool false), (.sl []), (.bool false), (.sl [])] []),
 ⟨none, none, .store 8 (.t 4) (.t 20)⟩,
 Ot 5 (.mov (.c (.int .i64 3)))]))
 .ret)
 .skip))
 (.seq (.seq (.keep [0, 1, 4, 6] (.ops false [Ot 6 (.mov (.c (.int .i64 0)))]))
 (.block 0 (.loop (.seq (.seq (.keep [0, 1, 4, 6, 24] (.ops false [Ot 21 (.mov (.t 6)),
 Ot 22 (.mov (.t 1)),
 Ot 23 (.len false (.t 22)),
 Ot 24 (.bin .lss (.t 21) (.t 23))]))
 (.cond (.t 24) .skip
 (.exit 0)))
 (.seq (.block 1 (.seq (.keep [0, 1, 4, 6, 7] (.ops false [Ot 27 (.mov (.t 1)),
 Ot 28 (.mov (.t 6)),
 Ot 29 (.idxA 4 (.t 27) (.t 28)),
 Ot 30 (.load 4 true (.t 29)),
 Ot 31 (.mov (.t 0)),
 Ot 32 (.callG zd8 [(.t 30), (.t 31)]),
 Ot 7 (.mov (.t 32))]))
 (.seq (.keep [0, 1, 4, 6, 34] (.ops false [Ot 33 (.mov (.t 7)),
 Ot 34 (.un .not (.t 33))]))
 (.cond (.t 34) (.seq (.keep [4, 5] (.ops false [Ot 35 (.build [(.int .i64 0), .nil, .nil, .nil, (.bool false), (.sl []), (.bool false), (.sl [])] []),
 ⟨none, none, .store 8 (.t 4) (.t 35)⟩,
 Ot 5 (.mov (.c (.int .i64 160)))]))
 .ret)
 .skip))))
 (.keep [0, 1, 4, 6] (.ops false [Ot 25 (.mov (.t 6)),
 Ot 26 (.bin .add (.t 25) (.c (.int .i64 1))),
 Ot 6 (.mov (.t 26))])))))))
 (.seq (.keep [0, 1, 4, 8] (.ops false [Ot 36 (.mov (.t 0)),
 Ot 37 (.new (.mks 1 24 .nil) [(.t 36), (.t 36)]),
 Ot 8 (.mov (.t 37))]))
 (.seq (.seq (.keep [0, 1, 4, 8, 9] (.ops false [Ot 9 (.mov (.c (.int .i64 0)))]))
 (.block 2 (.loop (.seq (.seq (.keep [0, 1, 4, 8, 9, 40] (.ops false [Ot 38 (.mov (.t 9)),
 Ot 39 (.mov (.t 0)),
 Ot 40 (.bin .lss (.t 38) (.t 39))]))
 (.cond (.t 40) .skip
 (.exit 2)))
 (.seq (.block 3 (.keep [0, 1, 4, 8, 9] (.ops false [Ot 43 (.mov (.t 8)),
 Ot 44 (.mov (.t 9)),
 Ot 45 (.mov (.t 0)),
 Ot 46 (.new (.mks 1 8 (.int .i64 0)) [(.t 45), (.t 45)]),
 Ot 47 (.idxA 1 (.t 43) (.t 44)),
 ⟨none, none, .store 1 (.t 47) (.t 46)⟩])))
 (.keep [0, 1, 4, 8, 9] (.ops false [Ot 41 (.mov (.t 9)),
 Ot 42 (.bin .add (.t 41) (.c (.int .i64 1))),
 Ot 9 (.mov (.t 42))])))))))
 (.seq (.keep [4, 5] (.ops false [Ot 48 (.mov (.t 0)),
 Ot 49 (.mov (.t 1)),
 Ot 50 (.mov (.t 8)),
 Ot 51 (.mov (.t 0)),
 Ot 52 (.new (.mks 1 8 (.int .i64 0)) [(.t 51), (.t 51)]),
 Ot 53 (.callG zd0 [(.t 50), (.t 52), (.c (.int .i64 0))]),
 Ot 54 (.callG zax [(.c (.int .i64 1))]),
 Ot 55 (.build [(.int .i64 0), .nil, .nil, .nil, (.bool false), (.sl []), (.bool false), (.sl [])] [(0, 1, (.t 48)), (1, 1, (.t 49)), (2, 4, (.t 53)), (6, 2, (.t 54))]),
 ⟨none, none, .store 8 (.t 4) (.t 55)⟩,
 Ot 5 (.mov (.c (.int .i64 0)))]))
 .ret)))))))
def gimbalref17_New.res : List RX := [(4, some (8, true)), (5, none)]
theorem gimbalref17_New.m : mK pg Tryz.f54.ntmps gimbalref17_New.k (Tryz.f54.body.getD .skip) = true := by kernel_rfl
theorem gimbalref17_New.mr : mRes pg Tryz.f54.results.toList gimbalref17_New.res = true := by kernel_rfl
theorem gimbalref17_New.of {args : List V} {r : V} (hn : args.length = 2) (hW : W pg gimbalref17_New.k (done gimbalref17_New.res r) (start args)) : Ret pg zfa args r :=
 Ret_of (fn := Tryz.f54) Tryz.func54 rfl (by kernel_rfl) gimbalref17_New.m gimbalref17_New.mr (by rw [hn]; exact of_decide_eq_true (by kernel_rfl)) hW
def gimbalref07_Of.k : K :=
 (.seq (.keep [0] (.ops false [Ot 2 (.mov (.c .nil))]))
 (.seq (.keep [0, 3] (.ops false [Ot 3 (.mov (.c .nil))]))
 (.seq (.seq (.keep [0, 3, 4] (.ops false [Ot 4 (.mov (.c (.int .i64 0)))]))
 (.block 0 (.loop (.seq (.seq (.keep [0, 3, 4, 10] (.ops false [Ot 7 (.mov (.t 4)),
 Ot 8 (.mov (.t 0)),
 Ot 9 (.len false (.t 8)),
 Ot 10 (.bin .lss (.t 7) (.t 9))]))
 (.cond (.t 10) .skip
 (.exit 0)))
 (.seq (.block 1 (.seq (.keep [0, 3, 4, 5] (.ops false [Ot 5 (.mov (.c .nil))]))
 (.seq (.seq (.keep [0, 3, 4, 5, 6] (.ops false [Ot 6 (.mov (.c (.int .i64 0)))]))
 (.block 2 (.loop (.seq (.seq (.keep [0, 3, 4, 5, 6, 19] (.ops false [Ot 13 (.mov (.t 6)),
 Ot 14 (.mov (.t 0)),
 Ot 15 (.mov (.t 4)),
 Ot 16 (.idxA 1 (.t 14) (.t 15)),
 Ot 17 (.load 1 false (.t 16)),
 Ot 18 (.len false (.t 17)),
 Ot 19 (.bin .lss (.t 13) (.t 18))]))
 (.cond (.t 19) .skip
 (.exit 2)))
 (.seq (.block 3 (.keep [0, 3, 4, 5, 6] (.ops false [Ot 22 (.mov (.t 5)),
 Ot 23 (.mov (.t 0)),
 Ot 24 (.mov (.t 4)),
 Ot 25 (.idxA 1 (.t 23) (.t 24)),
 Ot 26 (.load 1 false (.t 25)),
 Ot 27 (.mov (.t 6)),
 Ot 28 (.idxA 1 (.t 26) (.t 27)),
 Ot 29 (.load 1 false (.t 28)),
 Ot 30 (.callG zax [(.t 29)]),
 Ot 31 (.new (.bsl 2) [(.t 30)]),
 Ot 32 (.eff (.app 2 32) [(.t 22), (.t 31)]),
 Ot 5 (.mov (.t 32))])))
 (.keep [0, 3, 4, 5, 6] (.ops false [Ot 20 (.mov (.t 6)),
 Ot 21 (.bin .add (.t 20) (.c (.int .i64 1))),
 Ot 6 (.mov (.t 21))])))))))
 (.gh (.keep [0, 3, 4] (.ops false [Ot 33 (.mov (.t 3)),
 Ot 34 (.mov (.t 5)),
 Ot 35 (.new (.bsl 1) [(.t 34)]),
 Ot 36 (.eff (.app 1 24) [(.t 33), (.t 35)]),
 Ot 3 (.mov (.t 36))]))))))
 (.keep [0, 3, 4] (.ops false [Ot 11 (.mov (.t 4)),
 Ot 12 (.bin .add (.t 11) (.c (.int .i64 1))),
 Ot 4 (.mov (.t 12))])))))))
 (.seq (.keep [2] (.ops false [Ot 37 (.mov (.t 3)),
 Ot 2 (.mov (.t 37))]))
 .ret))))
def gimbalref07_Of.res : List RX := [(2, none)]
theorem gimbalref07_Of.m : mK pg Tryz.f127.ntmps gimbalref07_Of.k (Tryz.f127.body.getD .skip) = true := by kernel_rfl
theorem gimbalref07_Of.mr : mRes pg Tryz.f127.results.toList gimbalref07_Of.res = true := by kernel_rfl
theorem gimbalref07_Of.of {args : List V} {r : V} (hn : args.length = 1) (hW : W pg gimbalref07_Of.k (done gimbalref07_Of.res r) (start args)) : Ret pg zf0 args r :=
 Ret_of (fn := Tryz.f127) Tryz.func127 rfl (by kernel_rfl) gimbalref07_Of.m gimbalref07_Of.mr (by rw [hn]; exact of_decide_eq_true (by kernel_rfl)) hW
def gimbalref08_Of.k : K :=
 (.seq (.keep [0, 1, 2, 6] (.ops false [Ot 6 (.alloc 4 (.agg [.nil, .nil, (.bool false), (.sl [])]))]))
 (.seq (.keep [1, 6, 7] (.ops false [Ot 9 (.mov (.t 0)),
 Ot 10 (.callG zf0 [(.t 9)]),
 Ot 11 (.mov (.t 2)),
 Ot 12 (.callG zax [(.t 11)]),
 Ot 13 (.build [.nil, .nil, (.bool false), (.sl [])] [(0, 1, (.t 10)), (2, 2, (.t 12))]),
 Ot 7 (.alloc 4 (.agg [.nil, .nil, (.bool false), (.sl [])])),
 ⟨none, none, .store 4 (.t 7) (.t 13)⟩]))
 (.seq (.seq (.keep [1, 6, 7, 8] (.ops false [Ot 8 (.mov (.c (.int .i64 0)))]))
 (.block 0 (.loop (.seq (.seq (.keep [1, 6, 7, 8, 17] (.ops false [Ot 14 (.mov (.t 8)),
 Ot 15 (.mov (.t 1)),
 Ot 16 (.len false (.t 15)),
 Ot 17 (.bin .lss (.t 14) (.t 16))]))
 (.cond (.t 17) .skip
 (.exit 0)))
 (.seq (.block 1 (.keep [1, 6, 7, 8] (.ops true [Ot 20 (.fldA 1 1 false (.t 7)),
 Ot 21 (.load 1 false (.t 20)),
 Ot 22 (.mov (.t 1)),
 Ot 23 (.mov (.t 8)),
 Ot 24 (.idxA 1 (.t 22) (.t 23)),
 Ot 25 (.load 1 false (.t 24)),
 Ot 26 (.call zax [(.t 25)]),
 Ot 27 (.new (.bsl 2) [(.t 26)]),
 Ot 28 (.eff (.app 2 32) [(.t 21), (.t 27)]),
 Ot 29 (.fldA 1 1 false (.t 7)),
 ⟨none, none, .store 1 (.t 29) (.t 28)⟩])))
 (.keep [1, 6, 7, 8] (.ops false [Ot 18 (.mov (.t 8)),
 Ot 19 (.bin .add (.t 18) (.c (.int .i64 1))),
 Ot 8 (.mov (.t 19))])))))))
 (.seq (.keep [6] (.ops false [Ot 30 (.load 4 true (.t 7)),
 ⟨none, none, .store 4 (.t 6) (.t 30)⟩]))
 .ret))))
def gimbalref08_Of.res : List RX := [(6, some (4, true))]
theorem gimbalref08_Of.m : mK pg Tryz.f57.ntmps gimbalref08_Of.k (Tryz.f57.body.getD .skip) = true := by kernel_rfl
theorem gimbalref08_Of.mr : mRes pg Tryz.f57.results.toList gimbalref08_Of.res = true := by kernel_rfl
theorem gimbalref08_Of.of {args : List V} {r : V} (hn : args.length = 3) (hW : W pg gimbalref08_Of.k (done gimbalref08_Of.res r) (start args)) : Ret pg zd0 args r :=
 Ret_of (fn := Tryz.f57) Tryz.func57 rfl (by kernel_rfl) gimbalref08_Of.m gimbalref08_Of.mr (by rw [hn]; exact of_decide_eq_true (by kernel_rfl)) hW
end Go.Gim

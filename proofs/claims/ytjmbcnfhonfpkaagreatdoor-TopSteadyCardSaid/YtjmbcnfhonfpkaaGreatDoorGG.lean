import Derived.Test.YtjmbcnfhonfpkaaGreatDoorGN
/- Functions' code as data (written by wip/tools/gen.py), and the step to their contracts. -/
set_option maxRecDepth 100000
namespace Go.Gim
open Go.Proofs
def graph_New.k : K :=
 (.seq (kp [1,2,4] [Ot 2 (.boxP (.t 0)),
 Ot 4 (.alloc 8 (.agg [(.int .i64 0),.nil,.nil,.nil,(.bool false),(.sl []),(.bool false),(.sl [])])),
 Oc 5 0])
 (.seq (.block 0 (.seq (kp [1,2,4,7] [Ol 8 1 2,
 Ot 9 (.bin .lss (.t 8) (ci 1)),
 Om 10 9,
 Og 11 10 (.load 1 false (.t 2)),
 Og 12 10 (.bin .gtr (.t 11) (ci 11)),
 Ot 13 (.pick (.t 10) (.c (.bool true)) (.t 12)),
 Om 7 13])
 (.cond (.t 7) (.seq (kp [4,5] [Ot 14 (.build [(.int .i64 0),.nil,.nil,.nil,(.bool false),(.sl []),(.bool false),(.sl [])] []),
 Oy 8 4 14,
 Oc 5 1])
 .ret)
 (.seq (kp [1,2,4,15] [Om 16 1,
 On 17 16,
 Ot 18 (.bin .gtr (.t 17) (ci 60)),
 Om 15 18])
 (.cond (.t 15) (.seq (kp [4,5] [Ot 19 (.build [(.int .i64 0),.nil,.nil,.nil,(.bool false),(.sl []),(.bool false),(.sl [])] []),
 Oy 8 4 19,
 Oc 5 3])
 .ret)
 (.seq (kp [1,2,4,20] [Om 21 1,
 Ot 22 (.mkFn zfh [.t 2]),
 Ot 23 (.callG zbj [.t 21,.t 22]),
 Om 20 23])
 (.cond (.t 20) (.seq (kp [4,5] [Ot 24 (.build [(.int .i64 0),.nil,.nil,.nil,(.bool false),(.sl []),(.bool false),(.sl [])] []),
 Oy 8 4 24,
 Oc 5 160])
 .ret)
 .skip)))))))
 (.seq (kd [2,4,6] [Ol 25 1 2,
 Om 26 1,
 Ot 27 (.call zav [ci 1]),
 Ot 28 (.build [(.int .i64 0),.nil,.nil,.nil,(.bool false),(.sl []),(.bool false),(.sl [])] [(0,1,(.t 25)),(1,1,(.t 26)),(6,2,(.t 27))]),
 Ot 6 (.alloc 8 (.agg [(.int .i64 0),.nil,.nil,.nil,(.bool false),(.sl []),(.bool false),(.sl [])])),
 Oy 8 6 28])
 (.seq (kp [4,6] [Ol 29 1 2,
 Ot 30 (.new (.mks 2 32 (.agg [(.bool false),(.sl [])])) [.t 29,.t 29]),
 Ot 31 (.fldA 2 4 true (.t 6)),
 Oq 32 1 1 31,
 Oy 1 32 30])
 (.seq (kp [4,6] [OL 33 8 6,
 Ot 34 (.callG zcd [.t 33,(.c (.fn zfg []))]),
 Ot 35 (.fldA 2 4 true (.t 6)),
 Oq 36 0 1 35,
 Oy 1 36 34])
 (.seq (kp [4,5] [OL 37 8 6,
 Oy 8 4 37,
 Oc 5 0])
 .ret))))))
def graph_New.res : List RX := [(4, some (8, true)), (5, none)]
theorem graph_New.of : OfT pg n_graph_New graph_New.k graph_New.res 2 := OfI Tryz.func22
def graph_New_1.k : K :=
 (.seq (kp [1,2] [Ot 2 (.boxP (.t 0)),
 Ot 3 (.mov (.c (.bool false)))])
 (.seq (kp [3] [OL 4 4 2,
 Ol 5 1 1,
 Ot 6 (.callG zhz [.t 4,.t 5]),
 Ot 7 (.un .not (.t 6)),
 Om 3 7])
 .ret))
def graph_New_1.res : List RX := [(3, none)]
theorem graph_New_1.of : OfT pg zfh graph_New_1.k graph_New_1.res 2 := OfI Tryz.func57
def graph_New_2.k : K :=
 (.seq (kp [4] [Ot 4 (.alloc 2 (.agg [(.bool false),(.sl [])]))])
 (.seq (kp [4] [Ot 5 (.build [(.bool false),(.sl [])] []),
 Oy 2 4 5])
 .ret))
def graph_New_2.res : List RX := [(4, some (2, true))]
theorem graph_New_2.of : OfT pg zfg graph_New_2.k graph_New_2.res 2 := OfI Tryz.func61
def graph_Graph_made.k : K :=
 (.seq (kp [1,2] [Ot 2 (.boxP (.t 0)),
 Ot 4 (.mov (.c .nil))])
 (.seq (kp [1,2,5] [Ot 5 (.mov (.c .nil))])
 (.seq (.seq (kp [1,2,5,10,11] [Oq 9 0 1 2,
 Ol 10 1 9,
 Oc 11 0])
 (.block 0 (.loop (.seq (kp [1,2,5,10,11,12] [Ot 12 (.bin .lss (.t 11) (.t 10))])
 (.seq (.cond (.t 12) .skip
 (.exit 0))
 (.seq (.block 1 (.seq (kp [1,2,5,6,10,11] [Om 13 11,
 Om 6 13])
 (.seq (kp [1,2,5,6,7,10,11] [Ot 7 (.mov (.c .nil))])
 (.seq (.seq (kp [1,2,5,6,7,10,11,15,16] [Oq 14 0 1 2,
 Ol 15 1 14,
 Oc 16 0])
 (.block 2 (.loop (.seq (kp [1,2,5,6,7,10,11,15,16,17] [Ot 17 (.bin .lss (.t 16) (.t 15))])
 (.seq (.cond (.t 17) .skip
 (.exit 2))
 (.seq (.block 3 (.seq (kp [1,2,5,6,7,8,10,11,15,16] [Om 18 16,
 Om 8 18])
 (kp [1,2,5,6,7,10,11,15,16] [Om 19 7,
 Om 20 1,
 Om 21 6,
 Om 22 8,
 Ot 23 (.callGV (.t 20) [.t 21,.t 22]),
 Ot 24 (.new (.bsl 2) [.t 23]),
 Ot 25 (.eff (.app 2 32) [.t 19,.t 24]),
 Om 7 25])))
 (kp [1,2,5,6,7,10,11,15,16] [Ot 26 (.bin .add (.t 16) (ci 1)),
 Om 16 26])))))))
 (.gh (kp [1,2,5,10,11] [Om 27 5,
 Om 28 7,
 Ot 29 (.new (.bsl 1) [.t 28]),
 Ot 30 (.eff (.app 1 24) [.t 27,.t 29]),
 Om 5 30]))))))
 (kp [1,2,5,10,11] [Ot 31 (.bin .add (.t 11) (ci 1)),
 Om 11 31])))))))
 (.seq (kp [4] [Om 32 5,
 Om 4 32])
 .ret))))
def graph_Graph_made.res : List RX := [(4, none)]
theorem graph_Graph_made.of : OfT pg zcd graph_Graph_made.k graph_Graph_made.res 2 := OfI Tryz.func60
def graph_Graph_Curve.k : K :=
 (.seq (kp [1,2] [Ot 2 (.boxP (.t 0)),
 Ot 4 (.mov (.c .nil))])
 (.seq (kp [1,2,5] [Ot 5 (.alloc 1 .nil)])
 (.seq (.seq (kp [1,2,5,9,10,11] [Oq 8 1 1 2,
 Ol 9 1 8,
 On 10 9,
 Oc 11 0])
 (.block 0 (.loop (.seq (kp [1,2,5,9,10,11,12] [Ot 12 (.bin .lss (.t 11) (.t 10))])
 (.seq (.cond (.t 12) .skip
 (.exit 0))
 (.seq (.block 1 (.seq (kp [1,2,5,7,9,10,11] [Oi 13 4 9 11,
 OL 14 4 13,
 Ot 7 (.alloc 4 (.agg [(.sl []),(.int .i64 0),(.int .i64 0),(.int .i64 0)])),
 Oy 4 7 14])
 (kd [1,2,5,9,10,11] [Ol 15 1 5,
 Oq 16 3 1 7,
 Ol 17 1 16,
 OL 18 8 2,
 OL 19 4 7,
 Om 20 1,
 Ot 21 (.call zes [.t 18,.t 19,.t 20]),
 Ot 22 (.bin .mul (.t 17) (.t 21)),
 Ot 23 (.new (.bsl 1) [.t 22]),
 Ot 24 (.eff (.app 1 8) [.t 15,.t 23]),
 Oy 1 5 24])))
 (kp [1,2,5,9,10,11] [Ot 25 (.bin .add (.t 11) (ci 1)),
 Om 11 25])))))))
 (.seq (kp [4] [OL 26 8 2,
 Ot 27 (.mkFn zb7 [.t 2,.t 5]),
 Ot 28 (.callG zcd [.t 26,.t 27]),
 Om 4 28])
 .ret))))
def graph_Graph_Curve.res : List RX := [(4, none)]
theorem graph_Graph_Curve.of : OfT pg zet graph_Graph_Curve.k graph_Graph_Curve.res 2 := OfI Tryz.func106
def graph_Graph_Share.k : K :=
 (.seq (kp [2,4] [Ot 3 (.boxP (.t 0)),
 Ot 4 (.boxP (.t 1)),
 Oc 6 0])
 (.seq (kp [4,7] [OL 8 4 4,
 Om 9 2,
 Ot 10 (.callG zdh [.t 8,.t 9]),
 Om 7 10])
 (.seq (kp [4,7] [Om 11 7,
 Om 12 7,
 Ot 13 (.un .neg (.t 12)),
 Ot 14 (.mm true (.t 11) [.t 13]),
 Om 7 14])
 (.seq (.seq (kp [4,7,18] [Om 15 7,
 Oq 16 2 1 4,
 Ol 17 1 16,
 Ot 18 (.bin .leq (.t 15) (.t 17))])
 (.cond (.t 18) (.seq (kp [6] [Oc 6 1024])
 .ret)
 .skip))
 (.seq (kp [6] [Oq 19 2 1 4,
 Ol 20 1 19,
 Ot 21 (.bin .mul (ci 1024) (.t 20)),
 Om 22 7,
 Ot 23 (.bin .quo (.t 21) (.t 22)),
 Ot 24 (.mm true (ci 1) [.t 23]),
 Om 6 24])
 .ret)))))
def graph_Graph_Share.res : List RX := [(6, none)]
theorem graph_Graph_Share.of : OfT pg zes graph_Graph_Share.k graph_Graph_Share.res 3 := OfI Tryz.func145
def graph_Graph_Curve_1.k : K :=
 (.seq (kp [0,1,2,3,6] [Ot 6 (.alloc 2 (.agg [(.bool false),(.sl [])]))])
 (.seq (kp [0,1,2,3,6,7] [Ot 7 (.alloc 2 (.agg [(.bool false),(.sl [])]))])
 (.seq (.seq (kp [0,1,2,3,6,7,11,12,13] [Oq 10 1 1 2,
 Ol 11 1 10,
 On 12 11,
 Oc 13 0])
 (.block 0 (.loop (.seq (kp [0,1,2,3,6,7,11,12,13,14] [Ot 14 (.bin .lss (.t 13) (.t 12))])
 (.seq (.cond (.t 14) .skip
 (.exit 0))
 (.seq (.block 1 (.seq (kp [0,1,2,3,6,7,8,9,11,12,13] [Om 15 13,
 Oi 16 4 11 13,
 OL 17 4 16,
 Ot 9 (.alloc 4 (.agg [(.sl []),(.int .i64 0),(.int .i64 0),(.int .i64 0)])),
 Om 8 15,
 Oy 4 9 17])
 (kd [0,1,2,3,6,7,11,12,13] [OL 18 2 7,
 Ol 19 1 3,
 Om 20 8,
 Oi 21 1 19 20,
 Ol 22 1 21,
 Oq 23 0 1 9,
 Ol 24 1 23,
 Om 25 0,
 Oi 26 1 24 25,
 Ol 27 1 26,
 Ot 28 (.bin .mul (.t 22) (.t 27)),
 Oq 29 0 1 9,
 Ol 30 1 29,
 Om 31 1,
 Oi 32 1 30 31,
 Ol 33 1 32,
 Ot 34 (.bin .mul (.t 28) (.t 33)),
 Ot 35 (.call zav [.t 34]),
 Ot 36 (.call zao [.t 18,.t 35]),
 Oy 2 7 36])))
 (kp [0,1,2,3,6,7,11,12,13] [Ot 37 (.bin .add (.t 13) (ci 1)),
 Om 13 37])))))))
 (.seq (kd [6] [OL 38 2 7,
 Ot 39 (.fldA 6 2 true (.t 2)),
 OL 40 2 39,
 Ot 41 (.call zai [.t 38,.t 40]),
 Ot 42 (.fldA 2 4 true (.t 2)),
 Oq 43 0 1 42,
 Ol 44 1 43,
 Om 45 0,
 Oi 46 1 44 45,
 Ol 47 1 46,
 Om 48 1,
 Oi 49 2 47 48,
 OL 50 2 49,
 Ot 51 (.call zav [ci 1024]),
 Ot 52 (.call zai [.t 50,.t 51]),
 Ot 53 (.call zao [.t 41,.t 52]),
 Oy 2 6 53])
 .ret))))
def graph_Graph_Curve_1.res : List RX := [(6, some (2, true))]
theorem graph_Graph_Curve_1.of : OfT pg zb7 graph_Graph_Curve_1.k graph_Graph_Curve_1.res 4 := OfI Tryz.func146
def lin_made.k : K :=
 (.seq (kp [2,3] [Ot 2 (.boxP (.t 0)),
 Ot 3 (.boxP (.t 1)),
 Ot 4 (.mov (.c .nil))])
 (.seq (kp [4] [Ol 5 1 2,
 Ot 6 (.mkFn zhg [.t 2,.t 3]),
 Ot 7 (.callG zbm [.t 5,.t 6]),
 Om 4 7])
 .ret))
def lin_made.res : List RX := [(4, none)]
theorem lin_made.of : OfT pg n_lin_made lin_made.k lin_made.res 2 := OfI Tryz.func147
def lin_list_long_Int.k : K :=
 (.seq (kp [0,1] [Ot 4 (.mov (.c .nil))])
 (.seq (kp [1,5] [Om 7 0,
 Ot 8 (.new (.mks 2 32 (.agg [(.bool false),(.sl [])])) [.t 7,.t 7]),
 Om 5 8])
 (.seq (.seq (kp [1,5,10,11] [Om 9 5,
 On 10 9,
 Oc 11 0])
 (.block 0 (.loop (.seq (kp [1,5,10,11,12] [Ot 12 (.bin .lss (.t 11) (.t 10))])
 (.seq (.cond (.t 12) .skip
 (.exit 0))
 (.seq (.block 1 (.seq (kp [1,5,6,10,11] [Om 13 11,
 Om 6 13])
 (kp [1,5,10,11] [Om 14 5,
 Om 15 6,
 Om 16 1,
 Om 17 6,
 Ot 18 (.callGV (.t 16) [.t 17]),
 Oi 19 2 14 15,
 Oy 2 19 18])))
 (kp [1,5,10,11] [Ot 20 (.bin .add (.t 11) (ci 1)),
 Om 11 20])))))))
 (.seq (kp [4] [Om 21 5,
 Om 4 21])
 .ret))))
def lin_list_long_Int.res : List RX := [(4, none)]
theorem lin_list_long_Int.of : OfT pg za2 lin_list_long_Int.k lin_list_long_Int.res 2 := OfI Tryz.func151
theorem lin_list_long_Int.ofG : OfTG pg za2 lin_list_long_Int.k lin_list_long_Int.res 2 := OfIG Tryz.func151
def lin_turned.k : K :=
 (.seq (kp [1,2,4] [Ot 2 (.boxP (.t 0)),
 Ot 4 (.alloc 2 (.agg [(.bool false),(.sl [])]))])
 (.seq (.seq (kp [2,4,5] [Om 5 1])
 (.cond (.t 5) (.seq (kp [4] [OL 6 2 2,
 Ot 7 (.callG zc4 [.t 6]),
 Oy 2 4 7])
 .ret)
 .skip))
 (.seq (kp [4] [OL 8 2 2,
 Oy 2 4 8])
 .ret)))
def lin_turned.res : List RX := [(4, some (2, true))]
theorem lin_turned.of : OfT pg zhf lin_turned.k lin_turned.res 2 := OfI Tryz.func153
def lin_list_Llong_Int.k : K :=
 (.seq (kp [0,1] [Ot 4 (.mov (.c .nil))])
 (.seq (kp [1,5] [Om 7 0,
 Ot 8 (.new (.mks 1 24 .nil) [.t 7,.t 7]),
 Om 5 8])
 (.seq (.seq (kp [1,5,10,11] [Om 9 5,
 On 10 9,
 Oc 11 0])
 (.block 0 (.loop (.seq (kp [1,5,10,11,12] [Ot 12 (.bin .lss (.t 11) (.t 10))])
 (.seq (.cond (.t 12) .skip
 (.exit 0))
 (.seq (.block 1 (.seq (kp [1,5,6,10,11] [Om 13 11,
 Om 6 13])
 (kp [1,5,10,11] [Om 14 5,
 Om 15 6,
 Om 16 1,
 Om 17 6,
 Ot 18 (.callGV (.t 16) [.t 17]),
 Oi 19 1 14 15,
 Oy 1 19 18])))
 (kp [1,5,10,11] [Ot 20 (.bin .add (.t 11) (ci 1)),
 Om 11 20])))))))
 (.seq (kp [4] [Om 21 5,
 Om 4 21])
 .ret))))
def lin_list_Llong_Int.res : List RX := [(4, none)]
theorem lin_list_Llong_Int.of : OfT pg zbm lin_list_Llong_Int.k lin_list_Llong_Int.res 2 := OfI Tryz.func181
theorem lin_list_Llong_Int.ofG : OfTG pg zbm lin_list_Llong_Int.k lin_list_Llong_Int.res 2 := OfIG Tryz.func181
def lin_made_1.k : K :=
 (.seq (kp [1,2,3] [Ot 3 (.boxP (.t 0)),
 Ot 4 (.mov (.c .nil))])
 (.seq (kp [4] [Ol 5 1 1,
 Ot 6 (.mkFn zf5 [.t 2,.t 3]),
 Ot 7 (.callG za2 [.t 5,.t 6]),
 Om 4 7])
 .ret))
def lin_made_1.res : List RX := [(4, none)]
theorem lin_made_1.of : OfT pg zhg lin_made_1.k lin_made_1.res 3 := OfI Tryz.func182
def lin_made_1_1.k : K :=
 (.seq (kp [0,1,2,4] [Ot 4 (.alloc 2 (.agg [(.bool false),(.sl [])]))])
 (.seq (kp [4] [Ol 5 1 1,
 Ol 6 1 2,
 Om 7 0,
 Ot 8 (.callGV (.t 5) [.t 6,.t 7]),
 Oy 2 4 8])
 .ret))
def lin_made_1_1.res : List RX := [(4, some (2, true))]
theorem lin_made_1_1.of : OfT pg zf5 lin_made_1_1.k lin_made_1_1.res 3 := OfI Tryz.func183
def lin_zeros.k : K :=
 (.seq (kp [0] [Ot 2 (.mov (.c .nil))])
 (.seq (kp [2] [Om 3 0,
 Ot 4 (.new (.mks 2 32 (.agg [(.bool false),(.sl [])])) [.t 3,.t 3]),
 Om 2 4])
 .ret))
def lin_zeros.res : List RX := [(2, none)]
theorem lin_zeros.of : OfT pg n_lin_zeros lin_zeros.k lin_zeros.res 1 := OfI Tryz.func184
def lin_sum.k : K :=
 (.seq (kp [0,1,4] [Ot 4 (.alloc 2 (.agg [(.bool false),(.sl [])]))])
 (.seq (kp [0,1,4,5] [Ot 5 (.alloc 2 (.agg [(.bool false),(.sl [])]))])
 (.seq (.seq (kp [1,4,5,9,10] [Om 9 0,
 Oc 10 0])
 (.block 0 (.loop (.seq (kp [1,4,5,9,10,11] [Ot 11 (.bin .lss (.t 10) (.t 9))])
 (.seq (.cond (.t 11) .skip
 (.exit 0))
 (.seq (.block 1 (.seq (kp [1,4,5,6,9,10] [Om 12 10,
 Om 6 12])
 (.seq (kp [1,4,5,7,8,9,10] [Om 14 1,
 Om 15 6,
 Ot 16 (.callGV (.t 14) [.t 15]),
 Om 13 16,
 Ot 17 (.ext (.t 13) 0),
 Ot 18 (.ext (.t 13) 1),
 Ot 7 (.alloc 2 (.agg [(.bool false),(.sl [])])),
 Ot 8 (.alloc 2 (.agg [(.bool false),(.sl [])])),
 Oy 2 7 17,
 Oy 2 8 18])
 (kd [1,4,5,9,10] [OL 19 2 5,
 OL 20 2 7,
 OL 21 2 8,
 Ot 22 (.call zai [.t 20,.t 21]),
 Ot 23 (.call zao [.t 19,.t 22]),
 Oy 2 5 23]))))
 (kp [1,4,5,9,10] [Ot 24 (.bin .add (.t 10) (ci 1)),
 Om 10 24])))))))
 (.seq (kp [4] [OL 25 2 5,
 Oy 2 4 25])
 .ret))))
def lin_sum.res : List RX := [(4, some (2, true))]
theorem lin_sum.of : OfT pg n_lin_sum lin_sum.k lin_sum.res 2 := OfI Tryz.func205
def lin_Mat_Definite.k : K :=
 (.seq (kp [1] [Ot 1 (.boxP (.t 0)),
 Ot 2 (.mov (.c (.bool false)))])
 (.seq (.seq (kp [1,7,8] [Ol 6 1 1,
 On 7 6,
 Oc 8 0])
 (.block 0 (.loop (.seq (kp [1,7,8,9] [Ot 9 (.bin .lss (.t 8) (.t 7))])
 (.seq (.cond (.t 9) .skip
 (.exit 0))
 (.seq (.block 1 (.seq (kp [1,3,7,8] [Om 10 8,
 Om 3 10])
 (.seq (.seq (kp [1,3,7,8,11,12] [Om 11 3,
 Oc 12 0])
 (.block 2 (.loop (.seq (kp [1,3,7,8,11,12,13] [Ot 13 (.bin .lss (.t 12) (.t 11))])
 (.seq (.cond (.t 13) .skip
 (.exit 2))
 (.seq (.block 3 (.seq (kp [1,3,4,7,8,11,12] [Om 14 12,
 Om 4 14])
 (.seq (kd [1,3,7,8,11,12,30] [Ol 15 1 1,
 Om 16 3,
 Oi 17 1 15 16,
 Ol 18 1 17,
 Om 19 4,
 Oi 20 2 18 19,
 OL 21 2 20,
 Ol 22 1 1,
 Om 23 4,
 Oi 24 1 22 23,
 Ol 25 1 24,
 Om 26 3,
 Oi 27 2 25 26,
 OL 28 2 27,
 Ot 29 (.call zcj [.t 21,.t 28]),
 Ot 30 (.bin .neq (.t 29) (ci 0))])
 (.cond (.t 30) (.seq (kp [2] [Ot 2 (.mov (.c (.bool false)))])
 .ret)
 .skip))))
 (kp [1,3,7,8,11,12] [Ot 31 (.bin .add (.t 12) (ci 1)),
 Om 12 31])))))))
 (.seq (kp [1,5,7,8] [Om 32 3,
 Ot 33 (.bin .add (.t 32) (ci 1)),
 Ot 34 (.mkFn zc9 [.t 1]),
 Ot 35 (.callG n_lin_made [.t 33,.t 34]),
 Om 5 35])
 (.seq (kp [1,7,8,39] [Om 36 5,
 Ot 37 (.callG zgn [.t 36]),
 Ot 38 (.callG zcn [.t 37]),
 Ot 39 (.bin .leq (.t 38) (ci 0))])
 (.cond (.t 39) (.seq (kp [2] [Ot 2 (.mov (.c (.bool false)))])
 .ret)
 .skip))))))
 (kp [1,7,8] [Ot 40 (.bin .add (.t 8) (ci 1)),
 Om 8 40])))))))
 (.seq (kp [2] [Ot 2 (.mov (.c (.bool true)))])
 .ret)))
def lin_Mat_Definite.res : List RX := [(2, none)]
theorem lin_Mat_Definite.of : OfT pg zfc lin_Mat_Definite.k lin_Mat_Definite.res 1 := OfI Tryz.func108
def lin_Mat_Solve.k : K :=
 (.seq (kp [1,2,5] [Ot 2 (.boxP (.t 0)),
 Ot 4 (.mov (.c .nil)),
 Ot 5 (.alloc 2 (.agg [(.bool false),(.sl [])])),
 Oc 6 0])
 (.seq (.seq (kp [1,2,5,14] [Om 10 1,
 On 11 10,
 Ol 12 1 2,
 On 13 12,
 Ot 14 (.bin .neq (.t 11) (.t 13))])
 (.cond (.t 14) (.seq (kp [4,5,6] [Ot 15 (.build [(.bool false),(.sl [])] []),
 Ot 4 (.mov (.c .nil)),
 Oy 2 5 15,
 Oc 6 1])
 .ret)
 .skip))
 (.seq (kp [2,5,7,8,9] [Ol 17 1 2,
 Om 18 1,
 Ot 19 (.callG zfa [.t 17,.t 18]),
 Om 16 19,
 Ot 20 (.ext (.t 16) 0),
 Ot 21 (.ext (.t 16) 1),
 Ot 22 (.ext (.t 16) 2),
 Ot 7 (.alloc 1 .nil),
 Ot 8 (.alloc 1 (.bool false)),
 Oy 1 7 20,
 Oy 1 8 21,
 Om 9 22])
 (.seq (.seq (kp [2,5,7,8,24] [Om 23 9,
 Ot 24 (.un .not (.t 23))])
 (.cond (.t 24) (.seq (kp [4,5,6] [Ot 25 (.build [(.bool false),(.sl [])] []),
 Ot 4 (.mov (.c .nil)),
 Oy 2 5 25,
 Oc 6 11])
 .ret)
 .skip))
 (.seq (.gh (kd [4,5,6] [Ol 26 1 2,
 On 27 26,
 Ot 28 (.mkFn zd6 [.t 7,.t 2,.t 8]),
 Ot 29 (.call za2 [.t 27,.t 28]),
 Ol 30 1 2,
 Ot 31 (.call zgn [.t 30]),
 Om 4 29,
 Oy 2 5 31,
 Oc 6 0]))
 .ret)))))
def lin_Mat_Solve.res : List RX := [(4, none), (5, some (2, true)), (6, none)]
theorem lin_Mat_Solve.of : OfT pg zfb lin_Mat_Solve.k lin_Mat_Solve.res 2 := OfI Tryz.func109
def lin_Mat_Definite_1.k : K :=
 (.seq (kp [0,1,2,5] [Ot 5 (.alloc 2 (.agg [(.bool false),(.sl [])]))])
 (.seq (kp [5] [Ol 6 1 2,
 Om 7 0,
 Oi 8 1 6 7,
 Ol 9 1 8,
 Om 10 1,
 Oi 11 2 9 10,
 OL 12 2 11,
 Oy 2 5 12])
 .ret))
def lin_Mat_Definite_1.res : List RX := [(5, some (2, true))]
theorem lin_Mat_Definite_1.of : OfT pg zc9 lin_Mat_Definite_1.k lin_Mat_Definite_1.res 3 := OfI Tryz.func148
def lin_Mat_Det.k : K :=
 (.seq (kp [0,2] [Ot 2 (.alloc 2 (.agg [(.bool false),(.sl [])]))])
 (.seq (kp [0,2,3,4,5] [Om 7 0,
 Om 8 0,
 On 9 8,
 Ot 10 (.callG n_lin_zeros [.t 9]),
 Ot 11 (.callG zfa [.t 7,.t 10]),
 Om 6 11,
 Ot 12 (.ext (.t 6) 0),
 Ot 13 (.ext (.t 6) 1),
 Ot 14 (.ext (.t 6) 2),
 Om 3 12,
 Om 4 13,
 Om 5 14])
 (.seq (.block 0 (.seq (kp [0,2,3,4,15] [Om 16 5,
 Ot 17 (.un .not (.t 16)),
 Om 15 17])
 (.cond (.t 15) (.seq (kp [2] [Ot 18 (.build [(.bool false),(.sl [])] []),
 Oy 2 2 18])
 .ret)
 (.seq (kp [0,2,3,4,19] [Om 20 0,
 On 21 20,
 Ot 22 (.bin .eql (.t 21) (ci 0)),
 Om 19 22])
 (.cond (.t 19) (.seq (kp [2] [Ot 23 (.callG zav [ci 1]),
 Oy 2 2 23])
 .ret)
 .skip)))))
 (.seq (kp [2] [Om 24 3,
 Om 25 0,
 On 26 25,
 Ot 27 (.bin .sub (.t 26) (ci 1)),
 Oi 28 1 24 27,
 Ol 29 1 28,
 Om 30 0,
 On 31 30,
 Ot 32 (.bin .sub (.t 31) (ci 1)),
 Oi 33 2 29 32,
 OL 34 2 33,
 Om 35 4,
 Ot 36 (.callG zhf [.t 34,.t 35]),
 Oy 2 2 36])
 .ret))))
def lin_Mat_Det.res : List RX := [(2, some (2, true))]
theorem lin_Mat_Det.of : OfT pg zgn lin_Mat_Det.k lin_Mat_Det.res 1 := OfI Tryz.func149
def lin_Mat_swept.k : K :=
 (.seq (kp [2,3,5] [Ot 2 (.boxP (.t 0)),
 Ot 3 (.boxP (.t 1)),
 Ot 4 (.mov (.c .nil)),
 Ot 5 (.mov (.c (.bool false))),
 Ot 6 (.mov (.c (.bool false)))])
 (.seq (kp [2,3,5,7] [Ol 15 1 2,
 On 16 15,
 Ot 7 (.alloc 1 (.int .i64 0)),
 Oy 1 7 16])
 (.seq (kp [4,5,7] [Ol 17 1 7,
 Ot 18 (.mkFn zb4 [.t 7,.t 2,.t 3]),
 Ot 19 (.callG zbm [.t 17,.t 18]),
 Om 4 19])
 (.seq (kp [4,5,7,8] [Ot 20 (.callG zav [ci 1]),
 Ot 8 (.alloc 2 (.agg [(.bool false),(.sl [])])),
 Oy 2 8 20])
 (.seq (.seq (kp [4,5,7,8,21,22] [Ol 21 1 7,
 Oc 22 0])
 (.block 0 (.loop (.seq (kp [4,5,7,8,21,22,23] [Ot 23 (.bin .lss (.t 22) (.t 21))])
 (.seq (.cond (.t 23) .skip
 (.exit 0))
 (.seq (.block 1 (.seq (kp [4,5,7,8,9,21,22] [Om 24 22,
 Om 9 24])
 (.seq (kp [4,5,7,8,9,10,21,22] [Om 25 9,
 Om 10 25])
 (.seq (.block 2 (.loop (.seq (.seq (kp [4,5,7,8,9,10,21,22,39] [Om 26 10,
 Ol 27 1 7,
 Ot 28 (.bin .lss (.t 26) (.t 27)),
 Om 29 28,
 Oh 30 29 (.mov (.t 4)),
 Oh 31 29 (.mov (.t 10)),
 Oh 32 29 (.idxA 1 (.t 30) (.t 31)),
 Oh 33 29 (.load 1 false (.t 32)),
 Oh 34 29 (.mov (.t 9)),
 Oh 35 29 (.idxA 2 (.t 33) (.t 34)),
 Oh 36 29 (.load 2 true (.t 35)),
 Oh 37 29 (.callG zcn [.t 36]),
 Oh 38 29 (.bin .eql (.t 37) (ci 0)),
 Ot 39 (.pick (.t 29) (.t 38) (.c (.bool false)))])
 (.cond (.t 39) .skip
 (.exit 2)))
 (.keep [4,5,7,8,9,10,21,22] (.block 3 (kp [4,5,7,8,9,10,21,22] [Om 40 10,
 Ot 41 (.bin .add (.t 40) (ci 1)),
 Om 10 41]))))))
 (.seq (.seq (kp [4,5,7,8,9,10,21,22,44] [Om 42 10,
 Ol 43 1 7,
 Ot 44 (.bin .eql (.t 42) (.t 43))])
 (.cond (.t 44) (.seq (kp [4,5,6] [Ot 4 (.mov (.c .nil)),
 Ot 5 (.mov (.c (.bool false))),
 Ot 6 (.mov (.c (.bool false)))])
 .ret)
 .skip))
 (.seq (.seq (kp [4,5,7,8,9,10,21,22,47] [Om 45 10,
 Om 46 9,
 Ot 47 (.bin .neq (.t 45) (.t 46))])
 (.cond (.t 47) (kd [4,5,7,8,9,21,22] [Om 48 4,
 Om 49 10,
 Om 50 4,
 Om 51 9,
 Om 52 4,
 Om 53 9,
 Oi 54 1 52 53,
 Ol 55 1 54,
 Om 56 4,
 Om 57 10,
 Oi 58 1 56 57,
 Ol 59 1 58,
 Om 60 5,
 Ot 61 (.un .not (.t 60)),
 Oi 62 1 48 49,
 Oy 1 62 55,
 Oi 63 1 50 51,
 Oy 1 63 59,
 Om 5 61])
 .skip))
 (.seq (kp [4,5,7,8,9,11,21,22] [Om 64 4,
 Om 65 9,
 Oi 66 1 64 65,
 Ol 67 1 66,
 Om 68 9,
 Oi 69 2 67 68,
 OL 70 2 69,
 Ot 11 (.alloc 2 (.agg [(.bool false),(.sl [])])),
 Oy 2 11 70])
 (.seq (.seq (kp [4,5,7,8,9,11,21,22,71,72] [Ol 71 1 7,
 Oc 72 0])
 (.block 4 (.loop (.seq (kp [4,5,7,8,9,11,21,22,71,72,73] [Ot 73 (.bin .lss (.t 72) (.t 71))])
 (.seq (.cond (.t 73) .skip
 (.exit 4))
 (.seq (.block 5 (.seq (kp [4,5,7,8,9,11,12,21,22,71,72] [Om 74 72,
 Om 12 74])
 (.seq (.seq (kp [4,5,7,8,9,11,12,21,22,71,72,77] [Om 75 12,
 Om 76 9,
 Ot 77 (.bin .eql (.t 75) (.t 76))])
 (.cond (.t 77) (.exit 5)
 .skip))
 (.seq (kp [4,5,7,8,9,11,12,13,21,22,71,72] [Om 78 4,
 Om 79 12,
 Oi 80 1 78 79,
 Ol 81 1 80,
 Om 82 9,
 Oi 83 2 81 82,
 OL 84 2 83,
 Ot 13 (.alloc 2 (.agg [(.bool false),(.sl [])])),
 Oy 2 13 84])
 (.seq (kp [4,5,7,8,9,11,12,13,21,22,71,72,89,90] [Om 85 4,
 Om 86 12,
 Oi 87 1 85 86,
 Ol 88 1 87,
 On 89 88,
 Oc 90 0])
 (.block 6 (.loop (.seq (kp [4,5,7,8,9,11,12,13,21,22,71,72,89,90,91] [Ot 91 (.bin .lss (.t 90) (.t 89))])
 (.seq (.cond (.t 91) .skip
 (.exit 6))
 (.seq (.block 7 (.seq (kp [4,5,7,8,9,11,12,13,14,21,22,71,72,89,90] [Om 92 90,
 Om 14 92])
 (kd [4,5,7,8,9,11,12,13,21,22,71,72,89,90] [Om 94 4,
 Om 95 12,
 Oi 96 1 94 95,
 Ol 97 1 96,
 Om 98 14,
 OL 99 2 11,
 Om 100 4,
 Om 101 12,
 Oi 102 1 100 101,
 Ol 103 1 102,
 Om 104 14,
 Oi 105 2 103 104,
 OL 106 2 105,
 Ot 107 (.call zai [.t 99,.t 106]),
 OL 108 2 13,
 Om 109 4,
 Om 110 9,
 Oi 111 1 109 110,
 Ol 112 1 111,
 Om 113 14,
 Oi 114 2 112 113,
 OL 115 2 114,
 Ot 116 (.call zai [.t 108,.t 115]),
 Ot 117 (.call zc2 [.t 107,.t 116]),
 OL 118 2 8,
 Ot 119 (.call zc3 [.t 117,.t 118]),
 Om 93 119,
 Ot 120 (.ext (.t 93) 0),
 Ot 121 (.ext (.t 93) 1),
 Ot 122 (.ext (.t 93) 2),
 Oi 123 2 97 98,
 Oy 2 123 120])))
 (kp [4,5,7,8,9,11,12,13,21,22,71,72,89,90] [Ot 124 (.bin .add (.t 90) (ci 1)),
 Om 90 124])))))))))))
 (kp [4,5,7,8,9,11,21,22,71,72] [Ot 125 (.bin .add (.t 72) (ci 1)),
 Om 72 125])))))))
 (kp [4,5,7,8,21,22] [OL 126 2 11,
 Oy 2 8 126])))))))))
 (kp [4,5,7,8,21,22] [Ot 127 (.bin .add (.t 22) (ci 1)),
 Om 22 127])))))))
 (.seq (kp [4,5,6] [Om 128 4,
 Om 129 5,
 Om 4 128,
 Om 5 129,
 Ot 6 (.mov (.c (.bool true)))])
 .ret))))))
def lin_Mat_swept.res : List RX := [(4, none), (5, none), (6, none)]
theorem lin_Mat_swept.of : OfT pg zfa lin_Mat_swept.k lin_Mat_swept.res 2 := OfI Tryz.func150
def lin_Mat_Solve_1.k : K :=
 (.seq (kp [0,1,2,3,5] [Ot 5 (.alloc 2 (.agg [(.bool false),(.sl [])]))])
 (.seq (kd [5] [Ol 6 1 1,
 Om 7 0,
 Oi 8 1 6 7,
 Ol 9 1 8,
 Ol 10 1 2,
 On 11 10,
 Oi 12 2 9 11,
 OL 13 2 12,
 Ol 14 1 3,
 Ot 15 (.call zhf [.t 13,.t 14]),
 Oy 2 5 15])
 .ret))
def lin_Mat_Solve_1.res : List RX := [(5, some (2, true))]
theorem lin_Mat_Solve_1.of : OfT pg zd6 lin_Mat_Solve_1.k lin_Mat_Solve_1.res 4 := OfI Tryz.func152
def lin_Mat_Apply.k : K :=
 (.seq (kp [2,3] [Ot 2 (.boxP (.t 0)),
 Ot 3 (.boxP (.t 1)),
 Ot 4 (.mov (.c .nil))])
 (.seq (kp [4] [Ol 5 1 2,
 On 6 5,
 Ot 7 (.mkFn zd7 [.t 2,.t 3]),
 Ot 8 (.callG za2 [.t 6,.t 7]),
 Om 4 8])
 .ret))
def lin_Mat_Apply.res : List RX := [(4, none)]
theorem lin_Mat_Apply.of : OfT pg zfd lin_Mat_Apply.k lin_Mat_Apply.res 2 := OfI Tryz.func180
def lin_Mat_swept_1.k : K :=
 (.seq (kp [1,2,3,4] [Ot 4 (.boxP (.t 0)),
 Ot 5 (.mov (.c .nil))])
 (.seq (kp [5] [Ol 6 1 1,
 Ot 7 (.bin .add (.t 6) (ci 1)),
 Ot 8 (.mkFn zdi [.t 1,.t 2,.t 4,.t 3]),
 Ot 9 (.callG za2 [.t 7,.t 8]),
 Om 5 9])
 .ret))
def lin_Mat_swept_1.res : List RX := [(5, none)]
theorem lin_Mat_swept_1.ofG : OfTG pg zb4 lin_Mat_swept_1.k lin_Mat_swept_1.res 4 := OfIG Tryz.func185
def lin_Mat_swept_1_1.k : K :=
 (.seq (kp [0,1,2,3,4,6] [Ot 6 (.alloc 2 (.agg [(.bool false),(.sl [])]))])
 (.seq (.seq (kp [0,2,3,4,6,9] [Om 7 0,
 Ol 8 1 1,
 Ot 9 (.bin .lss (.t 7) (.t 8))])
 (.cond (.t 9) (.seq (kp [6] [Ol 10 1 2,
 Ol 11 1 3,
 Oi 12 1 10 11,
 Ol 13 1 12,
 Om 14 0,
 Oi 15 2 13 14,
 OL 16 2 15,
 Oy 2 6 16])
 .ret)
 .skip))
 (.seq (kp [6] [Ol 17 1 4,
 Ol 18 1 3,
 Oi 19 2 17 18,
 OL 20 2 19,
 Oy 2 6 20])
 .ret)))
def lin_Mat_swept_1_1.res : List RX := [(6, some (2, true))]
theorem lin_Mat_swept_1_1.of : OfT pg zdi lin_Mat_swept_1_1.k lin_Mat_swept_1_1.res 5 := OfI Tryz.func186
def lin_Mat_Quad.k : K :=
 (.seq (kp [0,3,4] [Ot 3 (.boxP (.t 1)),
 Ot 4 (.alloc 2 (.agg [(.bool false),(.sl [])]))])
 (.seq (kp [0,3,4,5] [Om 6 0,
 Ol 7 1 3,
 Ot 8 (.callG zfd [.t 6,.t 7]),
 Ot 5 (.alloc 1 .nil),
 Oy 1 5 8])
 (.seq (kp [4] [Om 9 0,
 On 10 9,
 Ot 11 (.mkFn zen [.t 3,.t 5]),
 Ot 12 (.callG n_lin_sum [.t 10,.t 11]),
 Oy 2 4 12])
 .ret)))
def lin_Mat_Quad.res : List RX := [(4, some (2, true))]
theorem lin_Mat_Quad.of : OfT pg zhw lin_Mat_Quad.k lin_Mat_Quad.res 2 := OfI Tryz.func188
def lin_Mat_Apply_1.k : K :=
 (.seq (kp [1,2,3,4] [Ot 3 (.boxP (.t 0)),
 Ot 4 (.alloc 2 (.agg [(.bool false),(.sl [])]))])
 (.seq (kp [4] [Ol 5 1 1,
 On 6 5,
 Ot 7 (.mkFn zdj [.t 1,.t 3,.t 2]),
 Ot 8 (.callG n_lin_sum [.t 6,.t 7]),
 Oy 2 4 8])
 .ret))
def lin_Mat_Apply_1.res : List RX := [(4, some (2, true))]
theorem lin_Mat_Apply_1.of : OfT pg zd7 lin_Mat_Apply_1.k lin_Mat_Apply_1.res 3 := OfI Tryz.func204
def lin_Mat_Apply_1_1.k : K :=
 (.seq (kp [0,1,2,3,5,6] [Ot 5 (.alloc 2 (.agg [(.bool false),(.sl [])])),
 Ot 6 (.alloc 2 (.agg [(.bool false),(.sl [])]))])
 (.seq (kd [5,6] [Ot 7 (.red (.ldP 1 false) [.t 1]),
 Ot 8 (.red (.ldP 1 false) [.t 2]),
 Ot 9 (.red (.ixP 1) [.t 7,.t 8]),
 Ot 10 (.red (.ldP 1 false) [.t 9]),
 Om 11 0,
 Ot 12 (.red (.ixP 2) [.t 10,.t 11]),
 Ot 13 (.red (.ldP 2 true) [.t 12]),
 Ot 14 (.red (.ldP 1 false) [.t 3]),
 Om 15 0,
 Ot 16 (.red (.ixP 2) [.t 14,.t 15]),
 Ot 17 (.red (.ldP 2 true) [.t 16]),
 Oy 2 5 13,
 Oy 2 6 17])
 .ret))
def lin_Mat_Apply_1_1.res : List RX := [(5, some (2, true)), (6, some (2, true))]
theorem lin_Mat_Apply_1_1.of : OfT pg zdj lin_Mat_Apply_1_1.k lin_Mat_Apply_1_1.res 4 := OfI Tryz.func206
def lin_Mat_Quad_1.k : K :=
 (.seq (kp [0,1,2,4,5] [Ot 4 (.alloc 2 (.agg [(.bool false),(.sl [])])),
 Ot 5 (.alloc 2 (.agg [(.bool false),(.sl [])]))])
 (.seq (kd [4,5] [Ot 6 (.red (.ldP 1 false) [.t 1]),
 Om 7 0,
 Ot 8 (.red (.ixP 2) [.t 6,.t 7]),
 Ot 9 (.red (.ldP 2 true) [.t 8]),
 Ot 10 (.red (.ldP 1 false) [.t 2]),
 Om 11 0,
 Ot 12 (.red (.ixP 2) [.t 10,.t 11]),
 Ot 13 (.red (.ldP 2 true) [.t 12]),
 Oy 2 4 9,
 Oy 2 5 13])
 .ret))
def lin_Mat_Quad_1.res : List RX := [(4, some (2, true)), (5, some (2, true))]
theorem lin_Mat_Quad_1.of : OfT pg zen lin_Mat_Quad_1.k lin_Mat_Quad_1.res 3 := OfI Tryz.func207
def quad_less.k : K :=
 (.seq (kp [0,1] [Ot 4 (.mov (.c .nil))])
 (.seq (kp [0,1,5] [Om 7 0,
 On 8 7,
 Ot 9 (.new (.mks 2 32 (.agg [(.bool false),(.sl [])])) [.t 8,.t 8]),
 Om 5 9])
 (.seq (.seq (kp [0,1,5,11,12] [Om 10 0,
 On 11 10,
 Oc 12 0])
 (.block 0 (.loop (.seq (kp [0,1,5,11,12,13] [Ot 13 (.bin .lss (.t 12) (.t 11))])
 (.seq (.cond (.t 13) .skip
 (.exit 0))
 (.seq (.block 1 (.seq (kp [0,1,5,6,11,12] [Om 14 12,
 Om 6 14])
 (kd [0,1,5,11,12] [Om 15 5,
 Om 16 6,
 Om 17 0,
 Om 18 6,
 Oi 19 2 17 18,
 OL 20 2 19,
 Om 21 1,
 Om 22 6,
 Oi 23 2 21 22,
 OL 24 2 23,
 Ot 25 (.call zc2 [.t 20,.t 24]),
 Oi 26 2 15 16,
 Oy 2 26 25])))
 (kp [0,1,5,11,12] [Ot 27 (.bin .add (.t 12) (ci 1)),
 Om 12 27])))))))
 (.seq (kp [4] [Om 28 5,
 Om 4 28])
 .ret))))
def quad_less.res : List RX := [(4, none)]
theorem quad_less.of : OfT pg n_quad_less quad_less.k quad_less.res 2 := OfI Tryz.func179
def quad_dot.k : K :=
 (.seq (kp [0,1,4] [Ot 4 (.alloc 2 (.agg [(.bool false),(.sl [])]))])
 (.seq (kp [0,1,4,5] [Ot 5 (.alloc 2 (.agg [(.bool false),(.sl [])]))])
 (.seq (.seq (kp [0,1,4,5,8,9] [Om 7 0,
 On 8 7,
 Oc 9 0])
 (.block 0 (.loop (.seq (kp [0,1,4,5,8,9,10] [Ot 10 (.bin .lss (.t 9) (.t 8))])
 (.seq (.cond (.t 10) .skip
 (.exit 0))
 (.seq (.block 1 (.seq (kp [0,1,4,5,6,8,9] [Om 11 9,
 Om 6 11])
 (kd [0,1,4,5,8,9] [OL 12 2 5,
 Om 13 0,
 Om 14 6,
 Oi 15 2 13 14,
 OL 16 2 15,
 Om 17 1,
 Om 18 6,
 Oi 19 2 17 18,
 OL 20 2 19,
 Ot 21 (.call zai [.t 16,.t 20]),
 Ot 22 (.call zao [.t 12,.t 21]),
 Oy 2 5 22])))
 (kp [0,1,4,5,8,9] [Ot 23 (.bin .add (.t 9) (ci 1)),
 Om 9 23])))))))
 (.seq (kp [4] [OL 24 2 5,
 Oy 2 4 24])
 .ret))))
def quad_dot.res : List RX := [(4, some (2, true))]
theorem quad_dot.of : OfT pg n_quad_dot quad_dot.k quad_dot.res 2 := OfI Tryz.func189
def quad_Quad_Slope.k : K :=
 (.seq (kp [1,2] [Ot 2 (.boxP (.t 0)),
 Ot 4 (.mov (.c .nil))])
 (.seq (kd [4] [Oq 5 0 1 2,
 Ol 6 1 5,
 Om 7 1,
 Ot 8 (.call zfd [.t 6,.t 7]),
 Oq 9 1 1 2,
 Ol 10 1 9,
 Ot 11 (.call n_quad_less [.t 8,.t 10]),
 Om 4 11])
 .ret))
def quad_Quad_Slope.res : List RX := [(4, none)]
theorem quad_Quad_Slope.of : OfT pg zfu quad_Quad_Slope.k quad_Quad_Slope.res 2 := OfI Tryz.func140
def quad_Quad_Value.k : K :=
 (.seq (kp [1,2,4] [Ot 2 (.boxP (.t 0)),
 Ot 4 (.alloc 2 (.agg [(.bool false),(.sl [])]))])
 (.seq (kd [4] [Oq 5 0 1 2,
 Ol 6 1 5,
 Om 7 1,
 Ot 8 (.call zhw [.t 6,.t 7]),
 Oq 9 1 1 2,
 Ol 10 1 9,
 Om 11 1,
 Ot 12 (.call n_quad_dot [.t 10,.t 11]),
 Ot 13 (.call zav [ci 2]),
 Ot 14 (.call zai [.t 12,.t 13]),
 Ot 15 (.call zc2 [.t 8,.t 14]),
 Ot 16 (.fldA 2 2 true (.t 2)),
 OL 17 2 16,
 Ot 18 (.call zao [.t 15,.t 17]),
 Oy 2 4 18])
 .ret))
def quad_Quad_Value.res : List RX := [(4, some (2, true))]
theorem quad_Quad_Value.of : OfT pg zft quad_Quad_Value.k quad_Quad_Value.res 2 := OfI Tryz.func157
def factor_Right.k : K :=
 (.seq (kp [1,2] [Ot 2 (.boxP (.t 0)),
 Ot 4 (.mov (.c (.bool false)))])
 (.seq (.seq (kp [2,30] [Oq 7 0 1 2,
 Ol 8 1 7,
 On 9 8,
 Om 10 1,
 Ot 11 (.bin .neq (.t 9) (.t 10)),
 Om 12 11,
 Og 13 12 (.mov (.t 1)),
 Og 14 12 (.bin .gtr (.t 13) (ci 11)),
 Ot 15 (.pick (.t 12) (.c (.bool true)) (.t 14)),
 Om 16 15,
 Og 17 16 (.fldA 1 1 false (.t 2)),
 Og 18 16 (.load 1 false (.t 17)),
 Og 19 16 (.callG zew [.t 18,(.c (.int .i64 (-1000000000))),ci 1000000000]),
 Ot 20 (.pick (.t 16) (.c (.bool true)) (.t 19)),
 Om 21 20,
 Og 22 21 (.fldA 2 1 false (.t 2)),
 Og 23 21 (.load 1 false (.t 22)),
 Og 24 21 (.callG zew [.t 23,ci 1,ci 32768]),
 Ot 25 (.pick (.t 21) (.c (.bool true)) (.t 24)),
 Om 26 25,
 Og 27 26 (.fldA 3 1 false (.t 2)),
 Og 28 26 (.load 1 false (.t 27)),
 Og 29 26 (.callG zew [.t 28,ci 1,ci 100]),
 Ot 30 (.pick (.t 26) (.c (.bool true)) (.t 29))])
 (.cond (.t 30) (.seq (kp [4] [Ot 4 (.mov (.c (.bool false)))])
 .ret)
 .skip))
 (.seq (.seq (kp [32,33,34] [Oq 31 0 1 2,
 Ol 32 1 31,
 On 33 32,
 Oc 34 0])
 (.block 0 (.loop (.seq (kp [32,33,34,35] [Ot 35 (.bin .lss (.t 34) (.t 33))])
 (.seq (.cond (.t 35) .skip
 (.exit 0))
 (.seq (.block 1 (.seq (kp [6,32,33,34] [Oi 36 1 32 34,
 Ol 37 1 36,
 Om 6 37])
 (.seq (kp [32,33,34,39] [Om 38 6,
 Ot 39 (.callG zew [.t 38,(.c (.int .i64 (-1000))),ci 1000])])
 (.cond (.t 39) (.seq (kp [4] [Ot 4 (.mov (.c (.bool false)))])
 .ret)
 .skip))))
 (kp [32,33,34] [Ot 40 (.bin .add (.t 34) (ci 1)),
 Om 34 40])))))))
 (.seq (kp [4] [Ot 4 (.mov (.c (.bool true)))])
 .ret))))
def factor_Right.res : List RX := [(4, none)]
theorem factor_Right.of : OfT pg zhz factor_Right.k factor_Right.res 2 := OfI Tryz.func58
def factor_out.k : K :=
 (.seq (kp [0,1,2] [Ot 6 (.mov (.c (.bool false)))])
 (.seq (kp [6] [Om 7 0,
 Om 8 1,
 Ot 9 (.bin .lss (.t 7) (.t 8)),
 Om 10 9,
 Og 11 10 (.mov (.t 0)),
 Og 12 10 (.mov (.t 2)),
 Og 13 10 (.bin .gtr (.t 11) (.t 12)),
 Ot 14 (.pick (.t 10) (.c (.bool true)) (.t 13)),
 Om 6 14])
 .ret))
def factor_out.res : List RX := [(6, none)]
theorem factor_out.of : OfT pg zew factor_out.k factor_out.res 3 := OfI Tryz.func99
def factor_Steep.k : K :=
 (.seq (kp [1,2] [Ot 2 (.boxP (.t 0)),
 Ot 4 (.mov (.c .nil))])
 (.seq (kd [2,5] [Oq 9 3 1 2,
 Ol 10 1 9,
 OL 11 4 2,
 Om 12 1,
 Ot 13 (.call zdh [.t 11,.t 12]),
 Oq 14 2 1 2,
 Ol 15 1 14,
 Ot 16 (.call n_huber_Slope [.t 13,.t 15]),
 Ot 17 (.bin .mul (.t 10) (.t 16)),
 Om 5 17])
 (.seq (kp [2,5,6] [Ot 6 (.mov (.c .nil))])
 (.seq (.seq (kp [5,6,19,20,21] [Oq 18 0 1 2,
 Ol 19 1 18,
 On 20 19,
 Oc 21 0])
 (.block 0 (.loop (.seq (kp [5,6,19,20,21,22] [Ot 22 (.bin .lss (.t 21) (.t 20))])
 (.seq (.cond (.t 22) .skip
 (.exit 0))
 (.seq (.block 1 (.seq (kp [5,6,8,19,20,21] [Oi 23 1 19 21,
 Ol 24 1 23,
 Om 8 24])
 (kp [5,6,19,20,21] [Om 25 6,
 Om 26 8,
 Om 27 5,
 Ot 28 (.bin .mul (.t 26) (.t 27)),
 Ot 29 (.new (.bsl 1) [.t 28]),
 Ot 30 (.eff (.app 1 8) [.t 25,.t 29]),
 Om 6 30])))
 (kp [5,6,19,20,21] [Ot 31 (.bin .add (.t 21) (ci 1)),
 Om 21 31])))))))
 (.seq (kp [4] [Om 32 6,
 Om 4 32])
 .ret)))))
def factor_Steep.res : List RX := [(4, none)]
theorem factor_Steep.of : OfT pg zhy factor_Steep.k factor_Steep.res 2 := OfI Tryz.func138
def factor_Cost.k : K :=
 (.seq (kp [1,2] [Ot 2 (.boxP (.t 0)),
 Oc 4 0])
 (.seq (kd [4] [Oq 5 3 1 2,
 Ol 6 1 5,
 OL 7 4 2,
 Om 8 1,
 Ot 9 (.call zdh [.t 7,.t 8]),
 Oq 10 2 1 2,
 Ol 11 1 10,
 Ot 12 (.call n_huber_Rho [.t 9,.t 11]),
 Ot 13 (.bin .mul (.t 6) (.t 12)),
 Om 4 13])
 .ret))
def factor_Cost.res : List RX := [(4, none)]
theorem factor_Cost.of : OfT pg n_factor_Cost factor_Cost.k factor_Cost.res 2 := OfI Tryz.func156
def factor_Residual.k : K :=
 (.seq (kp [1,2] [Ot 2 (.boxP (.t 0)),
 Oc 4 0])
 (.seq (kp [1,2,5] [Oq 8 1 1 2,
 Ol 9 1 8,
 Ot 10 (.un .neg (.t 9)),
 Om 5 10])
 (.seq (.seq (kp [1,5,12,13,14] [Oq 11 0 1 2,
 Ol 12 1 11,
 On 13 12,
 Oc 14 0])
 (.block 0 (.loop (.seq (kp [1,5,12,13,14,15] [Ot 15 (.bin .lss (.t 14) (.t 13))])
 (.seq (.cond (.t 15) .skip
 (.exit 0))
 (.seq (.block 1 (.seq (kp [1,5,6,7,12,13,14] [Om 16 14,
 Oi 17 1 12 14,
 Ol 18 1 17,
 Om 6 16,
 Om 7 18])
 (kp [1,5,12,13,14] [Om 19 5,
 Om 20 7,
 Om 21 1,
 Om 22 6,
 Oi 23 1 21 22,
 Ol 24 1 23,
 Ot 25 (.bin .mul (.t 20) (.t 24)),
 Ot 26 (.bin .add (.t 19) (.t 25)),
 Om 5 26])))
 (kp [1,5,12,13,14] [Ot 27 (.bin .add (.t 14) (ci 1)),
 Om 14 27])))))))
 (.seq (kp [4] [Om 28 5,
 Ot 29 (.mm false (.t 28) [ci 1000000000]),
 Ot 30 (.mm true (.c (.int .i64 (-1000000000))) [.t 29]),
 Om 4 30])
 .ret))))
def factor_Residual.res : List RX := [(4, none)]
theorem factor_Residual.of : OfT pg zdh factor_Residual.k factor_Residual.res 2 := OfI Tryz.func175
def slices_ContainsFunc_Lapi_Row_api_Row.k : K :=
 (.seq (kp [0,1] [Ot 4 (.mov (.c (.bool false)))])
 (.seq (kp [4] [Om 5 0,
 Om 6 1,
 Ot 7 (.callG zbs [.t 5,.t 6]),
 Ot 8 (.bin .geq (.t 7) (ci 0)),
 Om 4 8])
 .ret))
def slices_ContainsFunc_Lapi_Row_api_Row.res : List RX := [(4, none)]
theorem slices_ContainsFunc_Lapi_Row_api_Row.of : OfT pg zbj slices_ContainsFunc_Lapi_Row_api_Row.k slices_ContainsFunc_Lapi_Row_api_Row.res 2 := OfI Tryz.func56
def slices_ContainsFunc_Lint64_int64.k : K :=
 (.seq (kp [0,1] [Ot 4 (.mov (.c (.bool false)))])
 (.seq (kp [4] [Om 5 0,
 Om 6 1,
 Ot 7 (.callG zb3 [.t 5,.t 6]),
 Ot 8 (.bin .geq (.t 7) (ci 0)),
 Om 4 8])
 .ret))
def slices_ContainsFunc_Lint64_int64.res : List RX := [(4, none)]
theorem slices_ContainsFunc_Lint64_int64.of : OfT pg zbz slices_ContainsFunc_Lint64_int64.k slices_ContainsFunc_Lint64_int64.res 2 := OfI Tryz.func65
def slices_IndexFunc_Lapi_Row_api_Row.k : K :=
 (.seq (kp [0,1] [Oc 4 0])
 (.seq (.seq (kp [0,1,7,8] [Om 6 0,
 On 7 6,
 Oc 8 0])
 (.block 0 (.loop (.seq (kp [0,1,7,8,9] [Ot 9 (.bin .lss (.t 8) (.t 7))])
 (.seq (.cond (.t 9) .skip
 (.exit 0))
 (.seq (.block 1 (.seq (kp [0,1,5,7,8] [Om 10 8,
 Om 5 10])
 (.seq (kp [0,1,5,7,8,16] [Om 11 1,
 Om 12 0,
 Om 13 5,
 Oi 14 4 12 13,
 OL 15 4 14,
 Ot 16 (.callGV (.t 11) [.t 15])])
 (.cond (.t 16) (.seq (kp [4] [Om 17 5,
 Om 4 17])
 .ret)
 .skip))))
 (kp [0,1,7,8] [Ot 18 (.bin .add (.t 8) (ci 1)),
 Om 8 18])))))))
 (.seq (kp [4] [Ot 4 (.mov (.c (.int .i64 (-1))))])
 .ret)))
def slices_IndexFunc_Lapi_Row_api_Row.res : List RX := [(4, none)]
theorem slices_IndexFunc_Lapi_Row_api_Row.of : OfT pg zbs slices_IndexFunc_Lapi_Row_api_Row.k slices_IndexFunc_Lapi_Row_api_Row.res 2 := OfI Tryz.func98
def slices_IndexFunc_Lint64_int64.k : K :=
 (.seq (kp [0,1] [Oc 4 0])
 (.seq (.seq (kp [0,1,7,8] [Om 6 0,
 On 7 6,
 Oc 8 0])
 (.block 0 (.loop (.seq (kp [0,1,7,8,9] [Ot 9 (.bin .lss (.t 8) (.t 7))])
 (.seq (.cond (.t 9) .skip
 (.exit 0))
 (.seq (.block 1 (.seq (kp [0,1,5,7,8] [Om 10 8,
 Om 5 10])
 (.seq (kp [0,1,5,7,8,16] [Om 11 1,
 Om 12 0,
 Om 13 5,
 Oi 14 1 12 13,
 Ol 15 1 14,
 Ot 16 (.callGV (.t 11) [.t 15])])
 (.cond (.t 16) (.seq (kp [4] [Om 17 5,
 Om 4 17])
 .ret)
 .skip))))
 (kp [0,1,7,8] [Ot 18 (.bin .add (.t 8) (ci 1)),
 Om 8 18])))))))
 (.seq (kp [4] [Ot 4 (.mov (.c (.int .i64 (-1))))])
 .ret)))
def slices_IndexFunc_Lint64_int64.res : List RX := [(4, none)]
theorem slices_IndexFunc_Lint64_int64.of : OfT pg zb3 slices_IndexFunc_Lint64_int64.k slices_IndexFunc_Lint64_int64.res 2 := OfI Tryz.func111
end Go.Gim

import Derived.Test.YtjkjpjneeioeiaaGreatGN
/- Functions' code as data (written by wip/tools/gen.py), and the step to their contracts. -/
set_option maxRecDepth 100000
namespace Go.Gim
open Go.Proofs
def gimbalref01_Of.k : K :=
 (.seq (kp [0,2] [Ot 2 (.alloc 2 (.agg [(.bool false),.nil]))])
 (.seq (kp [0,2,3] [Ot 3 (.mov (.c .nil))])
 (.seq (kp [0,2,3,4] [Om 6 0,
 Ot 7 (.bin .lss (.t 6) (ci 0)),
 Om 4 7])
 (.seq (.block 0 (.loop (.seq (.seq (kp [0,2,3,4,9] [Om 8 0,
 Ot 9 (.bin .neq (.t 8) (ci 0))])
 (.cond (.t 9) .skip
 (.exit 0)))
 (.keep [0,2,3,4] (.block 1 (.seq (kp [0,2,3,4,5] [Om 10 0,
 Ot 11 (.bin .rem (.t 10) (ci 10)),
 Om 5 11])
 (.seq (.seq (kp [0,2,3,4,5,13] [Om 12 5,
 Ot 13 (.bin .lss (.t 12) (ci 0))])
 (.cond (.t 13) (kp [0,2,3,4,5] [Om 14 5,
 Ot 15 (.un .neg (.t 14)),
 Om 5 15])
 .skip))
 (.seq (kp [0,2,3,4] [Om 16 3,
 Om 17 5,
 Ot 18 (.new (.bsl 1) [.t 17]),
 Ot 19 (.eff (.app 1 8) [.t 16,.t 18]),
 Om 3 19])
 (kp [0,2,3,4] [Om 20 0,
 Ot 21 (.bin .quo (.t 20) (ci 10)),
 Om 0 21])))))))))
 (.seq (kp [2] [Om 22 4,
 Om 23 3,
 Ot 24 (.callG zc6 [.t 22,.t 23]),
 Oy 2 2 24])
 .ret)))))
def gimbalref01_Of.res : List RX := [(2, some (2, true))]
theorem gimbalref01_Of.of : OfT pg zb3 gimbalref01_Of.k gimbalref01_Of.res 1 := OfI Tryz.func58
def gimbalref01_made.k : K :=
 (.seq (kp [0,1,4] [Ot 4 (.alloc 2 (.agg [(.bool false),.nil]))])
 (.seq (kp [0,1,4,5] [Om 6 1,
 On 7 6,
 Om 5 7])
 (.seq (.block 0 (.loop (.seq (.seq (kp [0,1,4,5,17] [Om 8 5,
 Ot 9 (.bin .gtr (.t 8) (ci 0)),
 Om 10 9,
 Oh 11 10 (.mov (.t 1)),
 Oh 12 10 (.mov (.t 5)),
 Oh 13 10 (.bin .sub (.t 12) (ci 1)),
 Oh 14 10 (.idxA 1 (.t 11) (.t 13)),
 Oh 15 10 (.load 1 false (.t 14)),
 Oh 16 10 (.bin .eql (.t 15) (ci 0)),
 Ot 17 (.pick (.t 10) (.t 16) (.c (.bool false)))])
 (.cond (.t 17) .skip
 (.exit 0)))
 (.keep [0,1,4,5] (.block 1 (kp [0,1,4,5] [Om 18 5,
 Ot 19 (.bin .sub (.t 18) (ci 1)),
 Om 5 19]))))))
 (.seq (kp [4] [Om 20 0,
 Om 21 20,
 Oh 22 21 (.mov (.t 5)),
 Oh 23 21 (.bin .gtr (.t 22) (ci 0)),
 Ot 24 (.pick (.t 21) (.t 23) (.c (.bool false))),
 Om 25 1,
 Om 26 5,
 Ot 27 (.red (.slc 1 false true false) [.t 25,.t 26]),
 Ot 28 (.build [(.bool false),.nil] [(0,1,(.t 24)),(1,1,(.t 27))]),
 Oy 2 4 28])
 .ret))))
def gimbalref01_made.res : List RX := [(4, some (2, true))]
theorem gimbalref01_made.of : OfT pg zc6 gimbalref01_made.k gimbalref01_made.res 2 := OfI Tryz.func128
end Go.Gim
/- Functions' code as data (written by wip/tools/gen.py), and the step to their contracts. -/
set_option maxRecDepth 100000
namespace Go.Gim
open Go.Proofs
def gimbalref16_State.k : K :=
 (.seq (kp [0] [Ot 2 (.mov (.c (.bool false)))])
 (.seq (.seq (kp [0,3] [Oc 3 0])
 (.block 0 (.loop (.seq (.seq (kp [0,3,7] [Om 4 3,
 Om 5 0,
 On 6 5,
 Ot 7 (.bin .lss (.t 4) (.t 6))])
 (.cond (.t 7) .skip
 (.exit 0)))
 (.seq (.block 1 (.seq (kp [0,3,14] [Om 10 0,
 Om 11 3,
 Oi 12 1 10 11,
 Ol 13 1 12,
 Ot 14 (.callG zbt [.t 13,(.c (.int .i64 (-1000000))),ci 1000000])])
 (.cond (.t 14) (.seq (kp [2] [Ot 2 (.mov (.c (.bool false)))])
 .ret)
 .skip)))
 (kp [0,3] [Om 8 3,
 Ot 9 (.bin .add (.t 8) (ci 1)),
 Om 3 9]))))))
 (.seq (kp [2] [Ot 2 (.mov (.c (.bool true)))])
 .ret)))
def gimbalref16_State.res : List RX := [(2, none)]
theorem gimbalref16_State.of : OfT pg zcx gimbalref16_State.k gimbalref16_State.res 1 := OfI Tryz.func15
def gimbalref16_out.k : K :=
 (.seq (kp [0,1,2] [Ot 6 (.mov (.c (.bool false)))])
 (.seq (kp [6] [Om 7 0,
 Om 8 1,
 Ot 9 (.bin .lss (.t 7) (.t 8)),
 Om 10 9,
 Og 11 10 (.mov (.t 0)),
 Og 12 10 (.mov (.t 2)),
 Og 13 10 (.bin .gtr (.t 11) (.t 12)),
 Ot 14 (.pick (.t 10) (.c (.bool true)) (.t 13)),
 Om 6 14])
 .ret))
def gimbalref16_out.res : List RX := [(6, none)]
theorem gimbalref16_out.of : OfT pg zbt gimbalref16_out.k gimbalref16_out.res 3 := OfI Tryz.func70
def gimbalref16_Right.k : K :=
 (.seq (kp [1,2] [Ot 2 (.boxP (.t 0)),
 Ot 4 (.mov (.c (.bool false)))])
 (.seq (.seq (kp [1,2,29] [Oq 6 0 1 2,
 Ol 7 1 6,
 On 8 7,
 Om 9 1,
 Ot 10 (.bin .neq (.t 8) (.t 9)),
 Om 11 10,
 Og 12 11 (.mov (.t 1)),
 Og 13 11 (.bin .gtr (.t 12) (ci 11)),
 Ot 14 (.pick (.t 11) (.c (.bool true)) (.t 13)),
 Om 15 14,
 Og 16 15 (.fldA 1 1 false (.t 2)),
 Og 17 15 (.load 1 false (.t 16)),
 Og 18 15 (.callG zbt [.t 17,(.c (.int .i64 (-1000000000))),ci 1000000000]),
 Ot 19 (.pick (.t 15) (.c (.bool true)) (.t 18)),
 Om 20 19,
 Og 21 20 (.fldA 2 1 false (.t 2)),
 Og 22 20 (.load 1 false (.t 21)),
 Og 23 20 (.callG zbt [.t 22,ci 1,ci 32768]),
 Ot 24 (.pick (.t 20) (.c (.bool true)) (.t 23)),
 Om 25 24,
 Og 26 25 (.fldA 3 1 false (.t 2)),
 Og 27 25 (.load 1 false (.t 26)),
 Og 28 25 (.callG zbt [.t 27,ci 1,ci 100]),
 Ot 29 (.pick (.t 25) (.c (.bool true)) (.t 28))])
 (.cond (.t 29) (.seq (kp [4] [Ot 4 (.mov (.c (.bool false)))])
 .ret)
 .skip))
 (.seq (.seq (kp [1,2,5] [Oc 5 0])
 (.block 0 (.loop (.seq (.seq (kp [1,2,5,32] [Om 30 5,
 Om 31 1,
 Ot 32 (.bin .lss (.t 30) (.t 31))])
 (.cond (.t 32) .skip
 (.exit 0)))
 (.seq (.block 1 (.seq (kp [1,2,5,40] [Oq 35 0 1 2,
 Ol 36 1 35,
 Om 37 5,
 Oi 38 1 36 37,
 Ol 39 1 38,
 Ot 40 (.callG zbt [.t 39,(.c (.int .i64 (-1000))),ci 1000])])
 (.cond (.t 40) (.seq (kp [4] [Ot 4 (.mov (.c (.bool false)))])
 .ret)
 .skip)))
 (kp [1,2,5] [Om 33 5,
 Ot 34 (.bin .add (.t 33) (ci 1)),
 Om 5 34]))))))
 (.seq (kp [4] [Ot 4 (.mov (.c (.bool true)))])
 .ret))))
def gimbalref16_Right.res : List RX := [(4, none)]
theorem gimbalref16_Right.of : OfT pg zee gimbalref16_Right.k gimbalref16_Right.res 2 := OfI Tryz.func126
def gimbalref17_New.k : K :=
 (.seq (kp [0,1,4] [Ot 4 (.alloc 8 (.agg [(.int .i64 0),.nil,.nil,.nil,(.bool false),(.sl []),(.bool false),(.sl [])])),
 Oc 5 0])
 (.seq (.seq (kp [0,1,4,15] [Om 10 0,
 Ot 11 (.bin .lss (.t 10) (ci 1)),
 Om 12 11,
 Og 13 12 (.mov (.t 0)),
 Og 14 12 (.bin .gtr (.t 13) (ci 11)),
 Ot 15 (.pick (.t 12) (.c (.bool true)) (.t 14))])
 (.cond (.t 15) (.seq (kp [4,5] [Ot 16 (.build [(.int .i64 0),.nil,.nil,.nil,(.bool false),(.sl []),(.bool false),(.sl [])] []),
 Oy 8 4 16,
 Oc 5 1])
 .ret)
 .skip))
 (.seq (.seq (kp [0,1,4,19] [Om 17 1,
 On 18 17,
 Ot 19 (.bin .gtr (.t 18) (ci 60))])
 (.cond (.t 19) (.seq (kp [4,5] [Ot 20 (.build [(.int .i64 0),.nil,.nil,.nil,(.bool false),(.sl []),(.bool false),(.sl [])] []),
 Oy 8 4 20,
 Oc 5 3])
 .ret)
 .skip))
 (.seq (.seq (kp [0,1,4,6] [Oc 6 0])
 (.block 0 (.loop (.seq (.seq (kp [0,1,4,6,24] [Om 21 6,
 Om 22 1,
 On 23 22,
 Ot 24 (.bin .lss (.t 21) (.t 23))])
 (.cond (.t 24) .skip
 (.exit 0)))
 (.seq (.block 1 (.seq (kp [0,1,4,6,7] [Om 27 1,
 Om 28 6,
 Oi 29 4 27 28,
 OL 30 4 29,
 Om 31 0,
 Ot 32 (.callG zee [.t 30,.t 31]),
 Om 7 32])
 (.seq (kp [0,1,4,6,34] [Om 33 7,
 Ot 34 (.un .not (.t 33))])
 (.cond (.t 34) (.seq (kp [4,5] [Ot 35 (.build [(.int .i64 0),.nil,.nil,.nil,(.bool false),(.sl []),(.bool false),(.sl [])] []),
 Oy 8 4 35,
 Oc 5 160])
 .ret)
 .skip))))
 (kp [0,1,4,6] [Om 25 6,
 Ot 26 (.bin .add (.t 25) (ci 1)),
 Om 6 26]))))))
 (.seq (kp [0,1,4,8] [Om 36 0,
 Ot 37 (.new (.mks 1 24 .nil) [.t 36,.t 36]),
 Om 8 37])
 (.seq (.seq (kp [0,1,4,8,9] [Oc 9 0])
 (.block 2 (.loop (.seq (.seq (kp [0,1,4,8,9,40] [Om 38 9,
 Om 39 0,
 Ot 40 (.bin .lss (.t 38) (.t 39))])
 (.cond (.t 40) .skip
 (.exit 2)))
 (.seq (.block 3 (kp [0,1,4,8,9] [Om 43 8,
 Om 44 9,
 Om 45 0,
 Ot 46 (.new (.mks 1 8 (.int .i64 0)) [.t 45,.t 45]),
 Oi 47 1 43 44,
 Oy 1 47 46]))
 (kp [0,1,4,8,9] [Om 41 9,
 Ot 42 (.bin .add (.t 41) (ci 1)),
 Om 9 42]))))))
 (.seq (kp [4,5] [Om 48 0,
 Om 49 1,
 Om 50 8,
 Om 51 0,
 Ot 52 (.new (.mks 1 8 (.int .i64 0)) [.t 51,.t 51]),
 Ot 53 (.callG zd7 [.t 50,.t 52,ci 0]),
 Ot 54 (.callG zb3 [ci 1]),
 Ot 55 (.build [(.int .i64 0),.nil,.nil,.nil,(.bool false),(.sl []),(.bool false),(.sl [])] [(0,1,(.t 48)),(1,1,(.t 49)),(2,4,(.t 53)),(6,2,(.t 54))]),
 Oy 8 4 55,
 Oc 5 0])
 .ret)))))))
def gimbalref17_New.res : List RX := [(4, some (8, true)), (5, none)]
theorem gimbalref17_New.of : OfT pg zfb gimbalref17_New.k gimbalref17_New.res 2 := OfI Tryz.func54
def gimbalref07_Of.k : K :=
 (.seq (kp [0] [Ot 2 (.mov (.c .nil))])
 (.seq (kp [0,3] [Ot 3 (.mov (.c .nil))])
 (.seq (.seq (kp [0,3,4] [Oc 4 0])
 (.block 0 (.loop (.seq (.seq (kp [0,3,4,10] [Om 7 4,
 Om 8 0,
 On 9 8,
 Ot 10 (.bin .lss (.t 7) (.t 9))])
 (.cond (.t 10) .skip
 (.exit 0)))
 (.seq (.block 1 (.seq (kp [0,3,4,5] [Ot 5 (.mov (.c .nil))])
 (.seq (.seq (kp [0,3,4,5,6] [Oc 6 0])
 (.block 2 (.loop (.seq (.seq (kp [0,3,4,5,6,19] [Om 13 6,
 Om 14 0,
 Om 15 4,
 Oi 16 1 14 15,
 Ol 17 1 16,
 On 18 17,
 Ot 19 (.bin .lss (.t 13) (.t 18))])
 (.cond (.t 19) .skip
 (.exit 2)))
 (.seq (.block 3 (kp [0,3,4,5,6] [Om 22 5,
 Om 23 0,
 Om 24 4,
 Oi 25 1 23 24,
 Ol 26 1 25,
 Om 27 6,
 Oi 28 1 26 27,
 Ol 29 1 28,
 Ot 30 (.callG zb3 [.t 29]),
 Ot 31 (.new (.bsl 2) [.t 30]),
 Ot 32 (.eff (.app 2 32) [.t 22,.t 31]),
 Om 5 32]))
 (kp [0,3,4,5,6] [Om 20 6,
 Ot 21 (.bin .add (.t 20) (ci 1)),
 Om 6 21]))))))
 (.gh (kp [0,3,4] [Om 33 3,
 Om 34 5,
 Ot 35 (.new (.bsl 1) [.t 34]),
 Ot 36 (.eff (.app 1 24) [.t 33,.t 35]),
 Om 3 36])))))
 (kp [0,3,4] [Om 11 4,
 Ot 12 (.bin .add (.t 11) (ci 1)),
 Om 4 12]))))))
 (.seq (kp [2] [Om 37 3,
 Om 2 37])
 .ret))))
def gimbalref07_Of.res : List RX := [(2, none)]
theorem gimbalref07_Of.of : OfT pg zfy gimbalref07_Of.k gimbalref07_Of.res 1 := OfI Tryz.func127
def gimbalref08_Of.k : K :=
 (.seq (kp [0,1,2,6] [Ot 6 (.alloc 4 (.agg [.nil,.nil,(.bool false),(.sl [])]))])
 (.seq (kp [1,6,7] [Om 9 0,
 Ot 10 (.callG zfy [.t 9]),
 Om 11 2,
 Ot 12 (.callG zb3 [.t 11]),
 Ot 13 (.build [.nil,.nil,(.bool false),(.sl [])] [(0,1,(.t 10)),(2,2,(.t 12))]),
 Ot 7 (.alloc 4 (.agg [.nil,.nil,(.bool false),(.sl [])])),
 Oy 4 7 13])
 (.seq (.seq (kp [1,6,7,8] [Oc 8 0])
 (.block 0 (.loop (.seq (.seq (kp [1,6,7,8,17] [Om 14 8,
 Om 15 1,
 On 16 15,
 Ot 17 (.bin .lss (.t 14) (.t 16))])
 (.cond (.t 17) .skip
 (.exit 0)))
 (.seq (.block 1 (kd [1,6,7,8] [Oq 20 1 1 7,
 Ol 21 1 20,
 Om 22 1,
 Om 23 8,
 Oi 24 1 22 23,
 Ol 25 1 24,
 Ot 26 (.call zb3 [.t 25]),
 Ot 27 (.new (.bsl 2) [.t 26]),
 Ot 28 (.eff (.app 2 32) [.t 21,.t 27]),
 Oq 29 1 1 7,
 Oy 1 29 28]))
 (kp [1,6,7,8] [Om 18 8,
 Ot 19 (.bin .add (.t 18) (ci 1)),
 Om 8 19]))))))
 (.seq (kp [6] [OL 30 4 7,
 Oy 4 6 30])
 .ret))))
def gimbalref08_Of.res : List RX := [(6, some (4, true))]
theorem gimbalref08_Of.of : OfT pg zd7 gimbalref08_Of.k gimbalref08_Of.res 3 := OfI Tryz.func57
end Go.Gim

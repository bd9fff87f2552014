import Derived.Test.YtjmbcnfhonfpkaaGreatDoorGN
/- Functions' code as data (written by wip/tools/gen.py), and the step to their contracts. -/
set_option maxRecDepth 100000
namespace Go.Gim
open Go.Proofs
def solve_Solve.k : K :=
 (.seq (kp [2,3,4,6] [Ot 3 (.boxP (.t 0)),
 Ot 4 (.boxP (.t 1)),
 Ot 6 (.alloc 4 (.agg [.nil,(.int .i64 0),(.int .i64 0),(.int .i64 0)])),
 Oc 7 0])
 (.scope (.seq (.seq (kp [2,3,4,6,9] [OL 16 17 4,
 Ot 17 (.callG zek [.t 16]),
 Om 15 17,
 Ot 18 (.ext (.t 15) 0),
 Ot 19 (.ext (.t 15) 1),
 Om 8 18,
 Om 9 19])
 (.seq (kp [2,3,4,6,9,21] [Om 20 9,
 Ot 21 (.bin .neq (.t 20) (ci 0))])
 (.cond (.t 21) (.seq (kp [6,7] [Ot 22 (.build [.nil,(.int .i64 0),(.int .i64 0),(.int .i64 0)] []),
 Om 23 9,
 Oy 4 6 22,
 Om 7 23])
 .ret)
 .skip)))
 (.seq (.seq (kp [2,3,4,6,33] [Om 24 2,
 On 25 24,
 Oq 26 0 1 3,
 Ol 27 1 26,
 Ot 28 (.bin .neq (.t 25) (.t 27)),
 Om 29 28,
 Og 30 29 (.mov (.t 2)),
 Og 31 29 (.callG zgd [.t 30]),
 Og 32 29 (.un .not (.t 31)),
 Ot 33 (.pick (.t 29) (.c (.bool true)) (.t 32))])
 (.cond (.t 33) (.seq (kp [6,7] [Ot 34 (.build [.nil,(.int .i64 0),(.int .i64 0),(.int .i64 0)] []),
 Oy 4 6 34,
 Oc 7 170])
 .ret)
 .skip))
 (.seq (kp [3,4,6,10] [Om 35 2,
 Ot 36 (.callG zam [.t 35]),
 Ot 37 (.build [.nil,(.int .i64 0),(.int .i64 0),(.int .i64 0)] [(0,1,(.t 36))]),
 Ot 10 (.alloc 4 (.agg [.nil,(.int .i64 0),(.int .i64 0),(.int .i64 0)])),
 Oy 4 10 37])
 (.seq .skip
 (.block 0 (.loop (.keep [3,4,6,10] (.block 1 (.seq (.block 2 (.seq (kp [3,4,6,10,38] [OL 39 8 3,
 Oq 40 0 1 10,
 Ol 41 1 40,
 Oq 42 16 1 4,
 Ol 43 1 42,
 Ot 44 (.callG n_cost_Flat [.t 39,.t 41,.t 43]),
 Om 38 44])
 (.cond (.t 38) (.seq (kp [6,10] [Oq 45 1 1 10,
 ⟨none, none,.store 1 (.t 45) (ci 1)⟩])
 (.seq (kp [6,7] [OL 46 4 10,
 Oy 4 6 46,
 Oc 7 0])
 .ret))
 (.seq (kp [3,4,6,10,47] [Oq 48 2 1 10,
 Ol 49 1 48,
 Oq 50 14 1 4,
 Ol 51 1 50,
 Ot 52 (.bin .eql (.t 49) (.t 51)),
 Om 47 52])
 (.cond (.t 47) (.seq (kp [6,10] [Oq 53 1 1 10,
 ⟨none, none,.store 1 (.t 53) (ci 2)⟩])
 (.seq (kp [6,7] [OL 54 4 10,
 Oy 4 6 54,
 Oc 7 0])
 .ret))
 .skip)))))
 (.seq (kp [3,4,6,10] [Oq 55 1 1 10,
 ⟨none, none,.store 1 (.t 55) (ci 5)⟩])
 (.seq (.seq (kp [3,4,6,10,11] [Oc 11 0])
 (.block 3 (.loop (.seq (.seq (kp [3,4,6,10,11,59] [Om 56 11,
 Oq 57 15 1 4,
 Ol 58 1 57,
 Ot 59 (.bin .leq (.t 56) (.t 58))])
 (.cond (.t 59) .skip
 (.exit 3)))
 (.seq (.block 4 (.seq (kp [3,4,6,10,11,12,13] [OL 63 8 3,
 Oq 64 0 1 10,
 Ol 65 1 64,
 Om 66 11,
 Ot 67 (.callG n_solve_Step [.t 63,.t 65,.t 66]),
 Om 62 67,
 Ot 68 (.ext (.t 62) 0),
 Ot 69 (.ext (.t 62) 1),
 Om 12 68,
 Om 13 69])
 (.seq (.seq (kp [3,4,6,10,11,12,71] [Om 70 13,
 Ot 71 (.bin .neq (.t 70) (ci 0))])
 (.cond (.t 71) (.exit 4)
 .skip))
 (.seq (kp [3,4,6,10,11,12] [Oq 72 3 1 10,
 Ol 73 1 72,
 Ot 74 (.bin .add (.t 73) (ci 1)),
 Oq 75 3 1 10,
 Oy 1 75 74])
 (.seq (.seq (kp [3,4,6,10,11,12,78] [Oq 76 1 1 10,
 Ol 77 1 76,
 Ot 78 (.bin .eql (.t 77) (ci 5))])
 (.cond (.t 78) (kp [3,4,6,10,11,12] [Oq 79 1 1 10,
 ⟨none, none,.store 1 (.t 79) (ci 3)⟩])
 .skip))
 (.seq (.seq (kp [3,4,6,10,11,12,82] [Om 80 12,
 Ot 81 (.callG zbz [.t 80,(.c (.fn zd0 []))]),
 Ot 82 (.un .not (.t 81))])
 (.cond (.t 82) (.exit 3)
 .skip))
 (.seq (kp [3,4,6,10,11,14] [Oq 83 0 1 10,
 Ol 84 1 83,
 Om 85 12,
 Ot 86 (.callG n_solve_moved [.t 84,.t 85]),
 Om 14 86])
 (.block 5 (.seq (kp [3,4,6,10,11,14,87] [Om 88 14,
 Ot 89 (.callG zgd [.t 88]),
 Ot 90 (.un .not (.t 89)),
 Om 87 90])
 (.cond (.t 87) (kp [3,4,6,10,11] [Oq 91 1 1 10,
 ⟨none, none,.store 1 (.t 91) (ci 4)⟩])
 (.seq (kp [3,4,6,10,11,14,92] [OL 93 8 3,
 Om 94 14,
 Oq 95 0 1 10,
 Ol 96 1 95,
 Ot 97 (.callG n_cost_Less [.t 93,.t 94,.t 96]),
 Om 92 97])
 (.cond (.t 92) (.seq (kp [3,4,6,10] [Om 98 14,
 Oq 99 0 1 10,
 Oy 1 99 98])
 (.seq (kp [3,4,6,10] [Oq 100 2 1 10,
 Ol 101 1 100,
 Ot 102 (.bin .add (.t 101) (ci 1)),
 Oq 103 2 1 10,
 Oy 1 103 102])
 (.exit 1)))
 .skip))))))))))))
 (kp [3,4,6,10,11] [Om 60 11,
 Ot 61 (.bin .add (.t 60) (ci 1)),
 Om 11 61]))))))
 (.seq (kp [6,7] [OL 104 4 10,
 Oy 4 6 104,
 Oc 7 0])
 .ret))))))))))))))
def solve_Solve.res : List RX := [(6, some (4, true)), (7, none)]
theorem solve_Solve.of : OfT pg n_solve_Solve solve_Solve.k solve_Solve.res 3 := OfI Tryz.func23
def solve_Step.k : K :=
 (.seq (kp [1,2,3,6] [Ot 3 (.boxP (.t 0)),
 Ot 6 (.mov (.c .nil)),
 Oc 7 0])
 (.seq (.block 0 (.seq (kp [1,2,3,6,16] [Om 17 1,
 On 18 17,
 Oq 19 0 1 3,
 Ol 20 1 19,
 Ot 21 (.bin .neq (.t 18) (.t 20)),
 Om 22 21,
 Og 23 22 (.mov (.t 1)),
 Og 24 22 (.callG zgd [.t 23]),
 Og 25 22 (.un .not (.t 24)),
 Ot 26 (.pick (.t 22) (.c (.bool true)) (.t 25)),
 Om 16 26])
 (.cond (.t 16) (.seq (kp [6,7] [Ot 6 (.mov (.c .nil)),
 Oc 7 170])
 .ret)
 (.seq (kp [1,2,3,6,27] [Om 28 2,
 Ot 29 (.bin .lss (.t 28) (ci 0)),
 Om 30 29,
 Og 31 30 (.mov (.t 2)),
 Og 32 30 (.bin .gtr (.t 31) (ci 12)),
 Ot 33 (.pick (.t 30) (.c (.bool true)) (.t 32)),
 Om 27 33])
 (.cond (.t 27) (.seq (kp [6,7] [Ot 6 (.mov (.c .nil)),
 Oc 7 1])
 .ret)
 .skip)))))
 (.seq (kd [1,3,6,8] [OL 34 8 3,
 Om 35 1,
 Ot 36 (.call zet [.t 34,.t 35]),
 OL 37 8 3,
 Om 38 2,
 Ot 39 (.call zg5 [.t 37,.t 38]),
 Ot 40 (.call zhv [.t 36,.t 39]),
 Om 8 40])
 (.seq (.seq (kp [1,3,6,8,43] [Om 41 8,
 Ot 42 (.callG zfc [.t 41]),
 Ot 43 (.un .not (.t 42))])
 (.cond (.t 43) (.seq (kp [6,7] [Ot 6 (.mov (.c .nil)),
 Oc 7 80])
 .ret)
 .skip))
 (.seq (kp [6,8,9] [OL 44 8 3,
 Om 45 1,
 Ot 46 (.callG zd2 [.t 44,.t 45]),
 Om 9 46])
 (.seq (.seq (kp [6,8,9,48,49] [Om 47 9,
 On 48 47,
 Oc 49 0])
 (.block 1 (.loop (.seq (kp [6,8,9,48,49,50] [Ot 50 (.bin .lss (.t 49) (.t 48))])
 (.seq (.cond (.t 50) .skip
 (.exit 1))
 (.seq (.block 2 (.seq (kp [6,8,9,10,48,49] [Om 51 49,
 Om 10 51])
 (kd [6,8,9,48,49] [Om 52 9,
 Om 53 10,
 Om 54 9,
 Om 55 10,
 Oi 56 2 54 55,
 OL 57 2 56,
 Ot 58 (.call zav [(.c (.int .i64 (-1024)))]),
 Ot 59 (.call zai [.t 57,.t 58]),
 Oi 60 2 52 53,
 Oy 2 60 59])))
 (kp [6,8,9,48,49] [Ot 61 (.bin .add (.t 49) (ci 1)),
 Om 49 61])))))))
 (.seq (kp [6,11,12] [Om 63 8,
 Om 64 9,
 Ot 65 (.callG zfb [.t 63,.t 64]),
 Om 62 65,
 Ot 66 (.ext (.t 62) 0),
 Ot 67 (.ext (.t 62) 1),
 Ot 68 (.ext (.t 62) 2),
 Ot 12 (.alloc 2 (.agg [(.bool false),(.sl [])])),
 Om 11 66,
 Oy 2 12 67,
 Om 13 68])
 (.seq (.seq (kp [6,12,69,70,71] [Om 69 11,
 On 70 69,
 Oc 71 0])
 (.block 3 (.loop (.seq (kp [6,12,69,70,71,72] [Ot 72 (.bin .lss (.t 71) (.t 70))])
 (.seq (.cond (.t 72) .skip
 (.exit 3))
 (.seq (.block 4 (.seq (kp [6,12,15,69,70,71] [Oi 73 2 69 71,
 OL 74 2 73,
 Ot 15 (.alloc 2 (.agg [(.bool false),(.sl [])])),
 Oy 2 15 74])
 (kp [6,12,69,70,71] [Om 75 6,
 OL 76 2 15,
 OL 77 2 12,
 Ot 78 (.callG zg4 [.t 76,.t 77]),
 Ot 79 (.new (.bsl 1) [.t 78]),
 Ot 80 (.eff (.app 1 8) [.t 75,.t 79]),
 Om 6 80])))
 (kp [6,12,69,70,71] [Ot 81 (.bin .add (.t 71) (ci 1)),
 Om 71 81])))))))
 (.seq (kp [6,7] [Om 82 6,
 Om 6 82,
 Oc 7 0])
 .ret)))))))))
def solve_Step.res : List RX := [(6, none), (7, none)]
theorem solve_Step.of : OfT pg n_solve_Step solve_Step.k solve_Step.res 3 := OfI Tryz.func64
def solve_Solve_1.k : K :=
 (.seq (kp [0] [Ot 2 (.mov (.c (.bool false)))])
 (.seq (kp [2] [Om 3 0,
 Ot 4 (.bin .neq (.t 3) (ci 0)),
 Om 2 4])
 .ret))
def solve_Solve_1.res : List RX := [(2, none)]
theorem solve_Solve_1.of : OfT pg zd0 solve_Solve_1.k solve_Solve_1.res 1 := OfI Tryz.func66
def solve_moved.k : K :=
 (.seq (kp [0,1] [Ot 4 (.mov (.c .nil))])
 (.seq (kp [1,5] [Om 7 0,
 Ot 8 (.callG zam [.t 7]),
 Om 5 8])
 (.seq (.seq (kp [1,5,10,11] [Om 9 1,
 On 10 9,
 Oc 11 0])
 (.block 0 (.loop (.seq (kp [1,5,10,11,12] [Ot 12 (.bin .lss (.t 11) (.t 10))])
 (.seq (.cond (.t 12) .skip
 (.exit 0))
 (.seq (.block 1 (.seq (kp [1,5,6,10,11] [Om 13 11,
 Om 6 13])
 (kd [1,5,10,11] [Om 14 5,
 Om 15 6,
 Oi 16 1 14 15,
 Ol 17 1 16,
 Om 18 1,
 Om 19 6,
 Oi 20 1 18 19,
 Ol 21 1 20,
 Ot 22 (.bin .add (.t 17) (.t 21)),
 Oi 23 1 14 15,
 Oy 1 23 22])))
 (kp [1,5,10,11] [Ot 24 (.bin .add (.t 11) (ci 1)),
 Om 11 24])))))))
 (.seq (kp [4] [Om 25 5,
 Om 4 25])
 .ret))))
def solve_moved.res : List RX := [(4, none)]
theorem solve_moved.of : OfT pg n_solve_moved solve_moved.k solve_moved.res 2 := OfI Tryz.func67
def solve_damped.k : K :=
 (.seq (kp [0,3] [Ot 3 (.boxP (.t 1)),
 Ot 4 (.mov (.c .nil))])
 (.seq (kp [0,3,5] [Ot 5 (.mov (.c .nil))])
 (.seq (.seq (kp [3,5,8,9,10] [Om 8 0,
 On 9 8,
 Oc 10 0])
 (.block 0 (.loop (.seq (kp [3,5,8,9,10,11] [Ot 11 (.bin .lss (.t 10) (.t 9))])
 (.seq (.cond (.t 11) .skip
 (.exit 0))
 (.seq (.block 1 (.seq (kp [3,5,6,7,8,9,10] [Om 12 10,
 Oi 13 1 8 10,
 Ol 14 1 13,
 Om 6 12,
 Om 7 14])
 (.seq (kp [3,5,6,7,8,9,10] [Om 15 7,
 Ot 16 (.callG zbb [.t 15]),
 Om 7 16])
 (.seq (kd [3,5,7,8,9,10] [Om 17 7,
 Om 18 6,
 Om 19 7,
 Om 20 6,
 Oi 21 2 19 20,
 OL 22 2 21,
 OL 23 2 3,
 Ot 24 (.call zao [.t 22,.t 23]),
 Oi 25 2 17 18,
 Oy 2 25 24])
 (.gh (kp [3,5,8,9,10] [Om 26 5,
 Om 27 7,
 Ot 28 (.new (.bsl 1) [.t 27]),
 Ot 29 (.eff (.app 1 24) [.t 26,.t 28]),
 Om 5 29]))))))
 (kp [3,5,8,9,10] [Ot 30 (.bin .add (.t 10) (ci 1)),
 Om 10 30])))))))
 (.seq (kp [4] [Om 31 5,
 Om 4 31])
 .ret))))
def solve_damped.res : List RX := [(4, none)]
theorem solve_damped.of : OfT pg zhv solve_damped.k solve_damped.res 2 := OfI Tryz.func105
def solve_damping.k : K :=
 (.seq (kp [1,2,4] [Ot 2 (.boxP (.t 0)),
 Ot 4 (.alloc 2 (.agg [(.bool false),(.sl [])]))])
 (.seq (.seq (kp [1,2,4,6] [Om 5 1,
 Ot 6 (.bin .eql (.t 5) (ci 0))])
 (.cond (.t 6) (.seq (kp [4] [Ot 7 (.build [(.bool false),(.sl [])] []),
 Oy 2 4 7])
 .ret)
 .skip))
 (.seq (kd [4] [Ot 8 (.fldA 6 2 true (.t 2)),
 OL 9 2 8,
 Om 10 1,
 Ot 11 (.bin .sub (.t 10) (ci 1)),
 Ot 12 (.bin .mul (ci 2) (.t 11)),
 Ot 13 (.bin .shl (ci 1) (.t 12)),
 Ot 14 (.call zav [.t 13]),
 Ot 15 (.call zai [.t 9,.t 14]),
 Oy 2 4 15])
 .ret)))
def solve_damping.res : List RX := [(4, some (2, true))]
theorem solve_damping.of : OfT pg zg5 solve_damping.k solve_damping.res 2 := OfI Tryz.func107
def solve_nearest.k : K :=
 (.seq (kp [2,3] [Ot 2 (.boxP (.t 0)),
 Ot 3 (.boxP (.t 1)),
 Oc 4 0])
 (.seq (kd [5] [OL 11 2 2,
 Ot 12 (.call zav [ci 2]),
 Ot 13 (.call zai [.t 11,.t 12]),
 OL 14 2 3,
 Ot 15 (.call zao [.t 13,.t 14]),
 OL 16 2 3,
 Ot 17 (.call zav [ci 2]),
 Ot 18 (.call zai [.t 16,.t 17]),
 Ot 19 (.call zc3 [.t 15,.t 18]),
 Om 10 19,
 Ot 20 (.ext (.t 10) 0),
 Ot 21 (.ext (.t 10) 1),
 Ot 22 (.ext (.t 10) 2),
 Ot 5 (.alloc 2 (.agg [(.bool false),(.sl [])])),
 Ot 6 (.alloc 2 (.agg [(.bool false),(.sl [])])),
 Oy 2 5 20,
 Oy 2 6 21,
 Om 7 22])
 (.seq (kp [5,8,9] [OL 24 2 5,
 Ot 25 (.callG zcr [.t 24]),
 Om 23 25,
 Ot 26 (.ext (.t 23) 0),
 Ot 27 (.ext (.t 23) 1),
 Om 8 26,
 Om 9 27])
 (.seq (.seq (kp [5,8,29] [Om 28 9,
 Ot 29 (.un .not (.t 28))])
 (.cond (.t 29) (kp [8] [OL 30 2 5,
 Ot 31 (.callG zcn [.t 30]),
 Ot 32 (.bin .mul (ci 10000000) (.t 31)),
 Om 8 32])
 .skip))
 (.seq (kp [4] [Om 33 8,
 Ot 34 (.mm false (.t 33) [ci 10000000]),
 Ot 35 (.mm true (.c (.int .i64 (-10000000))) [.t 34]),
 Om 4 35])
 .ret)))))
def solve_nearest.res : List RX := [(4, none)]
theorem solve_nearest.of : OfT pg zg4 solve_nearest.k solve_nearest.res 2 := OfI Tryz.func110
end Go.Gim
/- Functions' code as data (written by wip/tools/gen.py), and the step to their contracts. -/
set_option maxRecDepth 100000
namespace Go.Gim
open Go.Proofs
def span_Of.k : K :=
 (.seq (kp [0,1,4] [Ot 4 (.alloc 3 (.agg [(.int .i64 0),(.int .i64 0),(.bool false)]))])
 (.seq (kp [4] [Om 5 0,
 Om 6 1,
 Ot 7 (.mm false (.t 5) [.t 6]),
 Om 8 0,
 Om 9 1,
 Ot 10 (.mm true (.t 8) [.t 9]),
 Ot 11 (.callG zeq [.t 7,.t 10]),
 Oy 3 4 11])
 .ret))
def span_Of.res : List RX := [(4, some (3, true))]
theorem span_Of.of : OfT pg zej span_Of.k span_Of.res 2 := OfI Tryz.func42
def span_whole.k : K :=
 (.seq (kp [0] [Ot 0 (.alloc 3 (.agg [(.int .i64 0),(.int .i64 0),(.bool false)]))])
 (.seq (kp [0] [Ot 1 (.build [(.int .i64 0),(.int .i64 0),(.bool false)] [(2,1,(.c (.bool true)))]),
 Oy 3 0 1])
 .ret))
def span_whole.res : List RX := [(0, some (3, true))]
theorem span_whole.of : OfT pg zdz span_whole.k span_whole.res 0 := OfI Tryz.func45
def span_made.k : K :=
 (.seq (kp [0,1,4] [Ot 4 (.alloc 3 (.agg [(.int .i64 0),(.int .i64 0),(.bool false)]))])
 (.seq (kp [4] [Om 5 0,
 Om 6 1,
 Ot 7 (.build [(.int .i64 0),(.int .i64 0),(.bool false)] [(0,1,(.t 5)),(1,1,(.t 6))]),
 Ot 8 (.callG zbi [.t 7]),
 Oy 3 4 8])
 .ret))
def span_made.res : List RX := [(4, some (3, true))]
theorem span_made.of : OfT pg zeq span_made.k span_made.res 2 := OfI Tryz.func46
def span_both.k : K :=
 (.seq (kp [2,3,4,6] [Ot 3 (.eff (.boxO 3) [.t 0]),
 Ot 4 (.eff (.boxO 3) [.t 1]),
 Ot 6 (.alloc 3 (.agg [(.int .i64 0),(.int .i64 0),(.bool false)]))])
 (.seq (kd [2,3,4,6] [OL 7 3 3,
 Ot 8 (.call zbi [.t 7]),
 OL 9 3 4,
 Ot 10 (.call zbi [.t 9]),
 Oy 3 3 8,
 Oy 3 4 10])
 (.seq (.seq (kp [2,3,4,6,16] [Oq 11 2 1 3,
 Ol 12 1 11,
 Om 13 12,
 Og 14 13 (.fldA 2 1 false (.t 4)),
 Og 15 13 (.load 1 false (.t 14)),
 Ot 16 (.pick (.t 13) (.c (.bool true)) (.t 15))])
 (.cond (.t 16) (.seq (kp [6] [Ot 17 (.callG zdz []),
 Oy 3 6 17])
 .ret)
 .skip))
 (.seq (kp [6] [Om 18 2,
 OL 19 3 3,
 OL 20 3 4,
 Ot 21 (.callGV (.t 18) [.t 19,.t 20]),
 Oy 3 6 21])
 .ret))))
def span_both.res : List RX := [(6, some (3, true))]
theorem span_both.of : OfT pg zc1 span_both.k span_both.res 3 := OfI Tryz.func75
def span_ends.k : K :=
 (.seq (kp [1] [Ot 1 (.boxP (.t 0)),
 Oc 2 0,
 Oc 3 0])
 (.seq (kd [1,2,3] [Ot 6 (.red (.aptr 4 1 false) [.t 1,ci 0]),
 Ol 7 1 6,
 Ot 8 (.red (.aptr 4 1 false) [.t 1,ci 0]),
 Ol 9 1 8,
 Om 2 7,
 Om 3 9])
 (.seq (.seq (kp [2,3,10,11] [OL 10 4 1,
 Oc 11 0])
 (.block 0 (.loop (.seq (kp [2,3,10,11,12] [Ot 12 (.bin .lss (.t 11) (ci 4))])
 (.seq (.cond (.t 12) .skip
 (.exit 0))
 (.seq (.block 1 (.seq (kp [2,3,5,10,11] [Ot 13 (.red (.aidx 4 1 false) [.t 10,.t 11]),
 Om 5 13])
 (kp [2,3,10,11] [Om 14 2,
 Om 15 5,
 Ot 16 (.mm false (.t 14) [.t 15]),
 Om 17 3,
 Om 18 5,
 Ot 19 (.mm true (.t 17) [.t 18]),
 Om 2 16,
 Om 3 19])))
 (kp [2,3,10,11] [Ot 20 (.bin .add (.t 11) (ci 1)),
 Om 11 20])))))))
 (.seq (kp [2,3] [Om 21 2,
 Om 22 3,
 Om 2 21,
 Om 3 22])
 .ret))))
def span_ends.res : List RX := [(2, none), (3, none)]
theorem span_ends.of : OfT pg zfs span_ends.k span_ends.res 1 := OfI Tryz.func78
def span_floor.k : K :=
 (.seq (kp [0,1] [Oc 4 0])
 (.seq (kp [0,1,5] [Om 6 0,
 Om 7 1,
 Ot 8 (.bin .quo (.t 6) (.t 7)),
 Om 5 8])
 (.seq (.seq (kp [5,19] [Om 9 0,
 Om 10 1,
 Ot 11 (.bin .rem (.t 9) (.t 10)),
 Ot 12 (.bin .neq (.t 11) (ci 0)),
 Om 13 12,
 Oh 14 13 (.mov (.t 0)),
 Oh 15 13 (.bin .lss (.t 14) (ci 0)),
 Oh 16 13 (.mov (.t 1)),
 Oh 17 13 (.bin .lss (.t 16) (ci 0)),
 Oh 18 13 (.eqB true (.t 15) (.t 17)),
 Ot 19 (.pick (.t 13) (.t 18) (.c (.bool false)))])
 (.cond (.t 19) (kp [5] [Om 20 5,
 Ot 21 (.bin .sub (.t 20) (ci 1)),
 Om 5 21])
 .skip))
 (.seq (kp [4] [Om 22 5,
 Om 4 22])
 .ret))))
def span_floor.res : List RX := [(4, none)]
theorem span_floor.of : OfT pg zci span_floor.k span_floor.res 2 := OfI Tryz.func79
def span_fixed.k : K :=
 (.seq (kp [0] [Ot 2 (.mov (.c (.bool false)))])
 (.seq (kp [2] [Om 3 0,
 Ot 4 (.bin .geq (.t 3) (.c (.int .i64 (-2147483647)))),
 Om 5 4,
 Oh 6 5 (.mov (.t 0)),
 Oh 7 5 (.bin .leq (.t 6) (ci 2147483647)),
 Ot 8 (.pick (.t 5) (.t 7) (.c (.bool false))),
 Om 2 8])
 .ret))
def span_fixed.res : List RX := [(2, none)]
theorem span_fixed.of : OfT pg zhe span_fixed.k span_fixed.res 1 := OfI Tryz.func85
def span_Span_Div.k : K :=
 (.seq (kp [2,3,4] [Ot 2 (.boxP (.t 0)),
 Ot 3 (.boxP (.t 1)),
 Ot 4 (.alloc 3 (.agg [(.int .i64 0),(.int .i64 0),(.bool false)]))])
 (.seq (kp [4] [OL 5 3 2,
 OL 6 3 3,
 Ot 7 (.callG zc1 [.t 5,.t 6,(.c (.fn zdf []))]),
 Oy 3 4 7])
 .ret))
def span_Span_Div.res : List RX := [(4, some (3, true))]
theorem span_Span_Div.of : OfT pg zg3 span_Span_Div.k span_Span_Div.res 2 := OfI Tryz.func31
def span_Span_Add.k : K :=
 (.seq (kp [2,3,4] [Ot 2 (.boxP (.t 0)),
 Ot 3 (.boxP (.t 1)),
 Ot 4 (.alloc 3 (.agg [(.int .i64 0),(.int .i64 0),(.bool false)]))])
 (.seq (kp [4] [OL 5 3 2,
 OL 6 3 3,
 Ot 7 (.callG zc1 [.t 5,.t 6,(.c (.fn zdg []))]),
 Oy 3 4 7])
 .ret))
def span_Span_Add.res : List RX := [(4, some (3, true))]
theorem span_Span_Add.of : OfT pg zbd span_Span_Add.k span_Span_Add.res 2 := OfI Tryz.func38
def span_Span_Mul.k : K :=
 (.seq (kp [2,3,4] [Ot 2 (.boxP (.t 0)),
 Ot 3 (.boxP (.t 1)),
 Ot 4 (.alloc 3 (.agg [(.int .i64 0),(.int .i64 0),(.bool false)]))])
 (.seq (kp [4] [OL 5 3 2,
 OL 6 3 3,
 Ot 7 (.callG zc1 [.t 5,.t 6,(.c (.fn zde []))]),
 Oy 3 4 7])
 .ret))
def span_Span_Mul.res : List RX := [(4, some (3, true))]
theorem span_Span_Mul.of : OfT pg zbp span_Span_Mul.k span_Span_Mul.res 2 := OfI Tryz.func39
def span_Span_right.k : K :=
 (.seq (kp [1,2] [Ot 1 (.boxP (.t 0)),
 Ot 2 (.alloc 3 (.agg [(.int .i64 0),(.int .i64 0),(.bool false)]))])
 (.seq (.seq (kp [1,2,23] [Oq 3 2 1 1,
 Ol 4 1 3,
 Om 5 4,
 Og 6 5 (.fldA 0 1 false (.t 1)),
 Og 7 5 (.load 1 false (.t 6)),
 Og 8 5 (.callG zhe [.t 7]),
 Og 9 5 (.un .not (.t 8)),
 Ot 10 (.pick (.t 5) (.c (.bool true)) (.t 9)),
 Om 11 10,
 Og 12 11 (.fldA 1 1 false (.t 1)),
 Og 13 11 (.load 1 false (.t 12)),
 Og 14 11 (.callG zhe [.t 13]),
 Og 15 11 (.un .not (.t 14)),
 Ot 16 (.pick (.t 11) (.c (.bool true)) (.t 15)),
 Om 17 16,
 Og 18 17 (.fldA 0 1 false (.t 1)),
 Og 19 17 (.load 1 false (.t 18)),
 Og 20 17 (.fldA 1 1 false (.t 1)),
 Og 21 17 (.load 1 false (.t 20)),
 Og 22 17 (.bin .gtr (.t 19) (.t 21)),
 Ot 23 (.pick (.t 17) (.c (.bool true)) (.t 22))])
 (.cond (.t 23) (.seq (kp [2] [Ot 24 (.callG zdz []),
 Oy 3 2 24])
 .ret)
 .skip))
 (.seq (kp [2] [OL 25 3 1,
 Oy 3 2 25])
 .ret)))
def span_Span_right.res : List RX := [(2, some (3, true))]
theorem span_Span_right.of : OfT pg zbi span_Span_right.k span_Span_right.res 1 := OfI Tryz.func44
def span_Span_Div_1.k : K :=
 (.seq (kp [2,3,4] [Ot 2 (.boxP (.t 0)),
 Ot 3 (.boxP (.t 1)),
 Ot 4 (.alloc 3 (.agg [(.int .i64 0),(.int .i64 0),(.bool false)]))])
 (.seq (.seq (kp [2,3,4,10] [OL 9 3 3,
 Ot 10 (.callG ze7 [.t 9,ci 0])])
 (.cond (.t 10) (.seq (kp [4] [Ot 11 (.callG zdz []),
 Oy 3 4 11])
 .ret)
 .skip))
 (.seq (kd [2,3,4,5] [Oq 13 0 1 2,
 Ol 14 1 13,
 Ot 15 (.bin .mul (.t 14) (ci 1048576)),
 Oq 16 0 1 3,
 Ol 17 1 16,
 Ot 18 (.call zci [.t 15,.t 17]),
 Oq 19 0 1 2,
 Ol 20 1 19,
 Ot 21 (.bin .mul (.t 20) (ci 1048576)),
 Oq 22 1 1 3,
 Ol 23 1 22,
 Ot 24 (.call zci [.t 21,.t 23]),
 Oq 25 1 1 2,
 Ol 26 1 25,
 Ot 27 (.bin .mul (.t 26) (ci 1048576)),
 Oq 28 0 1 3,
 Ol 29 1 28,
 Ot 30 (.call zci [.t 27,.t 29]),
 Oq 31 1 1 2,
 Ol 32 1 31,
 Ot 33 (.bin .mul (.t 32) (ci 1048576)),
 Oq 34 1 1 3,
 Ol 35 1 34,
 Ot 36 (.call zci [.t 33,.t 35]),
 Ot 37 (.build [(.int .i64 0),(.int .i64 0),(.int .i64 0),(.int .i64 0)] [(0,1,(.t 18)),(1,1,(.t 24)),(2,1,(.t 30)),(3,1,(.t 36))]),
 Ot 38 (.call zfs [.t 37]),
 Om 12 38,
 Ot 39 (.ext (.t 12) 0),
 Ot 40 (.ext (.t 12) 1),
 Om 5 39,
 Om 6 40])
 (.seq (kd [4,5,7] [Oq 42 0 1 2,
 Ol 43 1 42,
 Ot 44 (.un .neg (.t 43)),
 Ot 45 (.bin .mul (.t 44) (ci 1048576)),
 Oq 46 0 1 3,
 Ol 47 1 46,
 Ot 48 (.call zci [.t 45,.t 47]),
 Oq 49 0 1 2,
 Ol 50 1 49,
 Ot 51 (.un .neg (.t 50)),
 Ot 52 (.bin .mul (.t 51) (ci 1048576)),
 Oq 53 1 1 3,
 Ol 54 1 53,
 Ot 55 (.call zci [.t 52,.t 54]),
 Oq 56 1 1 2,
 Ol 57 1 56,
 Ot 58 (.un .neg (.t 57)),
 Ot 59 (.bin .mul (.t 58) (ci 1048576)),
 Oq 60 0 1 3,
 Ol 61 1 60,
 Ot 62 (.call zci [.t 59,.t 61]),
 Oq 63 1 1 2,
 Ol 64 1 63,
 Ot 65 (.un .neg (.t 64)),
 Ot 66 (.bin .mul (.t 65) (ci 1048576)),
 Oq 67 1 1 3,
 Ol 68 1 67,
 Ot 69 (.call zci [.t 66,.t 68]),
 Ot 70 (.build [(.int .i64 0),(.int .i64 0),(.int .i64 0),(.int .i64 0)] [(0,1,(.t 48)),(1,1,(.t 55)),(2,1,(.t 62)),(3,1,(.t 69))]),
 Ot 71 (.call zfs [.t 70]),
 Om 41 71,
 Ot 72 (.ext (.t 41) 0),
 Ot 73 (.ext (.t 41) 1),
 Om 7 72,
 Om 8 73])
 (.seq (kp [4] [Om 74 5,
 Om 75 7,
 Ot 76 (.un .neg (.t 75)),
 Ot 77 (.callG zeq [.t 74,.t 76]),
 Oy 3 4 77])
 .ret)))))
def span_Span_Div_1.res : List RX := [(4, some (3, true))]
theorem span_Span_Div_1.of : OfT pg zdf span_Span_Div_1.k span_Span_Div_1.res 2 := OfI Tryz.func76
def span_Span_Has.k : K :=
 (.seq (kp [1,2] [Ot 2 (.eff (.boxO 3) [.t 0]),
 Ot 4 (.mov (.c (.bool false)))])
 (.seq (kp [1,2] [OL 5 3 2,
 Ot 6 (.callG zbi [.t 5]),
 Oy 3 2 6])
 (.seq (kp [4] [Oq 7 2 1 2,
 Ol 8 1 7,
 Om 9 8,
 Og 10 9 (.fldA 0 1 false (.t 2)),
 Og 11 9 (.load 1 false (.t 10)),
 Og 12 9 (.mov (.t 1)),
 Og 13 9 (.bin .leq (.t 11) (.t 12)),
 Og 14 9 (.mov (.t 13)),
 Oh 15 14 (.mov (.t 1)),
 Oh 16 14 (.fldA 1 1 false (.t 2)),
 Oh 17 14 (.load 1 false (.t 16)),
 Oh 18 14 (.bin .leq (.t 15) (.t 17)),
 Og 19 9 (.pick (.t 14) (.t 18) (.c (.bool false))),
 Ot 20 (.pick (.t 9) (.c (.bool true)) (.t 19)),
 Om 4 20])
 .ret)))
def span_Span_Has.res : List RX := [(4, none)]
theorem span_Span_Has.of : OfT pg ze7 span_Span_Has.k span_Span_Has.res 2 := OfI Tryz.func77
def span_Span_Sqr.k : K :=
 (.seq (kp [1,2] [Ot 1 (.eff (.boxO 3) [.t 0]),
 Ot 2 (.alloc 3 (.agg [(.int .i64 0),(.int .i64 0),(.bool false)]))])
 (.seq (kp [1,2,3] [OL 4 3 1,
 OL 5 3 1,
 Ot 6 (.callG zbp [.t 4,.t 5]),
 Ot 3 (.alloc 3 (.agg [(.int .i64 0),(.int .i64 0),(.bool false)])),
 Oy 3 3 6])
 (.seq (.seq (kp [1,2,3] [OL 7 3 1,
 Ot 8 (.callG zbi [.t 7]),
 Oy 3 1 8])
 (.seq (kp [2,3,20] [Oq 9 2 1 1,
 Ol 10 1 9,
 Ot 11 (.un .not (.t 10)),
 Om 12 11,
 Oh 13 12 (.fldA 2 1 false (.t 3)),
 Oh 14 12 (.load 1 false (.t 13)),
 Oh 15 12 (.un .not (.t 14)),
 Ot 16 (.pick (.t 12) (.t 15) (.c (.bool false))),
 Om 17 16,
 Oh 18 17 (.load 3 true (.t 1)),
 Oh 19 17 (.callG ze7 [.t 18,ci 0]),
 Ot 20 (.pick (.t 17) (.t 19) (.c (.bool false)))])
 (.cond (.t 20) (kp [2,3] [Oq 21 0 1 3,
 ⟨none, none,.store 1 (.t 21) (ci 0)⟩])
 .skip)))
 (.seq (kp [2] [OL 22 3 3,
 Oy 3 2 22])
 .ret))))
def span_Span_Sqr.res : List RX := [(2, some (3, true))]
theorem span_Span_Sqr.of : OfT pg zcl span_Span_Sqr.k span_Span_Sqr.res 1 := OfI Tryz.func80
def span_Span_Add_1.k : K :=
 (.seq (kp [2,3,4] [Ot 2 (.boxP (.t 0)),
 Ot 3 (.boxP (.t 1)),
 Ot 4 (.alloc 3 (.agg [(.int .i64 0),(.int .i64 0),(.bool false)]))])
 (.seq (kp [4] [Oq 5 0 1 2,
 Ol 6 1 5,
 Oq 7 0 1 3,
 Ol 8 1 7,
 Ot 9 (.bin .add (.t 6) (.t 8)),
 Oq 10 1 1 2,
 Ol 11 1 10,
 Oq 12 1 1 3,
 Ol 13 1 12,
 Ot 14 (.bin .add (.t 11) (.t 13)),
 Ot 15 (.callG zeq [.t 9,.t 14]),
 Oy 3 4 15])
 .ret))
def span_Span_Add_1.res : List RX := [(4, some (3, true))]
theorem span_Span_Add_1.of : OfT pg zdg span_Span_Add_1.k span_Span_Add_1.res 2 := OfI Tryz.func82
def span_Span_Mul_1.k : K :=
 (.seq (kp [2,3,4] [Ot 2 (.boxP (.t 0)),
 Ot 3 (.boxP (.t 1)),
 Ot 4 (.alloc 3 (.agg [(.int .i64 0),(.int .i64 0),(.bool false)]))])
 (.seq (kp [4,5,6] [Oq 8 0 1 2,
 Ol 9 1 8,
 Oq 10 0 1 3,
 Ol 11 1 10,
 Ot 12 (.bin .mul (.t 9) (.t 11)),
 Oq 13 0 1 2,
 Ol 14 1 13,
 Oq 15 1 1 3,
 Ol 16 1 15,
 Ot 17 (.bin .mul (.t 14) (.t 16)),
 Oq 18 1 1 2,
 Ol 19 1 18,
 Oq 20 0 1 3,
 Ol 21 1 20,
 Ot 22 (.bin .mul (.t 19) (.t 21)),
 Oq 23 1 1 2,
 Ol 24 1 23,
 Oq 25 1 1 3,
 Ol 26 1 25,
 Ot 27 (.bin .mul (.t 24) (.t 26)),
 Ot 28 (.build [(.int .i64 0),(.int .i64 0),(.int .i64 0),(.int .i64 0)] [(0,1,(.t 12)),(1,1,(.t 17)),(2,1,(.t 22)),(3,1,(.t 27))]),
 Ot 29 (.callG zfs [.t 28]),
 Om 7 29,
 Ot 30 (.ext (.t 7) 0),
 Ot 31 (.ext (.t 7) 1),
 Om 5 30,
 Om 6 31])
 (.seq (kp [4] [Om 32 5,
 Ot 33 (.bin .shr (.t 32) (.c (.int .u64 20))),
 Om 34 6,
 Ot 35 (.un .neg (.t 34)),
 Ot 36 (.bin .shr (.t 35) (.c (.int .u64 20))),
 Ot 37 (.un .neg (.t 36)),
 Ot 38 (.callG zeq [.t 33,.t 37]),
 Oy 3 4 38])
 .ret)))
def span_Span_Mul_1.res : List RX := [(4, some (3, true))]
theorem span_Span_Mul_1.of : OfT pg zde span_Span_Mul_1.k span_Span_Mul_1.res 2 := OfI Tryz.func83
def span_Span_Neg.k : K :=
 (.seq (kp [1,2] [Ot 1 (.boxP (.t 0)),
 Ot 2 (.alloc 3 (.agg [(.int .i64 0),(.int .i64 0),(.bool false)]))])
 (.seq (kd [2] [Ot 3 (.call zej [ci 0,ci 0]),
 OL 4 3 1,
 Ot 5 (.call zg2 [.t 3,.t 4]),
 Oy 3 2 5])
 .ret))
def span_Span_Neg.res : List RX := [(2, some (3, true))]
theorem span_Span_Neg.of : OfT pg ze6 span_Span_Neg.k span_Span_Neg.res 1 := OfI Tryz.func84
def span_Span_In.k : K :=
 (.seq (kp [2,3] [Ot 2 (.eff (.boxO 3) [.t 0]),
 Ot 3 (.eff (.boxO 3) [.t 1]),
 Ot 4 (.mov (.c (.bool false)))])
 (.seq (kd [2,3] [OL 5 3 2,
 Ot 6 (.call zbi [.t 5]),
 OL 7 3 3,
 Ot 8 (.call zbi [.t 7]),
 Oy 3 2 6,
 Oy 3 3 8])
 (.seq (kd [4] [OL 9 3 3,
 Ot 10 (.call zdz []),
 Ot 11 (.red (.eqS false [(0, false),(1, false),(2, true)]) [.t 9,.t 10]),
 Om 12 11,
 Og 13 12 (.load 3 true (.t 2)),
 Og 14 12 (.call zdz []),
 Og 15 12 (.red (.eqS true [(0, false),(1, false),(2, true)]) [.t 13,.t 14]),
 Og 16 12 (.mov (.t 15)),
 Oh 17 16 (.fldA 0 1 false (.t 3)),
 Oh 18 16 (.load 1 false (.t 17)),
 Oh 19 16 (.fldA 0 1 false (.t 2)),
 Oh 20 16 (.load 1 false (.t 19)),
 Oh 21 16 (.bin .leq (.t 18) (.t 20)),
 Og 22 12 (.pick (.t 16) (.t 21) (.c (.bool false))),
 Og 23 12 (.mov (.t 22)),
 Oh 24 23 (.fldA 1 1 false (.t 2)),
 Oh 25 23 (.load 1 false (.t 24)),
 Oh 26 23 (.fldA 1 1 false (.t 3)),
 Oh 27 23 (.load 1 false (.t 26)),
 Oh 28 23 (.bin .leq (.t 25) (.t 27)),
 Og 29 12 (.pick (.t 23) (.t 28) (.c (.bool false))),
 Ot 30 (.pick (.t 12) (.c (.bool true)) (.t 29)),
 Om 4 30])
 .ret)))
def span_Span_In.res : List RX := [(4, none)]
theorem span_Span_In.of : OfT pg zhu span_Span_In.k span_Span_In.res 2 := OfI Tryz.func119
def span_Span_Sub.k : K :=
 (.seq (kp [2,3,4] [Ot 2 (.boxP (.t 0)),
 Ot 3 (.boxP (.t 1)),
 Ot 4 (.alloc 3 (.agg [(.int .i64 0),(.int .i64 0),(.bool false)]))])
 (.seq (kp [4] [OL 5 3 2,
 OL 6 3 3,
 Ot 7 (.callG zc1 [.t 5,.t 6,(.c (.fn zdd []))]),
 Oy 3 4 7])
 .ret))
def span_Span_Sub.res : List RX := [(4, some (3, true))]
theorem span_Span_Sub.of : OfT pg zg2 span_Span_Sub.k span_Span_Sub.res 2 := OfI Tryz.func123
def span_Span_Sub_1.k : K :=
 (.seq (kp [2,3,4] [Ot 2 (.boxP (.t 0)),
 Ot 3 (.boxP (.t 1)),
 Ot 4 (.alloc 3 (.agg [(.int .i64 0),(.int .i64 0),(.bool false)]))])
 (.seq (kp [4] [Oq 5 0 1 2,
 Ol 6 1 5,
 Oq 7 1 1 3,
 Ol 8 1 7,
 Ot 9 (.bin .sub (.t 6) (.t 8)),
 Oq 10 1 1 2,
 Ol 11 1 10,
 Oq 12 0 1 3,
 Ol 13 1 12,
 Ot 14 (.bin .sub (.t 11) (.t 13)),
 Ot 15 (.callG zeq [.t 9,.t 14]),
 Oy 3 4 15])
 .ret))
def span_Span_Sub_1.res : List RX := [(4, some (3, true))]
theorem span_Span_Sub_1.of : OfT pg zdd span_Span_Sub_1.k span_Span_Sub_1.res 2 := OfI Tryz.func162
def vec_Of.k : K :=
 (.seq (kp [0,1,2,6] [Ot 6 (.alloc 9 (.agg [(.int .i64 0),(.int .i64 0),(.bool false),(.int .i64 0),(.int .i64 0),(.bool false),(.int .i64 0),(.int .i64 0),(.bool false)]))])
 (.seq (kp [6] [Om 7 0,
 Om 8 0,
 Ot 9 (.callG zej [.t 7,.t 8]),
 Om 10 1,
 Om 11 1,
 Ot 12 (.callG zej [.t 10,.t 11]),
 Om 13 2,
 Om 14 2,
 Ot 15 (.callG zej [.t 13,.t 14]),
 Ot 16 (.build [(.int .i64 0),(.int .i64 0),(.bool false),(.int .i64 0),(.int .i64 0),(.bool false),(.int .i64 0),(.int .i64 0),(.bool false)] [(0,3,(.t 9)),(3,3,(.t 12)),(6,3,(.t 15))]),
 Oy 9 6 16])
 .ret))
def vec_Of.res : List RX := [(6, some (9, true))]
theorem vec_Of.of : OfT pg zf4 vec_Of.k vec_Of.res 3 := OfI Tryz.func13
def vec_Vec_Scale.k : K :=
 (.seq (kp [2,3,4] [Ot 2 (.boxP (.t 0)),
 Ot 3 (.boxP (.t 1)),
 Ot 4 (.alloc 9 (.agg [(.int .i64 0),(.int .i64 0),(.bool false),(.int .i64 0),(.int .i64 0),(.bool false),(.int .i64 0),(.int .i64 0),(.bool false)]))])
 (.seq (kp [4] [OL 5 9 2,
 OL 6 3 3,
 OL 7 3 3,
 OL 8 3 3,
 Ot 9 (.build [(.int .i64 0),(.int .i64 0),(.bool false),(.int .i64 0),(.int .i64 0),(.bool false),(.int .i64 0),(.int .i64 0),(.bool false)] [(0,3,(.t 6)),(3,3,(.t 7)),(6,3,(.t 8))]),
 Ot 10 (.callG zei [.t 5,.t 9,(.c (.fn zbp []))]),
 Oy 9 4 10])
 .ret))
def vec_Vec_Scale.res : List RX := [(4, some (9, true))]
theorem vec_Vec_Scale.of : OfT pg zck vec_Vec_Scale.k vec_Vec_Scale.res 2 := OfI Tryz.func14
def vec_Vec_Norm2.k : K :=
 (.seq (kp [1,2] [Ot 1 (.boxP (.t 0)),
 Ot 2 (.alloc 3 (.agg [(.int .i64 0),(.int .i64 0),(.bool false)]))])
 (.seq (kd [2] [Ot 3 (.red (.aptr 3 3 true) [.t 1,ci 0]),
 OL 4 3 3,
 Ot 5 (.call zcl [.t 4]),
 Ot 6 (.red (.aptr 3 3 true) [.t 1,ci 1]),
 OL 7 3 6,
 Ot 8 (.call zcl [.t 7]),
 Ot 9 (.call zbd [.t 5,.t 8]),
 Ot 10 (.red (.aptr 3 3 true) [.t 1,ci 2]),
 OL 11 3 10,
 Ot 12 (.call zcl [.t 11]),
 Ot 13 (.call zbd [.t 9,.t 12]),
 Oy 3 2 13])
 .ret))
def vec_Vec_Norm2.res : List RX := [(2, some (3, true))]
theorem vec_Vec_Norm2.of : OfT pg zg1 vec_Vec_Norm2.k vec_Vec_Norm2.res 1 := OfI Tryz.func32
def vec_Vec_each.k : K :=
 (.seq (kp [2,3,4,6] [Ot 3 (.eff (.boxO 9) [.t 0]),
 Ot 4 (.boxP (.t 1)),
 Ot 6 (.alloc 9 (.agg [(.int .i64 0),(.int .i64 0),(.bool false),(.int .i64 0),(.int .i64 0),(.bool false),(.int .i64 0),(.int .i64 0),(.bool false)]))])
 (.seq (.seq (kp [2,3,4,6,8] [Oc 8 0])
 (.block 0 (.loop (.seq (kp [2,3,4,6,8,9] [Ot 9 (.bin .lss (.t 8) (ci 3))])
 (.seq (.cond (.t 9) .skip
 (.exit 0))
 (.seq (.block 1 (.seq (kp [2,3,4,6,7,8] [Om 10 8,
 Om 7 10])
 (kd [2,3,4,6,8] [Om 11 7,
 Om 12 2,
 Om 13 7,
 Ot 14 (.arrA 3 3 true (.t 3) (.t 13)),
 OL 15 3 14,
 Om 16 7,
 Ot 17 (.red (.aptr 3 3 true) [.t 4,.t 16]),
 OL 18 3 17,
 Ot 19 (.callV (.t 12) [.t 15,.t 18]),
 Ot 20 (.arrA 3 3 true (.t 3) (.t 11)),
 Oy 3 20 19])))
 (kp [2,3,4,6,8] [Ot 21 (.bin .add (.t 8) (ci 1)),
 Om 8 21])))))))
 (.seq (kp [6] [OL 22 9 3,
 Oy 9 6 22])
 .ret)))
def vec_Vec_each.res : List RX := [(6, some (9, true))]
theorem vec_Vec_each.of : OfT pg zei vec_Vec_each.k vec_Vec_each.res 3 := OfI Tryz.func43
def vec_Vec_Add.k : K :=
 (.seq (kp [2,3,4] [Ot 2 (.boxP (.t 0)),
 Ot 3 (.boxP (.t 1)),
 Ot 4 (.alloc 9 (.agg [(.int .i64 0),(.int .i64 0),(.bool false),(.int .i64 0),(.int .i64 0),(.bool false),(.int .i64 0),(.int .i64 0),(.bool false)]))])
 (.seq (kp [4] [OL 5 9 2,
 OL 6 9 3,
 Ot 7 (.callG zei [.t 5,.t 6,(.c (.fn zbd []))]),
 Oy 9 4 7])
 .ret))
def vec_Vec_Add.res : List RX := [(4, some (9, true))]
theorem vec_Vec_Add.of : OfT pg ze5 vec_Vec_Add.k vec_Vec_Add.res 2 := OfI Tryz.func73
def vec_Vec_Dot.k : K :=
 (.seq (kp [2,3,4] [Ot 2 (.boxP (.t 0)),
 Ot 3 (.boxP (.t 1)),
 Ot 4 (.alloc 3 (.agg [(.int .i64 0),(.int .i64 0),(.bool false)]))])
 (.seq (kp [4,5] [OL 6 9 2,
 OL 7 9 3,
 Ot 8 (.callG zei [.t 6,.t 7,(.c (.fn zbp []))]),
 Ot 5 (.alloc 9 (.agg [(.int .i64 0),(.int .i64 0),(.bool false),(.int .i64 0),(.int .i64 0),(.bool false),(.int .i64 0),(.int .i64 0),(.bool false)])),
 Oy 9 5 8])
 (.seq (kd [4] [Ot 9 (.arrA 3 3 true (.t 5) (ci 0)),
 OL 10 3 9,
 Ot 11 (.arrA 3 3 true (.t 5) (ci 1)),
 OL 12 3 11,
 Ot 13 (.call zbd [.t 10,.t 12]),
 Ot 14 (.arrA 3 3 true (.t 5) (ci 2)),
 OL 15 3 14,
 Ot 16 (.call zbd [.t 13,.t 15]),
 Oy 3 4 16])
 .ret)))
def vec_Vec_Dot.res : List RX := [(4, some (3, true))]
theorem vec_Vec_Dot.of : OfT pg zd5 vec_Vec_Dot.k vec_Vec_Dot.res 2 := OfI Tryz.func116
def rot_Exp.k : K :=
 (.seq (kp [1,2] [Ot 1 (.boxP (.t 0)),
 Ot 2 (.alloc 27 (.agg [(.int .i64 0),(.int .i64 0),(.bool false),(.int .i64 0),(.int .i64 0),(.bool false),(.int .i64 0),(.int .i64 0),(.bool false),(.int .i64 0),(.int .i64 0),(.bool false),(.int .i64 0),(.int .i64 0),(.bool false),(.int .i64 0),(.int .i64 0),(.bool false),(.int .i64 0),(.int .i64 0),(.bool false),(.int .i64 0),(.int .i64 0),(.bool false),(.int .i64 0),(.int .i64 0),(.bool false)]))])
 (.seq (kp [1,2,3] [OL 7 9 1,
 Ot 8 (.callG zg1 [.t 7]),
 Ot 3 (.alloc 3 (.agg [(.int .i64 0),(.int .i64 0),(.bool false)])),
 Oy 3 3 8])
 (.seq (kd [1,2,4,5,6] [OL 9 3 3,
 Ot 10 (.call n_kern_A [.t 9]),
 OL 11 3 3,
 Ot 12 (.call n_kern_B [.t 11]),
 Ot 13 (.call n_rot_Id []),
 Ot 4 (.alloc 3 (.agg [(.int .i64 0),(.int .i64 0),(.bool false)])),
 Ot 5 (.alloc 3 (.agg [(.int .i64 0),(.int .i64 0),(.bool false)])),
 Ot 6 (.alloc 27 (.agg [(.int .i64 0),(.int .i64 0),(.bool false),(.int .i64 0),(.int .i64 0),(.bool false),(.int .i64 0),(.int .i64 0),(.bool false),(.int .i64 0),(.int .i64 0),(.bool false),(.int .i64 0),(.int .i64 0),(.bool false),(.int .i64 0),(.int .i64 0),(.bool false),(.int .i64 0),(.int .i64 0),(.bool false),(.int .i64 0),(.int .i64 0),(.bool false),(.int .i64 0),(.int .i64 0),(.bool false)])),
 Oy 3 4 10,
 Oy 3 5 12,
 Oy 27 6 13])
 (.seq (kp [2] [Ot 14 (.mkFn n_rot_Exp_1 [.t 6,.t 4,.t 1,.t 5]),
 Ot 15 (.callG zif [.t 14]),
 Oy 27 2 15])
 .ret))))
def rot_Exp.res : List RX := [(2, some (27, true))]
theorem rot_Exp.of : OfT pg n_rot_Exp rot_Exp.k rot_Exp.res 1 := OfI Tryz.func12
def rot_Id.k : K :=
 (.seq (kp [0] [Ot 0 (.alloc 27 (.agg [(.int .i64 0),(.int .i64 0),(.bool false),(.int .i64 0),(.int .i64 0),(.bool false),(.int .i64 0),(.int .i64 0),(.bool false),(.int .i64 0),(.int .i64 0),(.bool false),(.int .i64 0),(.int .i64 0),(.bool false),(.int .i64 0),(.int .i64 0),(.bool false),(.int .i64 0),(.int .i64 0),(.bool false),(.int .i64 0),(.int .i64 0),(.bool false),(.int .i64 0),(.int .i64 0),(.bool false)]))])
 (.seq (kp [0] [Ot 1 (.callG zf4 [ci 1048576,ci 0,ci 0]),
 Ot 2 (.callG zf4 [ci 0,ci 1048576,ci 0]),
 Ot 3 (.callG zf4 [ci 0,ci 0,ci 1048576]),
 Ot 4 (.build [(.int .i64 0),(.int .i64 0),(.bool false),(.int .i64 0),(.int .i64 0),(.bool false),(.int .i64 0),(.int .i64 0),(.bool false),(.int .i64 0),(.int .i64 0),(.bool false),(.int .i64 0),(.int .i64 0),(.bool false),(.int .i64 0),(.int .i64 0),(.bool false),(.int .i64 0),(.int .i64 0),(.bool false),(.int .i64 0),(.int .i64 0),(.bool false),(.int .i64 0),(.int .i64 0),(.bool false)] [(0,9,(.t 1)),(9,9,(.t 2)),(18,9,(.t 3))]),
 Oy 27 0 4])
 .ret))
def rot_Id.res : List RX := [(0, some (27, true))]
theorem rot_Id.of : OfT pg n_rot_Id rot_Id.k rot_Id.res 0 := OfI Tryz.func35
def rot_made.k : K :=
 (.seq (kp [0,2] [Ot 2 (.alloc 27 (.agg [(.int .i64 0),(.int .i64 0),(.bool false),(.int .i64 0),(.int .i64 0),(.bool false),(.int .i64 0),(.int .i64 0),(.bool false),(.int .i64 0),(.int .i64 0),(.bool false),(.int .i64 0),(.int .i64 0),(.bool false),(.int .i64 0),(.int .i64 0),(.bool false),(.int .i64 0),(.int .i64 0),(.bool false),(.int .i64 0),(.int .i64 0),(.bool false),(.int .i64 0),(.int .i64 0),(.bool false)]))])
 (.seq (kp [0,2,3] [Ot 3 (.alloc 27 (.agg [(.int .i64 0),(.int .i64 0),(.bool false),(.int .i64 0),(.int .i64 0),(.bool false),(.int .i64 0),(.int .i64 0),(.bool false),(.int .i64 0),(.int .i64 0),(.bool false),(.int .i64 0),(.int .i64 0),(.bool false),(.int .i64 0),(.int .i64 0),(.bool false),(.int .i64 0),(.int .i64 0),(.bool false),(.int .i64 0),(.int .i64 0),(.bool false),(.int .i64 0),(.int .i64 0),(.bool false)]))])
 (.seq (.seq (kp [0,2,3,6] [Oc 6 0])
 (.block 0 (.loop (.seq (kp [0,2,3,6,7] [Ot 7 (.bin .lss (.t 6) (ci 3))])
 (.seq (.cond (.t 7) .skip
 (.exit 0))
 (.seq (.block 1 (.seq (kp [0,2,3,4,6] [Om 8 6,
 Om 4 8])
 (.seq (kp [0,2,3,4,6,9] [Oc 9 0])
 (.block 2 (.loop (.seq (kp [0,2,3,4,6,9,10] [Ot 10 (.bin .lss (.t 9) (ci 3))])
 (.seq (.cond (.t 10) .skip
 (.exit 2))
 (.seq (.block 3 (.seq (kp [0,2,3,4,5,6,9] [Om 11 9,
 Om 5 11])
 (kd [0,2,3,4,6,9] [Om 12 4,
 Om 13 5,
 Om 14 0,
 Om 15 4,
 Om 16 5,
 Ot 17 (.callV (.t 14) [.t 15,.t 16]),
 Ot 18 (.arrA 3 9 true (.t 3) (.t 12)),
 Ot 19 (.arrA 3 3 true (.t 18) (.t 13)),
 Oy 3 19 17])))
 (kp [0,2,3,4,6,9] [Ot 20 (.bin .add (.t 9) (ci 1)),
 Om 9 20])))))))))
 (kp [0,2,3,6] [Ot 21 (.bin .add (.t 6) (ci 1)),
 Om 6 21])))))))
 (.seq (kp [2] [OL 22 27 3,
 Oy 27 2 22])
 .ret))))
def rot_made.res : List RX := [(2, some (27, true))]
theorem rot_made.of : OfT pg zif rot_made.k rot_made.res 1 := OfI Tryz.func36
def rot_Exp_1.k : K :=
 (.seq (kp [0,1,2,3,4,5,8] [Ot 8 (.alloc 3 (.agg [(.int .i64 0),(.int .i64 0),(.bool false)]))])
 (.seq (kd [8] [Om 9 0,
 Om 10 1,
 Ot 11 (.red (.aptr 3 9 true) [.t 2,.t 9]),
 Ot 12 (.red (.aptr 3 3 true) [.t 11,.t 10]),
 OL 13 3 12,
 OL 14 3 3,
 OL 15 9 4,
 Om 16 0,
 Om 17 1,
 Ot 18 (.call n_rot_cross [.t 15,.t 16,.t 17]),
 Ot 19 (.call zbp [.t 14,.t 18]),
 Ot 20 (.call zbd [.t 13,.t 19]),
 OL 21 3 5,
 OL 22 9 4,
 Om 23 0,
 Om 24 1,
 Ot 25 (.call n_rot_twice [.t 22,.t 23,.t 24]),
 Ot 26 (.call zbp [.t 21,.t 25]),
 Ot 27 (.call zbd [.t 20,.t 26]),
 Oy 3 8 27])
 .ret))
def rot_Exp_1.res : List RX := [(8, some (3, true))]
theorem rot_Exp_1.of : OfT pg n_rot_Exp_1 rot_Exp_1.k rot_Exp_1.res 6 := OfI Tryz.func37
def rot_cross.k : K :=
 (.seq (kp [1,2,3,6] [Ot 3 (.boxP (.t 0)),
 Ot 6 (.alloc 3 (.agg [(.int .i64 0),(.int .i64 0),(.bool false)]))])
 (.seq (kp [1,2,3,6,7] [Om 8 1,
 Ot 9 (.bin .sub (ci 3) (.t 8)),
 Om 10 2,
 Ot 11 (.bin .sub (.t 9) (.t 10)),
 Om 7 11])
 (.seq (.block 0 (.seq (kp [1,2,3,6,7,12] [Om 13 1,
 Om 14 2,
 Ot 15 (.bin .eql (.t 13) (.t 14)),
 Om 12 15])
 (.cond (.t 12) (.seq (kp [6] [Ot 16 (.callG zej [ci 0,ci 0]),
 Oy 3 6 16])
 .ret)
 (.seq (kp [3,6,7,17] [Om 18 1,
 Ot 19 (.bin .add (.t 18) (ci 1)),
 Ot 20 (.bin .rem (.t 19) (ci 3)),
 Om 21 2,
 Ot 22 (.bin .eql (.t 20) (.t 21)),
 Om 17 22])
 (.cond (.t 17) (.seq (kp [6] [Om 23 7,
 Ot 24 (.red (.aptr 3 3 true) [.t 3,.t 23]),
 OL 25 3 24,
 Ot 26 (.callG ze6 [.t 25]),
 Oy 3 6 26])
 .ret)
 .skip)))))
 (.seq (kp [6] [Om 27 7,
 Ot 28 (.red (.aptr 3 3 true) [.t 3,.t 27]),
 OL 29 3 28,
 Oy 3 6 29])
 .ret))))
def rot_cross.res : List RX := [(6, some (3, true))]
theorem rot_cross.of : OfT pg n_rot_cross rot_cross.k rot_cross.res 3 := OfI Tryz.func40
def rot_twice.k : K :=
 (.seq (kp [1,2,3,6] [Ot 3 (.boxP (.t 0)),
 Ot 6 (.alloc 3 (.agg [(.int .i64 0),(.int .i64 0),(.bool false)]))])
 (.seq (.seq (kp [1,2,3,6,11] [Om 9 1,
 Om 10 2,
 Ot 11 (.bin .neq (.t 9) (.t 10))])
 (.cond (.t 11) (.seq (kd [6] [Om 12 1,
 Om 13 2,
 Ot 14 (.mm false (.t 12) [.t 13]),
 Ot 15 (.red (.aptr 3 3 true) [.t 3,.t 14]),
 OL 16 3 15,
 Om 17 1,
 Om 18 2,
 Ot 19 (.mm true (.t 17) [.t 18]),
 Ot 20 (.red (.aptr 3 3 true) [.t 3,.t 19]),
 OL 21 3 20,
 Ot 22 (.call zbp [.t 16,.t 21]),
 Oy 3 6 22])
 .ret)
 .skip))
 (.seq (kp [3,6,7,8] [Om 23 1,
 Ot 24 (.bin .add (.t 23) (ci 1)),
 Ot 25 (.bin .rem (.t 24) (ci 3)),
 Om 26 1,
 Ot 27 (.bin .add (.t 26) (ci 2)),
 Ot 28 (.bin .rem (.t 27) (ci 3)),
 Ot 29 (.mm false (.t 25) [.t 28]),
 Om 30 1,
 Ot 31 (.bin .add (.t 30) (ci 1)),
 Ot 32 (.bin .rem (.t 31) (ci 3)),
 Om 33 1,
 Ot 34 (.bin .add (.t 33) (ci 2)),
 Ot 35 (.bin .rem (.t 34) (ci 3)),
 Ot 36 (.mm true (.t 32) [.t 35]),
 Om 7 29,
 Om 8 36])
 (.seq (kd [6] [Om 37 7,
 Ot 38 (.red (.aptr 3 3 true) [.t 3,.t 37]),
 OL 39 3 38,
 Ot 40 (.call zcl [.t 39]),
 Om 41 8,
 Ot 42 (.red (.aptr 3 3 true) [.t 3,.t 41]),
 OL 43 3 42,
 Ot 44 (.call zcl [.t 43]),
 Ot 45 (.call zbd [.t 40,.t 44]),
 Ot 46 (.call ze6 [.t 45]),
 Oy 3 6 46])
 .ret))))
def rot_twice.res : List RX := [(6, some (3, true))]
theorem rot_twice.of : OfT pg n_rot_twice rot_twice.k rot_twice.res 3 := OfI Tryz.func41
def rot_Rot_Apply.k : K :=
 (.seq (kp [2,3,4] [Ot 2 (.boxP (.t 0)),
 Ot 3 (.boxP (.t 1)),
 Ot 4 (.alloc 9 (.agg [(.int .i64 0),(.int .i64 0),(.bool false),(.int .i64 0),(.int .i64 0),(.bool false),(.int .i64 0),(.int .i64 0),(.bool false)]))])
 (.seq (kd [4] [Ot 5 (.red (.aptr 3 9 true) [.t 2,ci 0]),
 OL 6 9 5,
 OL 7 9 3,
 Ot 8 (.call zd5 [.t 6,.t 7]),
 Ot 9 (.red (.aptr 3 9 true) [.t 2,ci 1]),
 OL 10 9 9,
 OL 11 9 3,
 Ot 12 (.call zd5 [.t 10,.t 11]),
 Ot 13 (.red (.aptr 3 9 true) [.t 2,ci 2]),
 OL 14 9 13,
 OL 15 9 3,
 Ot 16 (.call zd5 [.t 14,.t 15]),
 Ot 17 (.build [(.int .i64 0),(.int .i64 0),(.bool false),(.int .i64 0),(.int .i64 0),(.bool false),(.int .i64 0),(.int .i64 0),(.bool false)] [(0,3,(.t 8)),(3,3,(.t 12)),(6,3,(.t 16))]),
 Oy 9 4 17])
 .ret))
def rot_Rot_Apply.res : List RX := [(4, some (9, true))]
theorem rot_Rot_Apply.of : OfT pg zg7 rot_Rot_Apply.k rot_Rot_Apply.res 2 := OfI Tryz.func72
def rot_Rot_Mul.k : K :=
 (.seq (kp [2,3,4] [Ot 2 (.boxP (.t 0)),
 Ot 3 (.boxP (.t 1)),
 Ot 4 (.alloc 27 (.agg [(.int .i64 0),(.int .i64 0),(.bool false),(.int .i64 0),(.int .i64 0),(.bool false),(.int .i64 0),(.int .i64 0),(.bool false),(.int .i64 0),(.int .i64 0),(.bool false),(.int .i64 0),(.int .i64 0),(.bool false),(.int .i64 0),(.int .i64 0),(.bool false),(.int .i64 0),(.int .i64 0),(.bool false),(.int .i64 0),(.int .i64 0),(.bool false),(.int .i64 0),(.int .i64 0),(.bool false)]))])
 (.seq (kp [2,4,5] [OL 6 27 3,
 Ot 7 (.callG zgi [.t 6]),
 Ot 5 (.alloc 27 (.agg [(.int .i64 0),(.int .i64 0),(.bool false),(.int .i64 0),(.int .i64 0),(.bool false),(.int .i64 0),(.int .i64 0),(.bool false),(.int .i64 0),(.int .i64 0),(.bool false),(.int .i64 0),(.int .i64 0),(.bool false),(.int .i64 0),(.int .i64 0),(.bool false),(.int .i64 0),(.int .i64 0),(.bool false),(.int .i64 0),(.int .i64 0),(.bool false),(.int .i64 0),(.int .i64 0),(.bool false)])),
 Oy 27 5 7])
 (.seq (kp [4] [Ot 8 (.mkFn zg6 [.t 2,.t 5]),
 Ot 9 (.callG zif [.t 8]),
 Oy 27 4 9])
 .ret)))
def rot_Rot_Mul.res : List RX := [(4, some (27, true))]
theorem rot_Rot_Mul.of : OfT pg n_rot_Rot_Mul rot_Rot_Mul.k rot_Rot_Mul.res 2 := OfI Tryz.func74
def rot_Rot_Turned.k : K :=
 (.seq (kp [1,2] [Ot 1 (.boxP (.t 0)),
 Ot 2 (.alloc 27 (.agg [(.int .i64 0),(.int .i64 0),(.bool false),(.int .i64 0),(.int .i64 0),(.bool false),(.int .i64 0),(.int .i64 0),(.bool false),(.int .i64 0),(.int .i64 0),(.bool false),(.int .i64 0),(.int .i64 0),(.bool false),(.int .i64 0),(.int .i64 0),(.bool false),(.int .i64 0),(.int .i64 0),(.bool false),(.int .i64 0),(.int .i64 0),(.bool false),(.int .i64 0),(.int .i64 0),(.bool false)]))])
 (.seq (kp [2] [Ot 3 (.mkFn ze8 [.t 1]),
 Ot 4 (.callG zif [.t 3]),
 Oy 27 2 4])
 .ret))
def rot_Rot_Turned.res : List RX := [(2, some (27, true))]
theorem rot_Rot_Turned.of : OfT pg zgi rot_Rot_Turned.k rot_Rot_Turned.res 1 := OfI Tryz.func117
def rot_Rot_Mul_1.k : K :=
 (.seq (kp [0,1,2,3,6] [Ot 6 (.alloc 3 (.agg [(.int .i64 0),(.int .i64 0),(.bool false)]))])
 (.seq (kd [6] [Om 7 0,
 Ot 8 (.red (.aptr 3 9 true) [.t 2,.t 7]),
 OL 9 9 8,
 Om 10 1,
 Ot 11 (.red (.aptr 3 9 true) [.t 3,.t 10]),
 OL 12 9 11,
 Ot 13 (.call zd5 [.t 9,.t 12]),
 Oy 3 6 13])
 .ret))
def rot_Rot_Mul_1.res : List RX := [(6, some (3, true))]
theorem rot_Rot_Mul_1.of : OfT pg zg6 rot_Rot_Mul_1.k rot_Rot_Mul_1.res 4 := OfI Tryz.func118
def rot_Rot_Turned_1.k : K :=
 (.seq (kp [0,1,2,5] [Ot 5 (.alloc 3 (.agg [(.int .i64 0),(.int .i64 0),(.bool false)]))])
 (.seq (kp [5] [Om 6 1,
 Om 7 0,
 Ot 8 (.red (.aptr 3 9 true) [.t 2,.t 6]),
 Ot 9 (.red (.aptr 3 3 true) [.t 8,.t 7]),
 OL 10 3 9,
 Oy 3 5 10])
 .ret))
def rot_Rot_Turned_1.res : List RX := [(5, some (3, true))]
theorem rot_Rot_Turned_1.of : OfT pg ze8 rot_Rot_Turned_1.k rot_Rot_Turned_1.res 3 := OfI Tryz.func158
def kern_A.k : K :=
 (.seq (kp [1,2] [Ot 1 (.boxP (.t 0)),
 Ot 2 (.alloc 3 (.agg [(.int .i64 0),(.int .i64 0),(.bool false)]))])
 (.seq (kp [2] [OL 3 3 1,
 Ot 4 (.callG zfe [.t 3,ci 1]),
 Oy 3 2 4])
 .ret))
def kern_A.res : List RX := [(2, some (3, true))]
theorem kern_A.of : OfT pg n_kern_A kern_A.k kern_A.res 1 := OfI Tryz.func33
def kern_B.k : K :=
 (.seq (kp [1,2] [Ot 1 (.boxP (.t 0)),
 Ot 2 (.alloc 3 (.agg [(.int .i64 0),(.int .i64 0),(.bool false)]))])
 (.seq (kp [2] [OL 3 3 1,
 Ot 4 (.callG zfe [.t 3,ci 2]),
 Oy 3 2 4])
 .ret))
def kern_B.res : List RX := [(2, some (3, true))]
theorem kern_B.of : OfT pg n_kern_B kern_B.k kern_B.res 1 := OfI Tryz.func34
def kern_enclosed.k : K :=
 (.seq (kp [1,2,4] [Ot 2 (.boxP (.t 0)),
 Ot 4 (.alloc 3 (.agg [(.int .i64 0),(.int .i64 0),(.bool false)]))])
 (.seq (.seq (kd [1,2,4,20] [OL 17 3 2,
 Ot 18 (.call zej [ci 0,ci 4194304]),
 Ot 19 (.call zhu [.t 17,.t 18]),
 Ot 20 (.un .not (.t 19))])
 (.cond (.t 20) (.seq (kp [4] [Ot 21 (.build [(.int .i64 0),(.int .i64 0),(.bool false)] [(2,1,(.c (.bool true)))]),
 Oy 3 4 21])
 .ret)
 .skip))
 (.seq (kp [1,2,4,5,6] [Oq 23 1 1 2,
 Ol 24 1 23,
 Om 25 1,
 Ot 26 (.callG n_kern_sum [.t 24,.t 25,ci 12]),
 Om 22 26,
 Ot 27 (.ext (.t 22) 0),
 Ot 28 (.ext (.t 22) 1),
 Ot 5 (.alloc 2 (.agg [(.bool false),(.sl [])])),
 Ot 6 (.alloc 2 (.agg [(.bool false),(.sl [])])),
 Oy 2 5 27,
 Oy 2 6 28])
 (.seq (kp [1,2,4,5,6,7] [OL 30 2 5,
 OL 31 2 6,
 Ot 32 (.callG zc3 [.t 30,.t 31]),
 Om 29 32,
 Ot 33 (.ext (.t 29) 0),
 Ot 34 (.ext (.t 29) 1),
 Ot 35 (.ext (.t 29) 2),
 Ot 7 (.alloc 2 (.agg [(.bool false),(.sl [])])),
 Ot 8 (.alloc 2 (.agg [(.bool false),(.sl [])])),
 Oy 2 7 33,
 Oy 2 8 34,
 Om 9 35])
 (.seq (kp [4,5,6,7] [Oq 37 0 1 2,
 Ol 38 1 37,
 Om 39 1,
 Ot 40 (.callG n_kern_sum [.t 38,.t 39,ci 13]),
 Om 36 40,
 Ot 41 (.ext (.t 36) 0),
 Ot 42 (.ext (.t 36) 1),
 Oy 2 5 41,
 Oy 2 6 42])
 (.seq (kd [4,7,10] [OL 44 2 5,
 Ot 45 (.call zc4 [.t 44]),
 OL 46 2 6,
 Ot 47 (.call zc3 [.t 45,.t 46]),
 Om 43 47,
 Ot 48 (.ext (.t 43) 0),
 Ot 49 (.ext (.t 43) 1),
 Ot 50 (.ext (.t 43) 2),
 Ot 10 (.alloc 2 (.agg [(.bool false),(.sl [])])),
 Ot 11 (.alloc 2 (.agg [(.bool false),(.sl [])])),
 Oy 2 10 48,
 Oy 2 11 49,
 Om 12 50])
 (.seq (kp [4,10,13] [OL 52 2 7,
 Ot 53 (.callG zcr [.t 52]),
 Om 51 53,
 Ot 54 (.ext (.t 51) 0),
 Ot 55 (.ext (.t 51) 1),
 Om 13 54,
 Om 14 55])
 (.seq (kp [4,13,15] [OL 57 2 10,
 Ot 58 (.callG zc4 [.t 57]),
 Ot 59 (.callG zcr [.t 58]),
 Om 56 59,
 Ot 60 (.ext (.t 56) 0),
 Ot 61 (.ext (.t 56) 1),
 Om 15 60,
 Om 16 61])
 (.seq (kp [4] [Om 62 13,
 Om 63 15,
 Ot 64 (.callG zej [.t 62,.t 63]),
 Oy 3 4 64])
 .ret)))))))))
def kern_enclosed.res : List RX := [(4, some (3, true))]
theorem kern_enclosed.of : OfT pg zfe kern_enclosed.k kern_enclosed.res 2 := OfI Tryz.func81
def kern_sum.k : K :=
 (.seq (kp [0,1,2,6,7] [Ot 6 (.alloc 2 (.agg [(.bool false),(.sl [])])),
 Ot 7 (.alloc 2 (.agg [(.bool false),(.sl [])]))])
 (.seq (kp [0,1,2,6,7,8] [Ot 15 (.callG zav [ci 1048576]),
 Ot 8 (.alloc 2 (.agg [(.bool false),(.sl [])])),
 Oy 2 8 15])
 (.seq (kp [1,2,6,7,8,9] [Om 16 0,
 Ot 17 (.un .neg (.t 16)),
 Ot 18 (.callG zav [.t 17]),
 Ot 9 (.alloc 2 (.agg [(.bool false),(.sl [])])),
 Oy 2 9 18])
 (.seq (kp [1,2,6,7,8,9,10] [Om 19 2,
 Ot 20 (.bin .sub (.t 19) (ci 1)),
 Ot 21 (.bin .mul (ci 2) (.t 20)),
 Om 22 1,
 Ot 23 (.bin .add (.t 21) (.t 22)),
 Ot 24 (.callG zeo [.t 23]),
 Ot 10 (.alloc 2 (.agg [(.bool false),(.sl [])])),
 Oy 2 10 24])
 (.seq (.seq (kp [1,2,6,7,8,9,10,25,26] [Om 25 2,
 Oc 26 0])
 (.block 0 (.loop (.seq (kp [1,2,6,7,8,9,10,25,26,27] [Ot 27 (.bin .lss (.t 26) (.t 25))])
 (.seq (.cond (.t 27) .skip
 (.exit 0))
 (.seq (.block 1 (.seq (kp [1,2,6,7,8,9,10,11,25,26] [Om 28 26,
 Om 11 28])
 (.seq (kd [1,2,6,7,8,9,10,11,12,25,26] [OL 30 2 10,
 Om 31 11,
 Ot 32 (.bin .mul (ci 2) (.t 31)),
 Om 33 1,
 Ot 34 (.bin .add (.t 32) (.t 33)),
 Ot 35 (.call zeo [.t 34]),
 Ot 36 (.call zc3 [.t 30,.t 35]),
 Om 29 36,
 Ot 37 (.ext (.t 29) 0),
 Ot 38 (.ext (.t 29) 1),
 Ot 39 (.ext (.t 29) 2),
 Ot 12 (.alloc 2 (.agg [(.bool false),(.sl [])])),
 Ot 13 (.alloc 2 (.agg [(.bool false),(.sl [])])),
 Oy 2 12 37,
 Oy 2 13 38,
 Om 14 39])
 (kd [1,2,6,7,8,9,10,25,26] [OL 40 2 6,
 OL 41 2 9,
 Om 42 11,
 Ot 43 (.call zgc [.t 41,.t 42]),
 OL 44 2 8,
 Om 45 2,
 Ot 46 (.bin .sub (.t 45) (ci 1)),
 Om 47 11,
 Ot 48 (.bin .sub (.t 46) (.t 47)),
 Ot 49 (.call zgc [.t 44,.t 48]),
 Ot 50 (.call zai [.t 43,.t 49]),
 OL 51 2 12,
 Ot 52 (.call zai [.t 50,.t 51]),
 Ot 53 (.call zao [.t 40,.t 52]),
 Oy 2 6 53]))))
 (kp [1,2,6,7,8,9,10,25,26] [Ot 54 (.bin .add (.t 26) (ci 1)),
 Om 26 54])))))))
 (.seq (kd [6,7] [OL 55 2 6,
 OL 56 2 8,
 Ot 57 (.call zai [.t 55,.t 56]),
 Ot 58 (.loadN 2 true (.t 8) [6]),
 Om 59 2,
 Ot 60 (.bin .sub (.t 59) (ci 1)),
 Ot 61 (.call zgc [.t 58,.t 60]),
 Ot 62 (.loadN 2 true (.t 10) [6]),
 Ot 63 (.call zai [.t 61,.t 62]),
 Oy 2 6 57,
 Oy 2 7 63])
 .ret))))))
def kern_sum.res : List RX := [(6, some (2, true)), (7, some (2, true))]
theorem kern_sum.of : OfT pg n_kern_sum kern_sum.k kern_sum.res 3 := OfI Tryz.func120
def kern_factorial.k : K :=
 (.seq (kp [0,2] [Ot 2 (.alloc 2 (.agg [(.bool false),(.sl [])]))])
 (.seq (kp [0,2,3] [Ot 5 (.callG zav [ci 1]),
 Ot 3 (.alloc 2 (.agg [(.bool false),(.sl [])])),
 Oy 2 3 5])
 (.seq (.seq (kp [2,3,6,7] [Om 6 0,
 Oc 7 0])
 (.block 0 (.loop (.seq (kp [2,3,6,7,8] [Ot 8 (.bin .lss (.t 7) (.t 6))])
 (.seq (.cond (.t 8) .skip
 (.exit 0))
 (.seq (.block 1 (.seq (kp [2,3,4,6,7] [Om 9 7,
 Om 4 9])
 (kd [2,3,6,7] [OL 10 2 3,
 Om 11 4,
 Ot 12 (.bin .add (.t 11) (ci 1)),
 Ot 13 (.call zav [.t 12]),
 Ot 14 (.call zai [.t 10,.t 13]),
 Oy 2 3 14])))
 (kp [2,3,6,7] [Ot 15 (.bin .add (.t 7) (ci 1)),
 Om 7 15])))))))
 (.seq (kp [2] [OL 16 2 3,
 Oy 2 2 16])
 .ret))))
def kern_factorial.res : List RX := [(2, some (2, true))]
theorem kern_factorial.of : OfT pg zeo kern_factorial.k kern_factorial.res 1 := OfI Tryz.func159
def kern_power.k : K :=
 (.seq (kp [1,2,4] [Ot 2 (.boxP (.t 0)),
 Ot 4 (.alloc 2 (.agg [(.bool false),(.sl [])]))])
 (.seq (kp [1,2,4,5] [Ot 6 (.callG zav [ci 1]),
 Ot 5 (.alloc 2 (.agg [(.bool false),(.sl [])])),
 Oy 2 5 6])
 (.seq (.seq (kp [2,4,5,7,8] [Om 7 1,
 Oc 8 0])
 (.block 0 (.loop (.seq (kp [2,4,5,7,8,9] [Ot 9 (.bin .lss (.t 8) (.t 7))])
 (.seq (.cond (.t 9) .skip
 (.exit 0))
 (.seq (.block 1 (kp [2,4,5,7,8] [OL 10 2 5,
 OL 11 2 2,
 Ot 12 (.callG zai [.t 10,.t 11]),
 Oy 2 5 12]))
 (kp [2,4,5,7,8] [Ot 13 (.bin .add (.t 8) (ci 1)),
 Om 8 13])))))))
 (.seq (kp [4] [OL 14 2 5,
 Oy 2 4 14])
 .ret))))
def kern_power.res : List RX := [(4, some (2, true))]
theorem kern_power.of : OfT pg zgc kern_power.k kern_power.res 2 := OfI Tryz.func160
end Go.Gim
/- Functions' code as data (written by wip/tools/gen.py), and the step to their contracts. -/
set_option maxRecDepth 100000
namespace Go.Gim
open Go.Proofs
def gimbaltop_TopSteady.k : K :=
 (.seq (kp [0,1,2,3] [Ot 8 (.mov (.c (.bool false)))])
 (.seq (kp [0,1,2,3,9] [Ot 22 (.callG zfw []),
 Om 9 22])
 (.seq (kp [0,1,2,3,9,10] [Ot 23 (.callG zep []),
 Ot 10 (.alloc 17 (.agg [(.int .i64 0),(.int .i64 0),(.int .i64 0),(.int .i64 0),(.int .i64 0),(.int .i64 0),(.int .i64 0),(.int .i64 0),(.int .i64 0),(.int .i64 0),(.int .i64 0),(.int .i64 0),(.int .i64 0),(.int .i64 0),(.int .i64 0),(.int .i64 0),(.int .i64 0)])),
 Oy 17 10 23])
 (.seq (.seq (kp [0,1,2,3,9,10,53] [Om 24 0,
 Ot 25 (.bin .lss (.t 24) (.c (.int .i64 (-1048576)))),
 Om 26 25,
 Og 27 26 (.mov (.t 0)),
 Og 28 26 (.bin .gtr (.t 27) (ci 1048576)),
 Ot 29 (.pick (.t 26) (.c (.bool true)) (.t 28)),
 Om 30 29,
 Og 31 30 (.mov (.t 1)),
 Og 32 30 (.bin .lss (.t 31) (ci 1)),
 Ot 33 (.pick (.t 30) (.c (.bool true)) (.t 32)),
 Om 34 33,
 Og 35 34 (.mov (.t 1)),
 Og 36 34 (.bin .gtr (.t 35) (ci 20)),
 Ot 37 (.pick (.t 34) (.c (.bool true)) (.t 36)),
 Om 38 37,
 Og 39 38 (.mov (.t 2)),
 Og 40 38 (.bin .lss (.t 39) (ci 1)),
 Ot 41 (.pick (.t 38) (.c (.bool true)) (.t 40)),
 Om 42 41,
 Og 43 42 (.mov (.t 2)),
 Og 44 42 (.bin .gtr (.t 43) (ci 5)),
 Ot 45 (.pick (.t 42) (.c (.bool true)) (.t 44)),
 Om 46 45,
 Og 47 46 (.mov (.t 3)),
 Og 48 46 (.bin .lss (.t 47) (ci 0)),
 Ot 49 (.pick (.t 46) (.c (.bool true)) (.t 48)),
 Om 50 49,
 Og 51 50 (.mov (.t 3)),
 Og 52 50 (.bin .gtr (.t 51) (ci 2)),
 Ot 53 (.pick (.t 50) (.c (.bool true)) (.t 52))])
 (.cond (.t 53) (.seq (kp [8] [Om 54 9,
 Om 8 54])
 .ret)
 .skip))
 (.seq (kp [0,1,2,3,9,11,12] [OL 56 17 10,
 Ot 57 (.callG n_imu_New [.t 56]),
 Om 55 57,
 Ot 58 (.ext (.t 55) 0),
 Ot 59 (.ext (.t 55) 1),
 Om 11 58,
 Om 12 59])
 (.seq (.seq (kp [0,1,2,3,9,11,65] [Om 60 11,
 Ot 61 (.isnil 1 false (.t 60)),
 Om 62 61,
 Og 63 62 (.mov (.t 12)),
 Og 64 62 (.bin .neq (.t 63) (ci 0)),
 Ot 65 (.pick (.t 62) (.c (.bool true)) (.t 64))])
 (.cond (.t 65) (.seq (kp [8] [Ot 8 (.mov (.c (.bool false)))])
 .ret)
 .skip))
 (.seq (kp [0,1,2,3,9,11,13] [Ot 66 (.new (.bsl 1) [ci 0,ci 0,ci 0,ci 0,ci 0,ci 0]),
 Om 13 66])
 (.seq (kp [0,1,2,3,9,11,13] [Om 67 13,
 Om 68 3,
 Ot 69 (.bin .add (ci 3) (.t 68)),
 Om 70 0,
 Oi 71 1 67 69,
 Oy 1 71 70])
 (.seq (.seq (kp [0,1,2,3,9,11,13,14] [Oc 14 0])
 (.block 0 (.loop (.seq (.seq (kp [0,1,2,3,9,11,13,14,74] [Om 72 14,
 Om 73 1,
 Ot 74 (.bin .lss (.t 72) (.t 73))])
 (.cond (.t 74) .skip
 (.exit 0)))
 (.seq (.block 1 (.seq (kp [0,1,2,3,9,11,13,14,15] [Om 77 11,
 Om 78 13,
 Ot 79 (.build [(.int .i64 0),(.int .i64 0),(.int .i64 0),.nil] [(0,1,(ci 1)),(3,1,(.t 78))]),
 Om 80 2,
 Ot 81 (.callG zff [.t 77,.t 79,.t 80]),
 Om 15 81])
 (.seq (kp [0,1,2,3,9,11,13,14,83] [Om 82 15,
 Ot 83 (.bin .neq (.t 82) (ci 0))])
 (.cond (.t 83) (.seq (kp [8] [Ot 8 (.mov (.c (.bool false)))])
 .ret)
 .skip))))
 (kp [0,1,2,3,9,11,13,14] [Om 75 14,
 Ot 76 (.bin .add (.t 75) (ci 1)),
 Om 14 76]))))))
 (.seq (kp [0,1,2,3,9,16] [Om 84 11,
 Ot 85 (.callG zgo [.t 84]),
 Ot 16 (.alloc 47 (.agg [(.int .i64 0),(.int .i64 0),(.bool false),(.int .i64 0),(.int .i64 0),(.bool false),(.int .i64 0),(.int .i64 0),(.bool false),(.int .i64 0),(.int .i64 0),(.bool false),(.int .i64 0),(.int .i64 0),(.bool false),(.int .i64 0),(.int .i64 0),(.bool false),(.int .i64 0),(.int .i64 0),(.bool false),(.int .i64 0),(.int .i64 0),(.bool false),(.int .i64 0),(.int .i64 0),(.bool false),(.int .i64 0),(.int .i64 0),(.bool false),(.int .i64 0),(.int .i64 0),(.bool false),(.int .i64 0),(.int .i64 0),(.bool false),(.int .i64 0),(.int .i64 0),(.bool false),(.int .i64 0),(.int .i64 0),(.bool false),(.int .i64 0),(.int .i64 0),(.bool false),(.int .i64 0),(.int .i64 0)])),
 Oy 47 16 85])
 (.seq (kp [0,1,3,9,16,17] [Om 86 2,
 Om 87 1,
 Ot 88 (.bin .mul (.t 86) (.t 87)),
 Om 17 88])
 (.seq (kp [0,1,3,9,16,17,18] [Om 89 3,
 Ot 90 (.fldA 27 9 true (.t 16)),
 Ot 91 (.arrA 3 3 true (.t 90) (.t 89)),
 OL 92 3 91,
 Ot 18 (.alloc 3 (.agg [(.int .i64 0),(.int .i64 0),(.bool false)])),
 Oy 3 18 92])
 (.seq (kp [0,1,9,16,17,18,19] [Om 93 3,
 Ot 94 (.fldA 36 9 true (.t 16)),
 Ot 95 (.arrA 3 3 true (.t 94) (.t 93)),
 OL 96 3 95,
 Ot 19 (.alloc 3 (.agg [(.int .i64 0),(.int .i64 0),(.bool false)])),
 Oy 3 19 96])
 (.seq (kp [0,1,9,16,17,19,20] [Oq 97 2 1 18,
 Ol 98 1 97,
 Om 99 98,
 Og 100 99 (.mov (.t 0)),
 Og 101 99 (.mov (.t 17)),
 Og 102 99 (.bin .mul (.t 100) (.t 101)),
 Og 103 99 (.fldA 0 1 false (.t 18)),
 Og 104 99 (.load 1 false (.t 103)),
 Og 105 99 (.bin .mul (.t 104) (ci 100)),
 Og 106 99 (.bin .geq (.t 102) (.t 105)),
 Og 107 99 (.mov (.t 106)),
 Oh 108 107 (.mov (.t 0)),
 Oh 109 107 (.mov (.t 17)),
 Oh 110 107 (.bin .mul (.t 108) (.t 109)),
 Oh 111 107 (.fldA 1 1 false (.t 18)),
 Oh 112 107 (.load 1 false (.t 111)),
 Oh 113 107 (.bin .mul (.t 112) (ci 100)),
 Oh 114 107 (.bin .leq (.t 110) (.t 113)),
 Og 115 99 (.pick (.t 107) (.t 114) (.c (.bool false))),
 Ot 116 (.pick (.t 99) (.c (.bool true)) (.t 115)),
 Om 20 116])
 (.seq (kp [1,9,16,17,20,21] [Oq 117 2 1 19,
 Ol 118 1 117,
 Om 119 118,
 Og 120 119 (.mov (.t 0)),
 Og 121 119 (.mov (.t 17)),
 Og 122 119 (.bin .mul (.t 120) (.t 121)),
 Og 123 119 (.mov (.t 17)),
 Og 124 119 (.bin .mul (.t 122) (.t 123)),
 Og 125 119 (.fldA 0 1 false (.t 19)),
 Og 126 119 (.load 1 false (.t 125)),
 Og 127 119 (.bin .mul (.t 126) (ci 20000)),
 Og 128 119 (.bin .geq (.t 124) (.t 127)),
 Og 129 119 (.mov (.t 128)),
 Oh 130 129 (.mov (.t 0)),
 Oh 131 129 (.mov (.t 17)),
 Oh 132 129 (.bin .mul (.t 130) (.t 131)),
 Oh 133 129 (.mov (.t 17)),
 Oh 134 129 (.bin .mul (.t 132) (.t 133)),
 Oh 135 129 (.fldA 1 1 false (.t 19)),
 Oh 136 129 (.load 1 false (.t 135)),
 Oh 137 129 (.bin .mul (.t 136) (ci 20000)),
 Oh 138 129 (.bin .leq (.t 134) (.t 137)),
 Og 139 119 (.pick (.t 129) (.t 138) (.c (.bool false))),
 Ot 140 (.pick (.t 119) (.c (.bool true)) (.t 139)),
 Om 21 140])
 (.seq (kp [8] [Om 141 9,
 Om 142 141,
 Oh 143 142 (.mov (.t 20)),
 Ot 144 (.pick (.t 142) (.t 143) (.c (.bool false))),
 Om 145 144,
 Oh 146 145 (.mov (.t 21)),
 Ot 147 (.pick (.t 145) (.t 146) (.c (.bool false))),
 Om 148 147,
 Oh 149 148 (.fldA 45 1 false (.t 16)),
 Oh 150 148 (.load 1 false (.t 149)),
 Oh 151 148 (.mov (.t 17)),
 Oh 152 148 (.bin .eql (.t 150) (.t 151)),
 Ot 153 (.pick (.t 148) (.t 152) (.c (.bool false))),
 Om 154 153,
 Oh 155 154 (.fldA 46 1 false (.t 16)),
 Oh 156 154 (.load 1 false (.t 155)),
 Oh 157 154 (.mov (.t 1)),
 Oh 158 154 (.bin .eql (.t 156) (.t 157)),
 Ot 159 (.pick (.t 154) (.t 158) (.c (.bool false))),
 Om 8 159])
 .ret))))))))))))))))
def gimbaltop_TopSteady.res : List RX := [(8, none)]
theorem gimbaltop_TopSteady.of : OfT pg zd1 gimbaltop_TopSteady.k gimbaltop_TopSteady.res 4 := OfI Tryz.func3
def gimbaltop_alive.k : K :=
 (.seq (kp [] [Ot 0 (.mov (.c (.bool false)))])
 (.seq (kp [1,2] [Ot 6 (.new (.bsl 1) [ci 1,ci 0,ci 0]),
 Ot 7 (.build [(.sl []),(.int .i64 0),(.int .i64 0),(.int .i64 0)] [(0,1,(.t 6)),(1,1,(ci 7)),(2,1,(ci 100)),(3,1,(ci 1))]),
 Ot 8 (.new (.bsl 1) [ci 0,ci 1,ci 0]),
 Ot 9 (.build [(.sl []),(.int .i64 0),(.int .i64 0),(.int .i64 0)] [(0,1,(.t 8)),(1,1,(.c (.int .i64 (-2)))),(2,1,(ci 100)),(3,1,(ci 1))]),
 Ot 10 (.new (.bsl 1) [ci 0,ci 0,ci 1]),
 Ot 11 (.build [(.sl []),(.int .i64 0),(.int .i64 0),(.int .i64 0)] [(0,1,(.t 10)),(2,1,(ci 100)),(3,1,(ci 1))]),
 Ot 12 (.new (.bsl 4) [.t 7,.t 9,.t 11]),
 Ot 13 (.callG n_graph_New [ci 3,.t 12]),
 Om 5 13,
 Ot 14 (.ext (.t 5) 0),
 Ot 15 (.ext (.t 5) 1),
 Ot 1 (.alloc 8 (.agg [(.int .i64 0),.nil,.nil,.nil,(.bool false),(.sl []),(.bool false),(.sl [])])),
 Oy 8 1 14,
 Om 2 15])
 (.seq (.seq (kp [1,17] [Om 16 2,
 Ot 17 (.bin .neq (.t 16) (ci 0))])
 (.cond (.t 17) (.seq (kp [0] [Ot 0 (.mov (.c (.bool false)))])
 .ret)
 .skip))
 (.seq (kd [3,4] [OL 19 8 1,
 Ot 20 (.call zfi []),
 Ot 21 (.red .bsz [ci 0,ci 0,ci 0]),
 Ot 22 (.call n_solve_Solve [.t 19,.t 20,.t 21]),
 Om 18 22,
 Ot 23 (.ext (.t 18) 0),
 Ot 24 (.ext (.t 18) 1),
 Ot 3 (.alloc 4 (.agg [.nil,(.int .i64 0),(.int .i64 0),(.int .i64 0)])),
 Oy 4 3 23,
 Om 4 24])
 (.seq (kp [0] [Om 25 4,
 Ot 26 (.bin .eql (.t 25) (ci 0)),
 Om 27 26,
 Oh 28 27 (.fldA 1 1 false (.t 3)),
 Oh 29 27 (.load 1 false (.t 28)),
 Oh 30 27 (.bin .eql (.t 29) (ci 1)),
 Ot 31 (.pick (.t 27) (.t 30) (.c (.bool false))),
 Om 32 31,
 Oh 33 32 (.fldA 0 1 false (.t 3)),
 Oh 34 32 (.load 1 false (.t 33)),
 Oh 35 32 (.new (.bsl 1) [ci 7,(.c (.int .i64 (-2))),ci 0]),
 Oh 36 32 (.callG zgj [.t 34,.t 35]),
 Ot 37 (.pick (.t 32) (.t 36) (.c (.bool false))),
 Om 0 37])
 .ret)))))
def gimbaltop_alive.res : List RX := [(0, none)]
theorem gimbaltop_alive.of : OfT pg zfw gimbaltop_alive.k gimbaltop_alive.res 0 := OfI Tryz.func6
def gimbaltop_same.k : K :=
 (.seq (kp [0,1] [Ot 4 (.mov (.c (.bool false)))])
 (.seq (.seq (kp [0,1,10] [Om 6 0,
 On 7 6,
 Om 8 1,
 On 9 8,
 Ot 10 (.bin .neq (.t 7) (.t 9))])
 (.cond (.t 10) (.seq (kp [4] [Ot 4 (.mov (.c (.bool false)))])
 .ret)
 .skip))
 (.seq (.seq (kp [0,1,5] [Oc 5 0])
 (.block 0 (.loop (.seq (.seq (kp [0,1,5,14] [Om 11 5,
 Om 12 0,
 On 13 12,
 Ot 14 (.bin .lss (.t 11) (.t 13))])
 (.cond (.t 14) .skip
 (.exit 0)))
 (.seq (.block 1 (.seq (kd [0,1,5,25] [Om 17 0,
 Om 18 5,
 Oi 19 1 17 18,
 Ol 20 1 19,
 Om 21 1,
 Om 22 5,
 Oi 23 1 21 22,
 Ol 24 1 23,
 Ot 25 (.bin .neq (.t 20) (.t 24))])
 (.cond (.t 25) (.seq (kp [4] [Ot 4 (.mov (.c (.bool false)))])
 .ret)
 .skip)))
 (kp [0,1,5] [Om 15 5,
 Ot 16 (.bin .add (.t 15) (ci 1)),
 Om 5 16]))))))
 (.seq (kp [4] [Ot 4 (.mov (.c (.bool true)))])
 .ret))))
def gimbaltop_same.res : List RX := [(4, none)]
theorem gimbaltop_same.of : OfT pg zgj gimbaltop_same.k gimbaltop_same.res 2 := OfI Tryz.func21
def gimbaltop_gentle.k : K :=
 (.seq (kp [0] [Ot 0 (.alloc 17 (.agg [(.int .i64 0),(.int .i64 0),(.int .i64 0),(.int .i64 0),(.int .i64 0),(.int .i64 0),(.int .i64 0),(.int .i64 0),(.int .i64 0),(.int .i64 0),(.int .i64 0),(.int .i64 0),(.int .i64 0),(.int .i64 0),(.int .i64 0),(.int .i64 0),(.int .i64 0)]))])
 (.seq (kp [0,1] [Ot 2 (.callG zep []),
 Ot 1 (.alloc 17 (.agg [(.int .i64 0),(.int .i64 0),(.int .i64 0),(.int .i64 0),(.int .i64 0),(.int .i64 0),(.int .i64 0),(.int .i64 0),(.int .i64 0),(.int .i64 0),(.int .i64 0),(.int .i64 0),(.int .i64 0),(.int .i64 0),(.int .i64 0),(.int .i64 0),(.int .i64 0)])),
 Oy 17 1 2])
 (.seq (kp [0,1] [Ot 3 (.build [(.int .i64 0),(.int .i64 0),(.int .i64 0),(.int .i64 0)] [(0,1,(ci 32768)),(1,1,(ci 32768)),(2,1,(ci 32768)),(3,1,(ci 32768))]),
 Ot 4 (.fldA 6 4 true (.t 1)),
 Oy 4 4 3])
 (.seq (kp [0,1] [Oq 5 2 1 1,
 ⟨none, none,.store 1 (.t 5) (ci 5)⟩])
 (.seq (kp [0,1] [Oq 6 16 1 1,
 ⟨none, none,.store 1 (.t 6) (ci 0)⟩])
 (.seq (kp [0] [OL 7 17 1,
 Oy 17 0 7])
 .ret))))))
def gimbaltop_gentle.res : List RX := [(0, some (17, true))]
theorem gimbaltop_gentle.of : OfT pg zfi gimbaltop_gentle.k gimbaltop_gentle.res 0 := OfI Tryz.func24
end Go.Gim

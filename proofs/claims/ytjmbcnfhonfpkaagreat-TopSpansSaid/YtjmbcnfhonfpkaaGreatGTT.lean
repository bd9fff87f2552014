import Derived.Test.YtjmbcnfhonfpkaaGreatGN
/- Functions' code as data (written by wip/tools/gen.py), and the step to their contracts. -/
set_option maxRecDepth 100000
namespace Go.Gim
open Go.Proofs
def solve_Solve.k : K :=
 (.seq (kp [2,3,4,6] [Ot 3 (.boxP (.t 0)),
 Ot 4 (.boxP (.t 1)),
 Ot 6 (.alloc 4 (.agg [.nil,(.int .i64 0),(.int .i64 0),(.int .i64 0)])),
 Oc 7 0])
 (.scope (.seq (.seq (kp [2,3,4,6,9] [OL 16 17 4,
 Ot 17 (.callG zff [.t 16]),
 Om 15 17,
 Ot 18 (.ext (.t 15) 0),
 Ot 19 (.ext (.t 15) 1),
 Om 8 18,
 Om 9 19])
 (.seq (kp [2,3,4,6,9,21] [Om 20 9,
 Ot 21 (.bin .neq (.t 20) (ci 0))])
 (.cond (.t 21) (.seq (kp [6,7] [Ot 22 (.build [.nil,(.int .i64 0),(.int .i64 0),(.int .i64 0)] []),
 Om 23 9,
 Oy 4 6 22,
 Om 7 23])
 .ret)
 .skip)))
 (.seq (.seq (kp [2,3,4,6,33] [Om 24 2,
 On 25 24,
 Oq 26 0 1 3,
 Ol 27 1 26,
 Ot 28 (.bin .neq (.t 25) (.t 27)),
 Om 29 28,
 Og 30 29 (.mov (.t 2)),
 Og 31 29 (.callG zfl [.t 30]),
 Og 32 29 (.un .not (.t 31)),
 Ot 33 (.pick (.t 29) (.c (.bool true)) (.t 32))])
 (.cond (.t 33) (.seq (kp [6,7] [Ot 34 (.build [.nil,(.int .i64 0),(.int .i64 0),(.int .i64 0)] []),
 Oy 4 6 34,
 Oc 7 170])
 .ret)
 .skip))
 (.seq (kp [3,4,6,10] [Om 35 2,
 Ot 36 (.callG zam [.t 35]),
 Ot 37 (.build [.nil,(.int .i64 0),(.int .i64 0),(.int .i64 0)] [(0,1,(.t 36))]),
 Ot 10 (.alloc 4 (.agg [.nil,(.int .i64 0),(.int .i64 0),(.int .i64 0)])),
 Oy 4 10 37])
 (.seq .skip
 (.block 0 (.loop (.keep [3,4,6,10] (.block 1 (.seq (.block 2 (.seq (kp [3,4,6,10,38] [OL 39 8 3,
 Oq 40 0 1 10,
 Ol 41 1 40,
 Oq 42 16 1 4,
 Ol 43 1 42,
 Ot 44 (.callG n_cost_Flat [.t 39,.t 41,.t 43]),
 Om 38 44])
 (.cond (.t 38) (.seq (kp [6,10] [Oq 45 1 1 10,
 ⟨none, none,.store 1 (.t 45) (ci 1)⟩])
 (.seq (kp [6,7] [OL 46 4 10,
 Oy 4 6 46,
 Oc 7 0])
 .ret))
 (.seq (kp [3,4,6,10,47] [Oq 48 2 1 10,
 Ol 49 1 48,
 Oq 50 14 1 4,
 Ol 51 1 50,
 Ot 52 (.bin .eql (.t 49) (.t 51)),
 Om 47 52])
 (.cond (.t 47) (.seq (kp [6,10] [Oq 53 1 1 10,
 ⟨none, none,.store 1 (.t 53) (ci 2)⟩])
 (.seq (kp [6,7] [OL 54 4 10,
 Oy 4 6 54,
 Oc 7 0])
 .ret))
 .skip)))))
 (.seq (kp [3,4,6,10] [Oq 55 1 1 10,
 ⟨none, none,.store 1 (.t 55) (ci 5)⟩])
 (.seq (.seq (kp [3,4,6,10,11] [Oc 11 0])
 (.block 3 (.loop (.seq (.seq (kp [3,4,6,10,11,59] [Om 56 11,
 Oq 57 15 1 4,
 Ol 58 1 57,
 Ot 59 (.bin .leq (.t 56) (.t 58))])
 (.cond (.t 59) .skip
 (.exit 3)))
 (.seq (.block 4 (.seq (kp [3,4,6,10,11,12,13] [OL 63 8 3,
 Oq 64 0 1 10,
 Ol 65 1 64,
 Om 66 11,
 Ot 67 (.callG n_solve_Step [.t 63,.t 65,.t 66]),
 Om 62 67,
 Ot 68 (.ext (.t 62) 0),
 Ot 69 (.ext (.t 62) 1),
 Om 12 68,
 Om 13 69])
 (.seq (.seq (kp [3,4,6,10,11,12,71] [Om 70 13,
 Ot 71 (.bin .neq (.t 70) (ci 0))])
 (.cond (.t 71) (.exit 4)
 .skip))
 (.seq (kp [3,4,6,10,11,12] [Oq 72 3 1 10,
 Ol 73 1 72,
 Ot 74 (.bin .add (.t 73) (ci 1)),
 Oq 75 3 1 10,
 Oy 1 75 74])
 (.seq (.seq (kp [3,4,6,10,11,12,78] [Oq 76 1 1 10,
 Ol 77 1 76,
 Ot 78 (.bin .eql (.t 77) (ci 5))])
 (.cond (.t 78) (kp [3,4,6,10,11,12] [Oq 79 1 1 10,
 ⟨none, none,.store 1 (.t 79) (ci 3)⟩])
 .skip))
 (.seq (.seq (kp [3,4,6,10,11,12,82] [Om 80 12,
 Ot 81 (.callG zbj [.t 80,(.c (.fn zde []))]),
 Ot 82 (.un .not (.t 81))])
 (.cond (.t 82) (.exit 3)
 .skip))
 (.seq (kp [3,4,6,10,11,14] [Oq 83 0 1 10,
 Ol 84 1 83,
 Om 85 12,
 Ot 86 (.callG n_solve_moved [.t 84,.t 85]),
 Om 14 86])
 (.block 5 (.seq (kp [3,4,6,10,11,14,87] [Om 88 14,
 Ot 89 (.callG zfl [.t 88]),
 Ot 90 (.un .not (.t 89)),
 Om 87 90])
 (.cond (.t 87) (kp [3,4,6,10,11] [Oq 91 1 1 10,
 ⟨none, none,.store 1 (.t 91) (ci 4)⟩])
 (.seq (kp [3,4,6,10,11,14,92] [OL 93 8 3,
 Om 94 14,
 Oq 95 0 1 10,
 Ol 96 1 95,
 Ot 97 (.callG n_cost_Less [.t 93,.t 94,.t 96]),
 Om 92 97])
 (.cond (.t 92) (.seq (kp [3,4,6,10] [Om 98 14,
 Oq 99 0 1 10,
 Oy 1 99 98])
 (.seq (kp [3,4,6,10] [Oq 100 2 1 10,
 Ol 101 1 100,
 Ot 102 (.bin .add (.t 101) (ci 1)),
 Oq 103 2 1 10,
 Oy 1 103 102])
 (.exit 1)))
 .skip))))))))))))
 (kp [3,4,6,10,11] [Om 60 11,
 Ot 61 (.bin .add (.t 60) (ci 1)),
 Om 11 61]))))))
 (.seq (kp [6,7] [OL 104 4 10,
 Oy 4 6 104,
 Oc 7 0])
 .ret))))))))))))))
def solve_Solve.res : List RX := [(6, some (4, true)), (7, none)]
theorem solve_Solve.of : OfT pg n_solve_Solve solve_Solve.k solve_Solve.res 3 := OfI Tryz.func13
def solve_Step.k : K :=
 (.seq (kp [1,2,3,6] [Ot 3 (.boxP (.t 0)),
 Ot 6 (.mov (.c .nil)),
 Oc 7 0])
 (.seq (.block 0 (.seq (kp [1,2,3,6,16] [Om 17 1,
 On 18 17,
 Oq 19 0 1 3,
 Ol 20 1 19,
 Ot 21 (.bin .neq (.t 18) (.t 20)),
 Om 22 21,
 Og 23 22 (.mov (.t 1)),
 Og 24 22 (.callG zfl [.t 23]),
 Og 25 22 (.un .not (.t 24)),
 Ot 26 (.pick (.t 22) (.c (.bool true)) (.t 25)),
 Om 16 26])
 (.cond (.t 16) (.seq (kp [6,7] [Ot 6 (.mov (.c .nil)),
 Oc 7 170])
 .ret)
 (.seq (kp [1,2,3,6,27] [Om 28 2,
 Ot 29 (.bin .lss (.t 28) (ci 0)),
 Om 30 29,
 Og 31 30 (.mov (.t 2)),
 Og 32 30 (.bin .gtr (.t 31) (ci 12)),
 Ot 33 (.pick (.t 30) (.c (.bool true)) (.t 32)),
 Om 27 33])
 (.cond (.t 27) (.seq (kp [6,7] [Ot 6 (.mov (.c .nil)),
 Oc 7 1])
 .ret)
 .skip)))))
 (.seq (kd [1,3,6,8] [OL 34 8 3,
 Om 35 1,
 Ot 36 (.call zd6 [.t 34,.t 35]),
 OL 37 8 3,
 Om 38 2,
 Ot 39 (.call zgi [.t 37,.t 38]),
 Ot 40 (.call zg5 [.t 36,.t 39]),
 Om 8 40])
 (.seq (.seq (kp [1,3,6,8,43] [Om 41 8,
 Ot 42 (.callG zeo [.t 41]),
 Ot 43 (.un .not (.t 42))])
 (.cond (.t 43) (.seq (kp [6,7] [Ot 6 (.mov (.c .nil)),
 Oc 7 80])
 .ret)
 .skip))
 (.seq (kp [6,8,9] [OL 44 8 3,
 Om 45 1,
 Ot 46 (.callG zdf [.t 44,.t 45]),
 Om 9 46])
 (.seq (.seq (kp [6,8,9,48,49] [Om 47 9,
 On 48 47,
 Oc 49 0])
 (.block 1 (.loop (.seq (kp [6,8,9,48,49,50] [Ot 50 (.bin .lss (.t 49) (.t 48))])
 (.seq (.cond (.t 50) .skip
 (.exit 1))
 (.seq (.block 2 (.seq (kp [6,8,9,10,48,49] [Om 51 49,
 Om 10 51])
 (kd [6,8,9,48,49] [Om 52 9,
 Om 53 10,
 Om 54 9,
 Om 55 10,
 Oi 56 2 54 55,
 OL 57 2 56,
 Ot 58 (.call zas [(.c (.int .i64 (-1024)))]),
 Ot 59 (.call zaj [.t 57,.t 58]),
 Oi 60 2 52 53,
 Oy 2 60 59])))
 (kp [6,8,9,48,49] [Ot 61 (.bin .add (.t 49) (ci 1)),
 Om 49 61])))))))
 (.seq (kp [6,11,12] [Om 63 8,
 Om 64 9,
 Ot 65 (.callG zen [.t 63,.t 64]),
 Om 62 65,
 Ot 66 (.ext (.t 62) 0),
 Ot 67 (.ext (.t 62) 1),
 Ot 68 (.ext (.t 62) 2),
 Ot 12 (.alloc 2 (.agg [(.bool false),(.sl [])])),
 Om 11 66,
 Oy 2 12 67,
 Om 13 68])
 (.seq (.seq (kp [6,12,69,70,71] [Om 69 11,
 On 70 69,
 Oc 71 0])
 (.block 3 (.loop (.seq (kp [6,12,69,70,71,72] [Ot 72 (.bin .lss (.t 71) (.t 70))])
 (.seq (.cond (.t 72) .skip
 (.exit 3))
 (.seq (.block 4 (.seq (kp [6,12,15,69,70,71] [Oi 73 2 69 71,
 OL 74 2 73,
 Ot 15 (.alloc 2 (.agg [(.bool false),(.sl [])])),
 Oy 2 15 74])
 (kp [6,12,69,70,71] [Om 75 6,
 OL 76 2 15,
 OL 77 2 12,
 Ot 78 (.callG zgh [.t 76,.t 77]),
 Ot 79 (.new (.bsl 1) [.t 78]),
 Ot 80 (.eff (.app 1 8) [.t 75,.t 79]),
 Om 6 80])))
 (kp [6,12,69,70,71] [Ot 81 (.bin .add (.t 71) (ci 1)),
 Om 71 81])))))))
 (.seq (kp [6,7] [Om 82 6,
 Om 6 82,
 Oc 7 0])
 .ret)))))))))
def solve_Step.res : List RX := [(6, none), (7, none)]
theorem solve_Step.of : OfT pg n_solve_Step solve_Step.k solve_Step.res 3 := OfI Tryz.func44
def solve_Solve_1.k : K :=
 (.seq (kp [0] [Ot 2 (.mov (.c (.bool false)))])
 (.seq (kp [2] [Om 3 0,
 Ot 4 (.bin .neq (.t 3) (ci 0)),
 Om 2 4])
 .ret))
def solve_Solve_1.res : List RX := [(2, none)]
theorem solve_Solve_1.of : OfT pg zde solve_Solve_1.k solve_Solve_1.res 1 := OfI Tryz.func46
def solve_moved.k : K :=
 (.seq (kp [0,1] [Ot 4 (.mov (.c .nil))])
 (.seq (kp [1,5] [Om 7 0,
 Ot 8 (.callG zam [.t 7]),
 Om 5 8])
 (.seq (.seq (kp [1,5,10,11] [Om 9 1,
 On 10 9,
 Oc 11 0])
 (.block 0 (.loop (.seq (kp [1,5,10,11,12] [Ot 12 (.bin .lss (.t 11) (.t 10))])
 (.seq (.cond (.t 12) .skip
 (.exit 0))
 (.seq (.block 1 (.seq (kp [1,5,6,10,11] [Om 13 11,
 Om 6 13])
 (kd [1,5,10,11] [Om 14 5,
 Om 15 6,
 Oi 16 1 14 15,
 Ol 17 1 16,
 Om 18 1,
 Om 19 6,
 Oi 20 1 18 19,
 Ol 21 1 20,
 Ot 22 (.bin .add (.t 17) (.t 21)),
 Oi 23 1 14 15,
 Oy 1 23 22])))
 (kp [1,5,10,11] [Ot 24 (.bin .add (.t 11) (ci 1)),
 Om 11 24])))))))
 (.seq (kp [4] [Om 25 5,
 Om 4 25])
 .ret))))
def solve_moved.res : List RX := [(4, none)]
theorem solve_moved.of : OfT pg n_solve_moved solve_moved.k solve_moved.res 2 := OfI Tryz.func47
def solve_damped.k : K :=
 (.seq (kp [0,3] [Ot 3 (.boxP (.t 1)),
 Ot 4 (.mov (.c .nil))])
 (.seq (kp [0,3,5] [Ot 5 (.mov (.c .nil))])
 (.seq (.seq (kp [3,5,8,9,10] [Om 8 0,
 On 9 8,
 Oc 10 0])
 (.block 0 (.loop (.seq (kp [3,5,8,9,10,11] [Ot 11 (.bin .lss (.t 10) (.t 9))])
 (.seq (.cond (.t 11) .skip
 (.exit 0))
 (.seq (.block 1 (.seq (kp [3,5,6,7,8,9,10] [Om 12 10,
 Oi 13 1 8 10,
 Ol 14 1 13,
 Om 6 12,
 Om 7 14])
 (.seq (kp [3,5,6,7,8,9,10] [Om 15 7,
 Ot 16 (.callG za2 [.t 15]),
 Om 7 16])
 (.seq (kd [3,5,7,8,9,10] [Om 17 7,
 Om 18 6,
 Om 19 7,
 Om 20 6,
 Oi 21 2 19 20,
 OL 22 2 21,
 OL 23 2 3,
 Ot 24 (.call zan [.t 22,.t 23]),
 Oi 25 2 17 18,
 Oy 2 25 24])
 (.gh (kp [3,5,8,9,10] [Om 26 5,
 Om 27 7,
 Ot 28 (.new (.bsl 1) [.t 27]),
 Ot 29 (.eff (.app 1 24) [.t 26,.t 28]),
 Om 5 29]))))))
 (kp [3,5,8,9,10] [Ot 30 (.bin .add (.t 10) (ci 1)),
 Om 10 30])))))))
 (.seq (kp [4] [Om 31 5,
 Om 4 31])
 .ret))))
def solve_damped.res : List RX := [(4, none)]
theorem solve_damped.of : OfT pg zg5 solve_damped.k solve_damped.res 2 := OfI Tryz.func65
def solve_damping.k : K :=
 (.seq (kp [1,2,4] [Ot 2 (.boxP (.t 0)),
 Ot 4 (.alloc 2 (.agg [(.bool false),(.sl [])]))])
 (.seq (.seq (kp [1,2,4,6] [Om 5 1,
 Ot 6 (.bin .eql (.t 5) (ci 0))])
 (.cond (.t 6) (.seq (kp [4] [Ot 7 (.build [(.bool false),(.sl [])] []),
 Oy 2 4 7])
 .ret)
 .skip))
 (.seq (kd [4] [Ot 8 (.fldA 6 2 true (.t 2)),
 OL 9 2 8,
 Om 10 1,
 Ot 11 (.bin .sub (.t 10) (ci 1)),
 Ot 12 (.bin .mul (ci 2) (.t 11)),
 Ot 13 (.bin .shl (ci 1) (.t 12)),
 Ot 14 (.call zas [.t 13]),
 Ot 15 (.call zaj [.t 9,.t 14]),
 Oy 2 4 15])
 .ret)))
def solve_damping.res : List RX := [(4, some (2, true))]
theorem solve_damping.of : OfT pg zgi solve_damping.k solve_damping.res 2 := OfI Tryz.func67
def solve_nearest.k : K :=
 (.seq (kp [2,3] [Ot 2 (.boxP (.t 0)),
 Ot 3 (.boxP (.t 1)),
 Oc 4 0])
 (.seq (kd [5] [OL 11 2 2,
 Ot 12 (.call zas [ci 2]),
 Ot 13 (.call zaj [.t 11,.t 12]),
 OL 14 2 3,
 Ot 15 (.call zan [.t 13,.t 14]),
 OL 16 2 3,
 Ot 17 (.call zas [ci 2]),
 Ot 18 (.call zaj [.t 16,.t 17]),
 Ot 19 (.call zcg [.t 15,.t 18]),
 Om 10 19,
 Ot 20 (.ext (.t 10) 0),
 Ot 21 (.ext (.t 10) 1),
 Ot 22 (.ext (.t 10) 2),
 Ot 5 (.alloc 2 (.agg [(.bool false),(.sl [])])),
 Ot 6 (.alloc 2 (.agg [(.bool false),(.sl [])])),
 Oy 2 5 20,
 Oy 2 6 21,
 Om 7 22])
 (.seq (kp [5,8,9] [OL 24 2 5,
 Ot 25 (.callG zb9 [.t 24]),
 Om 23 25,
 Ot 26 (.ext (.t 23) 0),
 Ot 27 (.ext (.t 23) 1),
 Om 8 26,
 Om 9 27])
 (.seq (.seq (kp [5,8,29] [Om 28 9,
 Ot 29 (.un .not (.t 28))])
 (.cond (.t 29) (kp [8] [OL 30 2 5,
 Ot 31 (.callG zb5 [.t 30]),
 Ot 32 (.bin .mul (ci 10000000) (.t 31)),
 Om 8 32])
 .skip))
 (.seq (kp [4] [Om 33 8,
 Ot 34 (.mm false (.t 33) [ci 10000000]),
 Ot 35 (.mm true (.c (.int .i64 (-10000000))) [.t 34]),
 Om 4 35])
 .ret)))))
def solve_nearest.res : List RX := [(4, none)]
theorem solve_nearest.of : OfT pg zgh solve_nearest.k solve_nearest.res 2 := OfI Tryz.func70
end Go.Gim
/- Functions' code as data (written by wip/tools/gen.py), and the step to their contracts. -/
set_option maxRecDepth 100000
namespace Go.Gim
open Go.Proofs
def span_Of.k : K :=
 (.seq (kp [0,1,4] [Ot 4 (.alloc 3 (.agg [(.int .i64 0),(.int .i64 0),(.bool false)]))])
 (.seq (kp [4] [Om 5 0,
 Om 6 1,
 Ot 7 (.mm false (.t 5) [.t 6]),
 Om 8 0,
 Om 9 1,
 Ot 10 (.mm true (.t 8) [.t 9]),
 Ot 11 (.callG zd3 [.t 7,.t 10]),
 Oy 3 4 11])
 .ret))
def span_Of.res : List RX := [(4, some (3, true))]
theorem span_Of.of : OfT pg zcd span_Of.k span_Of.res 2 := OfI Tryz.func5
def span_made.k : K :=
 (.seq (kp [0,1,4] [Ot 4 (.alloc 3 (.agg [(.int .i64 0),(.int .i64 0),(.bool false)]))])
 (.seq (kp [4] [Om 5 0,
 Om 6 1,
 Ot 7 (.build [(.int .i64 0),(.int .i64 0),(.bool false)] [(0,1,(.t 5)),(1,1,(.t 6))]),
 Ot 8 (.callG zau [.t 7]),
 Oy 3 4 8])
 .ret))
def span_made.res : List RX := [(4, some (3, true))]
theorem span_made.of : OfT pg zd3 span_made.k span_made.res 2 := OfI Tryz.func16
def span_both.k : K :=
 (.seq (kp [2,3,4,6] [Ot 3 (.eff (.boxO 3) [.t 0]),
 Ot 4 (.eff (.boxO 3) [.t 1]),
 Ot 6 (.alloc 3 (.agg [(.int .i64 0),(.int .i64 0),(.bool false)]))])
 (.seq (kd [2,3,4,6] [OL 7 3 3,
 Ot 8 (.call zau [.t 7]),
 OL 9 3 4,
 Ot 10 (.call zau [.t 9]),
 Oy 3 3 8,
 Oy 3 4 10])
 (.seq (.seq (kp [2,3,4,6,16] [Oq 11 2 1 3,
 Ol 12 1 11,
 Om 13 12,
 Og 14 13 (.fldA 2 1 false (.t 4)),
 Og 15 13 (.load 1 false (.t 14)),
 Ot 16 (.pick (.t 13) (.c (.bool true)) (.t 15))])
 (.cond (.t 16) (.seq (kp [6] [Ot 17 (.callG zcs []),
 Oy 3 6 17])
 .ret)
 .skip))
 (.seq (kp [6] [Om 18 2,
 OL 19 3 3,
 OL 20 3 4,
 Ot 21 (.callGV (.t 18) [.t 19,.t 20]),
 Oy 3 6 21])
 .ret))))
def span_both.res : List RX := [(6, some (3, true))]
theorem span_both.of : OfT pg zdd span_both.k span_both.res 3 := OfI Tryz.func28
def span_ends.k : K :=
 (.seq (kp [1] [Ot 1 (.boxP (.t 0)),
 Oc 2 0,
 Oc 3 0])
 (.seq (kd [1,2,3] [Ot 6 (.red (.aptr 4 1 false) [.t 1,ci 0]),
 Ol 7 1 6,
 Ot 8 (.red (.aptr 4 1 false) [.t 1,ci 0]),
 Ol 9 1 8,
 Om 2 7,
 Om 3 9])
 (.seq (.seq (kp [2,3,10,11] [OL 10 4 1,
 Oc 11 0])
 (.block 0 (.loop (.seq (kp [2,3,10,11,12] [Ot 12 (.bin .lss (.t 11) (ci 4))])
 (.seq (.cond (.t 12) .skip
 (.exit 0))
 (.seq (.block 1 (.seq (kp [2,3,5,10,11] [Ot 13 (.red (.aidx 4 1 false) [.t 10,.t 11]),
 Om 5 13])
 (kp [2,3,10,11] [Om 14 2,
 Om 15 5,
 Ot 16 (.mm false (.t 14) [.t 15]),
 Om 17 3,
 Om 18 5,
 Ot 19 (.mm true (.t 17) [.t 18]),
 Om 2 16,
 Om 3 19])))
 (kp [2,3,10,11] [Ot 20 (.bin .add (.t 11) (ci 1)),
 Om 11 20])))))))
 (.seq (kp [2,3] [Om 21 2,
 Om 22 3,
 Om 2 21,
 Om 3 22])
 .ret))))
def span_ends.res : List RX := [(2, none), (3, none)]
theorem span_ends.of : OfT pg n_span_ends span_ends.k span_ends.res 1 := OfI Tryz.func30
def span_whole.k : K :=
 (.seq (kp [0] [Ot 0 (.alloc 3 (.agg [(.int .i64 0),(.int .i64 0),(.bool false)]))])
 (.seq (kp [0] [Ot 1 (.build [(.int .i64 0),(.int .i64 0),(.bool false)] [(2,1,(.c (.bool true)))]),
 Oy 3 0 1])
 .ret))
def span_whole.res : List RX := [(0, some (3, true))]
theorem span_whole.of : OfT pg zcs span_whole.k span_whole.res 0 := OfI Tryz.func32
def span_fixed.k : K :=
 (.seq (kp [0] [Ot 2 (.mov (.c (.bool false)))])
 (.seq (kp [2] [Om 3 0,
 Ot 4 (.bin .geq (.t 3) (.c (.int .i64 (-2147483647)))),
 Om 5 4,
 Oh 6 5 (.mov (.t 0)),
 Oh 7 5 (.bin .leq (.t 6) (ci 2147483647)),
 Ot 8 (.pick (.t 5) (.t 7) (.c (.bool false))),
 Om 2 8])
 .ret))
def span_fixed.res : List RX := [(2, none)]
theorem span_fixed.of : OfT pg zgo span_fixed.k span_fixed.res 1 := OfI Tryz.func56
def span_Span_Mul.k : K :=
 (.seq (kp [2,3,4] [Ot 2 (.boxP (.t 0)),
 Ot 3 (.boxP (.t 1)),
 Ot 4 (.alloc 3 (.agg [(.int .i64 0),(.int .i64 0),(.bool false)]))])
 (.seq (kp [4] [OL 5 3 2,
 OL 6 3 3,
 Ot 7 (.callG zdd [.t 5,.t 6,(.c (.fn zcp []))]),
 Oy 3 4 7])
 .ret))
def span_Span_Mul.res : List RX := [(4, some (3, true))]
theorem span_Span_Mul.of : OfT pg zbe span_Span_Mul.k span_Span_Mul.res 2 := OfI Tryz.func9
def span_Span_Meet.k : K :=
 (.seq (kp [2,3,4] [Ot 2 (.eff (.boxO 3) [.t 0]),
 Ot 3 (.eff (.boxO 3) [.t 1]),
 Ot 4 (.alloc 3 (.agg [(.int .i64 0),(.int .i64 0),(.bool false)])),
 Ot 5 (.mov (.c (.bool false)))])
 (.seq (kd [2,3,4] [OL 6 3 2,
 Ot 7 (.call zau [.t 6]),
 OL 8 3 3,
 Ot 9 (.call zau [.t 8]),
 Oy 3 2 7,
 Oy 3 3 9])
 (.seq (.block 0 (.seq (kd [2,3,4,10] [OL 11 3 2,
 Ot 12 (.call zcs []),
 Ot 13 (.red (.eqS false [(0, false),(1, false),(2, true)]) [.t 11,.t 12]),
 Om 10 13])
 (.cond (.t 10) (.seq (kp [4,5] [OL 14 3 3,
 Oy 3 4 14,
 Ot 5 (.mov (.c (.bool true)))])
 .ret)
 (.seq (kd [2,3,4,15] [OL 16 3 3,
 Ot 17 (.call zcs []),
 Ot 18 (.red (.eqS false [(0, false),(1, false),(2, true)]) [.t 16,.t 17]),
 Om 15 18])
 (.cond (.t 15) (.seq (kp [4,5] [OL 19 3 2,
 Oy 3 4 19,
 Ot 5 (.mov (.c (.bool true)))])
 .ret)
 (.seq (kp [2,3,4,20] [Oq 21 0 1 2,
 Ol 22 1 21,
 Oq 23 0 1 3,
 Ol 24 1 23,
 Ot 25 (.mm true (.t 22) [.t 24]),
 Oq 26 1 1 2,
 Ol 27 1 26,
 Oq 28 1 1 3,
 Ol 29 1 28,
 Ot 30 (.mm false (.t 27) [.t 29]),
 Ot 31 (.bin .gtr (.t 25) (.t 30)),
 Om 20 31])
 (.cond (.t 20) (.seq (kp [4,5] [Ot 32 (.build [(.int .i64 0),(.int .i64 0),(.bool false)] []),
 Oy 3 4 32,
 Ot 5 (.mov (.c (.bool false)))])
 .ret)
 .skip)))))))
 (.seq (kp [4,5] [Oq 33 0 1 2,
 Ol 34 1 33,
 Oq 35 0 1 3,
 Ol 36 1 35,
 Ot 37 (.mm true (.t 34) [.t 36]),
 Oq 38 1 1 2,
 Ol 39 1 38,
 Oq 40 1 1 3,
 Ol 41 1 40,
 Ot 42 (.mm false (.t 39) [.t 41]),
 Ot 43 (.callG zd3 [.t 37,.t 42]),
 Oy 3 4 43,
 Ot 5 (.mov (.c (.bool true)))])
 .ret))))
def span_Span_Meet.res : List RX := [(4, some (3, true)), (5, none)]
theorem span_Span_Meet.of : OfT pg zfr span_Span_Meet.k span_Span_Meet.res 2 := OfI Tryz.func10
def span_Span_Add.k : K :=
 (.seq (kp [2,3,4] [Ot 2 (.boxP (.t 0)),
 Ot 3 (.boxP (.t 1)),
 Ot 4 (.alloc 3 (.agg [(.int .i64 0),(.int .i64 0),(.bool false)]))])
 (.seq (kp [4] [OL 5 3 2,
 OL 6 3 3,
 Ot 7 (.callG zdd [.t 5,.t 6,(.c (.fn zcq []))]),
 Oy 3 4 7])
 .ret))
def span_Span_Add.res : List RX := [(4, some (3, true))]
theorem span_Span_Add.of : OfT pg zbk span_Span_Add.k span_Span_Add.res 2 := OfI Tryz.func23
def span_Span_Sqr.k : K :=
 (.seq (kp [1,2] [Ot 1 (.eff (.boxO 3) [.t 0]),
 Ot 2 (.alloc 3 (.agg [(.int .i64 0),(.int .i64 0),(.bool false)]))])
 (.seq (kp [1,2,3] [OL 4 3 1,
 OL 5 3 1,
 Ot 6 (.callG zbe [.t 4,.t 5]),
 Ot 3 (.alloc 3 (.agg [(.int .i64 0),(.int .i64 0),(.bool false)])),
 Oy 3 3 6])
 (.seq (.seq (kp [1,2,3] [OL 7 3 1,
 Ot 8 (.callG zau [.t 7]),
 Oy 3 1 8])
 (.seq (kp [2,3,20] [Oq 9 2 1 1,
 Ol 10 1 9,
 Ot 11 (.un .not (.t 10)),
 Om 12 11,
 Oh 13 12 (.fldA 2 1 false (.t 3)),
 Oh 14 12 (.load 1 false (.t 13)),
 Oh 15 12 (.un .not (.t 14)),
 Ot 16 (.pick (.t 12) (.t 15) (.c (.bool false))),
 Om 17 16,
 Oh 18 17 (.load 3 true (.t 1)),
 Oh 19 17 (.callG zgg [.t 18,ci 0]),
 Ot 20 (.pick (.t 17) (.t 19) (.c (.bool false)))])
 (.cond (.t 20) (kp [2,3] [Oq 21 0 1 3,
 ⟨none, none,.store 1 (.t 21) (ci 0)⟩])
 .skip)))
 (.seq (kp [2] [OL 22 3 3,
 Oy 3 2 22])
 .ret))))
def span_Span_Sqr.res : List RX := [(2, some (3, true))]
theorem span_Span_Sqr.of : OfT pg zbt span_Span_Sqr.k span_Span_Sqr.res 1 := OfI Tryz.func27
def span_Span_Mul_1.k : K :=
 (.seq (kp [2,3,4] [Ot 2 (.boxP (.t 0)),
 Ot 3 (.boxP (.t 1)),
 Ot 4 (.alloc 3 (.agg [(.int .i64 0),(.int .i64 0),(.bool false)]))])
 (.seq (kp [4,5,6] [Oq 8 0 1 2,
 Ol 9 1 8,
 Oq 10 0 1 3,
 Ol 11 1 10,
 Ot 12 (.bin .mul (.t 9) (.t 11)),
 Oq 13 0 1 2,
 Ol 14 1 13,
 Oq 15 1 1 3,
 Ol 16 1 15,
 Ot 17 (.bin .mul (.t 14) (.t 16)),
 Oq 18 1 1 2,
 Ol 19 1 18,
 Oq 20 0 1 3,
 Ol 21 1 20,
 Ot 22 (.bin .mul (.t 19) (.t 21)),
 Oq 23 1 1 2,
 Ol 24 1 23,
 Oq 25 1 1 3,
 Ol 26 1 25,
 Ot 27 (.bin .mul (.t 24) (.t 26)),
 Ot 28 (.build [(.int .i64 0),(.int .i64 0),(.int .i64 0),(.int .i64 0)] [(0,1,(.t 12)),(1,1,(.t 17)),(2,1,(.t 22)),(3,1,(.t 27))]),
 Ot 29 (.callG n_span_ends [.t 28]),
 Om 7 29,
 Ot 30 (.ext (.t 7) 0),
 Ot 31 (.ext (.t 7) 1),
 Om 5 30,
 Om 6 31])
 (.seq (kp [4] [Om 32 5,
 Ot 33 (.bin .shr (.t 32) (.c (.int .u64 20))),
 Om 34 6,
 Ot 35 (.un .neg (.t 34)),
 Ot 36 (.bin .shr (.t 35) (.c (.int .u64 20))),
 Ot 37 (.un .neg (.t 36)),
 Ot 38 (.callG zd3 [.t 33,.t 37]),
 Oy 3 4 38])
 .ret)))
def span_Span_Mul_1.res : List RX := [(4, some (3, true))]
theorem span_Span_Mul_1.of : OfT pg zcp span_Span_Mul_1.k span_Span_Mul_1.res 2 := OfI Tryz.func29
def span_Span_right.k : K :=
 (.seq (kp [1,2] [Ot 1 (.boxP (.t 0)),
 Ot 2 (.alloc 3 (.agg [(.int .i64 0),(.int .i64 0),(.bool false)]))])
 (.seq (.seq (kp [1,2,23] [Oq 3 2 1 1,
 Ol 4 1 3,
 Om 5 4,
 Og 6 5 (.fldA 0 1 false (.t 1)),
 Og 7 5 (.load 1 false (.t 6)),
 Og 8 5 (.callG zgo [.t 7]),
 Og 9 5 (.un .not (.t 8)),
 Ot 10 (.pick (.t 5) (.c (.bool true)) (.t 9)),
 Om 11 10,
 Og 12 11 (.fldA 1 1 false (.t 1)),
 Og 13 11 (.load 1 false (.t 12)),
 Og 14 11 (.callG zgo [.t 13]),
 Og 15 11 (.un .not (.t 14)),
 Ot 16 (.pick (.t 11) (.c (.bool true)) (.t 15)),
 Om 17 16,
 Og 18 17 (.fldA 0 1 false (.t 1)),
 Og 19 17 (.load 1 false (.t 18)),
 Og 20 17 (.fldA 1 1 false (.t 1)),
 Og 21 17 (.load 1 false (.t 20)),
 Og 22 17 (.bin .gtr (.t 19) (.t 21)),
 Ot 23 (.pick (.t 17) (.c (.bool true)) (.t 22))])
 (.cond (.t 23) (.seq (kp [2] [Ot 24 (.callG zcs []),
 Oy 3 2 24])
 .ret)
 .skip))
 (.seq (kp [2] [OL 25 3 1,
 Oy 3 2 25])
 .ret)))
def span_Span_right.res : List RX := [(2, some (3, true))]
theorem span_Span_right.of : OfT pg zau span_Span_right.k span_Span_right.res 1 := OfI Tryz.func31
def span_Span_In.k : K :=
 (.seq (kp [2,3] [Ot 2 (.eff (.boxO 3) [.t 0]),
 Ot 3 (.eff (.boxO 3) [.t 1]),
 Ot 4 (.mov (.c (.bool false)))])
 (.seq (kd [2,3] [OL 5 3 2,
 Ot 6 (.call zau [.t 5]),
 OL 7 3 3,
 Ot 8 (.call zau [.t 7]),
 Oy 3 2 6,
 Oy 3 3 8])
 (.seq (kd [4] [OL 9 3 3,
 Ot 10 (.call zcs []),
 Ot 11 (.red (.eqS false [(0, false),(1, false),(2, true)]) [.t 9,.t 10]),
 Om 12 11,
 Og 13 12 (.load 3 true (.t 2)),
 Og 14 12 (.call zcs []),
 Og 15 12 (.red (.eqS true [(0, false),(1, false),(2, true)]) [.t 13,.t 14]),
 Og 16 12 (.mov (.t 15)),
 Oh 17 16 (.fldA 0 1 false (.t 3)),
 Oh 18 16 (.load 1 false (.t 17)),
 Oh 19 16 (.fldA 0 1 false (.t 2)),
 Oh 20 16 (.load 1 false (.t 19)),
 Oh 21 16 (.bin .leq (.t 18) (.t 20)),
 Og 22 12 (.pick (.t 16) (.t 21) (.c (.bool false))),
 Og 23 12 (.mov (.t 22)),
 Oh 24 23 (.fldA 1 1 false (.t 2)),
 Oh 25 23 (.load 1 false (.t 24)),
 Oh 26 23 (.fldA 1 1 false (.t 3)),
 Oh 27 23 (.load 1 false (.t 26)),
 Oh 28 23 (.bin .leq (.t 25) (.t 27)),
 Og 29 12 (.pick (.t 23) (.t 28) (.c (.bool false))),
 Ot 30 (.pick (.t 12) (.c (.bool true)) (.t 29)),
 Om 4 30])
 .ret)))
def span_Span_In.res : List RX := [(4, none)]
theorem span_Span_In.of : OfT pg zc3 span_Span_In.k span_Span_In.res 2 := OfI Tryz.func33
def span_Span_Add_1.k : K :=
 (.seq (kp [2,3,4] [Ot 2 (.boxP (.t 0)),
 Ot 3 (.boxP (.t 1)),
 Ot 4 (.alloc 3 (.agg [(.int .i64 0),(.int .i64 0),(.bool false)]))])
 (.seq (kp [4] [Oq 5 0 1 2,
 Ol 6 1 5,
 Oq 7 0 1 3,
 Ol 8 1 7,
 Ot 9 (.bin .add (.t 6) (.t 8)),
 Oq 10 1 1 2,
 Ol 11 1 10,
 Oq 12 1 1 3,
 Ol 13 1 12,
 Ot 14 (.bin .add (.t 11) (.t 13)),
 Ot 15 (.callG zd3 [.t 9,.t 14]),
 Oy 3 4 15])
 .ret))
def span_Span_Add_1.res : List RX := [(4, some (3, true))]
theorem span_Span_Add_1.of : OfT pg zcq span_Span_Add_1.k span_Span_Add_1.res 2 := OfI Tryz.func52
def span_Span_Neg.k : K :=
 (.seq (kp [1,2] [Ot 1 (.boxP (.t 0)),
 Ot 2 (.alloc 3 (.agg [(.int .i64 0),(.int .i64 0),(.bool false)]))])
 (.seq (kd [2] [Ot 3 (.call zcd [ci 0,ci 0]),
 OL 4 3 1,
 Ot 5 (.call zgf [.t 3,.t 4]),
 Oy 3 2 5])
 .ret))
def span_Span_Neg.res : List RX := [(2, some (3, true))]
theorem span_Span_Neg.of : OfT pg zej span_Span_Neg.k span_Span_Neg.res 1 := OfI Tryz.func53
def span_Span_Has.k : K :=
 (.seq (kp [1,2] [Ot 2 (.eff (.boxO 3) [.t 0]),
 Ot 4 (.mov (.c (.bool false)))])
 (.seq (kp [1,2] [OL 5 3 2,
 Ot 6 (.callG zau [.t 5]),
 Oy 3 2 6])
 (.seq (kp [4] [Oq 7 2 1 2,
 Ol 8 1 7,
 Om 9 8,
 Og 10 9 (.fldA 0 1 false (.t 2)),
 Og 11 9 (.load 1 false (.t 10)),
 Og 12 9 (.mov (.t 1)),
 Og 13 9 (.bin .leq (.t 11) (.t 12)),
 Og 14 9 (.mov (.t 13)),
 Oh 15 14 (.mov (.t 1)),
 Oh 16 14 (.fldA 1 1 false (.t 2)),
 Oh 17 14 (.load 1 false (.t 16)),
 Oh 18 14 (.bin .leq (.t 15) (.t 17)),
 Og 19 9 (.pick (.t 14) (.t 18) (.c (.bool false))),
 Ot 20 (.pick (.t 9) (.c (.bool true)) (.t 19)),
 Om 4 20])
 .ret)))
def span_Span_Has.res : List RX := [(4, none)]
theorem span_Span_Has.of : OfT pg zgg span_Span_Has.k span_Span_Has.res 2 := OfI Tryz.func55
def span_Span_Sub.k : K :=
 (.seq (kp [2,3,4] [Ot 2 (.boxP (.t 0)),
 Ot 3 (.boxP (.t 1)),
 Ot 4 (.alloc 3 (.agg [(.int .i64 0),(.int .i64 0),(.bool false)]))])
 (.seq (kp [4] [OL 5 3 2,
 OL 6 3 3,
 Ot 7 (.callG zdd [.t 5,.t 6,(.c (.fn zco []))]),
 Oy 3 4 7])
 .ret))
def span_Span_Sub.res : List RX := [(4, some (3, true))]
theorem span_Span_Sub.of : OfT pg zgf span_Span_Sub.k span_Span_Sub.res 2 := OfI Tryz.func76
def span_Span_Sub_1.k : K :=
 (.seq (kp [2,3,4] [Ot 2 (.boxP (.t 0)),
 Ot 3 (.boxP (.t 1)),
 Ot 4 (.alloc 3 (.agg [(.int .i64 0),(.int .i64 0),(.bool false)]))])
 (.seq (kp [4] [Oq 5 0 1 2,
 Ol 6 1 5,
 Oq 7 1 1 3,
 Ol 8 1 7,
 Ot 9 (.bin .sub (.t 6) (.t 8)),
 Oq 10 1 1 2,
 Ol 11 1 10,
 Oq 12 0 1 3,
 Ol 13 1 12,
 Ot 14 (.bin .sub (.t 11) (.t 13)),
 Ot 15 (.callG zd3 [.t 9,.t 14]),
 Oy 3 4 15])
 .ret))
def span_Span_Sub_1.res : List RX := [(4, some (3, true))]
theorem span_Span_Sub_1.of : OfT pg zco span_Span_Sub_1.k span_Span_Sub_1.res 2 := OfI Tryz.func105
def vec_Of.k : K :=
 (.seq (kp [0,1,2,6] [Ot 6 (.alloc 9 (.agg [(.int .i64 0),(.int .i64 0),(.bool false),(.int .i64 0),(.int .i64 0),(.bool false),(.int .i64 0),(.int .i64 0),(.bool false)]))])
 (.seq (kp [6] [Om 7 0,
 Om 8 0,
 Ot 9 (.callG zcd [.t 7,.t 8]),
 Om 10 1,
 Om 11 1,
 Ot 12 (.callG zcd [.t 10,.t 11]),
 Om 13 2,
 Om 14 2,
 Ot 15 (.callG zcd [.t 13,.t 14]),
 Ot 16 (.build [(.int .i64 0),(.int .i64 0),(.bool false),(.int .i64 0),(.int .i64 0),(.bool false),(.int .i64 0),(.int .i64 0),(.bool false)] [(0,3,(.t 9)),(3,3,(.t 12)),(6,3,(.t 15))]),
 Oy 9 6 16])
 .ret))
def vec_Of.res : List RX := [(6, some (9, true))]
theorem vec_Of.of : OfT pg n_vec_Of vec_Of.k vec_Of.res 3 := OfI Tryz.func51
def vec_Vec_In.k : K :=
 (.seq (kp [2,3] [Ot 2 (.boxP (.t 0)),
 Ot 3 (.boxP (.t 1)),
 Ot 4 (.mov (.c (.bool false)))])
 (.seq (kp [4] [Ot 5 (.red (.aptr 3 3 true) [.t 2,ci 0]),
 OL 6 3 5,
 Ot 7 (.red (.aptr 3 3 true) [.t 3,ci 0]),
 OL 8 3 7,
 Ot 9 (.callG zc3 [.t 6,.t 8]),
 Om 10 9,
 Oh 11 10 (.red (.aptr 3 3 true) [.t 2,ci 1]),
 Oh 12 10 (.load 3 true (.t 11)),
 Oh 13 10 (.red (.aptr 3 3 true) [.t 3,ci 1]),
 Oh 14 10 (.load 3 true (.t 13)),
 Oh 15 10 (.callG zc3 [.t 12,.t 14]),
 Ot 16 (.pick (.t 10) (.t 15) (.c (.bool false))),
 Om 17 16,
 Oh 18 17 (.red (.aptr 3 3 true) [.t 2,ci 2]),
 Oh 19 17 (.load 3 true (.t 18)),
 Oh 20 17 (.red (.aptr 3 3 true) [.t 3,ci 2]),
 Oh 21 17 (.load 3 true (.t 20)),
 Oh 22 17 (.callG zc3 [.t 19,.t 21]),
 Ot 23 (.pick (.t 17) (.t 22) (.c (.bool false))),
 Om 4 23])
 .ret))
def vec_Vec_In.res : List RX := [(4, none)]
theorem vec_Vec_In.of : OfT pg n_vec_Vec_In vec_Vec_In.k vec_Vec_In.res 2 := OfI Tryz.func11
def vec_Vec_Norm2.k : K :=
 (.seq (kp [1,2] [Ot 1 (.boxP (.t 0)),
 Ot 2 (.alloc 3 (.agg [(.int .i64 0),(.int .i64 0),(.bool false)]))])
 (.seq (kd [2] [Ot 3 (.red (.aptr 3 3 true) [.t 1,ci 0]),
 OL 4 3 3,
 Ot 5 (.call zbt [.t 4]),
 Ot 6 (.red (.aptr 3 3 true) [.t 1,ci 1]),
 OL 7 3 6,
 Ot 8 (.call zbt [.t 7]),
 Ot 9 (.call zbk [.t 5,.t 8]),
 Ot 10 (.red (.aptr 3 3 true) [.t 1,ci 2]),
 OL 11 3 10,
 Ot 12 (.call zbt [.t 11]),
 Ot 13 (.call zbk [.t 9,.t 12]),
 Oy 3 2 13])
 .ret))
def vec_Vec_Norm2.res : List RX := [(2, some (3, true))]
theorem vec_Vec_Norm2.of : OfT pg zge vec_Vec_Norm2.k vec_Vec_Norm2.res 1 := OfI Tryz.func17
def vec_Vec_Dot.k : K :=
 (.seq (kp [2,3,4] [Ot 2 (.boxP (.t 0)),
 Ot 3 (.boxP (.t 1)),
 Ot 4 (.alloc 3 (.agg [(.int .i64 0),(.int .i64 0),(.bool false)]))])
 (.seq (kp [4,5] [OL 6 9 2,
 OL 7 9 3,
 Ot 8 (.callG zg4 [.t 6,.t 7,(.c (.fn zbe []))]),
 Ot 5 (.alloc 9 (.agg [(.int .i64 0),(.int .i64 0),(.bool false),(.int .i64 0),(.int .i64 0),(.bool false),(.int .i64 0),(.int .i64 0),(.bool false)])),
 Oy 9 5 8])
 (.seq (kd [4] [Ot 9 (.arrA 3 3 true (.t 5) (ci 0)),
 OL 10 3 9,
 Ot 11 (.arrA 3 3 true (.t 5) (ci 1)),
 OL 12 3 11,
 Ot 13 (.call zbk [.t 10,.t 12]),
 Ot 14 (.arrA 3 3 true (.t 5) (ci 2)),
 OL 15 3 14,
 Ot 16 (.call zbk [.t 13,.t 15]),
 Oy 3 4 16])
 .ret)))
def vec_Vec_Dot.res : List RX := [(4, some (3, true))]
theorem vec_Vec_Dot.of : OfT pg zei vec_Vec_Dot.k vec_Vec_Dot.res 2 := OfI Tryz.func26
def vec_Vec_each.k : K :=
 (.seq (kp [2,3,4,6] [Ot 3 (.eff (.boxO 9) [.t 0]),
 Ot 4 (.boxP (.t 1)),
 Ot 6 (.alloc 9 (.agg [(.int .i64 0),(.int .i64 0),(.bool false),(.int .i64 0),(.int .i64 0),(.bool false),(.int .i64 0),(.int .i64 0),(.bool false)]))])
 (.seq (.seq (kp [2,3,4,6,8] [Oc 8 0])
 (.block 0 (.loop (.seq (kp [2,3,4,6,8,9] [Ot 9 (.bin .lss (.t 8) (ci 3))])
 (.seq (.cond (.t 9) .skip
 (.exit 0))
 (.seq (.block 1 (.seq (kp [2,3,4,6,7,8] [Om 10 8,
 Om 7 10])
 (kd [2,3,4,6,8] [Om 11 7,
 Om 12 2,
 Om 13 7,
 Ot 14 (.arrA 3 3 true (.t 3) (.t 13)),
 OL 15 3 14,
 Om 16 7,
 Ot 17 (.red (.aptr 3 3 true) [.t 4,.t 16]),
 OL 18 3 17,
 Ot 19 (.callV (.t 12) [.t 15,.t 18]),
 Ot 20 (.arrA 3 3 true (.t 3) (.t 11)),
 Oy 3 20 19])))
 (kp [2,3,4,6,8] [Ot 21 (.bin .add (.t 8) (ci 1)),
 Om 8 21])))))))
 (.seq (kp [6] [OL 22 9 3,
 Oy 9 6 22])
 .ret)))
def vec_Vec_each.res : List RX := [(6, some (9, true))]
theorem vec_Vec_each.of : OfT pg zg4 vec_Vec_each.k vec_Vec_each.res 3 := OfI Tryz.func54
def rot_Exp.k : K :=
 (.seq (kp [1,2] [Ot 1 (.boxP (.t 0)),
 Ot 2 (.alloc 27 (.agg [(.int .i64 0),(.int .i64 0),(.bool false),(.int .i64 0),(.int .i64 0),(.bool false),(.int .i64 0),(.int .i64 0),(.bool false),(.int .i64 0),(.int .i64 0),(.bool false),(.int .i64 0),(.int .i64 0),(.bool false),(.int .i64 0),(.int .i64 0),(.bool false),(.int .i64 0),(.int .i64 0),(.bool false),(.int .i64 0),(.int .i64 0),(.bool false),(.int .i64 0),(.int .i64 0),(.bool false)]))])
 (.seq (kp [1,2,3] [OL 7 9 1,
 Ot 8 (.callG zge [.t 7]),
 Ot 3 (.alloc 3 (.agg [(.int .i64 0),(.int .i64 0),(.bool false)])),
 Oy 3 3 8])
 (.seq (kd [1,2,4,5,6] [OL 9 3 3,
 Ot 10 (.call n_kern_A [.t 9]),
 OL 11 3 3,
 Ot 12 (.call n_kern_B [.t 11]),
 Ot 13 (.call n_rot_Id []),
 Ot 4 (.alloc 3 (.agg [(.int .i64 0),(.int .i64 0),(.bool false)])),
 Ot 5 (.alloc 3 (.agg [(.int .i64 0),(.int .i64 0),(.bool false)])),
 Ot 6 (.alloc 27 (.agg [(.int .i64 0),(.int .i64 0),(.bool false),(.int .i64 0),(.int .i64 0),(.bool false),(.int .i64 0),(.int .i64 0),(.bool false),(.int .i64 0),(.int .i64 0),(.bool false),(.int .i64 0),(.int .i64 0),(.bool false),(.int .i64 0),(.int .i64 0),(.bool false),(.int .i64 0),(.int .i64 0),(.bool false),(.int .i64 0),(.int .i64 0),(.bool false),(.int .i64 0),(.int .i64 0),(.bool false)])),
 Oy 3 4 10,
 Oy 3 5 12,
 Oy 27 6 13])
 (.seq (kp [2] [Ot 14 (.mkFn n_rot_Exp_1 [.t 6,.t 4,.t 1,.t 5]),
 Ot 15 (.callG n_rot_made [.t 14]),
 Oy 27 2 15])
 .ret))))
def rot_Exp.res : List RX := [(2, some (27, true))]
theorem rot_Exp.of : OfT pg n_rot_Exp rot_Exp.k rot_Exp.res 1 := OfI Tryz.func6
def rot_Id.k : K :=
 (.seq (kp [0] [Ot 0 (.alloc 27 (.agg [(.int .i64 0),(.int .i64 0),(.bool false),(.int .i64 0),(.int .i64 0),(.bool false),(.int .i64 0),(.int .i64 0),(.bool false),(.int .i64 0),(.int .i64 0),(.bool false),(.int .i64 0),(.int .i64 0),(.bool false),(.int .i64 0),(.int .i64 0),(.bool false),(.int .i64 0),(.int .i64 0),(.bool false),(.int .i64 0),(.int .i64 0),(.bool false),(.int .i64 0),(.int .i64 0),(.bool false)]))])
 (.seq (kp [0] [Ot 1 (.callG n_vec_Of [ci 1048576,ci 0,ci 0]),
 Ot 2 (.callG n_vec_Of [ci 0,ci 1048576,ci 0]),
 Ot 3 (.callG n_vec_Of [ci 0,ci 0,ci 1048576]),
 Ot 4 (.build [(.int .i64 0),(.int .i64 0),(.bool false),(.int .i64 0),(.int .i64 0),(.bool false),(.int .i64 0),(.int .i64 0),(.bool false),(.int .i64 0),(.int .i64 0),(.bool false),(.int .i64 0),(.int .i64 0),(.bool false),(.int .i64 0),(.int .i64 0),(.bool false),(.int .i64 0),(.int .i64 0),(.bool false),(.int .i64 0),(.int .i64 0),(.bool false),(.int .i64 0),(.int .i64 0),(.bool false)] [(0,9,(.t 1)),(9,9,(.t 2)),(18,9,(.t 3))]),
 Oy 27 0 4])
 .ret))
def rot_Id.res : List RX := [(0, some (27, true))]
theorem rot_Id.of : OfT pg n_rot_Id rot_Id.k rot_Id.res 0 := OfI Tryz.func20
def rot_made.k : K :=
 (.seq (kp [0,2] [Ot 2 (.alloc 27 (.agg [(.int .i64 0),(.int .i64 0),(.bool false),(.int .i64 0),(.int .i64 0),(.bool false),(.int .i64 0),(.int .i64 0),(.bool false),(.int .i64 0),(.int .i64 0),(.bool false),(.int .i64 0),(.int .i64 0),(.bool false),(.int .i64 0),(.int .i64 0),(.bool false),(.int .i64 0),(.int .i64 0),(.bool false),(.int .i64 0),(.int .i64 0),(.bool false),(.int .i64 0),(.int .i64 0),(.bool false)]))])
 (.seq (kp [0,2,3] [Ot 3 (.alloc 27 (.agg [(.int .i64 0),(.int .i64 0),(.bool false),(.int .i64 0),(.int .i64 0),(.bool false),(.int .i64 0),(.int .i64 0),(.bool false),(.int .i64 0),(.int .i64 0),(.bool false),(.int .i64 0),(.int .i64 0),(.bool false),(.int .i64 0),(.int .i64 0),(.bool false),(.int .i64 0),(.int .i64 0),(.bool false),(.int .i64 0),(.int .i64 0),(.bool false),(.int .i64 0),(.int .i64 0),(.bool false)]))])
 (.seq (.seq (kp [0,2,3,6] [Oc 6 0])
 (.block 0 (.loop (.seq (kp [0,2,3,6,7] [Ot 7 (.bin .lss (.t 6) (ci 3))])
 (.seq (.cond (.t 7) .skip
 (.exit 0))
 (.seq (.block 1 (.seq (kp [0,2,3,4,6] [Om 8 6,
 Om 4 8])
 (.seq (kp [0,2,3,4,6,9] [Oc 9 0])
 (.block 2 (.loop (.seq (kp [0,2,3,4,6,9,10] [Ot 10 (.bin .lss (.t 9) (ci 3))])
 (.seq (.cond (.t 10) .skip
 (.exit 2))
 (.seq (.block 3 (.seq (kp [0,2,3,4,5,6,9] [Om 11 9,
 Om 5 11])
 (kd [0,2,3,4,6,9] [Om 12 4,
 Om 13 5,
 Om 14 0,
 Om 15 4,
 Om 16 5,
 Ot 17 (.callV (.t 14) [.t 15,.t 16]),
 Ot 18 (.arrA 3 9 true (.t 3) (.t 12)),
 Ot 19 (.arrA 3 3 true (.t 18) (.t 13)),
 Oy 3 19 17])))
 (kp [0,2,3,4,6,9] [Ot 20 (.bin .add (.t 9) (ci 1)),
 Om 9 20])))))))))
 (kp [0,2,3,6] [Ot 21 (.bin .add (.t 6) (ci 1)),
 Om 6 21])))))))
 (.seq (kp [2] [OL 22 27 3,
 Oy 27 2 22])
 .ret))))
def rot_made.res : List RX := [(2, some (27, true))]
theorem rot_made.of : OfT pg n_rot_made rot_made.k rot_made.res 1 := OfI Tryz.func21
def rot_Exp_1.k : K :=
 (.seq (kp [0,1,2,3,4,5,8] [Ot 8 (.alloc 3 (.agg [(.int .i64 0),(.int .i64 0),(.bool false)]))])
 (.seq (kd [8] [Om 9 0,
 Om 10 1,
 Ot 11 (.red (.aptr 3 9 true) [.t 2,.t 9]),
 Ot 12 (.red (.aptr 3 3 true) [.t 11,.t 10]),
 OL 13 3 12,
 OL 14 3 3,
 OL 15 9 4,
 Om 16 0,
 Om 17 1,
 Ot 18 (.call n_rot_cross [.t 15,.t 16,.t 17]),
 Ot 19 (.call zbe [.t 14,.t 18]),
 Ot 20 (.call zbk [.t 13,.t 19]),
 OL 21 3 5,
 OL 22 9 4,
 Om 23 0,
 Om 24 1,
 Ot 25 (.call n_rot_twice [.t 22,.t 23,.t 24]),
 Ot 26 (.call zbe [.t 21,.t 25]),
 Ot 27 (.call zbk [.t 20,.t 26]),
 Oy 3 8 27])
 .ret))
def rot_Exp_1.res : List RX := [(8, some (3, true))]
theorem rot_Exp_1.of : OfT pg n_rot_Exp_1 rot_Exp_1.k rot_Exp_1.res 6 := OfI Tryz.func22
def rot_cross.k : K :=
 (.seq (kp [1,2,3,6] [Ot 3 (.boxP (.t 0)),
 Ot 6 (.alloc 3 (.agg [(.int .i64 0),(.int .i64 0),(.bool false)]))])
 (.seq (kp [1,2,3,6,7] [Om 8 1,
 Ot 9 (.bin .sub (ci 3) (.t 8)),
 Om 10 2,
 Ot 11 (.bin .sub (.t 9) (.t 10)),
 Om 7 11])
 (.seq (.block 0 (.seq (kp [1,2,3,6,7,12] [Om 13 1,
 Om 14 2,
 Ot 15 (.bin .eql (.t 13) (.t 14)),
 Om 12 15])
 (.cond (.t 12) (.seq (kp [6] [Ot 16 (.callG zcd [ci 0,ci 0]),
 Oy 3 6 16])
 .ret)
 (.seq (kp [3,6,7,17] [Om 18 1,
 Ot 19 (.bin .add (.t 18) (ci 1)),
 Ot 20 (.bin .rem (.t 19) (ci 3)),
 Om 21 2,
 Ot 22 (.bin .eql (.t 20) (.t 21)),
 Om 17 22])
 (.cond (.t 17) (.seq (kp [6] [Om 23 7,
 Ot 24 (.red (.aptr 3 3 true) [.t 3,.t 23]),
 OL 25 3 24,
 Ot 26 (.callG zej [.t 25]),
 Oy 3 6 26])
 .ret)
 .skip)))))
 (.seq (kp [6] [Om 27 7,
 Ot 28 (.red (.aptr 3 3 true) [.t 3,.t 27]),
 OL 29 3 28,
 Oy 3 6 29])
 .ret))))
def rot_cross.res : List RX := [(6, some (3, true))]
theorem rot_cross.of : OfT pg n_rot_cross rot_cross.k rot_cross.res 3 := OfI Tryz.func24
def rot_twice.k : K :=
 (.seq (kp [1,2,3,6] [Ot 3 (.boxP (.t 0)),
 Ot 6 (.alloc 3 (.agg [(.int .i64 0),(.int .i64 0),(.bool false)]))])
 (.seq (.seq (kp [1,2,3,6,11] [Om 9 1,
 Om 10 2,
 Ot 11 (.bin .neq (.t 9) (.t 10))])
 (.cond (.t 11) (.seq (kd [6] [Om 12 1,
 Om 13 2,
 Ot 14 (.mm false (.t 12) [.t 13]),
 Ot 15 (.red (.aptr 3 3 true) [.t 3,.t 14]),
 OL 16 3 15,
 Om 17 1,
 Om 18 2,
 Ot 19 (.mm true (.t 17) [.t 18]),
 Ot 20 (.red (.aptr 3 3 true) [.t 3,.t 19]),
 OL 21 3 20,
 Ot 22 (.call zbe [.t 16,.t 21]),
 Oy 3 6 22])
 .ret)
 .skip))
 (.seq (kp [3,6,7,8] [Om 23 1,
 Ot 24 (.bin .add (.t 23) (ci 1)),
 Ot 25 (.bin .rem (.t 24) (ci 3)),
 Om 26 1,
 Ot 27 (.bin .add (.t 26) (ci 2)),
 Ot 28 (.bin .rem (.t 27) (ci 3)),
 Ot 29 (.mm false (.t 25) [.t 28]),
 Om 30 1,
 Ot 31 (.bin .add (.t 30) (ci 1)),
 Ot 32 (.bin .rem (.t 31) (ci 3)),
 Om 33 1,
 Ot 34 (.bin .add (.t 33) (ci 2)),
 Ot 35 (.bin .rem (.t 34) (ci 3)),
 Ot 36 (.mm true (.t 32) [.t 35]),
 Om 7 29,
 Om 8 36])
 (.seq (kd [6] [Om 37 7,
 Ot 38 (.red (.aptr 3 3 true) [.t 3,.t 37]),
 OL 39 3 38,
 Ot 40 (.call zbt [.t 39]),
 Om 41 8,
 Ot 42 (.red (.aptr 3 3 true) [.t 3,.t 41]),
 OL 43 3 42,
 Ot 44 (.call zbt [.t 43]),
 Ot 45 (.call zbk [.t 40,.t 44]),
 Ot 46 (.call zej [.t 45]),
 Oy 3 6 46])
 .ret))))
def rot_twice.res : List RX := [(6, some (3, true))]
theorem rot_twice.of : OfT pg n_rot_twice rot_twice.k rot_twice.res 3 := OfI Tryz.func25
def rot_Rot_Apply.k : K :=
 (.seq (kp [2,3,4] [Ot 2 (.boxP (.t 0)),
 Ot 3 (.boxP (.t 1)),
 Ot 4 (.alloc 9 (.agg [(.int .i64 0),(.int .i64 0),(.bool false),(.int .i64 0),(.int .i64 0),(.bool false),(.int .i64 0),(.int .i64 0),(.bool false)]))])
 (.seq (kd [4] [Ot 5 (.red (.aptr 3 9 true) [.t 2,ci 0]),
 OL 6 9 5,
 OL 7 9 3,
 Ot 8 (.call zei [.t 6,.t 7]),
 Ot 9 (.red (.aptr 3 9 true) [.t 2,ci 1]),
 OL 10 9 9,
 OL 11 9 3,
 Ot 12 (.call zei [.t 10,.t 11]),
 Ot 13 (.red (.aptr 3 9 true) [.t 2,ci 2]),
 OL 14 9 13,
 OL 15 9 3,
 Ot 16 (.call zei [.t 14,.t 15]),
 Ot 17 (.build [(.int .i64 0),(.int .i64 0),(.bool false),(.int .i64 0),(.int .i64 0),(.bool false),(.int .i64 0),(.int .i64 0),(.bool false)] [(0,3,(.t 8)),(3,3,(.t 12)),(6,3,(.t 16))]),
 Oy 9 4 17])
 .ret))
def rot_Rot_Apply.res : List RX := [(4, some (9, true))]
theorem rot_Rot_Apply.of : OfT pg zek rot_Rot_Apply.k rot_Rot_Apply.res 2 := OfI Tryz.func7
def kern_Sin.k : K :=
 (.seq (kp [1,2] [Ot 1 (.boxP (.t 0)),
 Ot 2 (.alloc 3 (.agg [(.int .i64 0),(.int .i64 0),(.bool false)]))])
 (.seq (kd [2] [OL 3 3 1,
 OL 4 3 1,
 Ot 5 (.call zbt [.t 4]),
 Ot 6 (.call n_kern_A [.t 5]),
 Ot 7 (.call zbe [.t 3,.t 6]),
 Oy 3 2 7])
 .ret))
def kern_Sin.res : List RX := [(2, some (3, true))]
theorem kern_Sin.of : OfT pg n_kern_Sin kern_Sin.k kern_Sin.res 1 := OfI Tryz.func8
def kern_A.k : K :=
 (.seq (kp [1,2] [Ot 1 (.boxP (.t 0)),
 Ot 2 (.alloc 3 (.agg [(.int .i64 0),(.int .i64 0),(.bool false)]))])
 (.seq (kp [2] [OL 3 3 1,
 Ot 4 (.callG zeq [.t 3,ci 1]),
 Oy 3 2 4])
 .ret))
def kern_A.res : List RX := [(2, some (3, true))]
theorem kern_A.of : OfT pg n_kern_A kern_A.k kern_A.res 1 := OfI Tryz.func18
def kern_B.k : K :=
 (.seq (kp [1,2] [Ot 1 (.boxP (.t 0)),
 Ot 2 (.alloc 3 (.agg [(.int .i64 0),(.int .i64 0),(.bool false)]))])
 (.seq (kp [2] [OL 3 3 1,
 Ot 4 (.callG zeq [.t 3,ci 2]),
 Oy 3 2 4])
 .ret))
def kern_B.res : List RX := [(2, some (3, true))]
theorem kern_B.of : OfT pg n_kern_B kern_B.k kern_B.res 1 := OfI Tryz.func19
def kern_enclosed.k : K :=
 (.seq (kp [1,2,4] [Ot 2 (.boxP (.t 0)),
 Ot 4 (.alloc 3 (.agg [(.int .i64 0),(.int .i64 0),(.bool false)]))])
 (.seq (.seq (kd [1,2,4,20] [OL 17 3 2,
 Ot 18 (.call zcd [ci 0,ci 4194304]),
 Ot 19 (.call zc3 [.t 17,.t 18]),
 Ot 20 (.un .not (.t 19))])
 (.cond (.t 20) (.seq (kp [4] [Ot 21 (.build [(.int .i64 0),(.int .i64 0),(.bool false)] [(2,1,(.c (.bool true)))]),
 Oy 3 4 21])
 .ret)
 .skip))
 (.seq (kp [1,2,4,5,6] [Oq 23 1 1 2,
 Ol 24 1 23,
 Om 25 1,
 Ot 26 (.callG n_kern_sum [.t 24,.t 25,ci 12]),
 Om 22 26,
 Ot 27 (.ext (.t 22) 0),
 Ot 28 (.ext (.t 22) 1),
 Ot 5 (.alloc 2 (.agg [(.bool false),(.sl [])])),
 Ot 6 (.alloc 2 (.agg [(.bool false),(.sl [])])),
 Oy 2 5 27,
 Oy 2 6 28])
 (.seq (kp [1,2,4,5,6,7] [OL 30 2 5,
 OL 31 2 6,
 Ot 32 (.callG zcg [.t 30,.t 31]),
 Om 29 32,
 Ot 33 (.ext (.t 29) 0),
 Ot 34 (.ext (.t 29) 1),
 Ot 35 (.ext (.t 29) 2),
 Ot 7 (.alloc 2 (.agg [(.bool false),(.sl [])])),
 Ot 8 (.alloc 2 (.agg [(.bool false),(.sl [])])),
 Oy 2 7 33,
 Oy 2 8 34,
 Om 9 35])
 (.seq (kp [4,5,6,7] [Oq 37 0 1 2,
 Ol 38 1 37,
 Om 39 1,
 Ot 40 (.callG n_kern_sum [.t 38,.t 39,ci 13]),
 Om 36 40,
 Ot 41 (.ext (.t 36) 0),
 Ot 42 (.ext (.t 36) 1),
 Oy 2 5 41,
 Oy 2 6 42])
 (.seq (kd [4,7,10] [OL 44 2 5,
 Ot 45 (.call zch [.t 44]),
 OL 46 2 6,
 Ot 47 (.call zcg [.t 45,.t 46]),
 Om 43 47,
 Ot 48 (.ext (.t 43) 0),
 Ot 49 (.ext (.t 43) 1),
 Ot 50 (.ext (.t 43) 2),
 Ot 10 (.alloc 2 (.agg [(.bool false),(.sl [])])),
 Ot 11 (.alloc 2 (.agg [(.bool false),(.sl [])])),
 Oy 2 10 48,
 Oy 2 11 49,
 Om 12 50])
 (.seq (kp [4,10,13] [OL 52 2 7,
 Ot 53 (.callG zb9 [.t 52]),
 Om 51 53,
 Ot 54 (.ext (.t 51) 0),
 Ot 55 (.ext (.t 51) 1),
 Om 13 54,
 Om 14 55])
 (.seq (kp [4,13,15] [OL 57 2 10,
 Ot 58 (.callG zch [.t 57]),
 Ot 59 (.callG zb9 [.t 58]),
 Om 56 59,
 Ot 60 (.ext (.t 56) 0),
 Ot 61 (.ext (.t 56) 1),
 Om 15 60,
 Om 16 61])
 (.seq (kp [4] [Om 62 13,
 Om 63 15,
 Ot 64 (.callG zcd [.t 62,.t 63]),
 Oy 3 4 64])
 .ret)))))))))
def kern_enclosed.res : List RX := [(4, some (3, true))]
theorem kern_enclosed.of : OfT pg zeq kern_enclosed.k kern_enclosed.res 2 := OfI Tryz.func50
def kern_sum.k : K :=
 (.seq (kp [0,1,2,6,7] [Ot 6 (.alloc 2 (.agg [(.bool false),(.sl [])])),
 Ot 7 (.alloc 2 (.agg [(.bool false),(.sl [])]))])
 (.seq (kp [0,1,2,6,7,8] [Ot 15 (.callG zas [ci 1048576]),
 Ot 8 (.alloc 2 (.agg [(.bool false),(.sl [])])),
 Oy 2 8 15])
 (.seq (kp [1,2,6,7,8,9] [Om 16 0,
 Ot 17 (.un .neg (.t 16)),
 Ot 18 (.callG zas [.t 17]),
 Ot 9 (.alloc 2 (.agg [(.bool false),(.sl [])])),
 Oy 2 9 18])
 (.seq (kp [1,2,6,7,8,9,10] [Om 19 2,
 Ot 20 (.bin .sub (.t 19) (ci 1)),
 Ot 21 (.bin .mul (ci 2) (.t 20)),
 Om 22 1,
 Ot 23 (.bin .add (.t 21) (.t 22)),
 Ot 24 (.callG zd0 [.t 23]),
 Ot 10 (.alloc 2 (.agg [(.bool false),(.sl [])])),
 Oy 2 10 24])
 (.seq (.seq (kp [1,2,6,7,8,9,10,25,26] [Om 25 2,
 Oc 26 0])
 (.block 0 (.loop (.seq (kp [1,2,6,7,8,9,10,25,26,27] [Ot 27 (.bin .lss (.t 26) (.t 25))])
 (.seq (.cond (.t 27) .skip
 (.exit 0))
 (.seq (.block 1 (.seq (kp [1,2,6,7,8,9,10,11,25,26] [Om 28 26,
 Om 11 28])
 (.seq (kd [1,2,6,7,8,9,10,11,12,25,26] [OL 30 2 10,
 Om 31 11,
 Ot 32 (.bin .mul (ci 2) (.t 31)),
 Om 33 1,
 Ot 34 (.bin .add (.t 32) (.t 33)),
 Ot 35 (.call zd0 [.t 34]),
 Ot 36 (.call zcg [.t 30,.t 35]),
 Om 29 36,
 Ot 37 (.ext (.t 29) 0),
 Ot 38 (.ext (.t 29) 1),
 Ot 39 (.ext (.t 29) 2),
 Ot 12 (.alloc 2 (.agg [(.bool false),(.sl [])])),
 Ot 13 (.alloc 2 (.agg [(.bool false),(.sl [])])),
 Oy 2 12 37,
 Oy 2 13 38,
 Om 14 39])
 (kd [1,2,6,7,8,9,10,25,26] [OL 40 2 6,
 OL 41 2 9,
 Om 42 11,
 Ot 43 (.call zfk [.t 41,.t 42]),
 OL 44 2 8,
 Om 45 2,
 Ot 46 (.bin .sub (.t 45) (ci 1)),
 Om 47 11,
 Ot 48 (.bin .sub (.t 46) (.t 47)),
 Ot 49 (.call zfk [.t 44,.t 48]),
 Ot 50 (.call zaj [.t 43,.t 49]),
 OL 51 2 12,
 Ot 52 (.call zaj [.t 50,.t 51]),
 Ot 53 (.call zan [.t 40,.t 52]),
 Oy 2 6 53]))))
 (kp [1,2,6,7,8,9,10,25,26] [Ot 54 (.bin .add (.t 26) (ci 1)),
 Om 26 54])))))))
 (.seq (kd [6,7] [OL 55 2 6,
 OL 56 2 8,
 Ot 57 (.call zaj [.t 55,.t 56]),
 Ot 58 (.loadN 2 true (.t 8) [6]),
 Om 59 2,
 Ot 60 (.bin .sub (.t 59) (ci 1)),
 Ot 61 (.call zfk [.t 58,.t 60]),
 Ot 62 (.loadN 2 true (.t 10) [6]),
 Ot 63 (.call zaj [.t 61,.t 62]),
 Oy 2 6 57,
 Oy 2 7 63])
 .ret))))))
def kern_sum.res : List RX := [(6, some (2, true)), (7, some (2, true))]
theorem kern_sum.of : OfT pg n_kern_sum kern_sum.k kern_sum.res 3 := OfI Tryz.func73
def kern_factorial.k : K :=
 (.seq (kp [0,2] [Ot 2 (.alloc 2 (.agg [(.bool false),(.sl [])]))])
 (.seq (kp [0,2,3] [Ot 5 (.callG zas [ci 1]),
 Ot 3 (.alloc 2 (.agg [(.bool false),(.sl [])])),
 Oy 2 3 5])
 (.seq (.seq (kp [2,3,6,7] [Om 6 0,
 Oc 7 0])
 (.block 0 (.loop (.seq (kp [2,3,6,7,8] [Ot 8 (.bin .lss (.t 7) (.t 6))])
 (.seq (.cond (.t 8) .skip
 (.exit 0))
 (.seq (.block 1 (.seq (kp [2,3,4,6,7] [Om 9 7,
 Om 4 9])
 (kd [2,3,6,7] [OL 10 2 3,
 Om 11 4,
 Ot 12 (.bin .add (.t 11) (ci 1)),
 Ot 13 (.call zas [.t 12]),
 Ot 14 (.call zaj [.t 10,.t 13]),
 Oy 2 3 14])))
 (kp [2,3,6,7] [Ot 15 (.bin .add (.t 7) (ci 1)),
 Om 7 15])))))))
 (.seq (kp [2] [OL 16 2 3,
 Oy 2 2 16])
 .ret))))
def kern_factorial.res : List RX := [(2, some (2, true))]
theorem kern_factorial.of : OfT pg zd0 kern_factorial.k kern_factorial.res 1 := OfI Tryz.func102
def kern_power.k : K :=
 (.seq (kp [1,2,4] [Ot 2 (.boxP (.t 0)),
 Ot 4 (.alloc 2 (.agg [(.bool false),(.sl [])]))])
 (.seq (kp [1,2,4,5] [Ot 6 (.callG zas [ci 1]),
 Ot 5 (.alloc 2 (.agg [(.bool false),(.sl [])])),
 Oy 2 5 6])
 (.seq (.seq (kp [2,4,5,7,8] [Om 7 1,
 Oc 8 0])
 (.block 0 (.loop (.seq (kp [2,4,5,7,8,9] [Ot 9 (.bin .lss (.t 8) (.t 7))])
 (.seq (.cond (.t 9) .skip
 (.exit 0))
 (.seq (.block 1 (kp [2,4,5,7,8] [OL 10 2 5,
 OL 11 2 2,
 Ot 12 (.callG zaj [.t 10,.t 11]),
 Oy 2 5 12]))
 (kp [2,4,5,7,8] [Ot 13 (.bin .add (.t 8) (ci 1)),
 Om 8 13])))))))
 (.seq (kp [4] [OL 14 2 5,
 Oy 2 4 14])
 .ret))))
def kern_power.res : List RX := [(4, some (2, true))]
theorem kern_power.of : OfT pg zfk kern_power.k kern_power.res 2 := OfI Tryz.func103
end Go.Gim
/- Functions' code as data (written by wip/tools/gen.py), and the step to their contracts. -/
set_option maxRecDepth 100000
namespace Go.Gim
open Go.Proofs
def gimbaltop_TopSpans.k : K :=
 (.seq (kp [0,1,2,3] [Ot 8 (.mov (.c (.bool false)))])
 (.seq (kp [0,1,2,3,9] [Ot 21 (.callG ze6 []),
 Om 9 21])
 (.seq (.seq (kp [0,1,2,3,9,51] [Om 22 0,
 Ot 23 (.bin .lss (.t 22) (.c (.int .i64 (-1048576)))),
 Om 24 23,
 Og 25 24 (.mov (.t 0)),
 Og 26 24 (.bin .gtr (.t 25) (ci 1048576)),
 Ot 27 (.pick (.t 24) (.c (.bool true)) (.t 26)),
 Om 28 27,
 Og 29 28 (.mov (.t 2)),
 Og 30 28 (.bin .lss (.t 29) (.c (.int .i64 (-1048576)))),
 Ot 31 (.pick (.t 28) (.c (.bool true)) (.t 30)),
 Om 32 31,
 Og 33 32 (.mov (.t 2)),
 Og 34 32 (.bin .gtr (.t 33) (ci 1048576)),
 Ot 35 (.pick (.t 32) (.c (.bool true)) (.t 34)),
 Om 36 35,
 Og 37 36 (.mov (.t 1)),
 Og 38 36 (.bin .lss (.t 37) (ci 0)),
 Ot 39 (.pick (.t 36) (.c (.bool true)) (.t 38)),
 Om 40 39,
 Og 41 40 (.mov (.t 1)),
 Og 42 40 (.bin .gtr (.t 41) (ci 1000)),
 Ot 43 (.pick (.t 40) (.c (.bool true)) (.t 42)),
 Om 44 43,
 Og 45 44 (.mov (.t 3)),
 Og 46 44 (.bin .lss (.t 45) (ci 0)),
 Ot 47 (.pick (.t 44) (.c (.bool true)) (.t 46)),
 Om 48 47,
 Og 49 48 (.mov (.t 3)),
 Og 50 48 (.bin .gtr (.t 49) (ci 1000)),
 Ot 51 (.pick (.t 48) (.c (.bool true)) (.t 50))])
 (.cond (.t 51) (.seq (kp [8] [Om 52 9,
 Om 8 52])
 .ret)
 .skip))
 (.seq (kp [0,1,2,3,9,10] [Ot 53 (.callG zcd [ci 0,ci 0]),
 Ot 10 (.alloc 3 (.agg [(.int .i64 0),(.int .i64 0),(.bool false)])),
 Oy 3 10 53])
 (.seq (kd [0,1,2,3,9,10,11] [OL 54 3 10,
 OL 55 3 10,
 Om 56 0,
 Om 57 0,
 Ot 58 (.call zcd [.t 56,.t 57]),
 Ot 59 (.build [(.int .i64 0),(.int .i64 0),(.bool false),(.int .i64 0),(.int .i64 0),(.bool false),(.int .i64 0),(.int .i64 0),(.bool false)] [(0,3,(.t 54)),(3,3,(.t 55)),(6,3,(.t 58))]),
 Ot 11 (.alloc 9 (.agg [(.int .i64 0),(.int .i64 0),(.bool false),(.int .i64 0),(.int .i64 0),(.bool false),(.int .i64 0),(.int .i64 0),(.bool false)])),
 Oy 9 11 59])
 (.seq (kd [2,3,9,10,11,12] [OL 60 3 10,
 OL 61 3 10,
 Om 62 0,
 Om 63 1,
 Ot 64 (.bin .sub (.t 62) (.t 63)),
 Om 65 0,
 Om 66 1,
 Ot 67 (.bin .add (.t 65) (.t 66)),
 Ot 68 (.call zcd [.t 64,.t 67]),
 Ot 69 (.build [(.int .i64 0),(.int .i64 0),(.bool false),(.int .i64 0),(.int .i64 0),(.bool false),(.int .i64 0),(.int .i64 0),(.bool false)] [(0,3,(.t 60)),(3,3,(.t 61)),(6,3,(.t 68))]),
 Ot 12 (.alloc 9 (.agg [(.int .i64 0),(.int .i64 0),(.bool false),(.int .i64 0),(.int .i64 0),(.bool false),(.int .i64 0),(.int .i64 0),(.bool false)])),
 Oy 9 12 69])
 (.seq (kd [2,3,9,10,11,12,13] [Om 70 2,
 Om 71 2,
 Ot 72 (.call zcd [.t 70,.t 71]),
 OL 73 3 10,
 OL 74 3 10,
 Ot 75 (.build [(.int .i64 0),(.int .i64 0),(.bool false),(.int .i64 0),(.int .i64 0),(.bool false),(.int .i64 0),(.int .i64 0),(.bool false)] [(0,3,(.t 72)),(3,3,(.t 73)),(6,3,(.t 74))]),
 Ot 13 (.alloc 9 (.agg [(.int .i64 0),(.int .i64 0),(.bool false),(.int .i64 0),(.int .i64 0),(.bool false),(.int .i64 0),(.int .i64 0),(.bool false)])),
 Oy 9 13 75])
 (.seq (kd [9,11,12,13,14] [Om 76 2,
 Om 77 3,
 Ot 78 (.bin .sub (.t 76) (.t 77)),
 Om 79 2,
 Om 80 3,
 Ot 81 (.bin .add (.t 79) (.t 80)),
 Ot 82 (.call zcd [.t 78,.t 81]),
 OL 83 3 10,
 OL 84 3 10,
 Ot 85 (.build [(.int .i64 0),(.int .i64 0),(.bool false),(.int .i64 0),(.int .i64 0),(.bool false),(.int .i64 0),(.int .i64 0),(.bool false)] [(0,3,(.t 82)),(3,3,(.t 83)),(6,3,(.t 84))]),
 Ot 14 (.alloc 9 (.agg [(.int .i64 0),(.int .i64 0),(.bool false),(.int .i64 0),(.int .i64 0),(.bool false),(.int .i64 0),(.int .i64 0),(.bool false)])),
 Oy 9 14 85])
 (.seq (kd [9,11,12,13,14,15] [OL 86 9 11,
 Ot 87 (.call n_rot_Exp [.t 86]),
 OL 88 9 13,
 Ot 89 (.call zek [.t 87,.t 88]),
 Ot 15 (.alloc 9 (.agg [(.int .i64 0),(.int .i64 0),(.bool false),(.int .i64 0),(.int .i64 0),(.bool false),(.int .i64 0),(.int .i64 0),(.bool false)])),
 Oy 9 15 89])
 (.seq (kd [9,11,13,15,16] [OL 90 9 12,
 Ot 91 (.call n_rot_Exp [.t 90]),
 OL 92 9 14,
 Ot 93 (.call zek [.t 91,.t 92]),
 Ot 16 (.alloc 9 (.agg [(.int .i64 0),(.int .i64 0),(.bool false),(.int .i64 0),(.int .i64 0),(.bool false),(.int .i64 0),(.int .i64 0),(.bool false)])),
 Oy 9 16 93])
 (.seq (kd [9,15,16,17] [Ot 94 (.arrA 3 3 true (.t 11) (ci 2)),
 OL 95 3 94,
 Ot 96 (.call n_kern_Sin [.t 95]),
 Ot 97 (.arrA 3 3 true (.t 13) (ci 0)),
 OL 98 3 97,
 Ot 99 (.call zbe [.t 96,.t 98]),
 Ot 17 (.alloc 3 (.agg [(.int .i64 0),(.int .i64 0),(.bool false)])),
 Oy 3 17 99])
 (.seq (kp [9,15,16,19] [Ot 101 (.arrA 3 3 true (.t 15) (ci 1)),
 OL 102 3 101,
 OL 103 3 17,
 Ot 104 (.callG zfr [.t 102,.t 103]),
 Om 100 104,
 Ot 105 (.ext (.t 100) 0),
 Ot 106 (.ext (.t 100) 1),
 Ot 18 (.alloc 3 (.agg [(.int .i64 0),(.int .i64 0),(.bool false)])),
 Oy 3 18 105,
 Om 19 106])
 (.seq (kp [9,19,20] [OL 107 9 15,
 OL 108 9 16,
 Ot 109 (.callG n_vec_Vec_In [.t 107,.t 108]),
 Om 20 109])
 (.seq (kp [8] [Om 110 9,
 Om 111 110,
 Oh 112 111 (.mov (.t 20)),
 Ot 113 (.pick (.t 111) (.t 112) (.c (.bool false))),
 Om 114 113,
 Oh 115 114 (.mov (.t 19)),
 Ot 116 (.pick (.t 114) (.t 115) (.c (.bool false))),
 Om 8 116])
 .ret))))))))))))))
def gimbaltop_TopSpans.res : List RX := [(8, none)]
theorem gimbaltop_TopSpans.of : OfT pg zfy gimbaltop_TopSpans.k gimbaltop_TopSpans.res 4 := OfI Tryz.func3
def gimbaltop_alive.k : K :=
 (.seq (kp [] [Ot 0 (.mov (.c (.bool false)))])
 (.seq (kp [1,2] [Ot 6 (.new (.bsl 1) [ci 1,ci 0,ci 0]),
 Ot 7 (.build [(.sl []),(.int .i64 0),(.int .i64 0),(.int .i64 0)] [(0,1,(.t 6)),(1,1,(ci 7)),(2,1,(ci 100)),(3,1,(ci 1))]),
 Ot 8 (.new (.bsl 1) [ci 0,ci 1,ci 0]),
 Ot 9 (.build [(.sl []),(.int .i64 0),(.int .i64 0),(.int .i64 0)] [(0,1,(.t 8)),(1,1,(.c (.int .i64 (-2)))),(2,1,(ci 100)),(3,1,(ci 1))]),
 Ot 10 (.new (.bsl 1) [ci 0,ci 0,ci 1]),
 Ot 11 (.build [(.sl []),(.int .i64 0),(.int .i64 0),(.int .i64 0)] [(0,1,(.t 10)),(2,1,(ci 100)),(3,1,(ci 1))]),
 Ot 12 (.new (.bsl 4) [.t 7,.t 9,.t 11]),
 Ot 13 (.callG n_graph_New [ci 3,.t 12]),
 Om 5 13,
 Ot 14 (.ext (.t 5) 0),
 Ot 15 (.ext (.t 5) 1),
 Ot 1 (.alloc 8 (.agg [(.int .i64 0),.nil,.nil,.nil,(.bool false),(.sl []),(.bool false),(.sl [])])),
 Oy 8 1 14,
 Om 2 15])
 (.seq (.seq (kp [1,17] [Om 16 2,
 Ot 17 (.bin .neq (.t 16) (ci 0))])
 (.cond (.t 17) (.seq (kp [0] [Ot 0 (.mov (.c (.bool false)))])
 .ret)
 .skip))
 (.seq (kd [3,4] [OL 19 8 1,
 Ot 20 (.call zet []),
 Ot 21 (.red .bsz [ci 0,ci 0,ci 0]),
 Ot 22 (.call n_solve_Solve [.t 19,.t 20,.t 21]),
 Om 18 22,
 Ot 23 (.ext (.t 18) 0),
 Ot 24 (.ext (.t 18) 1),
 Ot 3 (.alloc 4 (.agg [.nil,(.int .i64 0),(.int .i64 0),(.int .i64 0)])),
 Oy 4 3 23,
 Om 4 24])
 (.seq (kp [0] [Om 25 4,
 Ot 26 (.bin .eql (.t 25) (ci 0)),
 Om 27 26,
 Oh 28 27 (.fldA 1 1 false (.t 3)),
 Oh 29 27 (.load 1 false (.t 28)),
 Oh 30 27 (.bin .eql (.t 29) (ci 1)),
 Ot 31 (.pick (.t 27) (.t 30) (.c (.bool false))),
 Om 32 31,
 Oh 33 32 (.fldA 0 1 false (.t 3)),
 Oh 34 32 (.load 1 false (.t 33)),
 Oh 35 32 (.new (.bsl 1) [ci 7,(.c (.int .i64 (-2))),ci 0]),
 Oh 36 32 (.callG zfs [.t 34,.t 35]),
 Ot 37 (.pick (.t 32) (.t 36) (.c (.bool false))),
 Om 0 37])
 .ret)))))
def gimbaltop_alive.res : List RX := [(0, none)]
theorem gimbaltop_alive.of : OfT pg ze6 gimbaltop_alive.k gimbaltop_alive.res 0 := OfI Tryz.func4
def gimbaltop_gentle.k : K :=
 (.seq (kp [0] [Ot 0 (.alloc 17 (.agg [(.int .i64 0),(.int .i64 0),(.int .i64 0),(.int .i64 0),(.int .i64 0),(.int .i64 0),(.int .i64 0),(.int .i64 0),(.int .i64 0),(.int .i64 0),(.int .i64 0),(.int .i64 0),(.int .i64 0),(.int .i64 0),(.int .i64 0),(.int .i64 0),(.int .i64 0)]))])
 (.seq (kp [0,1] [Ot 2 (.callG zft []),
 Ot 1 (.alloc 17 (.agg [(.int .i64 0),(.int .i64 0),(.int .i64 0),(.int .i64 0),(.int .i64 0),(.int .i64 0),(.int .i64 0),(.int .i64 0),(.int .i64 0),(.int .i64 0),(.int .i64 0),(.int .i64 0),(.int .i64 0),(.int .i64 0),(.int .i64 0),(.int .i64 0),(.int .i64 0)])),
 Oy 17 1 2])
 (.seq (kp [0,1] [Ot 3 (.build [(.int .i64 0),(.int .i64 0),(.int .i64 0),(.int .i64 0)] [(0,1,(ci 32768)),(1,1,(ci 32768)),(2,1,(ci 32768)),(3,1,(ci 32768))]),
 Ot 4 (.fldA 6 4 true (.t 1)),
 Oy 4 4 3])
 (.seq (kp [0,1] [Oq 5 2 1 1,
 ⟨none, none,.store 1 (.t 5) (ci 5)⟩])
 (.seq (kp [0,1] [Oq 6 16 1 1,
 ⟨none, none,.store 1 (.t 6) (ci 0)⟩])
 (.seq (kp [0] [OL 7 17 1,
 Oy 17 0 7])
 .ret))))))
def gimbaltop_gentle.res : List RX := [(0, some (17, true))]
theorem gimbaltop_gentle.of : OfT pg zet gimbaltop_gentle.k gimbaltop_gentle.res 0 := OfI Tryz.func14
def gimbaltop_same.k : K :=
 (.seq (kp [0,1] [Ot 4 (.mov (.c (.bool false)))])
 (.seq (.seq (kp [0,1,10] [Om 6 0,
 On 7 6,
 Om 8 1,
 On 9 8,
 Ot 10 (.bin .neq (.t 7) (.t 9))])
 (.cond (.t 10) (.seq (kp [4] [Ot 4 (.mov (.c (.bool false)))])
 .ret)
 .skip))
 (.seq (.seq (kp [0,1,5] [Oc 5 0])
 (.block 0 (.loop (.seq (.seq (kp [0,1,5,14] [Om 11 5,
 Om 12 0,
 On 13 12,
 Ot 14 (.bin .lss (.t 11) (.t 13))])
 (.cond (.t 14) .skip
 (.exit 0)))
 (.seq (.block 1 (.seq (kd [0,1,5,25] [Om 17 0,
 Om 18 5,
 Oi 19 1 17 18,
 Ol 20 1 19,
 Om 21 1,
 Om 22 5,
 Oi 23 1 21 22,
 Ol 24 1 23,
 Ot 25 (.bin .neq (.t 20) (.t 24))])
 (.cond (.t 25) (.seq (kp [4] [Ot 4 (.mov (.c (.bool false)))])
 .ret)
 .skip)))
 (kp [0,1,5] [Om 15 5,
 Ot 16 (.bin .add (.t 15) (ci 1)),
 Om 5 16]))))))
 (.seq (kp [4] [Ot 4 (.mov (.c (.bool true)))])
 .ret))))
def gimbaltop_same.res : List RX := [(4, none)]
theorem gimbaltop_same.of : OfT pg zfs gimbaltop_same.k gimbaltop_same.res 2 := OfI Tryz.func15
end Go.Gim

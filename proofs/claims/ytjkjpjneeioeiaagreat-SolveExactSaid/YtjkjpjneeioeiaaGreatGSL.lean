import Derived.Test.YtjkjpjneeioeiaaGreatGN
/- Functions' code as data (written by wip/tools/gen.py), and the step to their contracts. -/
set_option maxRecDepth 100000
namespace Go.Gim
open Go.Proofs
def solve_Step.k : K :=
 (.seq (kp [1,2,3,6] [Ot 3 (.boxP (.t 0)),
 Ot 6 (.mov (.c .nil)),
 Oc 7 0])
 (.seq (.block 0 (.seq (kp [1,2,3,6,16] [Om 17 1,
 On 18 17,
 Oq 19 0 1 3,
 Ol 20 1 19,
 Ot 21 (.bin .neq (.t 18) (.t 20)),
 Om 22 21,
 Og 23 22 (.mov (.t 1)),
 Og 24 22 (.callG zft [.t 23]),
 Og 25 22 (.un .not (.t 24)),
 Ot 26 (.pick (.t 22) (.c (.bool true)) (.t 25)),
 Om 16 26])
 (.cond (.t 16) (.seq (kp [6,7] [Ot 6 (.mov (.c .nil)),
 Oc 7 170])
 .ret)
 (.seq (kp [1,2,3,6,27] [Om 28 2,
 Ot 29 (.bin .lss (.t 28) (ci 0)),
 Om 30 29,
 Og 31 30 (.mov (.t 2)),
 Og 32 30 (.bin .gtr (.t 31) (ci 12)),
 Ot 33 (.pick (.t 30) (.c (.bool true)) (.t 32)),
 Om 27 33])
 (.cond (.t 27) (.seq (kp [6,7] [Ot 6 (.mov (.c .nil)),
 Oc 7 1])
 .ret)
 .skip)))))
 (.seq (kd [1,3,6,8] [OL 34 8 3,
 Om 35 1,
 Ot 36 (.call zed [.t 34,.t 35]),
 OL 37 8 3,
 Om 38 2,
 Ot 39 (.call zgi [.t 37,.t 38]),
 Ot 40 (.call zg1 [.t 36,.t 39]),
 Om 8 40])
 (.seq (.seq (kp [1,3,6,8,43] [Om 41 8,
 Ot 42 (.callG zc5 [.t 41]),
 Ot 43 (.un .not (.t 42))])
 (.cond (.t 43) (.seq (kp [6,7] [Ot 6 (.mov (.c .nil)),
 Oc 7 80])
 .ret)
 .skip))
 (.seq (kp [6,8,9] [OL 44 8 3,
 Om 45 1,
 Ot 46 (.callG zdj [.t 44,.t 45]),
 Om 9 46])
 (.seq (.seq (kp [6,8,9,48,49] [Om 47 9,
 On 48 47,
 Oc 49 0])
 (.block 1 (.loop (.seq (kp [6,8,9,48,49,50] [Ot 50 (.bin .lss (.t 49) (.t 48))])
 (.seq (.cond (.t 50) .skip
 (.exit 1))
 (.seq (.block 2 (.seq (kp [6,8,9,10,48,49] [Om 51 49,
 Om 10 51])
 (kd [6,8,9,48,49] [Om 52 9,
 Om 53 10,
 Om 54 9,
 Om 55 10,
 Oi 56 2 54 55,
 OL 57 2 56,
 Ot 58 (.call zas [(.c (.int .i64 (-1024)))]),
 Ot 59 (.call zak [.t 57,.t 58]),
 Oi 60 2 52 53,
 Oy 2 60 59])))
 (kp [6,8,9,48,49] [Ot 61 (.bin .add (.t 49) (ci 1)),
 Om 49 61])))))))
 (.seq (kp [6,11,12] [Om 63 8,
 Om 64 9,
 Ot 65 (.callG zdi [.t 63,.t 64]),
 Om 62 65,
 Ot 66 (.ext (.t 62) 0),
 Ot 67 (.ext (.t 62) 1),
 Ot 68 (.ext (.t 62) 2),
 Ot 12 (.alloc 2 (.agg [(.bool false),(.sl [])])),
 Om 11 66,
 Oy 2 12 67,
 Om 13 68])
 (.seq (.seq (kp [6,12,69,70,71] [Om 69 11,
 On 70 69,
 Oc 71 0])
 (.block 3 (.loop (.seq (kp [6,12,69,70,71,72] [Ot 72 (.bin .lss (.t 71) (.t 70))])
 (.seq (.cond (.t 72) .skip
 (.exit 3))
 (.seq (.block 4 (.seq (kp [6,12,15,69,70,71] [Oi 73 2 69 71,
 OL 74 2 73,
 Ot 15 (.alloc 2 (.agg [(.bool false),(.sl [])])),
 Oy 2 15 74])
 (kp [6,12,69,70,71] [Om 75 6,
 OL 76 2 15,
 OL 77 2 12,
 Ot 78 (.callG zgh [.t 76,.t 77]),
 Ot 79 (.new (.bsl 1) [.t 78]),
 Ot 80 (.eff (.app 1 8) [.t 75,.t 79]),
 Om 6 80])))
 (kp [6,12,69,70,71] [Ot 81 (.bin .add (.t 71) (ci 1)),
 Om 71 81])))))))
 (.seq (kp [6,7] [Om 82 6,
 Om 6 82,
 Oc 7 0])
 .ret)))))))))
def solve_Step.res : List RX := [(6, none), (7, none)]
theorem solve_Step.of : OfT pg zfr solve_Step.k solve_Step.res 3 := OfI Tryz.func33
def solve_Solve.k : K :=
 (.seq (kp [2,3,4,6] [Ot 3 (.boxP (.t 0)),
 Ot 4 (.boxP (.t 1)),
 Ot 6 (.alloc 4 (.agg [.nil,(.int .i64 0),(.int .i64 0),(.int .i64 0)])),
 Oc 7 0])
 (.scope (.seq (.seq (kp [2,3,4,6,9] [OL 16 17 4,
 Ot 17 (.callG zfk [.t 16]),
 Om 15 17,
 Ot 18 (.ext (.t 15) 0),
 Ot 19 (.ext (.t 15) 1),
 Om 8 18,
 Om 9 19])
 (.seq (kp [2,3,4,6,9,21] [Om 20 9,
 Ot 21 (.bin .neq (.t 20) (ci 0))])
 (.cond (.t 21) (.seq (kp [6,7] [Ot 22 (.build [.nil,(.int .i64 0),(.int .i64 0),(.int .i64 0)] []),
 Om 23 9,
 Oy 4 6 22,
 Om 7 23])
 .ret)
 .skip)))
 (.seq (.seq (kp [2,3,4,6,33] [Om 24 2,
 On 25 24,
 Oq 26 0 1 3,
 Ol 27 1 26,
 Ot 28 (.bin .neq (.t 25) (.t 27)),
 Om 29 28,
 Og 30 29 (.mov (.t 2)),
 Og 31 29 (.callG zft [.t 30]),
 Og 32 29 (.un .not (.t 31)),
 Ot 33 (.pick (.t 29) (.c (.bool true)) (.t 32))])
 (.cond (.t 33) (.seq (kp [6,7] [Ot 34 (.build [.nil,(.int .i64 0),(.int .i64 0),(.int .i64 0)] []),
 Oy 4 6 34,
 Oc 7 170])
 .ret)
 .skip))
 (.seq (kp [3,4,6,10] [Om 35 2,
 Ot 36 (.callG zao [.t 35]),
 Ot 37 (.build [.nil,(.int .i64 0),(.int .i64 0),(.int .i64 0)] [(0,1,(.t 36))]),
 Ot 10 (.alloc 4 (.agg [.nil,(.int .i64 0),(.int .i64 0),(.int .i64 0)])),
 Oy 4 10 37])
 (.seq .skip
 (.block 0 (.loop (.keep [3,4,6,10] (.block 1 (.seq (.block 2 (.seq (kp [3,4,6,10,38] [OL 39 8 3,
 Oq 40 0 1 10,
 Ol 41 1 40,
 Oq 42 16 1 4,
 Ol 43 1 42,
 Ot 44 (.callG n_cost_Flat [.t 39,.t 41,.t 43]),
 Om 38 44])
 (.cond (.t 38) (.seq (kp [6,10] [Oq 45 1 1 10,
 ⟨none, none,.store 1 (.t 45) (ci 1)⟩])
 (.seq (kp [6,7] [OL 46 4 10,
 Oy 4 6 46,
 Oc 7 0])
 .ret))
 (.seq (kp [3,4,6,10,47] [Oq 48 2 1 10,
 Ol 49 1 48,
 Oq 50 14 1 4,
 Ol 51 1 50,
 Ot 52 (.bin .eql (.t 49) (.t 51)),
 Om 47 52])
 (.cond (.t 47) (.seq (kp [6,10] [Oq 53 1 1 10,
 ⟨none, none,.store 1 (.t 53) (ci 2)⟩])
 (.seq (kp [6,7] [OL 54 4 10,
 Oy 4 6 54,
 Oc 7 0])
 .ret))
 .skip)))))
 (.seq (kp [3,4,6,10] [Oq 55 1 1 10,
 ⟨none, none,.store 1 (.t 55) (ci 5)⟩])
 (.seq (.seq (kp [3,4,6,10,11] [Oc 11 0])
 (.block 3 (.loop (.seq (.seq (kp [3,4,6,10,11,59] [Om 56 11,
 Oq 57 15 1 4,
 Ol 58 1 57,
 Ot 59 (.bin .leq (.t 56) (.t 58))])
 (.cond (.t 59) .skip
 (.exit 3)))
 (.seq (.block 4 (.seq (kp [3,4,6,10,11,12,13] [OL 63 8 3,
 Oq 64 0 1 10,
 Ol 65 1 64,
 Om 66 11,
 Ot 67 (.callG zfr [.t 63,.t 65,.t 66]),
 Om 62 67,
 Ot 68 (.ext (.t 62) 0),
 Ot 69 (.ext (.t 62) 1),
 Om 12 68,
 Om 13 69])
 (.seq (.seq (kp [3,4,6,10,11,12,71] [Om 70 13,
 Ot 71 (.bin .neq (.t 70) (ci 0))])
 (.cond (.t 71) (.exit 4)
 .skip))
 (.seq (kp [3,4,6,10,11,12] [Oq 72 3 1 10,
 Ol 73 1 72,
 Ot 74 (.bin .add (.t 73) (ci 1)),
 Oq 75 3 1 10,
 Oy 1 75 74])
 (.seq (.seq (kp [3,4,6,10,11,12,78] [Oq 76 1 1 10,
 Ol 77 1 76,
 Ot 78 (.bin .eql (.t 77) (ci 5))])
 (.cond (.t 78) (kp [3,4,6,10,11,12] [Oq 79 1 1 10,
 ⟨none, none,.store 1 (.t 79) (ci 3)⟩])
 .skip))
 (.seq (.seq (kp [3,4,6,10,11,12,82] [Om 80 12,
 Ot 81 (.callG zbg [.t 80,(.c (.fn zdh []))]),
 Ot 82 (.un .not (.t 81))])
 (.cond (.t 82) (.exit 3)
 .skip))
 (.seq (kp [3,4,6,10,11,14] [Oq 83 0 1 10,
 Ol 84 1 83,
 Om 85 12,
 Ot 86 (.callG n_solve_moved [.t 84,.t 85]),
 Om 14 86])
 (.block 5 (.seq (kp [3,4,6,10,11,14,87] [Om 88 14,
 Ot 89 (.callG zft [.t 88]),
 Ot 90 (.un .not (.t 89)),
 Om 87 90])
 (.cond (.t 87) (kp [3,4,6,10,11] [Oq 91 1 1 10,
 ⟨none, none,.store 1 (.t 91) (ci 4)⟩])
 (.seq (kp [3,4,6,10,11,14,92] [OL 93 8 3,
 Om 94 14,
 Oq 95 0 1 10,
 Ol 96 1 95,
 Ot 97 (.callG n_cost_Less [.t 93,.t 94,.t 96]),
 Om 92 97])
 (.cond (.t 92) (.seq (kp [3,4,6,10] [Om 98 14,
 Oq 99 0 1 10,
 Oy 1 99 98])
 (.seq (kp [3,4,6,10] [Oq 100 2 1 10,
 Ol 101 1 100,
 Ot 102 (.bin .add (.t 101) (ci 1)),
 Oq 103 2 1 10,
 Oy 1 103 102])
 (.exit 1)))
 .skip))))))))))))
 (kp [3,4,6,10,11] [Om 60 11,
 Ot 61 (.bin .add (.t 60) (ci 1)),
 Om 11 61]))))))
 (.seq (kp [6,7] [OL 104 4 10,
 Oy 4 6 104,
 Oc 7 0])
 .ret))))))))))))))
def solve_Solve.res : List RX := [(6, some (4, true)), (7, none)]
theorem solve_Solve.of : OfT pg zdq solve_Solve.k solve_Solve.res 3 := OfI Tryz.func37
def solve_damped.k : K :=
 (.seq (kp [0,3] [Ot 3 (.boxP (.t 1)),
 Ot 4 (.mov (.c .nil))])
 (.seq (kp [0,3,5] [Ot 5 (.mov (.c .nil))])
 (.seq (.seq (kp [3,5,8,9,10] [Om 8 0,
 On 9 8,
 Oc 10 0])
 (.block 0 (.loop (.seq (kp [3,5,8,9,10,11] [Ot 11 (.bin .lss (.t 10) (.t 9))])
 (.seq (.cond (.t 11) .skip
 (.exit 0))
 (.seq (.block 1 (.seq (kp [3,5,6,7,8,9,10] [Om 12 10,
 Oi 13 1 8 10,
 Ol 14 1 13,
 Om 6 12,
 Om 7 14])
 (.seq (kp [3,5,6,7,8,9,10] [Om 15 7,
 Ot 16 (.callG zay [.t 15]),
 Om 7 16])
 (.seq (kd [3,5,7,8,9,10] [Om 17 7,
 Om 18 6,
 Om 19 7,
 Om 20 6,
 Oi 21 2 19 20,
 OL 22 2 21,
 OL 23 2 3,
 Ot 24 (.call zap [.t 22,.t 23]),
 Oi 25 2 17 18,
 Oy 2 25 24])
 (.gh (kp [3,5,8,9,10] [Om 26 5,
 Om 27 7,
 Ot 28 (.new (.bsl 1) [.t 27]),
 Ot 29 (.eff (.app 1 24) [.t 26,.t 28]),
 Om 5 29]))))))
 (kp [3,5,8,9,10] [Ot 30 (.bin .add (.t 10) (ci 1)),
 Om 10 30])))))))
 (.seq (kp [4] [Om 31 5,
 Om 4 31])
 .ret))))
def solve_damped.res : List RX := [(4, none)]
theorem solve_damped.of : OfT pg zg1 solve_damped.k solve_damped.res 2 := OfI Tryz.func88
def solve_damping.k : K :=
 (.seq (kp [1,2,4] [Ot 2 (.boxP (.t 0)),
 Ot 4 (.alloc 2 (.agg [(.bool false),(.sl [])]))])
 (.seq (.seq (kp [1,2,4,6] [Om 5 1,
 Ot 6 (.bin .eql (.t 5) (ci 0))])
 (.cond (.t 6) (.seq (kp [4] [Ot 7 (.build [(.bool false),(.sl [])] []),
 Oy 2 4 7])
 .ret)
 .skip))
 (.seq (kd [4] [Ot 8 (.fldA 6 2 true (.t 2)),
 OL 9 2 8,
 Om 10 1,
 Ot 11 (.bin .sub (.t 10) (ci 1)),
 Ot 12 (.bin .mul (ci 2) (.t 11)),
 Ot 13 (.bin .shl (ci 1) (.t 12)),
 Ot 14 (.call zas [.t 13]),
 Ot 15 (.call zak [.t 9,.t 14]),
 Oy 2 4 15])
 .ret)))
def solve_damping.res : List RX := [(4, some (2, true))]
theorem solve_damping.of : OfT pg zgi solve_damping.k solve_damping.res 2 := OfI Tryz.func89
def solve_nearest.k : K :=
 (.seq (kp [2,3] [Ot 2 (.boxP (.t 0)),
 Ot 3 (.boxP (.t 1)),
 Oc 4 0])
 (.seq (kd [5] [OL 11 2 2,
 Ot 12 (.call zas [ci 2]),
 Ot 13 (.call zak [.t 11,.t 12]),
 OL 14 2 3,
 Ot 15 (.call zap [.t 13,.t 14]),
 OL 16 2 3,
 Ot 17 (.call zas [ci 2]),
 Ot 18 (.call zak [.t 16,.t 17]),
 Ot 19 (.call zd1 [.t 15,.t 18]),
 Om 10 19,
 Ot 20 (.ext (.t 10) 0),
 Ot 21 (.ext (.t 10) 1),
 Ot 22 (.ext (.t 10) 2),
 Ot 5 (.alloc 2 (.agg [(.bool false),(.sl [])])),
 Ot 6 (.alloc 2 (.agg [(.bool false),(.sl [])])),
 Oy 2 5 20,
 Oy 2 6 21,
 Om 7 22])
 (.seq (kp [5,8,9] [OL 24 2 5,
 Ot 25 (.callG zc0 [.t 24]),
 Om 23 25,
 Ot 26 (.ext (.t 23) 0),
 Ot 27 (.ext (.t 23) 1),
 Om 8 26,
 Om 9 27])
 (.seq (.seq (kp [5,8,29] [Om 28 9,
 Ot 29 (.un .not (.t 28))])
 (.cond (.t 29) (kp [8] [OL 30 2 5,
 Ot 31 (.callG zbx [.t 30]),
 Ot 32 (.bin .mul (ci 10000000) (.t 31)),
 Om 8 32])
 .skip))
 (.seq (kp [4] [Om 33 8,
 Ot 34 (.mm false (.t 33) [ci 10000000]),
 Ot 35 (.mm true (.c (.int .i64 (-10000000))) [.t 34]),
 Om 4 35])
 .ret)))))
def solve_nearest.res : List RX := [(4, none)]
theorem solve_nearest.of : OfT pg zgh solve_nearest.k solve_nearest.res 2 := OfI Tryz.func92
def solve_Solve_1.k : K :=
 (.seq (kp [0] [Ot 2 (.mov (.c (.bool false)))])
 (.seq (kp [2] [Om 3 0,
 Ot 4 (.bin .neq (.t 3) (ci 0)),
 Om 2 4])
 .ret))
def solve_Solve_1.res : List RX := [(2, none)]
theorem solve_Solve_1.of : OfT pg zdh solve_Solve_1.k solve_Solve_1.res 1 := OfI Tryz.func101
def solve_moved.k : K :=
 (.seq (kp [0,1] [Ot 4 (.mov (.c .nil))])
 (.seq (kp [1,5] [Om 7 0,
 Ot 8 (.callG zao [.t 7]),
 Om 5 8])
 (.seq (.seq (kp [1,5,10,11] [Om 9 1,
 On 10 9,
 Oc 11 0])
 (.block 0 (.loop (.seq (kp [1,5,10,11,12] [Ot 12 (.bin .lss (.t 11) (.t 10))])
 (.seq (.cond (.t 12) .skip
 (.exit 0))
 (.seq (.block 1 (.seq (kp [1,5,6,10,11] [Om 13 11,
 Om 6 13])
 (kd [1,5,10,11] [Om 14 5,
 Om 15 6,
 Oi 16 1 14 15,
 Ol 17 1 16,
 Om 18 1,
 Om 19 6,
 Oi 20 1 18 19,
 Ol 21 1 20,
 Ot 22 (.bin .add (.t 17) (.t 21)),
 Oi 23 1 14 15,
 Oy 1 23 22])))
 (kp [1,5,10,11] [Ot 24 (.bin .add (.t 11) (ci 1)),
 Om 11 24])))))))
 (.seq (kp [4] [Om 25 5,
 Om 4 25])
 .ret))))
def solve_moved.res : List RX := [(4, none)]
theorem solve_moved.of : OfT pg n_solve_moved solve_moved.k solve_moved.res 2 := OfI Tryz.func102
end Go.Gim
/- Functions' code as data (written by wip/tools/gen.py), and the step to their contracts. -/
set_option maxRecDepth 100000
namespace Go.Gim
open Go.Proofs
def gimballaw19_SolveExact.k : K :=
 (.seq (kp [0,1,2] [Ot 6 (.mov (.c (.bool false)))])
 (.seq (kp [0,1,2,7] [Ot 41 (.callG zef []),
 Om 7 41])
 (.seq (kp [0,1,2,7,8,10] [Om 43 0,
 Om 44 1,
 Ot 45 (.callG zex [.t 43,ci 6,.t 44,(.c .nil),ci 1]),
 Om 42 45,
 Ot 46 (.ext (.t 42) 0),
 Ot 47 (.ext (.t 42) 1),
 Ot 48 (.ext (.t 42) 2),
 Ot 8 (.alloc 8 (.agg [(.int .i64 0),.nil,.nil,.nil,(.bool false),(.sl []),(.bool false),(.sl [])])),
 Ot 9 (.alloc 8 (.agg [(.int .i64 0),.nil,.nil,.nil,(.bool false),(.sl []),(.bool false),(.sl [])])),
 Oy 8 8 46,
 Oy 8 9 47,
 Om 10 48])
 (.seq (kp [0,1,2,7,8,10,11] [Om 49 2,
 Ot 50 (.callG zcx [.t 49]),
 Om 11 50])
 (.seq (.seq (kp [0,1,2,7,8,67] [Om 51 10,
 Ot 52 (.un .not (.t 51)),
 Om 53 52,
 Og 54 53 (.mov (.t 11)),
 Og 55 53 (.un .not (.t 54)),
 Ot 56 (.pick (.t 53) (.c (.bool true)) (.t 55)),
 Om 57 56,
 Og 58 57 (.mov (.t 2)),
 Og 59 57 (.len false (.t 58)),
 Og 60 57 (.mov (.t 0)),
 Og 61 57 (.bin .neq (.t 59) (.t 60)),
 Ot 62 (.pick (.t 57) (.c (.bool true)) (.t 61)),
 Om 63 62,
 Og 64 63 (.mov (.t 1)),
 Og 65 63 (.len false (.t 64)),
 Og 66 63 (.bin .gtr (.t 65) (ci 20)),
 Ot 67 (.pick (.t 63) (.c (.bool true)) (.t 66))])
 (.cond (.t 67) (.seq (kp [6] [Om 68 7,
 Om 6 68])
 .ret)
 .skip))
 (.seq (kp [0,1,2,7,8,12] [Ot 12 (.mov (.c .nil))])
 (.seq (.seq (kp [0,1,2,7,8,12,13] [Oc 13 0])
 (.block 0 (.loop (.seq (.seq (kp [0,1,2,7,8,12,13,71] [Om 69 13,
 Om 70 0,
 Ot 71 (.bin .lss (.t 69) (.t 70))])
 (.cond (.t 71) .skip
 (.exit 0)))
 (.seq (.block 1 (.gh (kp [0,1,2,7,8,12,13] [Om 74 12,
 Om 75 0,
 Ot 76 (.new (.mks 1 8 (.int .i64 0)) [.t 75,.t 75]),
 Ot 77 (.new (.bsl 1) [.t 76]),
 Ot 78 (.eff (.app 1 24) [.t 74,.t 77]),
 Om 12 78])))
 (kp [0,1,2,7,8,12,13] [Om 72 13,
 Ot 73 (.bin .add (.t 72) (ci 1)),
 Om 13 73]))))))
 (.seq (kp [0,1,2,7,8,12,14] [Om 79 0,
 Ot 80 (.new (.mks 1 8 (.int .i64 0)) [.t 79,.t 79]),
 Om 14 80])
 (.seq (.seq (kp [0,1,2,7,8,12,14,15] [Oc 15 0])
 (.block 2 (.loop (.seq (.seq (kp [0,1,2,7,8,12,14,15,84] [Om 81 15,
 Om 82 1,
 On 83 82,
 Ot 84 (.bin .lss (.t 81) (.t 83))])
 (.cond (.t 84) .skip
 (.exit 2)))
 (.seq (.block 3 (.seq (kp [0,1,2,7,8,12,14,15,16] [Om 87 1,
 Om 88 15,
 Oi 89 4 87 88,
 OL 90 4 89,
 Ot 16 (.alloc 4 (.agg [(.sl []),(.int .i64 0),(.int .i64 0),(.int .i64 0)])),
 Oy 4 16 90])
 (.seq (kp [0,1,2,7,8,12,14,15,16,17] [Oc 17 0])
 (.block 4 (.loop (.seq (.seq (kp [0,1,2,7,8,12,14,15,16,17,93] [Om 91 17,
 Om 92 0,
 Ot 93 (.bin .lss (.t 91) (.t 92))])
 (.cond (.t 93) .skip
 (.exit 4)))
 (.seq (.block 5 (.seq (kd [0,1,2,7,8,12,14,15,16,17] [Om 96 14,
 Om 97 17,
 Om 98 14,
 Om 99 17,
 Oi 100 1 98 99,
 Ol 101 1 100,
 Oq 102 3 1 16,
 Ol 103 1 102,
 Oq 104 0 1 16,
 Ol 105 1 104,
 Om 106 17,
 Oi 107 1 105 106,
 Ol 108 1 107,
 Ot 109 (.bin .mul (.t 103) (.t 108)),
 Oq 110 1 1 16,
 Ol 111 1 110,
 Ot 112 (.bin .mul (.t 109) (.t 111)),
 Ot 113 (.bin .add (.t 101) (.t 112)),
 Oi 114 1 96 97,
 Oy 1 114 113])
 (.seq (kp [0,1,2,7,8,12,14,15,16,17,18] [Oc 18 0])
 (.block 6 (.loop (.seq (.seq (kp [0,1,2,7,8,12,14,15,16,17,18,117] [Om 115 18,
 Om 116 0,
 Ot 117 (.bin .lss (.t 115) (.t 116))])
 (.cond (.t 117) .skip
 (.exit 6)))
 (.seq (.block 7 (kd [0,1,2,7,8,12,14,15,16,17,18] [Om 120 12,
 Om 121 17,
 Oi 122 1 120 121,
 Ol 123 1 122,
 Om 124 18,
 Om 125 12,
 Om 126 17,
 Oi 127 1 125 126,
 Ol 128 1 127,
 Om 129 18,
 Oi 130 1 128 129,
 Ol 131 1 130,
 Oq 132 3 1 16,
 Ol 133 1 132,
 Oq 134 0 1 16,
 Ol 135 1 134,
 Om 136 17,
 Oi 137 1 135 136,
 Ol 138 1 137,
 Ot 139 (.bin .mul (.t 133) (.t 138)),
 Oq 140 0 1 16,
 Ol 141 1 140,
 Om 142 18,
 Oi 143 1 141 142,
 Ol 144 1 143,
 Ot 145 (.bin .mul (.t 139) (.t 144)),
 Ot 146 (.bin .add (.t 131) (.t 145)),
 Oi 147 1 123 124,
 Oy 1 147 146]))
 (kp [0,1,2,7,8,12,14,15,16,17,18] [Om 118 18,
 Ot 119 (.bin .add (.t 118) (ci 1)),
 Om 18 119]))))))))
 (kp [0,1,2,7,8,12,14,15,16,17] [Om 94 17,
 Ot 95 (.bin .add (.t 94) (ci 1)),
 Om 17 95]))))))))
 (kp [0,1,2,7,8,12,14,15] [Om 85 15,
 Ot 86 (.bin .add (.t 85) (ci 1)),
 Om 15 86]))))))
 (.seq (kp [0,1,2,7,8,19,20] [Om 149 12,
 Om 150 14,
 Ot 151 (.callG n_quad_Of [.t 149,.t 150,ci 0]),
 Om 148 151,
 Ot 152 (.ext (.t 148) 0),
 Ot 153 (.ext (.t 148) 1),
 Ot 19 (.alloc 4 (.agg [.nil,.nil,(.bool false),(.sl [])])),
 Oy 4 19 152,
 Om 20 153])
 (.seq (kp [0,1,2,7,8,20,21,22,24] [OL 155 4 19,
 Ot 156 (.callG ze9 [.t 155]),
 Om 154 156,
 Ot 157 (.ext (.t 154) 0),
 Ot 158 (.ext (.t 154) 1),
 Ot 159 (.ext (.t 154) 2),
 Ot 160 (.ext (.t 154) 3),
 Ot 22 (.alloc 2 (.agg [(.bool false),(.sl [])])),
 Ot 23 (.alloc 2 (.agg [(.bool false),(.sl [])])),
 Om 21 157,
 Oy 2 22 158,
 Oy 2 23 159,
 Om 24 160])
 (.seq (.seq (kp [0,1,2,7,8,21,22,166] [Om 161 20,
 Ot 162 (.bin .neq (.t 161) (ci 0)),
 Om 163 162,
 Og 164 163 (.mov (.t 24)),
 Og 165 163 (.bin .neq (.t 164) (ci 0)),
 Ot 166 (.pick (.t 163) (.c (.bool true)) (.t 165))])
 (.cond (.t 166) (.seq (kp [6] [Om 167 7,
 Om 6 167])
 .ret)
 .skip))
 (.seq (.seq (kp [0,1,2,7,8,21,22,171] [Om 168 21,
 On 169 168,
 Om 170 0,
 Ot 171 (.bin .neq (.t 169) (.t 170))])
 (.cond (.t 171) (.seq (kp [6] [Ot 6 (.mov (.c (.bool false)))])
 .ret)
 .skip))
 (.seq (kp [0,1,2,7,8,21,22,25] [Ot 25 (.mov (.c .nil))])
 (.seq (.seq (kp [0,1,2,7,8,21,22,25,26] [Oc 26 0])
 (.block 8 (.loop (.seq (.seq (kp [0,1,2,7,8,21,22,25,26,174] [Om 172 26,
 Om 173 0,
 Ot 174 (.bin .lss (.t 172) (.t 173))])
 (.cond (.t 174) .skip
 (.exit 8)))
 (.seq (.block 9 (.seq (kd [0,1,2,7,8,21,22,25,26,27] [Om 178 21,
 Om 179 26,
 Oi 180 2 178 179,
 OL 181 2 180,
 Ot 182 (.call zas [ci 2]),
 Ot 183 (.call zak [.t 181,.t 182]),
 OL 184 2 22,
 Ot 185 (.call zap [.t 183,.t 184]),
 OL 186 2 22,
 Ot 187 (.call zas [ci 2]),
 Ot 188 (.call zak [.t 186,.t 187]),
 Ot 189 (.call zd1 [.t 185,.t 188]),
 Om 177 189,
 Ot 190 (.ext (.t 177) 0),
 Ot 191 (.ext (.t 177) 1),
 Ot 192 (.ext (.t 177) 2),
 Ot 27 (.alloc 2 (.agg [(.bool false),(.sl [])])),
 Ot 28 (.alloc 2 (.agg [(.bool false),(.sl [])])),
 Oy 2 27 190,
 Oy 2 28 191,
 Om 29 192])
 (.seq (kp [0,1,2,7,8,21,22,25,26,30,31] [OL 194 2 27,
 Ot 195 (.callG zc0 [.t 194]),
 Om 193 195,
 Ot 196 (.ext (.t 193) 0),
 Ot 197 (.ext (.t 193) 1),
 Om 30 196,
 Om 31 197])
 (.seq (.seq (kp [0,1,2,7,8,21,22,25,26,30,199] [Om 198 31,
 Ot 199 (.un .not (.t 198))])
 (.cond (.t 199) (.seq (kp [6] [Om 200 7,
 Om 6 200])
 .ret)
 .skip))
 (kp [0,1,2,7,8,21,22,25,26] [Om 201 25,
 Om 202 30,
 Ot 203 (.new (.bsl 1) [.t 202]),
 Ot 204 (.eff (.app 1 8) [.t 201,.t 203]),
 Om 25 204])))))
 (kp [0,1,2,7,8,21,22,25,26] [Om 175 26,
 Ot 176 (.bin .add (.t 175) (ci 1)),
 Om 26 176]))))))
 (.seq (kp [0,1,2,7,8,25,32] [Om 205 25,
 Ot 206 (.callG zcx [.t 205]),
 Om 32 206])
 (.seq (.seq (kp [0,1,2,7,8,25,208] [Om 207 32,
 Ot 208 (.un .not (.t 207))])
 (.cond (.t 208) (.seq (kp [6] [Om 209 7,
 Om 6 209])
 .ret)
 .skip))
 (.seq (.seq (kp [0,1,2,7,8,25,33] [Oc 33 0])
 (.block 10 (.loop (.seq (.seq (kp [0,1,2,7,8,25,33,213] [Om 210 33,
 Om 211 1,
 On 212 211,
 Ot 213 (.bin .lss (.t 210) (.t 212))])
 (.cond (.t 213) .skip
 (.exit 10)))
 (.seq (.block 11 (.seq (kp [0,1,2,7,8,25,33,34] [Om 216 1,
 Om 217 33,
 Oi 218 4 216 217,
 OL 219 4 218,
 Om 220 2,
 Ot 221 (.callG zbu [.t 219,.t 220]),
 Om 34 221])
 (.seq (kp [0,1,2,7,8,25,33,34,35] [Om 222 1,
 Om 223 33,
 Oi 224 4 222 223,
 OL 225 4 224,
 Om 226 25,
 Ot 227 (.callG zbu [.t 225,.t 226]),
 Om 35 227])
 (.seq (kp [0,1,2,7,8,25,33,240] [Om 228 34,
 Om 229 34,
 Ot 230 (.un .neg (.t 229)),
 Om 231 35,
 Om 232 35,
 Ot 233 (.un .neg (.t 232)),
 Ot 234 (.mm true (.t 228) [.t 230,.t 231,.t 233]),
 Om 235 1,
 Om 236 33,
 Oi 237 4 235 236,
 Oq 238 2 1 237,
 Ol 239 1 238,
 Ot 240 (.bin .gtr (.t 234) (.t 239))])
 (.cond (.t 240) (.seq (kp [6] [Om 241 7,
 Om 6 241])
 .ret)
 .skip)))))
 (kp [0,1,2,7,8,25,33] [Om 214 33,
 Ot 215 (.bin .add (.t 214) (ci 1)),
 Om 33 215]))))))
 (.seq (.seq (kp [0,2,7,8,25,36] [Oc 36 0])
 (.block 12 (.loop (.seq (.seq (kp [0,2,7,8,25,36,244] [Om 242 36,
 Om 243 0,
 Ot 244 (.bin .lss (.t 242) (.t 243))])
 (.cond (.t 244) .skip
 (.exit 12)))
 (.seq (.block 13 (.seq (kd [0,2,7,8,25,36,268] [Om 247 25,
 Om 248 36,
 Oi 249 1 247 248,
 Ol 250 1 249,
 Om 251 2,
 Om 252 36,
 Oi 253 1 251 252,
 Ol 254 1 253,
 Ot 255 (.bin .sub (.t 250) (.t 254)),
 Ot 256 (.bin .gtr (.t 255) (ci 10000000)),
 Om 257 256,
 Og 258 257 (.mov (.t 2)),
 Og 259 257 (.mov (.t 36)),
 Og 260 257 (.idxA 1 (.t 258) (.t 259)),
 Og 261 257 (.load 1 false (.t 260)),
 Og 262 257 (.mov (.t 25)),
 Og 263 257 (.mov (.t 36)),
 Og 264 257 (.idxA 1 (.t 262) (.t 263)),
 Og 265 257 (.load 1 false (.t 264)),
 Og 266 257 (.bin .sub (.t 261) (.t 265)),
 Og 267 257 (.bin .gtr (.t 266) (ci 10000000)),
 Ot 268 (.pick (.t 257) (.c (.bool true)) (.t 267))])
 (.cond (.t 268) (.seq (kp [6] [Om 269 7,
 Om 6 269])
 .ret)
 .skip)))
 (kp [0,2,7,8,25,36] [Om 245 36,
 Ot 246 (.bin .add (.t 245) (ci 1)),
 Om 36 246]))))))
 (.seq (kp [2,7,8,25,37] [Ot 270 (.callG zd8 []),
 Ot 37 (.alloc 17 (.agg [(.int .i64 0),(.int .i64 0),(.int .i64 0),(.int .i64 0),(.int .i64 0),(.int .i64 0),(.int .i64 0),(.int .i64 0),(.int .i64 0),(.int .i64 0),(.int .i64 0),(.int .i64 0),(.int .i64 0),(.int .i64 0),(.int .i64 0),(.int .i64 0),(.int .i64 0)])),
 Oy 17 37 270])
 (.seq (kp [2,7,8,25,37] [Oq 271 16 1 37,
 ⟨none, none,.store 1 (.t 271) (ci 0)⟩])
 (.seq (kp [7,8,25,38,39] [OL 273 8 8,
 OL 274 17 37,
 Om 275 2,
 Ot 276 (.callG zdq [.t 273,.t 274,.t 275]),
 Om 272 276,
 Ot 277 (.ext (.t 272) 0),
 Ot 278 (.ext (.t 272) 1),
 Ot 38 (.alloc 4 (.agg [.nil,(.int .i64 0),(.int .i64 0),(.int .i64 0)])),
 Oy 4 38 277,
 Om 39 278])
 (.seq (kp [7,39,40] [OL 279 8 8,
 Om 280 25,
 Oq 281 0 1 38,
 Ol 282 1 281,
 Ot 283 (.callG n_cost_Less [.t 279,.t 280,.t 282]),
 Om 40 283])
 (.seq (kp [6] [Om 284 7,
 Om 285 284,
 Oh 286 285 (.mov (.t 39)),
 Oh 287 285 (.bin .eql (.t 286) (ci 0)),
 Ot 288 (.pick (.t 285) (.t 287) (.c (.bool false))),
 Om 289 288,
 Oh 290 289 (.mov (.t 40)),
 Oh 291 289 (.un .not (.t 290)),
 Ot 292 (.pick (.t 289) (.t 291) (.c (.bool false))),
 Om 6 292])
 .ret))))))))))))))))))))))))
def gimballaw19_SolveExact.res : List RX := [(6, none)]
theorem gimballaw19_SolveExact.of : OfT pg zb1 gimballaw19_SolveExact.k gimballaw19_SolveExact.res 3 := OfI Tryz.func10
def gimballaw19_awake.k : K :=
 (.seq (kp [] [Ot 0 (.mov (.c (.bool false)))])
 (.seq (kp [1,2] [Ot 22 (.new (.bsl 1) [ci 1]),
 Ot 23 (.build [(.sl []),(.int .i64 0),(.int .i64 0),(.int .i64 0)] [(0,1,(.t 22)),(1,1,(ci 100)),(2,1,(ci 32768)),(3,1,(ci 1))]),
 Ot 24 (.new (.bsl 4) [.t 23]),
 Ot 25 (.callG zcw [ci 1,.t 24]),
 Om 21 25,
 Ot 26 (.ext (.t 21) 0),
 Ot 27 (.ext (.t 21) 1),
 Ot 1 (.alloc 8 (.agg [(.int .i64 0),.nil,.nil,.nil,(.bool false),(.sl []),(.bool false),(.sl [])])),
 Oy 8 1 26,
 Om 2 27])
 (.seq (kp [1,2,3,4] [Ot 29 (.new (.bsl 1) [ci 2]),
 Ot 30 (.build [(.sl []),(.int .i64 0),(.int .i64 0),(.int .i64 0)] [(0,1,(.t 29)),(1,1,(ci 5)),(2,1,(ci 32768)),(3,1,(ci 1))]),
 Ot 31 (.new (.bsl 4) [.t 30]),
 Ot 32 (.callG zcw [ci 1,.t 31]),
 Om 28 32,
 Ot 33 (.ext (.t 28) 0),
 Ot 34 (.ext (.t 28) 1),
 Ot 3 (.alloc 8 (.agg [(.int .i64 0),.nil,.nil,.nil,(.bool false),(.sl []),(.bool false),(.sl [])])),
 Oy 8 3 33,
 Om 4 34])
 (.seq (kp [1,2,3,4,5,6] [Ot 36 (.callG zcw [ci 1,(.c .nil)]),
 Om 35 36,
 Ot 37 (.ext (.t 35) 0),
 Ot 38 (.ext (.t 35) 1),
 Ot 5 (.alloc 8 (.agg [(.int .i64 0),.nil,.nil,.nil,(.bool false),(.sl []),(.bool false),(.sl [])])),
 Oy 8 5 37,
 Om 6 38])
 (.seq (.seq (kp [1,3,5,48] [Om 39 2,
 Ot 40 (.bin .neq (.t 39) (ci 0)),
 Om 41 40,
 Og 42 41 (.mov (.t 4)),
 Og 43 41 (.bin .neq (.t 42) (ci 0)),
 Ot 44 (.pick (.t 41) (.c (.bool true)) (.t 43)),
 Om 45 44,
 Og 46 45 (.mov (.t 6)),
 Og 47 45 (.bin .neq (.t 46) (ci 0)),
 Ot 48 (.pick (.t 45) (.c (.bool true)) (.t 47))])
 (.cond (.t 48) (.seq (kp [0] [Ot 0 (.mov (.c (.bool false)))])
 .ret)
 .skip))
 (.seq (kp [1,3,5,7] [Ot 49 (.callG zd8 []),
 Ot 7 (.alloc 17 (.agg [(.int .i64 0),(.int .i64 0),(.int .i64 0),(.int .i64 0),(.int .i64 0),(.int .i64 0),(.int .i64 0),(.int .i64 0),(.int .i64 0),(.int .i64 0),(.int .i64 0),(.int .i64 0),(.int .i64 0),(.int .i64 0),(.int .i64 0),(.int .i64 0),(.int .i64 0)])),
 Oy 17 7 49])
 (.seq (kp [1,3,5,7,8,9] [OL 51 8 1,
 Ot 52 (.new (.bsl 1) [ci 0]),
 Ot 53 (.callG zfr [.t 51,.t 52,ci 0]),
 Om 50 53,
 Ot 54 (.ext (.t 50) 0),
 Ot 55 (.ext (.t 50) 1),
 Om 8 54,
 Om 9 55])
 (.seq (kp [1,3,5,7,8,9,10,11] [OL 57 8 1,
 Ot 58 (.new (.bsl 1) [ci 0]),
 Ot 59 (.callG zfr [.t 57,.t 58,ci 1]),
 Om 56 59,
 Ot 60 (.ext (.t 56) 0),
 Ot 61 (.ext (.t 56) 1),
 Om 10 60,
 Om 11 61])
 (.seq (kp [1,3,5,7,8,9,10,11] [Oq 62 16 1 7,
 ⟨none, none,.store 1 (.t 62) (ci 0)⟩])
 (.seq (kp [3,5,7,8,9,10,11,12,13] [OL 64 8 1,
 OL 65 17 7,
 Ot 66 (.new (.bsl 1) [ci 0]),
 Ot 67 (.callG zdq [.t 64,.t 65,.t 66]),
 Om 63 67,
 Ot 68 (.ext (.t 63) 0),
 Ot 69 (.ext (.t 63) 1),
 Ot 12 (.alloc 4 (.agg [.nil,(.int .i64 0),(.int .i64 0),(.int .i64 0)])),
 Oy 4 12 68,
 Om 13 69])
 (.seq (kp [3,5,7,8,9,10,11,12,13] [Oq 70 15 1 7,
 ⟨none, none,.store 1 (.t 70) (ci 1)⟩])
 (.seq (kp [5,7,8,9,10,11,12,13,14,15] [OL 72 8 3,
 OL 73 17 7,
 Ot 74 (.new (.bsl 1) [ci 0]),
 Ot 75 (.callG zdq [.t 72,.t 73,.t 74]),
 Om 71 75,
 Ot 76 (.ext (.t 71) 0),
 Ot 77 (.ext (.t 71) 1),
 Ot 14 (.alloc 4 (.agg [.nil,(.int .i64 0),(.int .i64 0),(.int .i64 0)])),
 Oy 4 14 76,
 Om 15 77])
 (.seq (kp [8,9,10,11,12,13,14,15,16,17] [OL 79 8 5,
 OL 80 17 7,
 Ot 81 (.new (.bsl 1) [ci 7]),
 Ot 82 (.callG zdq [.t 79,.t 80,.t 81]),
 Om 78 82,
 Ot 83 (.ext (.t 78) 0),
 Ot 84 (.ext (.t 78) 1),
 Ot 16 (.alloc 4 (.agg [.nil,(.int .i64 0),(.int .i64 0),(.int .i64 0)])),
 Oy 4 16 83,
 Om 17 84])
 (.seq (kp [12,13,14,15,16,17,18] [Om 85 8,
 Ot 86 (.new (.bsl 1) [ci 100]),
 Ot 87 (.callG zbi [.t 85,.t 86]),
 Om 88 87,
 Oh 89 88 (.mov (.t 9)),
 Oh 90 88 (.bin .eql (.t 89) (ci 0)),
 Ot 91 (.pick (.t 88) (.t 90) (.c (.bool false))),
 Om 92 91,
 Oh 93 92 (.mov (.t 10)),
 Oh 94 92 (.new (.bsl 1) [ci 100]),
 Oh 95 92 (.callG zbi [.t 93,.t 94]),
 Ot 96 (.pick (.t 92) (.t 95) (.c (.bool false))),
 Om 97 96,
 Oh 98 97 (.mov (.t 11)),
 Oh 99 97 (.bin .eql (.t 98) (ci 0)),
 Ot 100 (.pick (.t 97) (.t 99) (.c (.bool false))),
 Om 18 100])
 (.seq (kp [14,15,16,17,18,19] [Oq 101 0 1 12,
 Ol 102 1 101,
 Ot 103 (.new (.bsl 1) [ci 100]),
 Ot 104 (.callG zbi [.t 102,.t 103]),
 Om 105 104,
 Oh 106 105 (.fldA 1 1 false (.t 12)),
 Oh 107 105 (.load 1 false (.t 106)),
 Oh 108 105 (.bin .eql (.t 107) (ci 1)),
 Ot 109 (.pick (.t 105) (.t 108) (.c (.bool false))),
 Om 110 109,
 Oh 111 110 (.fldA 2 1 false (.t 12)),
 Oh 112 110 (.load 1 false (.t 111)),
 Oh 113 110 (.bin .eql (.t 112) (ci 1)),
 Ot 114 (.pick (.t 110) (.t 113) (.c (.bool false))),
 Om 115 114,
 Oh 116 115 (.fldA 3 1 false (.t 12)),
 Oh 117 115 (.load 1 false (.t 116)),
 Oh 118 115 (.bin .eql (.t 117) (ci 1)),
 Ot 119 (.pick (.t 115) (.t 118) (.c (.bool false))),
 Om 120 119,
 Oh 121 120 (.mov (.t 13)),
 Oh 122 120 (.bin .eql (.t 121) (ci 0)),
 Ot 123 (.pick (.t 120) (.t 122) (.c (.bool false))),
 Om 19 123])
 (.seq (kp [16,17,18,19,20] [Oq 124 0 1 14,
 Ol 125 1 124,
 Ot 126 (.new (.bsl 1) [ci 3]),
 Ot 127 (.callG zbi [.t 125,.t 126]),
 Om 128 127,
 Oh 129 128 (.fldA 1 1 false (.t 14)),
 Oh 130 128 (.load 1 false (.t 129)),
 Oh 131 128 (.bin .eql (.t 130) (ci 3)),
 Ot 132 (.pick (.t 128) (.t 131) (.c (.bool false))),
 Om 133 132,
 Oh 134 133 (.fldA 2 1 false (.t 14)),
 Oh 135 133 (.load 1 false (.t 134)),
 Oh 136 133 (.bin .eql (.t 135) (ci 1)),
 Ot 137 (.pick (.t 133) (.t 136) (.c (.bool false))),
 Om 138 137,
 Oh 139 138 (.fldA 3 1 false (.t 14)),
 Oh 140 138 (.load 1 false (.t 139)),
 Oh 141 138 (.bin .eql (.t 140) (ci 2)),
 Ot 142 (.pick (.t 138) (.t 141) (.c (.bool false))),
 Om 143 142,
 Oh 144 143 (.mov (.t 15)),
 Oh 145 143 (.bin .eql (.t 144) (ci 0)),
 Ot 146 (.pick (.t 143) (.t 145) (.c (.bool false))),
 Om 20 146])
 (.seq (kp [0] [Om 147 18,
 Om 148 147,
 Oh 149 148 (.mov (.t 19)),
 Ot 150 (.pick (.t 148) (.t 149) (.c (.bool false))),
 Om 151 150,
 Oh 152 151 (.mov (.t 20)),
 Ot 153 (.pick (.t 151) (.t 152) (.c (.bool false))),
 Om 154 153,
 Oh 155 154 (.fldA 0 1 false (.t 16)),
 Oh 156 154 (.load 1 false (.t 155)),
 Oh 157 154 (.new (.bsl 1) [ci 7]),
 Oh 158 154 (.callG zbi [.t 156,.t 157]),
 Ot 159 (.pick (.t 154) (.t 158) (.c (.bool false))),
 Om 160 159,
 Oh 161 160 (.fldA 1 1 false (.t 16)),
 Oh 162 160 (.load 1 false (.t 161)),
 Oh 163 160 (.bin .eql (.t 162) (ci 1)),
 Ot 164 (.pick (.t 160) (.t 163) (.c (.bool false))),
 Om 165 164,
 Oh 166 165 (.mov (.t 17)),
 Oh 167 165 (.bin .eql (.t 166) (ci 0)),
 Ot 168 (.pick (.t 165) (.t 167) (.c (.bool false))),
 Om 0 168])
 .ret)))))))))))))))))
def gimballaw19_awake.res : List RX := [(0, none)]
theorem gimballaw19_awake.of : OfT pg zef gimballaw19_awake.k gimballaw19_awake.res 0 := OfI Tryz.func31
def gimballaw19_read.k : K :=
 (.seq (kp [0,1,2,3,4,10,11] [Ot 10 (.alloc 8 (.agg [(.int .i64 0),.nil,.nil,.nil,(.bool false),(.sl []),(.bool false),(.sl [])])),
 Ot 11 (.alloc 8 (.agg [(.int .i64 0),.nil,.nil,.nil,(.bool false),(.sl []),(.bool false),(.sl [])])),
 Ot 12 (.mov (.c (.bool false)))])
 (.seq (kp [0,1,2,3,4,10,11,13,14] [Om 23 0,
 Om 24 2,
 Ot 25 (.callG zcw [.t 23,.t 24]),
 Om 22 25,
 Ot 26 (.ext (.t 22) 0),
 Ot 27 (.ext (.t 22) 1),
 Ot 13 (.alloc 8 (.agg [(.int .i64 0),.nil,.nil,.nil,(.bool false),(.sl []),(.bool false),(.sl [])])),
 Oy 8 13 26,
 Om 14 27])
 (.seq (kp [0,1,3,4,10,11,13,14,15] [Om 29 0,
 Om 30 2,
 Ot 31 (.callG zfb [.t 29,.t 30]),
 Om 28 31,
 Ot 32 (.ext (.t 28) 0),
 Ot 33 (.ext (.t 28) 1),
 Ot 15 (.alloc 8 (.agg [(.int .i64 0),.nil,.nil,.nil,(.bool false),(.sl []),(.bool false),(.sl [])])),
 Oy 8 15 32,
 Om 16 33])
 (.seq (.seq (kp [0,3,4,10,11,13,15,44] [Om 34 14,
 Ot 35 (.bin .neq (.t 34) (ci 0)),
 Om 36 35,
 Og 37 36 (.mov (.t 0)),
 Og 38 36 (.mov (.t 1)),
 Og 39 36 (.bin .gtr (.t 37) (.t 38)),
 Ot 40 (.pick (.t 36) (.c (.bool true)) (.t 39)),
 Om 41 40,
 Og 42 41 (.mov (.t 4)),
 Og 43 41 (.bin .leq (.t 42) (ci 0)),
 Ot 44 (.pick (.t 41) (.c (.bool true)) (.t 43))])
 (.cond (.t 44) (.seq (kd [10,11,12] [OL 45 8 13,
 Ot 46 (.loadN 8 true (.t 15) [10]),
 Oy 8 10 45,
 Oy 8 11 46,
 Ot 12 (.mov (.c (.bool false)))])
 .ret)
 .skip))
 (.seq (kp [0,4,10,11,13,15,17] [Om 47 3,
 Om 48 0,
 Ot 49 (.callG zdy [.t 47,.t 48]),
 Om 17 49])
 (.seq (kp [0,4,10,11,13,15,17,18,19] [Om 51 17,
 Om 52 0,
 Ot 53 (.new (.mks 1 8 (.int .i64 0)) [.t 52,.t 52]),
 Ot 54 (.callG n_quad_Of [.t 51,.t 53,ci 0]),
 Om 50 54,
 Ot 55 (.ext (.t 50) 0),
 Ot 56 (.ext (.t 50) 1),
 Ot 18 (.alloc 4 (.agg [.nil,.nil,(.bool false),(.sl [])])),
 Oy 4 18 55,
 Om 19 56])
 (.seq (kd [0,4,10,11,15,17,19,20,21] [OL 58 8 13,
 OL 59 4 18,
 Om 60 4,
 Ot 61 (.call zas [.t 60]),
 Ot 62 (.call zew [.t 58,.t 59,.t 61]),
 Om 57 62,
 Ot 63 (.ext (.t 57) 0),
 Ot 64 (.ext (.t 57) 1),
 Ot 20 (.alloc 8 (.agg [(.int .i64 0),.nil,.nil,.nil,(.bool false),(.sl []),(.bool false),(.sl [])])),
 Oy 8 20 63,
 Om 21 64])
 (.seq (kp [4,10,11,15,19,20,21] [Om 65 17,
 Om 66 0,
 Ot 67 (.new (.mks 1 8 (.int .i64 0)) [.t 66,.t 66]),
 Ot 68 (.callG zd7 [.t 65,.t 67,ci 0]),
 Ot 69 (.fldA 2 4 true (.t 15)),
 Oy 4 69 68])
 (.seq (kp [10,11,15,19,20,21] [Om 70 4,
 Ot 71 (.callG zb3 [.t 70]),
 Ot 72 (.fldA 6 2 true (.t 15)),
 Oy 2 72 71])
 (.seq (kd [10,11,12] [OL 73 8 20,
 Ot 74 (.loadN 8 true (.t 15) [10]),
 Om 75 19,
 Ot 76 (.bin .eql (.t 75) (ci 0)),
 Om 77 76,
 Oh 78 77 (.mov (.t 21)),
 Oh 79 77 (.bin .eql (.t 78) (ci 0)),
 Ot 80 (.pick (.t 77) (.t 79) (.c (.bool false))),
 Oy 8 10 73,
 Oy 8 11 74,
 Om 12 80])
 .ret))))))))))
def gimballaw19_read.res : List RX := [(10, some (8, true)), (11, some (8, true)), (12, none)]
theorem gimballaw19_read.of : OfT pg zex gimballaw19_read.k gimballaw19_read.res 5 := OfI Tryz.func32
def gimballaw19_same.k : K :=
 (.seq (kp [0,1] [Ot 4 (.mov (.c (.bool false)))])
 (.seq (.seq (kp [0,1,10] [Om 6 0,
 On 7 6,
 Om 8 1,
 On 9 8,
 Ot 10 (.bin .neq (.t 7) (.t 9))])
 (.cond (.t 10) (.seq (kp [4] [Ot 4 (.mov (.c (.bool false)))])
 .ret)
 .skip))
 (.seq (.seq (kp [0,1,5] [Oc 5 0])
 (.block 0 (.loop (.seq (.seq (kp [0,1,5,14] [Om 11 5,
 Om 12 0,
 On 13 12,
 Ot 14 (.bin .lss (.t 11) (.t 13))])
 (.cond (.t 14) .skip
 (.exit 0)))
 (.seq (.block 1 (.seq (kd [0,1,5,25] [Om 17 0,
 Om 18 5,
 Oi 19 1 17 18,
 Ol 20 1 19,
 Om 21 1,
 Om 22 5,
 Oi 23 1 21 22,
 Ol 24 1 23,
 Ot 25 (.bin .neq (.t 20) (.t 24))])
 (.cond (.t 25) (.seq (kp [4] [Ot 4 (.mov (.c (.bool false)))])
 .ret)
 .skip)))
 (kp [0,1,5] [Om 15 5,
 Ot 16 (.bin .add (.t 15) (ci 1)),
 Om 5 16]))))))
 (.seq (kp [4] [Ot 4 (.mov (.c (.bool true)))])
 .ret))))
def gimballaw19_same.res : List RX := [(4, none)]
theorem gimballaw19_same.of : OfT pg zbi gimballaw19_same.k gimballaw19_same.res 2 := OfI Tryz.func35
def gimballaw19_mirror.k : K :=
 (.seq (kp [0,1] [Ot 4 (.mov (.c .nil))])
 (.seq (kp [0,1,5] [Ot 5 (.mov (.c .nil))])
 (.seq (.seq (kp [0,1,5,6] [Oc 6 0])
 (.block 0 (.loop (.seq (.seq (kp [0,1,5,6,11] [Om 9 6,
 Om 10 1,
 Ot 11 (.bin .lss (.t 9) (.t 10))])
 (.cond (.t 11) .skip
 (.exit 0)))
 (.seq (.block 1 (.gh (kp [0,1,5,6] [Om 14 5,
 Om 15 1,
 Ot 16 (.new (.mks 1 8 (.int .i64 0)) [.t 15,.t 15]),
 Ot 17 (.new (.bsl 1) [.t 16]),
 Ot 18 (.eff (.app 1 24) [.t 14,.t 17]),
 Om 5 18])))
 (kp [0,1,5,6] [Om 12 6,
 Ot 13 (.bin .add (.t 12) (ci 1)),
 Om 6 13]))))))
 (.seq (.seq (kp [0,1,5,7] [Oc 7 0])
 (.block 2 (.loop (.seq (.seq (kp [0,1,5,7,27] [Om 19 7,
 Om 20 1,
 Ot 21 (.bin .lss (.t 19) (.t 20)),
 Om 22 21,
 Oh 23 22 (.mov (.t 7)),
 Oh 24 22 (.mov (.t 0)),
 Oh 25 22 (.len false (.t 24)),
 Oh 26 22 (.bin .lss (.t 23) (.t 25)),
 Ot 27 (.pick (.t 22) (.t 26) (.c (.bool false)))])
 (.cond (.t 27) .skip
 (.exit 2)))
 (.seq (.block 3 (.seq (kp [0,1,5,7,8] [Oc 8 0])
 (.block 4 (.loop (.seq (.seq (kp [0,1,5,7,8,41] [Om 30 8,
 Om 31 7,
 Ot 32 (.bin .leq (.t 30) (.t 31)),
 Om 33 32,
 Oh 34 33 (.mov (.t 8)),
 Oh 35 33 (.mov (.t 0)),
 Oh 36 33 (.mov (.t 7)),
 Oh 37 33 (.idxA 1 (.t 35) (.t 36)),
 Oh 38 33 (.load 1 false (.t 37)),
 Oh 39 33 (.len false (.t 38)),
 Oh 40 33 (.bin .lss (.t 34) (.t 39)),
 Ot 41 (.pick (.t 33) (.t 40) (.c (.bool false)))])
 (.cond (.t 41) .skip
 (.exit 4)))
 (.seq (.block 5 (.seq (kd [0,1,5,7,8] [Om 44 5,
 Om 45 7,
 Oi 46 1 44 45,
 Ol 47 1 46,
 Om 48 8,
 Om 49 0,
 Om 50 7,
 Oi 51 1 49 50,
 Ol 52 1 51,
 Om 53 8,
 Oi 54 1 52 53,
 Ol 55 1 54,
 Oi 56 1 47 48,
 Oy 1 56 55])
 (kd [0,1,5,7,8] [Om 57 5,
 Om 58 8,
 Oi 59 1 57 58,
 Ol 60 1 59,
 Om 61 7,
 Om 62 0,
 Om 63 7,
 Oi 64 1 62 63,
 Ol 65 1 64,
 Om 66 8,
 Oi 67 1 65 66,
 Ol 68 1 67,
 Oi 69 1 60 61,
 Oy 1 69 68])))
 (kp [0,1,5,7,8] [Om 42 8,
 Ot 43 (.bin .add (.t 42) (ci 1)),
 Om 8 43])))))))
 (kp [0,1,5,7] [Om 28 7,
 Ot 29 (.bin .add (.t 28) (ci 1)),
 Om 7 29]))))))
 (.seq (kp [4] [Om 70 5,
 Om 4 70])
 .ret)))))
def gimballaw19_mirror.res : List RX := [(4, none)]
theorem gimballaw19_mirror.of : OfT pg zdy gimballaw19_mirror.k gimballaw19_mirror.res 2 := OfI Tryz.func87
end Go.Gim

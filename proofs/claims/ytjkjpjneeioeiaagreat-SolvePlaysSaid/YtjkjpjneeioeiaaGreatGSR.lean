import Derived.Test.YtjkjpjneeioeiaaGreatGN
/- Functions' code as data (written by wip/tools/gen.py), and the step to their contracts. -/
set_option maxRecDepth 100000
namespace Go.Gim
open Go.Proofs
def solve_Step.k : K :=
 (.seq (kp [1,2,3,6] [Ot 3 (.boxP (.t 0)),
 Ot 6 (.mov (.c .nil)),
 Oc 7 0])
 (.seq (.block 0 (.seq (kp [1,2,3,6,16] [Om 17 1,
 On 18 17,
 Oq 19 0 1 3,
 Ol 20 1 19,
 Ot 21 (.bin .neq (.t 18) (.t 20)),
 Om 22 21,
 Og 23 22 (.mov (.t 1)),
 Og 24 22 (.callG zhm [.t 23]),
 Og 25 22 (.un .not (.t 24)),
 Ot 26 (.pick (.t 22) (.c (.bool true)) (.t 25)),
 Om 16 26])
 (.cond (.t 16) (.seq (kp [6,7] [Ot 6 (.mov (.c .nil)),
 Oc 7 170])
 .ret)
 (.seq (kp [1,2,3,6,27] [Om 28 2,
 Ot 29 (.bin .lss (.t 28) (ci 0)),
 Om 30 29,
 Og 31 30 (.mov (.t 2)),
 Og 32 30 (.bin .gtr (.t 31) (ci 12)),
 Ot 33 (.pick (.t 30) (.c (.bool true)) (.t 32)),
 Om 27 33])
 (.cond (.t 27) (.seq (kp [6,7] [Ot 6 (.mov (.c .nil)),
 Oc 7 1])
 .ret)
 .skip)))))
 (.seq (kd [1,3,6,8] [OL 34 8 3,
 Om 35 1,
 Ot 36 (.call zfw [.t 34,.t 35]),
 OL 37 8 3,
 Om 38 2,
 Ot 39 (.call zie [.t 37,.t 38]),
 Ot 40 (.call ziy [.t 36,.t 39]),
 Om 8 40])
 (.seq (.seq (kp [1,3,6,8,43] [Om 41 8,
 Ot 42 (.callG zgj [.t 41]),
 Ot 43 (.un .not (.t 42))])
 (.cond (.t 43) (.seq (kp [6,7] [Ot 6 (.mov (.c .nil)),
 Oc 7 80])
 .ret)
 .skip))
 (.seq (kp [6,8,9] [OL 44 8 3,
 Om 45 1,
 Ot 46 (.callG zfc [.t 44,.t 45]),
 Om 9 46])
 (.seq (.seq (kp [6,8,9,48,49] [Om 47 9,
 On 48 47,
 Oc 49 0])
 (.block 1 (.loop (.seq (kp [6,8,9,48,49,50] [Ot 50 (.bin .lss (.t 49) (.t 48))])
 (.seq (.cond (.t 50) .skip
 (.exit 1))
 (.seq (.block 2 (.seq (kp [6,8,9,10,48,49] [Om 51 49,
 Om 10 51])
 (kd [6,8,9,48,49] [Om 52 9,
 Om 53 10,
 Om 54 9,
 Om 55 10,
 Oi 56 2 54 55,
 OL 57 2 56,
 Ot 58 (.call zbd [(.c (.int .i64 (-1024)))]),
 Ot 59 (.call za5 [.t 57,.t 58]),
 Oi 60 2 52 53,
 Oy 2 60 59])))
 (kp [6,8,9,48,49] [Ot 61 (.bin .add (.t 49) (ci 1)),
 Om 49 61])))))))
 (.seq (kp [6,11,12] [Om 63 8,
 Om 64 9,
 Ot 65 (.callG zgi [.t 63,.t 64]),
 Om 62 65,
 Ot 66 (.ext (.t 62) 0),
 Ot 67 (.ext (.t 62) 1),
 Ot 68 (.ext (.t 62) 2),
 Ot 12 (.alloc 2 (.agg [(.bool false),(.sl [])])),
 Om 11 66,
 Oy 2 12 67,
 Om 13 68])
 (.seq (.seq (kp [6,12,69,70,71] [Om 69 11,
 On 70 69,
 Oc 71 0])
 (.block 3 (.loop (.seq (kp [6,12,69,70,71,72] [Ot 72 (.bin .lss (.t 71) (.t 70))])
 (.seq (.cond (.t 72) .skip
 (.exit 3))
 (.seq (.block 4 (.seq (kp [6,12,15,69,70,71] [Oi 73 2 69 71,
 OL 74 2 73,
 Ot 15 (.alloc 2 (.agg [(.bool false),(.sl [])])),
 Oy 2 15 74])
 (kp [6,12,69,70,71] [Om 75 6,
 OL 76 2 15,
 OL 77 2 12,
 Ot 78 (.callG zid [.t 76,.t 77]),
 Ot 79 (.new (.bsl 1) [.t 78]),
 Ot 80 (.eff (.app 1 8) [.t 75,.t 79]),
 Om 6 80])))
 (kp [6,12,69,70,71] [Ot 81 (.bin .add (.t 71) (ci 1)),
 Om 71 81])))))))
 (.seq (kp [6,7] [Om 82 6,
 Om 6 82,
 Oc 7 0])
 .ret)))))))))
def solve_Step.res : List RX := [(6, none), (7, none)]
theorem solve_Step.of : OfT pg zhk solve_Step.k solve_Step.res 3 := OfI Tryz.func33
def solve_Solve.k : K :=
 (.seq (kp [2,3,4,6] [Ot 3 (.boxP (.t 0)),
 Ot 4 (.boxP (.t 1)),
 Ot 6 (.alloc 4 (.agg [.nil,(.int .i64 0),(.int .i64 0),(.int .i64 0)])),
 Oc 7 0])
 (.scope (.seq (.seq (kp [2,3,4,6,9] [OL 16 17 4,
 Ot 17 (.callG zet [.t 16]),
 Om 15 17,
 Ot 18 (.ext (.t 15) 0),
 Ot 19 (.ext (.t 15) 1),
 Om 8 18,
 Om 9 19])
 (.seq (kp [2,3,4,6,9,21] [Om 20 9,
 Ot 21 (.bin .neq (.t 20) (ci 0))])
 (.cond (.t 21) (.seq (kp [6,7] [Ot 22 (.build [.nil,(.int .i64 0),(.int .i64 0),(.int .i64 0)] []),
 Om 23 9,
 Oy 4 6 22,
 Om 7 23])
 .ret)
 .skip)))
 (.seq (.seq (kp [2,3,4,6,33] [Om 24 2,
 On 25 24,
 Oq 26 0 1 3,
 Ol 27 1 26,
 Ot 28 (.bin .neq (.t 25) (.t 27)),
 Om 29 28,
 Og 30 29 (.mov (.t 2)),
 Og 31 29 (.callG zhm [.t 30]),
 Og 32 29 (.un .not (.t 31)),
 Ot 33 (.pick (.t 29) (.c (.bool true)) (.t 32))])
 (.cond (.t 33) (.seq (kp [6,7] [Ot 34 (.build [.nil,(.int .i64 0),(.int .i64 0),(.int .i64 0)] []),
 Oy 4 6 34,
 Oc 7 170])
 .ret)
 .skip))
 (.seq (kp [3,4,6,10] [Om 35 2,
 Ot 36 (.callG za3 [.t 35]),
 Ot 37 (.build [.nil,(.int .i64 0),(.int .i64 0),(.int .i64 0)] [(0,1,(.t 36))]),
 Ot 10 (.alloc 4 (.agg [.nil,(.int .i64 0),(.int .i64 0),(.int .i64 0)])),
 Oy 4 10 37])
 (.seq .skip
 (.block 0 (.loop (.keep [3,4,6,10] (.block 1 (.seq (.block 2 (.seq (kp [3,4,6,10,38] [OL 39 8 3,
 Oq 40 0 1 10,
 Ol 41 1 40,
 Oq 42 16 1 4,
 Ol 43 1 42,
 Ot 44 (.callG n_cost_Flat [.t 39,.t 41,.t 43]),
 Om 38 44])
 (.cond (.t 38) (.seq (kp [6,10] [Oq 45 1 1 10,
 ⟨none, none,.store 1 (.t 45) (ci 1)⟩])
 (.seq (kp [6,7] [OL 46 4 10,
 Oy 4 6 46,
 Oc 7 0])
 .ret))
 (.seq (kp [3,4,6,10,47] [Oq 48 2 1 10,
 Ol 49 1 48,
 Oq 50 14 1 4,
 Ol 51 1 50,
 Ot 52 (.bin .eql (.t 49) (.t 51)),
 Om 47 52])
 (.cond (.t 47) (.seq (kp [6,10] [Oq 53 1 1 10,
 ⟨none, none,.store 1 (.t 53) (ci 2)⟩])
 (.seq (kp [6,7] [OL 54 4 10,
 Oy 4 6 54,
 Oc 7 0])
 .ret))
 .skip)))))
 (.seq (kp [3,4,6,10] [Oq 55 1 1 10,
 ⟨none, none,.store 1 (.t 55) (ci 5)⟩])
 (.seq (.seq (kp [3,4,6,10,11] [Oc 11 0])
 (.block 3 (.loop (.seq (.seq (kp [3,4,6,10,11,59] [Om 56 11,
 Oq 57 15 1 4,
 Ol 58 1 57,
 Ot 59 (.bin .leq (.t 56) (.t 58))])
 (.cond (.t 59) .skip
 (.exit 3)))
 (.seq (.block 4 (.seq (kp [3,4,6,10,11,12,13] [OL 63 8 3,
 Oq 64 0 1 10,
 Ol 65 1 64,
 Om 66 11,
 Ot 67 (.callG zhk [.t 63,.t 65,.t 66]),
 Om 62 67,
 Ot 68 (.ext (.t 62) 0),
 Ot 69 (.ext (.t 62) 1),
 Om 12 68,
 Om 13 69])
 (.seq (.seq (kp [3,4,6,10,11,12,71] [Om 70 13,
 Ot 71 (.bin .neq (.t 70) (ci 0))])
 (.cond (.t 71) (.exit 4)
 .skip))
 (.seq (kp [3,4,6,10,11,12] [Oq 72 3 1 10,
 Ol 73 1 72,
 Ot 74 (.bin .add (.t 73) (ci 1)),
 Oq 75 3 1 10,
 Oy 1 75 74])
 (.seq (.seq (kp [3,4,6,10,11,12,78] [Oq 76 1 1 10,
 Ol 77 1 76,
 Ot 78 (.bin .eql (.t 77) (ci 5))])
 (.cond (.t 78) (kp [3,4,6,10,11,12] [Oq 79 1 1 10,
 ⟨none, none,.store 1 (.t 79) (ci 3)⟩])
 .skip))
 (.seq (.seq (kp [3,4,6,10,11,12,82] [Om 80 12,
 Ot 81 (.callG zcg [.t 80,(.c (.fn ze8 []))]),
 Ot 82 (.un .not (.t 81))])
 (.cond (.t 82) (.exit 3)
 .skip))
 (.seq (kp [3,4,6,10,11,14] [Oq 83 0 1 10,
 Ol 84 1 83,
 Om 85 12,
 Ot 86 (.callG n_solve_moved [.t 84,.t 85]),
 Om 14 86])
 (.block 5 (.seq (kp [3,4,6,10,11,14,87] [Om 88 14,
 Ot 89 (.callG zhm [.t 88]),
 Ot 90 (.un .not (.t 89)),
 Om 87 90])
 (.cond (.t 87) (kp [3,4,6,10,11] [Oq 91 1 1 10,
 ⟨none, none,.store 1 (.t 91) (ci 4)⟩])
 (.seq (kp [3,4,6,10,11,14,92] [OL 93 8 3,
 Om 94 14,
 Oq 95 0 1 10,
 Ol 96 1 95,
 Ot 97 (.callG n_cost_Less [.t 93,.t 94,.t 96]),
 Om 92 97])
 (.cond (.t 92) (.seq (kp [3,4,6,10] [Om 98 14,
 Oq 99 0 1 10,
 Oy 1 99 98])
 (.seq (kp [3,4,6,10] [Oq 100 2 1 10,
 Ol 101 1 100,
 Ot 102 (.bin .add (.t 101) (ci 1)),
 Oq 103 2 1 10,
 Oy 1 103 102])
 (.exit 1)))
 .skip))))))))))))
 (kp [3,4,6,10,11] [Om 60 11,
 Ot 61 (.bin .add (.t 60) (ci 1)),
 Om 11 61]))))))
 (.seq (kp [6,7] [OL 104 4 10,
 Oy 4 6 104,
 Oc 7 0])
 .ret))))))))))))))
def solve_Solve.res : List RX := [(6, some (4, true)), (7, none)]
theorem solve_Solve.of : OfT pg zc6 solve_Solve.k solve_Solve.res 3 := OfI Tryz.func37
def solve_damped.k : K :=
 (.seq (kp [0,3] [Ot 3 (.boxP (.t 1)),
 Ot 4 (.mov (.c .nil))])
 (.seq (kp [0,3,5] [Ot 5 (.mov (.c .nil))])
 (.seq (.seq (kp [3,5,8,9,10] [Om 8 0,
 On 9 8,
 Oc 10 0])
 (.block 0 (.loop (.seq (kp [3,5,8,9,10,11] [Ot 11 (.bin .lss (.t 10) (.t 9))])
 (.seq (.cond (.t 11) .skip
 (.exit 0))
 (.seq (.block 1 (.seq (kp [3,5,6,7,8,9,10] [Om 12 10,
 Oi 13 1 8 10,
 Ol 14 1 13,
 Om 6 12,
 Om 7 14])
 (.seq (kp [3,5,6,7,8,9,10] [Om 15 7,
 Ot 16 (.callG zbm [.t 15]),
 Om 7 16])
 (.seq (kd [3,5,7,8,9,10] [Om 17 7,
 Om 18 6,
 Om 19 7,
 Om 20 6,
 Oi 21 2 19 20,
 OL 22 2 21,
 OL 23 2 3,
 Ot 24 (.call zbb [.t 22,.t 23]),
 Oi 25 2 17 18,
 Oy 2 25 24])
 (.gh (kp [3,5,8,9,10] [Om 26 5,
 Om 27 7,
 Ot 28 (.new (.bsl 1) [.t 27]),
 Ot 29 (.eff (.app 1 24) [.t 26,.t 28]),
 Om 5 29]))))))
 (kp [3,5,8,9,10] [Ot 30 (.bin .add (.t 10) (ci 1)),
 Om 10 30])))))))
 (.seq (kp [4] [Om 31 5,
 Om 4 31])
 .ret))))
def solve_damped.res : List RX := [(4, none)]
theorem solve_damped.of : OfT pg ziy solve_damped.k solve_damped.res 2 := OfI Tryz.func88
def solve_damping.k : K :=
 (.seq (kp [1,2,4] [Ot 2 (.boxP (.t 0)),
 Ot 4 (.alloc 2 (.agg [(.bool false),(.sl [])]))])
 (.seq (.seq (kp [1,2,4,6] [Om 5 1,
 Ot 6 (.bin .eql (.t 5) (ci 0))])
 (.cond (.t 6) (.seq (kp [4] [Ot 7 (.build [(.bool false),(.sl [])] []),
 Oy 2 4 7])
 .ret)
 .skip))
 (.seq (kd [4] [Ot 8 (.fldA 6 2 true (.t 2)),
 OL 9 2 8,
 Om 10 1,
 Ot 11 (.bin .sub (.t 10) (ci 1)),
 Ot 12 (.bin .mul (ci 2) (.t 11)),
 Ot 13 (.bin .shl (ci 1) (.t 12)),
 Ot 14 (.call zbd [.t 13]),
 Ot 15 (.call za5 [.t 9,.t 14]),
 Oy 2 4 15])
 .ret)))
def solve_damping.res : List RX := [(4, some (2, true))]
theorem solve_damping.of : OfT pg zie solve_damping.k solve_damping.res 2 := OfI Tryz.func89
def solve_nearest.k : K :=
 (.seq (kp [2,3] [Ot 2 (.boxP (.t 0)),
 Ot 3 (.boxP (.t 1)),
 Oc 4 0])
 (.seq (kd [5] [OL 11 2 2,
 Ot 12 (.call zbd [ci 2]),
 Ot 13 (.call za5 [.t 11,.t 12]),
 OL 14 2 3,
 Ot 15 (.call zbb [.t 13,.t 14]),
 OL 16 2 3,
 Ot 17 (.call zbd [ci 2]),
 Ot 18 (.call za5 [.t 16,.t 17]),
 Ot 19 (.call zhc [.t 15,.t 18]),
 Om 10 19,
 Ot 20 (.ext (.t 10) 0),
 Ot 21 (.ext (.t 10) 1),
 Ot 22 (.ext (.t 10) 2),
 Ot 5 (.alloc 2 (.agg [(.bool false),(.sl [])])),
 Ot 6 (.alloc 2 (.agg [(.bool false),(.sl [])])),
 Oy 2 5 20,
 Oy 2 6 21,
 Om 7 22])
 (.seq (kp [5,8,9] [OL 24 2 5,
 Ot 25 (.callG zfq [.t 24]),
 Om 23 25,
 Ot 26 (.ext (.t 23) 0),
 Ot 27 (.ext (.t 23) 1),
 Om 8 26,
 Om 9 27])
 (.seq (.seq (kp [5,8,29] [Om 28 9,
 Ot 29 (.un .not (.t 28))])
 (.cond (.t 29) (kp [8] [OL 30 2 5,
 Ot 31 (.callG zcy [.t 30]),
 Ot 32 (.bin .mul (ci 10000000) (.t 31)),
 Om 8 32])
 .skip))
 (.seq (kp [4] [Om 33 8,
 Ot 34 (.mm false (.t 33) [ci 10000000]),
 Ot 35 (.mm true (.c (.int .i64 (-10000000))) [.t 34]),
 Om 4 35])
 .ret)))))
def solve_nearest.res : List RX := [(4, none)]
theorem solve_nearest.of : OfT pg zid solve_nearest.k solve_nearest.res 2 := OfI Tryz.func92
def solve_Solve_1.k : K :=
 (.seq (kp [0] [Ot 2 (.mov (.c (.bool false)))])
 (.seq (kp [2] [Om 3 0,
 Ot 4 (.bin .neq (.t 3) (ci 0)),
 Om 2 4])
 .ret))
def solve_Solve_1.res : List RX := [(2, none)]
theorem solve_Solve_1.of : OfT pg ze8 solve_Solve_1.k solve_Solve_1.res 1 := OfI Tryz.func101
def solve_moved.k : K :=
 (.seq (kp [0,1] [Ot 4 (.mov (.c .nil))])
 (.seq (kp [1,5] [Om 7 0,
 Ot 8 (.callG za3 [.t 7]),
 Om 5 8])
 (.seq (.seq (kp [1,5,10,11] [Om 9 1,
 On 10 9,
 Oc 11 0])
 (.block 0 (.loop (.seq (kp [1,5,10,11,12] [Ot 12 (.bin .lss (.t 11) (.t 10))])
 (.seq (.cond (.t 12) .skip
 (.exit 0))
 (.seq (.block 1 (.seq (kp [1,5,6,10,11] [Om 13 11,
 Om 6 13])
 (kd [1,5,10,11] [Om 14 5,
 Om 15 6,
 Oi 16 1 14 15,
 Ol 17 1 16,
 Om 18 1,
 Om 19 6,
 Oi 20 1 18 19,
 Ol 21 1 20,
 Ot 22 (.bin .add (.t 17) (.t 21)),
 Oi 23 1 14 15,
 Oy 1 23 22])))
 (kp [1,5,10,11] [Ot 24 (.bin .add (.t 11) (ci 1)),
 Om 11 24])))))))
 (.seq (kp [4] [Om 25 5,
 Om 4 25])
 .ret))))
def solve_moved.res : List RX := [(4, none)]
theorem solve_moved.of : OfT pg n_solve_moved solve_moved.k solve_moved.res 2 := OfI Tryz.func102
end Go.Gim
/- Functions' code as data (written by wip/tools/gen.py), and the step to their contracts. -/
set_option maxRecDepth 100000
namespace Go.Gim
open Go.Proofs
def gimballaw19_SolvePlays.k : K :=
 (.seq (kp [0,1,2,3,5,10] [Ot 10 (.boxP (.t 4)),
 Ot 12 (.mov (.c (.bool false)))])
 (.seq (kp [0,1,2,3,5,10,13] [Ot 22 (.callG zf4 []),
 Om 13 22])
 (.seq (kp [1,5,10,13,14,15,16] [Om 24 0,
 Om 25 1,
 Om 26 2,
 Om 27 3,
 Ot 28 (.callG zgq [.t 24,ci 5,.t 25,.t 26,.t 27]),
 Om 23 28,
 Ot 29 (.ext (.t 23) 0),
 Ot 30 (.ext (.t 23) 1),
 Ot 31 (.ext (.t 23) 2),
 Ot 14 (.alloc 8 (.agg [(.int .i64 0),.nil,.nil,.nil,(.bool false),(.sl []),(.bool false),(.sl [])])),
 Ot 15 (.alloc 8 (.agg [(.int .i64 0),.nil,.nil,.nil,(.bool false),(.sl []),(.bool false),(.sl [])])),
 Oy 8 14 29,
 Oy 8 15 30,
 Om 16 31])
 (.seq (.seq (kp [5,10,13,14,15,38] [Om 32 16,
 Ot 33 (.un .not (.t 32)),
 Om 34 33,
 Og 35 34 (.mov (.t 1)),
 Og 36 34 (.len false (.t 35)),
 Og 37 34 (.bin .gtr (.t 36) (ci 12)),
 Ot 38 (.pick (.t 34) (.c (.bool true)) (.t 37))])
 (.cond (.t 38) (.seq (kp [12] [Om 39 13,
 Om 12 39])
 .ret)
 .skip))
 (.seq (kp [5,13,14,15,17] [OL 40 17 10,
 Ot 41 (.callG zg4 [.t 40]),
 Ot 17 (.alloc 17 (.agg [(.int .i64 0),(.int .i64 0),(.int .i64 0),(.int .i64 0),(.int .i64 0),(.int .i64 0),(.int .i64 0),(.int .i64 0),(.int .i64 0),(.int .i64 0),(.int .i64 0),(.int .i64 0),(.int .i64 0),(.int .i64 0),(.int .i64 0),(.int .i64 0),(.int .i64 0)])),
 Oy 17 17 41])
 (.seq (kp [5,13,15,17,18,19] [OL 43 8 14,
 OL 44 17 17,
 Om 45 5,
 Ot 46 (.callG zc6 [.t 43,.t 44,.t 45]),
 Om 42 46,
 Ot 47 (.ext (.t 42) 0),
 Ot 48 (.ext (.t 42) 1),
 Ot 18 (.alloc 4 (.agg [.nil,(.int .i64 0),(.int .i64 0),(.int .i64 0)])),
 Oy 4 18 47,
 Om 19 48])
 (.seq (kp [13,18,19,20,21] [OL 50 8 15,
 OL 51 17 17,
 Om 52 5,
 Ot 53 (.callG zcp [.t 50,.t 51,.t 52]),
 Om 49 53,
 Ot 54 (.ext (.t 49) 0),
 Ot 55 (.ext (.t 49) 1),
 Ot 20 (.alloc 4 (.agg [.nil,(.int .i64 0),(.int .i64 0),(.int .i64 0)])),
 Oy 4 20 54,
 Om 21 55])
 (.seq (kp [12] [Om 56 13,
 Om 57 56,
 Oh 58 57 (.mov (.t 19)),
 Oh 59 57 (.mov (.t 21)),
 Oh 60 57 (.bin .eql (.t 58) (.t 59)),
 Ot 61 (.pick (.t 57) (.t 60) (.c (.bool false))),
 Om 62 61,
 Oh 63 62 (.fldA 0 1 false (.t 18)),
 Oh 64 62 (.load 1 false (.t 63)),
 Oh 65 62 (.fldA 0 1 false (.t 20)),
 Oh 66 62 (.load 1 false (.t 65)),
 Oh 67 62 (.callG zb1 [.t 64,.t 66]),
 Ot 68 (.pick (.t 62) (.t 67) (.c (.bool false))),
 Om 69 68,
 Oh 70 69 (.fldA 1 1 false (.t 18)),
 Oh 71 69 (.load 1 false (.t 70)),
 Oh 72 69 (.fldA 1 1 false (.t 20)),
 Oh 73 69 (.load 1 false (.t 72)),
 Oh 74 69 (.bin .eql (.t 71) (.t 73)),
 Ot 75 (.pick (.t 69) (.t 74) (.c (.bool false))),
 Om 76 75,
 Oh 77 76 (.fldA 2 1 false (.t 18)),
 Oh 78 76 (.load 1 false (.t 77)),
 Oh 79 76 (.fldA 2 1 false (.t 20)),
 Oh 80 76 (.load 1 false (.t 79)),
 Oh 81 76 (.bin .eql (.t 78) (.t 80)),
 Ot 82 (.pick (.t 76) (.t 81) (.c (.bool false))),
 Om 83 82,
 Oh 84 83 (.fldA 3 1 false (.t 18)),
 Oh 85 83 (.load 1 false (.t 84)),
 Oh 86 83 (.fldA 3 1 false (.t 20)),
 Oh 87 83 (.load 1 false (.t 86)),
 Oh 88 83 (.bin .eql (.t 85) (.t 87)),
 Ot 89 (.pick (.t 83) (.t 88) (.c (.bool false))),
 Om 12 89])
 .ret))))))))
def gimballaw19_SolvePlays.res : List RX := [(12, none)]
theorem gimballaw19_SolvePlays.of : OfT pg zf8 gimballaw19_SolvePlays.k gimballaw19_SolvePlays.res 6 := OfI Tryz.func6
def gimballaw19_awake.k : K :=
 (.seq (kp [] [Ot 0 (.mov (.c (.bool false)))])
 (.seq (kp [1,2] [Ot 22 (.new (.bsl 1) [ci 1]),
 Ot 23 (.build [(.sl []),(.int .i64 0),(.int .i64 0),(.int .i64 0)] [(0,1,(.t 22)),(1,1,(ci 100)),(2,1,(ci 32768)),(3,1,(ci 1))]),
 Ot 24 (.new (.bsl 4) [.t 23]),
 Ot 25 (.callG zeh [ci 1,.t 24]),
 Om 21 25,
 Ot 26 (.ext (.t 21) 0),
 Ot 27 (.ext (.t 21) 1),
 Ot 1 (.alloc 8 (.agg [(.int .i64 0),.nil,.nil,.nil,(.bool false),(.sl []),(.bool false),(.sl [])])),
 Oy 8 1 26,
 Om 2 27])
 (.seq (kp [1,2,3,4] [Ot 29 (.new (.bsl 1) [ci 2]),
 Ot 30 (.build [(.sl []),(.int .i64 0),(.int .i64 0),(.int .i64 0)] [(0,1,(.t 29)),(1,1,(ci 5)),(2,1,(ci 32768)),(3,1,(ci 1))]),
 Ot 31 (.new (.bsl 4) [.t 30]),
 Ot 32 (.callG zeh [ci 1,.t 31]),
 Om 28 32,
 Ot 33 (.ext (.t 28) 0),
 Ot 34 (.ext (.t 28) 1),
 Ot 3 (.alloc 8 (.agg [(.int .i64 0),.nil,.nil,.nil,(.bool false),(.sl []),(.bool false),(.sl [])])),
 Oy 8 3 33,
 Om 4 34])
 (.seq (kp [1,2,3,4,5,6] [Ot 36 (.callG zeh [ci 1,(.c .nil)]),
 Om 35 36,
 Ot 37 (.ext (.t 35) 0),
 Ot 38 (.ext (.t 35) 1),
 Ot 5 (.alloc 8 (.agg [(.int .i64 0),.nil,.nil,.nil,(.bool false),(.sl []),(.bool false),(.sl [])])),
 Oy 8 5 37,
 Om 6 38])
 (.seq (.seq (kp [1,3,5,48] [Om 39 2,
 Ot 40 (.bin .neq (.t 39) (ci 0)),
 Om 41 40,
 Og 42 41 (.mov (.t 4)),
 Og 43 41 (.bin .neq (.t 42) (ci 0)),
 Ot 44 (.pick (.t 41) (.c (.bool true)) (.t 43)),
 Om 45 44,
 Og 46 45 (.mov (.t 6)),
 Og 47 45 (.bin .neq (.t 46) (ci 0)),
 Ot 48 (.pick (.t 45) (.c (.bool true)) (.t 47))])
 (.cond (.t 48) (.seq (kp [0] [Ot 0 (.mov (.c (.bool false)))])
 .ret)
 .skip))
 (.seq (kp [1,3,5,7] [Ot 49 (.callG zht []),
 Ot 7 (.alloc 17 (.agg [(.int .i64 0),(.int .i64 0),(.int .i64 0),(.int .i64 0),(.int .i64 0),(.int .i64 0),(.int .i64 0),(.int .i64 0),(.int .i64 0),(.int .i64 0),(.int .i64 0),(.int .i64 0),(.int .i64 0),(.int .i64 0),(.int .i64 0),(.int .i64 0),(.int .i64 0)])),
 Oy 17 7 49])
 (.seq (kp [1,3,5,7,8,9] [OL 51 8 1,
 Ot 52 (.new (.bsl 1) [ci 0]),
 Ot 53 (.callG zhk [.t 51,.t 52,ci 0]),
 Om 50 53,
 Ot 54 (.ext (.t 50) 0),
 Ot 55 (.ext (.t 50) 1),
 Om 8 54,
 Om 9 55])
 (.seq (kp [1,3,5,7,8,9,10,11] [OL 57 8 1,
 Ot 58 (.new (.bsl 1) [ci 0]),
 Ot 59 (.callG zhk [.t 57,.t 58,ci 1]),
 Om 56 59,
 Ot 60 (.ext (.t 56) 0),
 Ot 61 (.ext (.t 56) 1),
 Om 10 60,
 Om 11 61])
 (.seq (kp [1,3,5,7,8,9,10,11] [Oq 62 16 1 7,
 ⟨none, none,.store 1 (.t 62) (ci 0)⟩])
 (.seq (kp [3,5,7,8,9,10,11,12,13] [OL 64 8 1,
 OL 65 17 7,
 Ot 66 (.new (.bsl 1) [ci 0]),
 Ot 67 (.callG zc6 [.t 64,.t 65,.t 66]),
 Om 63 67,
 Ot 68 (.ext (.t 63) 0),
 Ot 69 (.ext (.t 63) 1),
 Ot 12 (.alloc 4 (.agg [.nil,(.int .i64 0),(.int .i64 0),(.int .i64 0)])),
 Oy 4 12 68,
 Om 13 69])
 (.seq (kp [3,5,7,8,9,10,11,12,13] [Oq 70 15 1 7,
 ⟨none, none,.store 1 (.t 70) (ci 1)⟩])
 (.seq (kp [5,7,8,9,10,11,12,13,14,15] [OL 72 8 3,
 OL 73 17 7,
 Ot 74 (.new (.bsl 1) [ci 0]),
 Ot 75 (.callG zc6 [.t 72,.t 73,.t 74]),
 Om 71 75,
 Ot 76 (.ext (.t 71) 0),
 Ot 77 (.ext (.t 71) 1),
 Ot 14 (.alloc 4 (.agg [.nil,(.int .i64 0),(.int .i64 0),(.int .i64 0)])),
 Oy 4 14 76,
 Om 15 77])
 (.seq (kp [8,9,10,11,12,13,14,15,16,17] [OL 79 8 5,
 OL 80 17 7,
 Ot 81 (.new (.bsl 1) [ci 7]),
 Ot 82 (.callG zc6 [.t 79,.t 80,.t 81]),
 Om 78 82,
 Ot 83 (.ext (.t 78) 0),
 Ot 84 (.ext (.t 78) 1),
 Ot 16 (.alloc 4 (.agg [.nil,(.int .i64 0),(.int .i64 0),(.int .i64 0)])),
 Oy 4 16 83,
 Om 17 84])
 (.seq (kp [12,13,14,15,16,17,18] [Om 85 8,
 Ot 86 (.new (.bsl 1) [ci 100]),
 Ot 87 (.callG zb1 [.t 85,.t 86]),
 Om 88 87,
 Oh 89 88 (.mov (.t 9)),
 Oh 90 88 (.bin .eql (.t 89) (ci 0)),
 Ot 91 (.pick (.t 88) (.t 90) (.c (.bool false))),
 Om 92 91,
 Oh 93 92 (.mov (.t 10)),
 Oh 94 92 (.new (.bsl 1) [ci 100]),
 Oh 95 92 (.callG zb1 [.t 93,.t 94]),
 Ot 96 (.pick (.t 92) (.t 95) (.c (.bool false))),
 Om 97 96,
 Oh 98 97 (.mov (.t 11)),
 Oh 99 97 (.bin .eql (.t 98) (ci 0)),
 Ot 100 (.pick (.t 97) (.t 99) (.c (.bool false))),
 Om 18 100])
 (.seq (kp [14,15,16,17,18,19] [Oq 101 0 1 12,
 Ol 102 1 101,
 Ot 103 (.new (.bsl 1) [ci 100]),
 Ot 104 (.callG zb1 [.t 102,.t 103]),
 Om 105 104,
 Oh 106 105 (.fldA 1 1 false (.t 12)),
 Oh 107 105 (.load 1 false (.t 106)),
 Oh 108 105 (.bin .eql (.t 107) (ci 1)),
 Ot 109 (.pick (.t 105) (.t 108) (.c (.bool false))),
 Om 110 109,
 Oh 111 110 (.fldA 2 1 false (.t 12)),
 Oh 112 110 (.load 1 false (.t 111)),
 Oh 113 110 (.bin .eql (.t 112) (ci 1)),
 Ot 114 (.pick (.t 110) (.t 113) (.c (.bool false))),
 Om 115 114,
 Oh 116 115 (.fldA 3 1 false (.t 12)),
 Oh 117 115 (.load 1 false (.t 116)),
 Oh 118 115 (.bin .eql (.t 117) (ci 1)),
 Ot 119 (.pick (.t 115) (.t 118) (.c (.bool false))),
 Om 120 119,
 Oh 121 120 (.mov (.t 13)),
 Oh 122 120 (.bin .eql (.t 121) (ci 0)),
 Ot 123 (.pick (.t 120) (.t 122) (.c (.bool false))),
 Om 19 123])
 (.seq (kp [16,17,18,19,20] [Oq 124 0 1 14,
 Ol 125 1 124,
 Ot 126 (.new (.bsl 1) [ci 3]),
 Ot 127 (.callG zb1 [.t 125,.t 126]),
 Om 128 127,
 Oh 129 128 (.fldA 1 1 false (.t 14)),
 Oh 130 128 (.load 1 false (.t 129)),
 Oh 131 128 (.bin .eql (.t 130) (ci 3)),
 Ot 132 (.pick (.t 128) (.t 131) (.c (.bool false))),
 Om 133 132,
 Oh 134 133 (.fldA 2 1 false (.t 14)),
 Oh 135 133 (.load 1 false (.t 134)),
 Oh 136 133 (.bin .eql (.t 135) (ci 1)),
 Ot 137 (.pick (.t 133) (.t 136) (.c (.bool false))),
 Om 138 137,
 Oh 139 138 (.fldA 3 1 false (.t 14)),
 Oh 140 138 (.load 1 false (.t 139)),
 Oh 141 138 (.bin .eql (.t 140) (ci 2)),
 Ot 142 (.pick (.t 138) (.t 141) (.c (.bool false))),
 Om 143 142,
 Oh 144 143 (.mov (.t 15)),
 Oh 145 143 (.bin .eql (.t 144) (ci 0)),
 Ot 146 (.pick (.t 143) (.t 145) (.c (.bool false))),
 Om 20 146])
 (.seq (kp [0] [Om 147 18,
 Om 148 147,
 Oh 149 148 (.mov (.t 19)),
 Ot 150 (.pick (.t 148) (.t 149) (.c (.bool false))),
 Om 151 150,
 Oh 152 151 (.mov (.t 20)),
 Ot 153 (.pick (.t 151) (.t 152) (.c (.bool false))),
 Om 154 153,
 Oh 155 154 (.fldA 0 1 false (.t 16)),
 Oh 156 154 (.load 1 false (.t 155)),
 Oh 157 154 (.new (.bsl 1) [ci 7]),
 Oh 158 154 (.callG zb1 [.t 156,.t 157]),
 Ot 159 (.pick (.t 154) (.t 158) (.c (.bool false))),
 Om 160 159,
 Oh 161 160 (.fldA 1 1 false (.t 16)),
 Oh 162 160 (.load 1 false (.t 161)),
 Oh 163 160 (.bin .eql (.t 162) (ci 1)),
 Ot 164 (.pick (.t 160) (.t 163) (.c (.bool false))),
 Om 165 164,
 Oh 166 165 (.mov (.t 17)),
 Oh 167 165 (.bin .eql (.t 166) (ci 0)),
 Ot 168 (.pick (.t 165) (.t 167) (.c (.bool false))),
 Om 0 168])
 .ret)))))))))))))))))
def gimballaw19_awake.res : List RX := [(0, none)]
theorem gimballaw19_awake.of : OfT pg zf4 gimballaw19_awake.k gimballaw19_awake.res 0 := OfI Tryz.func31
def gimballaw19_read.k : K :=
 (.seq (kp [0,1,2,3,4,10,11] [Ot 10 (.alloc 8 (.agg [(.int .i64 0),.nil,.nil,.nil,(.bool false),(.sl []),(.bool false),(.sl [])])),
 Ot 11 (.alloc 8 (.agg [(.int .i64 0),.nil,.nil,.nil,(.bool false),(.sl []),(.bool false),(.sl [])])),
 Ot 12 (.mov (.c (.bool false)))])
 (.seq (kp [0,1,2,3,4,10,11,13,14] [Om 23 0,
 Om 24 2,
 Ot 25 (.callG zeh [.t 23,.t 24]),
 Om 22 25,
 Ot 26 (.ext (.t 22) 0),
 Ot 27 (.ext (.t 22) 1),
 Ot 13 (.alloc 8 (.agg [(.int .i64 0),.nil,.nil,.nil,(.bool false),(.sl []),(.bool false),(.sl [])])),
 Oy 8 13 26,
 Om 14 27])
 (.seq (kp [0,1,3,4,10,11,13,14,15] [Om 29 0,
 Om 30 2,
 Ot 31 (.callG zg2 [.t 29,.t 30]),
 Om 28 31,
 Ot 32 (.ext (.t 28) 0),
 Ot 33 (.ext (.t 28) 1),
 Ot 15 (.alloc 8 (.agg [(.int .i64 0),.nil,.nil,.nil,(.bool false),(.sl []),(.bool false),(.sl [])])),
 Oy 8 15 32,
 Om 16 33])
 (.seq (.seq (kp [0,3,4,10,11,13,15,44] [Om 34 14,
 Ot 35 (.bin .neq (.t 34) (ci 0)),
 Om 36 35,
 Og 37 36 (.mov (.t 0)),
 Og 38 36 (.mov (.t 1)),
 Og 39 36 (.bin .gtr (.t 37) (.t 38)),
 Ot 40 (.pick (.t 36) (.c (.bool true)) (.t 39)),
 Om 41 40,
 Og 42 41 (.mov (.t 4)),
 Og 43 41 (.bin .leq (.t 42) (ci 0)),
 Ot 44 (.pick (.t 41) (.c (.bool true)) (.t 43))])
 (.cond (.t 44) (.seq (kd [10,11,12] [OL 45 8 13,
 Ot 46 (.loadN 8 true (.t 15) [10]),
 Oy 8 10 45,
 Oy 8 11 46,
 Ot 12 (.mov (.c (.bool false)))])
 .ret)
 .skip))
 (.seq (kp [0,4,10,11,13,15,17] [Om 47 3,
 Om 48 0,
 Ot 49 (.callG zfn [.t 47,.t 48]),
 Om 17 49])
 (.seq (kp [0,4,10,11,13,15,17,18,19] [Om 51 17,
 Om 52 0,
 Ot 53 (.new (.mks 1 8 (.int .i64 0)) [.t 52,.t 52]),
 Ot 54 (.callG n_quad_Of [.t 51,.t 53,ci 0]),
 Om 50 54,
 Ot 55 (.ext (.t 50) 0),
 Ot 56 (.ext (.t 50) 1),
 Ot 18 (.alloc 4 (.agg [.nil,.nil,(.bool false),(.sl [])])),
 Oy 4 18 55,
 Om 19 56])
 (.seq (kd [0,4,10,11,15,17,19,20,21] [OL 58 8 13,
 OL 59 4 18,
 Om 60 4,
 Ot 61 (.call zbd [.t 60]),
 Ot 62 (.call zgn [.t 58,.t 59,.t 61]),
 Om 57 62,
 Ot 63 (.ext (.t 57) 0),
 Ot 64 (.ext (.t 57) 1),
 Ot 20 (.alloc 8 (.agg [(.int .i64 0),.nil,.nil,.nil,(.bool false),(.sl []),(.bool false),(.sl [])])),
 Oy 8 20 63,
 Om 21 64])
 (.seq (kp [4,10,11,15,19,20,21] [Om 65 17,
 Om 66 0,
 Ot 67 (.new (.mks 1 8 (.int .i64 0)) [.t 66,.t 66]),
 Ot 68 (.callG zfs [.t 65,.t 67,ci 0]),
 Ot 69 (.fldA 2 4 true (.t 15)),
 Oy 4 69 68])
 (.seq (kp [10,11,15,19,20,21] [Om 70 4,
 Ot 71 (.callG zag [.t 70]),
 Ot 72 (.fldA 6 2 true (.t 15)),
 Oy 2 72 71])
 (.seq (kd [10,11,12] [OL 73 8 20,
 Ot 74 (.loadN 8 true (.t 15) [10]),
 Om 75 19,
 Ot 76 (.bin .eql (.t 75) (ci 0)),
 Om 77 76,
 Oh 78 77 (.mov (.t 21)),
 Oh 79 77 (.bin .eql (.t 78) (ci 0)),
 Ot 80 (.pick (.t 77) (.t 79) (.c (.bool false))),
 Oy 8 10 73,
 Oy 8 11 74,
 Om 12 80])
 .ret))))))))))
def gimballaw19_read.res : List RX := [(10, some (8, true)), (11, some (8, true)), (12, none)]
theorem gimballaw19_read.of : OfT pg zgq gimballaw19_read.k gimballaw19_read.res 5 := OfI Tryz.func32
def gimballaw19_same.k : K :=
 (.seq (kp [0,1] [Ot 4 (.mov (.c (.bool false)))])
 (.seq (.seq (kp [0,1,10] [Om 6 0,
 On 7 6,
 Om 8 1,
 On 9 8,
 Ot 10 (.bin .neq (.t 7) (.t 9))])
 (.cond (.t 10) (.seq (kp [4] [Ot 4 (.mov (.c (.bool false)))])
 .ret)
 .skip))
 (.seq (.seq (kp [0,1,5] [Oc 5 0])
 (.block 0 (.loop (.seq (.seq (kp [0,1,5,14] [Om 11 5,
 Om 12 0,
 On 13 12,
 Ot 14 (.bin .lss (.t 11) (.t 13))])
 (.cond (.t 14) .skip
 (.exit 0)))
 (.seq (.block 1 (.seq (kd [0,1,5,25] [Om 17 0,
 Om 18 5,
 Oi 19 1 17 18,
 Ol 20 1 19,
 Om 21 1,
 Om 22 5,
 Oi 23 1 21 22,
 Ol 24 1 23,
 Ot 25 (.bin .neq (.t 20) (.t 24))])
 (.cond (.t 25) (.seq (kp [4] [Ot 4 (.mov (.c (.bool false)))])
 .ret)
 .skip)))
 (kp [0,1,5] [Om 15 5,
 Ot 16 (.bin .add (.t 15) (ci 1)),
 Om 5 16]))))))
 (.seq (kp [4] [Ot 4 (.mov (.c (.bool true)))])
 .ret))))
def gimballaw19_same.res : List RX := [(4, none)]
theorem gimballaw19_same.of : OfT pg zb1 gimballaw19_same.k gimballaw19_same.res 2 := OfI Tryz.func35
def gimballaw19_few.k : K :=
 (.seq (kp [1,2] [Ot 1 (.eff (.boxO 17) [.t 0]),
 Ot 2 (.alloc 17 (.agg [(.int .i64 0),(.int .i64 0),(.int .i64 0),(.int .i64 0),(.int .i64 0),(.int .i64 0),(.int .i64 0),(.int .i64 0),(.int .i64 0),(.int .i64 0),(.int .i64 0),(.int .i64 0),(.int .i64 0),(.int .i64 0),(.int .i64 0),(.int .i64 0),(.int .i64 0)]))])
 (.seq (kp [1,2] [Oq 3 14 1 1,
 Ol 4 1 3,
 Ot 5 (.mm false (.t 4) [ci 5]),
 Oq 6 14 1 1,
 Oy 1 6 5])
 (.seq (kp [1,2] [Oq 7 15 1 1,
 Ol 8 1 7,
 Ot 9 (.mm false (.t 8) [ci 3]),
 Oq 10 15 1 1,
 Oy 1 10 9])
 (.seq (kp [2] [OL 11 17 1,
 Oy 17 2 11])
 .ret))))
def gimballaw19_few.res : List RX := [(2, some (17, true))]
theorem gimballaw19_few.of : OfT pg zg4 gimballaw19_few.k gimballaw19_few.res 1 := OfI Tryz.func36
def gimballaw19_mirror.k : K :=
 (.seq (kp [0,1] [Ot 4 (.mov (.c .nil))])
 (.seq (kp [0,1,5] [Ot 5 (.mov (.c .nil))])
 (.seq (.seq (kp [0,1,5,6] [Oc 6 0])
 (.block 0 (.loop (.seq (.seq (kp [0,1,5,6,11] [Om 9 6,
 Om 10 1,
 Ot 11 (.bin .lss (.t 9) (.t 10))])
 (.cond (.t 11) .skip
 (.exit 0)))
 (.seq (.block 1 (.gh (kp [0,1,5,6] [Om 14 5,
 Om 15 1,
 Ot 16 (.new (.mks 1 8 (.int .i64 0)) [.t 15,.t 15]),
 Ot 17 (.new (.bsl 1) [.t 16]),
 Ot 18 (.eff (.app 1 24) [.t 14,.t 17]),
 Om 5 18])))
 (kp [0,1,5,6] [Om 12 6,
 Ot 13 (.bin .add (.t 12) (ci 1)),
 Om 6 13]))))))
 (.seq (.seq (kp [0,1,5,7] [Oc 7 0])
 (.block 2 (.loop (.seq (.seq (kp [0,1,5,7,27] [Om 19 7,
 Om 20 1,
 Ot 21 (.bin .lss (.t 19) (.t 20)),
 Om 22 21,
 Oh 23 22 (.mov (.t 7)),
 Oh 24 22 (.mov (.t 0)),
 Oh 25 22 (.len false (.t 24)),
 Oh 26 22 (.bin .lss (.t 23) (.t 25)),
 Ot 27 (.pick (.t 22) (.t 26) (.c (.bool false)))])
 (.cond (.t 27) .skip
 (.exit 2)))
 (.seq (.block 3 (.seq (kp [0,1,5,7,8] [Oc 8 0])
 (.block 4 (.loop (.seq (.seq (kp [0,1,5,7,8,41] [Om 30 8,
 Om 31 7,
 Ot 32 (.bin .leq (.t 30) (.t 31)),
 Om 33 32,
 Oh 34 33 (.mov (.t 8)),
 Oh 35 33 (.mov (.t 0)),
 Oh 36 33 (.mov (.t 7)),
 Oh 37 33 (.idxA 1 (.t 35) (.t 36)),
 Oh 38 33 (.load 1 false (.t 37)),
 Oh 39 33 (.len false (.t 38)),
 Oh 40 33 (.bin .lss (.t 34) (.t 39)),
 Ot 41 (.pick (.t 33) (.t 40) (.c (.bool false)))])
 (.cond (.t 41) .skip
 (.exit 4)))
 (.seq (.block 5 (.seq (kd [0,1,5,7,8] [Om 44 5,
 Om 45 7,
 Oi 46 1 44 45,
 Ol 47 1 46,
 Om 48 8,
 Om 49 0,
 Om 50 7,
 Oi 51 1 49 50,
 Ol 52 1 51,
 Om 53 8,
 Oi 54 1 52 53,
 Ol 55 1 54,
 Oi 56 1 47 48,
 Oy 1 56 55])
 (kd [0,1,5,7,8] [Om 57 5,
 Om 58 8,
 Oi 59 1 57 58,
 Ol 60 1 59,
 Om 61 7,
 Om 62 0,
 Om 63 7,
 Oi 64 1 62 63,
 Ol 65 1 64,
 Om 66 8,
 Oi 67 1 65 66,
 Ol 68 1 67,
 Oi 69 1 60 61,
 Oy 1 69 68])))
 (kp [0,1,5,7,8] [Om 42 8,
 Ot 43 (.bin .add (.t 42) (ci 1)),
 Om 8 43])))))))
 (kp [0,1,5,7] [Om 28 7,
 Ot 29 (.bin .add (.t 28) (ci 1)),
 Om 7 29]))))))
 (.seq (kp [4] [Om 70 5,
 Om 4 70])
 .ret)))))
def gimballaw19_mirror.res : List RX := [(4, none)]
theorem gimballaw19_mirror.of : OfT pg zfn gimballaw19_mirror.k gimballaw19_mirror.res 2 := OfI Tryz.func87
end Go.Gim
/- Functions' code as data (written by wip/tools/gen.py), and the step to their contracts. -/
set_option maxRecDepth 100000
namespace Go.Gim
open Go.Proofs
def gimbalref19_Step.k : K :=
 (.seq (kp [1,2,3] [Ot 3 (.boxP (.t 0)),
 Ot 6 (.mov (.c .nil)),
 Oc 7 0])
 (.seq (kp [1,2,3,8] [Om 22 1,
 Ot 23 (.callG zdd [.t 22]),
 Om 8 23])
 (.seq (.seq (kp [1,2,3,32] [Om 24 1,
 On 25 24,
 Oq 26 0 1 3,
 Ol 27 1 26,
 Ot 28 (.bin .neq (.t 25) (.t 27)),
 Om 29 28,
 Og 30 29 (.mov (.t 8)),
 Og 31 29 (.un .not (.t 30)),
 Ot 32 (.pick (.t 29) (.c (.bool true)) (.t 31))])
 (.cond (.t 32) (.seq (kp [6,7] [Ot 6 (.mov (.c .nil)),
 Oc 7 170])
 .ret)
 .skip))
 (.seq (.seq (kp [1,2,3,38] [Om 33 2,
 Ot 34 (.bin .lss (.t 33) (ci 0)),
 Om 35 34,
 Og 36 35 (.mov (.t 2)),
 Og 37 35 (.bin .gtr (.t 36) (ci 12)),
 Ot 38 (.pick (.t 35) (.c (.bool true)) (.t 37))])
 (.cond (.t 38) (.seq (kp [6,7] [Ot 6 (.mov (.c .nil)),
 Oc 7 1])
 .ret)
 .skip))
 (.seq (kp [1,2,3,9] [Ot 39 (.callG zag [ci 0]),
 Ot 9 (.alloc 2 (.agg [(.bool false),(.sl [])])),
 Oy 2 9 39])
 (.seq (.seq (kp [1,2,3,9,41] [Om 40 2,
 Ot 41 (.bin .gtr (.t 40) (ci 0))])
 (.cond (.t 41) (.seq (kp [1,2,3,9] [Ot 42 (.fldA 6 2 true (.t 3)),
 OL 43 2 42,
 Oy 2 9 43])
 (.seq (kp [1,2,3,9,10] [Oc 10 1])
 (.block 0 (.loop (.seq (.seq (kp [1,2,3,9,10,46] [Om 44 10,
 Om 45 2,
 Ot 46 (.bin .lss (.t 44) (.t 45))])
 (.cond (.t 46) .skip
 (.exit 0)))
 (.seq (.block 1 (kd [1,2,3,9,10] [OL 49 2 9,
 Ot 50 (.call zag [ci 4]),
 Ot 51 (.call zak [.t 49,.t 50]),
 Oy 2 9 51]))
 (kp [1,2,3,9,10] [Om 47 10,
 Ot 48 (.bin .add (.t 47) (ci 1)),
 Om 10 48])))))))
 .skip))
 (.seq (kp [1,3,9,11] [OL 52 8 3,
 Om 53 1,
 Ot 54 (.callG zd3 [.t 52,.t 53]),
 Om 11 54])
 (.seq (kp [1,3,9,11,12] [Ot 12 (.mov (.c .nil))])
 (.seq (.seq (kp [1,3,9,11,12,13] [Oc 13 0])
 (.block 2 (.loop (.seq (.seq (kp [1,3,9,11,12,13,58] [Om 55 13,
 Om 56 11,
 On 57 56,
 Ot 58 (.bin .lss (.t 55) (.t 57))])
 (.cond (.t 58) .skip
 (.exit 2)))
 (.seq (.block 3 (.seq (kp [1,3,9,11,12,13,14] [Ot 61 (.new (.bsl 2) []),
 Om 62 11,
 Om 63 13,
 Oi 64 1 62 63,
 Ol 65 1 64,
 Ot 66 (.eff (.app 2 32) [.t 61,.t 65]),
 Om 14 66])
 (.seq (kd [1,3,9,11,12,13,14] [Om 67 14,
 Om 68 13,
 Om 69 14,
 Om 70 13,
 Oi 71 2 69 70,
 OL 72 2 71,
 OL 73 2 9,
 Ot 74 (.call zal [.t 72,.t 73]),
 Oi 75 2 67 68,
 Oy 2 75 74])
 (.gh (kp [1,3,9,11,12,13] [Om 76 12,
 Om 77 14,
 Ot 78 (.new (.bsl 1) [.t 77]),
 Ot 79 (.eff (.app 1 24) [.t 76,.t 78]),
 Om 12 79])))))
 (kp [1,3,9,11,12,13] [Om 59 13,
 Ot 60 (.bin .add (.t 59) (ci 1)),
 Om 13 60]))))))
 (.seq (kp [1,3,12,15] [Om 80 12,
 Ot 81 (.callG zdr [.t 80]),
 Om 15 81])
 (.seq (.seq (kp [1,3,12,83] [Om 82 15,
 Ot 83 (.un .not (.t 82))])
 (.cond (.t 83) (.seq (kp [6,7] [Ot 6 (.mov (.c .nil)),
 Oc 7 80])
 .ret)
 .skip))
 (.seq (kp [12,16] [OL 84 8 3,
 Om 85 1,
 Ot 86 (.callG zb8 [.t 84,.t 85]),
 Om 16 86])
 (.seq (.seq (kp [12,16,17] [Oc 17 0])
 (.block 4 (.loop (.seq (.seq (kp [12,16,17,90] [Om 87 17,
 Om 88 16,
 On 89 88,
 Ot 90 (.bin .lss (.t 87) (.t 89))])
 (.cond (.t 90) .skip
 (.exit 4)))
 (.seq (.block 5 (kd [12,16,17] [Om 93 16,
 Om 94 17,
 Om 95 16,
 Om 96 17,
 Oi 97 2 95 96,
 OL 98 2 97,
 Ot 99 (.call zag [(.c (.int .i64 (-1024)))]),
 Ot 100 (.call zak [.t 98,.t 99]),
 Oi 101 2 93 94,
 Oy 2 101 100]))
 (kp [12,16,17] [Om 91 17,
 Ot 92 (.bin .add (.t 91) (ci 1)),
 Om 17 92]))))))
 (.seq (kp [12,18] [Om 102 12,
 Om 103 16,
 Ot 104 (.callG zej [.t 102,.t 103]),
 Om 18 104])
 (.seq (kp [18,19] [Om 105 12,
 Ot 106 (.callG zcd [.t 105]),
 Ot 19 (.alloc 2 (.agg [(.bool false),(.sl [])])),
 Oy 2 19 106])
 (.seq (kp [18,19,20] [Ot 20 (.mov (.c .nil))])
 (.seq (.seq (kp [18,19,20,21] [Oc 21 0])
 (.block 6 (.loop (.seq (.seq (kp [18,19,20,21,110] [Om 107 21,
 Om 108 18,
 On 109 108,
 Ot 110 (.bin .lss (.t 107) (.t 109))])
 (.cond (.t 110) .skip
 (.exit 6)))
 (.seq (.block 7 (kd [18,19,20,21] [Om 113 20,
 Om 114 18,
 Om 115 21,
 Oi 116 2 114 115,
 OL 117 2 116,
 OL 118 2 19,
 Ot 119 (.call ze9 [.t 117,.t 118]),
 Ot 120 (.new (.bsl 1) [.t 119]),
 Ot 121 (.eff (.app 1 8) [.t 113,.t 120]),
 Om 20 121]))
 (kp [18,19,20,21] [Om 111 21,
 Ot 112 (.bin .add (.t 111) (ci 1)),
 Om 21 112]))))))
 (.seq (kp [6,7] [Om 122 20,
 Om 6 122,
 Oc 7 0])
 .ret))))))))))))))))))
def gimbalref19_Step.res : List RX := [(6, none), (7, none)]
theorem gimbalref19_Step.of : OfT pg zgo gimbalref19_Step.k gimbalref19_Step.res 3 := OfI Tryz.func34
def gimbalref19_Solve.k : K :=
 (.seq (kp [2,3,4,6] [Ot 3 (.boxP (.t 0)),
 Ot 4 (.boxP (.t 1)),
 Ot 6 (.alloc 4 (.agg [.nil,(.int .i64 0),(.int .i64 0),(.int .i64 0)])),
 Oc 7 0])
 (.seq (kp [2,3,4,6,8] [OL 16 17 4,
 Ot 17 (.callG zf1 [.t 16]),
 Om 8 17])
 (.seq (.seq (kp [2,3,4,6,19] [Om 18 8,
 ⟨(some 19), none,.bin .neq (.t 18) (.c (.str ⟨#[]⟩))⟩])
 (.cond (.t 19) (.seq (kp [6,7] [Ot 20 (.build [.nil,(.int .i64 0),(.int .i64 0),(.int .i64 0)] []),
 Oy 4 6 20,
 Oc 7 130])
 .ret)
 .skip))
 (.seq (kp [2,3,4,6,9] [Om 21 2,
 Ot 22 (.callG zdd [.t 21]),
 Om 9 22])
 (.seq (.seq (kp [2,3,4,6,31] [Om 23 2,
 On 24 23,
 Oq 25 0 1 3,
 Ol 26 1 25,
 Ot 27 (.bin .neq (.t 24) (.t 26)),
 Om 28 27,
 Og 29 28 (.mov (.t 9)),
 Og 30 28 (.un .not (.t 29)),
 Ot 31 (.pick (.t 28) (.c (.bool true)) (.t 30))])
 (.cond (.t 31) (.seq (kp [6,7] [Ot 32 (.build [.nil,(.int .i64 0),(.int .i64 0),(.int .i64 0)] []),
 Oy 4 6 32,
 Oc 7 170])
 .ret)
 .skip))
 (.seq (kp [3,4,6,10] [Om 33 2,
 Ot 34 (.build [.nil,(.int .i64 0),(.int .i64 0),(.int .i64 0)] [(0,1,(.t 33))]),
 Ot 10 (.alloc 4 (.agg [.nil,(.int .i64 0),(.int .i64 0),(.int .i64 0)])),
 Oy 4 10 34])
 (.seq (.block 0 (.loop (.seq (.seq (kp [3,4,6,10,39] [Oq 35 2 1 10,
 Ol 36 1 35,
 Oq 37 14 1 4,
 Ol 38 1 37,
 Ot 39 (.bin .leq (.t 36) (.t 38))])
 (.cond (.t 39) .skip
 (.exit 0)))
 (.keep [3,4,6,10] (.block 1 (.seq (kp [3,4,6,10,11] [OL 40 8 3,
 Oq 41 0 1 10,
 Ol 42 1 41,
 Oq 43 16 1 4,
 Ol 44 1 43,
 Ot 45 (.callG zey [.t 40,.t 42,.t 44]),
 Om 11 45])
 (.seq (.seq (kp [3,4,6,10,46] [Om 46 11])
 (.cond (.t 46) (.seq (kp [6,10] [Oq 47 1 1 10,
 ⟨none, none,.store 1 (.t 47) (ci 1)⟩])
 (.seq (kp [6,7] [OL 48 4 10,
 Oy 4 6 48,
 Oc 7 0])
 .ret))
 .skip))
 (.seq (.seq (kp [3,4,6,10,53] [Oq 49 2 1 10,
 Ol 50 1 49,
 Oq 51 14 1 4,
 Ol 52 1 51,
 Ot 53 (.bin .eql (.t 50) (.t 52))])
 (.cond (.t 53) (.exit 0)
 .skip))
 (.seq (kp [3,4,6,10,12,13,14,15] [OL 55 8 3,
 OL 56 17 4,
 Oq 57 0 1 10,
 Ol 58 1 57,
 Ot 59 (.callG zfx [.t 55,.t 56,.t 58]),
 Om 54 59,
 Ot 60 (.ext (.t 54) 0),
 Ot 61 (.ext (.t 54) 1),
 Ot 62 (.ext (.t 54) 2),
 Ot 63 (.ext (.t 54) 3),
 Om 12 60,
 Om 13 61,
 Om 14 62,
 Om 15 63])
 (.seq (kp [3,4,6,10,12,13,14] [Oq 64 3 1 10,
 Ol 65 1 64,
 Om 66 15,
 Ot 67 (.bin .add (.t 65) (.t 66)),
 Oq 68 3 1 10,
 Oy 1 68 67])
 (.seq (.seq (kp [3,4,6,10,12,14,70] [Om 69 13,
 Ot 70 (.un .not (.t 69))])
 (.cond (.t 70) (.seq (kp [6,10] [Om 71 14,
 Oq 72 1 1 10,
 Oy 1 72 71])
 (.seq (kp [6,7] [OL 73 4 10,
 Oy 4 6 73,
 Oc 7 0])
 .ret))
 .skip))
 (.seq (kp [3,4,6,10] [Om 74 12,
 Oq 75 0 1 10,
 Oy 1 75 74])
 (kp [3,4,6,10] [Oq 76 2 1 10,
 Ol 77 1 76,
 Ot 78 (.bin .add (.t 77) (ci 1)),
 Oq 79 2 1 10,
 Oy 1 79 78])))))))))))))
 (.seq (kp [6,10] [Oq 80 1 1 10,
 ⟨none, none,.store 1 (.t 80) (ci 2)⟩])
 (.seq (kp [6,7] [OL 81 4 10,
 Oy 4 6 81,
 Oc 7 0])
 .ret)))))))))
def gimbalref19_Solve.res : List RX := [(6, some (4, true)), (7, none)]
theorem gimbalref19_Solve.of : OfT pg zcp gimbalref19_Solve.k gimbalref19_Solve.res 3 := OfI Tryz.func38
def gimbalref19_nearest.k : K :=
 (.seq (kp [2,3] [Ot 2 (.boxP (.t 0)),
 Ot 3 (.boxP (.t 1)),
 Oc 4 0])
 (.seq (kp [3,5,6] [OL 15 2 2,
 OL 16 2 3,
 Ot 17 (.callG zfb [.t 15,.t 16]),
 Om 14 17,
 Ot 18 (.ext (.t 14) 0),
 Ot 19 (.ext (.t 14) 1),
 Ot 20 (.ext (.t 14) 2),
 Ot 5 (.alloc 2 (.agg [(.bool false),(.sl [])])),
 Ot 6 (.alloc 2 (.agg [(.bool false),(.sl [])])),
 Oy 2 5 18,
 Oy 2 6 19,
 Om 7 20])
 (.seq (kd [5,8] [OL 21 2 6,
 OL 22 2 6,
 Ot 23 (.call zal [.t 21,.t 22]),
 OL 24 2 3,
 Ot 25 (.call zas [.t 23,.t 24]),
 Om 8 25])
 (.seq (.seq (kp [5,27] [Om 26 8,
 Ot 27 (.bin .geq (.t 26) (ci 0))])
 (.cond (.t 27) (kd [5] [OL 28 2 5,
 Ot 29 (.call zag [ci 1]),
 Ot 30 (.call zal [.t 28,.t 29]),
 Oy 2 5 30])
 .skip))
 (.seq (kp [5,9] [Ot 31 (.callG zag [ci 10000000]),
 Ot 9 (.alloc 2 (.agg [(.bool false),(.sl [])])),
 Oy 2 9 31])
 (.seq (kp [5,9,10] [OL 32 2 5,
 OL 33 2 9,
 Ot 34 (.callG zas [.t 32,.t 33]),
 Om 10 34])
 (.seq (kd [5,10,11] [OL 35 2 5,
 OL 36 2 9,
 Ot 37 (.call zbi [.t 36]),
 Ot 38 (.call zas [.t 35,.t 37]),
 Om 11 38])
 (.seq (.seq (kp [5,11,40] [Om 39 10,
 Ot 40 (.bin .gtr (.t 39) (ci 0))])
 (.cond (.t 40) (.seq (kp [4] [Oc 4 10000000])
 .ret)
 .skip))
 (.seq (.seq (kp [5,42] [Om 41 11,
 Ot 42 (.bin .lss (.t 41) (ci 0))])
 (.cond (.t 42) (.seq (kp [4] [Ot 4 (.mov (.c (.int .i64 (-10000000))))])
 .ret)
 .skip))
 (.seq (kp [12] [OL 44 2 5,
 Ot 45 (.callG zc7 [.t 44]),
 Om 43 45,
 Ot 46 (.ext (.t 43) 0),
 Ot 47 (.ext (.t 43) 1),
 Om 12 46,
 Om 13 47])
 (.seq (kp [4] [Om 48 12,
 Om 4 48])
 .ret)))))))))))
def gimbalref19_nearest.res : List RX := [(4, none)]
theorem gimbalref19_nearest.of : OfT pg ze9 gimbalref19_nearest.k gimbalref19_nearest.res 2 := OfI Tryz.func97
def gimbalref19_round.k : K :=
 (.seq (kp [2,3,4] [Ot 3 (.boxP (.t 0)),
 Ot 4 (.boxP (.t 1)),
 Ot 6 (.mov (.c .nil)),
 Ot 7 (.mov (.c (.bool false))),
 Oc 8 0,
 Oc 9 0])
 (.seq (kp [2,3,4,10] [Oc 10 0])
 (.seq (kp [2,3,4,10,11] [Ot 11 (.mov (.c (.bool false)))])
 (.seq (.seq (kp [2,3,4,10,11,12] [Oc 12 0])
 (.block 0 (.loop (.seq (.seq (kp [2,3,4,10,11,12,23] [Om 20 12,
 Oq 21 15 1 4,
 Ol 22 1 21,
 Ot 23 (.bin .leq (.t 20) (.t 22))])
 (.cond (.t 23) .skip
 (.exit 0)))
 (.seq (.block 1 (.seq (kp [2,3,4,10,11,12,13,14] [OL 27 8 3,
 Om 28 2,
 Om 29 12,
 Ot 30 (.callG zgo [.t 27,.t 28,.t 29]),
 Om 26 30,
 Ot 31 (.ext (.t 26) 0),
 Ot 32 (.ext (.t 26) 1),
 Om 13 31,
 Om 14 32])
 (.seq (.seq (kp [2,3,4,10,11,12,13,34] [Om 33 14,
 Ot 34 (.bin .neq (.t 33) (ci 0))])
 (.cond (.t 34) (.exit 1)
 .skip))
 (.seq (kp [2,3,4,10,11,12,13] [Om 35 10,
 Ot 36 (.bin .add (.t 35) (ci 1)),
 Om 10 36])
 (.seq (kp [2,3,4,10,11,12,13,15] [Ot 15 (.mov (.c .nil))])
 (.seq (kp [2,3,4,10,11,12,13,15,16] [Ot 16 (.mov (.c (.bool true)))])
 (.seq (.seq (kp [2,3,4,10,11,12,13,15,16,17] [Oc 17 0])
 (.block 2 (.loop (.seq (.seq (kp [2,3,4,10,11,12,13,15,16,17,40] [Om 37 17,
 Om 38 2,
 On 39 38,
 Ot 40 (.bin .lss (.t 37) (.t 39))])
 (.cond (.t 40) .skip
 (.exit 2)))
 (.seq (.block 3 (.seq (kd [2,3,4,10,11,12,13,15,16,17] [Om 43 15,
 Om 44 2,
 Om 45 17,
 Oi 46 1 44 45,
 Ol 47 1 46,
 Om 48 13,
 Om 49 17,
 Oi 50 1 48 49,
 Ol 51 1 50,
 Ot 52 (.bin .add (.t 47) (.t 51)),
 Ot 53 (.new (.bsl 1) [.t 52]),
 Ot 54 (.eff (.app 1 8) [.t 43,.t 53]),
 Om 15 54])
 (kp [2,3,4,10,11,12,13,15,16,17] [Om 55 16,
 Om 56 55,
 Oh 57 56 (.mov (.t 13)),
 Oh 58 56 (.mov (.t 17)),
 Oh 59 56 (.idxA 1 (.t 57) (.t 58)),
 Oh 60 56 (.load 1 false (.t 59)),
 Oh 61 56 (.bin .eql (.t 60) (ci 0)),
 Ot 62 (.pick (.t 56) (.t 61) (.c (.bool false))),
 Om 16 62])))
 (kp [2,3,4,10,11,12,13,15,16,17] [Om 41 17,
 Ot 42 (.bin .add (.t 41) (ci 1)),
 Om 17 42]))))))
 (.seq (.seq (kp [2,3,4,10,11,12,15,63] [Om 63 16])
 (.cond (.t 63) (.exit 0)
 .skip))
 (.seq (kp [2,3,4,10,11,12,15,18] [Om 64 15,
 Ot 65 (.callG zdd [.t 64]),
 Om 18 65])
 (.seq (.seq (kp [2,3,4,10,11,12,15,67] [Om 66 18,
 Ot 67 (.un .not (.t 66))])
 (.cond (.t 67) (.seq (kp [2,3,4,10,11,12] [Ot 11 (.mov (.c (.bool true)))])
 (.exit 1))
 .skip))
 (.seq (kd [2,3,4,10,11,12,15,19] [OL 68 8 3,
 Om 69 15,
 Ot 70 (.call zei [.t 68,.t 69]),
 OL 71 8 3,
 Om 72 2,
 Ot 73 (.call zei [.t 71,.t 72]),
 Ot 74 (.call zas [.t 70,.t 73]),
 Om 19 74])
 (.seq (kp [2,3,4,10,11,12,15,76] [Om 75 19,
 Ot 76 (.bin .lss (.t 75) (ci 0))])
 (.cond (.t 76) (.seq (kp [6,7,8,9] [Om 77 15,
 Om 78 10,
 Om 6 77,
 Ot 7 (.mov (.c (.bool true))),
 Oc 8 0,
 Om 9 78])
 .ret)
 .skip)))))))))))))
 (kp [2,3,4,10,11,12] [Om 24 12,
 Ot 25 (.bin .add (.t 24) (ci 1)),
 Om 12 25]))))))
 (.seq (.seq (kp [2,10,11,80] [Om 79 10,
 Ot 80 (.bin .eql (.t 79) (ci 0))])
 (.cond (.t 80) (.seq (kp [6,7,8,9] [Om 81 2,
 Om 82 10,
 Om 6 81,
 Ot 7 (.mov (.c (.bool false))),
 Oc 8 5,
 Om 9 82])
 .ret)
 .skip))
 (.seq (.seq (kp [2,10,83] [Om 83 11])
 (.cond (.t 83) (.seq (kp [6,7,8,9] [Om 84 2,
 Om 85 10,
 Om 6 84,
 Ot 7 (.mov (.c (.bool false))),
 Oc 8 4,
 Om 9 85])
 .ret)
 .skip))
 (.seq (kp [6,7,8,9] [Om 86 2,
 Om 87 10,
 Om 6 86,
 Ot 7 (.mov (.c (.bool false))),
 Oc 8 3,
 Om 9 87])
 .ret)))))))
def gimbalref19_round.res : List RX := [(6, none), (7, none), (8, none), (9, none)]
theorem gimbalref19_round.of : OfT pg zfx gimbalref19_round.k gimbalref19_round.res 3 := OfI Tryz.func104
end Go.Gim

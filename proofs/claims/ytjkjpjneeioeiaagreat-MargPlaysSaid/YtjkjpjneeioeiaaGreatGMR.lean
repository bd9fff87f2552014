import Derived.Test.YtjkjpjneeioeiaaGreatGN
/- Functions' code as data (written by wip/tools/gen.py), and the step to their contracts. -/
set_option maxRecDepth 100000
namespace Go.Gim
open Go.Proofs
def marg_Out.k : K :=
 (.seq (kp [1,2,3,6] [Ot 3 (.boxP (.t 0)),
 Ot 6 (.alloc 8 (.agg [(.int .i64 0),.nil,.nil,.nil,(.bool false),(.sl []),(.bool false),(.sl [])])),
 Oc 7 0])
 (.seq (.block 0 (.seq (kp [1,2,3,6,16] [Om 17 1,
 On 18 17,
 Oq 19 0 1 3,
 Ol 20 1 19,
 Ot 21 (.bin .neq (.t 18) (.t 20)),
 Om 22 21,
 Og 23 22 (.mov (.t 1)),
 Og 24 22 (.callG n_cost_State [.t 23]),
 Og 25 22 (.un .not (.t 24)),
 Ot 26 (.pick (.t 22) (.c (.bool true)) (.t 25)),
 Om 16 26])
 (.cond (.t 16) (.seq (kp [6,7] [Ot 27 (.build [(.int .i64 0),.nil,.nil,.nil,(.bool false),(.sl []),(.bool false),(.sl [])] []),
 Oy 8 6 27,
 Oc 7 170])
 .ret)
 (.seq (kp [1,2,3,6,28] [Om 29 2,
 Ot 30 (.bin .lss (.t 29) (ci 0)),
 Om 31 30,
 Og 32 31 (.mov (.t 2)),
 Og 33 31 (.fldA 0 1 false (.t 3)),
 Og 34 31 (.load 1 false (.t 33)),
 Og 35 31 (.bin .geq (.t 32) (.t 34)),
 Ot 36 (.pick (.t 31) (.c (.bool true)) (.t 35)),
 Om 28 36])
 (.cond (.t 28) (.seq (kp [6,7] [Ot 37 (.build [(.int .i64 0),.nil,.nil,.nil,(.bool false),(.sl []),(.bool false),(.sl [])] []),
 Oy 8 6 37,
 Oc 7 1])
 .ret)
 .skip)))))
 (.seq (kp [2,3,6,8,9] [OL 39 8 3,
 Om 40 1,
 Om 41 2,
 Ot 42 (.callG ze3 [.t 39,.t 40,.t 41]),
 Om 38 42,
 Ot 43 (.ext (.t 38) 0),
 Ot 44 (.ext (.t 38) 1),
 Ot 8 (.alloc 4 (.agg [.nil,.nil,(.bool false),(.sl [])])),
 Ot 9 (.alloc 2 (.agg [(.bool false),(.sl [])])),
 Oy 4 8 43,
 Oy 2 9 44])
 (.seq (kp [2,3,6,9,10,11,12] [OL 46 4 8,
 Om 47 2,
 Ot 48 (.callG zeu [.t 46,.t 47]),
 Om 45 48,
 Ot 49 (.ext (.t 45) 0),
 Ot 50 (.ext (.t 45) 1),
 Ot 51 (.ext (.t 45) 2),
 Ot 10 (.alloc 4 (.agg [.nil,.nil,(.bool false),(.sl [])])),
 Ot 11 (.alloc 2 (.agg [(.bool false),(.sl [])])),
 Oy 4 10 49,
 Oy 2 11 50,
 Om 12 51])
 (.seq (.seq (kp [2,3,6,9,10,11,12,53] [Om 52 12,
 Ot 53 (.bin .neq (.t 52) (ci 0))])
 (.cond (.t 53) (.seq (kp [6,7] [Ot 54 (.build [(.int .i64 0),.nil,.nil,.nil,(.bool false),(.sl []),(.bool false),(.sl [])] []),
 Om 55 12,
 Oy 8 6 54,
 Om 7 55])
 .ret)
 .skip))
 (.seq (kd [2,3,6,13] [Oq 56 0 1 3,
 Ol 57 1 56,
 Om 58 2,
 Ot 59 (.bin .sub (.t 57) (.t 58)),
 OL 60 4 10,
 OL 61 2 9,
 OL 62 2 11,
 Ot 63 (.call za1 [.t 61,.t 62]),
 Ot 64 (.call zhm [.t 60,.t 63]),
 Ot 65 (.call zbs [ci 1024]),
 Ot 66 (.build [(.int .i64 0),.nil,.nil,.nil,(.bool false),(.sl []),(.bool false),(.sl [])] [(0,1,(.t 59)),(2,4,(.t 64)),(6,2,(.t 65))]),
 Ot 13 (.alloc 8 (.agg [(.int .i64 0),.nil,.nil,.nil,(.bool false),(.sl []),(.bool false),(.sl [])])),
 Oy 8 13 66])
 (.seq (.seq (kp [2,6,13,68,69,70] [Oq 67 1 1 3,
 Ol 68 1 67,
 On 69 68,
 Oc 70 0])
 (.block 1 (.loop (.seq (kp [2,6,13,68,69,70,71] [Ot 71 (.bin .lss (.t 70) (.t 69))])
 (.seq (.cond (.t 71) .skip
 (.exit 1))
 (.seq (.block 2 (.seq (kp [2,6,13,15,68,69,70] [Oi 72 4 68 70,
 OL 73 4 72,
 Ot 15 (.alloc 4 (.agg [(.sl []),(.int .i64 0),(.int .i64 0),(.int .i64 0)])),
 Oy 4 15 73])
 (.seq (kp [2,6,13,15,68,69,70,77] [OL 74 4 15,
 Om 75 2,
 Ot 76 (.callG zf7 [.t 74,.t 75]),
 Ot 77 (.un .not (.t 76))])
 (.cond (.t 77) (.seq (kp [2,6,13,15,68,69,70] [Oq 78 0 1 15,
 Ol 79 1 78,
 Om 80 2,
 Ot 81 (.red (.slc 1 true false false) [.t 79,.t 80]),
 Ot 82 (.callG zcs [.t 81]),
 Oq 83 0 1 15,
 Oy 1 83 82])
 (.gh (kp [2,6,13,68,69,70] [Oq 84 1 1 13,
 Ol 85 1 84,
 OL 86 4 15,
 Ot 87 (.new (.bsl 4) [.t 86]),
 Ot 88 (.eff (.app 4 48) [.t 85,.t 87]),
 Oq 89 1 1 13,
 Oy 1 89 88])))
 .skip))))
 (kp [2,6,13,68,69,70] [Ot 90 (.bin .add (.t 70) (ci 1)),
 Om 70 90])))))))
 (.seq (kp [6,7] [OL 91 8 13,
 Oy 8 6 91,
 Oc 7 0])
 .ret))))))))
def marg_Out.res : List RX := [(6, some (8, true)), (7, none)]
theorem marg_Out.of : OfT pg zeh marg_Out.k marg_Out.res 3 := OfI Tryz.func13
def marg_Whole.k : K :=
 (.seq (kp [1,2,3,6,7] [Ot 3 (.boxP (.t 0)),
 Ot 6 (.alloc 4 (.agg [.nil,.nil,(.bool false),(.sl [])])),
 Ot 7 (.alloc 2 (.agg [(.bool false),(.sl [])]))])
 (.seq (kd [1,2,3,6,7,8] [Ot 11 (.fldA 2 4 true (.t 3)),
 OL 12 4 11,
 Ot 13 (.call zbs [ci 1024]),
 Ot 14 (.call zfc [.t 12,.t 13]),
 Ot 8 (.alloc 4 (.agg [.nil,.nil,(.bool false),(.sl [])])),
 Oy 4 8 14])
 (.seq (.seq (kp [1,2,3,6,7,8,16,17,18] [Oq 15 1 1 3,
 Ol 16 1 15,
 On 17 16,
 Oc 18 0])
 (.block 0 (.loop (.seq (kp [1,2,3,6,7,8,16,17,18,19] [Ot 19 (.bin .lss (.t 18) (.t 17))])
 (.seq (.cond (.t 19) .skip
 (.exit 0))
 (.seq (.block 1 (.seq (kp [1,2,3,6,7,8,10,16,17,18] [Oi 20 4 16 18,
 OL 21 4 20,
 Ot 10 (.alloc 4 (.agg [(.sl []),(.int .i64 0),(.int .i64 0),(.int .i64 0)])),
 Oy 4 10 21])
 (.seq (kp [1,2,3,6,7,8,10,16,17,18,24] [OL 22 4 10,
 Om 23 2,
 Ot 24 (.callG zf7 [.t 22,.t 23])])
 (.cond (.t 24) (kd [1,2,3,6,7,8,16,17,18] [OL 25 4 8,
 OL 26 4 10,
 Ot 27 (.call n_marg_square [.t 26]),
 Ot 28 (.fldA 6 2 true (.t 3)),
 OL 29 2 28,
 Oq 30 3 1 10,
 Ol 31 1 30,
 OL 32 8 3,
 OL 33 4 10,
 Om 34 1,
 Ot 35 (.call zew [.t 32,.t 33,.t 34]),
 Ot 36 (.bin .mul (.t 31) (.t 35)),
 Ot 37 (.call zbs [.t 36]),
 Ot 38 (.call za1 [.t 29,.t 37]),
 Ot 39 (.call zfc [.t 27,.t 38]),
 Ot 40 (.call zg7 [.t 25,.t 39]),
 Oy 4 8 40])
 .skip))))
 (kp [1,2,3,6,7,8,16,17,18] [Ot 41 (.bin .add (.t 18) (ci 1)),
 Om 18 41])))))))
 (.seq (kd [6,7] [OL 42 4 8,
 Ot 43 (.fldA 6 2 true (.t 3)),
 Ot 44 (.loadN 2 true (.t 43) [6]),
 Ot 45 (.call zbs [ci 1024]),
 Ot 46 (.call za1 [.t 44,.t 45]),
 Oy 4 6 42,
 Oy 2 7 46])
 .ret))))
def marg_Whole.res : List RX := [(6, some (4, true)), (7, some (2, true))]
theorem marg_Whole.of : OfT pg ze3 marg_Whole.k marg_Whole.res 3 := OfI Tryz.func16
def marg_rounded.k : K :=
 (.seq (kp [2,3,4] [Ot 2 (.boxP (.t 0)),
 Ot 3 (.boxP (.t 1)),
 Ot 4 (.alloc 4 (.agg [.nil,.nil,(.bool false),(.sl [])]))])
 (.seq (kp [2,4,5] [Ot 10 (.mkFn zc4 [.t 3]),
 Om 5 10])
 (.seq (kp [2,4,5,6] [Om 11 5,
 Ot 12 (.fldA 2 2 true (.t 2)),
 OL 13 2 12,
 Ot 14 (.callGV (.t 11) [.t 13]),
 Ot 15 (.build [.nil,.nil,(.bool false),(.sl [])] [(2,2,(.t 14))]),
 Ot 6 (.alloc 4 (.agg [.nil,.nil,(.bool false),(.sl [])])),
 Oy 4 6 15])
 (.seq (.seq (kp [2,4,5,6,18,19] [Oq 16 0 1 2,
 Ol 17 1 16,
 On 18 17,
 Oc 19 0])
 (.block 0 (.loop (.seq (kp [2,4,5,6,18,19,20] [Ot 20 (.bin .lss (.t 19) (.t 18))])
 (.seq (.cond (.t 20) .skip
 (.exit 0))
 (.seq (.block 1 (.seq (kp [2,4,5,6,7,18,19] [Om 21 19,
 Om 7 21])
 (.seq (kd [2,4,5,6,7,18,19] [Oq 22 1 1 6,
 Ol 23 1 22,
 Om 24 5,
 Oq 25 1 1 2,
 Ol 26 1 25,
 Om 27 7,
 Oi 28 2 26 27,
 OL 29 2 28,
 Ot 30 (.callV (.t 24) [.t 29]),
 Ot 31 (.new (.bsl 2) [.t 30]),
 Ot 32 (.eff (.app 2 32) [.t 23,.t 31]),
 Oq 33 1 1 6,
 Oy 1 33 32])
 (.seq (kp [2,4,5,6,7,8,18,19] [Ot 8 (.mov (.c .nil))])
 (.seq (.seq (kp [2,4,5,6,7,8,18,19,39,40] [Oq 34 0 1 2,
 Ol 35 1 34,
 Om 36 7,
 Oi 37 1 35 36,
 Ol 38 1 37,
 On 39 38,
 Oc 40 0])
 (.block 2 (.loop (.seq (kp [2,4,5,6,7,8,18,19,39,40,41] [Ot 41 (.bin .lss (.t 40) (.t 39))])
 (.seq (.cond (.t 41) .skip
 (.exit 2))
 (.seq (.block 3 (.seq (kp [2,4,5,6,7,8,9,18,19,39,40] [Om 42 40,
 Om 9 42])
 (kp [2,4,5,6,7,8,18,19,39,40] [Om 43 8,
 Om 44 5,
 Oq 45 0 1 2,
 Ol 46 1 45,
 Om 47 7,
 Oi 48 1 46 47,
 Ol 49 1 48,
 Om 50 9,
 Oi 51 2 49 50,
 OL 52 2 51,
 Ot 53 (.callGV (.t 44) [.t 52]),
 Ot 54 (.new (.bsl 2) [.t 53]),
 Ot 55 (.eff (.app 2 32) [.t 43,.t 54]),
 Om 8 55])))
 (kp [2,4,5,6,7,8,18,19,39,40] [Ot 56 (.bin .add (.t 40) (ci 1)),
 Om 40 56])))))))
 (.seq (kd [2,4,5,6,8,18,19] [Om 57 8,
 Om 58 7,
 Om 59 8,
 Om 60 7,
 Oi 61 2 59 60,
 OL 62 2 61,
 Oq 63 0 1 2,
 Ol 64 1 63,
 On 65 64,
 Ot 66 (.call zbs [.t 65]),
 Ot 67 (.call zch [.t 62,.t 66]),
 Oi 68 2 57 58,
 Oy 2 68 67])
 (.gh (kp [2,4,5,6,18,19] [Oq 69 0 1 6,
 Ol 70 1 69,
 Om 71 8,
 Ot 72 (.new (.bsl 1) [.t 71]),
 Ot 73 (.eff (.app 1 24) [.t 70,.t 72]),
 Oq 74 0 1 6,
 Oy 1 74 73]))))))))
 (kp [2,4,5,6,18,19] [Ot 75 (.bin .add (.t 19) (ci 1)),
 Om 19 75])))))))
 (.seq (.seq (kp [4,6,79] [Oq 76 0 1 6,
 Ol 77 1 76,
 Ot 78 (.callG zd5 [.t 77]),
 Ot 79 (.un .not (.t 78))])
 (.cond (.t 79) (.seq (kp [4] [OL 80 4 6,
 Ot 81 (.build [(.bool false),(.sl [])] []),
 Ot 82 (.callG zfc [.t 80,.t 81]),
 Oy 4 4 82])
 .ret)
 .skip))
 (.seq (kp [4] [OL 83 4 6,
 Oy 4 4 83])
 .ret))))))
def marg_rounded.res : List RX := [(4, some (4, true))]
theorem marg_rounded.of : OfT pg zhm marg_rounded.k marg_rounded.res 2 := OfI Tryz.func61
def marg_touches.k : K :=
 (.seq (kp [1,2] [Ot 2 (.boxP (.t 0)),
 Ot 4 (.mov (.c (.bool false)))])
 (.seq (kp [4] [Oq 5 0 1 2,
 Ol 6 1 5,
 Om 7 1,
 Ot 8 (.red (.slc 1 false true false) [.t 6,.t 7]),
 Ot 9 (.callG zbz [.t 8,(.c (.fn zdu []))]),
 Om 4 9])
 .ret))
def marg_touches.res : List RX := [(4, none)]
theorem marg_touches.of : OfT pg zf7 marg_touches.k marg_touches.res 2 := OfI Tryz.func62
def marg_scaled.k : K :=
 (.seq (kp [2,3,4] [Ot 2 (.boxP (.t 0)),
 Ot 3 (.boxP (.t 1)),
 Ot 4 (.alloc 4 (.agg [.nil,.nil,(.bool false),(.sl [])]))])
 (.seq (kp [2,3,4,5] [Ot 10 (.fldA 2 2 true (.t 2)),
 OL 11 2 10,
 OL 12 2 3,
 Ot 13 (.callG za1 [.t 11,.t 12]),
 Ot 14 (.build [.nil,.nil,(.bool false),(.sl [])] [(2,2,(.t 13))]),
 Ot 5 (.alloc 4 (.agg [.nil,.nil,(.bool false),(.sl [])])),
 Oy 4 5 14])
 (.seq (.seq (kp [2,3,4,5,17,18] [Oq 15 0 1 2,
 Ol 16 1 15,
 On 17 16,
 Oc 18 0])
 (.block 0 (.loop (.seq (kp [2,3,4,5,17,18,19] [Ot 19 (.bin .lss (.t 18) (.t 17))])
 (.seq (.cond (.t 19) .skip
 (.exit 0))
 (.seq (.block 1 (.seq (kp [2,3,4,5,6,17,18] [Om 20 18,
 Om 6 20])
 (.seq (kd [2,3,4,5,6,17,18] [Oq 21 1 1 5,
 Ol 22 1 21,
 Oq 23 1 1 2,
 Ol 24 1 23,
 Om 25 6,
 Oi 26 2 24 25,
 OL 27 2 26,
 OL 28 2 3,
 Ot 29 (.call za1 [.t 27,.t 28]),
 Ot 30 (.new (.bsl 2) [.t 29]),
 Ot 31 (.eff (.app 2 32) [.t 22,.t 30]),
 Oq 32 1 1 5,
 Oy 1 32 31])
 (.seq (kp [2,3,4,5,6,7,17,18] [Ot 7 (.mov (.c .nil))])
 (.seq (.seq (kp [2,3,4,5,7,17,18,37,38,39] [Oq 33 0 1 2,
 Ol 34 1 33,
 Om 35 6,
 Oi 36 1 34 35,
 Ol 37 1 36,
 On 38 37,
 Oc 39 0])
 (.block 2 (.loop (.seq (kp [2,3,4,5,7,17,18,37,38,39,40] [Ot 40 (.bin .lss (.t 39) (.t 38))])
 (.seq (.cond (.t 40) .skip
 (.exit 2))
 (.seq (.block 3 (.seq (kp [2,3,4,5,7,9,17,18,37,38,39] [Oi 41 2 37 39,
 OL 42 2 41,
 Ot 9 (.alloc 2 (.agg [(.bool false),(.sl [])])),
 Oy 2 9 42])
 (kp [2,3,4,5,7,17,18,37,38,39] [Om 43 7,
 OL 44 2 9,
 OL 45 2 3,
 Ot 46 (.callG za1 [.t 44,.t 45]),
 Ot 47 (.new (.bsl 2) [.t 46]),
 Ot 48 (.eff (.app 2 32) [.t 43,.t 47]),
 Om 7 48])))
 (kp [2,3,4,5,7,17,18,37,38,39] [Ot 49 (.bin .add (.t 39) (ci 1)),
 Om 39 49])))))))
 (.gh (kp [2,3,4,5,17,18] [Oq 50 0 1 5,
 Ol 51 1 50,
 Om 52 7,
 Ot 53 (.new (.bsl 1) [.t 52]),
 Ot 54 (.eff (.app 1 24) [.t 51,.t 53]),
 Oq 55 0 1 5,
 Oy 1 55 54])))))))
 (kp [2,3,4,5,17,18] [Ot 56 (.bin .add (.t 18) (ci 1)),
 Om 18 56])))))))
 (.seq (kp [4] [OL 57 4 5,
 Oy 4 4 57])
 .ret))))
def marg_scaled.res : List RX := [(4, some (4, true))]
theorem marg_scaled.of : OfT pg zfc marg_scaled.k marg_scaled.res 2 := OfI Tryz.func71
def marg_square.k : K :=
 (.seq (kp [1,2] [Ot 1 (.boxP (.t 0)),
 Ot 2 (.alloc 4 (.agg [.nil,.nil,(.bool false),(.sl [])]))])
 (.seq (kd [1,2,3] [Oq 9 1 1 1,
 Ol 10 1 9,
 Ot 11 (.call zbs [.t 10]),
 Oq 12 1 1 1,
 Ol 13 1 12,
 Ot 14 (.call zbs [.t 13]),
 Ot 15 (.call za1 [.t 11,.t 14]),
 Ot 16 (.build [.nil,.nil,(.bool false),(.sl [])] [(2,2,(.t 15))]),
 Ot 3 (.alloc 4 (.agg [.nil,.nil,(.bool false),(.sl [])])),
 Oy 4 3 16])
 (.seq (.seq (kp [1,2,3,18,19,20] [Oq 17 0 1 1,
 Ol 18 1 17,
 On 19 18,
 Oc 20 0])
 (.block 0 (.loop (.seq (kp [1,2,3,18,19,20,21] [Ot 21 (.bin .lss (.t 20) (.t 19))])
 (.seq (.cond (.t 21) .skip
 (.exit 0))
 (.seq (.block 1 (.seq (kp [1,2,3,5,18,19,20] [Oi 22 1 18 20,
 Ol 23 1 22,
 Om 5 23])
 (.seq (kd [1,2,3,5,18,19,20] [Oq 24 1 1 3,
 Ol 25 1 24,
 Om 26 5,
 Ot 27 (.call zbs [.t 26]),
 Oq 28 1 1 1,
 Ol 29 1 28,
 Ot 30 (.call zbs [.t 29]),
 Ot 31 (.call za1 [.t 27,.t 30]),
 Ot 32 (.new (.bsl 2) [.t 31]),
 Ot 33 (.eff (.app 2 32) [.t 25,.t 32]),
 Oq 34 1 1 3,
 Oy 1 34 33])
 (.seq (kp [1,2,3,5,6,18,19,20] [Ot 6 (.mov (.c .nil))])
 (.seq (.seq (kp [1,2,3,5,6,18,19,20,36,37,38] [Oq 35 0 1 1,
 Ol 36 1 35,
 On 37 36,
 Oc 38 0])
 (.block 2 (.loop (.seq (kp [1,2,3,5,6,18,19,20,36,37,38,39] [Ot 39 (.bin .lss (.t 38) (.t 37))])
 (.seq (.cond (.t 39) .skip
 (.exit 2))
 (.seq (.block 3 (.seq (kp [1,2,3,5,6,8,18,19,20,36,37,38] [Oi 40 1 36 38,
 Ol 41 1 40,
 Om 8 41])
 (kp [1,2,3,5,6,18,19,20,36,37,38] [Om 42 6,
 Om 43 5,
 Om 44 8,
 Ot 45 (.bin .mul (.t 43) (.t 44)),
 Ot 46 (.callG zbs [.t 45]),
 Ot 47 (.new (.bsl 2) [.t 46]),
 Ot 48 (.eff (.app 2 32) [.t 42,.t 47]),
 Om 6 48])))
 (kp [1,2,3,5,6,18,19,20,36,37,38] [Ot 49 (.bin .add (.t 38) (ci 1)),
 Om 38 49])))))))
 (.gh (kp [1,2,3,18,19,20] [Oq 50 0 1 3,
 Ol 51 1 50,
 Om 52 6,
 Ot 53 (.new (.bsl 1) [.t 52]),
 Ot 54 (.eff (.app 1 24) [.t 51,.t 53]),
 Oq 55 0 1 3,
 Oy 1 55 54])))))))
 (kp [1,2,3,18,19,20] [Ot 56 (.bin .add (.t 20) (ci 1)),
 Om 20 56])))))))
 (.seq (kp [2] [OL 57 4 3,
 Oy 4 2 57])
 .ret))))
def marg_square.res : List RX := [(2, some (4, true))]
theorem marg_square.of : OfT pg n_marg_square marg_square.k marg_square.res 1 := OfI Tryz.func73
def marg_rounded_1.k : K :=
 (.seq (kp [1,2,3] [Ot 2 (.boxP (.t 0)),
 Ot 3 (.alloc 2 (.agg [(.bool false),(.sl [])]))])
 (.seq (kd [3,4] [OL 8 2 2,
 Ot 9 (.call zbs [ci 1024]),
 Ot 10 (.call za1 [.t 8,.t 9]),
 OL 11 2 1,
 Ot 12 (.call zf8 [.t 10,.t 11]),
 Om 7 12,
 Ot 13 (.ext (.t 7) 0),
 Ot 14 (.ext (.t 7) 1),
 Ot 15 (.ext (.t 7) 2),
 Ot 4 (.alloc 2 (.agg [(.bool false),(.sl [])])),
 Ot 5 (.alloc 2 (.agg [(.bool false),(.sl [])])),
 Oy 2 4 13,
 Oy 2 5 14,
 Om 6 15])
 (.seq (kp [3] [OL 16 2 4,
 Oy 2 3 16])
 .ret)))
def marg_rounded_1.res : List RX := [(3, some (2, true))]
theorem marg_rounded_1.of : OfT pg zc4 marg_rounded_1.k marg_rounded_1.res 2 := OfI Tryz.func131
def marg_touches_1.k : K :=
 (.seq (kp [0] [Ot 2 (.mov (.c (.bool false)))])
 (.seq (kp [2] [Om 3 0,
 Ot 4 (.bin .neq (.t 3) (ci 0)),
 Om 2 4])
 .ret))
def marg_touches_1.res : List RX := [(2, none)]
theorem marg_touches_1.of : OfT pg zdu marg_touches_1.k marg_touches_1.res 1 := OfI Tryz.func132
end Go.Gim
/- Functions' code as data (written by wip/tools/gen.py), and the step to their contracts. -/
set_option maxRecDepth 100000
namespace Go.Gim
open Go.Proofs
def gimballaw20_MargPlays.k : K :=
 (.seq (kp [0,1,2,3,4,5] [Ot 12 (.mov (.c (.bool false)))])
 (.seq (kp [0,1,2,3,4,5,13] [Ot 28 (.callG ze0 []),
 Om 13 28])
 (.seq (kp [0,4,5,13,14,15,16] [Om 30 0,
 Om 31 1,
 Om 32 2,
 Om 33 3,
 Ot 34 (.callG zfl [.t 30,ci 5,.t 31,.t 32,.t 33]),
 Om 29 34,
 Ot 35 (.ext (.t 29) 0),
 Ot 36 (.ext (.t 29) 1),
 Ot 37 (.ext (.t 29) 2),
 Ot 14 (.alloc 8 (.agg [(.int .i64 0),.nil,.nil,.nil,(.bool false),(.sl []),(.bool false),(.sl [])])),
 Ot 15 (.alloc 8 (.agg [(.int .i64 0),.nil,.nil,.nil,(.bool false),(.sl []),(.bool false),(.sl [])])),
 Oy 8 14 35,
 Oy 8 15 36,
 Om 16 37])
 (.seq (.seq (kp [0,4,5,13,14,15,39] [Om 38 16,
 Ot 39 (.un .not (.t 38))])
 (.cond (.t 39) (.seq (kp [12] [Om 40 13,
 Om 12 40])
 .ret)
 .skip))
 (.seq (kp [0,4,5,13,14,15,17,18] [OL 42 8 14,
 Om 43 4,
 Om 44 5,
 Ot 45 (.callG zeh [.t 42,.t 43,.t 44]),
 Om 41 45,
 Ot 46 (.ext (.t 41) 0),
 Ot 47 (.ext (.t 41) 1),
 Ot 17 (.alloc 8 (.agg [(.int .i64 0),.nil,.nil,.nil,(.bool false),(.sl []),(.bool false),(.sl [])])),
 Oy 8 17 46,
 Om 18 47])
 (.seq (kp [0,4,5,13,14,15,17,18,19,20] [OL 49 8 15,
 Om 50 4,
 Om 51 5,
 Ot 52 (.callG zdd [.t 49,.t 50,.t 51]),
 Om 48 52,
 Ot 53 (.ext (.t 48) 0),
 Ot 54 (.ext (.t 48) 1),
 Ot 19 (.alloc 8 (.agg [(.int .i64 0),.nil,.nil,.nil,(.bool false),(.sl []),(.bool false),(.sl [])])),
 Oy 8 19 53,
 Om 20 54])
 (.seq (kp [0,4,5,13,14,15,17,18,19,20,21] [Om 55 4,
 Ot 56 (.callG zdn [.t 55]),
 Om 21 56])
 (.seq (.seq (kp [0,4,5,13,14,15,17,18,19,21,59] [Om 57 18,
 Om 58 20,
 Ot 59 (.bin .neq (.t 57) (.t 58))])
 (.cond (.t 59) (.seq (kp [12] [Ot 12 (.mov (.c (.bool false)))])
 .ret)
 .skip))
 (.seq (.seq (kp [4,5,13,14,15,17,18,19,75] [Om 60 4,
 On 61 60,
 Om 62 0,
 Ot 63 (.bin .eql (.t 61) (.t 62)),
 Om 64 63,
 Oh 65 64 (.mov (.t 21)),
 Ot 66 (.pick (.t 64) (.t 65) (.c (.bool false))),
 Om 67 66,
 Oh 68 67 (.mov (.t 5)),
 Oh 69 67 (.bin .geq (.t 68) (ci 0)),
 Ot 70 (.pick (.t 67) (.t 69) (.c (.bool false))),
 Om 71 70,
 Oh 72 71 (.mov (.t 5)),
 Oh 73 71 (.mov (.t 0)),
 Oh 74 71 (.bin .lss (.t 72) (.t 73)),
 Ot 75 (.pick (.t 71) (.t 74) (.c (.bool false)))])
 (.cond (.t 75) (.seq (kp [4,5,13,15,17,18,19,22,23] [OL 77 8 14,
 Om 78 4,
 Om 79 5,
 Ot 80 (.callG ze3 [.t 77,.t 78,.t 79]),
 Om 76 80,
 Ot 81 (.ext (.t 76) 0),
 Ot 82 (.ext (.t 76) 1),
 Ot 22 (.alloc 4 (.agg [.nil,.nil,(.bool false),(.sl [])])),
 Ot 23 (.alloc 2 (.agg [(.bool false),(.sl [])])),
 Oy 4 22 81,
 Oy 2 23 82])
 (.seq (kp [13,17,18,19,22,23,24,25] [OL 84 8 15,
 Om 85 4,
 Om 86 5,
 Ot 87 (.callG zdm [.t 84,.t 85,.t 86]),
 Om 83 87,
 Ot 88 (.ext (.t 83) 0),
 Ot 89 (.ext (.t 83) 1),
 Ot 24 (.alloc 4 (.agg [.nil,.nil,(.bool false),(.sl [])])),
 Ot 25 (.alloc 2 (.agg [(.bool false),(.sl [])])),
 Oy 4 24 88,
 Oy 2 25 89])
 (.seq (kp [13,17,18,19,22,24,25,26] [OL 90 2 23,
 Ot 91 (.callG zbb [.t 90]),
 Om 26 91])
 (.seq (kd [13,17,18,19,102] [OL 92 4 22,
 Ot 93 (.call zbv [.t 92]),
 OL 94 4 24,
 Ot 95 (.call zcn [.t 94]),
 Ot 96 (.bin .neq (.t 93) (.t 95)),
 Om 97 96,
 Og 98 97 (.mov (.t 26)),
 Og 99 97 (.load 2 true (.t 25)),
 Og 100 97 (.call zbg [.t 99]),
 Og 101 97 (.bin .neq (.t 98) (.t 100)),
 Ot 102 (.pick (.t 97) (.c (.bool true)) (.t 101))])
 (.cond (.t 102) (.seq (kp [12] [Ot 12 (.mov (.c (.bool false)))])
 .ret)
 .skip)))))
 .skip))
 (.seq (.seq (kp [13,17,19,104] [Om 103 18,
 Ot 104 (.bin .neq (.t 103) (ci 0))])
 (.cond (.t 104) (.seq (kp [12] [Om 105 13,
 Om 106 105,
 Oh 107 106 (.fldA 0 1 false (.t 17)),
 Oh 108 106 (.load 1 false (.t 107)),
 Oh 109 106 (.bin .eql (.t 108) (ci 0)),
 Ot 110 (.pick (.t 106) (.t 109) (.c (.bool false))),
 Om 111 110,
 Oh 112 111 (.fldA 1 1 false (.t 17)),
 Oh 113 111 (.load 1 false (.t 112)),
 Oh 114 111 (.len false (.t 113)),
 Oh 115 111 (.bin .eql (.t 114) (ci 0)),
 Ot 116 (.pick (.t 111) (.t 115) (.c (.bool false))),
 Om 12 116])
 .ret)
 .skip))
 (.seq (kp [13,17,19,27] [Ot 117 (.fldA 6 2 true (.t 17)),
 OL 118 2 117,
 Ot 119 (.callG zbb [.t 118]),
 Om 27 119])
 (.seq (kd [12] [Om 120 13,
 Om 121 120,
 Oh 122 121 (.fldA 0 1 false (.t 17)),
 Oh 123 121 (.load 1 false (.t 122)),
 Oh 124 121 (.fldA 0 1 false (.t 19)),
 Oh 125 121 (.load 1 false (.t 124)),
 Oh 126 121 (.bin .eql (.t 123) (.t 125)),
 Ot 127 (.pick (.t 121) (.t 126) (.c (.bool false))),
 Om 128 127,
 Oh 129 128 (.mov (.t 27)),
 ⟨(some 130),(some (128, true)),.bin .eql (.t 129) (.c (.str ⟨#[49,48,50,52]⟩))⟩,
 Ot 131 (.pick (.t 128) (.t 130) (.c (.bool false))),
 Om 132 131,
 Oh 133 132 (.fldA 2 4 true (.t 17)),
 Oh 134 132 (.load 4 true (.t 133)),
 Oh 135 132 (.call zbv [.t 134]),
 Oh 136 132 (.fldA 2 4 true (.t 19)),
 Oh 137 132 (.load 4 true (.t 136)),
 Oh 138 132 (.call zcn [.t 137]),
 Oh 139 132 (.bin .eql (.t 135) (.t 138)),
 Ot 140 (.pick (.t 132) (.t 139) (.c (.bool false))),
 Om 141 140,
 Oh 142 141 (.fldA 1 1 false (.t 17)),
 Oh 143 141 (.load 1 false (.t 142)),
 Oh 144 141 (.fldA 1 1 false (.t 19)),
 Oh 145 141 (.load 1 false (.t 144)),
 Oh 146 141 (.call zd8 [.t 143,.t 145]),
 Ot 147 (.pick (.t 141) (.t 146) (.c (.bool false))),
 Om 12 147])
 .ret))))))))))))
def gimballaw20_MargPlays.res : List RX := [(12, none)]
theorem gimballaw20_MargPlays.of : OfT pg zfm gimballaw20_MargPlays.k gimballaw20_MargPlays.res 6 := OfI Tryz.func3
def gimballaw20_awake.k : K :=
 (.seq (kp [] [Ot 0 (.mov (.c (.bool false)))])
 (.seq (kp [1] [Ot 17 (.new (.bsl 1) [ci 1,ci 0]),
 Ot 18 (.build [(.sl []),(.int .i64 0),(.int .i64 0),(.int .i64 0)] [(0,1,(.t 17)),(1,1,(ci 10)),(2,1,(ci 32768)),(3,1,(ci 100))]),
 Ot 19 (.new (.bsl 1) [(.c (.int .i64 (-1))),ci 1]),
 Ot 20 (.build [(.sl []),(.int .i64 0),(.int .i64 0),(.int .i64 0)] [(0,1,(.t 19)),(1,1,(ci 5)),(2,1,(ci 32768)),(3,1,(ci 100))]),
 Ot 21 (.new (.bsl 1) [ci 0,ci 1]),
 Ot 22 (.build [(.sl []),(.int .i64 0),(.int .i64 0),(.int .i64 0)] [(0,1,(.t 21)),(1,1,(ci 15)),(2,1,(ci 32768)),(3,1,(ci 100))]),
 Ot 23 (.new (.bsl 4) [.t 18,.t 20,.t 22]),
 Om 1 23])
 (.seq (kp [2,3] [Om 25 1,
 Ot 26 (.callG zg8 [ci 2,.t 25]),
 Om 24 26,
 Ot 27 (.ext (.t 24) 0),
 Ot 28 (.ext (.t 24) 1),
 Ot 2 (.alloc 8 (.agg [(.int .i64 0),.nil,.nil,.nil,(.bool false),(.sl []),(.bool false),(.sl [])])),
 Oy 8 2 27,
 Om 3 28])
 (.seq (kp [2,3,4,5] [Ot 30 (.callG zg8 [ci 2,(.c .nil)]),
 Om 29 30,
 Ot 31 (.ext (.t 29) 0),
 Ot 32 (.ext (.t 29) 1),
 Ot 4 (.alloc 8 (.agg [(.int .i64 0),.nil,.nil,.nil,(.bool false),(.sl []),(.bool false),(.sl [])])),
 Oy 8 4 31,
 Om 5 32])
 (.seq (.seq (kp [2,4,38] [Om 33 3,
 Ot 34 (.bin .neq (.t 33) (ci 0)),
 Om 35 34,
 Og 36 35 (.mov (.t 5)),
 Og 37 35 (.bin .neq (.t 36) (ci 0)),
 Ot 38 (.pick (.t 35) (.c (.bool true)) (.t 37))])
 (.cond (.t 38) (.seq (kp [0] [Ot 0 (.mov (.c (.bool false)))])
 .ret)
 .skip))
 (.seq (kp [2,4,6] [Ot 39 (.new (.bsl 1) [ci 10,ci 15]),
 Om 6 39])
 (.seq (kp [2,4,6,7,8] [OL 41 8 2,
 Om 42 6,
 Ot 43 (.callG ze3 [.t 41,.t 42,ci 1]),
 Om 40 43,
 Ot 44 (.ext (.t 40) 0),
 Ot 45 (.ext (.t 40) 1),
 Ot 7 (.alloc 4 (.agg [.nil,.nil,(.bool false),(.sl [])])),
 Ot 8 (.alloc 2 (.agg [(.bool false),(.sl [])])),
 Oy 4 7 44,
 Oy 2 8 45])
 (.seq (kp [2,4,6,7,8,9,10] [OL 47 8 2,
 Om 48 6,
 Ot 49 (.callG zeh [.t 47,.t 48,ci 1]),
 Om 46 49,
 Ot 50 (.ext (.t 46) 0),
 Ot 51 (.ext (.t 46) 1),
 Ot 9 (.alloc 8 (.agg [(.int .i64 0),.nil,.nil,.nil,(.bool false),(.sl []),(.bool false),(.sl [])])),
 Oy 8 9 50,
 Om 10 51])
 (.seq (kp [4,6,7,8,9,10,12] [OL 53 8 2,
 Om 54 6,
 Ot 55 (.callG zeh [.t 53,.t 54,ci 2]),
 Om 52 55,
 Ot 56 (.ext (.t 52) 0),
 Ot 57 (.ext (.t 52) 1),
 Ot 11 (.alloc 8 (.agg [(.int .i64 0),.nil,.nil,.nil,(.bool false),(.sl []),(.bool false),(.sl [])])),
 Oy 8 11 56,
 Om 12 57])
 (.seq (kp [7,8,9,10,12,14] [OL 59 8 4,
 Om 60 6,
 Ot 61 (.callG zeh [.t 59,.t 60,ci 1]),
 Om 58 61,
 Ot 62 (.ext (.t 58) 0),
 Ot 63 (.ext (.t 58) 1),
 Ot 13 (.alloc 8 (.agg [(.int .i64 0),.nil,.nil,.nil,(.bool false),(.sl []),(.bool false),(.sl [])])),
 Oy 8 13 62,
 Om 14 63])
 (.seq (kp [7,9,10,12,14,15] [OL 64 2 8,
 Ot 65 (.callG zbb [.t 64]),
 Om 15 65])
 (.seq (.seq (kp [7,9,12,14,15,72] [Om 66 10,
 Ot 67 (.bin .neq (.t 66) (ci 0)),
 Om 68 67,
 Og 69 68 (.fldA 0 1 false (.t 9)),
 Og 70 68 (.load 1 false (.t 69)),
 Og 71 68 (.bin .neq (.t 70) (ci 1)),
 Ot 72 (.pick (.t 68) (.c (.bool true)) (.t 71))])
 (.cond (.t 72) (.seq (kp [0] [Ot 0 (.mov (.c (.bool false)))])
 .ret)
 .skip))
 (.seq (kp [7,9,12,14,15,16] [Ot 73 (.fldA 6 2 true (.t 9)),
 OL 74 2 73,
 Ot 75 (.callG zbb [.t 74]),
 Om 16 75])
 (.seq (kp [0] [OL 76 4 7,
 Ot 77 (.callG zbv [.t 76]),
 ⟨(some 78), none,.bin .eql (.t 77) (.c (.str ⟨#[50,48,52,56,48,48,32,45,49,48,50,52,48,48,32,59,53,49,50,48,48,48,59,45,49,48,50,52,48,48,32,49,48,50,52,48,48,32,59,53,49,50,48,48,48,59,49,50,56,48,48,48,48,48]⟩))⟩,
 Om 79 78,
 Oh 80 79 (.mov (.t 15)),
 ⟨(some 81),(some (79, true)),.bin .eql (.t 80) (.c (.str ⟨#[49,48,50,52]⟩))⟩,
 Ot 82 (.pick (.t 79) (.t 81) (.c (.bool false))),
 Om 83 82,
 Oh 84 83 (.fldA 2 4 true (.t 9)),
 Oh 85 83 (.load 4 true (.t 84)),
 Oh 86 83 (.callG zbv [.t 85]),
 ⟨(some 87),(some (83, true)),.bin .eql (.t 86) (.c (.str ⟨#[53,49,49,57,57,32,59,55,54,56,48,48,48,59,49,49,53,50,48,48,48,48]⟩))⟩,
 Ot 88 (.pick (.t 83) (.t 87) (.c (.bool false))),
 Om 89 88,
 Oh 90 89 (.mov (.t 16)),
 ⟨(some 91),(some (89, true)),.bin .eql (.t 90) (.c (.str ⟨#[49,48,50,52]⟩))⟩,
 Ot 92 (.pick (.t 89) (.t 91) (.c (.bool false))),
 Om 93 92,
 Oh 94 93 (.fldA 1 1 false (.t 9)),
 Oh 95 93 (.load 1 false (.t 94)),
 Oh 96 93 (.new (.bsl 1) [ci 1]),
 Oh 97 93 (.build [(.sl []),(.int .i64 0),(.int .i64 0),(.int .i64 0)] [(0,1,(.t 96)),(1,1,(ci 15)),(2,1,(ci 32768)),(3,1,(ci 100))]),
 Oh 98 93 (.new (.bsl 4) [.t 97]),
 Oh 99 93 (.callG zd8 [.t 95,.t 98]),
 Ot 100 (.pick (.t 93) (.t 99) (.c (.bool false))),
 Om 101 100,
 Oh 102 101 (.mov (.t 12)),
 Oh 103 101 (.bin .eql (.t 102) (ci 1)),
 Ot 104 (.pick (.t 101) (.t 103) (.c (.bool false))),
 Om 105 104,
 Oh 106 105 (.mov (.t 14)),
 Oh 107 105 (.bin .eql (.t 106) (ci 80)),
 Ot 108 (.pick (.t 105) (.t 107) (.c (.bool false))),
 Om 0 108])
 .ret))))))))))))))
def gimballaw20_awake.res : List RX := [(0, none)]
theorem gimballaw20_awake.of : OfT pg ze0 gimballaw20_awake.k gimballaw20_awake.res 0 := OfI Tryz.func11
def gimballaw20_read.k : K :=
 (.seq (kp [0,1,2,3,4,10,11] [Ot 10 (.alloc 8 (.agg [(.int .i64 0),.nil,.nil,.nil,(.bool false),(.sl []),(.bool false),(.sl [])])),
 Ot 11 (.alloc 8 (.agg [(.int .i64 0),.nil,.nil,.nil,(.bool false),(.sl []),(.bool false),(.sl [])])),
 Ot 12 (.mov (.c (.bool false)))])
 (.seq (kp [0,1,2,3,4,10,11,13,14] [Om 23 0,
 Om 24 2,
 Ot 25 (.callG zg8 [.t 23,.t 24]),
 Om 22 25,
 Ot 26 (.ext (.t 22) 0),
 Ot 27 (.ext (.t 22) 1),
 Ot 13 (.alloc 8 (.agg [(.int .i64 0),.nil,.nil,.nil,(.bool false),(.sl []),(.bool false),(.sl [])])),
 Oy 8 13 26,
 Om 14 27])
 (.seq (kp [0,1,3,4,10,11,13,14,15] [Om 29 0,
 Om 30 2,
 Ot 31 (.callG zf1 [.t 29,.t 30]),
 Om 28 31,
 Ot 32 (.ext (.t 28) 0),
 Ot 33 (.ext (.t 28) 1),
 Ot 15 (.alloc 8 (.agg [(.int .i64 0),.nil,.nil,.nil,(.bool false),(.sl []),(.bool false),(.sl [])])),
 Oy 8 15 32,
 Om 16 33])
 (.seq (.seq (kp [0,3,4,10,11,13,15,44] [Om 34 14,
 Ot 35 (.bin .neq (.t 34) (ci 0)),
 Om 36 35,
 Og 37 36 (.mov (.t 0)),
 Og 38 36 (.mov (.t 1)),
 Og 39 36 (.bin .gtr (.t 37) (.t 38)),
 Ot 40 (.pick (.t 36) (.c (.bool true)) (.t 39)),
 Om 41 40,
 Og 42 41 (.mov (.t 4)),
 Og 43 41 (.bin .leq (.t 42) (ci 0)),
 Ot 44 (.pick (.t 41) (.c (.bool true)) (.t 43))])
 (.cond (.t 44) (.seq (kd [10,11,12] [OL 45 8 13,
 Ot 46 (.loadN 8 true (.t 15) [10]),
 Oy 8 10 45,
 Oy 8 11 46,
 Ot 12 (.mov (.c (.bool false)))])
 .ret)
 .skip))
 (.seq (kp [0,4,10,11,13,15,17] [Om 47 3,
 Om 48 0,
 Ot 49 (.callG zen [.t 47,.t 48]),
 Om 17 49])
 (.seq (kp [0,4,10,11,13,15,17,18,19] [Om 51 17,
 Om 52 0,
 Ot 53 (.new (.mks 1 8 (.int .i64 0)) [.t 52,.t 52]),
 Ot 54 (.callG n_quad_Of [.t 51,.t 53,ci 0]),
 Om 50 54,
 Ot 55 (.ext (.t 50) 0),
 Ot 56 (.ext (.t 50) 1),
 Ot 18 (.alloc 4 (.agg [.nil,.nil,(.bool false),(.sl [])])),
 Oy 4 18 55,
 Om 19 56])
 (.seq (kd [0,4,10,11,15,17,19,20,21] [OL 58 8 13,
 OL 59 4 18,
 Om 60 4,
 Ot 61 (.call zbs [.t 60]),
 Ot 62 (.call zfi [.t 58,.t 59,.t 61]),
 Om 57 62,
 Ot 63 (.ext (.t 57) 0),
 Ot 64 (.ext (.t 57) 1),
 Ot 20 (.alloc 8 (.agg [(.int .i64 0),.nil,.nil,.nil,(.bool false),(.sl []),(.bool false),(.sl [])])),
 Oy 8 20 63,
 Om 21 64])
 (.seq (kp [4,10,11,15,19,20,21] [Om 65 17,
 Om 66 0,
 Ot 67 (.new (.mks 1 8 (.int .i64 0)) [.t 66,.t 66]),
 Ot 68 (.callG zes [.t 65,.t 67,ci 0]),
 Ot 69 (.fldA 2 4 true (.t 15)),
 Oy 4 69 68])
 (.seq (kp [10,11,15,19,20,21] [Om 70 4,
 Ot 71 (.callG zam [.t 70]),
 Ot 72 (.fldA 6 2 true (.t 15)),
 Oy 2 72 71])
 (.seq (kd [10,11,12] [OL 73 8 20,
 Ot 74 (.loadN 8 true (.t 15) [10]),
 Om 75 19,
 Ot 76 (.bin .eql (.t 75) (ci 0)),
 Om 77 76,
 Oh 78 77 (.mov (.t 21)),
 Oh 79 77 (.bin .eql (.t 78) (ci 0)),
 Ot 80 (.pick (.t 77) (.t 79) (.c (.bool false))),
 Oy 8 10 73,
 Oy 8 11 74,
 Om 12 80])
 .ret))))))))))
def gimballaw20_read.res : List RX := [(10, some (8, true)), (11, some (8, true)), (12, none)]
theorem gimballaw20_read.of : OfT pg zfl gimballaw20_read.k gimballaw20_read.res 5 := OfI Tryz.func12
def gimballaw20_whole.k : K :=
 (.seq (kp [1] [Ot 1 (.boxP (.t 0)),
 ⟨(some 2), none,.mov (.c (.str ⟨#[]⟩))⟩])
 (.seq (kp [1,3] [⟨(some 3), none,.mov (.c (.str ⟨#[]⟩))⟩])
 (.seq (.seq (kp [1,3,4] [Oc 4 0])
 (.block 0 (.loop (.seq (.seq (kp [1,3,4,10] [Om 6 4,
 Oq 7 0 1 1,
 Ol 8 1 7,
 On 9 8,
 Ot 10 (.bin .lss (.t 6) (.t 9))])
 (.cond (.t 10) .skip
 (.exit 0)))
 (.seq (.block 1 (.seq (.seq (kp [1,3,4,5] [Oc 5 0])
 (.block 2 (.loop (.seq (.seq (kp [1,3,4,5,20] [Om 13 5,
 Oq 14 0 1 1,
 Ol 15 1 14,
 Om 16 4,
 Oi 17 1 15 16,
 Ol 18 1 17,
 On 19 18,
 Ot 20 (.bin .lss (.t 13) (.t 19))])
 (.cond (.t 20) .skip
 (.exit 2)))
 (.seq (.block 3 (kp [1,3,4,5] [Om 23 3,
 Oq 24 0 1 1,
 Ol 25 1 24,
 Om 26 4,
 Oi 27 1 25 26,
 Ol 28 1 27,
 Om 29 5,
 Oi 30 2 28 29,
 OL 31 2 30,
 Ot 32 (.callG zbb [.t 31]),
 Ot 33 (.bin .add (.t 23) (.t 32)),
 ⟨(some 34), none,.bin .add (.t 33) (.c (.str ⟨#[32]⟩))⟩,
 Om 3 34]))
 (kp [1,3,4,5] [Om 21 5,
 Ot 22 (.bin .add (.t 21) (ci 1)),
 Om 5 22]))))))
 (kp [1,3,4] [Om 35 3,
 ⟨(some 36), none,.bin .add (.t 35) (.c (.str ⟨#[59]⟩))⟩,
 Oq 37 1 1 1,
 Ol 38 1 37,
 Om 39 4,
 Oi 40 2 38 39,
 OL 41 2 40,
 Ot 42 (.callG zbb [.t 41]),
 Ot 43 (.bin .add (.t 36) (.t 42)),
 ⟨(some 44), none,.bin .add (.t 43) (.c (.str ⟨#[59]⟩))⟩,
 Om 3 44])))
 (kp [1,3,4] [Om 11 4,
 Ot 12 (.bin .add (.t 11) (ci 1)),
 Om 4 12]))))))
 (.seq (kp [2] [Om 45 3,
 Ot 46 (.fldA 2 2 true (.t 1)),
 OL 47 2 46,
 Ot 48 (.callG zbb [.t 47]),
 Ot 49 (.bin .add (.t 45) (.t 48)),
 Om 2 49])
 .ret))))
def gimballaw20_whole.res : List RX := [(2, none)]
theorem gimballaw20_whole.of : OfT pg zbv gimballaw20_whole.k gimballaw20_whole.res 1 := OfI Tryz.func19
def gimballaw20_wholes.k : K :=
 (.seq (kp [1] [Ot 1 (.boxP (.t 0)),
 ⟨(some 2), none,.mov (.c (.str ⟨#[]⟩))⟩])
 (.seq (kp [1,3] [⟨(some 3), none,.mov (.c (.str ⟨#[]⟩))⟩])
 (.seq (.seq (kp [1,3,4] [Oc 4 0])
 (.block 0 (.loop (.seq (.seq (kp [1,3,4,10] [Om 6 4,
 Oq 7 0 1 1,
 Ol 8 1 7,
 On 9 8,
 Ot 10 (.bin .lss (.t 6) (.t 9))])
 (.cond (.t 10) .skip
 (.exit 0)))
 (.seq (.block 1 (.seq (.seq (kp [1,3,4,5] [Oc 5 0])
 (.block 2 (.loop (.seq (.seq (kp [1,3,4,5,20] [Om 13 5,
 Oq 14 0 1 1,
 Ol 15 1 14,
 Om 16 4,
 Oi 17 1 15 16,
 Ol 18 1 17,
 On 19 18,
 Ot 20 (.bin .lss (.t 13) (.t 19))])
 (.cond (.t 20) .skip
 (.exit 2)))
 (.seq (.block 3 (kp [1,3,4,5] [Om 23 3,
 Oq 24 0 1 1,
 Ol 25 1 24,
 Om 26 4,
 Oi 27 1 25 26,
 Ol 28 1 27,
 Om 29 5,
 Oi 30 2 28 29,
 OL 31 2 30,
 Ot 32 (.callG zbg [.t 31]),
 Ot 33 (.bin .add (.t 23) (.t 32)),
 ⟨(some 34), none,.bin .add (.t 33) (.c (.str ⟨#[32]⟩))⟩,
 Om 3 34]))
 (kp [1,3,4,5] [Om 21 5,
 Ot 22 (.bin .add (.t 21) (ci 1)),
 Om 5 22]))))))
 (kp [1,3,4] [Om 35 3,
 ⟨(some 36), none,.bin .add (.t 35) (.c (.str ⟨#[59]⟩))⟩,
 Oq 37 1 1 1,
 Ol 38 1 37,
 Om 39 4,
 Oi 40 2 38 39,
 OL 41 2 40,
 Ot 42 (.callG zbg [.t 41]),
 Ot 43 (.bin .add (.t 36) (.t 42)),
 ⟨(some 44), none,.bin .add (.t 43) (.c (.str ⟨#[59]⟩))⟩,
 Om 3 44])))
 (kp [1,3,4] [Om 11 4,
 Ot 12 (.bin .add (.t 11) (ci 1)),
 Om 4 12]))))))
 (.seq (kp [2] [Om 45 3,
 Ot 46 (.fldA 2 2 true (.t 1)),
 OL 47 2 46,
 Ot 48 (.callG zbg [.t 47]),
 Ot 49 (.bin .add (.t 45) (.t 48)),
 Om 2 49])
 .ret))))
def gimballaw20_wholes.res : List RX := [(2, none)]
theorem gimballaw20_wholes.of : OfT pg zcn gimballaw20_wholes.k gimballaw20_wholes.res 1 := OfI Tryz.func20
def gimballaw20_same.k : K :=
 (.seq (kp [0,1] [Ot 4 (.mov (.c (.bool false)))])
 (.seq (.seq (kp [0,1,11] [Om 7 0,
 On 8 7,
 Om 9 1,
 On 10 9,
 Ot 11 (.bin .neq (.t 8) (.t 10))])
 (.cond (.t 11) (.seq (kp [4] [Ot 4 (.mov (.c (.bool false)))])
 .ret)
 .skip))
 (.seq (.seq (kp [0,1,5] [Oc 5 0])
 (.block 0 (.loop (.seq (.seq (kp [0,1,5,15] [Om 12 5,
 Om 13 0,
 On 14 13,
 Ot 15 (.bin .lss (.t 12) (.t 14))])
 (.cond (.t 15) .skip
 (.exit 0)))
 (.seq (.block 1 (.seq (kd [0,1,5,6] [Om 18 0,
 Om 19 5,
 Oi 20 4 18 19,
 OL 21 4 20,
 Om 22 1,
 Om 23 5,
 Oi 24 4 22 23,
 OL 25 4 24,
 Ot 26 (.call zfk [.t 21,.t 25]),
 Om 6 26])
 (.seq (kp [0,1,5,28] [Om 27 6,
 Ot 28 (.un .not (.t 27))])
 (.cond (.t 28) (.seq (kp [4] [Ot 4 (.mov (.c (.bool false)))])
 .ret)
 .skip))))
 (kp [0,1,5] [Om 16 5,
 Ot 17 (.bin .add (.t 16) (ci 1)),
 Om 5 17]))))))
 (.seq (kp [4] [Ot 4 (.mov (.c (.bool true)))])
 .ret))))
def gimballaw20_same.res : List RX := [(4, none)]
theorem gimballaw20_same.of : OfT pg zd8 gimballaw20_same.k gimballaw20_same.res 2 := OfI Tryz.func22
def gimballaw20_mirror.k : K :=
 (.seq (kp [0,1] [Ot 4 (.mov (.c .nil))])
 (.seq (kp [0,1,5] [Ot 5 (.mov (.c .nil))])
 (.seq (.seq (kp [0,1,5,6] [Oc 6 0])
 (.block 0 (.loop (.seq (.seq (kp [0,1,5,6,11] [Om 9 6,
 Om 10 1,
 Ot 11 (.bin .lss (.t 9) (.t 10))])
 (.cond (.t 11) .skip
 (.exit 0)))
 (.seq (.block 1 (.gh (kp [0,1,5,6] [Om 14 5,
 Om 15 1,
 Ot 16 (.new (.mks 1 8 (.int .i64 0)) [.t 15,.t 15]),
 Ot 17 (.new (.bsl 1) [.t 16]),
 Ot 18 (.eff (.app 1 24) [.t 14,.t 17]),
 Om 5 18])))
 (kp [0,1,5,6] [Om 12 6,
 Ot 13 (.bin .add (.t 12) (ci 1)),
 Om 6 13]))))))
 (.seq (.seq (kp [0,1,5,7] [Oc 7 0])
 (.block 2 (.loop (.seq (.seq (kp [0,1,5,7,27] [Om 19 7,
 Om 20 1,
 Ot 21 (.bin .lss (.t 19) (.t 20)),
 Om 22 21,
 Oh 23 22 (.mov (.t 7)),
 Oh 24 22 (.mov (.t 0)),
 Oh 25 22 (.len false (.t 24)),
 Oh 26 22 (.bin .lss (.t 23) (.t 25)),
 Ot 27 (.pick (.t 22) (.t 26) (.c (.bool false)))])
 (.cond (.t 27) .skip
 (.exit 2)))
 (.seq (.block 3 (.seq (kp [0,1,5,7,8] [Oc 8 0])
 (.block 4 (.loop (.seq (.seq (kp [0,1,5,7,8,41] [Om 30 8,
 Om 31 7,
 Ot 32 (.bin .leq (.t 30) (.t 31)),
 Om 33 32,
 Oh 34 33 (.mov (.t 8)),
 Oh 35 33 (.mov (.t 0)),
 Oh 36 33 (.mov (.t 7)),
 Oh 37 33 (.idxA 1 (.t 35) (.t 36)),
 Oh 38 33 (.load 1 false (.t 37)),
 Oh 39 33 (.len false (.t 38)),
 Oh 40 33 (.bin .lss (.t 34) (.t 39)),
 Ot 41 (.pick (.t 33) (.t 40) (.c (.bool false)))])
 (.cond (.t 41) .skip
 (.exit 4)))
 (.seq (.block 5 (.seq (kd [0,1,5,7,8] [Om 44 5,
 Om 45 7,
 Oi 46 1 44 45,
 Ol 47 1 46,
 Om 48 8,
 Om 49 0,
 Om 50 7,
 Oi 51 1 49 50,
 Ol 52 1 51,
 Om 53 8,
 Oi 54 1 52 53,
 Ol 55 1 54,
 Oi 56 1 47 48,
 Oy 1 56 55])
 (kd [0,1,5,7,8] [Om 57 5,
 Om 58 8,
 Oi 59 1 57 58,
 Ol 60 1 59,
 Om 61 7,
 Om 62 0,
 Om 63 7,
 Oi 64 1 62 63,
 Ol 65 1 64,
 Om 66 8,
 Oi 67 1 65 66,
 Ol 68 1 67,
 Oi 69 1 60 61,
 Oy 1 69 68])))
 (kp [0,1,5,7,8] [Om 42 8,
 Ot 43 (.bin .add (.t 42) (ci 1)),
 Om 8 43])))))))
 (kp [0,1,5,7] [Om 28 7,
 Ot 29 (.bin .add (.t 28) (ci 1)),
 Om 7 29]))))))
 (.seq (kp [4] [Om 70 5,
 Om 4 70])
 .ret)))))
def gimballaw20_mirror.res : List RX := [(4, none)]
theorem gimballaw20_mirror.of : OfT pg zen gimballaw20_mirror.k gimballaw20_mirror.res 2 := OfI Tryz.func55
end Go.Gim
/- Functions' code as data (written by wip/tools/gen.py), and the step to their contracts. -/
set_option maxRecDepth 100000
namespace Go.Gim
open Go.Proofs
def gimbalref20_Out.k : K :=
 (.seq (kp [1,2,3,6] [Ot 3 (.boxP (.t 0)),
 Ot 6 (.alloc 8 (.agg [(.int .i64 0),.nil,.nil,.nil,(.bool false),(.sl []),(.bool false),(.sl [])])),
 Oc 7 0])
 (.seq (kp [1,2,3,6,8] [Om 25 1,
 Ot 26 (.callG zdn [.t 25]),
 Om 8 26])
 (.seq (.seq (kp [1,2,3,6,35] [Om 27 1,
 On 28 27,
 Oq 29 0 1 3,
 Ol 30 1 29,
 Ot 31 (.bin .neq (.t 28) (.t 30)),
 Om 32 31,
 Og 33 32 (.mov (.t 8)),
 Og 34 32 (.un .not (.t 33)),
 Ot 35 (.pick (.t 32) (.c (.bool true)) (.t 34))])
 (.cond (.t 35) (.seq (kp [6,7] [Ot 36 (.build [(.int .i64 0),.nil,.nil,.nil,(.bool false),(.sl []),(.bool false),(.sl [])] []),
 Oy 8 6 36,
 Oc 7 170])
 .ret)
 .skip))
 (.seq (.seq (kp [1,2,3,6,44] [Om 37 2,
 Ot 38 (.bin .lss (.t 37) (ci 0)),
 Om 39 38,
 Og 40 39 (.mov (.t 2)),
 Og 41 39 (.fldA 0 1 false (.t 3)),
 Og 42 39 (.load 1 false (.t 41)),
 Og 43 39 (.bin .geq (.t 40) (.t 42)),
 Ot 44 (.pick (.t 39) (.c (.bool true)) (.t 43))])
 (.cond (.t 44) (.seq (kp [6,7] [Ot 45 (.build [(.int .i64 0),.nil,.nil,.nil,(.bool false),(.sl []),(.bool false),(.sl [])] []),
 Oy 8 6 45,
 Oc 7 1])
 .ret)
 .skip))
 (.seq (kp [2,3,6,9,10] [OL 47 8 3,
 Om 48 1,
 Om 49 2,
 Ot 50 (.callG zdm [.t 47,.t 48,.t 49]),
 Om 46 50,
 Ot 51 (.ext (.t 46) 0),
 Ot 52 (.ext (.t 46) 1),
 Ot 9 (.alloc 4 (.agg [.nil,.nil,(.bool false),(.sl [])])),
 Ot 10 (.alloc 2 (.agg [(.bool false),(.sl [])])),
 Oy 4 9 51,
 Oy 2 10 52])
 (.seq (kp [2,3,6,10,11,12,13] [OL 54 4 9,
 Om 55 2,
 Ot 56 (.callG zc2 [.t 54,.t 55]),
 Om 53 56,
 Ot 57 (.ext (.t 53) 0),
 Ot 58 (.ext (.t 53) 1),
 Ot 59 (.ext (.t 53) 2),
 Ot 11 (.alloc 4 (.agg [.nil,.nil,(.bool false),(.sl [])])),
 Ot 12 (.alloc 2 (.agg [(.bool false),(.sl [])])),
 Oy 4 11 57,
 Oy 2 12 58,
 Om 13 59])
 (.seq (.seq (kp [2,3,6,10,11,12,61] [Om 60 13,
 Ot 61 (.un .not (.t 60))])
 (.cond (.t 61) (.seq (kp [6,7] [Ot 62 (.build [(.int .i64 0),.nil,.nil,.nil,(.bool false),(.sl []),(.bool false),(.sl [])] []),
 Oy 8 6 62,
 Oc 7 80])
 .ret)
 .skip))
 (.seq (kp [2,3,6,10,11] [OL 63 2 10,
 OL 64 2 12,
 Ot 65 (.callG zak [.t 63,.t 64]),
 Oy 2 10 65])
 (.seq (kp [2,3,6,10,11,14] [Oq 66 0 1 3,
 Ol 67 1 66,
 Om 68 2,
 Ot 69 (.bin .sub (.t 67) (.t 68)),
 Om 14 69])
 (.seq (kp [2,3,6,10,11,14,15] [Om 70 14,
 Ot 71 (.callG zam [ci 1024]),
 Ot 72 (.build [(.int .i64 0),.nil,.nil,.nil,(.bool false),(.sl []),(.bool false),(.sl [])] [(0,1,(.t 70)),(6,2,(.t 71))]),
 Ot 15 (.alloc 8 (.agg [(.int .i64 0),.nil,.nil,.nil,(.bool false),(.sl []),(.bool false),(.sl [])])),
 Oy 8 15 72])
 (.seq (kp [2,3,6,10,11,14,15,16] [Ot 73 (.fldA 2 2 true (.t 11)),
 OL 74 2 73,
 OL 75 2 10,
 Ot 76 (.callG zcj [.t 74,.t 75]),
 Ot 77 (.build [.nil,.nil,(.bool false),(.sl [])] [(2,2,(.t 76))]),
 Ot 16 (.alloc 4 (.agg [.nil,.nil,(.bool false),(.sl [])])),
 Oy 4 16 77])
 (.seq (.seq (kp [2,3,6,10,11,14,15,16,17] [Oc 17 0])
 (.block 0 (.loop (.seq (.seq (kp [2,3,6,10,11,14,15,16,17,80] [Om 78 17,
 Om 79 14,
 Ot 80 (.bin .lss (.t 78) (.t 79))])
 (.cond (.t 80) .skip
 (.exit 0)))
 (.seq (.block 1 (.seq (kd [2,3,6,10,11,14,15,16,17] [Oq 83 1 1 16,
 Ol 84 1 83,
 Oq 85 1 1 11,
 Ol 86 1 85,
 Om 87 17,
 Oi 88 2 86 87,
 OL 89 2 88,
 OL 90 2 10,
 Ot 91 (.call zcj [.t 89,.t 90]),
 Ot 92 (.new (.bsl 2) [.t 91]),
 Ot 93 (.eff (.app 2 32) [.t 84,.t 92]),
 Oq 94 1 1 16,
 Oy 1 94 93])
 (.seq (kp [2,3,6,10,11,14,15,16,17,18] [Ot 18 (.mov (.c .nil))])
 (.seq (.seq (kp [2,3,6,10,11,14,15,16,17,18,19] [Oc 19 0])
 (.block 2 (.loop (.seq (.seq (kp [2,3,6,10,11,14,15,16,17,18,19,97] [Om 95 19,
 Om 96 14,
 Ot 97 (.bin .lss (.t 95) (.t 96))])
 (.cond (.t 97) .skip
 (.exit 2)))
 (.seq (.block 3 (.seq (kd [2,3,6,10,11,14,15,16,17,18,19,20] [Oq 100 0 1 11,
 Ol 101 1 100,
 Om 102 17,
 Oi 103 1 101 102,
 Ol 104 1 103,
 Om 105 19,
 Oi 106 2 104 105,
 OL 107 2 106,
 OL 108 2 10,
 Ot 109 (.call zcj [.t 107,.t 108]),
 Ot 20 (.alloc 2 (.agg [(.bool false),(.sl [])])),
 Oy 2 20 109])
 (.seq (.seq (kp [2,3,6,10,11,14,15,16,17,18,19,20,112] [Om 110 17,
 Om 111 19,
 Ot 112 (.bin .eql (.t 110) (.t 111))])
 (.cond (.t 112) (kd [2,3,6,10,11,14,15,16,17,18,19,20] [OL 113 2 20,
 Om 114 14,
 Ot 115 (.call zam [.t 114]),
 Ot 116 (.call zbj [.t 113,.t 115]),
 Oy 2 20 116])
 .skip))
 (kp [2,3,6,10,11,14,15,16,17,18,19] [Om 117 18,
 OL 118 2 20,
 Ot 119 (.new (.bsl 2) [.t 118]),
 Ot 120 (.eff (.app 2 32) [.t 117,.t 119]),
 Om 18 120]))))
 (kp [2,3,6,10,11,14,15,16,17,18,19] [Om 98 19,
 Ot 99 (.bin .add (.t 98) (ci 1)),
 Om 19 99]))))))
 (.gh (kp [2,3,6,10,11,14,15,16,17] [Oq 121 0 1 16,
 Ol 122 1 121,
 Om 123 18,
 Ot 124 (.new (.bsl 1) [.t 123]),
 Ot 125 (.eff (.app 1 24) [.t 122,.t 124]),
 Oq 126 0 1 16,
 Oy 1 126 125]))))))
 (kp [2,3,6,10,11,14,15,16,17] [Om 81 17,
 Ot 82 (.bin .add (.t 81) (ci 1)),
 Om 17 82]))))))
 (.seq (kp [2,3,6,14,15,16,21] [Oq 127 0 1 16,
 Ol 128 1 127,
 Ot 129 (.callG zb5 [.t 128]),
 Om 21 129])
 (.seq (.seq (kp [2,3,6,14,15,16,131] [Om 130 21,
 Ot 131 (.un .not (.t 130))])
 (.cond (.t 131) (kp [2,3,6,15,16] [Om 132 14,
 Ot 133 (.callG zfj [.t 132]),
 Oy 4 16 133])
 .skip))
 (.seq (kp [2,3,6,15] [OL 134 4 16,
 Ot 135 (.fldA 2 4 true (.t 15)),
 Oy 4 135 134])
 (.seq (.seq (kp [2,3,6,15,22] [Oc 22 0])
 (.block 4 (.loop (.seq (.seq (kp [2,3,6,15,22,140] [Om 136 22,
 Oq 137 1 1 3,
 Ol 138 1 137,
 On 139 138,
 Ot 140 (.bin .lss (.t 136) (.t 139))])
 (.cond (.t 140) .skip
 (.exit 4)))
 (.seq (.block 5 (.seq (kp [2,3,6,15,22,23] [Oq 143 1 1 3,
 Ol 144 1 143,
 Om 145 22,
 Oi 146 4 144 145,
 OL 147 4 146,
 Om 148 2,
 Ot 149 (.callG zc7 [.t 147,.t 148]),
 Om 23 149])
 (.seq (kp [2,3,6,15,22,151] [Om 150 23,
 Ot 151 (.un .not (.t 150))])
 (.cond (.t 151) (.seq (kp [2,3,6,15,22,24] [Oq 152 1 1 3,
 Ol 153 1 152,
 Om 154 22,
 Oi 155 4 153 154,
 OL 156 4 155,
 Ot 24 (.alloc 4 (.agg [(.sl []),(.int .i64 0),(.int .i64 0),(.int .i64 0)])),
 Oy 4 24 156])
 (.seq (kp [2,3,6,15,22,24] [Oq 157 1 1 3,
 Ol 158 1 157,
 Om 159 22,
 Oi 160 4 158 159,
 Oq 161 0 1 160,
 Ol 162 1 161,
 Om 163 2,
 Ot 164 (.red (.slc 1 true false false) [.t 162,.t 163]),
 Oq 165 0 1 24,
 Oy 1 165 164])
 (.gh (kp [2,3,6,15,22] [Oq 166 1 1 15,
 Ol 167 1 166,
 OL 168 4 24,
 Ot 169 (.new (.bsl 4) [.t 168]),
 Ot 170 (.eff (.app 4 48) [.t 167,.t 169]),
 Oq 171 1 1 15,
 Oy 1 171 170]))))
 .skip))))
 (kp [2,3,6,15,22] [Om 141 22,
 Ot 142 (.bin .add (.t 141) (ci 1)),
 Om 22 142]))))))
 (.seq (kp [6,7] [OL 172 8 15,
 Oy 8 6 172,
 Oc 7 0])
 .ret)))))))))))))))))
def gimbalref20_Out.res : List RX := [(6, some (8, true)), (7, none)]
theorem gimbalref20_Out.of : OfT pg zdd gimbalref20_Out.k gimbalref20_Out.res 3 := OfI Tryz.func14
def gimbalref20_Whole.k : K :=
 (.seq (kp [1,2,3,6,7] [Ot 3 (.boxP (.t 0)),
 Ot 6 (.alloc 4 (.agg [.nil,.nil,(.bool false),(.sl [])])),
 Ot 7 (.alloc 2 (.agg [(.bool false),(.sl [])]))])
 (.seq (kp [1,2,3,6,7,8] [Ot 21 (.callG zam [ci 1024]),
 Ot 8 (.alloc 2 (.agg [(.bool false),(.sl [])])),
 Oy 2 8 21])
 (.seq (kp [1,2,3,6,7,8,9] [Ot 22 (.fldA 2 4 true (.t 3)),
 Ot 23 (.fldA 2 2 true (.t 22)),
 OL 24 2 23,
 OL 25 2 8,
 Ot 26 (.callG zak [.t 24,.t 25]),
 Ot 27 (.build [.nil,.nil,(.bool false),(.sl [])] [(2,2,(.t 26))]),
 Ot 9 (.alloc 4 (.agg [.nil,.nil,(.bool false),(.sl [])])),
 Oy 4 9 27])
 (.seq (.seq (kp [1,2,3,6,7,8,9,10] [Oc 10 0])
 (.block 0 (.loop (.seq (.seq (kp [1,2,3,6,7,8,9,10,31] [Om 28 10,
 Oq 29 0 1 3,
 Ol 30 1 29,
 Ot 31 (.bin .lss (.t 28) (.t 30))])
 (.cond (.t 31) .skip
 (.exit 0)))
 (.seq (.block 1 (.seq (kd [1,2,3,6,7,8,9,10] [Oq 34 1 1 9,
 Ol 35 1 34,
 Ot 36 (.fldA 2 4 true (.t 3)),
 Oq 37 1 1 36,
 Ol 38 1 37,
 Om 39 10,
 Oi 40 2 38 39,
 OL 41 2 40,
 OL 42 2 8,
 Ot 43 (.call zak [.t 41,.t 42]),
 Ot 44 (.new (.bsl 2) [.t 43]),
 Ot 45 (.eff (.app 2 32) [.t 35,.t 44]),
 Oq 46 1 1 9,
 Oy 1 46 45])
 (.seq (kp [1,2,3,6,7,8,9,10,11] [Ot 11 (.mov (.c .nil))])
 (.seq (.seq (kp [1,2,3,6,7,8,9,10,11,12] [Oc 12 0])
 (.block 2 (.loop (.seq (.seq (kp [1,2,3,6,7,8,9,10,11,12,50] [Om 47 12,
 Oq 48 0 1 3,
 Ol 49 1 48,
 Ot 50 (.bin .lss (.t 47) (.t 49))])
 (.cond (.t 50) .skip
 (.exit 2)))
 (.seq (.block 3 (kd [1,2,3,6,7,8,9,10,11,12] [Om 53 11,
 Ot 54 (.fldA 2 4 true (.t 3)),
 Oq 55 0 1 54,
 Ol 56 1 55,
 Om 57 10,
 Oi 58 1 56 57,
 Ol 59 1 58,
 Om 60 12,
 Oi 61 2 59 60,
 OL 62 2 61,
 OL 63 2 8,
 Ot 64 (.call zak [.t 62,.t 63]),
 Ot 65 (.new (.bsl 2) [.t 64]),
 Ot 66 (.eff (.app 2 32) [.t 53,.t 65]),
 Om 11 66]))
 (kp [1,2,3,6,7,8,9,10,11,12] [Om 51 12,
 Ot 52 (.bin .add (.t 51) (ci 1)),
 Om 12 52]))))))
 (.gh (kp [1,2,3,6,7,8,9,10] [Oq 67 0 1 9,
 Ol 68 1 67,
 Om 69 11,
 Ot 70 (.new (.bsl 1) [.t 69]),
 Ot 71 (.eff (.app 1 24) [.t 68,.t 70]),
 Oq 72 0 1 9,
 Oy 1 72 71]))))))
 (kp [1,2,3,6,7,8,9,10] [Om 32 10,
 Ot 33 (.bin .add (.t 32) (ci 1)),
 Om 10 33]))))))
 (.seq (.seq (kp [1,2,3,6,7,8,9,13] [Oc 13 0])
 (.block 4 (.loop (.seq (.seq (kp [1,2,3,6,7,8,9,13,77] [Om 73 13,
 Oq 74 1 1 3,
 Ol 75 1 74,
 On 76 75,
 Ot 77 (.bin .lss (.t 73) (.t 76))])
 (.cond (.t 77) .skip
 (.exit 4)))
 (.seq (.block 5 (.seq (kp [1,2,3,6,7,8,9,13,14] [Oq 80 1 1 3,
 Ol 81 1 80,
 Om 82 13,
 Oi 83 4 81 82,
 OL 84 4 83,
 Ot 14 (.alloc 4 (.agg [(.sl []),(.int .i64 0),(.int .i64 0),(.int .i64 0)])),
 Oy 4 14 84])
 (.seq (kp [1,2,3,6,7,8,9,13,14,15] [OL 85 4 14,
 Om 86 2,
 Ot 87 (.callG zc7 [.t 85,.t 86]),
 Om 15 87])
 (.seq (.seq (kp [1,2,3,6,7,8,9,13,14,89] [Om 88 15,
 Ot 89 (.un .not (.t 88))])
 (.cond (.t 89) (.exit 5)
 .skip))
 (.seq (kd [1,2,3,6,7,8,9,13,14,16] [Ot 90 (.fldA 6 2 true (.t 3)),
 OL 91 2 90,
 Oq 92 3 1 14,
 Ol 93 1 92,
 OL 94 4 14,
 Om 95 1,
 Ot 96 (.call zex [.t 94,.t 95]),
 Ot 97 (.bin .mul (.t 93) (.t 96)),
 Ot 98 (.call zam [.t 97]),
 Ot 99 (.call zak [.t 91,.t 98]),
 Ot 16 (.alloc 2 (.agg [(.bool false),(.sl [])])),
 Oy 2 16 99])
 (.seq (kp [1,2,3,6,7,8,9,13,14,16,17] [Oq 100 1 1 14,
 Ol 101 1 100,
 Ot 102 (.callG zam [.t 101]),
 Ot 17 (.alloc 2 (.agg [(.bool false),(.sl [])])),
 Oy 2 17 102])
 (.seq (kd [1,2,3,6,7,8,9,13,14,16,17] [Ot 103 (.fldA 2 2 true (.t 9)),
 OL 104 2 103,
 OL 105 2 16,
 OL 106 2 17,
 Ot 107 (.call zak [.t 105,.t 106]),
 OL 108 2 17,
 Ot 109 (.call zak [.t 107,.t 108]),
 Ot 110 (.call za2 [.t 104,.t 109]),
 Ot 111 (.fldA 2 2 true (.t 9)),
 Oy 2 111 110])
 (.seq (kp [1,2,3,6,7,8,9,13,14,16,17,18] [Oc 18 0])
 (.block 6 (.loop (.seq (.seq (kp [1,2,3,6,7,8,9,13,14,16,17,18,115] [Om 112 18,
 Oq 113 0 1 3,
 Ol 114 1 113,
 Ot 115 (.bin .lss (.t 112) (.t 114))])
 (.cond (.t 115) .skip
 (.exit 6)))
 (.seq (.block 7 (.seq (kd [1,2,3,6,7,8,9,13,14,16,17,18,19] [OL 118 2 16,
 Oq 119 0 1 14,
 Ol 120 1 119,
 Om 121 18,
 Oi 122 1 120 121,
 Ol 123 1 122,
 Ot 124 (.call zam [.t 123]),
 Ot 125 (.call zak [.t 118,.t 124]),
 Ot 19 (.alloc 2 (.agg [(.bool false),(.sl [])])),
 Oy 2 19 125])
 (.seq (kd [1,2,3,6,7,8,9,13,14,16,17,18,19] [Oq 126 1 1 9,
 Ol 127 1 126,
 Om 128 18,
 Oq 129 1 1 9,
 Ol 130 1 129,
 Om 131 18,
 Oi 132 2 130 131,
 OL 133 2 132,
 OL 134 2 19,
 OL 135 2 17,
 Ot 136 (.call zak [.t 134,.t 135]),
 Ot 137 (.call za2 [.t 133,.t 136]),
 Oi 138 2 127 128,
 Oy 2 138 137])
 (.seq (kp [1,2,3,6,7,8,9,13,14,16,17,18,19,20] [Oc 20 0])
 (.block 8 (.loop (.seq (.seq (kp [1,2,3,6,7,8,9,13,14,16,17,18,19,20,142] [Om 139 20,
 Oq 140 0 1 3,
 Ol 141 1 140,
 Ot 142 (.bin .lss (.t 139) (.t 141))])
 (.cond (.t 142) .skip
 (.exit 8)))
 (.seq (.block 9 (kd [1,2,3,6,7,8,9,13,14,16,17,18,19,20] [Oq 145 0 1 9,
 Ol 146 1 145,
 Om 147 18,
 Oi 148 1 146 147,
 Ol 149 1 148,
 Om 150 20,
 Oq 151 0 1 9,
 Ol 152 1 151,
 Om 153 18,
 Oi 154 1 152 153,
 Ol 155 1 154,
 Om 156 20,
 Oi 157 2 155 156,
 OL 158 2 157,
 OL 159 2 19,
 Oq 160 0 1 14,
 Ol 161 1 160,
 Om 162 20,
 Oi 163 1 161 162,
 Ol 164 1 163,
 Ot 165 (.call zam [.t 164]),
 Ot 166 (.call zak [.t 159,.t 165]),
 Ot 167 (.call za2 [.t 158,.t 166]),
 Oi 168 2 149 150,
 Oy 2 168 167]))
 (kp [1,2,3,6,7,8,9,13,14,16,17,18,19,20] [Om 143 20,
 Ot 144 (.bin .add (.t 143) (ci 1)),
 Om 20 144])))))))))
 (kp [1,2,3,6,7,8,9,13,14,16,17,18] [Om 116 18,
 Ot 117 (.bin .add (.t 116) (ci 1)),
 Om 18 117])))))))))))))
 (kp [1,2,3,6,7,8,9,13] [Om 78 13,
 Ot 79 (.bin .add (.t 78) (ci 1)),
 Om 13 79]))))))
 (.seq (kd [6,7] [OL 169 4 9,
 Ot 170 (.fldA 6 2 true (.t 3)),
 Ot 171 (.loadN 2 true (.t 170) [6]),
 Ot 172 (.loadN 2 true (.t 8) [6]),
 Ot 173 (.call zak [.t 171,.t 172]),
 Oy 4 6 169,
 Oy 2 7 173])
 .ret))))))
def gimbalref20_Whole.res : List RX := [(6, some (4, true)), (7, some (2, true))]
theorem gimbalref20_Whole.of : OfT pg zdm gimbalref20_Whole.k gimbalref20_Whole.res 3 := OfI Tryz.func17
def gimbalref20_Touches.k : K :=
 (.seq (kp [1,2] [Ot 2 (.boxP (.t 0)),
 Ot 4 (.mov (.c (.bool false)))])
 (.seq (.seq (kp [1,2,5] [Oc 5 0])
 (.block 0 (.loop (.seq (.seq (kp [1,2,5,8] [Om 6 5,
 Om 7 1,
 Ot 8 (.bin .lss (.t 6) (.t 7))])
 (.cond (.t 8) .skip
 (.exit 0)))
 (.seq (.block 1 (.seq (kp [1,2,5,16] [Oq 11 0 1 2,
 Ol 12 1 11,
 Om 13 5,
 Oi 14 1 12 13,
 Ol 15 1 14,
 Ot 16 (.bin .neq (.t 15) (ci 0))])
 (.cond (.t 16) (.seq (kp [4] [Ot 4 (.mov (.c (.bool true)))])
 .ret)
 .skip)))
 (kp [1,2,5] [Om 9 5,
 Ot 10 (.bin .add (.t 9) (ci 1)),
 Om 5 10]))))))
 (.seq (kp [4] [Ot 4 (.mov (.c (.bool false)))])
 .ret)))
def gimbalref20_Touches.res : List RX := [(4, none)]
theorem gimbalref20_Touches.of : OfT pg zc7 gimbalref20_Touches.k gimbalref20_Touches.res 2 := OfI Tryz.func24
def gimbalref20_down.k : K :=
 (.seq (kp [2,3,4] [Ot 2 (.boxP (.t 0)),
 Ot 3 (.boxP (.t 1)),
 Ot 4 (.alloc 2 (.agg [(.bool false),(.sl [])]))])
 (.seq (kd [4,5] [OL 9 2 2,
 Ot 10 (.call zam [ci 1024]),
 Ot 11 (.call zak [.t 9,.t 10]),
 OL 12 2 3,
 Ot 13 (.call zee [.t 11,.t 12]),
 Om 8 13,
 Ot 14 (.ext (.t 8) 0),
 Ot 15 (.ext (.t 8) 1),
 Ot 16 (.ext (.t 8) 2),
 Ot 5 (.alloc 2 (.agg [(.bool false),(.sl [])])),
 Ot 6 (.alloc 2 (.agg [(.bool false),(.sl [])])),
 Oy 2 5 14,
 Oy 2 6 15,
 Om 7 16])
 (.seq (kp [4] [OL 17 2 5,
 Oy 2 4 17])
 .ret)))
def gimbalref20_down.res : List RX := [(4, some (2, true))]
theorem gimbalref20_down.of : OfT pg zcj gimbalref20_down.k gimbalref20_down.res 2 := OfI Tryz.func66
def gimbalref20_Zero.k : K :=
 (.seq (kp [0,2] [Ot 2 (.alloc 4 (.agg [.nil,.nil,(.bool false),(.sl [])]))])
 (.seq (kp [0,2,3] [Ot 3 (.mov (.c .nil))])
 (.seq (.seq (kp [0,2,3,4] [Oc 4 0])
 (.block 0 (.loop (.seq (.seq (kp [0,2,3,4,7] [Om 5 4,
 Om 6 0,
 Ot 7 (.bin .lss (.t 5) (.t 6))])
 (.cond (.t 7) .skip
 (.exit 0)))
 (.seq (.block 1 (.gh (kp [0,2,3,4] [Om 10 3,
 Om 11 0,
 Ot 12 (.new (.mks 2 32 (.agg [(.bool false),(.sl [])])) [.t 11,.t 11]),
 Ot 13 (.new (.bsl 1) [.t 12]),
 Ot 14 (.eff (.app 1 24) [.t 10,.t 13]),
 Om 3 14])))
 (kp [0,2,3,4] [Om 8 4,
 Ot 9 (.bin .add (.t 8) (ci 1)),
 Om 4 9]))))))
 (.seq (kp [2] [Om 15 3,
 Om 16 0,
 Ot 17 (.new (.mks 2 32 (.agg [(.bool false),(.sl [])])) [.t 16,.t 16]),
 Ot 18 (.build [.nil,.nil,(.bool false),(.sl [])] [(0,1,(.t 15)),(1,1,(.t 17))]),
 Oy 4 2 18])
 .ret))))
def gimbalref20_Zero.res : List RX := [(2, some (4, true))]
theorem gimbalref20_Zero.of : OfT pg zfj gimbalref20_Zero.k gimbalref20_Zero.res 1 := OfI Tryz.func69
end Go.Gim

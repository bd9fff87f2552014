import Derived.Test.YtjmbcnfhonfpkaaGreatDoorGN
/- Functions' code as data (written by wip/tools/gen.py), and the step to their contracts. -/
set_option maxRecDepth 100000
namespace Go.Gim
open Go.Proofs
def long_Of.k : K :=
 (.seq (kp [0,2] [Ot 2 (.alloc 2 (.agg [(.bool false),.nil]))])
 (.seq (kp [0,2,3] [Om 4 0,
 Ot 5 (.conv .u64 (.t 4)),
 Om 3 5])
 (.seq (.seq (kp [0,2,3,7] [Om 6 0,
 Ot 7 (.bin .lss (.t 6) (ci 0))])
 (.cond (.t 7) (kp [0,2,3] [Om 8 3,
 Ot 9 (.un .neg (.t 8)),
 Om 3 9])
 .skip))
 (.seq (kp [2] [Om 10 0,
 Ot 11 (.bin .lss (.t 10) (ci 0)),
 Om 12 3,
 Ot 13 (.conv .u32 (.t 12)),
 Om 14 3,
 Ot 15 (.bin .shr (.t 14) (.c (.int .u64 32))),
 Ot 16 (.conv .u32 (.t 15)),
 Ot 17 (.new (.bsl 1) [.t 13,.t 16]),
 Ot 18 (.callG zcm [.t 11,.t 17]),
 Oy 2 2 18])
 .ret))))
def long_Of.res : List RX := [(2, some (2, true))]
theorem long_Of.of : OfT pg zav long_Of.k long_Of.res 1 := OfI Tryz.func59
def long_made.k : K :=
 (.seq (kp [0,1,4] [Ot 4 (.alloc 2 (.agg [(.bool false),.nil]))])
 (.seq (kp [0,1,4,5] [Om 6 1,
 On 7 6,
 Om 5 7])
 (.seq (.block 0 (.loop (.seq (.seq (kp [0,1,4,5,17] [Om 8 5,
 Ot 9 (.bin .gtr (.t 8) (ci 0)),
 Om 10 9,
 Oh 11 10 (.mov (.t 1)),
 Oh 12 10 (.mov (.t 5)),
 Oh 13 10 (.bin .sub (.t 12) (ci 1)),
 Oh 14 10 (.idxA 1 (.t 11) (.t 13)),
 Oh 15 10 (.load 1 false (.t 14)),
 Oh 16 10 (.bin .eql (.t 15) (.c (.int .u32 0))),
 Ot 17 (.pick (.t 10) (.t 16) (.c (.bool false)))])
 (.cond (.t 17) .skip
 (.exit 0)))
 (.keep [0,1,4,5] (.block 1 (kp [0,1,4,5] [Om 18 5,
 Ot 19 (.bin .sub (.t 18) (ci 1)),
 Om 5 19]))))))
 (.seq (kp [4] [Om 20 0,
 Om 21 20,
 Oh 22 21 (.mov (.t 5)),
 Oh 23 21 (.bin .gtr (.t 22) (ci 0)),
 Ot 24 (.pick (.t 21) (.t 23) (.c (.bool false))),
 Om 25 1,
 Om 26 5,
 Om 27 5,
 Ot 28 (.red (.slc 1 false true true) [.t 25,.t 26,.t 27]),
 Ot 29 (.build [(.bool false),.nil] [(0,1,(.t 24)),(1,1,(.t 28))]),
 Oy 2 4 29])
 .ret))))
def long_made.res : List RX := [(4, some (2, true))]
theorem long_made.of : OfT pg zcm long_made.k long_made.res 2 := OfI Tryz.func100
def long_parted.k : K :=
 (.seq (kp [0,1] [Ot 4 (.mov (.c .nil)),
 Ot 5 (.mov (.c .nil))])
 (.seq (.block 0 (.seq (kp [0,1,14] [Om 15 0,
 Om 16 1,
 Ot 17 (.callG n_long_cmp [.t 15,.t 16]),
 Ot 18 (.bin .lss (.t 17) (ci 0)),
 Om 14 18])
 (.cond (.t 14) (.seq (kp [4,5] [Om 19 0,
 Ot 4 (.mov (.c .nil)),
 Om 5 19])
 .ret)
 (.seq (kp [0,1,20] [Om 21 1,
 On 22 21,
 Ot 23 (.bin .eql (.t 22) (ci 1)),
 Om 20 23])
 (.cond (.t 20) (.seq (kp [6,7] [Om 25 0,
 Om 26 1,
 Ot 27 (.idxA 1 (.t 26) (ci 0)),
 Ol 28 1 27,
 Ot 29 (.callG n_long_by [.t 25,.t 28]),
 Om 24 29,
 Ot 30 (.ext (.t 24) 0),
 Ot 31 (.ext (.t 24) 1),
 Om 6 30,
 Om 7 31])
 (.seq (kp [4,5] [Om 32 6,
 Om 33 7,
 Ot 34 (.new (.bsl 1) [.t 33]),
 Om 4 32,
 Om 5 34])
 .ret))
 .skip)))))
 (.seq (kp [0,1,8] [Om 35 1,
 Om 36 1,
 On 37 36,
 Ot 38 (.bin .sub (.t 37) (ci 1)),
 Oi 39 1 35 38,
 Ol 40 1 39,
 Ot 41 (.callG zcp [.t 40]),
 Om 8 41])
 (.seq (kp [1,8,9] [Om 42 0,
 Om 43 8,
 Ot 44 (.callG zdp [.t 42,.t 43]),
 Om 9 44])
 (.seq (kp [4,8,9] [Om 45 9,
 Om 46 1,
 Om 47 8,
 Ot 48 (.callG zdp [.t 46,.t 47]),
 Om 49 1,
 On 50 49,
 Ot 51 (.red (.slc 1 false true false) [.t 48,.t 50]),
 Ot 52 (.callG n_long_long [.t 45,.t 51]),
 Om 4 52])
 (.seq (kp [4,8,10] [Om 53 9,
 Ot 54 (.callG zcm [(.c (.bool false)),.t 53]),
 Ot 55 (.fld 1 1 false (.t 54)),
 Om 10 55])
 (.seq (kp [4,8,10,11] [Om 56 10,
 On 57 56,
 Ot 58 (.new (.mks 1 4 (.int .u32 0)) [.t 57,.t 57]),
 Om 11 58])
 (.seq (.seq (kp [4,8,11,59,60,61] [Om 59 10,
 On 60 59,
 Oc 61 0])
 (.block 1 (.loop (.seq (kp [4,8,11,59,60,61,62] [Ot 62 (.bin .lss (.t 61) (.t 60))])
 (.seq (.cond (.t 62) .skip
 (.exit 1))
 (.seq (.block 2 (.seq (kp [4,8,11,12,13,59,60,61] [Om 63 61,
 Oi 64 1 59 61,
 Ol 65 1 64,
 Om 12 63,
 Om 13 65])
 (.seq (kd [4,8,11,12,13,59,60,61] [Om 66 11,
 Om 67 12,
 Oi 68 1 66 67,
 Ol 69 1 68,
 Om 70 13,
 Om 71 8,
 Ot 72 (.bin .shr (.t 70) (.t 71)),
 Ot 73 (.bin .or (.t 69) (.t 72)),
 Oi 74 1 66 67,
 Oy 1 74 73])
 (.seq (kp [4,8,11,12,13,59,60,61,76] [Om 75 12,
 Ot 76 (.bin .gtr (.t 75) (ci 0))])
 (.cond (.t 76) (kd [4,8,11,59,60,61] [Om 77 11,
 Om 78 12,
 Ot 79 (.bin .sub (.t 78) (ci 1)),
 Oi 80 1 77 79,
 Ol 81 1 80,
 Om 82 13,
 Ot 83 (.conv .u64 (.t 82)),
 Om 84 8,
 Ot 85 (.bin .sub (ci 32) (.t 84)),
 Ot 86 (.bin .shl (.t 83) (.t 85)),
 Ot 87 (.conv .u32 (.t 86)),
 Ot 88 (.bin .or (.t 81) (.t 87)),
 Oi 89 1 77 79,
 Oy 1 89 88])
 .skip)))))
 (kp [4,8,11,59,60,61] [Ot 90 (.bin .add (.t 61) (ci 1)),
 Om 61 90])))))))
 (.seq (kp [4,5] [Om 91 4,
 Om 92 11,
 Om 4 91,
 Om 5 92])
 .ret)))))))))
def long_parted.res : List RX := [(4, none), (5, none)]
theorem long_parted.of : OfT pg ze9 long_parted.k long_parted.res 2 := OfI Tryz.func161
theorem long_parted.ofG : OfTG pg ze9 long_parted.k long_parted.res 2 := OfIG Tryz.func161
def long_plus.k : K :=
 (.seq (kp [0,1] [Ot 4 (.mov (.c .nil))])
 (.seq (.seq (kp [0,1,12] [Om 8 0,
 On 9 8,
 Om 10 1,
 On 11 10,
 Ot 12 (.bin .lss (.t 9) (.t 11))])
 (.cond (.t 12) (kp [0,1] [Om 13 1,
 Om 14 0,
 Om 0 13,
 Om 1 14])
 .skip))
 (.seq (kp [0,1,5] [Om 15 0,
 On 16 15,
 Ot 17 (.bin .add (.t 16) (ci 1)),
 Ot 18 (.new (.mks 1 4 (.int .u32 0)) [.t 17,.t 17]),
 Om 5 18])
 (.seq (kp [1,5] [Om 19 5,
 Om 20 0,
 Ot 21 (.eff (.cpy 1) [.t 19,.t 20])])
 (.seq (kp [1,5,6] [Ot 6 (.mov (.c (.int .u64 0)))])
 (.seq (.seq (kp [1,5,6,23,24] [Om 22 5,
 On 23 22,
 Oc 24 0])
 (.block 0 (.loop (.seq (kp [1,5,6,23,24,25] [Ot 25 (.bin .lss (.t 24) (.t 23))])
 (.seq (.cond (.t 25) .skip
 (.exit 0))
 (.seq (.block 1 (.seq (kp [1,5,6,7,23,24] [Om 26 24,
 Om 7 26])
 (.seq (kp [1,5,6,7,23,24] [Om 27 6,
 Om 28 5,
 Om 29 7,
 Oi 30 1 28 29,
 Ol 31 1 30,
 Ot 32 (.conv .u64 (.t 31)),
 Ot 33 (.bin .add (.t 27) (.t 32)),
 Om 6 33])
 (.seq (.seq (kp [1,5,6,7,23,24,37] [Om 34 7,
 Om 35 1,
 On 36 35,
 Ot 37 (.bin .lss (.t 34) (.t 36))])
 (.cond (.t 37) (kp [1,5,6,7,23,24] [Om 38 6,
 Om 39 1,
 Om 40 7,
 Oi 41 1 39 40,
 Ol 42 1 41,
 Ot 43 (.conv .u64 (.t 42)),
 Ot 44 (.bin .add (.t 38) (.t 43)),
 Om 6 44])
 .skip))
 (.seq (kp [1,5,6,23,24] [Om 45 5,
 Om 46 7,
 Om 47 6,
 Ot 48 (.conv .u32 (.t 47)),
 Oi 49 1 45 46,
 Oy 1 49 48])
 (kp [1,5,6,23,24] [Om 50 6,
 Ot 51 (.bin .shr (.t 50) (.c (.int .u64 32))),
 Om 6 51]))))))
 (kp [1,5,6,23,24] [Ot 52 (.bin .add (.t 24) (ci 1)),
 Om 24 52])))))))
 (.seq (kp [4] [Om 53 5,
 Om 4 53])
 .ret)))))))
def long_plus.res : List RX := [(4, none)]
theorem long_plus.of : OfT pg n_long_plus long_plus.k long_plus.res 2 := OfI Tryz.func176
def long_cmp.k : K :=
 (.seq (kp [0,1] [Oc 4 0])
 (.seq (.seq (kp [0,1,10] [Om 6 0,
 On 7 6,
 Om 8 1,
 On 9 8,
 Ot 10 (.bin .neq (.t 7) (.t 9))])
 (.cond (.t 10) (.seq (.seq (kp [15] [Om 11 0,
 On 12 11,
 Om 13 1,
 On 14 13,
 Ot 15 (.bin .lss (.t 12) (.t 14))])
 (.cond (.t 15) (.seq (kp [4] [Ot 4 (.mov (.c (.int .i64 (-1))))])
 .ret)
 .skip))
 (.seq (kp [4] [Oc 4 1])
 .ret))
 .skip))
 (.seq (.seq (kp [0,1,5] [Om 16 0,
 On 17 16,
 Ot 18 (.bin .sub (.t 17) (ci 1)),
 Om 5 18])
 (.block 0 (.loop (.seq (.seq (kp [0,1,5,20] [Om 19 5,
 Ot 20 (.bin .geq (.t 19) (ci 0))])
 (.cond (.t 20) .skip
 (.exit 0)))
 (.seq (.block 1 (.block 2 (.seq (kd [0,1,5,23] [Om 24 0,
 Om 25 5,
 Oi 26 1 24 25,
 Ol 27 1 26,
 Om 28 1,
 Om 29 5,
 Oi 30 1 28 29,
 Ol 31 1 30,
 Ot 32 (.bin .lss (.t 27) (.t 31)),
 Om 23 32])
 (.cond (.t 23) (.seq (kp [4] [Ot 4 (.mov (.c (.int .i64 (-1))))])
 .ret)
 (.seq (kd [0,1,5,33] [Om 34 0,
 Om 35 5,
 Oi 36 1 34 35,
 Ol 37 1 36,
 Om 38 1,
 Om 39 5,
 Oi 40 1 38 39,
 Ol 41 1 40,
 Ot 42 (.bin .gtr (.t 37) (.t 41)),
 Om 33 42])
 (.cond (.t 33) (.seq (kp [4] [Oc 4 1])
 .ret)
 .skip))))))
 (kp [0,1,5] [Om 21 5,
 Ot 22 (.bin .sub (.t 21) (ci 1)),
 Om 5 22]))))))
 (.seq (kp [4] [Oc 4 0])
 .ret))))
def long_cmp.res : List RX := [(4, none)]
theorem long_cmp.of : OfT pg n_long_cmp long_cmp.k long_cmp.res 2 := OfI Tryz.func177
def long_less.k : K :=
 (.seq (kp [0,1] [Ot 4 (.mov (.c .nil))])
 (.seq (kp [1,5] [Om 9 0,
 Ot 10 (.callG za3 [.t 9]),
 Om 5 10])
 (.seq (kp [1,5,6] [Ot 6 (.mov (.c (.int .u64 0)))])
 (.seq (.seq (kp [1,5,6,12,13] [Om 11 5,
 On 12 11,
 Oc 13 0])
 (.block 0 (.loop (.seq (kp [1,5,6,12,13,14] [Ot 14 (.bin .lss (.t 13) (.t 12))])
 (.seq (.cond (.t 14) .skip
 (.exit 0))
 (.seq (.block 1 (.seq (kp [1,5,6,7,12,13] [Om 15 13,
 Om 7 15])
 (.seq (kp [1,5,7,8,12,13] [Om 16 5,
 Om 17 7,
 Oi 18 1 16 17,
 Ol 19 1 18,
 Ot 20 (.conv .u64 (.t 19)),
 Om 21 6,
 Ot 22 (.bin .sub (.t 20) (.t 21)),
 Om 8 22])
 (.seq (.seq (kp [1,5,7,8,12,13,26] [Om 23 7,
 Om 24 1,
 On 25 24,
 Ot 26 (.bin .lss (.t 23) (.t 25))])
 (.cond (.t 26) (kp [1,5,7,8,12,13] [Om 27 8,
 Om 28 1,
 Om 29 7,
 Oi 30 1 28 29,
 Ol 31 1 30,
 Ot 32 (.conv .u64 (.t 31)),
 Ot 33 (.bin .sub (.t 27) (.t 32)),
 Om 8 33])
 .skip))
 (.seq (kp [1,5,8,12,13] [Om 34 5,
 Om 35 7,
 Om 36 8,
 Ot 37 (.conv .u32 (.t 36)),
 Oi 38 1 34 35,
 Oy 1 38 37])
 (kp [1,5,6,12,13] [Om 39 8,
 Ot 40 (.bin .shr (.t 39) (.c (.int .u64 63))),
 Om 6 40]))))))
 (kp [1,5,6,12,13] [Ot 41 (.bin .add (.t 13) (ci 1)),
 Om 13 41])))))))
 (.seq (kp [4] [Om 42 5,
 Om 4 42])
 .ret)))))
def long_less.res : List RX := [(4, none)]
theorem long_less.ofG : OfTG pg zer long_less.k long_less.res 2 := OfIG Tryz.func178
def long_by.k : K :=
 (.seq (kp [0,1] [Ot 4 (.mov (.c .nil)),
 Ot 5 (.mov (.c (.int .u32 0)))])
 (.seq (kp [0,1,6] [Om 9 0,
 On 10 9,
 Ot 11 (.new (.mks 1 4 (.int .u32 0)) [.t 10,.t 10]),
 Om 6 11])
 (.seq (kp [0,1,6,7] [Ot 7 (.mov (.c (.int .u64 0)))])
 (.seq (.seq (kp [0,1,6,7,8] [Om 12 0,
 On 13 12,
 Ot 14 (.bin .sub (.t 13) (ci 1)),
 Om 8 14])
 (.block 0 (.loop (.seq (.seq (kp [0,1,6,7,8,16] [Om 15 8,
 Ot 16 (.bin .geq (.t 15) (ci 0))])
 (.cond (.t 16) .skip
 (.exit 0)))
 (.seq (.block 1 (.seq (kp [0,1,6,7,8] [Om 19 7,
 Ot 20 (.bin .shl (.t 19) (.c (.int .u64 32))),
 Om 21 0,
 Om 22 8,
 Oi 23 1 21 22,
 Ol 24 1 23,
 Ot 25 (.conv .u64 (.t 24)),
 Ot 26 (.bin .or (.t 20) (.t 25)),
 Om 7 26])
 (.seq (kp [0,1,6,7,8] [Om 27 6,
 Om 28 8,
 Om 29 7,
 Om 30 1,
 Ot 31 (.conv .u64 (.t 30)),
 Ot 32 (.bin .quo (.t 29) (.t 31)),
 Ot 33 (.conv .u32 (.t 32)),
 Oi 34 1 27 28,
 Oy 1 34 33])
 (kp [0,1,6,7,8] [Om 35 7,
 Om 36 1,
 Ot 37 (.conv .u64 (.t 36)),
 Ot 38 (.bin .rem (.t 35) (.t 37)),
 Om 7 38]))))
 (kp [0,1,6,7,8] [Om 17 8,
 Ot 18 (.bin .sub (.t 17) (ci 1)),
 Om 8 18]))))))
 (.seq (kp [4,5] [Om 39 6,
 Om 40 7,
 Ot 41 (.conv .u32 (.t 40)),
 Om 4 39,
 Om 5 41])
 .ret)))))
def long_by.res : List RX := [(4, none), (5, none)]
theorem long_by.of : OfT pg n_long_by long_by.k long_by.res 2 := OfI Tryz.func190
def long_shifted.k : K :=
 (.seq (kp [0,1] [Ot 4 (.mov (.c .nil))])
 (.seq (kp [0,1,5] [Om 9 0,
 On 10 9,
 Ot 11 (.bin .add (.t 10) (ci 1)),
 Ot 12 (.new (.mks 1 4 (.int .u32 0)) [.t 11,.t 11]),
 Om 5 12])
 (.seq (.seq (kp [1,5,13,14,15] [Om 13 0,
 On 14 13,
 Oc 15 0])
 (.block 0 (.loop (.seq (kp [1,5,13,14,15,16] [Ot 16 (.bin .lss (.t 15) (.t 14))])
 (.seq (.cond (.t 16) .skip
 (.exit 0))
 (.seq (.block 1 (.seq (kp [1,5,6,7,13,14,15] [Om 17 15,
 Oi 18 1 13 15,
 Ol 19 1 18,
 Om 6 17,
 Om 7 19])
 (.seq (kp [1,5,6,8,13,14,15] [Om 20 7,
 Ot 21 (.conv .u64 (.t 20)),
 Om 22 1,
 Ot 23 (.bin .shl (.t 21) (.t 22)),
 Om 8 23])
 (.seq (kp [1,5,6,8,13,14,15] [Om 24 5,
 Om 25 6,
 Oi 26 1 24 25,
 Ol 27 1 26,
 Om 28 8,
 Ot 29 (.conv .u32 (.t 28)),
 Ot 30 (.bin .or (.t 27) (.t 29)),
 Oi 31 1 24 25,
 Oy 1 31 30])
 (kp [1,5,13,14,15] [Om 32 5,
 Om 33 6,
 Ot 34 (.bin .add (.t 33) (ci 1)),
 Oi 35 1 32 34,
 Ol 36 1 35,
 Om 37 8,
 Ot 38 (.bin .shr (.t 37) (.c (.int .u64 32))),
 Ot 39 (.conv .u32 (.t 38)),
 Ot 40 (.bin .or (.t 36) (.t 39)),
 Oi 41 1 32 34,
 Oy 1 41 40])))))
 (kp [1,5,13,14,15] [Ot 42 (.bin .add (.t 15) (ci 1)),
 Om 15 42])))))))
 (.seq (kp [4] [Om 43 5,
 Om 4 43])
 .ret))))
def long_shifted.res : List RX := [(4, none)]
theorem long_shifted.ofG : OfTG pg zdp long_shifted.k long_shifted.res 2 := OfIG Tryz.func192
def long_long.k : K :=
 (.seq (kp [0,1] [Ot 4 (.mov (.c .nil))])
 (.seq (kp [0,1,5] [Om 10 1,
 On 11 10,
 Om 5 11])
 (.seq (kp [0,1,5,6] [Om 12 0,
 On 13 12,
 Om 14 5,
 Ot 15 (.bin .sub (.t 13) (.t 14)),
 Ot 16 (.mm true (ci 0) [.t 15]),
 Ot 17 (.new (.mks 1 4 (.int .u32 0)) [.t 16,.t 16]),
 Om 6 17])
 (.seq (.seq (kp [0,1,5,6,7] [Om 18 0,
 On 19 18,
 Om 20 5,
 Ot 21 (.bin .sub (.t 19) (.t 20)),
 Ot 22 (.bin .sub (.t 21) (ci 1)),
 Om 7 22])
 (.block 0 (.loop (.seq (.seq (kp [0,1,5,6,7,24] [Om 23 7,
 Ot 24 (.bin .geq (.t 23) (ci 0))])
 (.cond (.t 24) .skip
 (.exit 0)))
 (.seq (.block 1 (.seq (kd [0,1,5,6,7,8] [Om 27 0,
 Om 28 7,
 Om 29 5,
 Ot 30 (.bin .add (.t 28) (.t 29)),
 Oi 31 1 27 30,
 Ol 32 1 31,
 Ot 33 (.conv .u64 (.t 32)),
 Ot 34 (.bin .shl (.t 33) (.c (.int .u64 32))),
 Om 35 0,
 Om 36 7,
 Om 37 5,
 Ot 38 (.bin .add (.t 36) (.t 37)),
 Ot 39 (.bin .sub (.t 38) (ci 1)),
 Oi 40 1 35 39,
 Ol 41 1 40,
 Ot 42 (.conv .u64 (.t 41)),
 Ot 43 (.bin .or (.t 34) (.t 42)),
 Om 8 43])
 (.seq (kp [0,1,5,6,7,9] [Om 44 8,
 Om 45 1,
 Om 46 5,
 Ot 47 (.bin .sub (.t 46) (ci 1)),
 Oi 48 1 45 47,
 Ol 49 1 48,
 Ot 50 (.conv .u64 (.t 49)),
 Ot 51 (.bin .quo (.t 44) (.t 50)),
 Ot 52 (.mm false (.t 51) [(.c (.int .u64 4294967295))]),
 Om 9 52])
 (.seq (.block 2 (.loop (.seq (.seq (kp [0,1,5,6,7,9,63] [Om 53 0,
 Om 54 7,
 Om 55 7,
 Om 56 5,
 Ot 57 (.bin .add (.t 55) (.t 56)),
 Ot 58 (.bin .add (.t 57) (ci 1)),
 Ot 59 (.win 1 (.t 53) (.t 54) (.t 58)),
 Om 60 1,
 Om 61 9,
 Ot 62 (.conv .u32 (.t 61)),
 Ot 63 (.callG zgb [.t 59,.t 60,.t 62])])
 (.cond (.t 63) .skip
 (.exit 2)))
 (.keep [0,1,5,6,7,9] (.block 3 (kp [0,1,5,6,7,9] [Om 64 9,
 Ot 65 (.bin .sub (.t 64) (.c (.int .u64 1))),
 Om 9 65]))))))
 (kp [0,1,5,6,7] [Om 66 6,
 Om 67 7,
 Om 68 9,
 Ot 69 (.conv .u32 (.t 68)),
 Oi 70 1 66 67,
 Oy 1 70 69])))))
 (kp [0,1,5,6,7] [Om 25 7,
 Ot 26 (.bin .sub (.t 25) (ci 1)),
 Om 7 26]))))))
 (.seq (kp [4] [Om 71 6,
 Om 4 71])
 .ret)))))
def long_long.res : List RX := [(4, none)]
theorem long_long.ofG : OfTG pg n_long_long long_long.k long_long.res 2 := OfIG Tryz.func193
def long_takes.k : K :=
 (.seq (kp [0,1,2] [Ot 6 (.mov (.c (.bool false)))])
 (.seq (kp [0,2,7] [Om 11 1,
 Ot 12 (.callG za3 [.t 11]),
 Ot 13 (.new (.bsl 1) [(.c (.int .u32 0))]),
 Ot 14 (.eff (.app 1 4) [.t 12,.t 13]),
 Om 7 14])
 (.seq (kp [0,2,7,8] [Ot 8 (.mov (.c (.int .u64 0)))])
 (.seq (.seq (kp [0,2,7,8,16,17] [Om 15 7,
 On 16 15,
 Oc 17 0])
 (.block 0 (.loop (.seq (kp [0,2,7,8,16,17,18] [Ot 18 (.bin .lss (.t 17) (.t 16))])
 (.seq (.cond (.t 18) .skip
 (.exit 0))
 (.seq (.block 1 (.seq (kp [0,2,7,8,9,16,17] [Om 19 17,
 Om 9 19])
 (.seq (kp [0,2,7,8,9,16,17] [Om 20 8,
 Om 21 7,
 Om 22 9,
 Oi 23 1 21 22,
 Ol 24 1 23,
 Ot 25 (.conv .u64 (.t 24)),
 Om 26 2,
 Ot 27 (.conv .u64 (.t 26)),
 Ot 28 (.bin .mul (.t 25) (.t 27)),
 Ot 29 (.bin .add (.t 20) (.t 28)),
 Om 8 29])
 (.seq (kp [0,2,7,8,16,17] [Om 30 7,
 Om 31 9,
 Om 32 8,
 Ot 33 (.conv .u32 (.t 32)),
 Oi 34 1 30 31,
 Oy 1 34 33])
 (kp [0,2,7,8,16,17] [Om 35 8,
 Ot 36 (.bin .shr (.t 35) (.c (.int .u64 32))),
 Om 8 36])))))
 (kp [0,2,7,8,16,17] [Ot 37 (.bin .add (.t 17) (ci 1)),
 Om 17 37])))))))
 (.seq (.seq (kp [0,7,10] [Om 38 7,
 On 39 38,
 Ot 40 (.bin .sub (.t 39) (ci 1)),
 Om 10 40])
 (.block 2 (.loop (.seq (.seq (kd [0,7,10,53] [Om 41 10,
 Ot 42 (.bin .geq (.t 41) (ci 0)),
 Om 43 42,
 Oh 44 43 (.mov (.t 0)),
 Oh 45 43 (.mov (.t 10)),
 Oh 46 43 (.idxA 1 (.t 44) (.t 45)),
 Oh 47 43 (.load 1 false (.t 46)),
 Oh 48 43 (.mov (.t 7)),
 Oh 49 43 (.mov (.t 10)),
 Oh 50 43 (.idxA 1 (.t 48) (.t 49)),
 Oh 51 43 (.load 1 false (.t 50)),
 Oh 52 43 (.bin .leq (.t 47) (.t 51)),
 Ot 53 (.pick (.t 43) (.t 52) (.c (.bool false)))])
 (.cond (.t 53) .skip
 (.exit 2)))
 (.seq (.block 3 (.seq (kd [0,7,10,64] [Om 56 0,
 Om 57 10,
 Oi 58 1 56 57,
 Ol 59 1 58,
 Om 60 7,
 Om 61 10,
 Oi 62 1 60 61,
 Ol 63 1 62,
 Ot 64 (.bin .lss (.t 59) (.t 63))])
 (.cond (.t 64) (.seq (kp [6] [Ot 6 (.mov (.c (.bool true)))])
 .ret)
 .skip)))
 (kp [0,7,10] [Om 54 10,
 Ot 55 (.bin .sub (.t 54) (ci 1)),
 Om 10 55]))))))
 (.seq (kp [] [Om 65 0,
 Om 66 0,
 Om 67 7,
 Ot 68 (.callG zer [.t 66,.t 67]),
 Ot 69 (.eff (.cpy 1) [.t 65,.t 68])])
 (.seq (kp [6] [Ot 6 (.mov (.c (.bool false)))])
 .ret)))))))
def long_takes.res : List RX := [(6, none)]
theorem long_takes.ofG : OfTG pg zgb long_takes.k long_takes.res 3 := OfIG Tryz.func209
def long_Int_Mul.k : K :=
 (.seq (kp [2,3,4] [Ot 2 (.boxP (.t 0)),
 Ot 3 (.boxP (.t 1)),
 Ot 4 (.alloc 2 (.agg [(.bool false),.nil]))])
 (.seq (kp [2,3,4,5] [Oq 11 1 1 2,
 Ol 12 1 11,
 On 13 12,
 Oq 14 1 1 3,
 Ol 15 1 14,
 On 16 15,
 Ot 17 (.bin .add (.t 13) (.t 16)),
 Ot 18 (.bin .add (.t 17) (ci 1)),
 Ot 19 (.new (.mks 1 4 (.int .u32 0)) [.t 18,.t 18]),
 Om 5 19])
 (.seq (.seq (kp [2,3,4,5,21,22,23] [Oq 20 1 1 2,
 Ol 21 1 20,
 On 22 21,
 Oc 23 0])
 (.block 0 (.loop (.seq (kp [2,3,4,5,21,22,23,24] [Ot 24 (.bin .lss (.t 23) (.t 22))])
 (.seq (.cond (.t 24) .skip
 (.exit 0))
 (.seq (.block 1 (.seq (kp [2,3,4,5,6,7,21,22,23] [Om 25 23,
 Oi 26 1 21 23,
 Ol 27 1 26,
 Om 6 25,
 Om 7 27])
 (.seq (kp [2,3,4,5,6,7,8,21,22,23] [Ot 8 (.mov (.c (.int .u64 0)))])
 (.seq (.seq (kp [2,3,4,5,6,7,8,21,22,23,29,30,31] [Oq 28 1 1 3,
 Ol 29 1 28,
 On 30 29,
 Oc 31 0])
 (.block 2 (.loop (.seq (kp [2,3,4,5,6,7,8,21,22,23,29,30,31,32] [Ot 32 (.bin .lss (.t 31) (.t 30))])
 (.seq (.cond (.t 32) .skip
 (.exit 2))
 (.seq (.block 3 (.seq (kp [2,3,4,5,6,7,8,9,10,21,22,23,29,30,31] [Om 33 31,
 Oi 34 1 29 31,
 Ol 35 1 34,
 Om 9 33,
 Om 10 35])
 (.seq (kp [2,3,4,5,6,7,8,9,21,22,23,29,30,31] [Om 36 8,
 Om 37 7,
 Ot 38 (.conv .u64 (.t 37)),
 Om 39 10,
 Ot 40 (.conv .u64 (.t 39)),
 Ot 41 (.bin .mul (.t 38) (.t 40)),
 Om 42 5,
 Om 43 6,
 Om 44 9,
 Ot 45 (.bin .add (.t 43) (.t 44)),
 Oi 46 1 42 45,
 Ol 47 1 46,
 Ot 48 (.conv .u64 (.t 47)),
 Ot 49 (.bin .add (.t 41) (.t 48)),
 Ot 50 (.bin .add (.t 36) (.t 49)),
 Om 8 50])
 (.seq (kp [2,3,4,5,6,7,8,21,22,23,29,30,31] [Om 51 5,
 Om 52 6,
 Om 53 9,
 Ot 54 (.bin .add (.t 52) (.t 53)),
 Om 55 8,
 Ot 56 (.conv .u32 (.t 55)),
 Oi 57 1 51 54,
 Oy 1 57 56])
 (kp [2,3,4,5,6,7,8,21,22,23,29,30,31] [Om 58 8,
 Ot 59 (.bin .shr (.t 58) (.c (.int .u64 32))),
 Om 8 59])))))
 (kp [2,3,4,5,6,7,8,21,22,23,29,30,31] [Ot 60 (.bin .add (.t 31) (ci 1)),
 Om 31 60])))))))
 (kp [2,3,4,5,21,22,23] [Om 61 5,
 Om 62 6,
 Oq 63 1 1 3,
 Ol 64 1 63,
 On 65 64,
 Ot 66 (.bin .add (.t 62) (.t 65)),
 Om 67 8,
 Ot 68 (.conv .u32 (.t 67)),
 Oi 69 1 61 66,
 Oy 1 69 68])))))
 (kp [2,3,4,5,21,22,23] [Ot 70 (.bin .add (.t 23) (ci 1)),
 Om 23 70])))))))
 (.seq (kp [4] [Oq 71 0 1 2,
 Ol 72 1 71,
 Oq 73 0 1 3,
 Ol 74 1 73,
 Ot 75 (.eqB true (.t 72) (.t 74)),
 Om 76 5,
 Ot 77 (.callG zcm [.t 75,.t 76]),
 Oy 2 4 77])
 .ret))))
def long_Int_Mul.res : List RX := [(4, some (2, true))]
theorem long_Int_Mul.of : OfT pg zai long_Int_Mul.k long_Int_Mul.res 2 := OfI Tryz.func101
def long_Int_Cmp.k : K :=
 (.seq (kp [2,3] [Ot 2 (.boxP (.t 0)),
 Ot 3 (.boxP (.t 1)),
 Oc 4 0])
 (.seq (kp [4] [OL 5 2 2,
 OL 6 2 3,
 Ot 7 (.callG zc2 [.t 5,.t 6]),
 Ot 8 (.callG zcn [.t 7]),
 Om 4 8])
 .ret))
def long_Int_Cmp.res : List RX := [(4, none)]
theorem long_Int_Cmp.of : OfT pg zcj long_Int_Cmp.k long_Int_Cmp.res 2 := OfI Tryz.func103
def long_Int_Neg.k : K :=
 (.seq (kp [1,2] [Ot 1 (.boxP (.t 0)),
 Ot 2 (.alloc 2 (.agg [(.bool false),.nil]))])
 (.seq (kp [2] [Oq 3 0 1 1,
 Ol 4 1 3,
 Ot 5 (.un .not (.t 4)),
 Oq 6 1 1 1,
 Ol 7 1 6,
 Ot 8 (.callG zcm [.t 5,.t 7]),
 Oy 2 2 8])
 .ret))
def long_Int_Neg.res : List RX := [(2, some (2, true))]
theorem long_Int_Neg.of : OfT pg zc4 long_Int_Neg.k long_Int_Neg.res 1 := OfI Tryz.func104
def long_Int_Quo.k : K :=
 (.seq (kp [2,3,4,5] [Ot 2 (.boxP (.t 0)),
 Ot 3 (.boxP (.t 1)),
 Ot 4 (.alloc 2 (.agg [(.bool false),.nil])),
 Ot 5 (.alloc 2 (.agg [(.bool false),.nil])),
 Oc 6 0])
 (.seq (.seq (kp [2,3,4,5,12] [Oq 9 1 1 3,
 Ol 10 1 9,
 On 11 10,
 Ot 12 (.bin .eql (.t 11) (ci 0))])
 (.cond (.t 12) (.seq (kp [4,5,6] [Ot 13 (.build [(.bool false),.nil] []),
 Ot 14 (.build [(.bool false),.nil] []),
 Oy 2 4 13,
 Oy 2 5 14,
 Oc 6 11])
 .ret)
 .skip))
 (.seq (kp [2,3,4,5,7,8] [Oq 16 1 1 2,
 Ol 17 1 16,
 Oq 18 1 1 3,
 Ol 19 1 18,
 Ot 20 (.callG ze9 [.t 17,.t 19]),
 Om 15 20,
 Ot 21 (.ext (.t 15) 0),
 Ot 22 (.ext (.t 15) 1),
 Om 7 21,
 Om 8 22])
 (.seq (kd [3,4,5] [Oq 23 0 1 2,
 Ol 24 1 23,
 Oq 25 0 1 3,
 Ol 26 1 25,
 Ot 27 (.eqB true (.t 24) (.t 26)),
 Om 28 7,
 Ot 29 (.call zcm [.t 27,.t 28]),
 Oq 30 0 1 2,
 Ot 31 (.loadN 1 false (.t 30) [4]),
 Om 32 8,
 Ot 33 (.call zcm [.t 31,.t 32]),
 Oy 2 4 29,
 Oy 2 5 33])
 (.seq (.seq (kp [3,4,5,43] [OL 34 2 5,
 Ot 35 (.callG zcn [.t 34]),
 Ot 36 (.bin .neq (.t 35) (ci 0)),
 Om 37 36,
 Oh 38 37 (.fldA 0 1 false (.t 5)),
 Oh 39 37 (.load 1 false (.t 38)),
 Oh 40 37 (.fldA 0 1 false (.t 3)),
 Oh 41 37 (.load 1 false (.t 40)),
 Oh 42 37 (.eqB true (.t 39) (.t 41)),
 Ot 43 (.pick (.t 37) (.t 42) (.c (.bool false)))])
 (.cond (.t 43) (kd [4,5] [OL 44 2 4,
 Ot 45 (.call zav [ci 1]),
 Ot 46 (.call zc2 [.t 44,.t 45]),
 Ot 47 (.loadN 2 true (.t 5) [4]),
 Ot 48 (.loadN 2 true (.t 3) [4]),
 Ot 49 (.call zao [.t 47,.t 48]),
 Oy 2 4 46,
 Oy 2 5 49])
 .skip))
 (.seq (kd [4,5,6] [OL 50 2 4,
 Ot 51 (.loadN 2 true (.t 5) [4]),
 Oy 2 4 50,
 Oy 2 5 51,
 Oc 6 0])
 .ret))))))
def long_Int_Quo.res : List RX := [(4, some (2, true)), (5, some (2, true)), (6, none)]
theorem long_Int_Quo.of : OfT pg zc3 long_Int_Quo.k long_Int_Quo.res 2 := OfI Tryz.func121
def long_Int_Small.k : K :=
 (.seq (kp [1] [Ot 1 (.boxP (.t 0)),
 Oc 2 0,
 Ot 3 (.mov (.c (.bool false)))])
 (.seq (kp [1,4] [Ot 8 (.callG zav [(.c (.int .i64 (-9223372036854775808)))]),
 Ot 4 (.alloc 2 (.agg [(.bool false),.nil])),
 Oy 2 4 8])
 (.seq (.seq (kd [1,18] [OL 9 2 1,
 OL 10 2 4,
 Ot 11 (.call zcj [.t 9,.t 10]),
 Ot 12 (.bin .lss (.t 11) (ci 0)),
 Om 13 12,
 Og 14 13 (.load 2 true (.t 1)),
 Og 15 13 (.call zav [ci 9223372036854775807]),
 Og 16 13 (.call zcj [.t 14,.t 15]),
 Og 17 13 (.bin .gtr (.t 16) (ci 0)),
 Ot 18 (.pick (.t 13) (.c (.bool true)) (.t 17))])
 (.cond (.t 18) (.seq (kp [2,3] [Oc 2 0,
 Ot 3 (.mov (.c (.bool false)))])
 .ret)
 .skip))
 (.seq (kp [1,5] [Ot 5 (.mov (.c (.int .u64 0)))])
 (.seq (.seq (kp [1,5,20,21,22] [Oq 19 1 1 1,
 Ol 20 1 19,
 On 21 20,
 Oc 22 0])
 (.block 0 (.loop (.seq (kp [1,5,20,21,22,23] [Ot 23 (.bin .lss (.t 22) (.t 21))])
 (.seq (.cond (.t 23) .skip
 (.exit 0))
 (.seq (.block 1 (.seq (kp [1,5,6,7,20,21,22] [Om 24 22,
 Oi 25 1 20 22,
 Ol 26 1 25,
 Om 6 24,
 Om 7 26])
 (kp [1,5,20,21,22] [Om 27 5,
 Om 28 7,
 Ot 29 (.conv .u64 (.t 28)),
 Om 30 6,
 Ot 31 (.bin .mul (ci 32) (.t 30)),
 Ot 32 (.bin .shl (.t 29) (.t 31)),
 Ot 33 (.bin .or (.t 27) (.t 32)),
 Om 5 33])))
 (kp [1,5,20,21,22] [Ot 34 (.bin .add (.t 22) (ci 1)),
 Om 22 34])))))))
 (.seq (.seq (kp [5,36] [Oq 35 0 1 1,
 Ol 36 1 35])
 (.cond (.t 36) (kp [5] [Om 37 5,
 Ot 38 (.un .neg (.t 37)),
 Om 5 38])
 .skip))
 (.seq (kp [2,3] [Om 39 5,
 Ot 40 (.conv .i64 (.t 39)),
 Om 2 40,
 Ot 3 (.mov (.c (.bool true)))])
 .ret)))))))
def long_Int_Small.res : List RX := [(2, none), (3, none)]
theorem long_Int_Small.of : OfT pg zcr long_Int_Small.k long_Int_Small.res 1 := OfI Tryz.func122
def long_Int_Add.k : K :=
 (.seq (kp [2,3,4] [Ot 2 (.boxP (.t 0)),
 Ot 3 (.boxP (.t 1)),
 Ot 4 (.alloc 2 (.agg [(.bool false),.nil]))])
 (.seq (.block 0 (.seq (kp [2,3,4,5] [Oq 6 0 1 2,
 Ol 7 1 6,
 Oq 8 0 1 3,
 Ol 9 1 8,
 Ot 10 (.eqB false (.t 7) (.t 9)),
 Om 5 10])
 (.cond (.t 5) (.seq (kd [4] [Oq 11 0 1 2,
 Ol 12 1 11,
 Oq 13 1 1 2,
 Ol 14 1 13,
 Oq 15 1 1 3,
 Ol 16 1 15,
 Ot 17 (.call n_long_plus [.t 14,.t 16]),
 Ot 18 (.call zcm [.t 12,.t 17]),
 Oy 2 4 18])
 .ret)
 (.seq (kp [2,3,4,19] [Oq 20 1 1 2,
 Ol 21 1 20,
 Oq 22 1 1 3,
 Ol 23 1 22,
 Ot 24 (.callG n_long_cmp [.t 21,.t 23]),
 Ot 25 (.bin .geq (.t 24) (ci 0)),
 Om 19 25])
 (.cond (.t 19) (.seq (kd [4] [Oq 26 0 1 2,
 Ol 27 1 26,
 Oq 28 1 1 2,
 Ol 29 1 28,
 Oq 30 1 1 3,
 Ol 31 1 30,
 Ot 32 (.call zer [.t 29,.t 31]),
 Ot 33 (.call zcm [.t 27,.t 32]),
 Oy 2 4 33])
 .ret)
 .skip)))))
 (.seq (kd [4] [Oq 34 0 1 3,
 Ol 35 1 34,
 Oq 36 1 1 3,
 Ol 37 1 36,
 Oq 38 1 1 2,
 Ol 39 1 38,
 Ot 40 (.call zer [.t 37,.t 39]),
 Ot 41 (.call zcm [.t 35,.t 40]),
 Oy 2 4 41])
 .ret)))
def long_Int_Add.res : List RX := [(4, some (2, true))]
theorem long_Int_Add.of : OfT pg zao long_Int_Add.k long_Int_Add.res 2 := OfI Tryz.func139
def long_Int_Sub.k : K :=
 (.seq (kp [2,3,4] [Ot 2 (.boxP (.t 0)),
 Ot 3 (.boxP (.t 1)),
 Ot 4 (.alloc 2 (.agg [(.bool false),.nil]))])
 (.seq (kd [4] [OL 5 2 2,
 OL 6 2 3,
 Ot 7 (.call zc4 [.t 6]),
 Ot 8 (.call zao [.t 5,.t 7]),
 Oy 2 4 8])
 .ret))
def long_Int_Sub.res : List RX := [(4, some (2, true))]
theorem long_Int_Sub.of : OfT pg zc2 long_Int_Sub.k long_Int_Sub.res 2 := OfI Tryz.func142
def long_Int_Sign.k : K :=
 (.seq (kp [1] [Ot 1 (.boxP (.t 0)),
 Oc 2 0])
 (.seq (.block 0 (.seq (kp [1,3] [Oq 4 1 1 1,
 Ol 5 1 4,
 On 6 5,
 Ot 7 (.bin .eql (.t 6) (ci 0)),
 Om 3 7])
 (.cond (.t 3) (.seq (kp [2] [Oc 2 0])
 .ret)
 (.seq (kp [8] [Oq 9 0 1 1,
 Ol 10 1 9,
 Om 8 10])
 (.cond (.t 8) (.seq (kp [2] [Ot 2 (.mov (.c (.int .i64 (-1))))])
 .ret)
 .skip)))))
 (.seq (kp [2] [Oc 2 1])
 .ret)))
def long_Int_Sign.res : List RX := [(2, none)]
theorem long_Int_Sign.of : OfT pg zcn long_Int_Sign.k long_Int_Sign.res 1 := OfI Tryz.func143
def slices_Clone_Lint64_int64.k : K :=
 (.seq (kp [0] [Ot 2 (.mov (.c .nil))])
 (.seq (.seq (kp [0,4] [Om 3 0,
 Ot 4 (.isnil 0 false (.t 3))])
 (.cond (.t 4) (.seq (kp [2] [Ot 2 (.mov (.c .nil))])
 .ret)
 .skip))
 (.seq (kp [2] [Ot 5 (.new (.bsl 1) []),
 Om 6 0,
 Ot 7 (.eff (.app 1 8) [.t 5,.t 6]),
 Om 2 7])
 .ret)))
def slices_Clone_Lint64_int64.res : List RX := [(2, none)]
theorem slices_Clone_Lint64_int64.of : OfT pg zam slices_Clone_Lint64_int64.k slices_Clone_Lint64_int64.res 1 := OfI Tryz.func55
theorem slices_Clone_Lint64_int64.ofG : OfTG pg zam slices_Clone_Lint64_int64.k slices_Clone_Lint64_int64.res 1 := OfIG Tryz.func55
def slices_Clone_Llong_Int_long_Int.k : K :=
 (.seq (kp [0] [Ot 2 (.mov (.c .nil))])
 (.seq (.seq (kp [0,4] [Om 3 0,
 Ot 4 (.isnil 0 false (.t 3))])
 (.cond (.t 4) (.seq (kp [2] [Ot 2 (.mov (.c .nil))])
 .ret)
 .skip))
 (.seq (kp [2] [Ot 5 (.new (.bsl 2) []),
 Om 6 0,
 Ot 7 (.eff (.app 2 32) [.t 5,.t 6]),
 Om 2 7])
 .ret)))
def slices_Clone_Llong_Int_long_Int.res : List RX := [(2, none)]
theorem slices_Clone_Llong_Int_long_Int.ofG : OfTG pg zbb slices_Clone_Llong_Int_long_Int.k slices_Clone_Llong_Int_long_Int.res 1 := OfIG Tryz.func144
def slices_Clone_Luint32_uint32.k : K :=
 (.seq (kp [0] [Ot 2 (.mov (.c .nil))])
 (.seq (.seq (kp [0,4] [Om 3 0,
 Ot 4 (.isnil 0 false (.t 3))])
 (.cond (.t 4) (.seq (kp [2] [Ot 2 (.mov (.c .nil))])
 .ret)
 .skip))
 (.seq (kp [2] [Ot 5 (.new (.bsl 1) []),
 Om 6 0,
 Ot 7 (.eff (.app 1 4) [.t 5,.t 6]),
 Om 2 7])
 .ret)))
def slices_Clone_Luint32_uint32.res : List RX := [(2, none)]
theorem slices_Clone_Luint32_uint32.ofG : OfTG pg za3 slices_Clone_Luint32_uint32.k slices_Clone_Luint32_uint32.res 1 := OfIG Tryz.func203
end Go.Gim
/- Functions' code as data (written by wip/tools/gen.py), and the step to their contracts. -/
set_option maxRecDepth 100000
namespace Go.Gim
open Go.Proofs
def huber_Slope.k : K :=
 (.seq (kp [0,1] [Oc 4 0])
 (.seq (kp [0,1,5] [Om 7 0,
 Om 8 1,
 Ot 9 (.callG n_huber_cut [.t 7,.t 8]),
 Om 6 9,
 Ot 10 (.ext (.t 6) 0),
 Ot 11 (.ext (.t 6) 1),
 Ot 12 (.ext (.t 6) 2),
 Om 0 10,
 Om 5 11,
 Om 1 12])
 (.seq (kp [4] [Om 13 5,
 Om 14 1,
 Ot 15 (.callG zih [.t 13,.t 14]),
 Ot 16 (.fld 1 1 false (.t 15)),
 Om 17 0,
 Om 18 1,
 Ot 19 (.callGV (.t 16) [.t 17,.t 18]),
 Om 4 19])
 .ret)))
def huber_Slope.res : List RX := [(4, none)]
theorem huber_Slope.of : OfT pg n_huber_Slope huber_Slope.k huber_Slope.res 2 := OfI Tryz.func174
def huber_Rho.k : K :=
 (.seq (kp [0,1] [Oc 4 0])
 (.seq (kp [0,1,5] [Om 7 0,
 Om 8 1,
 Ot 9 (.callG n_huber_cut [.t 7,.t 8]),
 Om 6 9,
 Ot 10 (.ext (.t 6) 0),
 Ot 11 (.ext (.t 6) 1),
 Ot 12 (.ext (.t 6) 2),
 Om 0 10,
 Om 5 11,
 Om 1 12])
 (.seq (kp [4] [Om 13 5,
 Om 14 1,
 Ot 15 (.callG zih [.t 13,.t 14]),
 Ot 16 (.fld 0 1 false (.t 15)),
 Om 17 0,
 Om 18 1,
 Ot 19 (.callGV (.t 16) [.t 17,.t 18]),
 Om 4 19])
 .ret)))
def huber_Rho.res : List RX := [(4, none)]
theorem huber_Rho.of : OfT pg n_huber_Rho huber_Rho.k huber_Rho.res 2 := OfI Tryz.func187
def huber_cut.k : K :=
 (.seq (kp [0,1] [Oc 4 0,
 Oc 5 0,
 Oc 6 0])
 (.seq (kp [1,4] [Om 7 0,
 Ot 8 (.mm false (.t 7) [ci 2147483647]),
 Ot 9 (.mm true (.c (.int .i64 (-2147483647))) [.t 8]),
 Om 4 9])
 (.seq (kp [4,5,6] [Om 10 4,
 Om 11 4,
 Om 12 4,
 Ot 13 (.un .neg (.t 12)),
 Ot 14 (.mm true (.t 11) [.t 13]),
 Om 15 1,
 Ot 16 (.mm false (.t 15) [ci 2147483647]),
 Ot 17 (.mm true (ci 0) [.t 16]),
 Om 4 10,
 Om 5 14,
 Om 6 17])
 .ret)))
def huber_cut.res : List RX := [(4, none), (5, none), (6, none)]
theorem huber_cut.of : OfT pg n_huber_cut huber_cut.k huber_cut.res 2 := OfI Tryz.func201
def huber_of.k : K :=
 (.seq (kp [0,1,4] [Ot 4 (.alloc 2 (.agg [.nilfn,.nilfn]))])
 (.seq (.seq (kp [4,7] [Om 5 0,
 Om 6 1,
 Ot 7 (.bin .leq (.t 5) (.t 6))])
 (.cond (.t 7) (.seq (kp [4] [Ot 8 (.build [.nilfn,.nilfn] [(0,1,(.c (.fn zhk []))),(1,1,(.c (.fn zhj [])))]),
 Oy 2 4 8])
 .ret)
 .skip))
 (.seq (kp [4] [Ot 9 (.build [.nilfn,.nilfn] [(0,1,(.c (.fn zhi []))),(1,1,(.c (.fn zhh [])))]),
 Oy 2 4 9])
 .ret)))
def huber_of.res : List RX := [(4, some (2, true))]
theorem huber_of.of : OfT pg zih huber_of.k huber_of.res 2 := OfI Tryz.func202
def huber_of_1.k : K :=
 (.seq (kp [0] [Oc 4 0])
 (.seq (kp [4] [Om 5 0,
 Om 6 0,
 Ot 7 (.bin .mul (.t 5) (.t 6)),
 Om 4 7])
 .ret))
def huber_of_1.res : List RX := [(4, none)]
theorem huber_of_1.of : OfT pg zhk huber_of_1.k huber_of_1.res 2 := OfI Tryz.func219
def huber_of_2.k : K :=
 (.seq (kp [0] [Oc 4 0])
 (.seq (kp [4] [Om 5 0,
 Om 4 5])
 .ret))
def huber_of_2.res : List RX := [(4, none)]
theorem huber_of_2.of : OfT pg zhj huber_of_2.k huber_of_2.res 2 := OfI Tryz.func220
def huber_of_3.k : K :=
 (.seq (kp [0,1] [Oc 4 0])
 (.seq (kp [4] [Om 5 1,
 Ot 6 (.bin .mul (ci 2) (.t 5)),
 Om 7 0,
 Om 8 0,
 Ot 9 (.un .neg (.t 8)),
 Ot 10 (.mm true (.t 7) [.t 9]),
 Ot 11 (.bin .mul (.t 6) (.t 10)),
 Om 12 1,
 Om 13 1,
 Ot 14 (.bin .mul (.t 12) (.t 13)),
 Ot 15 (.bin .sub (.t 11) (.t 14)),
 Om 4 15])
 .ret))
def huber_of_3.res : List RX := [(4, none)]
theorem huber_of_3.of : OfT pg zhi huber_of_3.k huber_of_3.res 2 := OfI Tryz.func221
def huber_of_4.k : K :=
 (.seq (kp [0,1] [Oc 4 0])
 (.seq (kp [4] [Om 5 1,
 Ot 6 (.un .neg (.t 5)),
 Om 7 0,
 Om 8 1,
 Ot 9 (.mm false (.t 7) [.t 8]),
 Ot 10 (.mm true (.t 6) [.t 9]),
 Om 4 10])
 .ret))
def huber_of_4.res : List RX := [(4, none)]
theorem huber_of_4.of : OfT pg zhh huber_of_4.k huber_of_4.res 2 := OfI Tryz.func222
def cost_State.k : K :=
 (.seq (kp [0] [Ot 2 (.mov (.c (.bool false)))])
 (.seq (.seq (kp [5,6,7] [Om 5 0,
 On 6 5,
 Oc 7 0])
 (.block 0 (.loop (.seq (kp [5,6,7,8] [Ot 8 (.bin .lss (.t 7) (.t 6))])
 (.seq (.cond (.t 8) .skip
 (.exit 0))
 (.seq (.block 1 (.seq (kp [4,5,6,7] [Oi 9 1 5 7,
 Ol 10 1 9,
 Om 4 10])
 (.seq (kp [5,6,7,16] [Om 11 4,
 Ot 12 (.bin .lss (.t 11) (.c (.int .i64 (-1000000)))),
 Om 13 12,
 Og 14 13 (.mov (.t 4)),
 Og 15 13 (.bin .gtr (.t 14) (ci 1000000)),
 Ot 16 (.pick (.t 13) (.c (.bool true)) (.t 15))])
 (.cond (.t 16) (.seq (kp [2] [Ot 2 (.mov (.c (.bool false)))])
 .ret)
 .skip))))
 (kp [5,6,7] [Ot 17 (.bin .add (.t 7) (ci 1)),
 Om 7 17])))))))
 (.seq (kp [2] [Ot 2 (.mov (.c (.bool true)))])
 .ret)))
def cost_State.res : List RX := [(2, none)]
theorem cost_State.of : OfT pg zgd cost_State.k cost_State.res 1 := OfI Tryz.func62
def cost_Flat.k : K :=
 (.seq (kp [1,2,3] [Ot 3 (.boxP (.t 0)),
 Ot 6 (.mov (.c (.bool false)))])
 (.seq (kd [1,3,7] [Ot 10 (.fldA 6 2 true (.t 3)),
 OL 11 2 10,
 Om 12 2,
 Ot 13 (.call zav [.t 12]),
 Ot 14 (.call zai [.t 11,.t 13]),
 Ot 7 (.alloc 2 (.agg [(.bool false),(.sl [])])),
 Oy 2 7 14])
 (.seq (.seq (kp [7,17,18,19] [OL 15 8 3,
 Om 16 1,
 Ot 17 (.callG zd2 [.t 15,.t 16]),
 On 18 17,
 Oc 19 0])
 (.block 0 (.loop (.seq (kp [7,17,18,19,20] [Ot 20 (.bin .lss (.t 19) (.t 18))])
 (.seq (.cond (.t 20) .skip
 (.exit 0))
 (.seq (.block 1 (.seq (kp [7,9,17,18,19] [Oi 21 2 17 19,
 OL 22 2 21,
 Ot 9 (.alloc 2 (.agg [(.bool false),(.sl [])])),
 Oy 2 9 22])
 (.seq (kd [7,17,18,19,33] [OL 23 2 9,
 OL 24 2 7,
 Ot 25 (.call zcj [.t 23,.t 24]),
 Ot 26 (.bin .gtr (.t 25) (ci 0)),
 Om 27 26,
 Og 28 27 (.load 2 true (.t 9)),
 Og 29 27 (.call zc4 [.t 28]),
 Og 30 27 (.load 2 true (.t 7)),
 Og 31 27 (.call zcj [.t 29,.t 30]),
 Og 32 27 (.bin .gtr (.t 31) (ci 0)),
 Ot 33 (.pick (.t 27) (.c (.bool true)) (.t 32))])
 (.cond (.t 33) (.seq (kp [6] [Ot 6 (.mov (.c (.bool false)))])
 .ret)
 .skip))))
 (kp [7,17,18,19] [Ot 34 (.bin .add (.t 19) (ci 1)),
 Om 19 34])))))))
 (.seq (kp [6] [Ot 6 (.mov (.c (.bool true)))])
 .ret))))
def cost_Flat.res : List RX := [(6, none)]
theorem cost_Flat.of : OfT pg n_cost_Flat cost_Flat.k cost_Flat.res 3 := OfI Tryz.func63
def cost_Less.k : K :=
 (.seq (kp [1,2,3] [Ot 3 (.boxP (.t 0)),
 Ot 6 (.mov (.c (.bool false)))])
 (.seq (kd [6] [OL 7 8 3,
 Om 8 1,
 Ot 9 (.call zhl [.t 7,.t 8]),
 OL 10 8 3,
 Om 11 2,
 Ot 12 (.call zhl [.t 10,.t 11]),
 Ot 13 (.call zcj [.t 9,.t 12]),
 Ot 14 (.bin .lss (.t 13) (ci 0)),
 Om 6 14])
 .ret))
def cost_Less.res : List RX := [(6, none)]
theorem cost_Less.of : OfT pg n_cost_Less cost_Less.k cost_Less.res 3 := OfI Tryz.func68
def cost_Steep.k : K :=
 (.seq (kp [2,3] [Ot 2 (.boxP (.t 0)),
 Ot 3 (.boxP (.t 1)),
 Ot 4 (.mov (.c .nil))])
 (.seq (kp [2,3,5] [Ol 12 1 3,
 On 13 12,
 Ot 14 (.new (.mks 2 32 (.agg [(.bool false),(.sl [])])) [.t 13,.t 13]),
 Om 5 14])
 (.seq (.seq (kp [2,3,5,18,19,20] [Oq 15 1 1 2,
 Ol 16 1 15,
 Ot 17 (.mkFn zdr [.t 3]),
 Ot 18 (.callG zcq [.t 16,.t 17]),
 On 19 18,
 Oc 20 0])
 (.block 0 (.loop (.seq (kp [2,3,5,18,19,20,21] [Ot 21 (.bin .lss (.t 20) (.t 19))])
 (.seq (.cond (.t 21) .skip
 (.exit 0))
 (.seq (.block 1 (.seq (kp [2,3,5,7,18,19,20] [Oi 22 1 18 20,
 Ol 23 1 22,
 Om 7 23])
 (.seq (kp [2,3,5,18,19,20,24,25,26] [Om 24 7,
 On 25 24,
 Oc 26 0])
 (.block 2 (.loop (.seq (kp [2,3,5,18,19,20,24,25,26,27] [Ot 27 (.bin .lss (.t 26) (.t 25))])
 (.seq (.cond (.t 27) .skip
 (.exit 2))
 (.seq (.block 3 (.seq (kp [2,3,5,8,9,18,19,20,24,25,26] [Om 28 26,
 Oi 29 1 24 26,
 Ol 30 1 29,
 Om 8 28,
 Om 9 30])
 (kd [2,3,5,18,19,20,24,25,26] [Om 31 5,
 Om 32 8,
 Om 33 5,
 Om 34 8,
 Oi 35 2 33 34,
 OL 36 2 35,
 Om 37 9,
 Ot 38 (.call zav [.t 37]),
 Ot 39 (.call zao [.t 36,.t 38]),
 Oi 40 2 31 32,
 Oy 2 40 39])))
 (kp [2,3,5,18,19,20,24,25,26] [Ot 41 (.bin .add (.t 26) (ci 1)),
 Om 26 41])))))))))
 (kp [2,3,5,18,19,20] [Ot 42 (.bin .add (.t 20) (ci 1)),
 Om 20 42])))))))
 (.seq (kd [2,5,10] [Ot 43 (.fldA 2 4 true (.t 2)),
 OL 44 4 43,
 Ol 45 1 3,
 Ot 46 (.call zb0 [.t 45,(.c (.fn zav []))]),
 Ot 47 (.call zfu [.t 44,.t 46]),
 Om 10 47])
 (.seq (.seq (kp [2,5,10,49,50] [Om 48 5,
 On 49 48,
 Oc 50 0])
 (.block 4 (.loop (.seq (kp [2,5,10,49,50,51] [Ot 51 (.bin .lss (.t 50) (.t 49))])
 (.seq (.cond (.t 51) .skip
 (.exit 4))
 (.seq (.block 5 (.seq (kp [2,5,10,11,49,50] [Om 52 50,
 Om 11 52])
 (kd [2,5,10,49,50] [Om 53 5,
 Om 54 11,
 Om 55 5,
 Om 56 11,
 Oi 57 2 55 56,
 OL 58 2 57,
 Ot 59 (.fldA 6 2 true (.t 2)),
 OL 60 2 59,
 Ot 61 (.call zai [.t 58,.t 60]),
 Om 62 10,
 Om 63 11,
 Oi 64 2 62 63,
 OL 65 2 64,
 Ot 66 (.call zao [.t 61,.t 65]),
 Oi 67 2 53 54,
 Oy 2 67 66])))
 (kp [2,5,10,49,50] [Ot 68 (.bin .add (.t 50) (ci 1)),
 Om 50 68])))))))
 (.seq (kp [4] [Om 69 5,
 Om 4 69])
 .ret))))))
def cost_Steep.res : List RX := [(4, none)]
theorem cost_Steep.of : OfT pg zd2 cost_Steep.k cost_Steep.res 2 := OfI Tryz.func102
theorem cost_Steep.ofG : OfTG pg zd2 cost_Steep.k cost_Steep.res 2 := OfIG Tryz.func102
def cost_Value.k : K :=
 (.seq (kp [2,3,4] [Ot 2 (.boxP (.t 0)),
 Ot 3 (.boxP (.t 1)),
 Ot 4 (.alloc 2 (.agg [(.bool false),(.sl [])]))])
 (.seq (kp [2,3,4,5] [Ot 5 (.alloc 2 (.agg [(.bool false),(.sl [])]))])
 (.seq (.seq (kp [2,3,4,5,11,12,13] [Oq 8 1 1 2,
 Ol 9 1 8,
 Ot 10 (.mkFn zf6 [.t 3]),
 Ot 11 (.callG zc5 [.t 9,.t 10]),
 On 12 11,
 Oc 13 0])
 (.block 0 (.loop (.seq (kp [2,3,4,5,11,12,13,14] [Ot 14 (.bin .lss (.t 13) (.t 12))])
 (.seq (.cond (.t 14) .skip
 (.exit 0))
 (.seq (.block 1 (.seq (kp [2,3,4,5,7,11,12,13] [Oi 15 1 11 13,
 Ol 16 1 15,
 Om 7 16])
 (kd [2,3,4,5,11,12,13] [OL 17 2 5,
 Om 18 7,
 Ot 19 (.call zav [.t 18]),
 Ot 20 (.call zao [.t 17,.t 19]),
 Oy 2 5 20])))
 (kp [2,3,4,5,11,12,13] [Ot 21 (.bin .add (.t 13) (ci 1)),
 Om 13 21])))))))
 (.seq (kd [4] [OL 22 2 5,
 Ot 23 (.fldA 6 2 true (.t 2)),
 OL 24 2 23,
 Ot 25 (.call zai [.t 22,.t 24]),
 Ot 26 (.fldA 2 4 true (.t 2)),
 OL 27 4 26,
 Ol 28 1 3,
 Ot 29 (.call zb0 [.t 28,(.c (.fn zav []))]),
 Ot 30 (.call zft [.t 27,.t 29]),
 Ot 31 (.call zao [.t 25,.t 30]),
 Oy 2 4 31])
 .ret))))
def cost_Value.res : List RX := [(4, some (2, true))]
theorem cost_Value.of : OfT pg zhl cost_Value.k cost_Value.res 2 := OfI Tryz.func112
def cost_each_api_Row_Lint64.k : K :=
 (.seq (kp [0,1] [Ot 4 (.mov (.c .nil))])
 (.seq (kp [0,1,5] [Om 8 0,
 On 9 8,
 Ot 10 (.new (.mks 1 24 .nil) [ci 0,.t 9]),
 Om 5 10])
 (.seq (.seq (kp [1,5,11,12,13] [Om 11 0,
 On 12 11,
 Oc 13 0])
 (.block 0 (.loop (.seq (kp [1,5,11,12,13,14] [Ot 14 (.bin .lss (.t 13) (.t 12))])
 (.seq (.cond (.t 14) .skip
 (.exit 0))
 (.seq (.block 1 (.seq (kp [1,5,7,11,12,13] [Oi 15 4 11 13,
 OL 16 4 15,
 Ot 7 (.alloc 4 (.agg [(.sl []),(.int .i64 0),(.int .i64 0),(.int .i64 0)])),
 Oy 4 7 16])
 (.gh (kp [1,5,11,12,13] [Om 17 5,
 Om 18 1,
 OL 19 4 7,
 Ot 20 (.callGV (.t 18) [.t 19]),
 Ot 21 (.new (.bsl 1) [.t 20]),
 Ot 22 (.eff (.app 1 24) [.t 17,.t 21]),
 Om 5 22]))))
 (kp [1,5,11,12,13] [Ot 23 (.bin .add (.t 13) (ci 1)),
 Om 13 23])))))))
 (.seq (kp [4] [Om 24 5,
 Om 4 24])
 .ret))))
def cost_each_api_Row_Lint64.res : List RX := [(4, none)]
theorem cost_each_api_Row_Lint64.of : OfT pg zcq cost_each_api_Row_Lint64.k cost_each_api_Row_Lint64.res 2 := OfI Tryz.func136
def cost_Steep_1.k : K :=
 (.seq (kp [1,2] [Ot 2 (.boxP (.t 0)),
 Ot 3 (.mov (.c .nil))])
 (.seq (kp [3] [OL 4 4 2,
 Ol 5 1 1,
 Ot 6 (.callG zhy [.t 4,.t 5]),
 Om 3 6])
 .ret))
def cost_Steep_1.res : List RX := [(3, none)]
theorem cost_Steep_1.of : OfT pg zdr cost_Steep_1.k cost_Steep_1.res 2 := OfI Tryz.func137
def cost_each_int64_long_Int.k : K :=
 (.seq (kp [0,1] [Ot 4 (.mov (.c .nil))])
 (.seq (kp [0,1,5] [Om 8 0,
 On 9 8,
 Ot 10 (.new (.mks 2 32 (.agg [(.bool false),(.sl [])])) [ci 0,.t 9]),
 Om 5 10])
 (.seq (.seq (kp [1,5,11,12,13] [Om 11 0,
 On 12 11,
 Oc 13 0])
 (.block 0 (.loop (.seq (kp [1,5,11,12,13,14] [Ot 14 (.bin .lss (.t 13) (.t 12))])
 (.seq (.cond (.t 14) .skip
 (.exit 0))
 (.seq (.block 1 (.seq (kp [1,5,7,11,12,13] [Oi 15 1 11 13,
 Ol 16 1 15,
 Om 7 16])
 (kp [1,5,11,12,13] [Om 17 5,
 Om 18 1,
 Om 19 7,
 Ot 20 (.callGV (.t 18) [.t 19]),
 Ot 21 (.new (.bsl 2) [.t 20]),
 Ot 22 (.eff (.app 2 32) [.t 17,.t 21]),
 Om 5 22])))
 (kp [1,5,11,12,13] [Ot 23 (.bin .add (.t 13) (ci 1)),
 Om 13 23])))))))
 (.seq (kp [4] [Om 24 5,
 Om 4 24])
 .ret))))
def cost_each_int64_long_Int.res : List RX := [(4, none)]
theorem cost_each_int64_long_Int.of : OfT pg zb0 cost_each_int64_long_Int.k cost_each_int64_long_Int.res 2 := OfI Tryz.func141
def cost_each_api_Row_int64.k : K :=
 (.seq (kp [0,1] [Ot 4 (.mov (.c .nil))])
 (.seq (kp [0,1,5] [Om 8 0,
 On 9 8,
 Ot 10 (.new (.mks 1 8 (.int .i64 0)) [ci 0,.t 9]),
 Om 5 10])
 (.seq (.seq (kp [1,5,11,12,13] [Om 11 0,
 On 12 11,
 Oc 13 0])
 (.block 0 (.loop (.seq (kp [1,5,11,12,13,14] [Ot 14 (.bin .lss (.t 13) (.t 12))])
 (.seq (.cond (.t 14) .skip
 (.exit 0))
 (.seq (.block 1 (.seq (kp [1,5,7,11,12,13] [Oi 15 4 11 13,
 OL 16 4 15,
 Ot 7 (.alloc 4 (.agg [(.sl []),(.int .i64 0),(.int .i64 0),(.int .i64 0)])),
 Oy 4 7 16])
 (kp [1,5,11,12,13] [Om 17 5,
 Om 18 1,
 OL 19 4 7,
 Ot 20 (.callGV (.t 18) [.t 19]),
 Ot 21 (.new (.bsl 1) [.t 20]),
 Ot 22 (.eff (.app 1 8) [.t 17,.t 21]),
 Om 5 22])))
 (kp [1,5,11,12,13] [Ot 23 (.bin .add (.t 13) (ci 1)),
 Om 13 23])))))))
 (.seq (kp [4] [Om 24 5,
 Om 4 24])
 .ret))))
def cost_each_api_Row_int64.res : List RX := [(4, none)]
theorem cost_each_api_Row_int64.of : OfT pg zc5 cost_each_api_Row_int64.k cost_each_api_Row_int64.res 2 := OfI Tryz.func154
def cost_Value_1.k : K :=
 (.seq (kp [1,2] [Ot 2 (.boxP (.t 0)),
 Oc 3 0])
 (.seq (kp [3] [OL 4 4 2,
 Ol 5 1 1,
 Ot 6 (.callG n_factor_Cost [.t 4,.t 5]),
 Om 3 6])
 .ret))
def cost_Value_1.res : List RX := [(3, none)]
theorem cost_Value_1.of : OfT pg zf6 cost_Value_1.k cost_Value_1.res 2 := OfI Tryz.func155
end Go.Gim
/- The table of math/bits: of each byte how many bits it has. -/
set_option maxRecDepth 100000
namespace Go.Gim
def len8S : ByteArray := ⟨#[0, 1, 2, 2, 3, 3, 3, 3, 4, 4, 4, 4, 4, 4, 4, 4, 5, 5, 5, 5, 5, 5, 5, 5, 5, 5, 5, 5, 5, 5, 5, 5, 6, 6, 6, 6, 6, 6, 6, 6, 6, 6, 6, 6, 6, 6, 6, 6, 6, 6, 6, 6, 6, 6, 6, 6, 6, 6, 6, 6, 6, 6, 6, 6, 7, 7, 7, 7, 7, 7, 7, 7, 7, 7, 7, 7, 7, 7, 7, 7, 7, 7, 7, 7, 7, 7, 7, 7, 7, 7, 7, 7, 7, 7, 7, 7, 7, 7, 7, 7, 7, 7, 7, 7, 7, 7, 7, 7, 7, 7, 7, 7, 7, 7, 7, 7, 7, 7, 7, 7, 7, 7, 7, 7, 7, 7, 7, 7, 8, 8, 8, 8, 8, 8, 8, 8, 8, 8, 8, 8, 8, 8, 8, 8, 8, 8, 8, 8, 8, 8, 8, 8, 8, 8, 8, 8, 8, 8, 8, 8, 8, 8, 8, 8, 8, 8, 8, 8, 8, 8, 8, 8, 8, 8, 8, 8, 8, 8, 8, 8, 8, 8, 8, 8, 8, 8, 8, 8, 8, 8, 8, 8, 8, 8, 8, 8, 8, 8, 8, 8, 8, 8, 8, 8, 8, 8, 8, 8, 8, 8, 8, 8, 8, 8, 8, 8, 8, 8, 8, 8, 8, 8, 8, 8, 8, 8, 8, 8, 8, 8, 8, 8, 8, 8, 8, 8, 8, 8, 8, 8, 8, 8, 8, 8, 8, 8, 8, 8, 8, 8, 8, 8, 8, 8, 8, 8]⟩
end Go.Gim
/- Functions' code as data (written by wip/tools/gen.py), and the step to their contracts. -/
set_option maxRecDepth 100000
namespace Go.Gim
open Go.Proofs
def math_bits_LeadingZeros32.k : K :=
 (.seq (kp [0] [Oc 2 0])
 (.seq (kp [2] [Om 3 0,
 Ot 4 (.callG zfv [.t 3]),
 Ot 5 (.bin .sub (ci 32) (.t 4)),
 Om 2 5])
 .ret))
def math_bits_LeadingZeros32.res : List RX := [(2, none)]
theorem math_bits_LeadingZeros32.of : OfT pg zcp math_bits_LeadingZeros32.k math_bits_LeadingZeros32.res 1 := OfI Tryz.func191
def math_bits_Len32.k : K :=
 (.seq (kp [0,2] [Oc 2 0])
 (.seq (.seq (kp [0,2,4] [Om 3 0,
 Ot 4 (.bin .geq (.t 3) (.c (.int .u32 65536)))])
 (.cond (.t 4) (.seq (kp [0] [Om 5 0,
 Ot 6 (.bin .shr (.t 5) (.c (.int .u64 16))),
 Om 0 6])
 (kp [0,2] [Oc 2 16]))
 .skip))
 (.seq (.seq (kp [0,2,8] [Om 7 0,
 Ot 8 (.bin .geq (.t 7) (.c (.int .u32 256)))])
 (.cond (.t 8) (.seq (kp [0,2] [Om 9 0,
 Ot 10 (.bin .shr (.t 9) (.c (.int .u64 8))),
 Om 0 10])
 (kp [0,2] [Om 11 2,
 Ot 12 (.bin .add (.t 11) (ci 8)),
 Om 2 12]))
 .skip))
 (.seq (kp [2] [Om 13 2,
 Om 14 0,
 Ot 15 (.conv .u8 (.t 14)),
 Ot 16 (.red .idxS [(.c (.str len8S)),.t 15]),
 Ot 17 (.conv .i64 (.t 16)),
 Ot 18 (.bin .add (.t 13) (.t 17)),
 Om 2 18])
 .ret))))
def math_bits_Len32.res : List RX := [(2, none)]
theorem math_bits_Len32.of : OfT pg zfv math_bits_Len32.k math_bits_Len32.res 1 := OfI Tryz.func208
end Go.Gim

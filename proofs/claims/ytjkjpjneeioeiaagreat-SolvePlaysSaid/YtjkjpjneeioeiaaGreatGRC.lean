import Derived.Test.YtjkjpjneeioeiaaGreatGN
/- Functions' code as data (written by wip/tools/gen.py), and the step to their contracts. -/
set_option maxRecDepth 100000
namespace Go.Gim
open Go.Proofs
def gimbalref01_Of.k : K :=
 (.seq (kp [0,2] [Ot 2 (.alloc 2 (.agg [(.bool false),.nil]))])
 (.seq (kp [0,2,3] [Ot 3 (.mov (.c .nil))])
 (.seq (kp [0,2,3,4] [Om 6 0,
 Ot 7 (.bin .lss (.t 6) (ci 0)),
 Om 4 7])
 (.seq (.block 0 (.loop (.seq (.seq (kp [0,2,3,4,9] [Om 8 0,
 Ot 9 (.bin .neq (.t 8) (ci 0))])
 (.cond (.t 9) .skip
 (.exit 0)))
 (.keep [0,2,3,4] (.block 1 (.seq (kp [0,2,3,4,5] [Om 10 0,
 Ot 11 (.bin .rem (.t 10) (ci 10)),
 Om 5 11])
 (.seq (.seq (kp [0,2,3,4,5,13] [Om 12 5,
 Ot 13 (.bin .lss (.t 12) (ci 0))])
 (.cond (.t 13) (kp [0,2,3,4,5] [Om 14 5,
 Ot 15 (.un .neg (.t 14)),
 Om 5 15])
 .skip))
 (.seq (kp [0,2,3,4] [Om 16 3,
 Om 17 5,
 Ot 18 (.new (.bsl 1) [.t 17]),
 Ot 19 (.eff (.app 1 8) [.t 16,.t 18]),
 Om 3 19])
 (kp [0,2,3,4] [Om 20 0,
 Ot 21 (.bin .quo (.t 20) (ci 10)),
 Om 0 21])))))))))
 (.seq (kp [2] [Om 22 4,
 Om 23 3,
 Ot 24 (.callG zav [.t 22,.t 23]),
 Oy 2 2 24])
 .ret)))))
def gimbalref01_Of.res : List RX := [(2, some (2, true))]
theorem gimbalref01_Of.of : OfT pg zag gimbalref01_Of.k gimbalref01_Of.res 1 := OfI Tryz.func58
def gimbalref01_size.k : K :=
 (.seq (kp [0,1] [Oc 4 0])
 (.seq (.seq (kp [0,1,10] [Om 6 0,
 On 7 6,
 Om 8 1,
 On 9 8,
 Ot 10 (.bin .neq (.t 7) (.t 9))])
 (.cond (.t 10) (.seq (.seq (kp [15] [Om 11 0,
 On 12 11,
 Om 13 1,
 On 14 13,
 Ot 15 (.bin .lss (.t 12) (.t 14))])
 (.cond (.t 15) (.seq (kp [4] [Ot 4 (.mov (.c (.int .i64 (-1))))])
 .ret)
 .skip))
 (.seq (kp [4] [Oc 4 1])
 .ret))
 .skip))
 (.seq (.seq (kp [0,1,5] [Om 16 0,
 On 17 16,
 Ot 18 (.bin .sub (.t 17) (ci 1)),
 Om 5 18])
 (.block 0 (.loop (.seq (.seq (kp [0,1,5,20] [Om 19 5,
 Ot 20 (.bin .geq (.t 19) (ci 0))])
 (.cond (.t 20) .skip
 (.exit 0)))
 (.seq (.block 1 (.seq (.seq (kd [0,1,5,31] [Om 23 0,
 Om 24 5,
 Oi 25 1 23 24,
 Ol 26 1 25,
 Om 27 1,
 Om 28 5,
 Oi 29 1 27 28,
 Ol 30 1 29,
 Ot 31 (.bin .lss (.t 26) (.t 30))])
 (.cond (.t 31) (.seq (kp [4] [Ot 4 (.mov (.c (.int .i64 (-1))))])
 .ret)
 .skip))
 (.seq (kd [0,1,5,40] [Om 32 0,
 Om 33 5,
 Oi 34 1 32 33,
 Ol 35 1 34,
 Om 36 1,
 Om 37 5,
 Oi 38 1 36 37,
 Ol 39 1 38,
 Ot 40 (.bin .gtr (.t 35) (.t 39))])
 (.cond (.t 40) (.seq (kp [4] [Oc 4 1])
 .ret)
 .skip))))
 (kp [0,1,5] [Om 21 5,
 Ot 22 (.bin .sub (.t 21) (ci 1)),
 Om 5 22]))))))
 (.seq (kp [4] [Oc 4 0])
 .ret))))
def gimbalref01_size.res : List RX := [(4, none)]
theorem gimbalref01_size.of : OfT pg zdy gimbalref01_size.k gimbalref01_size.res 2 := OfI Tryz.func108
def gimbalref01_made.k : K :=
 (.seq (kp [0,1,4] [Ot 4 (.alloc 2 (.agg [(.bool false),.nil]))])
 (.seq (kp [0,1,4,5] [Om 6 1,
 On 7 6,
 Om 5 7])
 (.seq (.block 0 (.loop (.seq (.seq (kp [0,1,4,5,17] [Om 8 5,
 Ot 9 (.bin .gtr (.t 8) (ci 0)),
 Om 10 9,
 Oh 11 10 (.mov (.t 1)),
 Oh 12 10 (.mov (.t 5)),
 Oh 13 10 (.bin .sub (.t 12) (ci 1)),
 Oh 14 10 (.idxA 1 (.t 11) (.t 13)),
 Oh 15 10 (.load 1 false (.t 14)),
 Oh 16 10 (.bin .eql (.t 15) (ci 0)),
 Ot 17 (.pick (.t 10) (.t 16) (.c (.bool false)))])
 (.cond (.t 17) .skip
 (.exit 0)))
 (.keep [0,1,4,5] (.block 1 (kp [0,1,4,5] [Om 18 5,
 Ot 19 (.bin .sub (.t 18) (ci 1)),
 Om 5 19]))))))
 (.seq (kp [4] [Om 20 0,
 Om 21 20,
 Oh 22 21 (.mov (.t 5)),
 Oh 23 21 (.bin .gtr (.t 22) (ci 0)),
 Ot 24 (.pick (.t 21) (.t 23) (.c (.bool false))),
 Om 25 1,
 Om 26 5,
 Ot 27 (.red (.slc 1 false true false) [.t 25,.t 26]),
 Ot 28 (.build [(.bool false),.nil] [(0,1,(.t 24)),(1,1,(.t 27))]),
 Oy 2 4 28])
 .ret))))
def gimbalref01_made.res : List RX := [(4, some (2, true))]
theorem gimbalref01_made.of : OfT pg zav gimbalref01_made.k gimbalref01_made.res 2 := OfI Tryz.func128
def gimbalref01_plus.k : K :=
 (.seq (kp [0,1] [Ot 4 (.mov (.c .nil))])
 (.seq (kp [0,1,5] [Ot 5 (.mov (.c .nil))])
 (.seq (kp [0,1,5,6] [Oc 6 0])
 (.seq (.seq (kp [0,1,5,6,7] [Oc 7 0])
 (.block 0 (.loop (.seq (.seq (kp [0,1,5,6,7,22] [Om 9 7,
 Om 10 0,
 On 11 10,
 Ot 12 (.bin .lss (.t 9) (.t 11)),
 Om 13 12,
 Og 14 13 (.mov (.t 7)),
 Og 15 13 (.mov (.t 1)),
 Og 16 13 (.len false (.t 15)),
 Og 17 13 (.bin .lss (.t 14) (.t 16)),
 Ot 18 (.pick (.t 13) (.c (.bool true)) (.t 17)),
 Om 19 18,
 Og 20 19 (.mov (.t 6)),
 Og 21 19 (.bin .gtr (.t 20) (ci 0)),
 Ot 22 (.pick (.t 19) (.c (.bool true)) (.t 21))])
 (.cond (.t 22) .skip
 (.exit 0)))
 (.seq (.block 1 (.seq (kp [0,1,5,7,8] [Om 25 6,
 Om 8 25])
 (.seq (.seq (kp [0,1,5,7,8,29] [Om 26 7,
 Om 27 0,
 On 28 27,
 Ot 29 (.bin .lss (.t 26) (.t 28))])
 (.cond (.t 29) (kp [0,1,5,7,8] [Om 30 8,
 Om 31 0,
 Om 32 7,
 Oi 33 1 31 32,
 Ol 34 1 33,
 Ot 35 (.bin .add (.t 30) (.t 34)),
 Om 8 35])
 .skip))
 (.seq (.seq (kp [0,1,5,7,8,39] [Om 36 7,
 Om 37 1,
 On 38 37,
 Ot 39 (.bin .lss (.t 36) (.t 38))])
 (.cond (.t 39) (kp [0,1,5,7,8] [Om 40 8,
 Om 41 1,
 Om 42 7,
 Oi 43 1 41 42,
 Ol 44 1 43,
 Ot 45 (.bin .add (.t 40) (.t 44)),
 Om 8 45])
 .skip))
 (.seq (kp [0,1,5,7,8] [Om 46 5,
 Om 47 8,
 Ot 48 (.bin .rem (.t 47) (ci 10)),
 Ot 49 (.new (.bsl 1) [.t 48]),
 Ot 50 (.eff (.app 1 8) [.t 46,.t 49]),
 Om 5 50])
 (kp [0,1,5,6,7] [Om 51 8,
 Ot 52 (.bin .quo (.t 51) (ci 10)),
 Om 6 52]))))))
 (kp [0,1,5,6,7] [Om 23 7,
 Ot 24 (.bin .add (.t 23) (ci 1)),
 Om 7 24]))))))
 (.seq (kp [4] [Om 53 5,
 Om 4 53])
 .ret)))))
def gimbalref01_plus.res : List RX := [(4, none)]
theorem gimbalref01_plus.ofG : OfTG pg ze0 gimbalref01_plus.k gimbalref01_plus.res 2 := OfIG Tryz.func138
def gimbalref01_less.k : K :=
 (.seq (kp [0,1] [Ot 4 (.mov (.c .nil))])
 (.seq (kp [0,1,5] [Ot 5 (.mov (.c .nil))])
 (.seq (kp [0,1,5,6] [Oc 6 0])
 (.seq (.seq (kp [0,1,5,6,7] [Oc 7 0])
 (.block 0 (.loop (.seq (.seq (kp [0,1,5,6,7,12] [Om 9 7,
 Om 10 0,
 On 11 10,
 Ot 12 (.bin .lss (.t 9) (.t 11))])
 (.cond (.t 12) .skip
 (.exit 0)))
 (.seq (.block 1 (.seq (kp [0,1,5,7,8] [Om 15 0,
 Om 16 7,
 Oi 17 1 15 16,
 Ol 18 1 17,
 Om 19 6,
 Ot 20 (.bin .sub (.t 18) (.t 19)),
 Om 8 20])
 (.seq (.seq (kp [0,1,5,7,8,24] [Om 21 7,
 Om 22 1,
 On 23 22,
 Ot 24 (.bin .lss (.t 21) (.t 23))])
 (.cond (.t 24) (kp [0,1,5,7,8] [Om 25 8,
 Om 26 1,
 Om 27 7,
 Oi 28 1 26 27,
 Ol 29 1 28,
 Ot 30 (.bin .sub (.t 25) (.t 29)),
 Om 8 30])
 .skip))
 (.seq (kp [0,1,5,6,7,8] [Oc 6 0])
 (.seq (.seq (kp [0,1,5,6,7,8,32] [Om 31 8,
 Ot 32 (.bin .lss (.t 31) (ci 0))])
 (.cond (.t 32) (.seq (kp [0,1,5,7,8] [Om 33 8,
 Ot 34 (.bin .add (.t 33) (ci 10)),
 Om 8 34])
 (kp [0,1,5,6,7,8] [Oc 6 1]))
 .skip))
 (kp [0,1,5,6,7] [Om 35 5,
 Om 36 8,
 Ot 37 (.new (.bsl 1) [.t 36]),
 Ot 38 (.eff (.app 1 8) [.t 35,.t 37]),
 Om 5 38]))))))
 (kp [0,1,5,6,7] [Om 13 7,
 Ot 14 (.bin .add (.t 13) (ci 1)),
 Om 7 14]))))))
 (.seq (kp [4] [Om 39 5,
 Om 4 39])
 .ret)))))
def gimbalref01_less.res : List RX := [(4, none)]
theorem gimbalref01_less.of : OfT pg zdz gimbalref01_less.k gimbalref01_less.res 2 := OfI Tryz.func139
def gimbalref01_Parse.k : K :=
 (.seq (kp [0,2] [Ot 2 (.alloc 2 (.agg [(.bool false),.nil])),
 Oc 3 0])
 (.seq (.seq (kp [0,2,10] [Om 8 0,
 Ot 9 (.len true (.t 8)),
 Ot 10 (.bin .gtr (.t 9) (ci 2000))])
 (.cond (.t 10) (.seq (kp [2,3] [Ot 11 (.build [(.bool false),.nil] []),
 Oy 2 2 11,
 Oc 3 2])
 .ret)
 .skip))
 (.seq (.seq (kp [0,2,13] [Om 12 0,
 ⟨(some 13), none,.bin .eql (.t 12) (.c (.str ⟨#[48]⟩))⟩])
 (.cond (.t 13) (.seq (kp [2,3] [Ot 14 (.build [(.bool false),.nil] []),
 Oy 2 2 14,
 Oc 3 0])
 .ret)
 .skip))
 (.seq (kp [0,2,4] [Oc 4 0])
 (.seq (kp [0,2,4,5] [Ot 5 (.mov (.c (.bool false)))])
 (.seq (.seq (kp [0,2,4,5,22] [Om 15 0,
 Ot 16 (.len true (.t 15)),
 Ot 17 (.bin .gtr (.t 16) (ci 0)),
 Om 18 17,
 Oh 19 18 (.mov (.t 0)),
 Oh 20 18 (.red .idxS [.t 19,ci 0]),
 Oh 21 18 (.bin .eql (.t 20) (.c (.int .u8 45))),
 Ot 22 (.pick (.t 18) (.t 21) (.c (.bool false)))])
 (.cond (.t 22) (.seq (kp [0,2,5] [Ot 5 (.mov (.c (.bool true)))])
 (kp [0,2,4,5] [Oc 4 1]))
 .skip))
 (.seq (.seq (kp [0,2,4,5,32] [Om 23 4,
 Om 24 0,
 Ot 25 (.len true (.t 24)),
 Ot 26 (.bin .eql (.t 23) (.t 25)),
 Om 27 26,
 Og 28 27 (.mov (.t 0)),
 Og 29 27 (.mov (.t 4)),
 Og 30 27 (.red .idxS [.t 28,.t 29]),
 Og 31 27 (.bin .eql (.t 30) (.c (.int .u8 48))),
 Ot 32 (.pick (.t 27) (.c (.bool true)) (.t 31))])
 (.cond (.t 32) (.seq (kp [2,3] [Ot 33 (.build [(.bool false),.nil] []),
 Oy 2 2 33,
 Oc 3 10])
 .ret)
 .skip))
 (.seq (kp [0,2,4,5,6] [Ot 6 (.mov (.c .nil))])
 (.seq (.seq (kp [0,2,4,5,6,7] [Om 34 0,
 Ot 35 (.len true (.t 34)),
 Ot 36 (.bin .sub (.t 35) (ci 1)),
 Om 7 36])
 (.block 0 (.loop (.seq (.seq (kp [0,2,4,5,6,7,39] [Om 37 7,
 Om 38 4,
 Ot 39 (.bin .geq (.t 37) (.t 38))])
 (.cond (.t 39) .skip
 (.exit 0)))
 (.seq (.block 1 (.seq (.seq (kp [0,2,4,5,6,7,51] [Om 42 0,
 Om 43 7,
 Ot 44 (.red .idxS [.t 42,.t 43]),
 Ot 45 (.bin .lss (.t 44) (.c (.int .u8 48))),
 Om 46 45,
 Og 47 46 (.mov (.t 0)),
 Og 48 46 (.mov (.t 7)),
 Og 49 46 (.red .idxS [.t 47,.t 48]),
 Og 50 46 (.bin .gtr (.t 49) (.c (.int .u8 57))),
 Ot 51 (.pick (.t 46) (.c (.bool true)) (.t 50))])
 (.cond (.t 51) (.seq (kp [2,3] [Ot 52 (.build [(.bool false),.nil] []),
 Oy 2 2 52,
 Oc 3 10])
 .ret)
 .skip))
 (kp [0,2,4,5,6,7] [Om 53 6,
 Om 54 0,
 Om 55 7,
 Ot 56 (.red .idxS [.t 54,.t 55]),
 Ot 57 (.bin .sub (.t 56) (.c (.int .u8 48))),
 Ot 58 (.conv .i64 (.t 57)),
 Ot 59 (.new (.bsl 1) [.t 58]),
 Ot 60 (.eff (.app 1 8) [.t 53,.t 59]),
 Om 6 60])))
 (kp [0,2,4,5,6,7] [Om 40 7,
 Ot 41 (.bin .sub (.t 40) (ci 1)),
 Om 7 41]))))))
 (.seq (kp [2,3] [Om 61 5,
 Om 62 6,
 Ot 63 (.callG zav [.t 61,.t 62]),
 Oy 2 2 63,
 Oc 3 0])
 .ret))))))))))
def gimbalref01_Parse.res : List RX := [(2, some (2, true)), (3, none)]
theorem gimbalref01_Parse.of : OfT pg zf3 gimbalref01_Parse.k gimbalref01_Parse.res 1 := OfI Tryz.func160
def gimbalref01_parted.k : K :=
 (.seq (kp [0,1] [Ot 4 (.mov (.c .nil)),
 Ot 5 (.mov (.c .nil))])
 (.seq (kp [0,1,6] [Om 9 0,
 On 10 9,
 Ot 11 (.new (.mks 1 8 (.int .i64 0)) [.t 10,.t 10]),
 Om 6 11])
 (.seq (kp [0,1,6,7] [Ot 7 (.mov (.c .nil))])
 (.seq (.seq (kp [0,1,6,7,8] [Om 12 0,
 On 13 12,
 Ot 14 (.bin .sub (.t 13) (ci 1)),
 Om 8 14])
 (.block 0 (.loop (.seq (.seq (kp [0,1,6,7,8,16] [Om 15 8,
 Ot 16 (.bin .geq (.t 15) (ci 0))])
 (.cond (.t 16) .skip
 (.exit 0)))
 (.seq (.block 1 (.seq (kp [0,1,6,7,8] [Om 19 0,
 Om 20 8,
 Oi 21 1 19 20,
 Ol 22 1 21,
 Ot 23 (.new (.bsl 1) [.t 22]),
 Om 24 7,
 Ot 25 (.eff (.app 1 8) [.t 23,.t 24]),
 Ot 26 (.callG zav [(.c (.bool false)),.t 25]),
 Ot 27 (.fld 1 1 false (.t 26)),
 Om 7 27])
 (.block 2 (.loop (.seq (.seq (kp [0,1,6,7,8,31] [Om 28 7,
 Om 29 1,
 Ot 30 (.callG zdy [.t 28,.t 29]),
 Ot 31 (.bin .geq (.t 30) (ci 0))])
 (.cond (.t 31) .skip
 (.exit 2)))
 (.keep [0,1,6,7,8] (.block 3 (.seq (kp [0,1,6,7,8] [Om 32 7,
 Om 33 1,
 Ot 34 (.callG zdz [.t 32,.t 33]),
 Ot 35 (.callG zav [(.c (.bool false)),.t 34]),
 Ot 36 (.fld 1 1 false (.t 35)),
 Om 7 36])
 (kp [0,1,6,7,8] [Om 37 6,
 Om 38 8,
 Oi 39 1 37 38,
 Ol 40 1 39,
 Ot 41 (.bin .add (.t 40) (ci 1)),
 Oi 42 1 37 38,
 Oy 1 42 41])))))))))
 (kp [0,1,6,7,8] [Om 17 8,
 Ot 18 (.bin .sub (.t 17) (ci 1)),
 Om 8 18]))))))
 (.seq (kp [4,5] [Om 43 6,
 Om 44 7,
 Om 4 43,
 Om 5 44])
 .ret)))))
def gimbalref01_parted.res : List RX := [(4, none), (5, none)]
theorem gimbalref01_parted.of : OfT pg zfm gimbalref01_parted.k gimbalref01_parted.res 2 := OfI Tryz.func175
def gimbalref01_Int_String.k : K :=
 (.seq (kp [1] [Ot 1 (.boxP (.t 0)),
 ⟨(some 2), none,.mov (.c (.str ⟨#[]⟩))⟩])
 (.seq (.seq (kp [1,8] [Oq 5 1 1 1,
 Ol 6 1 5,
 On 7 6,
 Ot 8 (.bin .eql (.t 7) (ci 0))])
 (.cond (.t 8) (.seq (kp [2] [⟨(some 2), none,.mov (.c (.str ⟨#[48]⟩))⟩])
 .ret)
 .skip))
 (.seq (kp [1,3] [Ot 3 (.mov (.c .nil))])
 (.seq (.seq (kp [1,3,10] [Oq 9 0 1 1,
 Ol 10 1 9])
 (.cond (.t 10) (kp [1,3] [Om 11 3,
 Ot 12 (.new (.bsl 1) [(.c (.int .u8 45))]),
 Ot 13 (.eff (.app 1 1) [.t 11,.t 12]),
 Om 3 13])
 .skip))
 (.seq (.seq (kp [1,3,4] [Oq 14 1 1 1,
 Ol 15 1 14,
 On 16 15,
 Ot 17 (.bin .sub (.t 16) (ci 1)),
 Om 4 17])
 (.block 0 (.loop (.seq (.seq (kp [1,3,4,19] [Om 18 4,
 Ot 19 (.bin .geq (.t 18) (ci 0))])
 (.cond (.t 19) .skip
 (.exit 0)))
 (.seq (.block 1 (kp [1,3,4] [Om 22 3,
 Oq 23 1 1 1,
 Ol 24 1 23,
 Om 25 4,
 Oi 26 1 24 25,
 Ol 27 1 26,
 Ot 28 (.bin .add (ci 48) (.t 27)),
 Ot 29 (.conv .u8 (.t 28)),
 Ot 30 (.new (.bsl 1) [.t 29]),
 Ot 31 (.eff (.app 1 1) [.t 22,.t 30]),
 Om 3 31]))
 (kp [1,3,4] [Om 20 4,
 Ot 21 (.bin .sub (.t 20) (ci 1)),
 Om 4 21]))))))
 (.seq (kp [2] [Om 32 3,
 Ot 33 (.eff .b2sO [.t 32]),
 Om 2 33])
 .ret))))))
def gimbalref01_Int_String.res : List RX := [(2, none)]
theorem gimbalref01_Int_String.of : OfT pg zc3 gimbalref01_Int_String.k gimbalref01_Int_String.res 1 := OfI Tryz.func21
def gimbalref01_Int_Cmp.k : K :=
 (.seq (kp [2,3] [Ot 2 (.boxP (.t 0)),
 Ot 3 (.boxP (.t 1)),
 Oc 4 0])
 (.seq (.seq (kp [2,3,10] [Oq 6 0 1 2,
 Ol 7 1 6,
 Oq 8 0 1 3,
 Ol 9 1 8,
 Ot 10 (.eqB true (.t 7) (.t 9))])
 (.cond (.t 10) (.seq (.seq (kp [12] [Oq 11 0 1 2,
 Ol 12 1 11])
 (.cond (.t 12) (.seq (kp [4] [Ot 4 (.mov (.c (.int .i64 (-1))))])
 .ret)
 .skip))
 (.seq (kp [4] [Oc 4 1])
 .ret))
 .skip))
 (.seq (kp [2,5] [Oq 13 1 1 2,
 Ol 14 1 13,
 Oq 15 1 1 3,
 Ol 16 1 15,
 Ot 17 (.callG zdy [.t 14,.t 16]),
 Om 5 17])
 (.seq (.seq (kp [5,19] [Oq 18 0 1 2,
 Ol 19 1 18])
 (.cond (.t 19) (.seq (kp [4] [Om 20 5,
 Ot 21 (.un .neg (.t 20)),
 Om 4 21])
 .ret)
 .skip))
 (.seq (kp [4] [Om 22 5,
 Om 4 22])
 .ret)))))
def gimbalref01_Int_Cmp.res : List RX := [(4, none)]
theorem gimbalref01_Int_Cmp.of : OfT pg zas gimbalref01_Int_Cmp.k gimbalref01_Int_Cmp.res 2 := OfI Tryz.func40
def gimbalref01_Int_Mul.k : K :=
 (.seq (kp [2,3,4] [Ot 2 (.boxP (.t 0)),
 Ot 3 (.boxP (.t 1)),
 Ot 4 (.alloc 2 (.agg [(.bool false),.nil]))])
 (.seq (kp [2,3,4,5] [Oq 10 1 1 2,
 Ol 11 1 10,
 On 12 11,
 Oq 13 1 1 3,
 Ol 14 1 13,
 On 15 14,
 Ot 16 (.bin .add (.t 12) (.t 15)),
 Ot 17 (.bin .add (.t 16) (ci 1)),
 Ot 18 (.new (.mks 1 8 (.int .i64 0)) [.t 17,.t 17]),
 Om 5 18])
 (.seq (.seq (kp [2,3,4,5,6] [Oc 6 0])
 (.block 0 (.loop (.seq (.seq (kp [2,3,4,5,6,23] [Om 19 6,
 Oq 20 1 1 2,
 Ol 21 1 20,
 On 22 21,
 Ot 23 (.bin .lss (.t 19) (.t 22))])
 (.cond (.t 23) .skip
 (.exit 0)))
 (.seq (.block 1 (.seq (kp [2,3,4,5,6,7] [Oc 7 0])
 (.seq (kp [2,3,4,5,6,7,8] [Oc 8 0])
 (.block 2 (.loop (.seq (.seq (kp [2,3,4,5,6,7,8,34] [Om 26 8,
 Oq 27 1 1 3,
 Ol 28 1 27,
 On 29 28,
 Ot 30 (.bin .lss (.t 26) (.t 29)),
 Om 31 30,
 Og 32 31 (.mov (.t 7)),
 Og 33 31 (.bin .gtr (.t 32) (ci 0)),
 Ot 34 (.pick (.t 31) (.c (.bool true)) (.t 33))])
 (.cond (.t 34) .skip
 (.exit 2)))
 (.seq (.block 3 (.seq (kp [2,3,4,5,6,8,9] [Om 37 5,
 Om 38 6,
 Om 39 8,
 Ot 40 (.bin .add (.t 38) (.t 39)),
 Oi 41 1 37 40,
 Ol 42 1 41,
 Om 43 7,
 Ot 44 (.bin .add (.t 42) (.t 43)),
 Om 9 44])
 (.seq (.seq (kp [2,3,4,5,6,8,9,49] [Om 45 8,
 Oq 46 1 1 3,
 Ol 47 1 46,
 On 48 47,
 Ot 49 (.bin .lss (.t 45) (.t 48))])
 (.cond (.t 49) (kd [2,3,4,5,6,8,9] [Om 50 9,
 Oq 51 1 1 2,
 Ol 52 1 51,
 Om 53 6,
 Oi 54 1 52 53,
 Ol 55 1 54,
 Oq 56 1 1 3,
 Ol 57 1 56,
 Om 58 8,
 Oi 59 1 57 58,
 Ol 60 1 59,
 Ot 61 (.bin .mul (.t 55) (.t 60)),
 Ot 62 (.bin .add (.t 50) (.t 61)),
 Om 9 62])
 .skip))
 (.seq (kp [2,3,4,5,6,8,9] [Om 63 5,
 Om 64 6,
 Om 65 8,
 Ot 66 (.bin .add (.t 64) (.t 65)),
 Om 67 9,
 Ot 68 (.bin .rem (.t 67) (ci 10)),
 Oi 69 1 63 66,
 Oy 1 69 68])
 (kp [2,3,4,5,6,7,8] [Om 70 9,
 Ot 71 (.bin .quo (.t 70) (ci 10)),
 Om 7 71])))))
 (kp [2,3,4,5,6,7,8] [Om 35 8,
 Ot 36 (.bin .add (.t 35) (ci 1)),
 Om 8 36]))))))))
 (kp [2,3,4,5,6] [Om 24 6,
 Ot 25 (.bin .add (.t 24) (ci 1)),
 Om 6 25]))))))
 (.seq (kp [4] [Oq 72 0 1 2,
 Ol 73 1 72,
 Oq 74 0 1 3,
 Ol 75 1 74,
 Ot 76 (.eqB true (.t 73) (.t 75)),
 Om 77 5,
 Ot 78 (.callG zav [.t 76,.t 77]),
 Oy 2 4 78])
 .ret))))
def gimbalref01_Int_Mul.res : List RX := [(4, some (2, true))]
theorem gimbalref01_Int_Mul.of : OfT pg zak gimbalref01_Int_Mul.k gimbalref01_Int_Mul.res 2 := OfI Tryz.func65
def gimbalref01_Int_Sub.k : K :=
 (.seq (kp [2,3,4] [Ot 2 (.boxP (.t 0)),
 Ot 3 (.boxP (.t 1)),
 Ot 4 (.alloc 2 (.agg [(.bool false),.nil]))])
 (.seq (kd [4] [OL 5 2 2,
 OL 6 2 3,
 Ot 7 (.call zbi [.t 6]),
 Ot 8 (.call zal [.t 5,.t 7]),
 Oy 2 4 8])
 .ret))
def gimbalref01_Int_Sub.res : List RX := [(4, some (2, true))]
theorem gimbalref01_Int_Sub.of : OfT pg zce gimbalref01_Int_Sub.k gimbalref01_Int_Sub.res 2 := OfI Tryz.func67
def gimbalref01_Int_Add.k : K :=
 (.seq (kp [2,3,4] [Ot 2 (.boxP (.t 0)),
 Ot 3 (.boxP (.t 1)),
 Ot 4 (.alloc 2 (.agg [(.bool false),.nil]))])
 (.seq (.seq (kp [2,3,4,10] [Oq 6 0 1 2,
 Ol 7 1 6,
 Oq 8 0 1 3,
 Ol 9 1 8,
 Ot 10 (.eqB false (.t 7) (.t 9))])
 (.cond (.t 10) (.seq (kd [4] [Oq 11 0 1 2,
 Ol 12 1 11,
 Oq 13 1 1 2,
 Ol 14 1 13,
 Oq 15 1 1 3,
 Ol 16 1 15,
 Ot 17 (.call ze0 [.t 14,.t 16]),
 Ot 18 (.call zav [.t 12,.t 17]),
 Oy 2 4 18])
 .ret)
 .skip))
 (.seq (kp [2,3,4,5] [Oq 19 1 1 2,
 Ol 20 1 19,
 Oq 21 1 1 3,
 Ol 22 1 21,
 Ot 23 (.callG zdy [.t 20,.t 22]),
 Om 5 23])
 (.seq (.seq (kp [2,3,4,25] [Om 24 5,
 Ot 25 (.bin .geq (.t 24) (ci 0))])
 (.cond (.t 25) (.seq (kd [4] [Oq 26 0 1 2,
 Ol 27 1 26,
 Oq 28 1 1 2,
 Ol 29 1 28,
 Oq 30 1 1 3,
 Ol 31 1 30,
 Ot 32 (.call zdz [.t 29,.t 31]),
 Ot 33 (.call zav [.t 27,.t 32]),
 Oy 2 4 33])
 .ret)
 .skip))
 (.seq (kd [4] [Oq 34 0 1 3,
 Ol 35 1 34,
 Oq 36 1 1 3,
 Ol 37 1 36,
 Oq 38 1 1 2,
 Ol 39 1 38,
 Ot 40 (.call zdz [.t 37,.t 39]),
 Ot 41 (.call zav [.t 35,.t 40]),
 Oy 2 4 41])
 .ret)))))
def gimbalref01_Int_Add.res : List RX := [(4, some (2, true))]
theorem gimbalref01_Int_Add.of : OfT pg zal gimbalref01_Int_Add.k gimbalref01_Int_Add.res 2 := OfI Tryz.func75
def gimbalref01_Int_Minus.k : K :=
 (.seq (kp [1,2] [Ot 1 (.boxP (.t 0)),
 Ot 2 (.alloc 2 (.agg [(.bool false),.nil]))])
 (.seq (kp [2] [Oq 3 0 1 1,
 Ol 4 1 3,
 Ot 5 (.un .not (.t 4)),
 Oq 6 1 1 1,
 Ol 7 1 6,
 Ot 8 (.callG zav [.t 5,.t 7]),
 Oy 2 2 8])
 .ret))
def gimbalref01_Int_Minus.res : List RX := [(2, some (2, true))]
theorem gimbalref01_Int_Minus.of : OfT pg zbi gimbalref01_Int_Minus.k gimbalref01_Int_Minus.res 1 := OfI Tryz.func109
def gimbalref01_Int_Quo.k : K :=
 (.seq (kp [2,3,4,5] [Ot 2 (.boxP (.t 0)),
 Ot 3 (.boxP (.t 1)),
 Ot 4 (.alloc 2 (.agg [(.bool false),.nil])),
 Ot 5 (.alloc 2 (.agg [(.bool false),.nil])),
 Oc 6 0])
 (.seq (.seq (kp [2,3,4,5,14] [Oq 11 1 1 3,
 Ol 12 1 11,
 On 13 12,
 Ot 14 (.bin .eql (.t 13) (ci 0))])
 (.cond (.t 14) (.seq (kp [4,5,6] [Ot 15 (.build [(.bool false),.nil] []),
 Ot 16 (.build [(.bool false),.nil] []),
 Oy 2 4 15,
 Oy 2 5 16,
 Oc 6 11])
 .ret)
 .skip))
 (.seq (kp [2,3,4,5,7,8] [Oq 18 1 1 2,
 Ol 19 1 18,
 Oq 20 1 1 3,
 Ol 21 1 20,
 Ot 22 (.callG zfm [.t 19,.t 21]),
 Om 17 22,
 Ot 23 (.ext (.t 17) 0),
 Ot 24 (.ext (.t 17) 1),
 Om 7 23,
 Om 8 24])
 (.seq (kp [2,3,4,5,8,9] [Oq 25 0 1 2,
 Ol 26 1 25,
 Oq 27 0 1 3,
 Ol 28 1 27,
 Ot 29 (.eqB true (.t 26) (.t 28)),
 Om 30 7,
 Ot 31 (.callG zav [.t 29,.t 30]),
 Ot 9 (.alloc 2 (.agg [(.bool false),.nil])),
 Oy 2 9 31])
 (.seq (kp [3,4,5,9,10] [Oq 32 0 1 2,
 Ol 33 1 32,
 Om 34 8,
 Ot 35 (.callG zav [.t 33,.t 34]),
 Ot 10 (.alloc 2 (.agg [(.bool false),.nil])),
 Oy 2 10 35])
 (.seq (.seq (kp [3,4,5,9,10,46] [Oq 36 1 1 10,
 Ol 37 1 36,
 On 38 37,
 Ot 39 (.bin .gtr (.t 38) (ci 0)),
 Om 40 39,
 Oh 41 40 (.fldA 0 1 false (.t 10)),
 Oh 42 40 (.load 1 false (.t 41)),
 Oh 43 40 (.fldA 0 1 false (.t 3)),
 Oh 44 40 (.load 1 false (.t 43)),
 Oh 45 40 (.eqB true (.t 42) (.t 44)),
 Ot 46 (.pick (.t 40) (.t 45) (.c (.bool false)))])
 (.cond (.t 46) (.seq (kd [3,4,5,9,10] [OL 47 2 9,
 Ot 48 (.call zag [ci 1]),
 Ot 49 (.call zce [.t 47,.t 48]),
 Oy 2 9 49])
 (kp [4,5,9,10] [OL 50 2 10,
 OL 51 2 3,
 Ot 52 (.callG zal [.t 50,.t 51]),
 Oy 2 10 52]))
 .skip))
 (.seq (kd [4,5,6] [OL 53 2 9,
 Ot 54 (.loadN 2 true (.t 10) [4]),
 Oy 2 4 53,
 Oy 2 5 54,
 Oc 6 0])
 .ret)))))))
def gimbalref01_Int_Quo.res : List RX := [(4, some (2, true)), (5, some (2, true)), (6, none)]
theorem gimbalref01_Int_Quo.of : OfT pg zfb gimbalref01_Int_Quo.k gimbalref01_Int_Quo.res 2 := OfI Tryz.func135
def gimbalref01_Int_Sign.k : K :=
 (.seq (kp [1] [Ot 1 (.boxP (.t 0)),
 Oc 2 0])
 (.seq (.seq (kp [1,6] [Oq 3 1 1 1,
 Ol 4 1 3,
 On 5 4,
 Ot 6 (.bin .eql (.t 5) (ci 0))])
 (.cond (.t 6) (.seq (kp [2] [Oc 2 0])
 .ret)
 .skip))
 (.seq (.seq (kp [8] [Oq 7 0 1 1,
 Ol 8 1 7])
 (.cond (.t 8) (.seq (kp [2] [Ot 2 (.mov (.c (.int .i64 (-1))))])
 .ret)
 .skip))
 (.seq (kp [2] [Oc 2 1])
 .ret))))
def gimbalref01_Int_Sign.res : List RX := [(2, none)]
theorem gimbalref01_Int_Sign.of : OfT pg zev gimbalref01_Int_Sign.k gimbalref01_Int_Sign.res 1 := OfI Tryz.func136
def gimbalref01_Int_Small.k : K :=
 (.seq (kp [1] [Ot 1 (.boxP (.t 0)),
 Oc 2 0,
 Ot 3 (.mov (.c (.bool false)))])
 (.seq (kp [1,4] [Ot 8 (.callG zag [(.c (.int .i64 (-9223372036854775808)))]),
 Ot 4 (.alloc 2 (.agg [(.bool false),.nil])),
 Oy 2 4 8])
 (.seq (kp [1,4,5] [Ot 9 (.callG zag [ci 9223372036854775807]),
 Ot 5 (.alloc 2 (.agg [(.bool false),.nil])),
 Oy 2 5 9])
 (.seq (.seq (kp [1,19] [OL 10 2 1,
 OL 11 2 4,
 Ot 12 (.callG zas [.t 10,.t 11]),
 Ot 13 (.bin .lss (.t 12) (ci 0)),
 Om 14 13,
 Og 15 14 (.load 2 true (.t 1)),
 Og 16 14 (.load 2 true (.t 5)),
 Og 17 14 (.callG zas [.t 15,.t 16]),
 Og 18 14 (.bin .gtr (.t 17) (ci 0)),
 Ot 19 (.pick (.t 14) (.c (.bool true)) (.t 18))])
 (.cond (.t 19) (.seq (kp [2,3] [Oc 2 0,
 Ot 3 (.mov (.c (.bool false)))])
 .ret)
 .skip))
 (.seq (kp [1,6] [Oc 6 0])
 (.seq (.seq (kp [1,6,7] [Oq 20 1 1 1,
 Ol 21 1 20,
 On 22 21,
 Ot 23 (.bin .sub (.t 22) (ci 1)),
 Om 7 23])
 (.block 0 (.loop (.seq (.seq (kp [1,6,7,25] [Om 24 7,
 Ot 25 (.bin .geq (.t 24) (ci 0))])
 (.cond (.t 25) .skip
 (.exit 0)))
 (.seq (.block 1 (.seq (kp [1,6,7,29] [Oq 28 0 1 1,
 Ol 29 1 28])
 (.cond (.t 29) (kp [1,6,7] [Om 30 6,
 Ot 31 (.bin .mul (ci 10) (.t 30)),
 Oq 32 1 1 1,
 Ol 33 1 32,
 Om 34 7,
 Oi 35 1 33 34,
 Ol 36 1 35,
 Ot 37 (.bin .sub (.t 31) (.t 36)),
 Om 6 37])
 (kp [1,6,7] [Om 38 6,
 Ot 39 (.bin .mul (ci 10) (.t 38)),
 Oq 40 1 1 1,
 Ol 41 1 40,
 Om 42 7,
 Oi 43 1 41 42,
 Ol 44 1 43,
 Ot 45 (.bin .add (.t 39) (.t 44)),
 Om 6 45]))))
 (kp [1,6,7] [Om 26 7,
 Ot 27 (.bin .sub (.t 26) (ci 1)),
 Om 7 27]))))))
 (.seq (kp [2,3] [Om 46 6,
 Om 2 46,
 Ot 3 (.mov (.c (.bool true)))])
 .ret)))))))
def gimbalref01_Int_Small.res : List RX := [(2, none), (3, none)]
theorem gimbalref01_Int_Small.of : OfT pg zc7 gimbalref01_Int_Small.k gimbalref01_Int_Small.res 1 := OfI Tryz.func141
end Go.Gim
/- Functions' code as data (written by wip/tools/gen.py), and the step to their contracts. -/
set_option maxRecDepth 100000
namespace Go.Gim
open Go.Proofs
def gimbalref16_State.k : K :=
 (.seq (kp [0] [Ot 2 (.mov (.c (.bool false)))])
 (.seq (.seq (kp [0,3] [Oc 3 0])
 (.block 0 (.loop (.seq (.seq (kp [0,3,7] [Om 4 3,
 Om 5 0,
 On 6 5,
 Ot 7 (.bin .lss (.t 4) (.t 6))])
 (.cond (.t 7) .skip
 (.exit 0)))
 (.seq (.block 1 (.seq (kp [0,3,14] [Om 10 0,
 Om 11 3,
 Oi 12 1 10 11,
 Ol 13 1 12,
 Ot 14 (.callG zcq [.t 13,(.c (.int .i64 (-1000000))),ci 1000000])])
 (.cond (.t 14) (.seq (kp [2] [Ot 2 (.mov (.c (.bool false)))])
 .ret)
 .skip)))
 (kp [0,3] [Om 8 3,
 Ot 9 (.bin .add (.t 8) (ci 1)),
 Om 3 9]))))))
 (.seq (kp [2] [Ot 2 (.mov (.c (.bool true)))])
 .ret)))
def gimbalref16_State.res : List RX := [(2, none)]
theorem gimbalref16_State.of : OfT pg zdd gimbalref16_State.k gimbalref16_State.res 1 := OfI Tryz.func15
def gimbalref16_out.k : K :=
 (.seq (kp [0,1,2] [Ot 6 (.mov (.c (.bool false)))])
 (.seq (kp [6] [Om 7 0,
 Om 8 1,
 Ot 9 (.bin .lss (.t 7) (.t 8)),
 Om 10 9,
 Og 11 10 (.mov (.t 0)),
 Og 12 10 (.mov (.t 2)),
 Og 13 10 (.bin .gtr (.t 11) (.t 12)),
 Ot 14 (.pick (.t 10) (.c (.bool true)) (.t 13)),
 Om 6 14])
 .ret))
def gimbalref16_out.res : List RX := [(6, none)]
theorem gimbalref16_out.of : OfT pg zcq gimbalref16_out.k gimbalref16_out.res 3 := OfI Tryz.func70
def gimbalref16_Residual.k : K :=
 (.seq (kp [1,2] [Ot 2 (.boxP (.t 0)),
 Oc 4 0])
 (.seq (kp [1,2,5] [Oq 12 1 1 2,
 Ol 13 1 12,
 Ot 14 (.un .neg (.t 13)),
 Ot 15 (.callG zag [.t 14]),
 Ot 5 (.alloc 2 (.agg [(.bool false),(.sl [])])),
 Oy 2 5 15])
 (.seq (.seq (kp [1,2,5,6] [Oc 6 0])
 (.block 0 (.loop (.seq (.seq (kp [1,2,5,6,19] [Om 16 6,
 Om 17 1,
 On 18 17,
 Ot 19 (.bin .lss (.t 16) (.t 18))])
 (.cond (.t 19) .skip
 (.exit 0)))
 (.seq (.block 1 (kd [1,2,5,6] [OL 22 2 5,
 Oq 23 0 1 2,
 Ol 24 1 23,
 Om 25 6,
 Oi 26 1 24 25,
 Ol 27 1 26,
 Ot 28 (.call zag [.t 27]),
 Om 29 1,
 Om 30 6,
 Oi 31 1 29 30,
 Ol 32 1 31,
 Ot 33 (.call zag [.t 32]),
 Ot 34 (.call zak [.t 28,.t 33]),
 Ot 35 (.call zal [.t 22,.t 34]),
 Oy 2 5 35]))
 (kp [1,2,5,6] [Om 20 6,
 Ot 21 (.bin .add (.t 20) (ci 1)),
 Om 6 21]))))))
 (.seq (kp [5,7] [Ot 36 (.callG zag [ci 1000000000]),
 Ot 7 (.alloc 2 (.agg [(.bool false),(.sl [])])),
 Oy 2 7 36])
 (.seq (kp [5,7,8] [OL 37 2 5,
 OL 38 2 7,
 Ot 39 (.callG zas [.t 37,.t 38]),
 Om 8 39])
 (.seq (kd [5,8,9] [OL 40 2 5,
 OL 41 2 7,
 Ot 42 (.call zbi [.t 41]),
 Ot 43 (.call zas [.t 40,.t 42]),
 Om 9 43])
 (.seq (.seq (kp [5,9,45] [Om 44 8,
 Ot 45 (.bin .gtr (.t 44) (ci 0))])
 (.cond (.t 45) (.seq (kp [4] [Oc 4 1000000000])
 .ret)
 .skip))
 (.seq (.seq (kp [5,47] [Om 46 9,
 Ot 47 (.bin .lss (.t 46) (ci 0))])
 (.cond (.t 47) (.seq (kp [4] [Ot 4 (.mov (.c (.int .i64 (-1000000000))))])
 .ret)
 .skip))
 (.seq (kp [10] [OL 49 2 5,
 Ot 50 (.callG zc7 [.t 49]),
 Om 48 50,
 Ot 51 (.ext (.t 48) 0),
 Ot 52 (.ext (.t 48) 1),
 Om 10 51,
 Om 11 52])
 (.seq (kp [4] [Om 53 10,
 Om 4 53])
 .ret))))))))))
def gimbalref16_Residual.res : List RX := [(4, none)]
theorem gimbalref16_Residual.of : OfT pg zcm gimbalref16_Residual.k gimbalref16_Residual.res 2 := OfI Tryz.func83
def gimbalref16_Cost.k : K :=
 (.seq (kp [1,2,4] [Ot 2 (.boxP (.t 0)),
 Ot 4 (.alloc 2 (.agg [(.bool false),(.sl [])]))])
 (.seq (kd [2,4,5] [OL 8 4 2,
 Om 9 1,
 Ot 10 (.call zcm [.t 8,.t 9]),
 Oq 11 2 1 2,
 Ol 12 1 11,
 Ot 13 (.call zg3 [.t 10,.t 12]),
 Ot 14 (.call zf3 [.t 13]),
 Om 7 14,
 Ot 15 (.ext (.t 7) 0),
 Ot 16 (.ext (.t 7) 1),
 Ot 5 (.alloc 2 (.agg [(.bool false),(.sl [])])),
 Oy 2 5 15,
 Om 6 16])
 (.seq (kd [4] [OL 17 2 5,
 Oq 18 3 1 2,
 Ol 19 1 18,
 Ot 20 (.call zag [.t 19]),
 Ot 21 (.call zak [.t 17,.t 20]),
 Oy 2 4 21])
 .ret)))
def gimbalref16_Cost.res : List RX := [(4, some (2, true))]
theorem gimbalref16_Cost.of : OfT pg zgp gimbalref16_Cost.k gimbalref16_Cost.res 2 := OfI Tryz.func107
def gimbalref16_Right.k : K :=
 (.seq (kp [1,2] [Ot 2 (.boxP (.t 0)),
 Ot 4 (.mov (.c (.bool false)))])
 (.seq (.seq (kp [1,2,29] [Oq 6 0 1 2,
 Ol 7 1 6,
 On 8 7,
 Om 9 1,
 Ot 10 (.bin .neq (.t 8) (.t 9)),
 Om 11 10,
 Og 12 11 (.mov (.t 1)),
 Og 13 11 (.bin .gtr (.t 12) (ci 11)),
 Ot 14 (.pick (.t 11) (.c (.bool true)) (.t 13)),
 Om 15 14,
 Og 16 15 (.fldA 1 1 false (.t 2)),
 Og 17 15 (.load 1 false (.t 16)),
 Og 18 15 (.callG zcq [.t 17,(.c (.int .i64 (-1000000000))),ci 1000000000]),
 Ot 19 (.pick (.t 15) (.c (.bool true)) (.t 18)),
 Om 20 19,
 Og 21 20 (.fldA 2 1 false (.t 2)),
 Og 22 20 (.load 1 false (.t 21)),
 Og 23 20 (.callG zcq [.t 22,ci 1,ci 32768]),
 Ot 24 (.pick (.t 20) (.c (.bool true)) (.t 23)),
 Om 25 24,
 Og 26 25 (.fldA 3 1 false (.t 2)),
 Og 27 25 (.load 1 false (.t 26)),
 Og 28 25 (.callG zcq [.t 27,ci 1,ci 100]),
 Ot 29 (.pick (.t 25) (.c (.bool true)) (.t 28))])
 (.cond (.t 29) (.seq (kp [4] [Ot 4 (.mov (.c (.bool false)))])
 .ret)
 .skip))
 (.seq (.seq (kp [1,2,5] [Oc 5 0])
 (.block 0 (.loop (.seq (.seq (kp [1,2,5,32] [Om 30 5,
 Om 31 1,
 Ot 32 (.bin .lss (.t 30) (.t 31))])
 (.cond (.t 32) .skip
 (.exit 0)))
 (.seq (.block 1 (.seq (kp [1,2,5,40] [Oq 35 0 1 2,
 Ol 36 1 35,
 Om 37 5,
 Oi 38 1 36 37,
 Ol 39 1 38,
 Ot 40 (.callG zcq [.t 39,(.c (.int .i64 (-1000))),ci 1000])])
 (.cond (.t 40) (.seq (kp [4] [Ot 4 (.mov (.c (.bool false)))])
 .ret)
 .skip)))
 (kp [1,2,5] [Om 33 5,
 Ot 34 (.bin .add (.t 33) (ci 1)),
 Om 5 34]))))))
 (.seq (kp [4] [Ot 4 (.mov (.c (.bool true)))])
 .ret))))
def gimbalref16_Right.res : List RX := [(4, none)]
theorem gimbalref16_Right.of : OfT pg zf0 gimbalref16_Right.k gimbalref16_Right.res 2 := OfI Tryz.func126
def gimbalref16_Steep.k : K :=
 (.seq (kp [1,2] [Ot 2 (.boxP (.t 0)),
 Ot 4 (.mov (.c .nil))])
 (.seq (kp [1,2,5] [Ot 5 (.mov (.c .nil))])
 (.seq (.seq (kp [1,2,5,6] [Oc 6 0])
 (.block 0 (.loop (.seq (.seq (kp [1,2,5,6,10] [Om 7 6,
 Om 8 1,
 On 9 8,
 Ot 10 (.bin .lss (.t 7) (.t 9))])
 (.cond (.t 10) .skip
 (.exit 0)))
 (.seq (.block 1 (kd [1,2,5,6] [Om 13 5,
 Oq 14 3 1 2,
 Ol 15 1 14,
 Oq 16 0 1 2,
 Ol 17 1 16,
 Om 18 6,
 Oi 19 1 17 18,
 Ol 20 1 19,
 Ot 21 (.bin .mul (.t 15) (.t 20)),
 OL 22 4 2,
 Om 23 1,
 Ot 24 (.call zcm [.t 22,.t 23]),
 Oq 25 2 1 2,
 Ol 26 1 25,
 Ot 27 (.call zf2 [.t 24,.t 26]),
 Ot 28 (.bin .mul (.t 21) (.t 27)),
 Ot 29 (.new (.bsl 1) [.t 28]),
 Ot 30 (.eff (.app 1 8) [.t 13,.t 29]),
 Om 5 30]))
 (kp [1,2,5,6] [Om 11 6,
 Ot 12 (.bin .add (.t 11) (ci 1)),
 Om 6 12]))))))
 (.seq (kp [4] [Om 31 5,
 Om 4 31])
 .ret))))
def gimbalref16_Steep.res : List RX := [(4, none)]
theorem gimbalref16_Steep.of : OfT pg zfz gimbalref16_Steep.k gimbalref16_Steep.res 2 := OfI Tryz.func153
def gimbalref17_Share.k : K :=
 (.seq (kp [1,2] [Ot 2 (.boxP (.t 0)),
 Oc 4 0])
 (.seq (kp [2,5] [OL 7 4 2,
 Om 8 1,
 Ot 9 (.callG zcm [.t 7,.t 8]),
 Om 5 9])
 (.seq (.seq (kp [2,5,11] [Om 10 5,
 Ot 11 (.bin .lss (.t 10) (ci 0))])
 (.cond (.t 11) (kp [2,5] [Om 12 5,
 Ot 13 (.un .neg (.t 12)),
 Om 5 13])
 .skip))
 (.seq (.seq (kp [2,5,17] [Om 14 5,
 Oq 15 2 1 2,
 Ol 16 1 15,
 Ot 17 (.bin .leq (.t 14) (.t 16))])
 (.cond (.t 17) (.seq (kp [4] [Oc 4 1024])
 .ret)
 .skip))
 (.seq (kp [6] [Oq 18 2 1 2,
 Ol 19 1 18,
 Ot 20 (.bin .mul (ci 1024) (.t 19)),
 Om 21 5,
 Ot 22 (.bin .quo (.t 20) (.t 21)),
 Om 6 22])
 (.seq (.seq (kp [6,24] [Om 23 6,
 Ot 24 (.bin .lss (.t 23) (ci 1))])
 (.cond (.t 24) (.seq (kp [4] [Oc 4 1])
 .ret)
 .skip))
 (.seq (kp [4] [Om 25 6,
 Om 4 25])
 .ret)))))))
def gimbalref17_Share.res : List RX := [(4, none)]
theorem gimbalref17_Share.of : OfT pg zfy gimbalref17_Share.k gimbalref17_Share.res 2 := OfI Tryz.func28
def gimbalref17_New.k : K :=
 (.seq (kp [0,1,4] [Ot 4 (.alloc 8 (.agg [(.int .i64 0),.nil,.nil,.nil,(.bool false),(.sl []),(.bool false),(.sl [])])),
 Oc 5 0])
 (.seq (.seq (kp [0,1,4,15] [Om 10 0,
 Ot 11 (.bin .lss (.t 10) (ci 1)),
 Om 12 11,
 Og 13 12 (.mov (.t 0)),
 Og 14 12 (.bin .gtr (.t 13) (ci 11)),
 Ot 15 (.pick (.t 12) (.c (.bool true)) (.t 14))])
 (.cond (.t 15) (.seq (kp [4,5] [Ot 16 (.build [(.int .i64 0),.nil,.nil,.nil,(.bool false),(.sl []),(.bool false),(.sl [])] []),
 Oy 8 4 16,
 Oc 5 1])
 .ret)
 .skip))
 (.seq (.seq (kp [0,1,4,19] [Om 17 1,
 On 18 17,
 Ot 19 (.bin .gtr (.t 18) (ci 60))])
 (.cond (.t 19) (.seq (kp [4,5] [Ot 20 (.build [(.int .i64 0),.nil,.nil,.nil,(.bool false),(.sl []),(.bool false),(.sl [])] []),
 Oy 8 4 20,
 Oc 5 3])
 .ret)
 .skip))
 (.seq (.seq (kp [0,1,4,6] [Oc 6 0])
 (.block 0 (.loop (.seq (.seq (kp [0,1,4,6,24] [Om 21 6,
 Om 22 1,
 On 23 22,
 Ot 24 (.bin .lss (.t 21) (.t 23))])
 (.cond (.t 24) .skip
 (.exit 0)))
 (.seq (.block 1 (.seq (kp [0,1,4,6,7] [Om 27 1,
 Om 28 6,
 Oi 29 4 27 28,
 OL 30 4 29,
 Om 31 0,
 Ot 32 (.callG zf0 [.t 30,.t 31]),
 Om 7 32])
 (.seq (kp [0,1,4,6,34] [Om 33 7,
 Ot 34 (.un .not (.t 33))])
 (.cond (.t 34) (.seq (kp [4,5] [Ot 35 (.build [(.int .i64 0),.nil,.nil,.nil,(.bool false),(.sl []),(.bool false),(.sl [])] []),
 Oy 8 4 35,
 Oc 5 160])
 .ret)
 .skip))))
 (kp [0,1,4,6] [Om 25 6,
 Ot 26 (.bin .add (.t 25) (ci 1)),
 Om 6 26]))))))
 (.seq (kp [0,1,4,8] [Om 36 0,
 Ot 37 (.new (.mks 1 24 .nil) [.t 36,.t 36]),
 Om 8 37])
 (.seq (.seq (kp [0,1,4,8,9] [Oc 9 0])
 (.block 2 (.loop (.seq (.seq (kp [0,1,4,8,9,40] [Om 38 9,
 Om 39 0,
 Ot 40 (.bin .lss (.t 38) (.t 39))])
 (.cond (.t 40) .skip
 (.exit 2)))
 (.seq (.block 3 (kp [0,1,4,8,9] [Om 43 8,
 Om 44 9,
 Om 45 0,
 Ot 46 (.new (.mks 1 8 (.int .i64 0)) [.t 45,.t 45]),
 Oi 47 1 43 44,
 Oy 1 47 46]))
 (kp [0,1,4,8,9] [Om 41 9,
 Ot 42 (.bin .add (.t 41) (ci 1)),
 Om 9 42]))))))
 (.seq (kp [4,5] [Om 48 0,
 Om 49 1,
 Om 50 8,
 Om 51 0,
 Ot 52 (.new (.mks 1 8 (.int .i64 0)) [.t 51,.t 51]),
 Ot 53 (.callG zfs [.t 50,.t 52,ci 0]),
 Ot 54 (.callG zag [ci 1]),
 Ot 55 (.build [(.int .i64 0),.nil,.nil,.nil,(.bool false),(.sl []),(.bool false),(.sl [])] [(0,1,(.t 48)),(1,1,(.t 49)),(2,4,(.t 53)),(6,2,(.t 54))]),
 Oy 8 4 55,
 Oc 5 0])
 .ret)))))))
def gimbalref17_New.res : List RX := [(4, some (8, true)), (5, none)]
theorem gimbalref17_New.of : OfT pg zg2 gimbalref17_New.k gimbalref17_New.res 2 := OfI Tryz.func54
def gimbalref17_Graph_Curve.k : K :=
 (.seq (kp [1,2] [Ot 2 (.boxP (.t 0)),
 Ot 4 (.mov (.c .nil))])
 (.seq (kp [1,2,5] [Ot 5 (.mov (.c .nil))])
 (.seq (.seq (kp [1,2,5,6] [Oc 6 0])
 (.block 0 (.loop (.seq (.seq (kp [1,2,5,6,15] [Om 12 6,
 Oq 13 0 1 2,
 Ol 14 1 13,
 Ot 15 (.bin .lss (.t 12) (.t 14))])
 (.cond (.t 15) .skip
 (.exit 0)))
 (.seq (.block 1 (.seq (kp [1,2,5,6,7] [Ot 7 (.mov (.c .nil))])
 (.seq (.seq (kp [1,2,5,6,7,8] [Oc 8 0])
 (.block 2 (.loop (.seq (.seq (kp [1,2,5,6,7,8,21] [Om 18 8,
 Oq 19 0 1 2,
 Ol 20 1 19,
 Ot 21 (.bin .lss (.t 18) (.t 20))])
 (.cond (.t 21) .skip
 (.exit 2)))
 (.seq (.block 3 (.seq (kp [1,2,5,6,7,8,9] [Ot 24 (.callG zag [ci 0]),
 Ot 9 (.alloc 2 (.agg [(.bool false),(.sl [])])),
 Oy 2 9 24])
 (.seq (.seq (kp [1,2,5,6,7,8,9,10] [Oc 10 0])
 (.block 4 (.loop (.seq (.seq (kp [1,2,5,6,7,8,9,10,29] [Om 25 10,
 Oq 26 1 1 2,
 Ol 27 1 26,
 On 28 27,
 Ot 29 (.bin .lss (.t 25) (.t 28))])
 (.cond (.t 29) .skip
 (.exit 4)))
 (.seq (.block 5 (.seq (kp [1,2,5,6,7,8,9,10,11] [Oq 32 1 1 2,
 Ol 33 1 32,
 Om 34 10,
 Oi 35 4 33 34,
 OL 36 4 35,
 Ot 11 (.alloc 4 (.agg [(.sl []),(.int .i64 0),(.int .i64 0),(.int .i64 0)])),
 Oy 4 11 36])
 (kd [1,2,5,6,7,8,9,10] [OL 37 2 9,
 Oq 38 3 1 11,
 Ol 39 1 38,
 OL 40 4 11,
 Om 41 1,
 Ot 42 (.call zfy [.t 40,.t 41]),
 Ot 43 (.bin .mul (.t 39) (.t 42)),
 Oq 44 0 1 11,
 Ol 45 1 44,
 Om 46 6,
 Oi 47 1 45 46,
 Ol 48 1 47,
 Ot 49 (.bin .mul (.t 43) (.t 48)),
 Oq 50 0 1 11,
 Ol 51 1 50,
 Om 52 8,
 Oi 53 1 51 52,
 Ol 54 1 53,
 Ot 55 (.bin .mul (.t 49) (.t 54)),
 Ot 56 (.call zag [.t 55]),
 Ot 57 (.call zal [.t 37,.t 56]),
 Oy 2 9 57])))
 (kp [1,2,5,6,7,8,9,10] [Om 30 10,
 Ot 31 (.bin .add (.t 30) (ci 1)),
 Om 10 31]))))))
 (kd [1,2,5,6,7,8] [Om 58 7,
 Ot 59 (.fldA 6 2 true (.t 2)),
 OL 60 2 59,
 OL 61 2 9,
 Ot 62 (.call zak [.t 60,.t 61]),
 Ot 63 (.call zag [ci 1024]),
 Ot 64 (.fldA 2 4 true (.t 2)),
 Oq 65 0 1 64,
 Ol 66 1 65,
 Om 67 6,
 Oi 68 1 66 67,
 Ol 69 1 68,
 Om 70 8,
 Oi 71 2 69 70,
 OL 72 2 71,
 Ot 73 (.call zak [.t 63,.t 72]),
 Ot 74 (.call zal [.t 62,.t 73]),
 Ot 75 (.new (.bsl 2) [.t 74]),
 Ot 76 (.eff (.app 2 32) [.t 58,.t 75]),
 Om 7 76]))))
 (kp [1,2,5,6,7,8] [Om 22 8,
 Ot 23 (.bin .add (.t 22) (ci 1)),
 Om 8 23]))))))
 (.gh (kp [1,2,5,6] [Om 77 5,
 Om 78 7,
 Ot 79 (.new (.bsl 1) [.t 78]),
 Ot 80 (.eff (.app 1 24) [.t 77,.t 79]),
 Om 5 80])))))
 (kp [1,2,5,6] [Om 16 6,
 Ot 17 (.bin .add (.t 16) (ci 1)),
 Om 6 17]))))))
 (.seq (kp [4] [Om 81 5,
 Om 4 81])
 .ret))))
def gimbalref17_Graph_Curve.res : List RX := [(4, none)]
theorem gimbalref17_Graph_Curve.of : OfT pg zd3 gimbalref17_Graph_Curve.k gimbalref17_Graph_Curve.res 2 := OfI Tryz.func93
def gimbalref07_Mat_Definite.k : K :=
 (.seq (kp [0] [Ot 2 (.mov (.c (.bool false)))])
 (.seq (.seq (kp [0,3] [Oc 3 0])
 (.block 0 (.loop (.seq (.seq (kp [0,3,11] [Om 8 3,
 Om 9 0,
 On 10 9,
 Ot 11 (.bin .lss (.t 8) (.t 10))])
 (.cond (.t 11) .skip
 (.exit 0)))
 (.seq (.block 1 (.seq (kp [0,3,4] [Ot 4 (.mov (.c .nil))])
 (.seq (.seq (kp [0,3,4,5] [Oc 5 0])
 (.block 2 (.loop (.seq (.seq (kp [0,3,4,5,16] [Om 14 5,
 Om 15 3,
 Ot 16 (.bin .leq (.t 14) (.t 15))])
 (.cond (.t 16) .skip
 (.exit 2)))
 (.seq (.block 3 (.seq (.gh (kp [0,3,4,5] [Om 19 4,
 Om 20 0,
 Om 21 5,
 Oi 22 1 20 21,
 Ol 23 1 22,
 Om 24 3,
 Ot 25 (.bin .add (.t 24) (ci 1)),
 Ot 26 (.red (.slc 2 false true false) [.t 23,.t 25]),
 Ot 27 (.new (.bsl 1) [.t 26]),
 Ot 28 (.eff (.app 1 24) [.t 19,.t 27]),
 Om 4 28]))
 (.seq (kd [0,3,4,5,6] [Om 29 0,
 Om 30 3,
 Oi 31 1 29 30,
 Ol 32 1 31,
 Om 33 5,
 Oi 34 2 32 33,
 OL 35 2 34,
 Om 36 0,
 Om 37 5,
 Oi 38 1 36 37,
 Ol 39 1 38,
 Om 40 3,
 Oi 41 2 39 40,
 OL 42 2 41,
 Ot 43 (.call zas [.t 35,.t 42]),
 Om 6 43])
 (.seq (kp [0,3,4,5,45] [Om 44 6,
 Ot 45 (.bin .neq (.t 44) (ci 0))])
 (.cond (.t 45) (.seq (kp [2] [Ot 2 (.mov (.c (.bool false)))])
 .ret)
 .skip)))))
 (kp [0,3,4,5] [Om 17 5,
 Ot 18 (.bin .add (.t 17) (ci 1)),
 Om 5 18]))))))
 (.seq (kp [0,3,7] [Om 46 4,
 Ot 47 (.callG zcd [.t 46]),
 Ot 48 (.callG zev [.t 47]),
 Om 7 48])
 (.seq (kp [0,3,50] [Om 49 7,
 Ot 50 (.bin .leq (.t 49) (ci 0))])
 (.cond (.t 50) (.seq (kp [2] [Ot 2 (.mov (.c (.bool false)))])
 .ret)
 .skip))))))
 (kp [0,3] [Om 12 3,
 Ot 13 (.bin .add (.t 12) (ci 1)),
 Om 3 13]))))))
 (.seq (kp [2] [Ot 2 (.mov (.c (.bool true)))])
 .ret)))
def gimbalref07_Mat_Definite.res : List RX := [(2, none)]
theorem gimbalref07_Mat_Definite.of : OfT pg zdr gimbalref07_Mat_Definite.k gimbalref07_Mat_Definite.res 1 := OfI Tryz.func68
def gimbalref07_Mat_Solve.k : K :=
 (.seq (kp [0,1] [Ot 4 (.mov (.c .nil))])
 (.seq (kp [0,1,5] [Ot 5 (.mov (.c .nil))])
 (.seq (.seq (kp [0,1,5,6] [Oc 6 0])
 (.block 0 (.loop (.seq (.seq (kp [0,1,5,6,13] [Om 10 6,
 Om 11 0,
 On 12 11,
 Ot 13 (.bin .lss (.t 10) (.t 12))])
 (.cond (.t 13) .skip
 (.exit 0)))
 (.seq (.block 1 (.seq (kp [0,1,5,6,7] [Ot 7 (.mov (.c .nil))])
 (.seq (.seq (kp [0,1,5,6,7,8] [Oc 8 0])
 (.block 2 (.loop (.seq (.seq (kp [0,1,5,6,7,8,19] [Om 16 8,
 Om 17 0,
 On 18 17,
 Ot 19 (.bin .lss (.t 16) (.t 18))])
 (.cond (.t 19) .skip
 (.exit 2)))
 (.seq (.block 3 (.seq (kp [0,1,5,6,7,8,9] [Ot 22 (.new (.bsl 2) []),
 Om 23 0,
 Om 24 8,
 Oi 25 1 23 24,
 Ol 26 1 25,
 Ot 27 (.eff (.app 2 32) [.t 22,.t 26]),
 Om 9 27])
 (.seq (kp [0,1,5,6,7,8,9] [Om 28 9,
 Om 29 6,
 Om 30 1,
 Om 31 8,
 Oi 32 2 30 31,
 OL 33 2 32,
 Oi 34 2 28 29,
 Oy 2 34 33])
 (.gh (kp [0,1,5,6,7,8] [Om 35 7,
 Om 36 9,
 Ot 37 (.new (.bsl 1) [.t 36]),
 Ot 38 (.eff (.app 1 24) [.t 35,.t 37]),
 Om 7 38])))))
 (kp [0,1,5,6,7,8] [Om 20 8,
 Ot 21 (.bin .add (.t 20) (ci 1)),
 Om 8 21]))))))
 (kp [0,1,5,6] [Om 39 5,
 Om 40 7,
 Ot 41 (.callG zcd [.t 40]),
 Ot 42 (.new (.bsl 2) [.t 41]),
 Ot 43 (.eff (.app 2 32) [.t 39,.t 42]),
 Om 5 43]))))
 (kp [0,1,5,6] [Om 14 6,
 Ot 15 (.bin .add (.t 14) (ci 1)),
 Om 6 15]))))))
 (.seq (kp [4] [Om 44 5,
 Om 4 44])
 .ret))))
def gimbalref07_Mat_Solve.res : List RX := [(4, none)]
theorem gimbalref07_Mat_Solve.of : OfT pg zej gimbalref07_Mat_Solve.k gimbalref07_Mat_Solve.res 2 := OfI Tryz.func95
def gimbalref07_Mat_Det.k : K :=
 (.seq (kp [0,2] [Ot 2 (.alloc 2 (.agg [(.bool false),(.sl [])]))])
 (.seq (.seq (kp [0,2,8] [Om 6 0,
 On 7 6,
 Ot 8 (.bin .eql (.t 7) (ci 0))])
 (.cond (.t 8) (.seq (kp [2] [Ot 9 (.callG zag [ci 1]),
 Oy 2 2 9])
 .ret)
 .skip))
 (.seq (kp [0,2,3] [Ot 10 (.callG zag [ci 0]),
 Ot 3 (.alloc 2 (.agg [(.bool false),(.sl [])])),
 Oy 2 3 10])
 (.seq (.seq (kp [0,2,3,4] [Oc 4 0])
 (.block 0 (.loop (.seq (.seq (kp [0,2,3,4,14] [Om 11 4,
 Om 12 0,
 On 13 12,
 Ot 14 (.bin .lss (.t 11) (.t 13))])
 (.cond (.t 14) .skip
 (.exit 0)))
 (.seq (.block 1 (.seq (kd [0,2,3,4,5] [Om 17 0,
 Ot 18 (.idxA 1 (.t 17) (ci 0)),
 Ol 19 1 18,
 Om 20 4,
 Oi 21 2 19 20,
 OL 22 2 21,
 Om 23 0,
 Om 24 4,
 Ot 25 (.call zfa [.t 23,.t 24]),
 Ot 26 (.call zcd [.t 25]),
 Ot 27 (.call zak [.t 22,.t 26]),
 Ot 5 (.alloc 2 (.agg [(.bool false),(.sl [])])),
 Oy 2 5 27])
 (.seq (.seq (kp [0,2,3,4,5,30] [Om 28 4,
 Ot 29 (.bin .rem (.t 28) (ci 2)),
 Ot 30 (.bin .eql (.t 29) (ci 1))])
 (.cond (.t 30) (kp [0,2,3,4,5] [OL 31 2 5,
 Ot 32 (.callG zbi [.t 31]),
 Oy 2 5 32])
 .skip))
 (kp [0,2,3,4] [OL 33 2 3,
 OL 34 2 5,
 Ot 35 (.callG zal [.t 33,.t 34]),
 Oy 2 3 35]))))
 (kp [0,2,3,4] [Om 15 4,
 Ot 16 (.bin .add (.t 15) (ci 1)),
 Om 4 16]))))))
 (.seq (kp [2] [OL 36 2 3,
 Oy 2 2 36])
 .ret)))))
def gimbalref07_Mat_Det.res : List RX := [(2, some (2, true))]
theorem gimbalref07_Mat_Det.of : OfT pg zcd gimbalref07_Mat_Det.k gimbalref07_Mat_Det.res 1 := OfI Tryz.func96
def gimbalref07_Of.k : K :=
 (.seq (kp [0] [Ot 2 (.mov (.c .nil))])
 (.seq (kp [0,3] [Ot 3 (.mov (.c .nil))])
 (.seq (.seq (kp [0,3,4] [Oc 4 0])
 (.block 0 (.loop (.seq (.seq (kp [0,3,4,10] [Om 7 4,
 Om 8 0,
 On 9 8,
 Ot 10 (.bin .lss (.t 7) (.t 9))])
 (.cond (.t 10) .skip
 (.exit 0)))
 (.seq (.block 1 (.seq (kp [0,3,4,5] [Ot 5 (.mov (.c .nil))])
 (.seq (.seq (kp [0,3,4,5,6] [Oc 6 0])
 (.block 2 (.loop (.seq (.seq (kp [0,3,4,5,6,19] [Om 13 6,
 Om 14 0,
 Om 15 4,
 Oi 16 1 14 15,
 Ol 17 1 16,
 On 18 17,
 Ot 19 (.bin .lss (.t 13) (.t 18))])
 (.cond (.t 19) .skip
 (.exit 2)))
 (.seq (.block 3 (kp [0,3,4,5,6] [Om 22 5,
 Om 23 0,
 Om 24 4,
 Oi 25 1 23 24,
 Ol 26 1 25,
 Om 27 6,
 Oi 28 1 26 27,
 Ol 29 1 28,
 Ot 30 (.callG zag [.t 29]),
 Ot 31 (.new (.bsl 2) [.t 30]),
 Ot 32 (.eff (.app 2 32) [.t 22,.t 31]),
 Om 5 32]))
 (kp [0,3,4,5,6] [Om 20 6,
 Ot 21 (.bin .add (.t 20) (ci 1)),
 Om 6 21]))))))
 (.gh (kp [0,3,4] [Om 33 3,
 Om 34 5,
 Ot 35 (.new (.bsl 1) [.t 34]),
 Ot 36 (.eff (.app 1 24) [.t 33,.t 35]),
 Om 3 36])))))
 (kp [0,3,4] [Om 11 4,
 Ot 12 (.bin .add (.t 11) (ci 1)),
 Om 4 12]))))))
 (.seq (kp [2] [Om 37 3,
 Om 2 37])
 .ret))))
def gimbalref07_Of.res : List RX := [(2, none)]
theorem gimbalref07_Of.of : OfT pg zhs gimbalref07_Of.k gimbalref07_Of.res 1 := OfI Tryz.func127
def gimbalref07_Dot.k : K :=
 (.seq (kp [0,1,4] [Ot 4 (.alloc 2 (.agg [(.bool false),(.sl [])]))])
 (.seq (kp [0,1,4,5] [Ot 7 (.callG zag [ci 0]),
 Ot 5 (.alloc 2 (.agg [(.bool false),(.sl [])])),
 Oy 2 5 7])
 (.seq (.seq (kp [0,1,4,5,6] [Oc 6 0])
 (.block 0 (.loop (.seq (.seq (kp [0,1,4,5,6,11] [Om 8 6,
 Om 9 0,
 On 10 9,
 Ot 11 (.bin .lss (.t 8) (.t 10))])
 (.cond (.t 11) .skip
 (.exit 0)))
 (.seq (.block 1 (kd [0,1,4,5,6] [OL 14 2 5,
 Om 15 0,
 Om 16 6,
 Oi 17 2 15 16,
 OL 18 2 17,
 Om 19 1,
 Om 20 6,
 Oi 21 2 19 20,
 OL 22 2 21,
 Ot 23 (.call zak [.t 18,.t 22]),
 Ot 24 (.call zal [.t 14,.t 23]),
 Oy 2 5 24]))
 (kp [0,1,4,5,6] [Om 12 6,
 Ot 13 (.bin .add (.t 12) (ci 1)),
 Om 6 13]))))))
 (.seq (kp [4] [OL 25 2 5,
 Oy 2 4 25])
 .ret))))
def gimbalref07_Dot.res : List RX := [(4, some (2, true))]
theorem gimbalref07_Dot.of : OfT pg zda gimbalref07_Dot.k gimbalref07_Dot.res 2 := OfI Tryz.func134
def gimbalref07_without.k : K :=
 (.seq (kp [0,1] [Ot 4 (.mov (.c .nil))])
 (.seq (kp [0,1,5] [Ot 5 (.mov (.c .nil))])
 (.seq (.seq (kp [0,1,5,6] [Oc 6 1])
 (.block 0 (.loop (.seq (.seq (kp [0,1,5,6,12] [Om 9 6,
 Om 10 0,
 On 11 10,
 Ot 12 (.bin .lss (.t 9) (.t 11))])
 (.cond (.t 12) .skip
 (.exit 0)))
 (.seq (.block 1 (.seq (kp [0,1,5,6,7] [Ot 7 (.mov (.c .nil))])
 (.seq (.seq (kp [0,1,5,6,7,8] [Oc 8 0])
 (.block 2 (.loop (.seq (.seq (kp [0,1,5,6,7,8,21] [Om 15 8,
 Om 16 0,
 Om 17 6,
 Oi 18 1 16 17,
 Ol 19 1 18,
 On 20 19,
 Ot 21 (.bin .lss (.t 15) (.t 20))])
 (.cond (.t 21) .skip
 (.exit 2)))
 (.seq (.block 3 (.seq (kp [0,1,5,6,7,8,26] [Om 24 8,
 Om 25 1,
 Ot 26 (.bin .neq (.t 24) (.t 25))])
 (.cond (.t 26) (kp [0,1,5,6,7,8] [Om 27 7,
 Om 28 0,
 Om 29 6,
 Oi 30 1 28 29,
 Ol 31 1 30,
 Om 32 8,
 Oi 33 2 31 32,
 OL 34 2 33,
 Ot 35 (.new (.bsl 2) [.t 34]),
 Ot 36 (.eff (.app 2 32) [.t 27,.t 35]),
 Om 7 36])
 .skip)))
 (kp [0,1,5,6,7,8] [Om 22 8,
 Ot 23 (.bin .add (.t 22) (ci 1)),
 Om 8 23]))))))
 (.gh (kp [0,1,5,6] [Om 37 5,
 Om 38 7,
 Ot 39 (.new (.bsl 1) [.t 38]),
 Ot 40 (.eff (.app 1 24) [.t 37,.t 39]),
 Om 5 40])))))
 (kp [0,1,5,6] [Om 13 6,
 Ot 14 (.bin .add (.t 13) (ci 1)),
 Om 6 14]))))))
 (.seq (kp [4] [Om 41 5,
 Om 4 41])
 .ret))))
def gimbalref07_without.res : List RX := [(4, none)]
theorem gimbalref07_without.of : OfT pg zfa gimbalref07_without.k gimbalref07_without.res 2 := OfI Tryz.func154
def gimbalref07_Mat_Quad.k : K :=
 (.seq (kp [0,1,4] [Ot 4 (.alloc 2 (.agg [(.bool false),(.sl [])]))])
 (.seq (kp [4] [Om 5 1,
 Om 6 0,
 Om 7 1,
 Ot 8 (.callG zbt [.t 6,.t 7]),
 Ot 9 (.callG zda [.t 5,.t 8]),
 Oy 2 4 9])
 .ret))
def gimbalref07_Mat_Quad.res : List RX := [(4, some (2, true))]
theorem gimbalref07_Mat_Quad.of : OfT pg zeu gimbalref07_Mat_Quad.k gimbalref07_Mat_Quad.res 2 := OfI Tryz.func159
def gimbalref07_Mat_Apply.k : K :=
 (.seq (kp [0,1] [Ot 4 (.mov (.c .nil))])
 (.seq (kp [0,1,5] [Ot 5 (.mov (.c .nil))])
 (.seq (.seq (kp [0,1,5,6] [Oc 6 0])
 (.block 0 (.loop (.seq (.seq (kp [0,1,5,6,10] [Om 7 6,
 Om 8 0,
 On 9 8,
 Ot 10 (.bin .lss (.t 7) (.t 9))])
 (.cond (.t 10) .skip
 (.exit 0)))
 (.seq (.block 1 (kp [0,1,5,6] [Om 13 5,
 Om 14 0,
 Om 15 6,
 Oi 16 1 14 15,
 Ol 17 1 16,
 Om 18 1,
 Ot 19 (.callG zda [.t 17,.t 18]),
 Ot 20 (.new (.bsl 2) [.t 19]),
 Ot 21 (.eff (.app 2 32) [.t 13,.t 20]),
 Om 5 21]))
 (kp [0,1,5,6] [Om 11 6,
 Ot 12 (.bin .add (.t 11) (ci 1)),
 Om 6 12]))))))
 (.seq (kp [4] [Om 22 5,
 Om 4 22])
 .ret))))
def gimbalref07_Mat_Apply.res : List RX := [(4, none)]
theorem gimbalref07_Mat_Apply.ofG : OfTG pg zbt gimbalref07_Mat_Apply.k gimbalref07_Mat_Apply.res 2 := OfIG Tryz.func183
def gimbalref08_Of.k : K :=
 (.seq (kp [0,1,2,6] [Ot 6 (.alloc 4 (.agg [.nil,.nil,(.bool false),(.sl [])]))])
 (.seq (kp [1,6,7] [Om 9 0,
 Ot 10 (.callG zhs [.t 9]),
 Om 11 2,
 Ot 12 (.callG zag [.t 11]),
 Ot 13 (.build [.nil,.nil,(.bool false),(.sl [])] [(0,1,(.t 10)),(2,2,(.t 12))]),
 Ot 7 (.alloc 4 (.agg [.nil,.nil,(.bool false),(.sl [])])),
 Oy 4 7 13])
 (.seq (.seq (kp [1,6,7,8] [Oc 8 0])
 (.block 0 (.loop (.seq (.seq (kp [1,6,7,8,17] [Om 14 8,
 Om 15 1,
 On 16 15,
 Ot 17 (.bin .lss (.t 14) (.t 16))])
 (.cond (.t 17) .skip
 (.exit 0)))
 (.seq (.block 1 (kd [1,6,7,8] [Oq 20 1 1 7,
 Ol 21 1 20,
 Om 22 1,
 Om 23 8,
 Oi 24 1 22 23,
 Ol 25 1 24,
 Ot 26 (.call zag [.t 25]),
 Ot 27 (.new (.bsl 2) [.t 26]),
 Ot 28 (.eff (.app 2 32) [.t 21,.t 27]),
 Oq 29 1 1 7,
 Oy 1 29 28]))
 (kp [1,6,7,8] [Om 18 8,
 Ot 19 (.bin .add (.t 18) (ci 1)),
 Om 8 19]))))))
 (.seq (kp [6] [OL 30 4 7,
 Oy 4 6 30])
 .ret))))
def gimbalref08_Of.res : List RX := [(6, some (4, true))]
theorem gimbalref08_Of.of : OfT pg zfs gimbalref08_Of.k gimbalref08_Of.res 3 := OfI Tryz.func57
def gimbalref08_Quad_Value.k : K :=
 (.seq (kp [1,2,4] [Ot 2 (.boxP (.t 0)),
 Ot 4 (.alloc 2 (.agg [(.bool false),(.sl [])]))])
 (.seq (kd [1,2,4,5] [Oq 6 1 1 2,
 Ol 7 1 6,
 Om 8 1,
 Ot 9 (.call zda [.t 7,.t 8]),
 Oq 10 1 1 2,
 Ol 11 1 10,
 Om 12 1,
 Ot 13 (.call zda [.t 11,.t 12]),
 Ot 14 (.call zal [.t 9,.t 13]),
 Ot 5 (.alloc 2 (.agg [(.bool false),(.sl [])])),
 Oy 2 5 14])
 (.seq (kd [4] [Oq 15 0 1 2,
 Ol 16 1 15,
 Om 17 1,
 Ot 18 (.call zeu [.t 16,.t 17]),
 OL 19 2 5,
 Ot 20 (.call zce [.t 18,.t 19]),
 Ot 21 (.fldA 2 2 true (.t 2)),
 OL 22 2 21,
 Ot 23 (.call zal [.t 20,.t 22]),
 Oy 2 4 23])
 .ret)))
def gimbalref08_Quad_Value.res : List RX := [(4, some (2, true))]
theorem gimbalref08_Quad_Value.of : OfT pg zd6 gimbalref08_Quad_Value.k gimbalref08_Quad_Value.res 2 := OfI Tryz.func105
def gimbalref08_Quad_Slope.k : K :=
 (.seq (kp [1,2] [Ot 2 (.boxP (.t 0)),
 Ot 4 (.mov (.c .nil))])
 (.seq (kp [2,5] [Oq 7 0 1 2,
 Ol 8 1 7,
 Om 9 1,
 Ot 10 (.callG zbt [.t 8,.t 9]),
 Om 5 10])
 (.seq (.seq (kp [2,5,6] [Oc 6 0])
 (.block 0 (.loop (.seq (.seq (kp [2,5,6,14] [Om 11 6,
 Om 12 5,
 On 13 12,
 Ot 14 (.bin .lss (.t 11) (.t 13))])
 (.cond (.t 14) .skip
 (.exit 0)))
 (.seq (.block 1 (kd [2,5,6] [Om 17 5,
 Om 18 6,
 Om 19 5,
 Om 20 6,
 Oi 21 2 19 20,
 OL 22 2 21,
 Oq 23 1 1 2,
 Ol 24 1 23,
 Om 25 6,
 Oi 26 2 24 25,
 OL 27 2 26,
 Ot 28 (.call zce [.t 22,.t 27]),
 Oi 29 2 17 18,
 Oy 2 29 28]))
 (kp [2,5,6] [Om 15 6,
 Ot 16 (.bin .add (.t 15) (ci 1)),
 Om 6 16]))))))
 (.seq (kp [4] [Om 30 5,
 Om 4 30])
 .ret))))
def gimbalref08_Quad_Slope.res : List RX := [(4, none)]
theorem gimbalref08_Quad_Slope.ofG : OfTG pg zc2 gimbalref08_Quad_Slope.k gimbalref08_Quad_Slope.res 2 := OfIG Tryz.func152
end Go.Gim
/- Functions' code as data (written by wip/tools/gen.py), and the step to their contracts. -/
set_option maxRecDepth 100000
namespace Go.Gim
open Go.Proofs
def gimbalref09_Rho.k : K :=
 (.seq (kp [0,1] [⟨(some 4), none,.mov (.c (.str ⟨#[]⟩))⟩])
 (.seq (kp [5,7] [Om 11 0,
 Om 12 1,
 Ot 13 (.callG zfg [.t 11,.t 12]),
 Om 10 13,
 Ot 14 (.ext (.t 10) 0),
 Ot 15 (.ext (.t 10) 1),
 Ot 16 (.ext (.t 10) 2),
 Om 5 14,
 Om 6 15,
 Om 7 16])
 (.seq (kp [5,7,8] [Om 17 5,
 Ot 18 (.callG zag [.t 17]),
 Ot 8 (.alloc 2 (.agg [(.bool false),(.sl [])])),
 Oy 2 8 18])
 (.seq (.seq (kp [7,8,21] [Om 19 5,
 Om 20 7,
 Ot 21 (.bin .leq (.t 19) (.t 20))])
 (.cond (.t 21) (.seq (kp [4] [OL 22 2 8,
 OL 23 2 8,
 Ot 24 (.callG zak [.t 22,.t 23]),
 Ot 25 (.callG zc3 [.t 24]),
 Om 4 25])
 .ret)
 .skip))
 (.seq (kp [8,9] [Om 26 7,
 Ot 27 (.callG zag [.t 26]),
 Ot 9 (.alloc 2 (.agg [(.bool false),(.sl [])])),
 Oy 2 9 27])
 (.seq (kd [4] [OL 28 2 9,
 OL 29 2 8,
 Ot 30 (.call zak [.t 28,.t 29]),
 OL 31 2 9,
 OL 32 2 8,
 Ot 33 (.call zak [.t 31,.t 32]),
 Ot 34 (.call zal [.t 30,.t 33]),
 OL 35 2 9,
 OL 36 2 9,
 Ot 37 (.call zak [.t 35,.t 36]),
 Ot 38 (.call zce [.t 34,.t 37]),
 Ot 39 (.call zc3 [.t 38]),
 Om 4 39])
 .ret))))))
def gimbalref09_Rho.res : List RX := [(4, none)]
theorem gimbalref09_Rho.of : OfT pg zg3 gimbalref09_Rho.k gimbalref09_Rho.res 2 := OfI Tryz.func161
def gimbalref09_Slope.k : K :=
 (.seq (kp [0,1] [Oc 4 0])
 (.seq (kp [5,6,7] [Om 9 0,
 Om 10 1,
 Ot 11 (.callG zfg [.t 9,.t 10]),
 Om 8 11,
 Ot 12 (.ext (.t 8) 0),
 Ot 13 (.ext (.t 8) 1),
 Ot 14 (.ext (.t 8) 2),
 Om 5 12,
 Om 6 13,
 Om 7 14])
 (.seq (.seq (kp [5,6,7,17] [Om 15 5,
 Om 16 7,
 Ot 17 (.bin .gtr (.t 15) (.t 16))])
 (.cond (.t 17) (kp [5,6] [Om 18 7,
 Om 5 18])
 .skip))
 (.seq (.seq (kp [5,19] [Om 19 6])
 (.cond (.t 19) (.seq (kp [4] [Om 20 5,
 Ot 21 (.un .neg (.t 20)),
 Om 4 21])
 .ret)
 .skip))
 (.seq (kp [4] [Om 22 5,
 Om 4 22])
 .ret)))))
def gimbalref09_Slope.res : List RX := [(4, none)]
theorem gimbalref09_Slope.of : OfT pg zf2 gimbalref09_Slope.k gimbalref09_Slope.res 2 := OfI Tryz.func184
def gimbalref09_cut.k : K :=
 (.seq (kp [0,1] [Oc 4 0,
 Ot 5 (.mov (.c (.bool false))),
 Oc 6 0])
 (.seq (.seq (kp [0,1,8] [Om 7 0,
 Ot 8 (.bin .lss (.t 7) (.c (.int .i64 (-2147483647))))])
 (.cond (.t 8) (kp [0,1] [Ot 0 (.mov (.c (.int .i64 (-2147483647))))])
 .skip))
 (.seq (.seq (kp [0,1,10] [Om 9 0,
 Ot 10 (.bin .gtr (.t 9) (ci 2147483647))])
 (.cond (.t 10) (kp [0,1] [Oc 0 2147483647])
 .skip))
 (.seq (.seq (kp [0,1,12] [Om 11 1,
 Ot 12 (.bin .lss (.t 11) (ci 0))])
 (.cond (.t 12) (kp [0,1] [Oc 1 0])
 .skip))
 (.seq (.seq (kp [0,1,14] [Om 13 1,
 Ot 14 (.bin .gtr (.t 13) (ci 2147483647))])
 (.cond (.t 14) (kp [0,1] [Oc 1 2147483647])
 .skip))
 (.seq (.seq (kp [0,1,16] [Om 15 0,
 Ot 16 (.bin .lss (.t 15) (ci 0))])
 (.cond (.t 16) (.seq (kp [4,5,6] [Om 17 0,
 Ot 18 (.un .neg (.t 17)),
 Om 19 1,
 Om 4 18,
 Ot 5 (.mov (.c (.bool true))),
 Om 6 19])
 .ret)
 .skip))
 (.seq (kp [4,5,6] [Om 20 0,
 Om 21 1,
 Om 4 20,
 Ot 5 (.mov (.c (.bool false))),
 Om 6 21])
 .ret)))))))
def gimbalref09_cut.res : List RX := [(4, none), (5, none), (6, none)]
theorem gimbalref09_cut.of : OfT pg zfg gimbalref09_cut.k gimbalref09_cut.res 2 := OfI Tryz.func188
def gimbalref18_Value.k : K :=
 (.seq (kp [1,2,4] [Ot 2 (.boxP (.t 0)),
 Ot 4 (.alloc 2 (.agg [(.bool false),(.sl [])]))])
 (.seq (kd [1,2,4,5] [Ot 7 (.fldA 2 4 true (.t 2)),
 OL 8 4 7,
 Om 9 1,
 Ot 10 (.call zdx [.t 9]),
 Ot 11 (.call zd6 [.t 8,.t 10]),
 Ot 5 (.alloc 2 (.agg [(.bool false),(.sl [])])),
 Oy 2 5 11])
 (.seq (.seq (kp [1,2,4,5,6] [Oc 6 0])
 (.block 0 (.loop (.seq (.seq (kp [1,2,4,5,6,16] [Om 12 6,
 Oq 13 1 1 2,
 Ol 14 1 13,
 On 15 14,
 Ot 16 (.bin .lss (.t 12) (.t 15))])
 (.cond (.t 16) .skip
 (.exit 0)))
 (.seq (.block 1 (kd [1,2,4,5,6] [OL 19 2 5,
 Oq 20 1 1 2,
 Ol 21 1 20,
 Om 22 6,
 Oi 23 4 21 22,
 OL 24 4 23,
 Om 25 1,
 Ot 26 (.call zgp [.t 24,.t 25]),
 Ot 27 (.fldA 6 2 true (.t 2)),
 OL 28 2 27,
 Ot 29 (.call zak [.t 26,.t 28]),
 Ot 30 (.call zal [.t 19,.t 29]),
 Oy 2 5 30]))
 (kp [1,2,4,5,6] [Om 17 6,
 Ot 18 (.bin .add (.t 17) (ci 1)),
 Om 6 18]))))))
 (.seq (kp [4] [OL 31 2 5,
 Oy 2 4 31])
 .ret))))
def gimbalref18_Value.res : List RX := [(4, some (2, true))]
theorem gimbalref18_Value.of : OfT pg zei gimbalref18_Value.k gimbalref18_Value.res 2 := OfI Tryz.func39
def gimbalref18_Flat.k : K :=
 (.seq (kp [1,2,3] [Ot 3 (.boxP (.t 0)),
 Ot 6 (.mov (.c (.bool false)))])
 (.seq (kd [1,3,7] [Om 12 2,
 Ot 13 (.call zag [.t 12]),
 Ot 14 (.fldA 6 2 true (.t 3)),
 OL 15 2 14,
 Ot 16 (.call zak [.t 13,.t 15]),
 Ot 7 (.alloc 2 (.agg [(.bool false),(.sl [])])),
 Oy 2 7 16])
 (.seq (kp [7,8] [OL 17 8 3,
 Om 18 1,
 Ot 19 (.callG zb8 [.t 17,.t 18]),
 Om 8 19])
 (.seq (.seq (kp [7,8,9] [Oc 9 0])
 (.block 0 (.loop (.seq (.seq (kp [7,8,9,23] [Om 20 9,
 Om 21 8,
 On 22 21,
 Ot 23 (.bin .lss (.t 20) (.t 22))])
 (.cond (.t 23) .skip
 (.exit 0)))
 (.seq (.block 1 (.seq (kd [7,8,9,10] [Om 26 8,
 Om 27 9,
 Oi 28 2 26 27,
 OL 29 2 28,
 OL 30 2 7,
 Ot 31 (.call zas [.t 29,.t 30]),
 Om 10 31])
 (.seq (kd [7,8,9,10,11] [Om 32 8,
 Om 33 9,
 Oi 34 2 32 33,
 OL 35 2 34,
 OL 36 2 7,
 Ot 37 (.call zbi [.t 36]),
 Ot 38 (.call zas [.t 35,.t 37]),
 Om 11 38])
 (.seq (kp [7,8,9,44] [Om 39 10,
 Ot 40 (.bin .gtr (.t 39) (ci 0)),
 Om 41 40,
 Og 42 41 (.mov (.t 11)),
 Og 43 41 (.bin .lss (.t 42) (ci 0)),
 Ot 44 (.pick (.t 41) (.c (.bool true)) (.t 43))])
 (.cond (.t 44) (.seq (kp [6] [Ot 6 (.mov (.c (.bool false)))])
 .ret)
 .skip)))))
 (kp [7,8,9] [Om 24 9,
 Ot 25 (.bin .add (.t 24) (ci 1)),
 Om 9 25]))))))
 (.seq (kp [6] [Ot 6 (.mov (.c (.bool true)))])
 .ret)))))
def gimbalref18_Flat.res : List RX := [(6, none)]
theorem gimbalref18_Flat.of : OfT pg zey gimbalref18_Flat.k gimbalref18_Flat.res 3 := OfI Tryz.func41
def gimbalref18_Steep.k : K :=
 (.seq (kp [1,2] [Ot 2 (.boxP (.t 0)),
 Ot 4 (.mov (.c .nil))])
 (.seq (kd [1,2,5] [Ot 9 (.fldA 2 4 true (.t 2)),
 OL 10 4 9,
 Om 11 1,
 Ot 12 (.call zdx [.t 11]),
 Ot 13 (.callG zc2 [.t 10,.t 12]),
 Om 5 13])
 (.seq (.seq (kp [1,2,5,6] [Oc 6 0])
 (.block 0 (.loop (.seq (.seq (kp [1,2,5,6,18] [Om 14 6,
 Oq 15 1 1 2,
 Ol 16 1 15,
 On 17 16,
 Ot 18 (.bin .lss (.t 14) (.t 17))])
 (.cond (.t 18) .skip
 (.exit 0)))
 (.seq (.block 1 (.seq (kp [1,2,5,6,7] [Oq 21 1 1 2,
 Ol 22 1 21,
 Om 23 6,
 Oi 24 4 22 23,
 OL 25 4 24,
 Om 26 1,
 Ot 27 (.callG zfz [.t 25,.t 26]),
 Om 7 27])
 (.seq (kp [1,2,5,6,7,8] [Oc 8 0])
 (.block 2 (.loop (.seq (.seq (kp [1,2,5,6,7,8,31] [Om 28 8,
 Om 29 7,
 On 30 29,
 Ot 31 (.bin .lss (.t 28) (.t 30))])
 (.cond (.t 31) .skip
 (.exit 2)))
 (.seq (.block 3 (kd [1,2,5,6,7,8] [Om 34 5,
 Om 35 8,
 Om 36 5,
 Om 37 8,
 Oi 38 2 36 37,
 OL 39 2 38,
 Om 40 7,
 Om 41 8,
 Oi 42 1 40 41,
 Ol 43 1 42,
 Ot 44 (.call zag [.t 43]),
 Ot 45 (.fldA 6 2 true (.t 2)),
 OL 46 2 45,
 Ot 47 (.call zak [.t 44,.t 46]),
 Ot 48 (.call zal [.t 39,.t 47]),
 Oi 49 2 34 35,
 Oy 2 49 48]))
 (kp [1,2,5,6,7,8] [Om 32 8,
 Ot 33 (.bin .add (.t 32) (ci 1)),
 Om 8 33]))))))))
 (kp [1,2,5,6] [Om 19 6,
 Ot 20 (.bin .add (.t 19) (ci 1)),
 Om 6 20]))))))
 (.seq (kp [4] [Om 50 5,
 Om 4 50])
 .ret))))
def gimbalref18_Steep.res : List RX := [(4, none)]
theorem gimbalref18_Steep.of : OfT pg zb8 gimbalref18_Steep.k gimbalref18_Steep.res 2 := OfI Tryz.func94
theorem gimbalref18_Steep.ofG : OfTG pg zb8 gimbalref18_Steep.k gimbalref18_Steep.res 2 := OfIG Tryz.func94
def gimbalref18_Numbers.k : K :=
 (.seq (kp [0] [Ot 2 (.mov (.c .nil))])
 (.seq (kp [0,3] [Ot 3 (.mov (.c .nil))])
 (.seq (.seq (kp [0,3,4] [Oc 4 0])
 (.block 0 (.loop (.seq (.seq (kp [0,3,4,8] [Om 5 4,
 Om 6 0,
 On 7 6,
 Ot 8 (.bin .lss (.t 5) (.t 7))])
 (.cond (.t 8) .skip
 (.exit 0)))
 (.seq (.block 1 (kp [0,3,4] [Om 11 3,
 Om 12 0,
 Om 13 4,
 Oi 14 1 12 13,
 Ol 15 1 14,
 Ot 16 (.callG zag [.t 15]),
 Ot 17 (.new (.bsl 2) [.t 16]),
 Ot 18 (.eff (.app 2 32) [.t 11,.t 17]),
 Om 3 18]))
 (kp [0,3,4] [Om 9 4,
 Ot 10 (.bin .add (.t 9) (ci 1)),
 Om 4 10]))))))
 (.seq (kp [2] [Om 19 3,
 Om 2 19])
 .ret))))
def gimbalref18_Numbers.res : List RX := [(2, none)]
theorem gimbalref18_Numbers.of : OfT pg zdx gimbalref18_Numbers.k gimbalref18_Numbers.res 1 := OfI Tryz.func106
end Go.Gim
/- Functions' code as data (written by wip/tools/gen.py), and the step to their contracts. -/
set_option maxRecDepth 100000
namespace Go.Gim
open Go.Proofs
def gimbalref13_Check.k : K :=
 (.seq (kp [1] [Ot 1 (.boxP (.t 0)),
 ⟨(some 2), none,.mov (.c (.str ⟨#[]⟩))⟩])
 (.seq (.seq (kp [1,5] [Oq 3 0 1 1,
 Ol 4 1 3,
 Ot 5 (.callG zaw [.t 4,ci 1,ci 1000])])
 (.cond (.t 5) (.seq (kp [2] [⟨(some 2), none,.mov (.c (.str ⟨#[82,97,116,101]⟩))⟩])
 .ret)
 .skip))
 (.seq (.seq (kp [1,8] [Oq 6 1 1 1,
 Ol 7 1 6,
 Ot 8 (.callG zaw [.t 7,ci 1,ci 1000])])
 (.cond (.t 8) (.seq (kp [2] [⟨(some 2), none,.mov (.c (.str ⟨#[83,116,101,112]⟩))⟩])
 .ret)
 .skip))
 (.seq (.seq (kp [1,11] [Oq 9 2 1 1,
 Ol 10 1 9,
 Ot 11 (.callG zaw [.t 10,ci 2,ci 5])])
 (.cond (.t 11) (.seq (kp [2] [⟨(some 2), none,.mov (.c (.str ⟨#[75,101,121,115]⟩))⟩])
 .ret)
 .skip))
 (.seq (.seq (kp [1,14] [Oq 12 3 1 1,
 Ol 13 1 12,
 Ot 14 (.callG zaw [.t 13,ci 1,ci 1000])])
 (.cond (.t 14) (.seq (kp [2] [⟨(some 2), none,.mov (.c (.str ⟨#[71,97,112]⟩))⟩])
 .ret)
 .skip))
 (.seq (.seq (kp [1,17] [Oq 15 4 1 1,
 Ol 16 1 15,
 Ot 17 (.callG zaw [.t 16,ci 1,ci 4194304])])
 (.cond (.t 17) (.seq (kp [2] [⟨(some 2), none,.mov (.c (.str ⟨#[84,117,114,110]⟩))⟩])
 .ret)
 .skip))
 (.seq (.seq (kp [1,20] [Oq 18 5 1 1,
 Ol 19 1 18,
 Ot 20 (.callG zaw [.t 19,ci 1,ci 67108864])])
 (.cond (.t 20) (.seq (kp [2] [⟨(some 2), none,.mov (.c (.str ⟨#[80,117,108,108]⟩))⟩])
 .ret)
 .skip))
 (.seq (.seq (kp [1,23] [Ot 21 (.fldA 6 4 true (.t 1)),
 OL 22 4 21,
 Ot 23 (.callG zez [.t 22,ci 32768])])
 (.cond (.t 23) (.seq (kp [2] [⟨(some 2), none,.mov (.c (.str ⟨#[75,110,101,101,115]⟩))⟩])
 .ret)
 .skip))
 (.seq (.seq (kp [1,26] [Ot 24 (.fldA 10 4 true (.t 1)),
 OL 25 4 24,
 Ot 26 (.callG zez [.t 25,ci 100])])
 (.cond (.t 26) (.seq (kp [2] [⟨(some 2), none,.mov (.c (.str ⟨#[87,101,105,103,104,116,115]⟩))⟩])
 .ret)
 .skip))
 (.seq (.seq (kp [1,29] [Oq 27 14 1 1,
 Ol 28 1 27,
 Ot 29 (.callG zaw [.t 28,ci 1,ci 30])])
 (.cond (.t 29) (.seq (kp [2] [⟨(some 2), none,.mov (.c (.str ⟨#[82,111,117,110,100,115]⟩))⟩])
 .ret)
 .skip))
 (.seq (.seq (kp [1,32] [Oq 30 15 1 1,
 Ol 31 1 30,
 Ot 32 (.callG zaw [.t 31,ci 0,ci 12])])
 (.cond (.t 32) (.seq (kp [2] [⟨(some 2), none,.mov (.c (.str ⟨#[82,97,105,115,101,115]⟩))⟩])
 .ret)
 .skip))
 (.seq (.seq (kp [35] [Oq 33 16 1 1,
 Ol 34 1 33,
 Ot 35 (.callG zaw [.t 34,ci 0,ci 1000000000])])
 (.cond (.t 35) (.seq (kp [2] [⟨(some 2), none,.mov (.c (.str ⟨#[70,108,97,116]⟩))⟩])
 .ret)
 .skip))
 (.seq (kp [2] [⟨(some 2), none,.mov (.c (.str ⟨#[]⟩))⟩])
 .ret)))))))))))))
def gimbalref13_Check.res : List RX := [(2, none)]
theorem gimbalref13_Check.of : OfT pg zf1 gimbalref13_Check.k gimbalref13_Check.res 1 := OfI Tryz.func103
def gimbalref13_out.k : K :=
 (.seq (kp [0,1,2] [Ot 6 (.mov (.c (.bool false)))])
 (.seq (kp [6] [Om 7 0,
 Om 8 1,
 Ot 9 (.bin .lss (.t 7) (.t 8)),
 Om 10 9,
 Og 11 10 (.mov (.t 0)),
 Og 12 10 (.mov (.t 2)),
 Og 13 10 (.bin .gtr (.t 11) (.t 12)),
 Ot 14 (.pick (.t 10) (.c (.bool true)) (.t 13)),
 Om 6 14])
 .ret))
def gimbalref13_out.res : List RX := [(6, none)]
theorem gimbalref13_out.of : OfT pg zaw gimbalref13_out.k gimbalref13_out.res 3 := OfI Tryz.func157
def gimbalref13_any4.k : K :=
 (.seq (kp [1,2] [Ot 2 (.boxP (.t 0)),
 Ot 4 (.mov (.c (.bool false)))])
 (.seq (kp [4] [Ot 5 (.red (.aptr 4 1 false) [.t 2,ci 0]),
 Ol 6 1 5,
 Om 7 1,
 Ot 8 (.callG zaw [.t 6,ci 1,.t 7]),
 Om 9 8,
 Og 10 9 (.red (.aptr 4 1 false) [.t 2,ci 1]),
 Og 11 9 (.load 1 false (.t 10)),
 Og 12 9 (.mov (.t 1)),
 Og 13 9 (.callG zaw [.t 11,ci 1,.t 12]),
 Ot 14 (.pick (.t 9) (.c (.bool true)) (.t 13)),
 Om 15 14,
 Og 16 15 (.red (.aptr 4 1 false) [.t 2,ci 2]),
 Og 17 15 (.load 1 false (.t 16)),
 Og 18 15 (.mov (.t 1)),
 Og 19 15 (.callG zaw [.t 17,ci 1,.t 18]),
 Ot 20 (.pick (.t 15) (.c (.bool true)) (.t 19)),
 Om 21 20,
 Og 22 21 (.red (.aptr 4 1 false) [.t 2,ci 3]),
 Og 23 21 (.load 1 false (.t 22)),
 Og 24 21 (.mov (.t 1)),
 Og 25 21 (.callG zaw [.t 23,ci 1,.t 24]),
 Ot 26 (.pick (.t 21) (.c (.bool true)) (.t 25)),
 Om 4 26])
 .ret))
def gimbalref13_any4.res : List RX := [(4, none)]
theorem gimbalref13_any4.of : OfT pg zez gimbalref13_any4.k gimbalref13_any4.res 2 := OfI Tryz.func158
end Go.Gim

import Derived.Test.YtjmbcnfhonfpkaaGreatDoorGN
/- Functions' code as data (written by wip/tools/gen.py), and the step to their contracts. -/
set_option maxRecDepth 100000
namespace Go.Gim
open Go.Proofs
def imu_New.k : K :=
 (.seq (kp [1] [Ot 1 (.boxP (.t 0)),
 Ot 2 (.mov (.c .nilptr)),
 Oc 3 0])
 (.seq (.seq (kp [1,5] [OL 7 17 1,
 Ot 8 (.callG zek [.t 7]),
 Om 6 8,
 Ot 9 (.ext (.t 6) 0),
 Ot 10 (.ext (.t 6) 1),
 Om 4 9,
 Om 5 10])
 (.seq (kp [1,5,12] [Om 11 5,
 Ot 12 (.bin .neq (.t 11) (ci 0))])
 (.cond (.t 12) (.seq (kp [2,3] [Om 13 5,
 Ot 2 (.mov (.c .nilptr)),
 Om 3 13])
 .ret)
 .skip)))
 (.seq (kd [2,3] [Ot 14 (.call n_imu_Empty []),
 Ot 15 (.build [(.int .i64 0),(.int .i64 0),(.bool false),(.int .i64 0),(.int .i64 0),(.bool false),(.int .i64 0),(.int .i64 0),(.bool false),(.int .i64 0),(.int .i64 0),(.bool false),(.int .i64 0),(.int .i64 0),(.bool false),(.int .i64 0),(.int .i64 0),(.bool false),(.int .i64 0),(.int .i64 0),(.bool false),(.int .i64 0),(.int .i64 0),(.bool false),(.int .i64 0),(.int .i64 0),(.bool false),(.int .i64 0),(.int .i64 0),(.bool false),(.int .i64 0),(.int .i64 0),(.bool false),(.int .i64 0),(.int .i64 0),(.bool false),(.int .i64 0),(.int .i64 0),(.bool false),(.int .i64 0),(.int .i64 0),(.bool false),(.int .i64 0),(.int .i64 0),(.bool false),(.int .i64 0),(.int .i64 0),(.int .i64 0)] [(0,47,(.t 14))]),
 OL 16 17 1,
 Ot 17 (.build [(.int .i64 0),(.int .i64 0),(.bool false),(.int .i64 0),(.int .i64 0),(.bool false),(.int .i64 0),(.int .i64 0),(.bool false),(.int .i64 0),(.int .i64 0),(.bool false),(.int .i64 0),(.int .i64 0),(.bool false),(.int .i64 0),(.int .i64 0),(.bool false),(.int .i64 0),(.int .i64 0),(.bool false),(.int .i64 0),(.int .i64 0),(.bool false),(.int .i64 0),(.int .i64 0),(.bool false),(.int .i64 0),(.int .i64 0),(.bool false),(.int .i64 0),(.int .i64 0),(.bool false),(.int .i64 0),(.int .i64 0),(.bool false),(.int .i64 0),(.int .i64 0),(.bool false),(.int .i64 0),(.int .i64 0),(.bool false),(.int .i64 0),(.int .i64 0),(.bool false),(.int .i64 0),(.int .i64 0),(.int .i64 0),(.int .i64 0),(.int .i64 0),(.int .i64 0),(.int .i64 0),(.int .i64 0),(.int .i64 0),(.int .i64 0),(.int .i64 0),(.int .i64 0),(.int .i64 0),(.int .i64 0),(.int .i64 0),(.int .i64 0),(.int .i64 0),(.int .i64 0),(.int .i64 0),(.int .i64 0)] [(0,48,(.t 15)),(48,17,(.t 16))]),
 Ot 18 (.eff (.boxO 65) [.t 17]),
 Om 2 18,
 Oc 3 0])
 .ret)))
def imu_New.res : List RX := [(2, none), (3, none)]
theorem imu_New.ofG : OfTG pg n_imu_New imu_New.k imu_New.res 1 := OfIG Tryz.func8
def imu_Time.k : K :=
 (.seq (kp [1,2,4] [Ot 2 (.boxP (.t 0)),
 Ot 4 (.alloc 3 (.agg [(.int .i64 0),(.int .i64 0),(.bool false)]))])
 (.seq (kd [4] [Om 5 1,
 Ot 6 (.bin .mul (.t 5) (ci 1048576)),
 Ot 7 (.call zig [.t 6]),
 Oq 8 0 1 2,
 Ol 9 1 8,
 Ot 10 (.bin .mul (.t 9) (ci 1048576)),
 Ot 11 (.call zig [.t 10]),
 Ot 12 (.call zg3 [.t 7,.t 11]),
 Oy 3 4 12])
 .ret))
def imu_Time.res : List RX := [(4, some (3, true))]
theorem imu_Time.of : OfT pg n_imu_Time imu_Time.k imu_Time.res 2 := OfI Tryz.func11
def imu_Empty.k : K :=
 (.seq (kp [0] [Ot 0 (.alloc 47 (.agg [(.int .i64 0),(.int .i64 0),(.bool false),(.int .i64 0),(.int .i64 0),(.bool false),(.int .i64 0),(.int .i64 0),(.bool false),(.int .i64 0),(.int .i64 0),(.bool false),(.int .i64 0),(.int .i64 0),(.bool false),(.int .i64 0),(.int .i64 0),(.bool false),(.int .i64 0),(.int .i64 0),(.bool false),(.int .i64 0),(.int .i64 0),(.bool false),(.int .i64 0),(.int .i64 0),(.bool false),(.int .i64 0),(.int .i64 0),(.bool false),(.int .i64 0),(.int .i64 0),(.bool false),(.int .i64 0),(.int .i64 0),(.bool false),(.int .i64 0),(.int .i64 0),(.bool false),(.int .i64 0),(.int .i64 0),(.bool false),(.int .i64 0),(.int .i64 0),(.bool false),(.int .i64 0),(.int .i64 0)]))])
 (.seq (kp [0] [Ot 1 (.callG n_rot_Id []),
 Ot 2 (.callG zf4 [ci 0,ci 0,ci 0]),
 Ot 3 (.callG zf4 [ci 0,ci 0,ci 0]),
 Ot 4 (.build [(.int .i64 0),(.int .i64 0),(.bool false),(.int .i64 0),(.int .i64 0),(.bool false),(.int .i64 0),(.int .i64 0),(.bool false),(.int .i64 0),(.int .i64 0),(.bool false),(.int .i64 0),(.int .i64 0),(.bool false),(.int .i64 0),(.int .i64 0),(.bool false),(.int .i64 0),(.int .i64 0),(.bool false),(.int .i64 0),(.int .i64 0),(.bool false),(.int .i64 0),(.int .i64 0),(.bool false),(.int .i64 0),(.int .i64 0),(.bool false),(.int .i64 0),(.int .i64 0),(.bool false),(.int .i64 0),(.int .i64 0),(.bool false),(.int .i64 0),(.int .i64 0),(.bool false),(.int .i64 0),(.int .i64 0),(.bool false),(.int .i64 0),(.int .i64 0),(.bool false),(.int .i64 0),(.int .i64 0)] [(0,27,(.t 1)),(27,9,(.t 2)),(36,9,(.t 3))]),
 Oy 47 0 4])
 .ret))
def imu_Empty.res : List RX := [(0, some (47, true))]
theorem imu_Empty.of : OfT pg n_imu_Empty imu_Empty.k imu_Empty.res 0 := OfI Tryz.func26
def imu_over.k : K :=
 (.seq (kp [0,1] [Ot 4 (.mov (.c (.bool false)))])
 (.seq (kd [4] [Om 5 0,
 Ot 6 (.idxA 1 (.t 5) (ci 0)),
 Ol 7 1 6,
 Om 8 0,
 Ot 9 (.idxA 1 (.t 8) (ci 0)),
 Ol 10 1 9,
 Ot 11 (.un .neg (.t 10)),
 Om 12 0,
 Ot 13 (.idxA 1 (.t 12) (ci 1)),
 Ol 14 1 13,
 Om 15 0,
 Ot 16 (.idxA 1 (.t 15) (ci 1)),
 Ol 17 1 16,
 Ot 18 (.un .neg (.t 17)),
 Om 19 0,
 Ot 20 (.idxA 1 (.t 19) (ci 2)),
 Ol 21 1 20,
 Om 22 0,
 Ot 23 (.idxA 1 (.t 22) (ci 2)),
 Ol 24 1 23,
 Ot 25 (.un .neg (.t 24)),
 Ot 26 (.mm true (.t 7) [.t 11,.t 14,.t 18,.t 21,.t 25]),
 Om 27 1,
 Ot 28 (.bin .gtr (.t 26) (.t 27)),
 Om 4 28])
 .ret))
def imu_over.res : List RX := [(4, none)]
theorem imu_over.of : OfT pg zdq imu_over.k imu_over.res 2 := OfI Tryz.func28
def imu_only.k : K :=
 (.seq (kp [0,2] [Ot 2 (.alloc 3 (.agg [(.int .i64 0),(.int .i64 0),(.bool false)]))])
 (.seq (kp [2] [Om 3 0,
 Om 4 0,
 Ot 5 (.callG zej [.t 3,.t 4]),
 Oy 3 2 5])
 .ret))
def imu_only.res : List RX := [(2, some (3, true))]
theorem imu_only.of : OfT pg zig imu_only.k imu_only.res 1 := OfI Tryz.func30
def imu_Pre_Add.k : K :=
 (.seq (kp [0,2,4] [Ot 4 (.boxP (.t 1)),
 Oc 6 0])
 (.seq (.seq (kp [0,2,4,15] [Om 10 0,
 Ot 11 (.nilchk (.t 10)),
 Ot 12 (.fldA 0 48 true (.t 11)),
 Oq 13 47 1 12,
 Ol 14 1 13,
 Ot 15 (.bin .neq (.t 14) (ci 0))])
 (.cond (.t 15) (.seq (kp [6] [Om 16 0,
 Ot 17 (.nilchk (.t 16)),
 Ot 18 (.fldA 0 48 true (.t 17)),
 Oq 19 47 1 18,
 Ol 20 1 19,
 Om 6 20])
 .ret)
 .skip))
 (.seq (.seq (kp [0,2,4,9] [OL 22 4 4,
 Ot 23 (.callG zh0 [.t 22]),
 Om 21 23,
 Ot 24 (.ext (.t 21) 0),
 Ot 25 (.ext (.t 21) 1),
 Ot 26 (.ext (.t 21) 2),
 Om 7 24,
 Om 8 25,
 Om 9 26])
 (.seq (kp [0,2,4,9,28] [Om 27 9,
 Ot 28 (.bin .neq (.t 27) (ci 0))])
 (.cond (.t 28) (.seq (kp [6] [Om 29 9,
 Om 6 29])
 .ret)
 .skip)))
 (.seq (.block 0 (.seq (kp [0,2,4,95] [Oq 96 0 1 4,
 Ol 97 1 96,
 Ot 98 (.bin .neq (.t 97) (ci 1)),
 Om 95 98])
 (.cond (.t 95) (.seq (kp [6] [Oc 6 120])
 .ret)
 (.seq (kp [0,2,4,99] [Om 100 2,
 Ot 101 (.bin .lss (.t 100) (ci 1)),
 Om 102 101,
 Og 103 102 (.mov (.t 2)),
 Og 104 102 (.mov (.t 0)),
 Og 105 102 (.nilchk (.t 104)),
 Og 106 102 (.fldA 48 17 true (.t 105)),
 Og 107 102 (.fldA 3 1 false (.t 106)),
 Og 108 102 (.load 1 false (.t 107)),
 Og 109 102 (.bin .gtr (.t 103) (.t 108)),
 Ot 110 (.pick (.t 102) (.c (.bool true)) (.t 109)),
 Om 99 110])
 (.cond (.t 99) (kp [0] [Om 111 0,
 Ot 112 (.nilchk (.t 111)),
 Ot 113 (.fldA 0 48 true (.t 112)),
 Oq 114 47 1 113,
 ⟨none, none,.store 1 (.t 114) (ci 150)⟩])
 (.seq (kd [0,2,4,115] [Oq 116 3 1 4,
 Ol 117 1 116,
 Ot 118 (.red (.slc 1 false true false) [.t 117,ci 3]),
 Om 119 0,
 Ot 120 (.nilchk (.t 119)),
 Ot 121 (.fldA 48 17 true (.t 120)),
 Oq 122 4 1 121,
 Ol 123 1 122,
 Ot 124 (.call zdq [.t 118,.t 123]),
 Om 125 124,
 Og 126 125 (.fldA 3 1 false (.t 4)),
 Og 127 125 (.load 1 false (.t 126)),
 Og 128 125 (.red (.slc 1 true false false) [.t 127,ci 3]),
 Og 129 125 (.mov (.t 0)),
 Og 130 125 (.nilchk (.t 129)),
 Og 131 125 (.fldA 48 17 true (.t 130)),
 Og 132 125 (.fldA 5 1 false (.t 131)),
 Og 133 125 (.load 1 false (.t 132)),
 Og 134 125 (.call zdq [.t 128,.t 133]),
 Ot 135 (.pick (.t 125) (.c (.bool true)) (.t 134)),
 Om 115 135])
 (.cond (.t 115) (kp [0] [Om 136 0,
 Ot 137 (.nilchk (.t 136)),
 Ot 138 (.fldA 0 48 true (.t 137)),
 Oq 139 47 1 138,
 ⟨none, none,.store 1 (.t 139) (ci 151)⟩])
 (.seq (kd [0,2] [Om 30 0,
 Om 31 0,
 Ot 32 (.nilchk (.t 31)),
 Ot 33 (.fldA 0 48 true (.t 32)),
 Ot 34 (.fldA 0 47 true (.t 33)),
 OL 35 47 34,
 Oq 36 3 1 4,
 Ol 37 1 36,
 Ot 38 (.idxA 1 (.t 37) (ci 0)),
 Ol 39 1 38,
 Oq 40 3 1 4,
 Ol 41 1 40,
 Ot 42 (.idxA 1 (.t 41) (ci 1)),
 Ol 43 1 42,
 Oq 44 3 1 4,
 Ol 45 1 44,
 Ot 46 (.idxA 1 (.t 45) (ci 2)),
 Ol 47 1 46,
 Ot 48 (.call zf4 [.t 39,.t 43,.t 47]),
 Oq 49 3 1 4,
 Ol 50 1 49,
 Ot 51 (.idxA 1 (.t 50) (ci 3)),
 Ol 52 1 51,
 Oq 53 3 1 4,
 Ol 54 1 53,
 Ot 55 (.idxA 1 (.t 54) (ci 4)),
 Ol 56 1 55,
 Oq 57 3 1 4,
 Ol 58 1 57,
 Ot 59 (.idxA 1 (.t 58) (ci 5)),
 Ol 60 1 59,
 Ot 61 (.call zf4 [.t 52,.t 56,.t 60]),
 Om 62 0,
 Ot 63 (.nilchk (.t 62)),
 Ot 64 (.fldA 48 17 true (.t 63)),
 OL 65 17 64,
 Om 66 2,
 Ot 67 (.call n_imu_Time [.t 65,.t 66]),
 Ot 68 (.call zhx [.t 35,.t 48,.t 61,.t 67]),
 Ot 69 (.nilchk (.t 30)),
 Ot 70 (.fldA 0 48 true (.t 69)),
 Ot 71 (.fldA 0 47 true (.t 70)),
 Oy 47 71 68])
 (.seq (kp [0] [Om 72 0,
 Ot 73 (.nilchk (.t 72)),
 Ot 74 (.fldA 0 48 true (.t 73)),
 Ot 75 (.fldA 0 47 true (.t 74)),
 Oq 76 45 1 75,
 Ol 77 1 76,
 Om 78 2,
 Ot 79 (.bin .add (.t 77) (.t 78)),
 Ot 80 (.nilchk (.t 72)),
 Ot 81 (.fldA 0 48 true (.t 80)),
 Ot 82 (.fldA 0 47 true (.t 81)),
 Oq 83 45 1 82,
 Oy 1 83 79])
 (kp [0] [Om 84 0,
 Ot 85 (.nilchk (.t 84)),
 Ot 86 (.fldA 0 48 true (.t 85)),
 Ot 87 (.fldA 0 47 true (.t 86)),
 Oq 88 46 1 87,
 Ol 89 1 88,
 Ot 90 (.bin .add (.t 89) (ci 1)),
 Ot 91 (.nilchk (.t 84)),
 Ot 92 (.fldA 0 48 true (.t 91)),
 Ot 93 (.fldA 0 47 true (.t 92)),
 Oq 94 46 1 93,
 Oy 1 94 90]))))))))))
 (.seq (kp [6] [Om 140 0,
 Ot 141 (.nilchk (.t 140)),
 Ot 142 (.fldA 0 48 true (.t 141)),
 Oq 143 47 1 142,
 Ol 144 1 143,
 Om 6 144])
 .ret)))))
def imu_Pre_Add.res : List RX := [(6, none)]
theorem imu_Pre_Add.ofG : OfTG pg zff imu_Pre_Add.k imu_Pre_Add.res 3 := OfIG Tryz.func9
def imu_Pre_Run.k : K :=
 (.seq (kp [0,2] [Ot 2 (.alloc 47 (.agg [(.int .i64 0),(.int .i64 0),(.bool false),(.int .i64 0),(.int .i64 0),(.bool false),(.int .i64 0),(.int .i64 0),(.bool false),(.int .i64 0),(.int .i64 0),(.bool false),(.int .i64 0),(.int .i64 0),(.bool false),(.int .i64 0),(.int .i64 0),(.bool false),(.int .i64 0),(.int .i64 0),(.bool false),(.int .i64 0),(.int .i64 0),(.bool false),(.int .i64 0),(.int .i64 0),(.bool false),(.int .i64 0),(.int .i64 0),(.bool false),(.int .i64 0),(.int .i64 0),(.bool false),(.int .i64 0),(.int .i64 0),(.bool false),(.int .i64 0),(.int .i64 0),(.bool false),(.int .i64 0),(.int .i64 0),(.bool false),(.int .i64 0),(.int .i64 0),(.bool false),(.int .i64 0),(.int .i64 0)]))])
 (.seq (kp [2] [Om 3 0,
 Ot 4 (.nilchk (.t 3)),
 Ot 5 (.fldA 0 48 true (.t 4)),
 Ot 6 (.fldA 0 47 true (.t 5)),
 OL 7 47 6,
 Oy 47 2 7])
 .ret))
def imu_Pre_Run.res : List RX := [(2, some (47, true))]
theorem imu_Pre_Run.ofG : OfTG pg zgo imu_Pre_Run.k imu_Pre_Run.res 1 := OfIG Tryz.func10
def imu_Run_step.k : K :=
 (.seq (kp [4,5,6,7,8] [Ot 4 (.eff (.boxO 47) [.t 0]),
 Ot 5 (.boxP (.t 1)),
 Ot 6 (.boxP (.t 2)),
 Ot 7 (.boxP (.t 3)),
 Ot 8 (.alloc 47 (.agg [(.int .i64 0),(.int .i64 0),(.bool false),(.int .i64 0),(.int .i64 0),(.bool false),(.int .i64 0),(.int .i64 0),(.bool false),(.int .i64 0),(.int .i64 0),(.bool false),(.int .i64 0),(.int .i64 0),(.bool false),(.int .i64 0),(.int .i64 0),(.bool false),(.int .i64 0),(.int .i64 0),(.bool false),(.int .i64 0),(.int .i64 0),(.bool false),(.int .i64 0),(.int .i64 0),(.bool false),(.int .i64 0),(.int .i64 0),(.bool false),(.int .i64 0),(.int .i64 0),(.bool false),(.int .i64 0),(.int .i64 0),(.bool false),(.int .i64 0),(.int .i64 0),(.bool false),(.int .i64 0),(.int .i64 0),(.bool false),(.int .i64 0),(.int .i64 0),(.bool false),(.int .i64 0),(.int .i64 0)]))])
 (.seq (kd [4,5,7,8,9] [Ot 10 (.fldA 0 27 true (.t 4)),
 OL 11 27 10,
 OL 12 9 6,
 Ot 13 (.call zg7 [.t 11,.t 12]),
 OL 14 3 7,
 Ot 15 (.call zck [.t 13,.t 14]),
 Ot 9 (.alloc 9 (.agg [(.int .i64 0),(.int .i64 0),(.bool false),(.int .i64 0),(.int .i64 0),(.bool false),(.int .i64 0),(.int .i64 0),(.bool false)])),
 Oy 9 9 15])
 (.seq (kd [4,5,7,8,9] [Ot 16 (.fldA 36 9 true (.t 4)),
 OL 17 9 16,
 Ot 18 (.fldA 27 9 true (.t 4)),
 OL 19 9 18,
 OL 20 3 7,
 Ot 21 (.call zck [.t 19,.t 20]),
 Ot 22 (.call ze5 [.t 17,.t 21]),
 OL 23 9 9,
 OL 24 3 7,
 Ot 25 (.call zck [.t 23,.t 24]),
 Ot 26 (.call zig [ci 524288]),
 Ot 27 (.call zck [.t 25,.t 26]),
 Ot 28 (.call ze5 [.t 22,.t 27]),
 Ot 29 (.fldA 36 9 true (.t 4)),
 Oy 9 29 28])
 (.seq (kp [4,5,7,8] [Ot 30 (.fldA 27 9 true (.t 4)),
 OL 31 9 30,
 OL 32 9 9,
 Ot 33 (.callG ze5 [.t 31,.t 32]),
 Ot 34 (.fldA 27 9 true (.t 4)),
 Oy 9 34 33])
 (.seq (kd [4,8] [Ot 35 (.fldA 0 27 true (.t 4)),
 OL 36 27 35,
 OL 37 9 5,
 OL 38 3 7,
 Ot 39 (.call zck [.t 37,.t 38]),
 Ot 40 (.call n_rot_Exp [.t 39]),
 Ot 41 (.call n_rot_Rot_Mul [.t 36,.t 40]),
 Ot 42 (.fldA 0 27 true (.t 4)),
 Oy 27 42 41])
 (.seq (kp [8] [OL 43 47 4,
 Oy 47 8 43])
 .ret))))))
def imu_Run_step.res : List RX := [(8, some (47, true))]
theorem imu_Run_step.of : OfT pg zhx imu_Run_step.k imu_Run_step.res 4 := OfI Tryz.func29
end Go.Gim
/- Functions' code as data (written by wip/tools/gen.py), and the step to their contracts. -/
set_option maxRecDepth 100000
namespace Go.Gim
open Go.Proofs
def codec_Encode.k : K :=
 (.seq (kp [1] [Ot 1 (.boxP (.t 0)),
 Ot 2 (.mov (.c (.int .u8 0))),
 ⟨(some 3), none,.mov (.c (.str ⟨#[]⟩))⟩,
 Oc 4 0])
 (.seq (.seq (kp [1,5] [OL 9 4 1,
 Ot 10 (.callG n_codec_right [.t 9]),
 Om 5 10])
 (.seq (kp [1,5,12] [Om 11 5,
 Ot 12 (.bin .neq (.t 11) (ci 0))])
 (.cond (.t 12) (.seq (kp [2,3,4] [Om 13 5,
 Ot 2 (.mov (.c (.int .u8 0))),
 ⟨(some 3), none,.mov (.c (.str ⟨#[]⟩))⟩,
 Om 4 13])
 .ret)
 .skip)))
 (.seq (kd [1,6] [Ot 14 (.red (.faP 1 1 false) [.t 1]),
 Ot 15 (.red (.ldP 1 false) [.t 14]),
 Ot 16 (.callG zfj [(.c .nil),.t 15,ci 4]),
 Ot 17 (.red (.faP 2 1 false) [.t 1]),
 Ot 18 (.red (.ldP 1 false) [.t 17]),
 Ot 19 (.callG zfj [.t 16,.t 18,ci 2]),
 Om 6 19])
 (.seq (.seq (kp [1,6,21,22,23] [Oq 20 3 1 1,
 Ol 21 1 20,
 On 22 21,
 Oc 23 0])
 (.block 0 (.loop (.seq (kp [1,6,21,22,23,24] [Ot 24 (.bin .lss (.t 23) (.t 22))])
 (.seq (.cond (.t 24) .skip
 (.exit 0))
 (.seq (.block 1 (.seq (kp [1,6,8,21,22,23] [Oi 25 1 21 23,
 Ol 26 1 25,
 Om 8 26])
 (kp [1,6,21,22,23] [Om 27 6,
 Om 28 8,
 Ot 29 (.callG zfj [.t 27,.t 28,ci 4]),
 Om 6 29])))
 (kp [1,6,21,22,23] [Ot 30 (.bin .add (.t 23) (ci 1)),
 Om 23 30])))))))
 (.seq (kd [2,3,4] [Ot 31 (.red (.faP 0 1 false) [.t 1]),
 Ot 32 (.red (.ldP 1 false) [.t 31]),
 Ot 33 (.conv .u8 (.t 32)),
 Om 34 6,
 Ot 35 (.eff .b2sO [.t 34]),
 Om 2 33,
 Om 3 35,
 Oc 4 0])
 .ret)))))
def codec_Encode.res : List RX := [(2, none), (3, none), (4, none)]
theorem codec_Encode.of : OfT pg zh0 codec_Encode.k codec_Encode.res 1 := OfI Tryz.func27
def codec_right.k : K :=
 (.seq (kp [1] [Ot 1 (.boxP (.t 0)),
 Oc 2 0])
 (.seq (.block 0 (.seq (kp [1,5] [Oq 6 0 1 1,
 Ol 7 1 6,
 Ot 8 (.callG zgp [.t 7]),
 Ot 9 (.bin .eql (.t 8) (ci 0)),
 Om 5 9])
 (.cond (.t 5) (.seq (kp [2] [Oc 2 120])
 .ret)
 (.seq (kd [1,10] [Oq 11 3 1 1,
 Ol 12 1 11,
 On 13 12,
 Oq 14 0 1 1,
 Ol 15 1 14,
 Ot 16 (.call zgp [.t 15]),
 Ot 17 (.bin .neq (.t 13) (.t 16)),
 Om 10 17])
 (.cond (.t 10) (.seq (kp [2] [Oc 2 121])
 .ret)
 (.seq (kp [1,18] [Oq 19 1 1 1,
 Ol 20 1 19,
 Ot 21 (.bin .lss (.t 20) (ci 0)),
 Om 22 21,
 Og 23 22 (.fldA 1 1 false (.t 1)),
 Og 24 22 (.load 1 false (.t 23)),
 Og 25 22 (.bin .geq (.t 24) (ci 4294967296)),
 Ot 26 (.pick (.t 22) (.c (.bool true)) (.t 25)),
 Om 27 26,
 Og 28 27 (.fldA 2 1 false (.t 1)),
 Og 29 27 (.load 1 false (.t 28)),
 Og 30 27 (.bin .lss (.t 29) (ci 0)),
 Ot 31 (.pick (.t 27) (.c (.bool true)) (.t 30)),
 Om 32 31,
 Og 33 32 (.fldA 2 1 false (.t 1)),
 Og 34 32 (.load 1 false (.t 33)),
 Og 35 32 (.bin .geq (.t 34) (ci 65536)),
 Ot 36 (.pick (.t 32) (.c (.bool true)) (.t 35)),
 Om 18 36])
 (.cond (.t 18) (.seq (kp [2] [Oc 2 122])
 .ret)
 .skip)))))))
 (.seq (.seq (kp [38,39,40] [Oq 37 3 1 1,
 Ol 38 1 37,
 On 39 38,
 Oc 40 0])
 (.block 1 (.loop (.seq (kp [38,39,40,41] [Ot 41 (.bin .lss (.t 40) (.t 39))])
 (.seq (.cond (.t 41) .skip
 (.exit 1))
 (.seq (.block 2 (.seq (kp [4,38,39,40] [Oi 42 1 38 40,
 Ol 43 1 42,
 Om 4 43])
 (.seq (kp [38,39,40,49] [Om 44 4,
 Ot 45 (.bin .lss (.t 44) (.c (.int .i64 (-2147483647)))),
 Om 46 45,
 Og 47 46 (.mov (.t 4)),
 Og 48 46 (.bin .gtr (.t 47) (ci 2147483647)),
 Ot 49 (.pick (.t 46) (.c (.bool true)) (.t 48))])
 (.cond (.t 49) (.seq (kp [2] [Oc 2 122])
 .ret)
 .skip))))
 (kp [38,39,40] [Ot 50 (.bin .add (.t 40) (ci 1)),
 Om 40 50])))))))
 (.seq (kp [2] [Oc 2 0])
 .ret))))
def codec_right.res : List RX := [(2, none)]
theorem codec_right.of : OfT pg n_codec_right codec_right.k codec_right.res 1 := OfI Tryz.func70
def codec_bytes.k : K :=
 (.seq (kp [0,1,2] [Ot 6 (.mov (.c .nil))])
 (.seq (.seq (kp [0,1,7] [Om 8 2,
 Ot 9 (.bin .sub (.t 8) (ci 1)),
 Om 7 9])
 (.block 0 (.loop (.seq (.seq (kp [0,1,7,11] [Om 10 7,
 Ot 11 (.bin .geq (.t 10) (ci 0))])
 (.cond (.t 11) .skip
 (.exit 0)))
 (.seq (.block 1 (kp [0,1,7] [Om 14 0,
 Om 15 1,
 Om 16 7,
 Ot 17 (.bin .mul (ci 8) (.t 16)),
 Ot 18 (.bin .shr (.t 15) (.t 17)),
 Ot 19 (.conv .u8 (.t 18)),
 Ot 20 (.new (.bsl 1) [.t 19]),
 Ot 21 (.eff (.app 1 1) [.t 14,.t 20]),
 Om 0 21]))
 (kp [0,1,7] [Om 12 7,
 Ot 13 (.bin .sub (.t 12) (ci 1)),
 Om 7 13]))))))
 (.seq (kp [6] [Om 22 0,
 Om 6 22])
 .ret)))
def codec_bytes.res : List RX := [(6, none)]
theorem codec_bytes.ofG : OfTG pg zfj codec_bytes.k codec_bytes.res 3 := OfIG Tryz.func71
def codec_Count.k : K :=
 (.seq (kp [0] [Oc 2 0])
 (.seq (.seq (kp [0,8] [Om 3 0,
 Ot 4 (.bin .lss (.t 3) (ci 0)),
 Om 5 4,
 Og 6 5 (.mov (.t 0)),
 Og 7 5 (.bin .geq (.t 6) (ci 5)),
 Ot 8 (.pick (.t 5) (.c (.bool true)) (.t 7))])
 (.cond (.t 8) (.seq (kp [2] [Oc 2 0])
 .ret)
 .skip))
 (.seq (kp [2] [Om 9 0,
 Ot 10 (.red (.aptr 5 1 false) [(.g 0),.t 9]),
 Ol 11 1 10,
 Om 2 11])
 .ret)))
def codec_Count.res : List RX := [(2, none)]
theorem codec_Count.of : OfT pg zgp codec_Count.k codec_Count.res 1 := OfI Tryz.func93
end Go.Gim

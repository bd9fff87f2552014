import Derived.Test.YtjkjpjneeioeiaaGreatGN
/- Functions' code as data (written by wip/tools/gen.py), and the step to their contracts. -/
set_option maxRecDepth 100000
namespace Go.Gim
open Go.Proofs
def gimballaw20_MargWhole.k : K :=
 (.seq (.keep [0, 1, 2, 3, 4] (.ops false [Ot 10 (.mov (.c (.bool false)))]))
 (.seq (.keep [0, 1, 2, 3, 4, 11] (.ops false [Ot 26 (.callG zd9 []),
 Ot 11 (.mov (.t 26))]))
 (.seq (.keep [0, 1, 2, 3, 4, 11, 12, 14] (.ops false [Ot 28 (.mov (.t 0)),
 Ot 29 (.mov (.t 1)),
 Ot 30 (.callG zeu [(.t 28), (.c (.int .i64 11)), (.t 29), (.c .nil), (.c (.int .i64 1))]),
 Ot 27 (.mov (.t 30)),
 Ot 31 (.ext (.t 27) 0),
 Ot 32 (.ext (.t 27) 1),
 Ot 33 (.ext (.t 27) 2),
 Ot 12 (.alloc 8 (.agg [(.int .i64 0), .nil, .nil, .nil, (.bool false), (.sl []), (.bool false), (.sl [])])),
 Ot 13 (.alloc 8 (.agg [(.int .i64 0), .nil, .nil, .nil, (.bool false), (.sl []), (.bool false), (.sl [])])),
 ⟨none, none, .store 8 (.t 12) (.t 31)⟩,
 ⟨none, none, .store 8 (.t 13) (.t 32)⟩,
 Ot 14 (.mov (.t 33))]))
 (.seq (.keep [0, 1, 2, 3, 4, 11, 12, 14, 15] (.ops false [Ot 34 (.mov (.t 2)),
 Ot 35 (.callG zd7 [(.t 34)]),
 Ot 15 (.mov (.t 35))]))
 (.seq (.seq (.keep [0, 1, 2, 3, 4, 11, 12, 62] (.ops false [Ot 36 (.mov (.t 14)),
 Ot 37 (.un .not (.t 36)),
 Ot 38 (.mov (.t 37)),
 ⟨(some 39), (some (38, false)), .mov (.t 15)⟩,
 ⟨(some 40), (some (38, false)), .un .not (.t 39)⟩,
 Ot 41 (.pick (.t 38) (.c (.bool true)) (.t 40)),
 Ot 42 (.mov (.t 41)),
 ⟨(some 43), (some (42, false)), .mov (.t 2)⟩,
 ⟨(some 44), (some (42, false)), .len false (.t 43)⟩,
 ⟨(some 45), (some (42, false)), .mov (.t 0)⟩,
 ⟨(some 46), (some (42, false)), .bin .neq (.t 44) (.t 45)⟩,
 Ot 47 (.pick (.t 42) (.c (.bool true)) (.t 46)),
 Ot 48 (.mov (.t 47)),
 ⟨(some 49), (some (48, false)), .mov (.t 4)⟩,
 ⟨(some 50), (some (48, false)), .len false (.t 49)⟩,
 ⟨(some 51), (some (48, false)), .mov (.t 0)⟩,
 ⟨(some 52), (some (48, false)), .bin .neq (.t 50) (.t 51)⟩,
 Ot 53 (.pick (.t 48) (.c (.bool true)) (.t 52)),
 Ot 54 (.mov (.t 53)),
 ⟨(some 55), (some (54, false)), .mov (.t 3)⟩,
 ⟨(some 56), (some (54, false)), .bin .lss (.t 55) (.c (.int .i64 0))⟩,
 Ot 57 (.pick (.t 54) (.c (.bool true)) (.t 56)),
 Ot 58 (.mov (.t 57)),
 ⟨(some 59), (some (58, false)), .mov (.t 3)⟩,
 ⟨(some 60), (some (58, false)), .mov (.t 0)⟩,
 ⟨(some 61), (some (58, false)), .bin .geq (.t 59) (.t 60)⟩,
 Ot 62 (.pick (.t 58) (.c (.bool true)) (.t 61))]))
 (.cond (.t 62) (.seq (.keep [10] (.ops false [Ot 63 (.mov (.t 11)),
 Ot 10 (.mov (.t 63))]))
 .ret)
 .skip))
 (.seq (.keep [0, 1, 2, 3, 4, 11, 16, 17] (.ops false [Ot 65 (.load 8 true (.t 12)),
 Ot 66 (.mov (.t 2)),
 Ot 67 (.mov (.t 3)),
 Ot 68 (.callG zed [(.t 65), (.t 66), (.t 67)]),
 Ot 64 (.mov (.t 68)),
 Ot 69 (.ext (.t 64) 0),
 Ot 70 (.ext (.t 64) 1),
 Ot 16 (.alloc 4 (.agg [.nil, .nil, (.bool false), (.sl [])])),
 Ot 17 (.alloc 2 (.agg [(.bool false), (.sl [])])),
 ⟨none, none, .store 4 (.t 16) (.t 69)⟩,
 ⟨none, none, .store 2 (.t 17) (.t 70)⟩]))
 (.seq (.keep [0, 1, 2, 3, 11, 16, 17, 18] (.ops false [Ot 71 (.mov (.t 4)),
 Ot 72 (.callG zev [(.t 71)]),
 Ot 18 (.mov (.t 72))]))
 (.seq (.keep [0, 1, 2, 3, 11, 16, 17, 18, 19] (.ops false [Ot 73 (.build [(.bool false), (.sl [])] []),
 Ot 19 (.alloc 2 (.agg [(.bool false), (.sl [])])),
 ⟨none, none, .store 2 (.t 19) (.t 73)⟩]))
 (.seq (.seq (.keep [0, 1, 2, 3, 11, 16, 17, 18, 19, 20] (.ops false [Ot 20 (.mov (.c (.int .i64 0)))]))
 (.block 0 (.loop (.seq (.seq (.keep [0, 1, 2, 3, 11, 16, 17, 18, 19, 20, 77] (.ops false [Ot 74 (.mov (.t 20)),
 Ot 75 (.mov (.t 1)),
 Ot 76 (.len false (.t 75)),
 Ot 77 (.bin .lss (.t 74) (.t 76))]))
 (.cond (.t 77) .skip
 (.exit 0)))
 (.seq (.block 1 (.seq (.keep [0, 1, 2, 3, 11, 16, 17, 18, 19, 20, 21] (.ops false [Ot 80 (.mov (.t 1)),
 Ot 81 (.mov (.t 20)),
 Ot 82 (.idxA 4 (.t 80) (.t 81)),
 Ot 83 (.load 4 true (.t 82)),
 Ot 84 (.mov (.t 3)),
 Ot 85 (.callG zdl [(.t 83), (.t 84)]),
 Ot 21 (.mov (.t 85))]))
 (.seq (.seq (.keep [0, 1, 2, 3, 11, 16, 17, 18, 19, 20, 87] (.ops false [Ot 86 (.mov (.t 21)),
 Ot 87 (.un .not (.t 86))]))
 (.cond (.t 87) (.exit 1)
 .skip))
 (.seq (.keep [0, 1, 2, 3, 11, 16, 17, 18, 19, 20, 22] (.ops false [Ot 88 (.mov (.t 1)),
 Ot 89 (.mov (.t 20)),
 Ot 90 (.idxA 4 (.t 88) (.t 89)),
 Ot 91 (.fldA 1 1 false (.t 90)),
 Ot 92 (.load 1 false (.t 91)),
 Ot 93 (.un .neg (.t 92)),
 Ot 94 (.callG za0 [(.t 93)]),
 Ot 22 (.alloc 2 (.agg [(.bool false), (.sl [])])),
 ⟨none, none, .store 2 (.t 22) (.t 94)⟩]))
 (.seq (.seq (.keep [0, 1, 2, 3, 11, 16, 17, 18, 19, 20, 22, 23] (.ops false [Ot 23 (.mov (.c (.int .i64 0)))]))
 (.block 2 (.loop (.seq (.seq (.keep [0, 1, 2, 3, 11, 16, 17, 18, 19, 20, 22, 23, 97] (.ops false [Ot 95 (.mov (.t 23)),
 Ot 96 (.mov (.t 0)),
 Ot 97 (.bin .lss (.t 95) (.t 96))]))
 (.cond (.t 97) .skip
 (.exit 2)))
 (.seq (.block 3 (.keep [0, 1, 2, 3, 11, 16, 17, 18, 19, 20, 22, 23] (.ops true [Ot 100 (.load 2 true (.t 22)),
 Ot 101 (.mov (.t 1)),
 Ot 102 (.mov (.t 20)),
 Ot 103 (.idxA 4 (.t 101) (.t 102)),
 Ot 104 (.fldA 0 1 false (.t 103)),
 Ot 105 (.load 1 false (.t 104)),
 Ot 106 (.mov (.t 23)),
 Ot 107 (.idxA 1 (.t 105) (.t 106)),
 Ot 108 (.load 1 false (.t 107)),
 Ot 109 (.call za0 [(.t 108)]),
 Ot 110 (.mov (.t 18)),
 Ot 111 (.mov (.t 23)),
 Ot 112 (.idxA 2 (.t 110) (.t 111)),
 Ot 113 (.load 2 true (.t 112)),
 Ot 114 (.call zap [(.t 109), (.t 113)]),
 Ot 115 (.call zbh [(.t 100), (.t 114)]),
 ⟨none, none, .store 2 (.t 22) (.t 115)⟩])))
 (.keep [0, 1, 2, 3, 11, 16, 17, 18, 19, 20, 22, 23] (.ops false [Ot 98 (.mov (.t 23)),
 Ot 99 (.bin .add (.t 98) (.c (.int .i64 1))),
 Ot 23 (.mov (.t 99))])))))))
 (.keep [0, 1, 2, 3, 11, 16, 17, 18, 19, 20] (.ops true [Ot 116 (.load 2 true (.t 19)),
 Ot 117 (.load 2 true (.t 22)),
 Ot 118 (.load 2 true (.t 22)),
 Ot 119 (.call zap [(.t 117), (.t 118)]),
 Ot 120 (.mov (.t 1)),
 Ot 121 (.mov (.t 20)),
 Ot 122 (.idxA 4 (.t 120) (.t 121)),
 Ot 123 (.fldA 3 1 false (.t 122)),
 Ot 124 (.load 1 false (.t 123)),
 Ot 125 (.mov (.t 1)),
 Ot 126 (.mov (.t 20)),
 Ot 127 (.idxA 4 (.t 125) (.t 126)),
 Ot 128 (.load 4 true (.t 127)),
 Ot 129 (.mov (.t 2)),
 Ot 130 (.call zd6 [(.t 128), (.t 129)]),
 Ot 131 (.bin .mul (.t 124) (.t 130)),
 Ot 132 (.call za0 [(.t 131)]),
 Ot 133 (.call zap [(.t 119), (.t 132)]),
 Ot 134 (.call zbh [(.t 116), (.t 133)]),
 ⟨none, none, .store 2 (.t 19) (.t 134)⟩])))))))
 (.keep [0, 1, 2, 3, 11, 16, 17, 18, 19, 20] (.ops false [Ot 78 (.mov (.t 20)),
 Ot 79 (.bin .add (.t 78) (.c (.int .i64 1))),
 Ot 20 (.mov (.t 79))])))))))
 (.seq (.keep [11, 16, 18, 19, 24] (.ops true [Ot 135 (.load 2 true (.t 17)),
 Ot 136 (.call za0 [(.c (.int .i64 1024))]),
 Ot 137 (.call zc3 [(.t 135), (.t 136)]),
 Ot 24 (.mov (.t 137))]))
 (.seq (.keep [11, 24, 25] (.ops true [Ot 138 (.load 4 true (.t 16)),
 Ot 139 (.mov (.t 18)),
 Ot 140 (.call ze7 [(.t 138), (.t 139)]),
 Ot 141 (.load 2 true (.t 19)),
 Ot 142 (.call zc3 [(.t 140), (.t 141)]),
 Ot 25 (.mov (.t 142))]))
 (.seq (.keep [10] (.ops false [Ot 143 (.mov (.t 11)),
 Ot 144 (.mov (.t 143)),
 ⟨(some 145), (some (144, true)), .mov (.t 24)⟩,
 ⟨(some 146), (some (144, true)), .bin .eql (.t 145) (.c (.int .i64 0))⟩,
 Ot 147 (.pick (.t 144) (.t 146) (.c (.bool false))),
 Ot 148 (.mov (.t 147)),
 ⟨(some 149), (some (148, true)), .mov (.t 25)⟩,
 ⟨(some 150), (some (148, true)), .bin .eql (.t 149) (.c (.int .i64 0))⟩,
 Ot 151 (.pick (.t 148) (.t 150) (.c (.bool false))),
 Ot 10 (.mov (.t 151))]))
 .ret))))))))))))
def gimballaw20_MargWhole.res : List RX := [(10, none)]
theorem gimballaw20_MargWhole.m : mK pg Tryz.f4.ntmps gimballaw20_MargWhole.k (Tryz.f4.body.getD .skip) = true := by kernel_rfl
theorem gimballaw20_MargWhole.mr : mRes pg Tryz.f4.results.toList gimballaw20_MargWhole.res = true := by kernel_rfl
theorem gimballaw20_MargWhole.of {args : List V} {r : V} (hn : args.length = 5) (hW : W pg gimballaw20_MargWhole.k (done gimballaw20_MargWhole.res r) (start args)) : Ret pg zew args r :=
 Ret_of (fn := Tryz.f4) Tryz.func4 rfl (by kernel_rfl) gimballaw20_MargWhole.m gimballaw20_MargWhole.mr (by rw [hn]; exact of_decide_eq_true (by kernel_rfl)) hW
def gimballaw20_awake.k : K :=
 (.seq (.keep [] (.ops false [Ot 0 (.mov (.c (.bool false)))]))
 (.seq (.keep [1] (.ops false [Ot 17 (.new (.bsl 1) [(.c (.int .i64 1)), (.c (.int .i64 0))]),
 Ot 18 (.build [(.sl []), (.int .i64 0), (.int .i64 0), (.int .i64 0)] [(0, 1, (.t 17)), (1, 1, (.c (.int .i64 10))), (2, 1, (.c (.int .i64 32768))), (3, 1, (.c (.int .i64 100)))]),
 Ot 19 (.new (.bsl 1) [(.c (.int .i64 (-1))), (.c (.int .i64 1))]),
 Ot 20 (.build [(.sl []), (.int .i64 0), (.int .i64 0), (.int .i64 0)] [(0, 1, (.t 19)), (1, 1, (.c (.int .i64 5))), (2, 1, (.c (.int .i64 32768))), (3, 1, (.c (.int .i64 100)))]),
 Ot 21 (.new (.bsl 1) [(.c (.int .i64 0)), (.c (.int .i64 1))]),
 Ot 22 (.build [(.sl []), (.int .i64 0), (.int .i64 0), (.int .i64 0)] [(0, 1, (.t 21)), (1, 1, (.c (.int .i64 15))), (2, 1, (.c (.int .i64 32768))), (3, 1, (.c (.int .i64 100)))]),
 Ot 23 (.new (.bsl 4) [(.t 18), (.t 20), (.t 22)]),
 Ot 1 (.mov (.t 23))]))
 (.seq (.keep [2, 3] (.ops false [Ot 25 (.mov (.t 1)),
 Ot 26 (.callG zgf [(.c (.int .i64 2)), (.t 25)]),
 Ot 24 (.mov (.t 26)),
 Ot 27 (.ext (.t 24) 0),
 Ot 28 (.ext (.t 24) 1),
 Ot 2 (.alloc 8 (.agg [(.int .i64 0), .nil, .nil, .nil, (.bool false), (.sl []), (.bool false), (.sl [])])),
 ⟨none, none, .store 8 (.t 2) (.t 27)⟩,
 Ot 3 (.mov (.t 28))]))
 (.seq (.keep [2, 3, 4, 5] (.ops false [Ot 30 (.callG zgf [(.c (.int .i64 2)), (.c .nil)]),
 Ot 29 (.mov (.t 30)),
 Ot 31 (.ext (.t 29) 0),
 Ot 32 (.ext (.t 29) 1),
 Ot 4 (.alloc 8 (.agg [(.int .i64 0), .nil, .nil, .nil, (.bool false), (.sl []), (.bool false), (.sl [])])),
 ⟨none, none, .store 8 (.t 4) (.t 31)⟩,
 Ot 5 (.mov (.t 32))]))
 (.seq (.seq (.keep [2, 4, 38] (.ops false [Ot 33 (.mov (.t 3)),
 Ot 34 (.bin .neq (.t 33) (.c (.int .i64 0))),
 Ot 35 (.mov (.t 34)),
 ⟨(some 36), (some (35, false)), .mov (.t 5)⟩,
 ⟨(some 37), (some (35, false)), .bin .neq (.t 36) (.c (.int .i64 0))⟩,
 Ot 38 (.pick (.t 35) (.c (.bool true)) (.t 37))]))
 (.cond (.t 38) (.seq (.keep [0] (.ops false [Ot 0 (.mov (.c (.bool false)))]))
 .ret)
 .skip))
 (.seq (.keep [2, 4, 6] (.ops false [Ot 39 (.new (.bsl 1) [(.c (.int .i64 10)), (.c (.int .i64 15))]),
 Ot 6 (.mov (.t 39))]))
 (.seq (.keep [2, 4, 6, 7, 8] (.ops false [Ot 41 (.load 8 true (.t 2)),
 Ot 42 (.mov (.t 6)),
 Ot 43 (.callG zed [(.t 41), (.t 42), (.c (.int .i64 1))]),
 Ot 40 (.mov (.t 43)),
 Ot 44 (.ext (.t 40) 0),
 Ot 45 (.ext (.t 40) 1),
 Ot 7 (.alloc 4 (.agg [.nil, .nil, (.bool false), (.sl [])])),
 Ot 8 (.alloc 2 (.agg [(.bool false), (.sl [])])),
 ⟨none, none, .store 4 (.t 7) (.t 44)⟩,
 ⟨none, none, .store 2 (.t 8) (.t 45)⟩]))
 (.seq (.keep [2, 4, 6, 7, 8, 9, 10] (.ops false [Ot 47 (.load 8 true (.t 2)),
 Ot 48 (.mov (.t 6)),
 Ot 49 (.callG ze9 [(.t 47), (.t 48), (.c (.int .i64 1))]),
 Ot 46 (.mov (.t 49)),
 Ot 50 (.ext (.t 46) 0),
 Ot 51 (.ext (.t 46) 1),
 Ot 9 (.alloc 8 (.agg [(.int .i64 0), .nil, .nil, .nil, (.bool false), (.sl []), (.bool false), (.sl [])])),
 ⟨none, none, .store 8 (.t 9) (.t 50)⟩,
 Ot 10 (.mov (.t 51))]))
 (.seq (.keep [4, 6, 7, 8, 9, 10, 12] (.ops false [Ot 53 (.load 8 true (.t 2)),
 Ot 54 (.mov (.t 6)),
 Ot 55 (.callG ze9 [(.t 53), (.t 54), (.c (.int .i64 2))]),
 Ot 52 (.mov (.t 55)),
 Ot 56 (.ext (.t 52) 0),
 Ot 57 (.ext (.t 52) 1),
 Ot 11 (.alloc 8 (.agg [(.int .i64 0), .nil, .nil, .nil, (.bool false), (.sl []), (.bool false), (.sl [])])),
 ⟨none, none, .store 8 (.t 11) (.t 56)⟩,
 Ot 12 (.mov (.t 57))]))
 (.seq (.keep [7, 8, 9, 10, 12, 14] (.ops false [Ot 59 (.load 8 true (.t 4)),
 Ot 60 (.mov (.t 6)),
 Ot 61 (.callG ze9 [(.t 59), (.t 60), (.c (.int .i64 1))]),
 Ot 58 (.mov (.t 61)),
 Ot 62 (.ext (.t 58) 0),
 Ot 63 (.ext (.t 58) 1),
 Ot 13 (.alloc 8 (.agg [(.int .i64 0), .nil, .nil, .nil, (.bool false), (.sl []), (.bool false), (.sl [])])),
 ⟨none, none, .store 8 (.t 13) (.t 62)⟩,
 Ot 14 (.mov (.t 63))]))
 (.seq (.keep [7, 9, 10, 12, 14, 15] (.ops false [Ot 64 (.load 2 true (.t 8)),
 Ot 65 (.callG zbn [(.t 64)]),
 Ot 15 (.mov (.t 65))]))
 (.seq (.seq (.keep [7, 9, 12, 14, 15, 72] (.ops false [Ot 66 (.mov (.t 10)),
 Ot 67 (.bin .neq (.t 66) (.c (.int .i64 0))),
 Ot 68 (.mov (.t 67)),
 ⟨(some 69), (some (68, false)), .fldA 0 1 false (.t 9)⟩,
 ⟨(some 70), (some (68, false)), .load 1 false (.t 69)⟩,
 ⟨(some 71), (some (68, false)), .bin .neq (.t 70) (.c (.int .i64 1))⟩,
 Ot 72 (.pick (.t 68) (.c (.bool true)) (.t 71))]))
 (.cond (.t 72) (.seq (.keep [0] (.ops false [Ot 0 (.mov (.c (.bool false)))]))
 .ret)
 .skip))
 (.seq (.keep [7, 9, 12, 14, 15, 16] (.ops false [Ot 73 (.fldA 6 2 true (.t 9)),
 Ot 74 (.load 2 true (.t 73)),
 Ot 75 (.callG zbn [(.t 74)]),
 Ot 16 (.mov (.t 75))]))
 (.seq (.keep [0] (.ops false [Ot 76 (.load 4 true (.t 7)),
 Ot 77 (.callG zcy [(.t 76)]),
 ⟨(some 78), none, .bin .eql (.t 77) (.c (.str ⟨#[50, 48, 52, 56, 48, 48, 32, 45, 49, 48, 50, 52, 48, 48, 32, 59, 53, 49, 50, 48, 48, 48, 59, 45, 49, 48, 50, 52, 48, 48, 32, 49, 48, 50, 52, 48, 48, 32, 59, 53, 49, 50, 48, 48, 48, 59, 49, 50, 56, 48, 48, 48, 48, 48]⟩))⟩,
 Ot 79 (.mov (.t 78)),
 ⟨(some 80), (some (79, true)), .mov (.t 15)⟩,
 ⟨(some 81), (some (79, true)), .bin .eql (.t 80) (.c (.str ⟨#[49, 48, 50, 52]⟩))⟩,
 Ot 82 (.pick (.t 79) (.t 81) (.c (.bool false))),
 Ot 83 (.mov (.t 82)),
 ⟨(some 84), (some (83, true)), .fldA 2 4 true (.t 9)⟩,
 ⟨(some 85), (some (83, true)), .load 4 true (.t 84)⟩,
 ⟨(some 86), (some (83, true)), .callG zcy [(.t 85)]⟩,
 ⟨(some 87), (some (83, true)), .bin .eql (.t 86) (.c (.str ⟨#[53, 49, 49, 57, 57, 32, 59, 55, 54, 56, 48, 48, 48, 59, 49, 49, 53, 50, 48, 48, 48, 48]⟩))⟩,
 Ot 88 (.pick (.t 83) (.t 87) (.c (.bool false))),
 Ot 89 (.mov (.t 88)),
 ⟨(some 90), (some (89, true)), .mov (.t 16)⟩,
 ⟨(some 91), (some (89, true)), .bin .eql (.t 90) (.c (.str ⟨#[49, 48, 50, 52]⟩))⟩,
 Ot 92 (.pick (.t 89) (.t 91) (.c (.bool false))),
 Ot 93 (.mov (.t 92)),
 ⟨(some 94), (some (93, true)), .fldA 1 1 false (.t 9)⟩,
 ⟨(some 95), (some (93, true)), .load 1 false (.t 94)⟩,
 ⟨(some 96), (some (93, true)), .new (.bsl 1) [(.c (.int .i64 1))]⟩,
 ⟨(some 97), (some (93, true)), .build [(.sl []), (.int .i64 0), (.int .i64 0), (.int .i64 0)] [(0, 1, (.t 96)), (1, 1, (.c (.int .i64 15))), (2, 1, (.c (.int .i64 32768))), (3, 1, (.c (.int .i64 100)))]⟩,
 ⟨(some 98), (some (93, true)), .new (.bsl 4) [(.t 97)]⟩,
 ⟨(some 99), (some (93, true)), .callG zet [(.t 95), (.t 98)]⟩,
 Ot 100 (.pick (.t 93) (.t 99) (.c (.bool false))),
 Ot 101 (.mov (.t 100)),
 ⟨(some 102), (some (101, true)), .mov (.t 12)⟩,
 ⟨(some 103), (some (101, true)), .bin .eql (.t 102) (.c (.int .i64 1))⟩,
 Ot 104 (.pick (.t 101) (.t 103) (.c (.bool false))),
 Ot 105 (.mov (.t 104)),
 ⟨(some 106), (some (105, true)), .mov (.t 14)⟩,
 ⟨(some 107), (some (105, true)), .bin .eql (.t 106) (.c (.int .i64 80))⟩,
 Ot 108 (.pick (.t 105) (.t 107) (.c (.bool false))),
 Ot 0 (.mov (.t 108))]))
 .ret))))))))))))))
def gimballaw20_awake.res : List RX := [(0, none)]
theorem gimballaw20_awake.m : mK pg Tryz.f11.ntmps gimballaw20_awake.k (Tryz.f11.body.getD .skip) = true := by kernel_rfl
theorem gimballaw20_awake.mr : mRes pg Tryz.f11.results.toList gimballaw20_awake.res = true := by kernel_rfl
theorem gimballaw20_awake.of {args : List V} {r : V} (hn : args.length = 0) (hW : W pg gimballaw20_awake.k (done gimballaw20_awake.res r) (start args)) : Ret pg zd9 args r :=
 Ret_of (fn := Tryz.f11) Tryz.func11 rfl (by kernel_rfl) gimballaw20_awake.m gimballaw20_awake.mr (by rw [hn]; exact of_decide_eq_true (by kernel_rfl)) hW
def gimballaw20_read.k : K :=
 (.seq (.keep [0, 1, 2, 3, 4, 10, 11] (.ops false [Ot 10 (.alloc 8 (.agg [(.int .i64 0), .nil, .nil, .nil, (.bool false), (.sl []), (.bool false), (.sl [])])),
 Ot 11 (.alloc 8 (.agg [(.int .i64 0), .nil, .nil, .nil, (.bool false), (.sl []), (.bool false), (.sl [])])),
 Ot 12 (.mov (.c (.bool false)))]))
 (.seq (.keep [0, 1, 2, 3, 4, 10, 11, 13, 14] (.ops false [Ot 23 (.mov (.t 0)),
 Ot 24 (.mov (.t 2)),
 Ot 25 (.callG zgf [(.t 23), (.t 24)]),
 Ot 22 (.mov (.t 25)),
 Ot 26 (.ext (.t 22) 0),
 Ot 27 (.ext (.t 22) 1),
 Ot 13 (.alloc 8 (.agg [(.int .i64 0), .nil, .nil, .nil, (.bool false), (.sl []), (.bool false), (.sl [])])),
 ⟨none, none, .store 8 (.t 13) (.t 26)⟩,
 Ot 14 (.mov (.t 27))]))
 (.seq (.keep [0, 1, 3, 4, 10, 11, 13, 14, 15] (.ops false [Ot 29 (.mov (.t 0)),
 Ot 30 (.mov (.t 2)),
 Ot 31 (.callG zfa [(.t 29), (.t 30)]),
 Ot 28 (.mov (.t 31)),
 Ot 32 (.ext (.t 28) 0),
 Ot 33 (.ext (.t 28) 1),
 Ot 15 (.alloc 8 (.agg [(.int .i64 0), .nil, .nil, .nil, (.bool false), (.sl []), (.bool false), (.sl [])])),
 ⟨none, none, .store 8 (.t 15) (.t 32)⟩,
 Ot 16 (.mov (.t 33))]))
 (.seq (.seq (.keep [0, 3, 4, 10, 11, 13, 15, 44] (.ops false [Ot 34 (.mov (.t 14)),
 Ot 35 (.bin .neq (.t 34) (.c (.int .i64 0))),
 Ot 36 (.mov (.t 35)),
 ⟨(some 37), (some (36, false)), .mov (.t 0)⟩,
 ⟨(some 38), (some (36, false)), .mov (.t 1)⟩,
 ⟨(some 39), (some (36, false)), .bin .gtr (.t 37) (.t 38)⟩,
 Ot 40 (.pick (.t 36) (.c (.bool true)) (.t 39)),
 Ot 41 (.mov (.t 40)),
 ⟨(some 42), (some (41, false)), .mov (.t 4)⟩,
 ⟨(some 43), (some (41, false)), .bin .leq (.t 42) (.c (.int .i64 0))⟩,
 Ot 44 (.pick (.t 41) (.c (.bool true)) (.t 43))]))
 (.cond (.t 44) (.seq (.keep [10, 11, 12] (.ops true [Ot 45 (.load 8 true (.t 13)),
 Ot 46 (.loadN 8 true (.t 15) [10]),
 ⟨none, none, .store 8 (.t 10) (.t 45)⟩,
 ⟨none, none, .store 8 (.t 11) (.t 46)⟩,
 Ot 12 (.mov (.c (.bool false)))]))
 .ret)
 .skip))
 (.seq (.keep [0, 4, 10, 11, 13, 15, 17] (.ops false [Ot 47 (.mov (.t 3)),
 Ot 48 (.mov (.t 0)),
 Ot 49 (.callG zdw [(.t 47), (.t 48)]),
 Ot 17 (.mov (.t 49))]))
 (.seq (.keep [0, 4, 10, 11, 13, 15, 17, 18, 19] (.ops false [Ot 51 (.mov (.t 17)),
 Ot 52 (.mov (.t 0)),
 Ot 53 (.new (.mks 1 8 (.int .i64 0)) [(.t 52), (.t 52)]),
 Ot 54 (.callG n_quad_Of [(.t 51), (.t 53), (.c (.int .i64 0))]),
 Ot 50 (.mov (.t 54)),
 Ot 55 (.ext (.t 50) 0),
 Ot 56 (.ext (.t 50) 1),
 Ot 18 (.alloc 4 (.agg [.nil, .nil, (.bool false), (.sl [])])),
 ⟨none, none, .store 4 (.t 18) (.t 55)⟩,
 Ot 19 (.mov (.t 56))]))
 (.seq (.keep [0, 4, 10, 11, 15, 17, 19, 20, 21] (.ops true [Ot 58 (.load 8 true (.t 13)),
 Ot 59 (.load 4 true (.t 18)),
 Ot 60 (.mov (.t 4)),
 Ot 61 (.call za0 [(.t 60)]),
 Ot 62 (.call zer [(.t 58), (.t 59), (.t 61)]),
 Ot 57 (.mov (.t 62)),
 Ot 63 (.ext (.t 57) 0),
 Ot 64 (.ext (.t 57) 1),
 Ot 20 (.alloc 8 (.agg [(.int .i64 0), .nil, .nil, .nil, (.bool false), (.sl []), (.bool false), (.sl [])])),
 ⟨none, none, .store 8 (.t 20) (.t 63)⟩,
 Ot 21 (.mov (.t 64))]))
 (.seq (.keep [4, 10, 11, 15, 19, 20, 21] (.ops false [Ot 65 (.mov (.t 17)),
 Ot 66 (.mov (.t 0)),
 Ot 67 (.new (.mks 1 8 (.int .i64 0)) [(.t 66), (.t 66)]),
 Ot 68 (.callG zd0 [(.t 65), (.t 67), (.c (.int .i64 0))]),
 Ot 69 (.fldA 2 4 true (.t 15)),
 ⟨none, none, .store 4 (.t 69) (.t 68)⟩]))
 (.seq (.keep [10, 11, 15, 19, 20, 21] (.ops false [Ot 70 (.mov (.t 4)),
 Ot 71 (.callG zax [(.t 70)]),
 Ot 72 (.fldA 6 2 true (.t 15)),
 ⟨none, none, .store 2 (.t 72) (.t 71)⟩]))
 (.seq (.keep [10, 11, 12] (.ops true [Ot 73 (.load 8 true (.t 20)),
 Ot 74 (.loadN 8 true (.t 15) [10]),
 Ot 75 (.mov (.t 19)),
 Ot 76 (.bin .eql (.t 75) (.c (.int .i64 0))),
 Ot 77 (.mov (.t 76)),
 ⟨(some 78), (some (77, true)), .mov (.t 21)⟩,
 ⟨(some 79), (some (77, true)), .bin .eql (.t 78) (.c (.int .i64 0))⟩,
 Ot 80 (.pick (.t 77) (.t 79) (.c (.bool false))),
 ⟨none, none, .store 8 (.t 10) (.t 73)⟩,
 ⟨none, none, .store 8 (.t 11) (.t 74)⟩,
 Ot 12 (.mov (.t 80))]))
 .ret))))))))))
def gimballaw20_read.res : List RX := [(10, some (8, true)), (11, some (8, true)), (12, none)]
theorem gimballaw20_read.m : mK pg Tryz.f12.ntmps gimballaw20_read.k (Tryz.f12.body.getD .skip) = true := by kernel_rfl
theorem gimballaw20_read.mr : mRes pg Tryz.f12.results.toList gimballaw20_read.res = true := by kernel_rfl
theorem gimballaw20_read.of {args : List V} {r : V} (hn : args.length = 5) (hW : W pg gimballaw20_read.k (done gimballaw20_read.res r) (start args)) : Ret pg zeu args r :=
 Ret_of (fn := Tryz.f12) Tryz.func12 rfl (by kernel_rfl) gimballaw20_read.m gimballaw20_read.mr (by rw [hn]; exact of_decide_eq_true (by kernel_rfl)) hW
def gimballaw20_whole.k : K :=
 (.seq (.keep [1] (.ops false [Ot 1 (.boxP (.t 0)),
 ⟨(some 2), none, .mov (.c (.str ⟨#[]⟩))⟩]))
 (.seq (.keep [1, 3] (.ops false [⟨(some 3), none, .mov (.c (.str ⟨#[]⟩))⟩]))
 (.seq (.seq (.keep [1, 3, 4] (.ops false [Ot 4 (.mov (.c (.int .i64 0)))]))
 (.block 0 (.loop (.seq (.seq (.keep [1, 3, 4, 10] (.ops false [Ot 6 (.mov (.t 4)),
 Ot 7 (.fldA 0 1 false (.t 1)),
 Ot 8 (.load 1 false (.t 7)),
 Ot 9 (.len false (.t 8)),
 Ot 10 (.bin .lss (.t 6) (.t 9))]))
 (.cond (.t 10) .skip
 (.exit 0)))
 (.seq (.block 1 (.seq (.seq (.keep [1, 3, 4, 5] (.ops false [Ot 5 (.mov (.c (.int .i64 0)))]))
 (.block 2 (.loop (.seq (.seq (.keep [1, 3, 4, 5, 20] (.ops false [Ot 13 (.mov (.t 5)),
 Ot 14 (.fldA 0 1 false (.t 1)),
 Ot 15 (.load 1 false (.t 14)),
 Ot 16 (.mov (.t 4)),
 Ot 17 (.idxA 1 (.t 15) (.t 16)),
 Ot 18 (.load 1 false (.t 17)),
 Ot 19 (.len false (.t 18)),
 Ot 20 (.bin .lss (.t 13) (.t 19))]))
 (.cond (.t 20) .skip
 (.exit 2)))
 (.seq (.block 3 (.keep [1, 3, 4, 5] (.ops false [Ot 23 (.mov (.t 3)),
 Ot 24 (.fldA 0 1 false (.t 1)),
 Ot 25 (.load 1 false (.t 24)),
 Ot 26 (.mov (.t 4)),
 Ot 27 (.idxA 1 (.t 25) (.t 26)),
 Ot 28 (.load 1 false (.t 27)),
 Ot 29 (.mov (.t 5)),
 Ot 30 (.idxA 2 (.t 28) (.t 29)),
 Ot 31 (.load 2 true (.t 30)),
 Ot 32 (.callG zbn [(.t 31)]),
 Ot 33 (.bin .add (.t 23) (.t 32)),
 ⟨(some 34), none, .bin .add (.t 33) (.c (.str ⟨#[32]⟩))⟩,
 Ot 3 (.mov (.t 34))])))
 (.keep [1, 3, 4, 5] (.ops false [Ot 21 (.mov (.t 5)),
 Ot 22 (.bin .add (.t 21) (.c (.int .i64 1))),
 Ot 5 (.mov (.t 22))])))))))
 (.keep [1, 3, 4] (.ops false [Ot 35 (.mov (.t 3)),
 ⟨(some 36), none, .bin .add (.t 35) (.c (.str ⟨#[59]⟩))⟩,
 Ot 37 (.fldA 1 1 false (.t 1)),
 Ot 38 (.load 1 false (.t 37)),
 Ot 39 (.mov (.t 4)),
 Ot 40 (.idxA 2 (.t 38) (.t 39)),
 Ot 41 (.load 2 true (.t 40)),
 Ot 42 (.callG zbn [(.t 41)]),
 Ot 43 (.bin .add (.t 36) (.t 42)),
 ⟨(some 44), none, .bin .add (.t 43) (.c (.str ⟨#[59]⟩))⟩,
 Ot 3 (.mov (.t 44))]))))
 (.keep [1, 3, 4] (.ops false [Ot 11 (.mov (.t 4)),
 Ot 12 (.bin .add (.t 11) (.c (.int .i64 1))),
 Ot 4 (.mov (.t 12))])))))))
 (.seq (.keep [2] (.ops false [Ot 45 (.mov (.t 3)),
 Ot 46 (.fldA 2 2 true (.t 1)),
 Ot 47 (.load 2 true (.t 46)),
 Ot 48 (.callG zbn [(.t 47)]),
 Ot 49 (.bin .add (.t 45) (.t 48)),
 Ot 2 (.mov (.t 49))]))
 .ret))))
def gimballaw20_whole.res : List RX := [(2, none)]
theorem gimballaw20_whole.m : mK pg Tryz.f19.ntmps gimballaw20_whole.k (Tryz.f19.body.getD .skip) = true := by kernel_rfl
theorem gimballaw20_whole.mr : mRes pg Tryz.f19.results.toList gimballaw20_whole.res = true := by kernel_rfl
theorem gimballaw20_whole.of {args : List V} {r : V} (hn : args.length = 1) (hW : W pg gimballaw20_whole.k (done gimballaw20_whole.res r) (start args)) : Ret pg zcy args r :=
 Ret_of (fn := Tryz.f19) Tryz.func19 rfl (by kernel_rfl) gimballaw20_whole.m gimballaw20_whole.mr (by rw [hn]; exact of_decide_eq_true (by kernel_rfl)) hW
def gimballaw20_same.k : K :=
 (.seq (.keep [0, 1] (.ops false [Ot 4 (.mov (.c (.bool false)))]))
 (.seq (.seq (.keep [0, 1, 11] (.ops false [Ot 7 (.mov (.t 0)),
 Ot 8 (.len false (.t 7)),
 Ot 9 (.mov (.t 1)),
 Ot 10 (.len false (.t 9)),
 Ot 11 (.bin .neq (.t 8) (.t 10))]))
 (.cond (.t 11) (.seq (.keep [4] (.ops false [Ot 4 (.mov (.c (.bool false)))]))
 .ret)
 .skip))
 (.seq (.seq (.keep [0, 1, 5] (.ops false [Ot 5 (.mov (.c (.int .i64 0)))]))
 (.block 0 (.loop (.seq (.seq (.keep [0, 1, 5, 15] (.ops false [Ot 12 (.mov (.t 5)),
 Ot 13 (.mov (.t 0)),
 Ot 14 (.len false (.t 13)),
 Ot 15 (.bin .lss (.t 12) (.t 14))]))
 (.cond (.t 15) .skip
 (.exit 0)))
 (.seq (.block 1 (.seq (.keep [0, 1, 5, 6] (.ops true [Ot 18 (.mov (.t 0)),
 Ot 19 (.mov (.t 5)),
 Ot 20 (.idxA 4 (.t 18) (.t 19)),
 Ot 21 (.load 4 true (.t 20)),
 Ot 22 (.mov (.t 1)),
 Ot 23 (.mov (.t 5)),
 Ot 24 (.idxA 4 (.t 22) (.t 23)),
 Ot 25 (.load 4 true (.t 24)),
 Ot 26 (.call zes [(.t 21), (.t 25)]),
 Ot 6 (.mov (.t 26))]))
 (.seq (.keep [0, 1, 5, 28] (.ops false [Ot 27 (.mov (.t 6)),
 Ot 28 (.un .not (.t 27))]))
 (.cond (.t 28) (.seq (.keep [4] (.ops false [Ot 4 (.mov (.c (.bool false)))]))
 .ret)
 .skip))))
 (.keep [0, 1, 5] (.ops false [Ot 16 (.mov (.t 5)),
 Ot 17 (.bin .add (.t 16) (.c (.int .i64 1))),
 Ot 5 (.mov (.t 17))])))))))
 (.seq (.keep [4] (.ops false [Ot 4 (.mov (.c (.bool true)))]))
 .ret))))
def gimballaw20_same.res : List RX := [(4, none)]
theorem gimballaw20_same.m : mK pg Tryz.f22.ntmps gimballaw20_same.k (Tryz.f22.body.getD .skip) = true := by kernel_rfl
theorem gimballaw20_same.mr : mRes pg Tryz.f22.results.toList gimballaw20_same.res = true := by kernel_rfl
theorem gimballaw20_same.of {args : List V} {r : V} (hn : args.length = 2) (hW : W pg gimballaw20_same.k (done gimballaw20_same.res r) (start args)) : Ret pg zet args r :=
 Ret_of (fn := Tryz.f22) Tryz.func22 rfl (by kernel_rfl) gimballaw20_same.m gimballaw20_same.mr (by rw [hn]; exact of_decide_eq_true (by kernel_rfl)) hW
def gimballaw20_list.k : K :=
 (.seq (.keep [0] (.ops false [Ot 2 (.mov (.c .nil))]))
 (.seq (.keep [0, 3] (.ops false [Ot 3 (.mov (.c .nil))]))
 (.seq (.seq (.keep [0, 3, 4] (.ops false [Ot 4 (.mov (.c (.int .i64 0)))]))
 (.block 0 (.loop (.seq (.seq (.keep [0, 3, 4, 8] (.ops false [Ot 5 (.mov (.t 4)),
 Ot 6 (.mov (.t 0)),
 Ot 7 (.len false (.t 6)),
 Ot 8 (.bin .lss (.t 5) (.t 7))]))
 (.cond (.t 8) .skip
 (.exit 0)))
 (.seq (.block 1 (.keep [0, 3, 4] (.ops false [Ot 11 (.mov (.t 3)),
 Ot 12 (.mov (.t 0)),
 Ot 13 (.mov (.t 4)),
 Ot 14 (.idxA 1 (.t 12) (.t 13)),
 Ot 15 (.load 1 false (.t 14)),
 Ot 16 (.callG za0 [(.t 15)]),
 Ot 17 (.new (.bsl 2) [(.t 16)]),
 Ot 18 (.eff (.app 2 32) [(.t 11), (.t 17)]),
 Ot 3 (.mov (.t 18))])))
 (.keep [0, 3, 4] (.ops false [Ot 9 (.mov (.t 4)),
 Ot 10 (.bin .add (.t 9) (.c (.int .i64 1))),
 Ot 4 (.mov (.t 10))])))))))
 (.seq (.keep [2] (.ops false [Ot 19 (.mov (.t 3)),
 Ot 2 (.mov (.t 19))]))
 .ret))))
def gimballaw20_list.res : List RX := [(2, none)]
theorem gimballaw20_list.m : mK pg Tryz.f23.ntmps gimballaw20_list.k (Tryz.f23.body.getD .skip) = true := by kernel_rfl
theorem gimballaw20_list.mr : mRes pg Tryz.f23.results.toList gimballaw20_list.res = true := by kernel_rfl
theorem gimballaw20_list.of {args : List V} {r : V} (hn : args.length = 1) (hW : W pg gimballaw20_list.k (done gimballaw20_list.res r) (start args)) : Ret pg zev args r :=
 Ret_of (fn := Tryz.f23) Tryz.func23 rfl (by kernel_rfl) gimballaw20_list.m gimballaw20_list.mr (by rw [hn]; exact of_decide_eq_true (by kernel_rfl)) hW
def gimballaw20_mirror.k : K :=
 (.seq (.keep [0, 1] (.ops false [Ot 4 (.mov (.c .nil))]))
 (.seq (.keep [0, 1, 5] (.ops false [Ot 5 (.mov (.c .nil))]))
 (.seq (.seq (.keep [0, 1, 5, 6] (.ops false [Ot 6 (.mov (.c (.int .i64 0)))]))
 (.block 0 (.loop (.seq (.seq (.keep [0, 1, 5, 6, 11] (.ops false [Ot 9 (.mov (.t 6)),
 Ot 10 (.mov (.t 1)),
 Ot 11 (.bin .lss (.t 9) (.t 10))]))
 (.cond (.t 11) .skip
 (.exit 0)))
 (.seq (.block 1 (.gh (.keep [0, 1, 5, 6] (.ops false [Ot 14 (.mov (.t 5)),
 Ot 15 (.mov (.t 1)),
 Ot 16 (.new (.mks 1 8 (.int .i64 0)) [(.t 15), (.t 15)]),
 Ot 17 (.new (.bsl 1) [(.t 16)]),
 Ot 18 (.eff (.app 1 24) [(.t 14), (.t 17)]),
 Ot 5 (.mov (.t 18))]))))
 (.keep [0, 1, 5, 6] (.ops false [Ot 12 (.mov (.t 6)),
 Ot 13 (.bin .add (.t 12) (.c (.int .i64 1))),
 Ot 6 (.mov (.t 13))])))))))
 (.seq (.seq (.keep [0, 1, 5, 7] (.ops false [Ot 7 (.mov (.c (.int .i64 0)))]))
 (.block 2 (.loop (.seq (.seq (.keep [0, 1, 5, 7, 27] (.ops false [Ot 19 (.mov (.t 7)),
 Ot 20 (.mov (.t 1)),
 Ot 21 (.bin .lss (.t 19) (.t 20)),
 Ot 22 (.mov (.t 21)),
 ⟨(some 23), (some (22, true)), .mov (.t 7)⟩,
 ⟨(some 24), (some (22, true)), .mov (.t 0)⟩,
 ⟨(some 25), (some (22, true)), .len false (.t 24)⟩,
 ⟨(some 26), (some (22, true)), .bin .lss (.t 23) (.t 25)⟩,
 Ot 27 (.pick (.t 22) (.t 26) (.c (.bool false)))]))
 (.cond (.t 27) .skip
 (.exit 2)))
 (.seq (.block 3 (.seq (.keep [0, 1, 5, 7, 8] (.ops false [Ot 8 (.mov (.c (.int .i64 0)))]))
 (.block 4 (.loop (.seq (.seq (.keep [0, 1, 5, 7, 8, 41] (.ops false [Ot 30 (.mov (.t 8)),
 Ot 31 (.mov (.t 7)),
 Ot 32 (.bin .leq (.t 30) (.t 31)),
 Ot 33 (.mov (.t 32)),
 ⟨(some 34), (some (33, true)), .mov (.t 8)⟩,
 ⟨(some 35), (some (33, true)), .mov (.t 0)⟩,
 ⟨(some 36), (some (33, true)), .mov (.t 7)⟩,
 ⟨(some 37), (some (33, true)), .idxA 1 (.t 35) (.t 36)⟩,
 ⟨(some 38), (some (33, true)), .load 1 false (.t 37)⟩,
 ⟨(some 39), (some (33, true)), .len false (.t 38)⟩,
 ⟨(some 40), (some (33, true)), .bin .lss (.t 34) (.t 39)⟩,
 Ot 41 (.pick (.t 33) (.t 40) (.c (.bool false)))]))
 (.cond (.t 41) .skip
 (.exit 4)))
 (.seq (.block 5 (.seq (.keep [0, 1, 5, 7, 8] (.ops true [Ot 44 (.mov (.t 5)),
 Ot 45 (.mov (.t 7)),
 Ot 46 (.idxA 1 (.t 44) (.t 45)),
 Ot 47 (.load 1 false (.t 46)),
 Ot 48 (.mov (.t 8)),
 Ot 49 (.mov (.t 0)),
 Ot 50 (.mov (.t 7)),
 Ot 51 (.idxA 1 (.t 49) (.t 50)),
 Ot 52 (.load 1 false (.t 51)),
 Ot 53 (.mov (.t 8)),
 Ot 54 (.idxA 1 (.t 52) (.t 53)),
 Ot 55 (.load 1 false (.t 54)),
 Ot 56 (.idxA 1 (.t 47) (.t 48)),
 ⟨none, none, .store 1 (.t 56) (.t 55)⟩]))
 (.keep [0, 1, 5, 7, 8] (.ops true [Ot 57 (.mov (.t 5)),
 Ot 58 (.mov (.t 8)),
 Ot 59 (.idxA 1 (.t 57) (.t 58)),
 Ot 60 (.load 1 false (.t 59)),
 Ot 61 (.mov (.t 7)),
 Ot 62 (.mov (.t 0)),
 Ot 63 (.mov (.t 7)),
 Ot 64 (.idxA 1 (.t 62) (.t 63)),
 Ot 65 (.load 1 false (.t 64)),
 Ot 66 (.mov (.t 8)),
 Ot 67 (.idxA 1 (.t 65) (.t 66)),
 Ot 68 (.load 1 false (.t 67)),
 Ot 69 (.idxA 1 (.t 60) (.t 61)),
 ⟨none, none, .store 1 (.t 69) (.t 68)⟩]))))
 (.keep [0, 1, 5, 7, 8] (.ops false [Ot 42 (.mov (.t 8)),
 Ot 43 (.bin .add (.t 42) (.c (.int .i64 1))),
 Ot 8 (.mov (.t 43))]))))))))
 (.keep [0, 1, 5, 7] (.ops false [Ot 28 (.mov (.t 7)),
 Ot 29 (.bin .add (.t 28) (.c (.int .i64 1))),
 Ot 7 (.mov (.t 29))])))))))
 (.seq (.keep [4] (.ops false [Ot 70 (.mov (.t 5)),
 Ot 4 (.mov (.t 70))]))
 .ret)))))
def gimballaw20_mirror.res : List RX := [(4, none)]
theorem gimballaw20_mirror.m : mK pg Tryz.f55.ntmps gimballaw20_mirror.k (Tryz.f55.body.getD .skip) = true := by kernel_rfl
theorem gimballaw20_mirror.mr : mRes pg Tryz.f55.results.toList gimballaw20_mirror.res = true := by kernel_rfl
theorem gimballaw20_mirror.of {args : List V} {r : V} (hn : args.length = 2) (hW : W pg gimballaw20_mirror.k (done gimballaw20_mirror.res r) (start args)) : Ret pg zdw args r :=
 Ret_of (fn := Tryz.f55) Tryz.func55 rfl (by kernel_rfl) gimballaw20_mirror.m gimballaw20_mirror.mr (by rw [hn]; exact of_decide_eq_true (by kernel_rfl)) hW
end Go.Gim

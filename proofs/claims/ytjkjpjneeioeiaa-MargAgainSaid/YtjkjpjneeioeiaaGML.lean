import Derived.Test.YtjkjpjneeioeiaaGN
/- Functions' code as data (written by wip/tools/gen.py), and the step to their contracts. -/
set_option maxRecDepth 100000
namespace Go.Gim
open Go.Proofs
def gimballaw20_MargAgain.k : K :=
 (.seq (.keep [0, 1, 2, 3, 4, 5] (.ops false [⟨(some 12), none, .mov (.c (.bool false))⟩]))
 (.seq (.keep [0, 1, 2, 3, 4, 5, 13] (.ops false [⟨(some 30), none, .callG n_gimballaw20_awake []⟩,
 ⟨(some 13), none, .mov (.t 30)⟩]))
 (.seq (.keep [1, 2, 3, 4, 5, 13, 14, 16] (.ops false [⟨(some 32), none, .mov (.t 0)⟩,
 ⟨(some 33), none, .mov (.t 1)⟩,
 ⟨(some 34), none, .callG n_gimballaw20_read [(.t 32), (.c (.int .i64 7)), (.t 33), (.c .nil), (.c (.int .i64 1))]⟩,
 ⟨(some 31), none, .mov (.t 34)⟩,
 ⟨(some 35), none, .ext (.t 31) 0⟩,
 ⟨(some 36), none, .ext (.t 31) 1⟩,
 ⟨(some 37), none, .ext (.t 31) 2⟩,
 ⟨(some 14), none, .alloc 8 (.agg [(.int .i64 0), .nil, .nil, .nil, (.bool false), (.sl []), (.bool false), (.sl [])])⟩,
 ⟨(some 15), none, .alloc 8 (.agg [(.int .i64 0), .nil, .nil, .nil, (.bool false), (.sl []), (.bool false), (.sl [])])⟩,
 ⟨none, none, .store 8 (.t 14) (.t 35)⟩,
 ⟨none, none, .store 8 (.t 15) (.t 36)⟩,
 ⟨(some 16), none, .mov (.t 37)⟩]))
 (.seq (.seq (.keep [2, 3, 4, 5, 13, 14, 44] (.ops false [⟨(some 38), none, .mov (.t 16)⟩,
 ⟨(some 39), none, .un .not (.t 38)⟩,
 ⟨(some 40), none, .mov (.t 39)⟩,
 ⟨(some 41), (some (40, false)), .mov (.t 1)⟩,
 ⟨(some 42), (some (40, false)), .len false (.t 41)⟩,
 ⟨(some 43), (some (40, false)), .bin .gtr (.t 42) (.c (.int .i64 30))⟩,
 ⟨(some 44), none, .pick (.t 40) (.c (.bool true)) (.t 43)⟩]))
 (.cond (.t 44) (.seq (.keep [12] (.ops false [⟨(some 45), none, .mov (.t 13)⟩,
 ⟨(some 12), none, .mov (.t 45)⟩]))
 .ret)
 .skip))
 (.seq (.keep [2, 3, 4, 5, 13, 17, 18] (.ops false [⟨(some 47), none, .load 8 true (.t 14)⟩,
 ⟨(some 48), none, .mov (.t 2)⟩,
 ⟨(some 49), none, .mov (.t 3)⟩,
 ⟨(some 50), none, .callG n_marg_Out [(.t 47), (.t 48), (.t 49)]⟩,
 ⟨(some 46), none, .mov (.t 50)⟩,
 ⟨(some 51), none, .ext (.t 46) 0⟩,
 ⟨(some 52), none, .ext (.t 46) 1⟩,
 ⟨(some 17), none, .alloc 8 (.agg [(.int .i64 0), .nil, .nil, .nil, (.bool false), (.sl []), (.bool false), (.sl [])])⟩,
 ⟨none, none, .store 8 (.t 17) (.t 51)⟩,
 ⟨(some 18), none, .mov (.t 52)⟩]))
 (.seq (.seq (.keep [2, 3, 4, 5, 13, 17, 64] (.ops false [⟨(some 53), none, .mov (.t 18)⟩,
 ⟨(some 54), none, .bin .neq (.t 53) (.c (.int .i64 0))⟩,
 ⟨(some 55), none, .mov (.t 54)⟩,
 ⟨(some 56), (some (55, false)), .mov (.t 4)⟩,
 ⟨(some 57), (some (55, false)), .bin .lss (.t 56) (.c (.int .i64 0))⟩,
 ⟨(some 58), none, .pick (.t 55) (.c (.bool true)) (.t 57)⟩,
 ⟨(some 59), none, .mov (.t 58)⟩,
 ⟨(some 60), (some (59, false)), .mov (.t 4)⟩,
 ⟨(some 61), (some (59, false)), .fldA 0 1 false (.t 17)⟩,
 ⟨(some 62), (some (59, false)), .load 1 false (.t 61)⟩,
 ⟨(some 63), (some (59, false)), .bin .geq (.t 60) (.t 62)⟩,
 ⟨(some 64), none, .pick (.t 59) (.c (.bool true)) (.t 63)⟩]))
 (.cond (.t 64) (.seq (.keep [12] (.ops false [⟨(some 65), none, .mov (.t 13)⟩,
 ⟨(some 12), none, .mov (.t 65)⟩]))
 .ret)
 .skip))
 (.seq (.keep [4, 5, 13, 17, 19] (.ops false [⟨(some 66), none, .mov (.t 2)⟩,
 ⟨(some 67), none, .mov (.t 3)⟩,
 ⟨(some 68), none, .red (.slc 1 true false false) [(.t 66), (.t 67)]⟩,
 ⟨(some 19), none, .mov (.t 68)⟩]))
 (.seq (.keep [4, 5, 13, 17, 19, 20, 21] (.ops false [⟨(some 70), none, .load 8 true (.t 17)⟩,
 ⟨(some 71), none, .mov (.t 19)⟩,
 ⟨(some 72), none, .mov (.t 4)⟩,
 ⟨(some 73), none, .callG n_marg_Out [(.t 70), (.t 71), (.t 72)]⟩,
 ⟨(some 69), none, .mov (.t 73)⟩,
 ⟨(some 74), none, .ext (.t 69) 0⟩,
 ⟨(some 75), none, .ext (.t 69) 1⟩,
 ⟨(some 20), none, .alloc 8 (.agg [(.int .i64 0), .nil, .nil, .nil, (.bool false), (.sl []), (.bool false), (.sl [])])⟩,
 ⟨none, none, .store 8 (.t 20) (.t 74)⟩,
 ⟨(some 21), none, .mov (.t 75)⟩]))
 (.seq (.seq (.keep [4, 5, 13, 17, 19, 20, 21, 86] (.ops false [⟨(some 76), none, .mov (.t 21)⟩,
 ⟨(some 77), none, .bin .neq (.t 76) (.c (.int .i64 0))⟩,
 ⟨(some 78), none, .mov (.t 77)⟩,
 ⟨(some 79), (some (78, false)), .mov (.t 5)⟩,
 ⟨(some 80), (some (78, false)), .len false (.t 79)⟩,
 ⟨(some 81), (some (78, false)), .fldA 0 1 false (.t 17)⟩,
 ⟨(some 82), (some (78, false)), .load 1 false (.t 81)⟩,
 ⟨(some 83), (some (78, false)), .mov (.t 4)⟩,
 ⟨(some 84), (some (78, false)), .bin .sub (.t 82) (.t 83)⟩,
 ⟨(some 85), (some (78, false)), .bin .neq (.t 80) (.t 84)⟩,
 ⟨(some 86), none, .pick (.t 78) (.c (.bool true)) (.t 85)⟩]))
 (.cond (.t 86) (.seq (.keep [12] (.ops false [⟨(some 87), none, .mov (.t 13)⟩,
 ⟨(some 88), none, .mov (.t 87)⟩,
 ⟨(some 89), (some (88, true)), .mov (.t 21)⟩,
 ⟨(some 90), (some (88, true)), .bin .eql (.t 89) (.c (.int .i64 0))⟩,
 ⟨(some 91), (some (88, true)), .mov (.t 90)⟩,
 ⟨(some 92), (some (91, false)), .mov (.t 21)⟩,
 ⟨(some 93), (some (91, false)), .bin .eql (.t 92) (.c (.int .i64 80))⟩,
 ⟨(some 94), (some (88, true)), .pick (.t 91) (.c (.bool true)) (.t 93)⟩,
 ⟨(some 95), none, .pick (.t 88) (.t 94) (.c (.bool false))⟩,
 ⟨(some 12), none, .mov (.t 95)⟩]))
 .ret)
 .skip))
 (.seq (.keep [4, 5, 13, 17, 20, 22, 23] (.ops false [⟨(some 97), none, .load 8 true (.t 17)⟩,
 ⟨(some 98), none, .mov (.t 19)⟩,
 ⟨(some 99), none, .mov (.t 4)⟩,
 ⟨(some 100), none, .callG n_marg_Whole [(.t 97), (.t 98), (.t 99)]⟩,
 ⟨(some 96), none, .mov (.t 100)⟩,
 ⟨(some 101), none, .ext (.t 96) 0⟩,
 ⟨(some 102), none, .ext (.t 96) 1⟩,
 ⟨(some 22), none, .alloc 4 (.agg [.nil, .nil, (.bool false), (.sl [])])⟩,
 ⟨(some 23), none, .alloc 2 (.agg [(.bool false), (.sl [])])⟩,
 ⟨none, none, .store 4 (.t 22) (.t 101)⟩,
 ⟨none, none, .store 2 (.t 23) (.t 102)⟩]))
 (.seq (.keep [4, 5, 13, 17, 20, 23, 24, 25, 26] (.ops false [⟨(some 104), none, .load 4 true (.t 22)⟩,
 ⟨(some 105), none, .mov (.t 4)⟩,
 ⟨(some 106), none, .callG n_quad_Quad_Without [(.t 104), (.t 105)]⟩,
 ⟨(some 103), none, .mov (.t 106)⟩,
 ⟨(some 107), none, .ext (.t 103) 0⟩,
 ⟨(some 108), none, .ext (.t 103) 1⟩,
 ⟨(some 109), none, .ext (.t 103) 2⟩,
 ⟨(some 24), none, .alloc 4 (.agg [.nil, .nil, (.bool false), (.sl [])])⟩,
 ⟨(some 25), none, .alloc 2 (.agg [(.bool false), (.sl [])])⟩,
 ⟨none, none, .store 4 (.t 24) (.t 107)⟩,
 ⟨none, none, .store 2 (.t 25) (.t 108)⟩,
 ⟨(some 26), none, .mov (.t 109)⟩]))
 (.seq (.seq (.keep [5, 13, 20, 23, 24, 25, 120] (.ops false [⟨(some 110), none, .mov (.t 26)⟩,
 ⟨(some 111), none, .bin .neq (.t 110) (.c (.int .i64 0))⟩,
 ⟨(some 112), none, .mov (.t 111)⟩,
 ⟨(some 113), (some (112, false)), .fldA 0 1 false (.t 20)⟩,
 ⟨(some 114), (some (112, false)), .load 1 false (.t 113)⟩,
 ⟨(some 115), (some (112, false)), .fldA 0 1 false (.t 17)⟩,
 ⟨(some 116), (some (112, false)), .load 1 false (.t 115)⟩,
 ⟨(some 117), (some (112, false)), .mov (.t 4)⟩,
 ⟨(some 118), (some (112, false)), .bin .sub (.t 116) (.t 117)⟩,
 ⟨(some 119), (some (112, false)), .bin .neq (.t 114) (.t 118)⟩,
 ⟨(some 120), none, .pick (.t 112) (.c (.bool true)) (.t 119)⟩]))
 (.cond (.t 120) (.seq (.keep [12] (.ops false [⟨(some 12), none, .mov (.c (.bool false))⟩]))
 .ret)
 .skip))
 (.seq (.keep [13, 20, 23, 24, 25, 27] (.ops false [⟨(some 121), none, .mov (.t 5)⟩,
 ⟨(some 122), none, .callG n_gimballaw20_list [(.t 121)]⟩,
 ⟨(some 27), none, .mov (.t 122)⟩]))
 (.seq (.keep [13, 20, 28] (.ops true [⟨(some 123), none, .fldA 2 4 true (.t 20)⟩,
 ⟨(some 124), none, .fldA 0 1 false (.t 123)⟩,
 ⟨(some 125), none, .load 1 false (.t 124)⟩,
 ⟨(some 126), none, .mov (.t 27)⟩,
 ⟨(some 127), none, .call n_lin_Mat_Quad [(.t 125), (.t 126)]⟩,
 ⟨(some 128), none, .load 2 true (.t 23)⟩,
 ⟨(some 129), none, .call n_long_Int_Mul [(.t 127), (.t 128)]⟩,
 ⟨(some 130), none, .load 2 true (.t 25)⟩,
 ⟨(some 131), none, .call n_long_Int_Mul [(.t 129), (.t 130)]⟩,
 ⟨(some 132), none, .fldA 0 1 false (.t 24)⟩,
 ⟨(some 133), none, .load 1 false (.t 132)⟩,
 ⟨(some 134), none, .mov (.t 27)⟩,
 ⟨(some 135), none, .call n_lin_Mat_Quad [(.t 133), (.t 134)]⟩,
 ⟨(some 136), none, .call n_long_Of [(.c (.int .i64 1024))]⟩,
 ⟨(some 137), none, .call n_long_Int_Mul [(.t 135), (.t 136)]⟩,
 ⟨(some 138), none, .call n_long_Int_Cmp [(.t 131), (.t 137)]⟩,
 ⟨(some 28), none, .mov (.t 138)⟩]))
 (.seq (.keep [13, 28, 29] (.ops false [⟨(some 139), none, .fldA 6 2 true (.t 20)⟩,
 ⟨(some 140), none, .load 2 true (.t 139)⟩,
 ⟨(some 141), none, .callG n_long_Int_String [(.t 140)]⟩,
 ⟨(some 29), none, .mov (.t 141)⟩]))
 (.seq (.keep [12] (.ops false [⟨(some 142), none, .mov (.t 13)⟩,
 ⟨(some 143), none, .mov (.t 142)⟩,
 ⟨(some 144), (some (143, true)), .mov (.t 28)⟩,
 ⟨(some 145), (some (143, true)), .bin .leq (.t 144) (.c (.int .i64 0))⟩,
 ⟨(some 146), none, .pick (.t 143) (.t 145) (.c (.bool false))⟩,
 ⟨(some 147), none, .mov (.t 146)⟩,
 ⟨(some 148), (some (147, true)), .mov (.t 29)⟩,
 ⟨(some 149), (some (147, true)), .bin .eql (.t 148) (.c (.str ⟨#[49, 48, 50, 52]⟩))⟩,
 ⟨(some 150), none, .pick (.t 147) (.t 149) (.c (.bool false))⟩,
 ⟨(some 12), none, .mov (.t 150)⟩]))
 .ret))))))))))))))))
def gimballaw20_MargAgain.res : List RX := [(12, none)]
theorem gimballaw20_MargAgain.m : mK pg Try.f5.ntmps gimballaw20_MargAgain.k (Try.f5.body.getD .skip) = true := by kernel_rfl
theorem gimballaw20_MargAgain.mr : mRes pg Try.f5.results.toList gimballaw20_MargAgain.res = true := by kernel_rfl
theorem gimballaw20_MargAgain.of {args : List V} {r : V} (hn : args.length = 6) (hW : W pg gimballaw20_MargAgain.k (done gimballaw20_MargAgain.res r) (start args)) : Ret pg n_gimballaw20_MargAgain args r :=
 Ret_of (fn := Try.f5) Try.func5 rfl (by kernel_rfl) gimballaw20_MargAgain.m gimballaw20_MargAgain.mr (by rw [hn]; exact of_decide_eq_true (by kernel_rfl)) hW
def gimballaw20_awake.k : K :=
 (.seq (.keep [] (.ops false [⟨(some 0), none, .mov (.c (.bool false))⟩]))
 (.seq (.keep [1] (.ops false [⟨(some 17), none, .new (.bsl 1) [(.c (.int .i64 1)), (.c (.int .i64 0))]⟩,
 ⟨(some 18), none, .build [(.sl []), (.int .i64 0), (.int .i64 0), (.int .i64 0)] [(0, 1, (.t 17)), (1, 1, (.c (.int .i64 10))), (2, 1, (.c (.int .i64 32768))), (3, 1, (.c (.int .i64 100)))]⟩,
 ⟨(some 19), none, .new (.bsl 1) [(.c (.int .i64 (-1))), (.c (.int .i64 1))]⟩,
 ⟨(some 20), none, .build [(.sl []), (.int .i64 0), (.int .i64 0), (.int .i64 0)] [(0, 1, (.t 19)), (1, 1, (.c (.int .i64 5))), (2, 1, (.c (.int .i64 32768))), (3, 1, (.c (.int .i64 100)))]⟩,
 ⟨(some 21), none, .new (.bsl 1) [(.c (.int .i64 0)), (.c (.int .i64 1))]⟩,
 ⟨(some 22), none, .build [(.sl []), (.int .i64 0), (.int .i64 0), (.int .i64 0)] [(0, 1, (.t 21)), (1, 1, (.c (.int .i64 15))), (2, 1, (.c (.int .i64 32768))), (3, 1, (.c (.int .i64 100)))]⟩,
 ⟨(some 23), none, .new (.bsl 4) [(.t 18), (.t 20), (.t 22)]⟩,
 ⟨(some 1), none, .mov (.t 23)⟩]))
 (.seq (.keep [2, 3] (.ops false [⟨(some 25), none, .mov (.t 1)⟩,
 ⟨(some 26), none, .callG n_graph_New [(.c (.int .i64 2)), (.t 25)]⟩,
 ⟨(some 24), none, .mov (.t 26)⟩,
 ⟨(some 27), none, .ext (.t 24) 0⟩,
 ⟨(some 28), none, .ext (.t 24) 1⟩,
 ⟨(some 2), none, .alloc 8 (.agg [(.int .i64 0), .nil, .nil, .nil, (.bool false), (.sl []), (.bool false), (.sl [])])⟩,
 ⟨none, none, .store 8 (.t 2) (.t 27)⟩,
 ⟨(some 3), none, .mov (.t 28)⟩]))
 (.seq (.keep [2, 3, 4, 5] (.ops false [⟨(some 30), none, .callG n_graph_New [(.c (.int .i64 2)), (.c .nil)]⟩,
 ⟨(some 29), none, .mov (.t 30)⟩,
 ⟨(some 31), none, .ext (.t 29) 0⟩,
 ⟨(some 32), none, .ext (.t 29) 1⟩,
 ⟨(some 4), none, .alloc 8 (.agg [(.int .i64 0), .nil, .nil, .nil, (.bool false), (.sl []), (.bool false), (.sl [])])⟩,
 ⟨none, none, .store 8 (.t 4) (.t 31)⟩,
 ⟨(some 5), none, .mov (.t 32)⟩]))
 (.seq (.seq (.keep [2, 4, 38] (.ops false [⟨(some 33), none, .mov (.t 3)⟩,
 ⟨(some 34), none, .bin .neq (.t 33) (.c (.int .i64 0))⟩,
 ⟨(some 35), none, .mov (.t 34)⟩,
 ⟨(some 36), (some (35, false)), .mov (.t 5)⟩,
 ⟨(some 37), (some (35, false)), .bin .neq (.t 36) (.c (.int .i64 0))⟩,
 ⟨(some 38), none, .pick (.t 35) (.c (.bool true)) (.t 37)⟩]))
 (.cond (.t 38) (.seq (.keep [0] (.ops false [⟨(some 0), none, .mov (.c (.bool false))⟩]))
 .ret)
 .skip))
 (.seq (.keep [2, 4, 6] (.ops false [⟨(some 39), none, .new (.bsl 1) [(.c (.int .i64 10)), (.c (.int .i64 15))]⟩,
 ⟨(some 6), none, .mov (.t 39)⟩]))
 (.seq (.keep [2, 4, 6, 7, 8] (.ops false [⟨(some 41), none, .load 8 true (.t 2)⟩,
 ⟨(some 42), none, .mov (.t 6)⟩,
 ⟨(some 43), none, .callG n_marg_Whole [(.t 41), (.t 42), (.c (.int .i64 1))]⟩,
 ⟨(some 40), none, .mov (.t 43)⟩,
 ⟨(some 44), none, .ext (.t 40) 0⟩,
 ⟨(some 45), none, .ext (.t 40) 1⟩,
 ⟨(some 7), none, .alloc 4 (.agg [.nil, .nil, (.bool false), (.sl [])])⟩,
 ⟨(some 8), none, .alloc 2 (.agg [(.bool false), (.sl [])])⟩,
 ⟨none, none, .store 4 (.t 7) (.t 44)⟩,
 ⟨none, none, .store 2 (.t 8) (.t 45)⟩]))
 (.seq (.keep [2, 4, 6, 7, 8, 9, 10] (.ops false [⟨(some 47), none, .load 8 true (.t 2)⟩,
 ⟨(some 48), none, .mov (.t 6)⟩,
 ⟨(some 49), none, .callG n_marg_Out [(.t 47), (.t 48), (.c (.int .i64 1))]⟩,
 ⟨(some 46), none, .mov (.t 49)⟩,
 ⟨(some 50), none, .ext (.t 46) 0⟩,
 ⟨(some 51), none, .ext (.t 46) 1⟩,
 ⟨(some 9), none, .alloc 8 (.agg [(.int .i64 0), .nil, .nil, .nil, (.bool false), (.sl []), (.bool false), (.sl [])])⟩,
 ⟨none, none, .store 8 (.t 9) (.t 50)⟩,
 ⟨(some 10), none, .mov (.t 51)⟩]))
 (.seq (.keep [4, 6, 7, 8, 9, 10, 12] (.ops false [⟨(some 53), none, .load 8 true (.t 2)⟩,
 ⟨(some 54), none, .mov (.t 6)⟩,
 ⟨(some 55), none, .callG n_marg_Out [(.t 53), (.t 54), (.c (.int .i64 2))]⟩,
 ⟨(some 52), none, .mov (.t 55)⟩,
 ⟨(some 56), none, .ext (.t 52) 0⟩,
 ⟨(some 57), none, .ext (.t 52) 1⟩,
 ⟨(some 11), none, .alloc 8 (.agg [(.int .i64 0), .nil, .nil, .nil, (.bool false), (.sl []), (.bool false), (.sl [])])⟩,
 ⟨none, none, .store 8 (.t 11) (.t 56)⟩,
 ⟨(some 12), none, .mov (.t 57)⟩]))
 (.seq (.keep [7, 8, 9, 10, 12, 14] (.ops false [⟨(some 59), none, .load 8 true (.t 4)⟩,
 ⟨(some 60), none, .mov (.t 6)⟩,
 ⟨(some 61), none, .callG n_marg_Out [(.t 59), (.t 60), (.c (.int .i64 1))]⟩,
 ⟨(some 58), none, .mov (.t 61)⟩,
 ⟨(some 62), none, .ext (.t 58) 0⟩,
 ⟨(some 63), none, .ext (.t 58) 1⟩,
 ⟨(some 13), none, .alloc 8 (.agg [(.int .i64 0), .nil, .nil, .nil, (.bool false), (.sl []), (.bool false), (.sl [])])⟩,
 ⟨none, none, .store 8 (.t 13) (.t 62)⟩,
 ⟨(some 14), none, .mov (.t 63)⟩]))
 (.seq (.keep [7, 9, 10, 12, 14, 15] (.ops false [⟨(some 64), none, .load 2 true (.t 8)⟩,
 ⟨(some 65), none, .callG n_long_Int_String [(.t 64)]⟩,
 ⟨(some 15), none, .mov (.t 65)⟩]))
 (.seq (.seq (.keep [7, 9, 12, 14, 15, 72] (.ops false [⟨(some 66), none, .mov (.t 10)⟩,
 ⟨(some 67), none, .bin .neq (.t 66) (.c (.int .i64 0))⟩,
 ⟨(some 68), none, .mov (.t 67)⟩,
 ⟨(some 69), (some (68, false)), .fldA 0 1 false (.t 9)⟩,
 ⟨(some 70), (some (68, false)), .load 1 false (.t 69)⟩,
 ⟨(some 71), (some (68, false)), .bin .neq (.t 70) (.c (.int .i64 1))⟩,
 ⟨(some 72), none, .pick (.t 68) (.c (.bool true)) (.t 71)⟩]))
 (.cond (.t 72) (.seq (.keep [0] (.ops false [⟨(some 0), none, .mov (.c (.bool false))⟩]))
 .ret)
 .skip))
 (.seq (.keep [7, 9, 12, 14, 15, 16] (.ops false [⟨(some 73), none, .fldA 6 2 true (.t 9)⟩,
 ⟨(some 74), none, .load 2 true (.t 73)⟩,
 ⟨(some 75), none, .callG n_long_Int_String [(.t 74)]⟩,
 ⟨(some 16), none, .mov (.t 75)⟩]))
 (.seq (.keep [0] (.ops false [⟨(some 76), none, .load 4 true (.t 7)⟩,
 ⟨(some 77), none, .callG n_gimballaw20_whole [(.t 76)]⟩,
 ⟨(some 78), none, .bin .eql (.t 77) (.c (.str ⟨#[50, 48, 52, 56, 48, 48, 32, 45, 49, 48, 50, 52, 48, 48, 32, 59, 53, 49, 50, 48, 48, 48, 59, 45, 49, 48, 50, 52, 48, 48, 32, 49, 48, 50, 52, 48, 48, 32, 59, 53, 49, 50, 48, 48, 48, 59, 49, 50, 56, 48, 48, 48, 48, 48]⟩))⟩,
 ⟨(some 79), none, .mov (.t 78)⟩,
 ⟨(some 80), (some (79, true)), .mov (.t 15)⟩,
 ⟨(some 81), (some (79, true)), .bin .eql (.t 80) (.c (.str ⟨#[49, 48, 50, 52]⟩))⟩,
 ⟨(some 82), none, .pick (.t 79) (.t 81) (.c (.bool false))⟩,
 ⟨(some 83), none, .mov (.t 82)⟩,
 ⟨(some 84), (some (83, true)), .fldA 2 4 true (.t 9)⟩,
 ⟨(some 85), (some (83, true)), .load 4 true (.t 84)⟩,
 ⟨(some 86), (some (83, true)), .callG n_gimballaw20_whole [(.t 85)]⟩,
 ⟨(some 87), (some (83, true)), .bin .eql (.t 86) (.c (.str ⟨#[53, 49, 49, 57, 57, 32, 59, 55, 54, 56, 48, 48, 48, 59, 49, 49, 53, 50, 48, 48, 48, 48]⟩))⟩,
 ⟨(some 88), none, .pick (.t 83) (.t 87) (.c (.bool false))⟩,
 ⟨(some 89), none, .mov (.t 88)⟩,
 ⟨(some 90), (some (89, true)), .mov (.t 16)⟩,
 ⟨(some 91), (some (89, true)), .bin .eql (.t 90) (.c (.str ⟨#[49, 48, 50, 52]⟩))⟩,
 ⟨(some 92), none, .pick (.t 89) (.t 91) (.c (.bool false))⟩,
 ⟨(some 93), none, .mov (.t 92)⟩,
 ⟨(some 94), (some (93, true)), .fldA 1 1 false (.t 9)⟩,
 ⟨(some 95), (some (93, true)), .load 1 false (.t 94)⟩,
 ⟨(some 96), (some (93, true)), .new (.bsl 1) [(.c (.int .i64 1))]⟩,
 ⟨(some 97), (some (93, true)), .build [(.sl []), (.int .i64 0), (.int .i64 0), (.int .i64 0)] [(0, 1, (.t 96)), (1, 1, (.c (.int .i64 15))), (2, 1, (.c (.int .i64 32768))), (3, 1, (.c (.int .i64 100)))]⟩,
 ⟨(some 98), (some (93, true)), .new (.bsl 4) [(.t 97)]⟩,
 ⟨(some 99), (some (93, true)), .callG n_gimballaw20_same [(.t 95), (.t 98)]⟩,
 ⟨(some 100), none, .pick (.t 93) (.t 99) (.c (.bool false))⟩,
 ⟨(some 101), none, .mov (.t 100)⟩,
 ⟨(some 102), (some (101, true)), .mov (.t 12)⟩,
 ⟨(some 103), (some (101, true)), .bin .eql (.t 102) (.c (.int .i64 1))⟩,
 ⟨(some 104), none, .pick (.t 101) (.t 103) (.c (.bool false))⟩,
 ⟨(some 105), none, .mov (.t 104)⟩,
 ⟨(some 106), (some (105, true)), .mov (.t 14)⟩,
 ⟨(some 107), (some (105, true)), .bin .eql (.t 106) (.c (.int .i64 80))⟩,
 ⟨(some 108), none, .pick (.t 105) (.t 107) (.c (.bool false))⟩,
 ⟨(some 0), none, .mov (.t 108)⟩]))
 .ret))))))))))))))
def gimballaw20_awake.res : List RX := [(0, none)]
theorem gimballaw20_awake.m : mK pg Try.f7.ntmps gimballaw20_awake.k (Try.f7.body.getD .skip) = true := by kernel_rfl
theorem gimballaw20_awake.mr : mRes pg Try.f7.results.toList gimballaw20_awake.res = true := by kernel_rfl
theorem gimballaw20_awake.of {args : List V} {r : V} (hn : args.length = 0) (hW : W pg gimballaw20_awake.k (done gimballaw20_awake.res r) (start args)) : Ret pg n_gimballaw20_awake args r :=
 Ret_of (fn := Try.f7) Try.func7 rfl (by kernel_rfl) gimballaw20_awake.m gimballaw20_awake.mr (by rw [hn]; exact of_decide_eq_true (by kernel_rfl)) hW
def gimballaw20_read.k : K :=
 (.seq (.keep [0, 1, 2, 3, 4, 10, 11] (.ops false [⟨(some 10), none, .alloc 8 (.agg [(.int .i64 0), .nil, .nil, .nil, (.bool false), (.sl []), (.bool false), (.sl [])])⟩,
 ⟨(some 11), none, .alloc 8 (.agg [(.int .i64 0), .nil, .nil, .nil, (.bool false), (.sl []), (.bool false), (.sl [])])⟩,
 ⟨(some 12), none, .mov (.c (.bool false))⟩]))
 (.seq (.keep [0, 1, 2, 3, 4, 10, 11, 13, 14] (.ops false [⟨(some 23), none, .mov (.t 0)⟩,
 ⟨(some 24), none, .mov (.t 2)⟩,
 ⟨(some 25), none, .callG n_graph_New [(.t 23), (.t 24)]⟩,
 ⟨(some 22), none, .mov (.t 25)⟩,
 ⟨(some 26), none, .ext (.t 22) 0⟩,
 ⟨(some 27), none, .ext (.t 22) 1⟩,
 ⟨(some 13), none, .alloc 8 (.agg [(.int .i64 0), .nil, .nil, .nil, (.bool false), (.sl []), (.bool false), (.sl [])])⟩,
 ⟨none, none, .store 8 (.t 13) (.t 26)⟩,
 ⟨(some 14), none, .mov (.t 27)⟩]))
 (.seq (.keep [0, 1, 3, 4, 10, 11, 13, 14, 15] (.ops false [⟨(some 29), none, .mov (.t 0)⟩,
 ⟨(some 30), none, .mov (.t 2)⟩,
 ⟨(some 31), none, .callG n_gimbalref17_New [(.t 29), (.t 30)]⟩,
 ⟨(some 28), none, .mov (.t 31)⟩,
 ⟨(some 32), none, .ext (.t 28) 0⟩,
 ⟨(some 33), none, .ext (.t 28) 1⟩,
 ⟨(some 15), none, .alloc 8 (.agg [(.int .i64 0), .nil, .nil, .nil, (.bool false), (.sl []), (.bool false), (.sl [])])⟩,
 ⟨none, none, .store 8 (.t 15) (.t 32)⟩,
 ⟨(some 16), none, .mov (.t 33)⟩]))
 (.seq (.seq (.keep [0, 3, 4, 10, 11, 13, 15, 44] (.ops false [⟨(some 34), none, .mov (.t 14)⟩,
 ⟨(some 35), none, .bin .neq (.t 34) (.c (.int .i64 0))⟩,
 ⟨(some 36), none, .mov (.t 35)⟩,
 ⟨(some 37), (some (36, false)), .mov (.t 0)⟩,
 ⟨(some 38), (some (36, false)), .mov (.t 1)⟩,
 ⟨(some 39), (some (36, false)), .bin .gtr (.t 37) (.t 38)⟩,
 ⟨(some 40), none, .pick (.t 36) (.c (.bool true)) (.t 39)⟩,
 ⟨(some 41), none, .mov (.t 40)⟩,
 ⟨(some 42), (some (41, false)), .mov (.t 4)⟩,
 ⟨(some 43), (some (41, false)), .bin .leq (.t 42) (.c (.int .i64 0))⟩,
 ⟨(some 44), none, .pick (.t 41) (.c (.bool true)) (.t 43)⟩]))
 (.cond (.t 44) (.seq (.keep [10, 11, 12] (.ops true [⟨(some 45), none, .load 8 true (.t 13)⟩,
 ⟨(some 46), none, .loadN 8 true (.t 15) [10]⟩,
 ⟨none, none, .store 8 (.t 10) (.t 45)⟩,
 ⟨none, none, .store 8 (.t 11) (.t 46)⟩,
 ⟨(some 12), none, .mov (.c (.bool false))⟩]))
 .ret)
 .skip))
 (.seq (.keep [0, 4, 10, 11, 13, 15, 17] (.ops false [⟨(some 47), none, .mov (.t 3)⟩,
 ⟨(some 48), none, .mov (.t 0)⟩,
 ⟨(some 49), none, .callG n_gimballaw20_mirror [(.t 47), (.t 48)]⟩,
 ⟨(some 17), none, .mov (.t 49)⟩]))
 (.seq (.keep [0, 4, 10, 11, 13, 15, 17, 18, 19] (.ops false [⟨(some 51), none, .mov (.t 17)⟩,
 ⟨(some 52), none, .mov (.t 0)⟩,
 ⟨(some 53), none, .new (.mks 1 8 (.int .i64 0)) [(.t 52), (.t 52)]⟩,
 ⟨(some 54), none, .callG n_quad_Of [(.t 51), (.t 53), (.c (.int .i64 0))]⟩,
 ⟨(some 50), none, .mov (.t 54)⟩,
 ⟨(some 55), none, .ext (.t 50) 0⟩,
 ⟨(some 56), none, .ext (.t 50) 1⟩,
 ⟨(some 18), none, .alloc 4 (.agg [.nil, .nil, (.bool false), (.sl [])])⟩,
 ⟨none, none, .store 4 (.t 18) (.t 55)⟩,
 ⟨(some 19), none, .mov (.t 56)⟩]))
 (.seq (.keep [0, 4, 10, 11, 15, 17, 19, 20, 21] (.ops true [⟨(some 58), none, .load 8 true (.t 13)⟩,
 ⟨(some 59), none, .load 4 true (.t 18)⟩,
 ⟨(some 60), none, .mov (.t 4)⟩,
 ⟨(some 61), none, .call n_long_Of [(.t 60)]⟩,
 ⟨(some 62), none, .call n_graph_Graph_With [(.t 58), (.t 59), (.t 61)]⟩,
 ⟨(some 57), none, .mov (.t 62)⟩,
 ⟨(some 63), none, .ext (.t 57) 0⟩,
 ⟨(some 64), none, .ext (.t 57) 1⟩,
 ⟨(some 20), none, .alloc 8 (.agg [(.int .i64 0), .nil, .nil, .nil, (.bool false), (.sl []), (.bool false), (.sl [])])⟩,
 ⟨none, none, .store 8 (.t 20) (.t 63)⟩,
 ⟨(some 21), none, .mov (.t 64)⟩]))
 (.seq (.keep [4, 10, 11, 15, 19, 20, 21] (.ops false [⟨(some 65), none, .mov (.t 17)⟩,
 ⟨(some 66), none, .mov (.t 0)⟩,
 ⟨(some 67), none, .new (.mks 1 8 (.int .i64 0)) [(.t 66), (.t 66)]⟩,
 ⟨(some 68), none, .callG n_gimbalref08_Of [(.t 65), (.t 67), (.c (.int .i64 0))]⟩,
 ⟨(some 69), none, .fldA 2 4 true (.t 15)⟩,
 ⟨none, none, .store 4 (.t 69) (.t 68)⟩]))
 (.seq (.keep [10, 11, 15, 19, 20, 21] (.ops false [⟨(some 70), none, .mov (.t 4)⟩,
 ⟨(some 71), none, .callG n_gimbalref01_Of [(.t 70)]⟩,
 ⟨(some 72), none, .fldA 6 2 true (.t 15)⟩,
 ⟨none, none, .store 2 (.t 72) (.t 71)⟩]))
 (.seq (.keep [10, 11, 12] (.ops true [⟨(some 73), none, .load 8 true (.t 20)⟩,
 ⟨(some 74), none, .loadN 8 true (.t 15) [10]⟩,
 ⟨(some 75), none, .mov (.t 19)⟩,
 ⟨(some 76), none, .bin .eql (.t 75) (.c (.int .i64 0))⟩,
 ⟨(some 77), none, .mov (.t 76)⟩,
 ⟨(some 78), (some (77, true)), .mov (.t 21)⟩,
 ⟨(some 79), (some (77, true)), .bin .eql (.t 78) (.c (.int .i64 0))⟩,
 ⟨(some 80), none, .pick (.t 77) (.t 79) (.c (.bool false))⟩,
 ⟨none, none, .store 8 (.t 10) (.t 73)⟩,
 ⟨none, none, .store 8 (.t 11) (.t 74)⟩,
 ⟨(some 12), none, .mov (.t 80)⟩]))
 .ret))))))))))
def gimballaw20_read.res : List RX := [(10, some (8, true)), (11, some (8, true)), (12, none)]
theorem gimballaw20_read.m : mK pg Try.f8.ntmps gimballaw20_read.k (Try.f8.body.getD .skip) = true := by kernel_rfl
theorem gimballaw20_read.mr : mRes pg Try.f8.results.toList gimballaw20_read.res = true := by kernel_rfl
theorem gimballaw20_read.of {args : List V} {r : V} (hn : args.length = 5) (hW : W pg gimballaw20_read.k (done gimballaw20_read.res r) (start args)) : Ret pg n_gimballaw20_read args r :=
 Ret_of (fn := Try.f8) Try.func8 rfl (by kernel_rfl) gimballaw20_read.m gimballaw20_read.mr (by rw [hn]; exact of_decide_eq_true (by kernel_rfl)) hW
def gimballaw20_same.k : K :=
 (.seq (.keep [0, 1] (.ops false [⟨(some 4), none, .mov (.c (.bool false))⟩]))
 (.seq (.seq (.keep [0, 1, 11] (.ops false [⟨(some 7), none, .mov (.t 0)⟩,
 ⟨(some 8), none, .len false (.t 7)⟩,
 ⟨(some 9), none, .mov (.t 1)⟩,
 ⟨(some 10), none, .len false (.t 9)⟩,
 ⟨(some 11), none, .bin .neq (.t 8) (.t 10)⟩]))
 (.cond (.t 11) (.seq (.keep [4] (.ops false [⟨(some 4), none, .mov (.c (.bool false))⟩]))
 .ret)
 .skip))
 (.seq (.seq (.keep [0, 1, 5] (.ops false [⟨(some 5), none, .mov (.c (.int .i64 0))⟩]))
 (.block 0 (.loop (.seq (.seq (.keep [0, 1, 5, 15] (.ops false [⟨(some 12), none, .mov (.t 5)⟩,
 ⟨(some 13), none, .mov (.t 0)⟩,
 ⟨(some 14), none, .len false (.t 13)⟩,
 ⟨(some 15), none, .bin .lss (.t 12) (.t 14)⟩]))
 (.cond (.t 15) .skip
 (.exit 0)))
 (.seq (.block 1 (.seq (.keep [0, 1, 5, 6] (.ops true [⟨(some 18), none, .mov (.t 0)⟩,
 ⟨(some 19), none, .mov (.t 5)⟩,
 ⟨(some 20), none, .idxA 4 (.t 18) (.t 19)⟩,
 ⟨(some 21), none, .load 4 true (.t 20)⟩,
 ⟨(some 22), none, .mov (.t 1)⟩,
 ⟨(some 23), none, .mov (.t 5)⟩,
 ⟨(some 24), none, .idxA 4 (.t 22) (.t 23)⟩,
 ⟨(some 25), none, .load 4 true (.t 24)⟩,
 ⟨(some 26), none, .call n_gimbalref16_Same [(.t 21), (.t 25)]⟩,
 ⟨(some 6), none, .mov (.t 26)⟩]))
 (.seq (.keep [0, 1, 5, 28] (.ops false [⟨(some 27), none, .mov (.t 6)⟩,
 ⟨(some 28), none, .un .not (.t 27)⟩]))
 (.cond (.t 28) (.seq (.keep [4] (.ops false [⟨(some 4), none, .mov (.c (.bool false))⟩]))
 .ret)
 .skip))))
 (.keep [0, 1, 5] (.ops false [⟨(some 16), none, .mov (.t 5)⟩,
 ⟨(some 17), none, .bin .add (.t 16) (.c (.int .i64 1))⟩,
 ⟨(some 5), none, .mov (.t 17)⟩])))))))
 (.seq (.keep [4] (.ops false [⟨(some 4), none, .mov (.c (.bool true))⟩]))
 .ret))))
def gimballaw20_same.res : List RX := [(4, none)]
theorem gimballaw20_same.m : mK pg Try.f12.ntmps gimballaw20_same.k (Try.f12.body.getD .skip) = true := by kernel_rfl
theorem gimballaw20_same.mr : mRes pg Try.f12.results.toList gimballaw20_same.res = true := by kernel_rfl
theorem gimballaw20_same.of {args : List V} {r : V} (hn : args.length = 2) (hW : W pg gimballaw20_same.k (done gimballaw20_same.res r) (start args)) : Ret pg n_gimballaw20_same args r :=
 Ret_of (fn := Try.f12) Try.func12 rfl (by kernel_rfl) gimballaw20_same.m gimballaw20_same.mr (by rw [hn]; exact of_decide_eq_true (by kernel_rfl)) hW
def gimballaw20_list.k : K :=
 (.seq (.keep [0] (.ops false [⟨(some 2), none, .mov (.c .nil)⟩]))
 (.seq (.keep [0, 3] (.ops false [⟨(some 3), none, .mov (.c .nil)⟩]))
 (.seq (.seq (.keep [0, 3, 4] (.ops false [⟨(some 4), none, .mov (.c (.int .i64 0))⟩]))
 (.block 0 (.loop (.seq (.seq (.keep [0, 3, 4, 8] (.ops false [⟨(some 5), none, .mov (.t 4)⟩,
 ⟨(some 6), none, .mov (.t 0)⟩,
 ⟨(some 7), none, .len false (.t 6)⟩,
 ⟨(some 8), none, .bin .lss (.t 5) (.t 7)⟩]))
 (.cond (.t 8) .skip
 (.exit 0)))
 (.seq (.block 1 (.keep [0, 3, 4] (.ops false [⟨(some 11), none, .mov (.t 3)⟩,
 ⟨(some 12), none, .mov (.t 0)⟩,
 ⟨(some 13), none, .mov (.t 4)⟩,
 ⟨(some 14), none, .idxA 1 (.t 12) (.t 13)⟩,
 ⟨(some 15), none, .load 1 false (.t 14)⟩,
 ⟨(some 16), none, .callG n_long_Of [(.t 15)]⟩,
 ⟨(some 17), none, .new (.bsl 2) [(.t 16)]⟩,
 ⟨(some 18), none, .eff (.app 2 32) [(.t 11), (.t 17)]⟩,
 ⟨(some 3), none, .mov (.t 18)⟩])))
 (.keep [0, 3, 4] (.ops false [⟨(some 9), none, .mov (.t 4)⟩,
 ⟨(some 10), none, .bin .add (.t 9) (.c (.int .i64 1))⟩,
 ⟨(some 4), none, .mov (.t 10)⟩])))))))
 (.seq (.keep [2] (.ops false [⟨(some 19), none, .mov (.t 3)⟩,
 ⟨(some 2), none, .mov (.t 19)⟩]))
 .ret))))
def gimballaw20_list.res : List RX := [(2, none)]
theorem gimballaw20_list.m : mK pg Try.f15.ntmps gimballaw20_list.k (Try.f15.body.getD .skip) = true := by kernel_rfl
theorem gimballaw20_list.mr : mRes pg Try.f15.results.toList gimballaw20_list.res = true := by kernel_rfl
theorem gimballaw20_list.of {args : List V} {r : V} (hn : args.length = 1) (hW : W pg gimballaw20_list.k (done gimballaw20_list.res r) (start args)) : Ret pg n_gimballaw20_list args r :=
 Ret_of (fn := Try.f15) Try.func15 rfl (by kernel_rfl) gimballaw20_list.m gimballaw20_list.mr (by rw [hn]; exact of_decide_eq_true (by kernel_rfl)) hW
def gimballaw20_whole.k : K :=
 (.seq (.keep [1] (.ops false [⟨(some 1), none, .boxP (.t 0)⟩,
 ⟨(some 2), none, .mov (.c (.str ⟨#[]⟩))⟩]))
 (.seq (.keep [1, 3] (.ops false [⟨(some 3), none, .mov (.c (.str ⟨#[]⟩))⟩]))
 (.seq (.seq (.keep [1, 3, 4] (.ops false [⟨(some 4), none, .mov (.c (.int .i64 0))⟩]))
 (.block 0 (.loop (.seq (.seq (.keep [1, 3, 4, 10] (.ops false [⟨(some 6), none, .mov (.t 4)⟩,
 ⟨(some 7), none, .fldA 0 1 false (.t 1)⟩,
 ⟨(some 8), none, .load 1 false (.t 7)⟩,
 ⟨(some 9), none, .len false (.t 8)⟩,
 ⟨(some 10), none, .bin .lss (.t 6) (.t 9)⟩]))
 (.cond (.t 10) .skip
 (.exit 0)))
 (.seq (.block 1 (.seq (.seq (.keep [1, 3, 4, 5] (.ops false [⟨(some 5), none, .mov (.c (.int .i64 0))⟩]))
 (.block 2 (.loop (.seq (.seq (.keep [1, 3, 4, 5, 20] (.ops false [⟨(some 13), none, .mov (.t 5)⟩,
 ⟨(some 14), none, .fldA 0 1 false (.t 1)⟩,
 ⟨(some 15), none, .load 1 false (.t 14)⟩,
 ⟨(some 16), none, .mov (.t 4)⟩,
 ⟨(some 17), none, .idxA 1 (.t 15) (.t 16)⟩,
 ⟨(some 18), none, .load 1 false (.t 17)⟩,
 ⟨(some 19), none, .len false (.t 18)⟩,
 ⟨(some 20), none, .bin .lss (.t 13) (.t 19)⟩]))
 (.cond (.t 20) .skip
 (.exit 2)))
 (.seq (.block 3 (.keep [1, 3, 4, 5] (.ops false [⟨(some 23), none, .mov (.t 3)⟩,
 ⟨(some 24), none, .fldA 0 1 false (.t 1)⟩,
 ⟨(some 25), none, .load 1 false (.t 24)⟩,
 ⟨(some 26), none, .mov (.t 4)⟩,
 ⟨(some 27), none, .idxA 1 (.t 25) (.t 26)⟩,
 ⟨(some 28), none, .load 1 false (.t 27)⟩,
 ⟨(some 29), none, .mov (.t 5)⟩,
 ⟨(some 30), none, .idxA 2 (.t 28) (.t 29)⟩,
 ⟨(some 31), none, .load 2 true (.t 30)⟩,
 ⟨(some 32), none, .callG n_long_Int_String [(.t 31)]⟩,
 ⟨(some 33), none, .bin .add (.t 23) (.t 32)⟩,
 ⟨(some 34), none, .bin .add (.t 33) (.c (.str ⟨#[32]⟩))⟩,
 ⟨(some 3), none, .mov (.t 34)⟩])))
 (.keep [1, 3, 4, 5] (.ops false [⟨(some 21), none, .mov (.t 5)⟩,
 ⟨(some 22), none, .bin .add (.t 21) (.c (.int .i64 1))⟩,
 ⟨(some 5), none, .mov (.t 22)⟩])))))))
 (.keep [1, 3, 4] (.ops false [⟨(some 35), none, .mov (.t 3)⟩,
 ⟨(some 36), none, .bin .add (.t 35) (.c (.str ⟨#[59]⟩))⟩,
 ⟨(some 37), none, .fldA 1 1 false (.t 1)⟩,
 ⟨(some 38), none, .load 1 false (.t 37)⟩,
 ⟨(some 39), none, .mov (.t 4)⟩,
 ⟨(some 40), none, .idxA 2 (.t 38) (.t 39)⟩,
 ⟨(some 41), none, .load 2 true (.t 40)⟩,
 ⟨(some 42), none, .callG n_long_Int_String [(.t 41)]⟩,
 ⟨(some 43), none, .bin .add (.t 36) (.t 42)⟩,
 ⟨(some 44), none, .bin .add (.t 43) (.c (.str ⟨#[59]⟩))⟩,
 ⟨(some 3), none, .mov (.t 44)⟩]))))
 (.keep [1, 3, 4] (.ops false [⟨(some 11), none, .mov (.t 4)⟩,
 ⟨(some 12), none, .bin .add (.t 11) (.c (.int .i64 1))⟩,
 ⟨(some 4), none, .mov (.t 12)⟩])))))))
 (.seq (.keep [2] (.ops false [⟨(some 45), none, .mov (.t 3)⟩,
 ⟨(some 46), none, .fldA 2 2 true (.t 1)⟩,
 ⟨(some 47), none, .load 2 true (.t 46)⟩,
 ⟨(some 48), none, .callG n_long_Int_String [(.t 47)]⟩,
 ⟨(some 49), none, .bin .add (.t 45) (.t 48)⟩,
 ⟨(some 2), none, .mov (.t 49)⟩]))
 .ret))))
def gimballaw20_whole.res : List RX := [(2, none)]
theorem gimballaw20_whole.m : mK pg Try.f25.ntmps gimballaw20_whole.k (Try.f25.body.getD .skip) = true := by kernel_rfl
theorem gimballaw20_whole.mr : mRes pg Try.f25.results.toList gimballaw20_whole.res = true := by kernel_rfl
theorem gimballaw20_whole.of {args : List V} {r : V} (hn : args.length = 1) (hW : W pg gimballaw20_whole.k (done gimballaw20_whole.res r) (start args)) : Ret pg n_gimballaw20_whole args r :=
 Ret_of (fn := Try.f25) Try.func25 rfl (by kernel_rfl) gimballaw20_whole.m gimballaw20_whole.mr (by rw [hn]; exact of_decide_eq_true (by kernel_rfl)) hW
def gimballaw20_mirror.k : K :=
 (.seq (.keep [0, 1] (.ops false [⟨(some 4), none, .mov (.c .nil)⟩]))
 (.seq (.keep [0, 1, 5] (.ops false [⟨(some 5), none, .mov (.c .nil)⟩]))
 (.seq (.seq (.keep [0, 1, 5, 6] (.ops false [⟨(some 6), none, .mov (.c (.int .i64 0))⟩]))
 (.block 0 (.loop (.seq (.seq (.keep [0, 1, 5, 6, 11] (.ops false [⟨(some 9), none, .mov (.t 6)⟩,
 ⟨(some 10), none, .mov (.t 1)⟩,
 ⟨(some 11), none, .bin .lss (.t 9) (.t 10)⟩]))
 (.cond (.t 11) .skip
 (.exit 0)))
 (.seq (.block 1 (.gh (.keep [0, 1, 5, 6] (.ops false [⟨(some 14), none, .mov (.t 5)⟩,
 ⟨(some 15), none, .mov (.t 1)⟩,
 ⟨(some 16), none, .new (.mks 1 8 (.int .i64 0)) [(.t 15), (.t 15)]⟩,
 ⟨(some 17), none, .new (.bsl 1) [(.t 16)]⟩,
 ⟨(some 18), none, .eff (.app 1 24) [(.t 14), (.t 17)]⟩,
 ⟨(some 5), none, .mov (.t 18)⟩]))))
 (.keep [0, 1, 5, 6] (.ops false [⟨(some 12), none, .mov (.t 6)⟩,
 ⟨(some 13), none, .bin .add (.t 12) (.c (.int .i64 1))⟩,
 ⟨(some 6), none, .mov (.t 13)⟩])))))))
 (.seq (.seq (.keep [0, 1, 5, 7] (.ops false [⟨(some 7), none, .mov (.c (.int .i64 0))⟩]))
 (.block 2 (.loop (.seq (.seq (.keep [0, 1, 5, 7, 27] (.ops false [⟨(some 19), none, .mov (.t 7)⟩,
 ⟨(some 20), none, .mov (.t 1)⟩,
 ⟨(some 21), none, .bin .lss (.t 19) (.t 20)⟩,
 ⟨(some 22), none, .mov (.t 21)⟩,
 ⟨(some 23), (some (22, true)), .mov (.t 7)⟩,
 ⟨(some 24), (some (22, true)), .mov (.t 0)⟩,
 ⟨(some 25), (some (22, true)), .len false (.t 24)⟩,
 ⟨(some 26), (some (22, true)), .bin .lss (.t 23) (.t 25)⟩,
 ⟨(some 27), none, .pick (.t 22) (.t 26) (.c (.bool false))⟩]))
 (.cond (.t 27) .skip
 (.exit 2)))
 (.seq (.block 3 (.seq (.keep [0, 1, 5, 7, 8] (.ops false [⟨(some 8), none, .mov (.c (.int .i64 0))⟩]))
 (.block 4 (.loop (.seq (.seq (.keep [0, 1, 5, 7, 8, 41] (.ops false [⟨(some 30), none, .mov (.t 8)⟩,
 ⟨(some 31), none, .mov (.t 7)⟩,
 ⟨(some 32), none, .bin .leq (.t 30) (.t 31)⟩,
 ⟨(some 33), none, .mov (.t 32)⟩,
 ⟨(some 34), (some (33, true)), .mov (.t 8)⟩,
 ⟨(some 35), (some (33, true)), .mov (.t 0)⟩,
 ⟨(some 36), (some (33, true)), .mov (.t 7)⟩,
 ⟨(some 37), (some (33, true)), .idxA 1 (.t 35) (.t 36)⟩,
 ⟨(some 38), (some (33, true)), .load 1 false (.t 37)⟩,
 ⟨(some 39), (some (33, true)), .len false (.t 38)⟩,
 ⟨(some 40), (some (33, true)), .bin .lss (.t 34) (.t 39)⟩,
 ⟨(some 41), none, .pick (.t 33) (.t 40) (.c (.bool false))⟩]))
 (.cond (.t 41) .skip
 (.exit 4)))
 (.seq (.block 5 (.seq (.keep [0, 1, 5, 7, 8] (.ops true [⟨(some 44), none, .mov (.t 5)⟩,
 ⟨(some 45), none, .mov (.t 7)⟩,
 ⟨(some 46), none, .idxA 1 (.t 44) (.t 45)⟩,
 ⟨(some 47), none, .load 1 false (.t 46)⟩,
 ⟨(some 48), none, .mov (.t 8)⟩,
 ⟨(some 49), none, .mov (.t 0)⟩,
 ⟨(some 50), none, .mov (.t 7)⟩,
 ⟨(some 51), none, .idxA 1 (.t 49) (.t 50)⟩,
 ⟨(some 52), none, .load 1 false (.t 51)⟩,
 ⟨(some 53), none, .mov (.t 8)⟩,
 ⟨(some 54), none, .idxA 1 (.t 52) (.t 53)⟩,
 ⟨(some 55), none, .load 1 false (.t 54)⟩,
 ⟨(some 56), none, .idxA 1 (.t 47) (.t 48)⟩,
 ⟨none, none, .store 1 (.t 56) (.t 55)⟩]))
 (.keep [0, 1, 5, 7, 8] (.ops true [⟨(some 57), none, .mov (.t 5)⟩,
 ⟨(some 58), none, .mov (.t 8)⟩,
 ⟨(some 59), none, .idxA 1 (.t 57) (.t 58)⟩,
 ⟨(some 60), none, .load 1 false (.t 59)⟩,
 ⟨(some 61), none, .mov (.t 7)⟩,
 ⟨(some 62), none, .mov (.t 0)⟩,
 ⟨(some 63), none, .mov (.t 7)⟩,
 ⟨(some 64), none, .idxA 1 (.t 62) (.t 63)⟩,
 ⟨(some 65), none, .load 1 false (.t 64)⟩,
 ⟨(some 66), none, .mov (.t 8)⟩,
 ⟨(some 67), none, .idxA 1 (.t 65) (.t 66)⟩,
 ⟨(some 68), none, .load 1 false (.t 67)⟩,
 ⟨(some 69), none, .idxA 1 (.t 60) (.t 61)⟩,
 ⟨none, none, .store 1 (.t 69) (.t 68)⟩]))))
 (.keep [0, 1, 5, 7, 8] (.ops false [⟨(some 42), none, .mov (.t 8)⟩,
 ⟨(some 43), none, .bin .add (.t 42) (.c (.int .i64 1))⟩,
 ⟨(some 8), none, .mov (.t 43)⟩]))))))))
 (.keep [0, 1, 5, 7] (.ops false [⟨(some 28), none, .mov (.t 7)⟩,
 ⟨(some 29), none, .bin .add (.t 28) (.c (.int .i64 1))⟩,
 ⟨(some 7), none, .mov (.t 29)⟩])))))))
 (.seq (.keep [4] (.ops false [⟨(some 70), none, .mov (.t 5)⟩,
 ⟨(some 4), none, .mov (.t 70)⟩]))
 .ret)))))
def gimballaw20_mirror.res : List RX := [(4, none)]
theorem gimballaw20_mirror.m : mK pg Try.f27.ntmps gimballaw20_mirror.k (Try.f27.body.getD .skip) = true := by kernel_rfl
theorem gimballaw20_mirror.mr : mRes pg Try.f27.results.toList gimballaw20_mirror.res = true := by kernel_rfl
theorem gimballaw20_mirror.of {args : List V} {r : V} (hn : args.length = 2) (hW : W pg gimballaw20_mirror.k (done gimballaw20_mirror.res r) (start args)) : Ret pg n_gimballaw20_mirror args r :=
 Ret_of (fn := Try.f27) Try.func27 rfl (by kernel_rfl) gimballaw20_mirror.m gimballaw20_mirror.mr (by rw [hn]; exact of_decide_eq_true (by kernel_rfl)) hW
end Go.Gim

import Derived.Test.YtmmfkmnakelacaaGN
/- Functions' code as data (written by wip/tools/gen.py), and the step to their contracts. -/
set_option maxRecDepth 100000
namespace Go.Gim
open Go.Proofs
def gimballaw08_QuadSums.k : K :=
 (.seq (.keep [0, 1, 2, 3, 4, 5, 6] (.ops false [⟨(some 14), none, .mov (.c (.bool false))⟩]))
 (.seq (.keep [0, 1, 2, 3, 4, 5, 6, 15] (.ops false [⟨(some 37), none, .callG n_gimballaw08_awake []⟩,
 ⟨(some 15), none, .mov (.t 37)⟩]))
 (.seq (.keep [3, 4, 5, 6, 15, 16, 18] (.ops false [⟨(some 39), none, .mov (.t 0)⟩,
 ⟨(some 40), none, .mov (.t 1)⟩,
 ⟨(some 41), none, .mov (.t 2)⟩,
 ⟨(some 42), none, .callG n_gimballaw08_read [(.t 39), (.t 40), (.t 41), (.c (.int .i64 6))]⟩,
 ⟨(some 38), none, .mov (.t 42)⟩,
 ⟨(some 43), none, .ext (.t 38) 0⟩,
 ⟨(some 44), none, .ext (.t 38) 1⟩,
 ⟨(some 45), none, .ext (.t 38) 2⟩,
 ⟨(some 16), none, .alloc 4 (.agg [.nil, .nil, (.bool false), (.sl [])])⟩,
 ⟨(some 17), none, .alloc 4 (.agg [.nil, .nil, (.bool false), (.sl [])])⟩,
 ⟨none, none, .store 4 (.t 16) (.t 43)⟩,
 ⟨none, none, .store 4 (.t 17) (.t 44)⟩,
 ⟨(some 18), none, .mov (.t 45)⟩]))
 (.seq (.seq (.keep [3, 4, 5, 6, 15, 16, 58] (.ops false [⟨(some 46), none, .mov (.t 18)⟩,
 ⟨(some 47), none, .un .not (.t 46)⟩,
 ⟨(some 48), none, .mov (.t 47)⟩,
 ⟨(some 49), (some (48, false)), .mov (.t 6)⟩,
 ⟨(some 50), (some (48, false)), .bin .lss (.t 49) (.c (.int .i64 0))⟩,
 ⟨(some 51), none, .pick (.t 48) (.c (.bool true)) (.t 50)⟩,
 ⟨(some 52), none, .mov (.t 51)⟩,
 ⟨(some 53), (some (52, false)), .mov (.t 6)⟩,
 ⟨(some 54), (some (52, false)), .fldA 0 1 false (.t 16)⟩,
 ⟨(some 55), (some (52, false)), .load 1 false (.t 54)⟩,
 ⟨(some 56), (some (52, false)), .len false (.t 55)⟩,
 ⟨(some 57), (some (52, false)), .bin .gtr (.t 53) (.t 56)⟩,
 ⟨(some 58), none, .pick (.t 52) (.c (.bool true)) (.t 57)⟩]))
 (.cond (.t 58) (.seq (.keep [14] (.ops false [⟨(some 59), none, .mov (.t 15)⟩,
 ⟨(some 14), none, .mov (.t 59)⟩]))
 .ret)
 .skip))
 (.seq (.keep [5, 6, 15, 16, 19, 21] (.ops false [⟨(some 61), none, .mov (.t 3)⟩,
 ⟨(some 62), none, .mov (.t 4)⟩,
 ⟨(some 63), none, .fldA 0 1 false (.t 16)⟩,
 ⟨(some 64), none, .load 1 false (.t 63)⟩,
 ⟨(some 65), none, .len false (.t 64)⟩,
 ⟨(some 66), none, .mov (.t 6)⟩,
 ⟨(some 67), none, .bin .sub (.t 65) (.t 66)⟩,
 ⟨(some 68), none, .callG n_gimballaw08_read [(.t 61), (.t 62), (.c (.int .i64 0)), (.t 67)]⟩,
 ⟨(some 60), none, .mov (.t 68)⟩,
 ⟨(some 69), none, .ext (.t 60) 0⟩,
 ⟨(some 70), none, .ext (.t 60) 1⟩,
 ⟨(some 71), none, .ext (.t 60) 2⟩,
 ⟨(some 19), none, .alloc 4 (.agg [.nil, .nil, (.bool false), (.sl [])])⟩,
 ⟨(some 20), none, .alloc 4 (.agg [.nil, .nil, (.bool false), (.sl [])])⟩,
 ⟨none, none, .store 4 (.t 19) (.t 69)⟩,
 ⟨none, none, .store 4 (.t 20) (.t 70)⟩,
 ⟨(some 21), none, .mov (.t 71)⟩]))
 (.seq (.seq (.keep [5, 6, 15, 16, 19, 84] (.ops false [⟨(some 72), none, .mov (.t 21)⟩,
 ⟨(some 73), none, .un .not (.t 72)⟩,
 ⟨(some 74), none, .mov (.t 73)⟩,
 ⟨(some 75), (some (74, false)), .fldA 0 1 false (.t 19)⟩,
 ⟨(some 76), (some (74, false)), .load 1 false (.t 75)⟩,
 ⟨(some 77), (some (74, false)), .len false (.t 76)⟩,
 ⟨(some 78), (some (74, false)), .fldA 0 1 false (.t 16)⟩,
 ⟨(some 79), (some (74, false)), .load 1 false (.t 78)⟩,
 ⟨(some 80), (some (74, false)), .len false (.t 79)⟩,
 ⟨(some 81), (some (74, false)), .mov (.t 6)⟩,
 ⟨(some 82), (some (74, false)), .bin .sub (.t 80) (.t 81)⟩,
 ⟨(some 83), (some (74, false)), .bin .neq (.t 77) (.t 82)⟩,
 ⟨(some 84), none, .pick (.t 74) (.c (.bool true)) (.t 83)⟩]))
 (.cond (.t 84) (.seq (.keep [14] (.ops false [⟨(some 85), none, .mov (.t 15)⟩,
 ⟨(some 14), none, .mov (.t 85)⟩]))
 .ret)
 .skip))
 (.seq (.keep [5, 6, 15, 16, 19, 22] (.ops false [⟨(some 86), none, .fldA 2 2 true (.t 19)⟩,
 ⟨(some 87), none, .load 2 true (.t 86)⟩,
 ⟨(some 88), none, .build [.nil, .nil, (.bool false), (.sl [])] [(2, 2, (.t 87))]⟩,
 ⟨(some 22), none, .alloc 4 (.agg [.nil, .nil, (.bool false), (.sl [])])⟩,
 ⟨none, none, .store 4 (.t 22) (.t 88)⟩]))
 (.seq (.seq (.keep [5, 6, 15, 16, 19, 22, 23] (.ops false [⟨(some 23), none, .mov (.c (.int .i64 0))⟩]))
 (.block 0 (.loop (.seq (.seq (.keep [5, 6, 15, 16, 19, 22, 23, 93] (.ops false [⟨(some 89), none, .mov (.t 23)⟩,
 ⟨(some 90), none, .fldA 0 1 false (.t 16)⟩,
 ⟨(some 91), none, .load 1 false (.t 90)⟩,
 ⟨(some 92), none, .len false (.t 91)⟩,
 ⟨(some 93), none, .bin .lss (.t 89) (.t 92)⟩]))
 (.cond (.t 93) .skip
 (.exit 0)))
 (.seq (.block 1 (.seq (.keep [5, 6, 15, 16, 19, 22, 23, 24] (.ops false [⟨(some 96), none, .fldA 0 1 false (.t 16)⟩,
 ⟨(some 97), none, .load 1 false (.t 96)⟩,
 ⟨(some 98), none, .len false (.t 97)⟩,
 ⟨(some 99), none, .new (.mks 2 32 (.agg [(.bool false), (.sl [])])) [(.t 98), (.t 98)]⟩,
 ⟨(some 24), none, .mov (.t 99)⟩]))
 (.seq (.keep [5, 6, 15, 16, 19, 22, 23, 24, 25] (.ops false [⟨(some 100), none, .build [(.bool false), (.sl [])] []⟩,
 ⟨(some 25), none, .alloc 2 (.agg [(.bool false), (.sl [])])⟩,
 ⟨none, none, .store 2 (.t 25) (.t 100)⟩]))
 (.seq (.seq (.keep [5, 6, 15, 16, 19, 22, 23, 24, 25, 103] (.ops false [⟨(some 101), none, .mov (.t 23)⟩,
 ⟨(some 102), none, .mov (.t 6)⟩,
 ⟨(some 103), none, .bin .geq (.t 101) (.t 102)⟩]))
 (.cond (.t 103) (.seq (.keep [5, 6, 15, 16, 19, 22, 23, 24, 25] (.ops true [⟨(some 104), none, .mov (.t 24)⟩,
 ⟨(some 105), none, .mov (.t 6)⟩,
 ⟨(some 106), none, .winF 2 (.t 104) (.t 105)⟩,
 ⟨(some 107), none, .fldA 0 1 false (.t 19)⟩,
 ⟨(some 108), none, .load 1 false (.t 107)⟩,
 ⟨(some 109), none, .mov (.t 23)⟩,
 ⟨(some 110), none, .mov (.t 6)⟩,
 ⟨(some 111), none, .bin .sub (.t 109) (.t 110)⟩,
 ⟨(some 112), none, .idxA 1 (.t 108) (.t 111)⟩,
 ⟨(some 113), none, .load 1 false (.t 112)⟩,
 ⟨(some 114), none, .eff (.cpy 2) [(.t 106), (.t 113)]⟩]))
 (.keep [5, 6, 15, 16, 19, 22, 23, 24, 25] (.ops false [⟨(some 115), none, .fldA 1 1 false (.t 19)⟩,
 ⟨(some 116), none, .load 1 false (.t 115)⟩,
 ⟨(some 117), none, .mov (.t 23)⟩,
 ⟨(some 118), none, .mov (.t 6)⟩,
 ⟨(some 119), none, .bin .sub (.t 117) (.t 118)⟩,
 ⟨(some 120), none, .idxA 2 (.t 116) (.t 119)⟩,
 ⟨(some 121), none, .load 2 true (.t 120)⟩,
 ⟨none, none, .store 2 (.t 25) (.t 121)⟩])))
 .skip))
 (.seq (.gh (.keep [5, 6, 15, 16, 19, 22, 23, 25] (.ops false [⟨(some 122), none, .fldA 0 1 false (.t 22)⟩,
 ⟨(some 123), none, .load 1 false (.t 122)⟩,
 ⟨(some 124), none, .mov (.t 24)⟩,
 ⟨(some 125), none, .new (.bsl 1) [(.t 124)]⟩,
 ⟨(some 126), none, .eff (.app 1 24) [(.t 123), (.t 125)]⟩,
 ⟨(some 127), none, .fldA 0 1 false (.t 22)⟩,
 ⟨none, none, .store 1 (.t 127) (.t 126)⟩])))
 (.keep [5, 6, 15, 16, 19, 22, 23] (.ops false [⟨(some 128), none, .fldA 1 1 false (.t 22)⟩,
 ⟨(some 129), none, .load 1 false (.t 128)⟩,
 ⟨(some 130), none, .load 2 true (.t 25)⟩,
 ⟨(some 131), none, .new (.bsl 2) [(.t 130)]⟩,
 ⟨(some 132), none, .eff (.app 2 32) [(.t 129), (.t 131)]⟩,
 ⟨(some 133), none, .fldA 1 1 false (.t 22)⟩,
 ⟨none, none, .store 1 (.t 133) (.t 132)⟩])))))))
 (.keep [5, 6, 15, 16, 19, 22, 23] (.ops false [⟨(some 94), none, .mov (.t 23)⟩,
 ⟨(some 95), none, .bin .add (.t 94) (.c (.int .i64 1))⟩,
 ⟨(some 23), none, .mov (.t 95)⟩])))))))
 (.seq (.keep [5, 6, 15, 16, 19, 22, 26, 27, 28] (.ops false [⟨(some 135), none, .load 4 true (.t 16)⟩,
 ⟨(some 136), none, .mov (.t 6)⟩,
 ⟨(some 137), none, .callG n_quad_Quad_Without [(.t 135), (.t 136)]⟩,
 ⟨(some 134), none, .mov (.t 137)⟩,
 ⟨(some 138), none, .ext (.t 134) 0⟩,
 ⟨(some 139), none, .ext (.t 134) 1⟩,
 ⟨(some 140), none, .ext (.t 134) 2⟩,
 ⟨(some 26), none, .alloc 4 (.agg [.nil, .nil, (.bool false), (.sl [])])⟩,
 ⟨(some 27), none, .alloc 2 (.agg [(.bool false), (.sl [])])⟩,
 ⟨none, none, .store 4 (.t 26) (.t 138)⟩,
 ⟨none, none, .store 2 (.t 27) (.t 139)⟩,
 ⟨(some 28), none, .mov (.t 140)⟩]))
 (.seq (.keep [5, 6, 15, 16, 19, 26, 27, 28, 29, 30, 31] (.ops false [⟨(some 142), none, .load 4 true (.t 16)⟩,
 ⟨(some 143), none, .load 4 true (.t 22)⟩,
 ⟨(some 144), none, .callG n_quad_Quad_Add [(.t 142), (.t 143)]⟩,
 ⟨(some 145), none, .mov (.t 6)⟩,
 ⟨(some 146), none, .callG n_quad_Quad_Without [(.t 144), (.t 145)]⟩,
 ⟨(some 141), none, .mov (.t 146)⟩,
 ⟨(some 147), none, .ext (.t 141) 0⟩,
 ⟨(some 148), none, .ext (.t 141) 1⟩,
 ⟨(some 149), none, .ext (.t 141) 2⟩,
 ⟨(some 29), none, .alloc 4 (.agg [.nil, .nil, (.bool false), (.sl [])])⟩,
 ⟨(some 30), none, .alloc 2 (.agg [(.bool false), (.sl [])])⟩,
 ⟨none, none, .store 4 (.t 29) (.t 147)⟩,
 ⟨none, none, .store 2 (.t 30) (.t 148)⟩,
 ⟨(some 31), none, .mov (.t 149)⟩]))
 (.seq (.seq (.keep [5, 6, 15, 16, 19, 26, 27, 28, 29, 30, 31, 155] (.ops false [⟨(some 150), none, .mov (.t 28)⟩,
 ⟨(some 151), none, .bin .neq (.t 150) (.c (.int .i64 0))⟩,
 ⟨(some 152), none, .mov (.t 151)⟩,
 ⟨(some 153), (some (152, false)), .mov (.t 31)⟩,
 ⟨(some 154), (some (152, false)), .bin .neq (.t 153) (.c (.int .i64 0))⟩,
 ⟨(some 155), none, .pick (.t 152) (.c (.bool true)) (.t 154)⟩]))
 (.cond (.t 155) (.seq (.keep [14] (.ops false [⟨(some 156), none, .mov (.t 15)⟩,
 ⟨(some 157), none, .mov (.t 156)⟩,
 ⟨(some 158), (some (157, true)), .mov (.t 28)⟩,
 ⟨(some 159), (some (157, true)), .mov (.t 31)⟩,
 ⟨(some 160), (some (157, true)), .bin .eql (.t 158) (.t 159)⟩,
 ⟨(some 161), none, .pick (.t 157) (.t 160) (.c (.bool false))⟩,
 ⟨(some 14), none, .mov (.t 161)⟩]))
 .ret)
 .skip))
 (.seq (.keep [15, 19, 26, 27, 29, 30, 32] (.ops false [⟨(some 163), none, .mov (.t 5)⟩,
 ⟨(some 164), none, .fldA 0 1 false (.t 16)⟩,
 ⟨(some 165), none, .load 1 false (.t 164)⟩,
 ⟨(some 166), none, .len false (.t 165)⟩,
 ⟨(some 167), none, .mov (.t 6)⟩,
 ⟨(some 168), none, .bin .sub (.t 166) (.t 167)⟩,
 ⟨(some 169), none, .callG n_gimballaw08_list [(.t 163), (.t 168)]⟩,
 ⟨(some 162), none, .mov (.t 169)⟩,
 ⟨(some 170), none, .ext (.t 162) 0⟩,
 ⟨(some 171), none, .ext (.t 162) 1⟩,
 ⟨(some 32), none, .mov (.t 170)⟩,
 ⟨(some 33), none, .mov (.t 171)⟩]))
 (.seq (.keep [15, 19, 26, 27, 29, 32, 34] (.ops false [⟨(some 172), none, .load 2 true (.t 27)⟩,
 ⟨(some 173), none, .load 2 true (.t 30)⟩,
 ⟨(some 174), none, .callG n_long_Int_Cmp [(.t 172), (.t 173)]⟩,
 ⟨(some 34), none, .mov (.t 174)⟩]))
 (.seq (.keep [15, 29, 32, 34, 35] (.ops true [⟨(some 175), none, .load 4 true (.t 26)⟩,
 ⟨(some 176), none, .mov (.t 32)⟩,
 ⟨(some 177), none, .call n_quad_Quad_Value [(.t 175), (.t 176)]⟩,
 ⟨(some 178), none, .load 4 true (.t 19)⟩,
 ⟨(some 179), none, .mov (.t 32)⟩,
 ⟨(some 180), none, .call n_quad_Quad_Value [(.t 178), (.t 179)]⟩,
 ⟨(some 181), none, .load 2 true (.t 27)⟩,
 ⟨(some 182), none, .call n_long_Int_Mul [(.t 180), (.t 181)]⟩,
 ⟨(some 183), none, .call n_long_Int_Add [(.t 177), (.t 182)]⟩,
 ⟨(some 35), none, .alloc 2 (.agg [(.bool false), (.sl [])])⟩,
 ⟨none, none, .store 2 (.t 35) (.t 183)⟩]))
 (.seq (.keep [15, 34, 36] (.ops true [⟨(some 184), none, .load 2 true (.t 35)⟩,
 ⟨(some 185), none, .load 4 true (.t 29)⟩,
 ⟨(some 186), none, .mov (.t 32)⟩,
 ⟨(some 187), none, .call n_quad_Quad_Value [(.t 185), (.t 186)]⟩,
 ⟨(some 188), none, .call n_long_Int_Cmp [(.t 184), (.t 187)]⟩,
 ⟨(some 36), none, .mov (.t 188)⟩]))
 (.seq (.keep [14] (.ops false [⟨(some 189), none, .mov (.t 15)⟩,
 ⟨(some 190), none, .mov (.t 189)⟩,
 ⟨(some 191), (some (190, true)), .mov (.t 34)⟩,
 ⟨(some 192), (some (190, true)), .bin .eql (.t 191) (.c (.int .i64 0))⟩,
 ⟨(some 193), none, .pick (.t 190) (.t 192) (.c (.bool false))⟩,
 ⟨(some 194), none, .mov (.t 193)⟩,
 ⟨(some 195), (some (194, true)), .mov (.t 36)⟩,
 ⟨(some 196), (some (194, true)), .bin .eql (.t 195) (.c (.int .i64 0))⟩,
 ⟨(some 197), none, .pick (.t 194) (.t 196) (.c (.bool false))⟩,
 ⟨(some 14), none, .mov (.t 197)⟩]))
 .ret))))))))))))))))
def gimballaw08_QuadSums.res : List RX := [(14, none)]
theorem gimballaw08_QuadSums.m : mK pg Try.f3.ntmps gimballaw08_QuadSums.k (Try.f3.body.getD .skip) = true := by kernel_rfl
theorem gimballaw08_QuadSums.mr : mRes pg Try.f3.results.toList gimballaw08_QuadSums.res = true := by kernel_rfl
theorem gimballaw08_QuadSums.of {args : List V} {r : V} (hn : args.length = 7) (hW : W pg gimballaw08_QuadSums.k (done gimballaw08_QuadSums.res r) (start args)) : Ret pg n_gimballaw08_QuadSums args r :=
 Ret_of (fn := Try.f3) Try.func3 rfl (by kernel_rfl) gimballaw08_QuadSums.m gimballaw08_QuadSums.mr (by rw [hn]; exact of_decide_eq_true (by kernel_rfl)) hW
def gimballaw08_awake.k : K :=
 (.seq (.keep [] (.ops false [⟨(some 0), none, .mov (.c (.bool false))⟩]))
 (.seq (.keep [1, 2] (.ops false [⟨(some 26), none, .new (.bsl 1) [(.c (.int .i64 2)), (.c (.int .i64 1))]⟩,
 ⟨(some 27), none, .new (.bsl 1) [(.c (.int .i64 1)), (.c (.int .i64 3))]⟩,
 ⟨(some 28), none, .new (.bsl 1) [(.t 26), (.t 27)]⟩,
 ⟨(some 29), none, .new (.bsl 1) [(.c (.int .i64 1)), (.c (.int .i64 2))]⟩,
 ⟨(some 30), none, .callG n_quad_Of [(.t 28), (.t 29), (.c (.int .i64 4))]⟩,
 ⟨(some 25), none, .mov (.t 30)⟩,
 ⟨(some 31), none, .ext (.t 25) 0⟩,
 ⟨(some 32), none, .ext (.t 25) 1⟩,
 ⟨(some 1), none, .alloc 4 (.agg [.nil, .nil, (.bool false), (.sl [])])⟩,
 ⟨none, none, .store 4 (.t 1) (.t 31)⟩,
 ⟨(some 2), none, .mov (.t 32)⟩]))
 (.seq (.seq (.keep [1, 46] (.ops false [⟨(some 33), none, .mov (.t 2)⟩,
 ⟨(some 34), none, .bin .neq (.t 33) (.c (.int .i64 0))⟩,
 ⟨(some 35), none, .mov (.t 34)⟩,
 ⟨(some 36), (some (35, false)), .fldA 0 1 false (.t 1)⟩,
 ⟨(some 37), (some (35, false)), .load 1 false (.t 36)⟩,
 ⟨(some 38), (some (35, false)), .len false (.t 37)⟩,
 ⟨(some 39), (some (35, false)), .bin .neq (.t 38) (.c (.int .i64 2))⟩,
 ⟨(some 40), none, .pick (.t 35) (.c (.bool true)) (.t 39)⟩,
 ⟨(some 41), none, .mov (.t 40)⟩,
 ⟨(some 42), (some (41, false)), .fldA 1 1 false (.t 1)⟩,
 ⟨(some 43), (some (41, false)), .load 1 false (.t 42)⟩,
 ⟨(some 44), (some (41, false)), .len false (.t 43)⟩,
 ⟨(some 45), (some (41, false)), .bin .neq (.t 44) (.c (.int .i64 2))⟩,
 ⟨(some 46), none, .pick (.t 41) (.c (.bool true)) (.t 45)⟩]))
 (.cond (.t 46) (.seq (.keep [0] (.ops false [⟨(some 0), none, .mov (.c (.bool false))⟩]))
 .ret)
 .skip))
 (.seq (.keep [1, 3] (.ops false [⟨(some 48), none, .new (.bsl 1) [(.c (.int .i64 1)), (.c (.int .i64 1))]⟩,
 ⟨(some 49), none, .callG n_gimballaw08_list [(.t 48), (.c (.int .i64 2))]⟩,
 ⟨(some 47), none, .mov (.t 49)⟩,
 ⟨(some 50), none, .ext (.t 47) 0⟩,
 ⟨(some 51), none, .ext (.t 47) 1⟩,
 ⟨(some 3), none, .mov (.t 50)⟩,
 ⟨(some 4), none, .mov (.t 51)⟩]))
 (.seq (.keep [1, 3, 5] (.ops false [⟨(some 53), none, .callG n_gimballaw08_list [(.c .nil), (.c (.int .i64 2))]⟩,
 ⟨(some 52), none, .mov (.t 53)⟩,
 ⟨(some 54), none, .ext (.t 52) 0⟩,
 ⟨(some 55), none, .ext (.t 52) 1⟩,
 ⟨(some 5), none, .mov (.t 54)⟩,
 ⟨(some 6), none, .mov (.t 55)⟩]))
 (.seq (.keep [1, 3, 5, 7] (.ops false [⟨(some 57), none, .new (.bsl 1) [(.c (.int .i64 1))]⟩,
 ⟨(some 58), none, .callG n_gimballaw08_list [(.t 57), (.c (.int .i64 1))]⟩,
 ⟨(some 56), none, .mov (.t 58)⟩,
 ⟨(some 59), none, .ext (.t 56) 0⟩,
 ⟨(some 60), none, .ext (.t 56) 1⟩,
 ⟨(some 7), none, .mov (.t 59)⟩,
 ⟨(some 8), none, .mov (.t 60)⟩]))
 (.seq (.keep [1, 5, 7, 9] (.ops false [⟨(some 61), none, .load 4 true (.t 1)⟩,
 ⟨(some 62), none, .mov (.t 3)⟩,
 ⟨(some 63), none, .callG n_quad_Quad_Value [(.t 61), (.t 62)]⟩,
 ⟨(some 64), none, .callG n_long_Int_String [(.t 63)]⟩,
 ⟨(some 9), none, .mov (.t 64)⟩]))
 (.seq (.keep [1, 7, 9, 10] (.ops false [⟨(some 65), none, .load 4 true (.t 1)⟩,
 ⟨(some 66), none, .mov (.t 5)⟩,
 ⟨(some 67), none, .callG n_quad_Quad_Slope [(.t 65), (.t 66)]⟩,
 ⟨(some 10), none, .mov (.t 67)⟩]))
 (.seq (.keep [1, 7, 9, 10, 11, 12, 13, 14] (.ops false [⟨(some 69), none, .load 4 true (.t 1)⟩,
 ⟨(some 70), none, .callG n_quad_Quad_Least [(.t 69)]⟩,
 ⟨(some 68), none, .mov (.t 70)⟩,
 ⟨(some 71), none, .ext (.t 68) 0⟩,
 ⟨(some 72), none, .ext (.t 68) 1⟩,
 ⟨(some 73), none, .ext (.t 68) 2⟩,
 ⟨(some 74), none, .ext (.t 68) 3⟩,
 ⟨(some 12), none, .alloc 2 (.agg [(.bool false), (.sl [])])⟩,
 ⟨(some 13), none, .alloc 2 (.agg [(.bool false), (.sl [])])⟩,
 ⟨(some 11), none, .mov (.t 71)⟩,
 ⟨none, none, .store 2 (.t 12) (.t 72)⟩,
 ⟨none, none, .store 2 (.t 13) (.t 73)⟩,
 ⟨(some 14), none, .mov (.t 74)⟩]))
 (.seq (.keep [1, 7, 9, 10, 11, 13, 14, 15] (.ops false [⟨(some 75), none, .load 2 true (.t 12)⟩,
 ⟨(some 76), none, .callG n_long_Int_String [(.t 75)]⟩,
 ⟨(some 15), none, .mov (.t 76)⟩]))
 (.seq (.keep [1, 7, 9, 10, 11, 14, 15, 16] (.ops false [⟨(some 77), none, .load 2 true (.t 13)⟩,
 ⟨(some 78), none, .callG n_long_Int_String [(.t 77)]⟩,
 ⟨(some 16), none, .mov (.t 78)⟩]))
 (.seq (.keep [1, 9, 10, 11, 14, 15, 16, 17, 18] (.ops false [⟨(some 80), none, .load 4 true (.t 1)⟩,
 ⟨(some 81), none, .mov (.t 7)⟩,
 ⟨(some 82), none, .callG n_quad_Quad_With [(.t 80), (.t 81)]⟩,
 ⟨(some 79), none, .mov (.t 82)⟩,
 ⟨(some 83), none, .ext (.t 79) 0⟩,
 ⟨(some 84), none, .ext (.t 79) 1⟩,
 ⟨(some 17), none, .alloc 4 (.agg [.nil, .nil, (.bool false), (.sl [])])⟩,
 ⟨none, none, .store 4 (.t 17) (.t 83)⟩,
 ⟨(some 18), none, .mov (.t 84)⟩]))
 (.seq (.keep [9, 10, 11, 14, 15, 16, 17, 18, 19, 20, 21] (.ops false [⟨(some 86), none, .load 4 true (.t 1)⟩,
 ⟨(some 87), none, .callG n_quad_Quad_Without [(.t 86), (.c (.int .i64 1))]⟩,
 ⟨(some 85), none, .mov (.t 87)⟩,
 ⟨(some 88), none, .ext (.t 85) 0⟩,
 ⟨(some 89), none, .ext (.t 85) 1⟩,
 ⟨(some 90), none, .ext (.t 85) 2⟩,
 ⟨(some 19), none, .alloc 4 (.agg [.nil, .nil, (.bool false), (.sl [])])⟩,
 ⟨(some 20), none, .alloc 2 (.agg [(.bool false), (.sl [])])⟩,
 ⟨none, none, .store 4 (.t 19) (.t 88)⟩,
 ⟨none, none, .store 2 (.t 20) (.t 89)⟩,
 ⟨(some 21), none, .mov (.t 90)⟩]))
 (.seq (.keep [9, 10, 11, 14, 15, 16, 17, 18, 19, 21, 22] (.ops false [⟨(some 91), none, .load 2 true (.t 20)⟩,
 ⟨(some 92), none, .callG n_long_Int_String [(.t 91)]⟩,
 ⟨(some 22), none, .mov (.t 92)⟩]))
 (.seq (.keep [9, 10, 11, 14, 15, 16, 17, 18, 19, 21, 22, 24] (.ops false [⟨(some 94), none, .new (.bsl 1) [(.c (.int .i64 1)), (.c (.int .i64 2))]⟩,
 ⟨(some 95), none, .new (.bsl 1) [(.c (.int .i64 3)), (.c (.int .i64 1))]⟩,
 ⟨(some 96), none, .new (.bsl 1) [(.t 94), (.t 95)]⟩,
 ⟨(some 97), none, .new (.bsl 1) [(.c (.int .i64 1)), (.c (.int .i64 2))]⟩,
 ⟨(some 98), none, .callG n_quad_Of [(.t 96), (.t 97), (.c (.int .i64 4))]⟩,
 ⟨(some 93), none, .mov (.t 98)⟩,
 ⟨(some 99), none, .ext (.t 93) 0⟩,
 ⟨(some 100), none, .ext (.t 93) 1⟩,
 ⟨(some 23), none, .alloc 4 (.agg [.nil, .nil, (.bool false), (.sl [])])⟩,
 ⟨none, none, .store 4 (.t 23) (.t 99)⟩,
 ⟨(some 24), none, .mov (.t 100)⟩]))
 (.seq (.keep [0] (.ops false [⟨(some 101), none, .mov (.t 9)⟩,
 ⟨(some 102), none, .bin .eql (.t 101) (.c (.str ⟨#[53]⟩))⟩,
 ⟨(some 103), none, .mov (.t 102)⟩,
 ⟨(some 104), (some (103, true)), .mov (.t 10)⟩,
 ⟨(some 105), (some (103, true)), .callG n_gimballaw08_text [(.t 104)]⟩,
 ⟨(some 106), (some (103, true)), .bin .eql (.t 105) (.c (.str ⟨#[45, 49, 32, 45, 50, 32]⟩))⟩,
 ⟨(some 107), none, .pick (.t 103) (.t 106) (.c (.bool false))⟩,
 ⟨(some 108), none, .mov (.t 107)⟩,
 ⟨(some 109), (some (108, true)), .mov (.t 11)⟩,
 ⟨(some 110), (some (108, true)), .callG n_gimballaw08_text [(.t 109)]⟩,
 ⟨(some 111), (some (108, true)), .bin .eql (.t 110) (.c (.str ⟨#[49, 32, 51, 32]⟩))⟩,
 ⟨(some 112), none, .pick (.t 108) (.t 111) (.c (.bool false))⟩,
 ⟨(some 113), none, .mov (.t 112)⟩,
 ⟨(some 114), (some (113, true)), .mov (.t 15)⟩,
 ⟨(some 115), (some (113, true)), .bin .eql (.t 114) (.c (.str ⟨#[53]⟩))⟩,
 ⟨(some 116), none, .pick (.t 113) (.t 115) (.c (.bool false))⟩,
 ⟨(some 117), none, .mov (.t 116)⟩,
 ⟨(some 118), (some (117, true)), .mov (.t 16)⟩,
 ⟨(some 119), (some (117, true)), .bin .eql (.t 118) (.c (.str ⟨#[49, 51]⟩))⟩,
 ⟨(some 120), none, .pick (.t 117) (.t 119) (.c (.bool false))⟩,
 ⟨(some 121), none, .mov (.t 120)⟩,
 ⟨(some 122), (some (121, true)), .mov (.t 14)⟩,
 ⟨(some 123), (some (121, true)), .bin .eql (.t 122) (.c (.int .i64 0))⟩,
 ⟨(some 124), none, .pick (.t 121) (.t 123) (.c (.bool false))⟩,
 ⟨(some 125), none, .mov (.t 124)⟩,
 ⟨(some 126), (some (125, true)), .mov (.t 18)⟩,
 ⟨(some 127), (some (125, true)), .bin .eql (.t 126) (.c (.int .i64 0))⟩,
 ⟨(some 128), none, .pick (.t 125) (.t 127) (.c (.bool false))⟩,
 ⟨(some 129), none, .mov (.t 128)⟩,
 ⟨(some 130), (some (129, true)), .load 4 true (.t 17)⟩,
 ⟨(some 131), (some (129, true)), .callG n_gimballaw08_whole [(.t 130)]⟩,
 ⟨(some 132), (some (129, true)), .bin .eql (.t 131) (.c (.str ⟨#[50, 32, 59, 48, 32, 59, 51]⟩))⟩,
 ⟨(some 133), none, .pick (.t 129) (.t 132) (.c (.bool false))⟩,
 ⟨(some 134), none, .mov (.t 133)⟩,
 ⟨(some 135), (some (134, true)), .mov (.t 21)⟩,
 ⟨(some 136), (some (134, true)), .bin .eql (.t 135) (.c (.int .i64 0))⟩,
 ⟨(some 137), none, .pick (.t 134) (.t 136) (.c (.bool false))⟩,
 ⟨(some 138), none, .mov (.t 137)⟩,
 ⟨(some 139), (some (138, true)), .mov (.t 22)⟩,
 ⟨(some 140), (some (138, true)), .bin .eql (.t 139) (.c (.str ⟨#[50]⟩))⟩,
 ⟨(some 141), none, .pick (.t 138) (.t 140) (.c (.bool false))⟩,
 ⟨(some 142), none, .mov (.t 141)⟩,
 ⟨(some 143), (some (142, true)), .load 4 true (.t 19)⟩,
 ⟨(some 144), (some (142, true)), .callG n_gimballaw08_whole [(.t 143)]⟩,
 ⟨(some 145), (some (142, true)), .bin .eql (.t 144) (.c (.str ⟨#[53, 32, 59, 51, 32, 59, 55]⟩))⟩,
 ⟨(some 146), none, .pick (.t 142) (.t 145) (.c (.bool false))⟩,
 ⟨(some 147), none, .mov (.t 146)⟩,
 ⟨(some 148), (some (147, true)), .mov (.t 24)⟩,
 ⟨(some 149), (some (147, true)), .bin .eql (.t 148) (.c (.int .i64 1))⟩,
 ⟨(some 150), none, .pick (.t 147) (.t 149) (.c (.bool false))⟩,
 ⟨(some 0), none, .mov (.t 150)⟩]))
 .ret))))))))))))))))
def gimballaw08_awake.res : List RX := [(0, none)]
theorem gimballaw08_awake.m : mK pg Try.f4.ntmps gimballaw08_awake.k (Try.f4.body.getD .skip) = true := by kernel_rfl
theorem gimballaw08_awake.mr : mRes pg Try.f4.results.toList gimballaw08_awake.res = true := by kernel_rfl
theorem gimballaw08_awake.of {args : List V} {r : V} (hn : args.length = 0) (hW : W pg gimballaw08_awake.k (done gimballaw08_awake.res r) (start args)) : Ret pg n_gimballaw08_awake args r :=
 Ret_of (fn := Try.f4) Try.func4 rfl (by kernel_rfl) gimballaw08_awake.m gimballaw08_awake.mr (by rw [hn]; exact of_decide_eq_true (by kernel_rfl)) hW
def gimballaw08_read.k : K :=
 (.seq (.keep [0, 1, 2, 3, 8, 9] (.ops false [⟨(some 8), none, .alloc 4 (.agg [.nil, .nil, (.bool false), (.sl [])])⟩,
 ⟨(some 9), none, .alloc 4 (.agg [.nil, .nil, (.bool false), (.sl [])])⟩,
 ⟨(some 10), none, .mov (.c (.bool false))⟩]))
 (.seq (.keep [1, 2, 8, 9, 11] (.ops false [⟨(some 15), none, .mov (.t 0)⟩,
 ⟨(some 16), none, .mov (.t 3)⟩,
 ⟨(some 17), none, .callG n_gimballaw08_mirror [(.t 15), (.t 16)]⟩,
 ⟨(some 11), none, .mov (.t 17)⟩]))
 (.seq (.keep [2, 8, 9, 11, 12] (.ops false [⟨(some 18), none, .mov (.t 1)⟩,
 ⟨(some 19), none, .mov (.t 11)⟩,
 ⟨(some 20), none, .len false (.t 19)⟩,
 ⟨(some 21), none, .callG n_gimballaw08_filled [(.t 18), (.t 20)]⟩,
 ⟨(some 12), none, .mov (.t 21)⟩]))
 (.seq (.keep [2, 8, 9, 11, 12, 13, 14] (.ops false [⟨(some 23), none, .mov (.t 11)⟩,
 ⟨(some 24), none, .mov (.t 12)⟩,
 ⟨(some 25), none, .mov (.t 2)⟩,
 ⟨(some 26), none, .callG n_quad_Of [(.t 23), (.t 24), (.t 25)]⟩,
 ⟨(some 22), none, .mov (.t 26)⟩,
 ⟨(some 27), none, .ext (.t 22) 0⟩,
 ⟨(some 28), none, .ext (.t 22) 1⟩,
 ⟨(some 13), none, .alloc 4 (.agg [.nil, .nil, (.bool false), (.sl [])])⟩,
 ⟨none, none, .store 4 (.t 13) (.t 27)⟩,
 ⟨(some 14), none, .mov (.t 28)⟩]))
 (.seq (.keep [8, 9, 10] (.ops true [⟨(some 29), none, .load 4 true (.t 13)⟩,
 ⟨(some 30), none, .mov (.t 11)⟩,
 ⟨(some 31), none, .mov (.t 12)⟩,
 ⟨(some 32), none, .mov (.t 2)⟩,
 ⟨(some 33), none, .call n_gimbalref08_Of [(.t 30), (.t 31), (.t 32)]⟩,
 ⟨(some 34), none, .mov (.t 14)⟩,
 ⟨(some 35), none, .bin .eql (.t 34) (.c (.int .i64 0))⟩,
 ⟨(some 36), none, .mov (.t 35)⟩,
 ⟨(some 37), (some (36, true)), .fldA 0 1 false (.t 13)⟩,
 ⟨(some 38), (some (36, true)), .loadN 1 false (.t 37) [8, 9]⟩,
 ⟨(some 39), (some (36, true)), .len false (.t 38)⟩,
 ⟨(some 40), (some (36, true)), .mov (.t 11)⟩,
 ⟨(some 41), (some (36, true)), .len false (.t 40)⟩,
 ⟨(some 42), (some (36, true)), .bin .eql (.t 39) (.t 41)⟩,
 ⟨(some 43), none, .pick (.t 36) (.t 42) (.c (.bool false))⟩,
 ⟨(some 44), none, .mov (.t 43)⟩,
 ⟨(some 45), (some (44, true)), .fldA 1 1 false (.t 13)⟩,
 ⟨(some 46), (some (44, true)), .loadN 1 false (.t 45) [8, 9]⟩,
 ⟨(some 47), (some (44, true)), .len false (.t 46)⟩,
 ⟨(some 48), (some (44, true)), .mov (.t 11)⟩,
 ⟨(some 49), (some (44, true)), .len false (.t 48)⟩,
 ⟨(some 50), (some (44, true)), .bin .eql (.t 47) (.t 49)⟩,
 ⟨(some 51), none, .pick (.t 44) (.t 50) (.c (.bool false))⟩,
 ⟨none, none, .store 4 (.t 8) (.t 29)⟩,
 ⟨none, none, .store 4 (.t 9) (.t 33)⟩,
 ⟨(some 10), none, .mov (.t 51)⟩]))
 .ret)))))
def gimballaw08_read.res : List RX := [(8, some (4, true)), (9, some (4, true)), (10, none)]
theorem gimballaw08_read.m : mK pg Try.f5.ntmps gimballaw08_read.k (Try.f5.body.getD .skip) = true := by kernel_rfl
theorem gimballaw08_read.mr : mRes pg Try.f5.results.toList gimballaw08_read.res = true := by kernel_rfl
theorem gimballaw08_read.of {args : List V} {r : V} (hn : args.length = 4) (hW : W pg gimballaw08_read.k (done gimballaw08_read.res r) (start args)) : Ret pg n_gimballaw08_read args r :=
 Ret_of (fn := Try.f5) Try.func5 rfl (by kernel_rfl) gimballaw08_read.m gimballaw08_read.mr (by rw [hn]; exact of_decide_eq_true (by kernel_rfl)) hW
def gimballaw08_list.k : K :=
 (.seq (.keep [0, 1] (.ops false [⟨(some 4), none, .mov (.c .nil)⟩,
 ⟨(some 5), none, .mov (.c .nil)⟩]))
 (.seq (.keep [0, 1, 6] (.ops false [⟨(some 6), none, .mov (.c .nil)⟩]))
 (.seq (.keep [0, 1, 6, 7] (.ops false [⟨(some 7), none, .mov (.c .nil)⟩]))
 (.seq (.keep [1, 6, 7, 8] (.ops false [⟨(some 10), none, .mov (.t 0)⟩,
 ⟨(some 11), none, .mov (.t 1)⟩,
 ⟨(some 12), none, .callG n_gimballaw08_filled [(.t 10), (.t 11)]⟩,
 ⟨(some 8), none, .mov (.t 12)⟩]))
 (.seq (.seq (.keep [1, 6, 7, 8, 9] (.ops false [⟨(some 9), none, .mov (.c (.int .i64 0))⟩]))
 (.block 0 (.loop (.seq (.seq (.keep [1, 6, 7, 8, 9, 15] (.ops false [⟨(some 13), none, .mov (.t 9)⟩,
 ⟨(some 14), none, .mov (.t 1)⟩,
 ⟨(some 15), none, .bin .lss (.t 13) (.t 14)⟩]))
 (.cond (.t 15) .skip
 (.exit 0)))
 (.seq (.block 1 (.seq (.keep [1, 6, 7, 8, 9] (.ops false [⟨(some 18), none, .mov (.t 6)⟩,
 ⟨(some 19), none, .mov (.t 8)⟩,
 ⟨(some 20), none, .mov (.t 9)⟩,
 ⟨(some 21), none, .idxA 1 (.t 19) (.t 20)⟩,
 ⟨(some 22), none, .load 1 false (.t 21)⟩,
 ⟨(some 23), none, .callG n_long_Of [(.t 22)]⟩,
 ⟨(some 24), none, .new (.bsl 2) [(.t 23)]⟩,
 ⟨(some 25), none, .eff (.app 2 32) [(.t 18), (.t 24)]⟩,
 ⟨(some 6), none, .mov (.t 25)⟩]))
 (.keep [1, 6, 7, 8, 9] (.ops false [⟨(some 26), none, .mov (.t 7)⟩,
 ⟨(some 27), none, .mov (.t 8)⟩,
 ⟨(some 28), none, .mov (.t 9)⟩,
 ⟨(some 29), none, .idxA 1 (.t 27) (.t 28)⟩,
 ⟨(some 30), none, .load 1 false (.t 29)⟩,
 ⟨(some 31), none, .callG n_gimbalref01_Of [(.t 30)]⟩,
 ⟨(some 32), none, .new (.bsl 2) [(.t 31)]⟩,
 ⟨(some 33), none, .eff (.app 2 32) [(.t 26), (.t 32)]⟩,
 ⟨(some 7), none, .mov (.t 33)⟩]))))
 (.keep [1, 6, 7, 8, 9] (.ops false [⟨(some 16), none, .mov (.t 9)⟩,
 ⟨(some 17), none, .bin .add (.t 16) (.c (.int .i64 1))⟩,
 ⟨(some 9), none, .mov (.t 17)⟩])))))))
 (.seq (.keep [4, 5] (.ops false [⟨(some 34), none, .mov (.t 6)⟩,
 ⟨(some 35), none, .mov (.t 7)⟩,
 ⟨(some 4), none, .mov (.t 34)⟩,
 ⟨(some 5), none, .mov (.t 35)⟩]))
 .ret))))))
def gimballaw08_list.res : List RX := [(4, none), (5, none)]
theorem gimballaw08_list.m : mK pg Try.f8.ntmps gimballaw08_list.k (Try.f8.body.getD .skip) = true := by kernel_rfl
theorem gimballaw08_list.mr : mRes pg Try.f8.results.toList gimballaw08_list.res = true := by kernel_rfl
theorem gimballaw08_list.of {args : List V} {r : V} (hn : args.length = 2) (hW : W pg gimballaw08_list.k (done gimballaw08_list.res r) (start args)) : Ret pg n_gimballaw08_list args r :=
 Ret_of (fn := Try.f8) Try.func8 rfl (by kernel_rfl) gimballaw08_list.m gimballaw08_list.mr (by rw [hn]; exact of_decide_eq_true (by kernel_rfl)) hW
def gimballaw08_text.k : K :=
 (.seq (.keep [0] (.ops false [⟨(some 2), none, .mov (.c (.str ⟨#[]⟩))⟩]))
 (.seq (.keep [0, 3] (.ops false [⟨(some 3), none, .mov (.c (.str ⟨#[]⟩))⟩]))
 (.seq (.seq (.keep [0, 3, 4] (.ops false [⟨(some 4), none, .mov (.c (.int .i64 0))⟩]))
 (.block 0 (.loop (.seq (.seq (.keep [0, 3, 4, 8] (.ops false [⟨(some 5), none, .mov (.t 4)⟩,
 ⟨(some 6), none, .mov (.t 0)⟩,
 ⟨(some 7), none, .len false (.t 6)⟩,
 ⟨(some 8), none, .bin .lss (.t 5) (.t 7)⟩]))
 (.cond (.t 8) .skip
 (.exit 0)))
 (.seq (.block 1 (.keep [0, 3, 4] (.ops false [⟨(some 11), none, .mov (.t 3)⟩,
 ⟨(some 12), none, .mov (.t 0)⟩,
 ⟨(some 13), none, .mov (.t 4)⟩,
 ⟨(some 14), none, .idxA 2 (.t 12) (.t 13)⟩,
 ⟨(some 15), none, .load 2 true (.t 14)⟩,
 ⟨(some 16), none, .callG n_long_Int_String [(.t 15)]⟩,
 ⟨(some 17), none, .bin .add (.t 11) (.t 16)⟩,
 ⟨(some 18), none, .bin .add (.t 17) (.c (.str ⟨#[32]⟩))⟩,
 ⟨(some 3), none, .mov (.t 18)⟩])))
 (.keep [0, 3, 4] (.ops false [⟨(some 9), none, .mov (.t 4)⟩,
 ⟨(some 10), none, .bin .add (.t 9) (.c (.int .i64 1))⟩,
 ⟨(some 4), none, .mov (.t 10)⟩])))))))
 (.seq (.keep [2] (.ops false [⟨(some 19), none, .mov (.t 3)⟩,
 ⟨(some 2), none, .mov (.t 19)⟩]))
 .ret))))
def gimballaw08_text.res : List RX := [(2, none)]
theorem gimballaw08_text.m : mK pg Try.f18.ntmps gimballaw08_text.k (Try.f18.body.getD .skip) = true := by kernel_rfl
theorem gimballaw08_text.mr : mRes pg Try.f18.results.toList gimballaw08_text.res = true := by kernel_rfl
theorem gimballaw08_text.of {args : List V} {r : V} (hn : args.length = 1) (hW : W pg gimballaw08_text.k (done gimballaw08_text.res r) (start args)) : Ret pg n_gimballaw08_text args r :=
 Ret_of (fn := Try.f18) Try.func18 rfl (by kernel_rfl) gimballaw08_text.m gimballaw08_text.mr (by rw [hn]; exact of_decide_eq_true (by kernel_rfl)) hW
def gimballaw08_whole.k : K :=
 (.seq (.keep [1] (.ops false [⟨(some 1), none, .boxP (.t 0)⟩,
 ⟨(some 2), none, .mov (.c (.str ⟨#[]⟩))⟩]))
 (.seq (.keep [1, 3] (.ops false [⟨(some 3), none, .mov (.c (.str ⟨#[]⟩))⟩]))
 (.seq (.seq (.keep [1, 3, 4] (.ops false [⟨(some 4), none, .mov (.c (.int .i64 0))⟩]))
 (.block 0 (.loop (.seq (.seq (.keep [1, 3, 4, 9] (.ops false [⟨(some 5), none, .mov (.t 4)⟩,
 ⟨(some 6), none, .fldA 0 1 false (.t 1)⟩,
 ⟨(some 7), none, .load 1 false (.t 6)⟩,
 ⟨(some 8), none, .len false (.t 7)⟩,
 ⟨(some 9), none, .bin .lss (.t 5) (.t 8)⟩]))
 (.cond (.t 9) .skip
 (.exit 0)))
 (.seq (.block 1 (.keep [1, 3, 4] (.ops false [⟨(some 12), none, .mov (.t 3)⟩,
 ⟨(some 13), none, .fldA 0 1 false (.t 1)⟩,
 ⟨(some 14), none, .load 1 false (.t 13)⟩,
 ⟨(some 15), none, .mov (.t 4)⟩,
 ⟨(some 16), none, .idxA 1 (.t 14) (.t 15)⟩,
 ⟨(some 17), none, .load 1 false (.t 16)⟩,
 ⟨(some 18), none, .callG n_gimballaw08_text [(.t 17)]⟩,
 ⟨(some 19), none, .bin .add (.t 12) (.t 18)⟩,
 ⟨(some 20), none, .bin .add (.t 19) (.c (.str ⟨#[59]⟩))⟩,
 ⟨(some 3), none, .mov (.t 20)⟩])))
 (.keep [1, 3, 4] (.ops false [⟨(some 10), none, .mov (.t 4)⟩,
 ⟨(some 11), none, .bin .add (.t 10) (.c (.int .i64 1))⟩,
 ⟨(some 4), none, .mov (.t 11)⟩])))))))
 (.seq (.keep [2] (.ops true [⟨(some 21), none, .mov (.t 3)⟩,
 ⟨(some 22), none, .fldA 1 1 false (.t 1)⟩,
 ⟨(some 23), none, .load 1 false (.t 22)⟩,
 ⟨(some 24), none, .call n_gimballaw08_text [(.t 23)]⟩,
 ⟨(some 25), none, .bin .add (.t 21) (.t 24)⟩,
 ⟨(some 26), none, .bin .add (.t 25) (.c (.str ⟨#[59]⟩))⟩,
 ⟨(some 27), none, .fldA 2 2 true (.t 1)⟩,
 ⟨(some 28), none, .load 2 true (.t 27)⟩,
 ⟨(some 29), none, .call n_long_Int_String [(.t 28)]⟩,
 ⟨(some 30), none, .bin .add (.t 26) (.t 29)⟩,
 ⟨(some 2), none, .mov (.t 30)⟩]))
 .ret))))
def gimballaw08_whole.res : List RX := [(2, none)]
theorem gimballaw08_whole.m : mK pg Try.f19.ntmps gimballaw08_whole.k (Try.f19.body.getD .skip) = true := by kernel_rfl
theorem gimballaw08_whole.mr : mRes pg Try.f19.results.toList gimballaw08_whole.res = true := by kernel_rfl
theorem gimballaw08_whole.of {args : List V} {r : V} (hn : args.length = 1) (hW : W pg gimballaw08_whole.k (done gimballaw08_whole.res r) (start args)) : Ret pg n_gimballaw08_whole args r :=
 Ret_of (fn := Try.f19) Try.func19 rfl (by kernel_rfl) gimballaw08_whole.m gimballaw08_whole.mr (by rw [hn]; exact of_decide_eq_true (by kernel_rfl)) hW
def gimballaw08_mirror.k : K :=
 (.seq (.keep [0, 1] (.ops false [⟨(some 4), none, .mov (.c .nil)⟩]))
 (.seq (.keep [0, 5] (.ops false [⟨(some 10), none, .mov (.t 0)⟩,
 ⟨(some 11), none, .len false (.t 10)⟩,
 ⟨(some 12), none, .mov (.t 1)⟩,
 ⟨(some 13), none, .mm false (.t 11) [(.t 12)]⟩,
 ⟨(some 5), none, .mov (.t 13)⟩]))
 (.seq (.keep [0, 5, 6] (.ops false [⟨(some 6), none, .mov (.c .nil)⟩]))
 (.seq (.seq (.keep [0, 5, 6, 7] (.ops false [⟨(some 7), none, .mov (.c (.int .i64 0))⟩]))
 (.block 0 (.loop (.seq (.seq (.keep [0, 5, 6, 7, 16] (.ops false [⟨(some 14), none, .mov (.t 7)⟩,
 ⟨(some 15), none, .mov (.t 5)⟩,
 ⟨(some 16), none, .bin .lss (.t 14) (.t 15)⟩]))
 (.cond (.t 16) .skip
 (.exit 0)))
 (.seq (.block 1 (.gh (.keep [0, 5, 6, 7] (.ops false [⟨(some 19), none, .mov (.t 6)⟩,
 ⟨(some 20), none, .mov (.t 5)⟩,
 ⟨(some 21), none, .new (.mks 1 8 (.int .i64 0)) [(.t 20), (.t 20)]⟩,
 ⟨(some 22), none, .new (.bsl 1) [(.t 21)]⟩,
 ⟨(some 23), none, .eff (.app 1 24) [(.t 19), (.t 22)]⟩,
 ⟨(some 6), none, .mov (.t 23)⟩]))))
 (.keep [0, 5, 6, 7] (.ops false [⟨(some 17), none, .mov (.t 7)⟩,
 ⟨(some 18), none, .bin .add (.t 17) (.c (.int .i64 1))⟩,
 ⟨(some 7), none, .mov (.t 18)⟩])))))))
 (.seq (.seq (.keep [0, 5, 6, 8] (.ops false [⟨(some 8), none, .mov (.c (.int .i64 0))⟩]))
 (.block 2 (.loop (.seq (.seq (.keep [0, 5, 6, 8, 26] (.ops false [⟨(some 24), none, .mov (.t 8)⟩,
 ⟨(some 25), none, .mov (.t 5)⟩,
 ⟨(some 26), none, .bin .lss (.t 24) (.t 25)⟩]))
 (.cond (.t 26) .skip
 (.exit 2)))
 (.seq (.block 3 (.seq (.keep [0, 5, 6, 8, 9] (.ops false [⟨(some 9), none, .mov (.c (.int .i64 0))⟩]))
 (.block 4 (.loop (.seq (.seq (.keep [0, 5, 6, 8, 9, 40] (.ops false [⟨(some 29), none, .mov (.t 9)⟩,
 ⟨(some 30), none, .mov (.t 8)⟩,
 ⟨(some 31), none, .bin .leq (.t 29) (.t 30)⟩,
 ⟨(some 32), none, .mov (.t 31)⟩,
 ⟨(some 33), (some (32, true)), .mov (.t 9)⟩,
 ⟨(some 34), (some (32, true)), .mov (.t 0)⟩,
 ⟨(some 35), (some (32, true)), .mov (.t 8)⟩,
 ⟨(some 36), (some (32, true)), .idxA 1 (.t 34) (.t 35)⟩,
 ⟨(some 37), (some (32, true)), .load 1 false (.t 36)⟩,
 ⟨(some 38), (some (32, true)), .len false (.t 37)⟩,
 ⟨(some 39), (some (32, true)), .bin .lss (.t 33) (.t 38)⟩,
 ⟨(some 40), none, .pick (.t 32) (.t 39) (.c (.bool false))⟩]))
 (.cond (.t 40) .skip
 (.exit 4)))
 (.seq (.block 5 (.seq (.keep [0, 5, 6, 8, 9] (.ops true [⟨(some 43), none, .mov (.t 6)⟩,
 ⟨(some 44), none, .mov (.t 8)⟩,
 ⟨(some 45), none, .idxA 1 (.t 43) (.t 44)⟩,
 ⟨(some 46), none, .load 1 false (.t 45)⟩,
 ⟨(some 47), none, .mov (.t 9)⟩,
 ⟨(some 48), none, .mov (.t 0)⟩,
 ⟨(some 49), none, .mov (.t 8)⟩,
 ⟨(some 50), none, .idxA 1 (.t 48) (.t 49)⟩,
 ⟨(some 51), none, .load 1 false (.t 50)⟩,
 ⟨(some 52), none, .mov (.t 9)⟩,
 ⟨(some 53), none, .idxA 1 (.t 51) (.t 52)⟩,
 ⟨(some 54), none, .load 1 false (.t 53)⟩,
 ⟨(some 55), none, .idxA 1 (.t 46) (.t 47)⟩,
 ⟨none, none, .store 1 (.t 55) (.t 54)⟩]))
 (.keep [0, 5, 6, 8, 9] (.ops true [⟨(some 56), none, .mov (.t 6)⟩,
 ⟨(some 57), none, .mov (.t 9)⟩,
 ⟨(some 58), none, .idxA 1 (.t 56) (.t 57)⟩,
 ⟨(some 59), none, .load 1 false (.t 58)⟩,
 ⟨(some 60), none, .mov (.t 8)⟩,
 ⟨(some 61), none, .mov (.t 0)⟩,
 ⟨(some 62), none, .mov (.t 8)⟩,
 ⟨(some 63), none, .idxA 1 (.t 61) (.t 62)⟩,
 ⟨(some 64), none, .load 1 false (.t 63)⟩,
 ⟨(some 65), none, .mov (.t 9)⟩,
 ⟨(some 66), none, .idxA 1 (.t 64) (.t 65)⟩,
 ⟨(some 67), none, .load 1 false (.t 66)⟩,
 ⟨(some 68), none, .idxA 1 (.t 59) (.t 60)⟩,
 ⟨none, none, .store 1 (.t 68) (.t 67)⟩]))))
 (.keep [0, 5, 6, 8, 9] (.ops false [⟨(some 41), none, .mov (.t 9)⟩,
 ⟨(some 42), none, .bin .add (.t 41) (.c (.int .i64 1))⟩,
 ⟨(some 9), none, .mov (.t 42)⟩]))))))))
 (.keep [0, 5, 6, 8] (.ops false [⟨(some 27), none, .mov (.t 8)⟩,
 ⟨(some 28), none, .bin .add (.t 27) (.c (.int .i64 1))⟩,
 ⟨(some 8), none, .mov (.t 28)⟩])))))))
 (.seq (.keep [4] (.ops false [⟨(some 69), none, .mov (.t 6)⟩,
 ⟨(some 4), none, .mov (.t 69)⟩]))
 .ret))))))
def gimballaw08_mirror.res : List RX := [(4, none)]
theorem gimballaw08_mirror.m : mK pg Try.f20.ntmps gimballaw08_mirror.k (Try.f20.body.getD .skip) = true := by kernel_rfl
theorem gimballaw08_mirror.mr : mRes pg Try.f20.results.toList gimballaw08_mirror.res = true := by kernel_rfl
theorem gimballaw08_mirror.of {args : List V} {r : V} (hn : args.length = 2) (hW : W pg gimballaw08_mirror.k (done gimballaw08_mirror.res r) (start args)) : Ret pg n_gimballaw08_mirror args r :=
 Ret_of (fn := Try.f20) Try.func20 rfl (by kernel_rfl) gimballaw08_mirror.m gimballaw08_mirror.mr (by rw [hn]; exact of_decide_eq_true (by kernel_rfl)) hW
def gimballaw08_filled.k : K :=
 (.seq (.keep [0, 1] (.ops false [⟨(some 4), none, .mov (.c .nil)⟩]))
 (.seq (.keep [0, 5] (.ops false [⟨(some 6), none, .mov (.t 1)⟩,
 ⟨(some 7), none, .new (.mks 1 8 (.int .i64 0)) [(.t 6), (.t 6)]⟩,
 ⟨(some 5), none, .mov (.t 7)⟩]))
 (.seq (.keep [5] (.ops false [⟨(some 8), none, .mov (.t 5)⟩,
 ⟨(some 9), none, .mov (.t 0)⟩,
 ⟨(some 10), none, .eff (.cpy 1) [(.t 8), (.t 9)]⟩]))
 (.seq (.keep [4] (.ops false [⟨(some 11), none, .mov (.t 5)⟩,
 ⟨(some 4), none, .mov (.t 11)⟩]))
 .ret))))
def gimballaw08_filled.res : List RX := [(4, none)]
theorem gimballaw08_filled.m : mK pg Try.f21.ntmps gimballaw08_filled.k (Try.f21.body.getD .skip) = true := by kernel_rfl
theorem gimballaw08_filled.mr : mRes pg Try.f21.results.toList gimballaw08_filled.res = true := by kernel_rfl
theorem gimballaw08_filled.of {args : List V} {r : V} (hn : args.length = 2) (hW : W pg gimballaw08_filled.k (done gimballaw08_filled.res r) (start args)) : Ret pg n_gimballaw08_filled args r :=
 Ret_of (fn := Try.f21) Try.func21 rfl (by kernel_rfl) gimballaw08_filled.m gimballaw08_filled.mr (by rw [hn]; exact of_decide_eq_true (by kernel_rfl)) hW
end Go.Gim

import Derived.Test.YtmfenpedpajfkaaGN
/- Functions' code as data (written by wip/tools/gen.py), and the step to their contracts. -/
set_option maxRecDepth 100000
namespace Go.Gim
open Go.Proofs
def gimballaw08_QuadMakes.k : K :=
 (.seq (.keep [0, 1, 2] (.ops false [⟨(some 6), none, .mov (.c (.bool false))⟩]))
 (.seq (.keep [0, 1, 2, 7] (.ops false [⟨(some 14), none, .callG n_gimballaw08_awake []⟩,
 ⟨(some 7), none, .mov (.t 14)⟩]))
 (.seq (.keep [0, 1, 2, 7, 8, 9] (.ops false [⟨(some 16), none, .mov (.t 0)⟩,
 ⟨(some 17), none, .mov (.t 1)⟩,
 ⟨(some 18), none, .mov (.t 2)⟩,
 ⟨(some 19), none, .callG n_quad_Of [(.t 16), (.t 17), (.t 18)]⟩,
 ⟨(some 15), none, .mov (.t 19)⟩,
 ⟨(some 20), none, .ext (.t 15) 0⟩,
 ⟨(some 21), none, .ext (.t 15) 1⟩,
 ⟨(some 8), none, .alloc 4 (.agg [.nil, .nil, (.bool false), (.sl [])])⟩,
 ⟨none, none, .store 4 (.t 8) (.t 20)⟩,
 ⟨(some 9), none, .mov (.t 21)⟩]))
 (.seq (.seq (.keep [0, 1, 2, 7, 8, 9, 24] (.ops false [⟨(some 22), none, .mov (.t 0)⟩,
 ⟨(some 23), none, .len false (.t 22)⟩,
 ⟨(some 24), none, .bin .gtr (.t 23) (.c (.int .i64 12))⟩]))
 (.cond (.t 24) (.seq (.keep [6] (.ops false [⟨(some 25), none, .mov (.t 7)⟩,
 ⟨(some 26), none, .mov (.t 25)⟩,
 ⟨(some 27), (some (26, true)), .mov (.t 9)⟩,
 ⟨(some 28), (some (26, true)), .bin .eql (.t 27) (.c (.int .i64 2))⟩,
 ⟨(some 29), none, .pick (.t 26) (.t 28) (.c (.bool false))⟩,
 ⟨(some 30), none, .mov (.t 29)⟩,
 ⟨(some 31), (some (30, true)), .fldA 0 1 false (.t 8)⟩,
 ⟨(some 32), (some (30, true)), .load 1 false (.t 31)⟩,
 ⟨(some 33), (some (30, true)), .len false (.t 32)⟩,
 ⟨(some 34), (some (30, true)), .bin .eql (.t 33) (.c (.int .i64 0))⟩,
 ⟨(some 35), none, .pick (.t 30) (.t 34) (.c (.bool false))⟩,
 ⟨(some 6), none, .mov (.t 35)⟩]))
 .ret)
 .skip))
 (.seq (.keep [0, 1, 2, 7, 8, 9, 10] (.ops false [⟨(some 36), none, .mov (.t 1)⟩,
 ⟨(some 37), none, .len false (.t 36)⟩,
 ⟨(some 38), none, .mov (.t 0)⟩,
 ⟨(some 39), none, .len false (.t 38)⟩,
 ⟨(some 40), none, .bin .eql (.t 37) (.t 39)⟩,
 ⟨(some 10), none, .mov (.t 40)⟩]))
 (.seq (.seq (.keep [0, 1, 2, 7, 8, 9, 10, 11] (.ops false [⟨(some 11), none, .mov (.c (.int .i64 0))⟩]))
 (.block 0 (.loop (.seq (.seq (.keep [0, 1, 2, 7, 8, 9, 10, 11, 44] (.ops false [⟨(some 41), none, .mov (.t 11)⟩,
 ⟨(some 42), none, .mov (.t 0)⟩,
 ⟨(some 43), none, .len false (.t 42)⟩,
 ⟨(some 44), none, .bin .lss (.t 41) (.t 43)⟩]))
 (.cond (.t 44) .skip
 (.exit 0)))
 (.seq (.block 1 (.keep [0, 1, 2, 7, 8, 9, 10, 11] (.ops false [⟨(some 47), none, .mov (.t 10)⟩,
 ⟨(some 48), none, .mov (.t 47)⟩,
 ⟨(some 49), (some (48, true)), .mov (.t 0)⟩,
 ⟨(some 50), (some (48, true)), .mov (.t 11)⟩,
 ⟨(some 51), (some (48, true)), .idxA 1 (.t 49) (.t 50)⟩,
 ⟨(some 52), (some (48, true)), .load 1 false (.t 51)⟩,
 ⟨(some 53), (some (48, true)), .len false (.t 52)⟩,
 ⟨(some 54), (some (48, true)), .mov (.t 0)⟩,
 ⟨(some 55), (some (48, true)), .len false (.t 54)⟩,
 ⟨(some 56), (some (48, true)), .bin .eql (.t 53) (.t 55)⟩,
 ⟨(some 57), none, .pick (.t 48) (.t 56) (.c (.bool false))⟩,
 ⟨(some 10), none, .mov (.t 57)⟩])))
 (.keep [0, 1, 2, 7, 8, 9, 10, 11] (.ops false [⟨(some 45), none, .mov (.t 11)⟩,
 ⟨(some 46), none, .bin .add (.t 45) (.c (.int .i64 1))⟩,
 ⟨(some 11), none, .mov (.t 46)⟩])))))))
 (.seq (.seq (.keep [0, 1, 2, 7, 8, 9, 10, 12] (.ops false [⟨(some 12), none, .mov (.c (.int .i64 0))⟩]))
 (.block 2 (.loop (.seq (.seq (.keep [0, 1, 2, 7, 8, 9, 10, 12, 64] (.ops false [⟨(some 58), none, .mov (.t 10)⟩,
 ⟨(some 59), none, .mov (.t 58)⟩,
 ⟨(some 60), (some (59, true)), .mov (.t 12)⟩,
 ⟨(some 61), (some (59, true)), .mov (.t 0)⟩,
 ⟨(some 62), (some (59, true)), .len false (.t 61)⟩,
 ⟨(some 63), (some (59, true)), .bin .lss (.t 60) (.t 62)⟩,
 ⟨(some 64), none, .pick (.t 59) (.t 63) (.c (.bool false))⟩]))
 (.cond (.t 64) .skip
 (.exit 2)))
 (.seq (.block 3 (.seq (.keep [0, 1, 2, 7, 8, 9, 10, 12, 13] (.ops false [⟨(some 13), none, .mov (.c (.int .i64 0))⟩]))
 (.block 4 (.loop (.seq (.seq (.keep [0, 1, 2, 7, 8, 9, 10, 12, 13, 69] (.ops false [⟨(some 67), none, .mov (.t 13)⟩,
 ⟨(some 68), none, .mov (.t 12)⟩,
 ⟨(some 69), none, .bin .lss (.t 67) (.t 68)⟩]))
 (.cond (.t 69) .skip
 (.exit 4)))
 (.seq (.block 5 (.keep [0, 1, 2, 7, 8, 9, 10, 12, 13] (.ops true [⟨(some 72), none, .mov (.t 10)⟩,
 ⟨(some 73), none, .mov (.t 72)⟩,
 ⟨(some 74), (some (73, true)), .mov (.t 0)⟩,
 ⟨(some 75), (some (73, true)), .mov (.t 12)⟩,
 ⟨(some 76), (some (73, true)), .idxA 1 (.t 74) (.t 75)⟩,
 ⟨(some 77), (some (73, true)), .load 1 false (.t 76)⟩,
 ⟨(some 78), (some (73, true)), .mov (.t 13)⟩,
 ⟨(some 79), (some (73, true)), .idxA 1 (.t 77) (.t 78)⟩,
 ⟨(some 80), (some (73, true)), .load 1 false (.t 79)⟩,
 ⟨(some 81), (some (73, true)), .mov (.t 0)⟩,
 ⟨(some 82), (some (73, true)), .mov (.t 13)⟩,
 ⟨(some 83), (some (73, true)), .idxA 1 (.t 81) (.t 82)⟩,
 ⟨(some 84), (some (73, true)), .load 1 false (.t 83)⟩,
 ⟨(some 85), (some (73, true)), .mov (.t 12)⟩,
 ⟨(some 86), (some (73, true)), .idxA 1 (.t 84) (.t 85)⟩,
 ⟨(some 87), (some (73, true)), .load 1 false (.t 86)⟩,
 ⟨(some 88), (some (73, true)), .bin .eql (.t 80) (.t 87)⟩,
 ⟨(some 89), none, .pick (.t 73) (.t 88) (.c (.bool false))⟩,
 ⟨(some 10), none, .mov (.t 89)⟩])))
 (.keep [0, 1, 2, 7, 8, 9, 10, 12, 13] (.ops false [⟨(some 70), none, .mov (.t 13)⟩,
 ⟨(some 71), none, .bin .add (.t 70) (.c (.int .i64 1))⟩,
 ⟨(some 13), none, .mov (.t 71)⟩]))))))))
 (.keep [0, 1, 2, 7, 8, 9, 10, 12] (.ops false [⟨(some 65), none, .mov (.t 12)⟩,
 ⟨(some 66), none, .bin .add (.t 65) (.c (.int .i64 1))⟩,
 ⟨(some 12), none, .mov (.t 66)⟩])))))))
 (.seq (.seq (.keep [0, 1, 2, 7, 8, 9, 91] (.ops false [⟨(some 90), none, .mov (.t 10)⟩,
 ⟨(some 91), none, .un .not (.t 90)⟩]))
 (.cond (.t 91) (.seq (.keep [6] (.ops false [⟨(some 92), none, .mov (.t 7)⟩,
 ⟨(some 93), none, .mov (.t 92)⟩,
 ⟨(some 94), (some (93, true)), .mov (.t 9)⟩,
 ⟨(some 95), (some (93, true)), .bin .eql (.t 94) (.c (.int .i64 1))⟩,
 ⟨(some 96), none, .pick (.t 93) (.t 95) (.c (.bool false))⟩,
 ⟨(some 97), none, .mov (.t 96)⟩,
 ⟨(some 98), (some (97, true)), .fldA 0 1 false (.t 8)⟩,
 ⟨(some 99), (some (97, true)), .load 1 false (.t 98)⟩,
 ⟨(some 100), (some (97, true)), .len false (.t 99)⟩,
 ⟨(some 101), (some (97, true)), .bin .eql (.t 100) (.c (.int .i64 0))⟩,
 ⟨(some 102), none, .pick (.t 97) (.t 101) (.c (.bool false))⟩,
 ⟨(some 103), none, .mov (.t 102)⟩,
 ⟨(some 104), (some (103, true)), .fldA 1 1 false (.t 8)⟩,
 ⟨(some 105), (some (103, true)), .load 1 false (.t 104)⟩,
 ⟨(some 106), (some (103, true)), .len false (.t 105)⟩,
 ⟨(some 107), (some (103, true)), .bin .eql (.t 106) (.c (.int .i64 0))⟩,
 ⟨(some 108), none, .pick (.t 103) (.t 107) (.c (.bool false))⟩,
 ⟨(some 6), none, .mov (.t 108)⟩]))
 .ret)
 .skip))
 (.seq (.keep [6] (.ops false [⟨(some 109), none, .mov (.t 7)⟩,
 ⟨(some 110), none, .mov (.t 109)⟩,
 ⟨(some 111), (some (110, true)), .mov (.t 9)⟩,
 ⟨(some 112), (some (110, true)), .bin .eql (.t 111) (.c (.int .i64 0))⟩,
 ⟨(some 113), none, .pick (.t 110) (.t 112) (.c (.bool false))⟩,
 ⟨(some 114), none, .mov (.t 113)⟩,
 ⟨(some 115), (some (114, true)), .load 4 true (.t 8)⟩,
 ⟨(some 116), (some (114, true)), .callG n_gimballaw08_whole [(.t 115)]⟩,
 ⟨(some 117), (some (114, true)), .mov (.t 0)⟩,
 ⟨(some 118), (some (114, true)), .mov (.t 1)⟩,
 ⟨(some 119), (some (114, true)), .mov (.t 2)⟩,
 ⟨(some 120), (some (114, true)), .callG n_gimbalref08_Of [(.t 117), (.t 118), (.t 119)]⟩,
 ⟨(some 121), (some (114, true)), .callG n_gimballaw08_wholes [(.t 120)]⟩,
 ⟨(some 122), (some (114, true)), .bin .eql (.t 116) (.t 121)⟩,
 ⟨(some 123), none, .pick (.t 114) (.t 122) (.c (.bool false))⟩,
 ⟨(some 6), none, .mov (.t 123)⟩]))
 .ret)))))))))
def gimballaw08_QuadMakes.res : List RX := [(6, none)]
theorem gimballaw08_QuadMakes.m : mK pg Try.f10.ntmps gimballaw08_QuadMakes.k (Try.f10.body.getD .skip) = true := by kernel_rfl
theorem gimballaw08_QuadMakes.mr : mRes pg Try.f10.results.toList gimballaw08_QuadMakes.res = true := by kernel_rfl
theorem gimballaw08_QuadMakes.of {args : List V} {r : V} (hn : args.length = 3) (hW : W pg gimballaw08_QuadMakes.k (done gimballaw08_QuadMakes.res r) (start args)) : Ret pg n_gimballaw08_QuadMakes args r :=
 Ret_of (fn := Try.f10) Try.func10 rfl (by kernel_rfl) gimballaw08_QuadMakes.m gimballaw08_QuadMakes.mr (by rw [hn]; exact of_decide_eq_true (by kernel_rfl)) hW
def gimballaw08_awake.k : K :=
 (.seq (.keep [] (.ops false [⟨(some 0), none, .mov (.c (.bool false))⟩]))
 (.seq (.keep [1, 2] (.ops false [⟨(some 26), none, .new (.bsl 1) [(.c (.int .i64 2)), (.c (.int .i64 1))]⟩,
 ⟨(some 27), none, .new (.bsl 1) [(.c (.int .i64 1)), (.c (.int .i64 3))]⟩,
 ⟨(some 28), none, .new (.bsl 1) [(.t 26), (.t 27)]⟩,
 ⟨(some 29), none, .new (.bsl 1) [(.c (.int .i64 1)), (.c (.int .i64 2))]⟩,
 ⟨(some 30), none, .callG n_quad_Of [(.t 28), (.t 29), (.c (.int .i64 4))]⟩,
 ⟨(some 25), none, .mov (.t 30)⟩,
 ⟨(some 31), none, .ext (.t 25) 0⟩,
 ⟨(some 32), none, .ext (.t 25) 1⟩,
 ⟨(some 1), none, .alloc 4 (.agg [.nil, .nil, (.bool false), (.sl [])])⟩,
 ⟨none, none, .store 4 (.t 1) (.t 31)⟩,
 ⟨(some 2), none, .mov (.t 32)⟩]))
 (.seq (.seq (.keep [1, 46] (.ops false [⟨(some 33), none, .mov (.t 2)⟩,
 ⟨(some 34), none, .bin .neq (.t 33) (.c (.int .i64 0))⟩,
 ⟨(some 35), none, .mov (.t 34)⟩,
 ⟨(some 36), (some (35, false)), .fldA 0 1 false (.t 1)⟩,
 ⟨(some 37), (some (35, false)), .load 1 false (.t 36)⟩,
 ⟨(some 38), (some (35, false)), .len false (.t 37)⟩,
 ⟨(some 39), (some (35, false)), .bin .neq (.t 38) (.c (.int .i64 2))⟩,
 ⟨(some 40), none, .pick (.t 35) (.c (.bool true)) (.t 39)⟩,
 ⟨(some 41), none, .mov (.t 40)⟩,
 ⟨(some 42), (some (41, false)), .fldA 1 1 false (.t 1)⟩,
 ⟨(some 43), (some (41, false)), .load 1 false (.t 42)⟩,
 ⟨(some 44), (some (41, false)), .len false (.t 43)⟩,
 ⟨(some 45), (some (41, false)), .bin .neq (.t 44) (.c (.int .i64 2))⟩,
 ⟨(some 46), none, .pick (.t 41) (.c (.bool true)) (.t 45)⟩]))
 (.cond (.t 46) (.seq (.keep [0] (.ops false [⟨(some 0), none, .mov (.c (.bool false))⟩]))
 .ret)
 .skip))
 (.seq (.keep [1, 3] (.ops false [⟨(some 48), none, .new (.bsl 1) [(.c (.int .i64 1)), (.c (.int .i64 1))]⟩,
 ⟨(some 49), none, .callG n_gimballaw08_list [(.t 48), (.c (.int .i64 2))]⟩,
 ⟨(some 47), none, .mov (.t 49)⟩,
 ⟨(some 50), none, .ext (.t 47) 0⟩,
 ⟨(some 51), none, .ext (.t 47) 1⟩,
 ⟨(some 3), none, .mov (.t 50)⟩,
 ⟨(some 4), none, .mov (.t 51)⟩]))
 (.seq (.keep [1, 3, 5] (.ops false [⟨(some 53), none, .callG n_gimballaw08_list [(.c .nil), (.c (.int .i64 2))]⟩,
 ⟨(some 52), none, .mov (.t 53)⟩,
 ⟨(some 54), none, .ext (.t 52) 0⟩,
 ⟨(some 55), none, .ext (.t 52) 1⟩,
 ⟨(some 5), none, .mov (.t 54)⟩,
 ⟨(some 6), none, .mov (.t 55)⟩]))
 (.seq (.keep [1, 3, 5, 7] (.ops false [⟨(some 57), none, .new (.bsl 1) [(.c (.int .i64 1))]⟩,
 ⟨(some 58), none, .callG n_gimballaw08_list [(.t 57), (.c (.int .i64 1))]⟩,
 ⟨(some 56), none, .mov (.t 58)⟩,
 ⟨(some 59), none, .ext (.t 56) 0⟩,
 ⟨(some 60), none, .ext (.t 56) 1⟩,
 ⟨(some 7), none, .mov (.t 59)⟩,
 ⟨(some 8), none, .mov (.t 60)⟩]))
 (.seq (.keep [1, 5, 7, 9] (.ops false [⟨(some 61), none, .load 4 true (.t 1)⟩,
 ⟨(some 62), none, .mov (.t 3)⟩,
 ⟨(some 63), none, .callG n_quad_Quad_Value [(.t 61), (.t 62)]⟩,
 ⟨(some 64), none, .callG n_long_Int_String [(.t 63)]⟩,
 ⟨(some 9), none, .mov (.t 64)⟩]))
 (.seq (.keep [1, 7, 9, 10] (.ops false [⟨(some 65), none, .load 4 true (.t 1)⟩,
 ⟨(some 66), none, .mov (.t 5)⟩,
 ⟨(some 67), none, .callG n_quad_Quad_Slope [(.t 65), (.t 66)]⟩,
 ⟨(some 10), none, .mov (.t 67)⟩]))
 (.seq (.keep [1, 7, 9, 10, 11, 12, 13, 14] (.ops false [⟨(some 69), none, .load 4 true (.t 1)⟩,
 ⟨(some 70), none, .callG n_quad_Quad_Least [(.t 69)]⟩,
 ⟨(some 68), none, .mov (.t 70)⟩,
 ⟨(some 71), none, .ext (.t 68) 0⟩,
 ⟨(some 72), none, .ext (.t 68) 1⟩,
 ⟨(some 73), none, .ext (.t 68) 2⟩,
 ⟨(some 74), none, .ext (.t 68) 3⟩,
 ⟨(some 12), none, .alloc 2 (.agg [(.bool false), (.sl [])])⟩,
 ⟨(some 13), none, .alloc 2 (.agg [(.bool false), (.sl [])])⟩,
 ⟨(some 11), none, .mov (.t 71)⟩,
 ⟨none, none, .store 2 (.t 12) (.t 72)⟩,
 ⟨none, none, .store 2 (.t 13) (.t 73)⟩,
 ⟨(some 14), none, .mov (.t 74)⟩]))
 (.seq (.keep [1, 7, 9, 10, 11, 13, 14, 15] (.ops false [⟨(some 75), none, .load 2 true (.t 12)⟩,
 ⟨(some 76), none, .callG n_long_Int_String [(.t 75)]⟩,
 ⟨(some 15), none, .mov (.t 76)⟩]))
 (.seq (.keep [1, 7, 9, 10, 11, 14, 15, 16] (.ops false [⟨(some 77), none, .load 2 true (.t 13)⟩,
 ⟨(some 78), none, .callG n_long_Int_String [(.t 77)]⟩,
 ⟨(some 16), none, .mov (.t 78)⟩]))
 (.seq (.keep [1, 9, 10, 11, 14, 15, 16, 17, 18] (.ops false [⟨(some 80), none, .load 4 true (.t 1)⟩,
 ⟨(some 81), none, .mov (.t 7)⟩,
 ⟨(some 82), none, .callG n_quad_Quad_With [(.t 80), (.t 81)]⟩,
 ⟨(some 79), none, .mov (.t 82)⟩,
 ⟨(some 83), none, .ext (.t 79) 0⟩,
 ⟨(some 84), none, .ext (.t 79) 1⟩,
 ⟨(some 17), none, .alloc 4 (.agg [.nil, .nil, (.bool false), (.sl [])])⟩,
 ⟨none, none, .store 4 (.t 17) (.t 83)⟩,
 ⟨(some 18), none, .mov (.t 84)⟩]))
 (.seq (.keep [9, 10, 11, 14, 15, 16, 17, 18, 19, 20, 21] (.ops false [⟨(some 86), none, .load 4 true (.t 1)⟩,
 ⟨(some 87), none, .callG n_quad_Quad_Without [(.t 86), (.c (.int .i64 1))]⟩,
 ⟨(some 85), none, .mov (.t 87)⟩,
 ⟨(some 88), none, .ext (.t 85) 0⟩,
 ⟨(some 89), none, .ext (.t 85) 1⟩,
 ⟨(some 90), none, .ext (.t 85) 2⟩,
 ⟨(some 19), none, .alloc 4 (.agg [.nil, .nil, (.bool false), (.sl [])])⟩,
 ⟨(some 20), none, .alloc 2 (.agg [(.bool false), (.sl [])])⟩,
 ⟨none, none, .store 4 (.t 19) (.t 88)⟩,
 ⟨none, none, .store 2 (.t 20) (.t 89)⟩,
 ⟨(some 21), none, .mov (.t 90)⟩]))
 (.seq (.keep [9, 10, 11, 14, 15, 16, 17, 18, 19, 21, 22] (.ops false [⟨(some 91), none, .load 2 true (.t 20)⟩,
 ⟨(some 92), none, .callG n_long_Int_String [(.t 91)]⟩,
 ⟨(some 22), none, .mov (.t 92)⟩]))
 (.seq (.keep [9, 10, 11, 14, 15, 16, 17, 18, 19, 21, 22, 24] (.ops false [⟨(some 94), none, .new (.bsl 1) [(.c (.int .i64 1)), (.c (.int .i64 2))]⟩,
 ⟨(some 95), none, .new (.bsl 1) [(.c (.int .i64 3)), (.c (.int .i64 1))]⟩,
 ⟨(some 96), none, .new (.bsl 1) [(.t 94), (.t 95)]⟩,
 ⟨(some 97), none, .new (.bsl 1) [(.c (.int .i64 1)), (.c (.int .i64 2))]⟩,
 ⟨(some 98), none, .callG n_quad_Of [(.t 96), (.t 97), (.c (.int .i64 4))]⟩,
 ⟨(some 93), none, .mov (.t 98)⟩,
 ⟨(some 99), none, .ext (.t 93) 0⟩,
 ⟨(some 100), none, .ext (.t 93) 1⟩,
 ⟨(some 23), none, .alloc 4 (.agg [.nil, .nil, (.bool false), (.sl [])])⟩,
 ⟨none, none, .store 4 (.t 23) (.t 99)⟩,
 ⟨(some 24), none, .mov (.t 100)⟩]))
 (.seq (.keep [0] (.ops false [⟨(some 101), none, .mov (.t 9)⟩,
 ⟨(some 102), none, .bin .eql (.t 101) (.c (.str ⟨#[53]⟩))⟩,
 ⟨(some 103), none, .mov (.t 102)⟩,
 ⟨(some 104), (some (103, true)), .mov (.t 10)⟩,
 ⟨(some 105), (some (103, true)), .callG n_gimballaw08_text [(.t 104)]⟩,
 ⟨(some 106), (some (103, true)), .bin .eql (.t 105) (.c (.str ⟨#[45, 49, 32, 45, 50, 32]⟩))⟩,
 ⟨(some 107), none, .pick (.t 103) (.t 106) (.c (.bool false))⟩,
 ⟨(some 108), none, .mov (.t 107)⟩,
 ⟨(some 109), (some (108, true)), .mov (.t 11)⟩,
 ⟨(some 110), (some (108, true)), .callG n_gimballaw08_text [(.t 109)]⟩,
 ⟨(some 111), (some (108, true)), .bin .eql (.t 110) (.c (.str ⟨#[49, 32, 51, 32]⟩))⟩,
 ⟨(some 112), none, .pick (.t 108) (.t 111) (.c (.bool false))⟩,
 ⟨(some 113), none, .mov (.t 112)⟩,
 ⟨(some 114), (some (113, true)), .mov (.t 15)⟩,
 ⟨(some 115), (some (113, true)), .bin .eql (.t 114) (.c (.str ⟨#[53]⟩))⟩,
 ⟨(some 116), none, .pick (.t 113) (.t 115) (.c (.bool false))⟩,
 ⟨(some 117), none, .mov (.t 116)⟩,
 ⟨(some 118), (some (117, true)), .mov (.t 16)⟩,
 ⟨(some 119), (some (117, true)), .bin .eql (.t 118) (.c (.str ⟨#[49, 51]⟩))⟩,
 ⟨(some 120), none, .pick (.t 117) (.t 119) (.c (.bool false))⟩,
 ⟨(some 121), none, .mov (.t 120)⟩,
 ⟨(some 122), (some (121, true)), .mov (.t 14)⟩,
 ⟨(some 123), (some (121, true)), .bin .eql (.t 122) (.c (.int .i64 0))⟩,
 ⟨(some 124), none, .pick (.t 121) (.t 123) (.c (.bool false))⟩,
 ⟨(some 125), none, .mov (.t 124)⟩,
 ⟨(some 126), (some (125, true)), .mov (.t 18)⟩,
 ⟨(some 127), (some (125, true)), .bin .eql (.t 126) (.c (.int .i64 0))⟩,
 ⟨(some 128), none, .pick (.t 125) (.t 127) (.c (.bool false))⟩,
 ⟨(some 129), none, .mov (.t 128)⟩,
 ⟨(some 130), (some (129, true)), .load 4 true (.t 17)⟩,
 ⟨(some 131), (some (129, true)), .callG n_gimballaw08_whole [(.t 130)]⟩,
 ⟨(some 132), (some (129, true)), .bin .eql (.t 131) (.c (.str ⟨#[50, 32, 59, 48, 32, 59, 51]⟩))⟩,
 ⟨(some 133), none, .pick (.t 129) (.t 132) (.c (.bool false))⟩,
 ⟨(some 134), none, .mov (.t 133)⟩,
 ⟨(some 135), (some (134, true)), .mov (.t 21)⟩,
 ⟨(some 136), (some (134, true)), .bin .eql (.t 135) (.c (.int .i64 0))⟩,
 ⟨(some 137), none, .pick (.t 134) (.t 136) (.c (.bool false))⟩,
 ⟨(some 138), none, .mov (.t 137)⟩,
 ⟨(some 139), (some (138, true)), .mov (.t 22)⟩,
 ⟨(some 140), (some (138, true)), .bin .eql (.t 139) (.c (.str ⟨#[50]⟩))⟩,
 ⟨(some 141), none, .pick (.t 138) (.t 140) (.c (.bool false))⟩,
 ⟨(some 142), none, .mov (.t 141)⟩,
 ⟨(some 143), (some (142, true)), .load 4 true (.t 19)⟩,
 ⟨(some 144), (some (142, true)), .callG n_gimballaw08_whole [(.t 143)]⟩,
 ⟨(some 145), (some (142, true)), .bin .eql (.t 144) (.c (.str ⟨#[53, 32, 59, 51, 32, 59, 55]⟩))⟩,
 ⟨(some 146), none, .pick (.t 142) (.t 145) (.c (.bool false))⟩,
 ⟨(some 147), none, .mov (.t 146)⟩,
 ⟨(some 148), (some (147, true)), .mov (.t 24)⟩,
 ⟨(some 149), (some (147, true)), .bin .eql (.t 148) (.c (.int .i64 1))⟩,
 ⟨(some 150), none, .pick (.t 147) (.t 149) (.c (.bool false))⟩,
 ⟨(some 0), none, .mov (.t 150)⟩]))
 .ret))))))))))))))))
def gimballaw08_awake.res : List RX := [(0, none)]
theorem gimballaw08_awake.m : mK pg Try.f50.ntmps gimballaw08_awake.k (Try.f50.body.getD .skip) = true := by kernel_rfl
theorem gimballaw08_awake.mr : mRes pg Try.f50.results.toList gimballaw08_awake.res = true := by kernel_rfl
theorem gimballaw08_awake.of {args : List V} {r : V} (hn : args.length = 0) (hW : W pg gimballaw08_awake.k (done gimballaw08_awake.res r) (start args)) : Ret pg n_gimballaw08_awake args r :=
 Ret_of (fn := Try.f50) Try.func50 rfl (by kernel_rfl) gimballaw08_awake.m gimballaw08_awake.mr (by rw [hn]; exact of_decide_eq_true (by kernel_rfl)) hW
def gimballaw08_whole.k : K :=
 (.seq (.keep [1] (.ops false [⟨(some 1), none, .boxP (.t 0)⟩,
 ⟨(some 2), none, .mov (.c (.str ⟨#[]⟩))⟩]))
 (.seq (.keep [1, 3] (.ops false [⟨(some 3), none, .mov (.c (.str ⟨#[]⟩))⟩]))
 (.seq (.seq (.keep [1, 3, 4] (.ops false [⟨(some 4), none, .mov (.c (.int .i64 0))⟩]))
 (.block 0 (.loop (.seq (.seq (.keep [1, 3, 4, 9] (.ops false [⟨(some 5), none, .mov (.t 4)⟩,
 ⟨(some 6), none, .fldA 0 1 false (.t 1)⟩,
 ⟨(some 7), none, .load 1 false (.t 6)⟩,
 ⟨(some 8), none, .len false (.t 7)⟩,
 ⟨(some 9), none, .bin .lss (.t 5) (.t 8)⟩]))
 (.cond (.t 9) .skip
 (.exit 0)))
 (.seq (.block 1 (.keep [1, 3, 4] (.ops false [⟨(some 12), none, .mov (.t 3)⟩,
 ⟨(some 13), none, .fldA 0 1 false (.t 1)⟩,
 ⟨(some 14), none, .load 1 false (.t 13)⟩,
 ⟨(some 15), none, .mov (.t 4)⟩,
 ⟨(some 16), none, .idxA 1 (.t 14) (.t 15)⟩,
 ⟨(some 17), none, .load 1 false (.t 16)⟩,
 ⟨(some 18), none, .callG n_gimballaw08_text [(.t 17)]⟩,
 ⟨(some 19), none, .bin .add (.t 12) (.t 18)⟩,
 ⟨(some 20), none, .bin .add (.t 19) (.c (.str ⟨#[59]⟩))⟩,
 ⟨(some 3), none, .mov (.t 20)⟩])))
 (.keep [1, 3, 4] (.ops false [⟨(some 10), none, .mov (.t 4)⟩,
 ⟨(some 11), none, .bin .add (.t 10) (.c (.int .i64 1))⟩,
 ⟨(some 4), none, .mov (.t 11)⟩])))))))
 (.seq (.keep [2] (.ops true [⟨(some 21), none, .mov (.t 3)⟩,
 ⟨(some 22), none, .fldA 1 1 false (.t 1)⟩,
 ⟨(some 23), none, .load 1 false (.t 22)⟩,
 ⟨(some 24), none, .call n_gimballaw08_text [(.t 23)]⟩,
 ⟨(some 25), none, .bin .add (.t 21) (.t 24)⟩,
 ⟨(some 26), none, .bin .add (.t 25) (.c (.str ⟨#[59]⟩))⟩,
 ⟨(some 27), none, .fldA 2 2 true (.t 1)⟩,
 ⟨(some 28), none, .load 2 true (.t 27)⟩,
 ⟨(some 29), none, .call n_long_Int_String [(.t 28)]⟩,
 ⟨(some 30), none, .bin .add (.t 26) (.t 29)⟩,
 ⟨(some 2), none, .mov (.t 30)⟩]))
 .ret))))
def gimballaw08_whole.res : List RX := [(2, none)]
theorem gimballaw08_whole.m : mK pg Try.f52.ntmps gimballaw08_whole.k (Try.f52.body.getD .skip) = true := by kernel_rfl
theorem gimballaw08_whole.mr : mRes pg Try.f52.results.toList gimballaw08_whole.res = true := by kernel_rfl
theorem gimballaw08_whole.of {args : List V} {r : V} (hn : args.length = 1) (hW : W pg gimballaw08_whole.k (done gimballaw08_whole.res r) (start args)) : Ret pg n_gimballaw08_whole args r :=
 Ret_of (fn := Try.f52) Try.func52 rfl (by kernel_rfl) gimballaw08_whole.m gimballaw08_whole.mr (by rw [hn]; exact of_decide_eq_true (by kernel_rfl)) hW
def gimballaw08_wholes.k : K :=
 (.seq (.keep [1] (.ops false [⟨(some 1), none, .boxP (.t 0)⟩,
 ⟨(some 2), none, .mov (.c (.str ⟨#[]⟩))⟩]))
 (.seq (.keep [1, 3] (.ops false [⟨(some 3), none, .mov (.c (.str ⟨#[]⟩))⟩]))
 (.seq (.seq (.keep [1, 3, 4] (.ops false [⟨(some 4), none, .mov (.c (.int .i64 0))⟩]))
 (.block 0 (.loop (.seq (.seq (.keep [1, 3, 4, 9] (.ops false [⟨(some 5), none, .mov (.t 4)⟩,
 ⟨(some 6), none, .fldA 0 1 false (.t 1)⟩,
 ⟨(some 7), none, .load 1 false (.t 6)⟩,
 ⟨(some 8), none, .len false (.t 7)⟩,
 ⟨(some 9), none, .bin .lss (.t 5) (.t 8)⟩]))
 (.cond (.t 9) .skip
 (.exit 0)))
 (.seq (.block 1 (.keep [1, 3, 4] (.ops false [⟨(some 12), none, .mov (.t 3)⟩,
 ⟨(some 13), none, .fldA 0 1 false (.t 1)⟩,
 ⟨(some 14), none, .load 1 false (.t 13)⟩,
 ⟨(some 15), none, .mov (.t 4)⟩,
 ⟨(some 16), none, .idxA 1 (.t 14) (.t 15)⟩,
 ⟨(some 17), none, .load 1 false (.t 16)⟩,
 ⟨(some 18), none, .callG n_gimballaw08_texts [(.t 17)]⟩,
 ⟨(some 19), none, .bin .add (.t 12) (.t 18)⟩,
 ⟨(some 20), none, .bin .add (.t 19) (.c (.str ⟨#[59]⟩))⟩,
 ⟨(some 3), none, .mov (.t 20)⟩])))
 (.keep [1, 3, 4] (.ops false [⟨(some 10), none, .mov (.t 4)⟩,
 ⟨(some 11), none, .bin .add (.t 10) (.c (.int .i64 1))⟩,
 ⟨(some 4), none, .mov (.t 11)⟩])))))))
 (.seq (.keep [2] (.ops true [⟨(some 21), none, .mov (.t 3)⟩,
 ⟨(some 22), none, .fldA 1 1 false (.t 1)⟩,
 ⟨(some 23), none, .load 1 false (.t 22)⟩,
 ⟨(some 24), none, .call n_gimballaw08_texts [(.t 23)]⟩,
 ⟨(some 25), none, .bin .add (.t 21) (.t 24)⟩,
 ⟨(some 26), none, .bin .add (.t 25) (.c (.str ⟨#[59]⟩))⟩,
 ⟨(some 27), none, .fldA 2 2 true (.t 1)⟩,
 ⟨(some 28), none, .load 2 true (.t 27)⟩,
 ⟨(some 29), none, .call n_gimbalref01_Int_String [(.t 28)]⟩,
 ⟨(some 30), none, .bin .add (.t 26) (.t 29)⟩,
 ⟨(some 2), none, .mov (.t 30)⟩]))
 .ret))))
def gimballaw08_wholes.res : List RX := [(2, none)]
theorem gimballaw08_wholes.m : mK pg Try.f53.ntmps gimballaw08_wholes.k (Try.f53.body.getD .skip) = true := by kernel_rfl
theorem gimballaw08_wholes.mr : mRes pg Try.f53.results.toList gimballaw08_wholes.res = true := by kernel_rfl
theorem gimballaw08_wholes.of {args : List V} {r : V} (hn : args.length = 1) (hW : W pg gimballaw08_wholes.k (done gimballaw08_wholes.res r) (start args)) : Ret pg n_gimballaw08_wholes args r :=
 Ret_of (fn := Try.f53) Try.func53 rfl (by kernel_rfl) gimballaw08_wholes.m gimballaw08_wholes.mr (by rw [hn]; exact of_decide_eq_true (by kernel_rfl)) hW
def gimballaw08_list.k : K :=
 (.seq (.keep [0, 1] (.ops false [⟨(some 4), none, .mov (.c .nil)⟩,
 ⟨(some 5), none, .mov (.c .nil)⟩]))
 (.seq (.keep [0, 1, 6] (.ops false [⟨(some 6), none, .mov (.c .nil)⟩]))
 (.seq (.keep [0, 1, 6, 7] (.ops false [⟨(some 7), none, .mov (.c .nil)⟩]))
 (.seq (.keep [1, 6, 7, 8] (.ops false [⟨(some 10), none, .mov (.t 0)⟩,
 ⟨(some 11), none, .mov (.t 1)⟩,
 ⟨(some 12), none, .callG n_gimballaw08_filled [(.t 10), (.t 11)]⟩,
 ⟨(some 8), none, .mov (.t 12)⟩]))
 (.seq (.seq (.keep [1, 6, 7, 8, 9] (.ops false [⟨(some 9), none, .mov (.c (.int .i64 0))⟩]))
 (.block 0 (.loop (.seq (.seq (.keep [1, 6, 7, 8, 9, 15] (.ops false [⟨(some 13), none, .mov (.t 9)⟩,
 ⟨(some 14), none, .mov (.t 1)⟩,
 ⟨(some 15), none, .bin .lss (.t 13) (.t 14)⟩]))
 (.cond (.t 15) .skip
 (.exit 0)))
 (.seq (.block 1 (.seq (.keep [1, 6, 7, 8, 9] (.ops false [⟨(some 18), none, .mov (.t 6)⟩,
 ⟨(some 19), none, .mov (.t 8)⟩,
 ⟨(some 20), none, .mov (.t 9)⟩,
 ⟨(some 21), none, .idxA 1 (.t 19) (.t 20)⟩,
 ⟨(some 22), none, .load 1 false (.t 21)⟩,
 ⟨(some 23), none, .callG n_long_Of [(.t 22)]⟩,
 ⟨(some 24), none, .new (.bsl 2) [(.t 23)]⟩,
 ⟨(some 25), none, .eff (.app 2 32) [(.t 18), (.t 24)]⟩,
 ⟨(some 6), none, .mov (.t 25)⟩]))
 (.keep [1, 6, 7, 8, 9] (.ops false [⟨(some 26), none, .mov (.t 7)⟩,
 ⟨(some 27), none, .mov (.t 8)⟩,
 ⟨(some 28), none, .mov (.t 9)⟩,
 ⟨(some 29), none, .idxA 1 (.t 27) (.t 28)⟩,
 ⟨(some 30), none, .load 1 false (.t 29)⟩,
 ⟨(some 31), none, .callG n_gimbalref01_Of [(.t 30)]⟩,
 ⟨(some 32), none, .new (.bsl 2) [(.t 31)]⟩,
 ⟨(some 33), none, .eff (.app 2 32) [(.t 26), (.t 32)]⟩,
 ⟨(some 7), none, .mov (.t 33)⟩]))))
 (.keep [1, 6, 7, 8, 9] (.ops false [⟨(some 16), none, .mov (.t 9)⟩,
 ⟨(some 17), none, .bin .add (.t 16) (.c (.int .i64 1))⟩,
 ⟨(some 9), none, .mov (.t 17)⟩])))))))
 (.seq (.keep [4, 5] (.ops false [⟨(some 34), none, .mov (.t 6)⟩,
 ⟨(some 35), none, .mov (.t 7)⟩,
 ⟨(some 4), none, .mov (.t 34)⟩,
 ⟨(some 5), none, .mov (.t 35)⟩]))
 .ret))))))
def gimballaw08_list.res : List RX := [(4, none), (5, none)]
theorem gimballaw08_list.m : mK pg Try.f57.ntmps gimballaw08_list.k (Try.f57.body.getD .skip) = true := by kernel_rfl
theorem gimballaw08_list.mr : mRes pg Try.f57.results.toList gimballaw08_list.res = true := by kernel_rfl
theorem gimballaw08_list.of {args : List V} {r : V} (hn : args.length = 2) (hW : W pg gimballaw08_list.k (done gimballaw08_list.res r) (start args)) : Ret pg n_gimballaw08_list args r :=
 Ret_of (fn := Try.f57) Try.func57 rfl (by kernel_rfl) gimballaw08_list.m gimballaw08_list.mr (by rw [hn]; exact of_decide_eq_true (by kernel_rfl)) hW
def gimballaw08_text.k : K :=
 (.seq (.keep [0] (.ops false [⟨(some 2), none, .mov (.c (.str ⟨#[]⟩))⟩]))
 (.seq (.keep [0, 3] (.ops false [⟨(some 3), none, .mov (.c (.str ⟨#[]⟩))⟩]))
 (.seq (.seq (.keep [0, 3, 4] (.ops false [⟨(some 4), none, .mov (.c (.int .i64 0))⟩]))
 (.block 0 (.loop (.seq (.seq (.keep [0, 3, 4, 8] (.ops false [⟨(some 5), none, .mov (.t 4)⟩,
 ⟨(some 6), none, .mov (.t 0)⟩,
 ⟨(some 7), none, .len false (.t 6)⟩,
 ⟨(some 8), none, .bin .lss (.t 5) (.t 7)⟩]))
 (.cond (.t 8) .skip
 (.exit 0)))
 (.seq (.block 1 (.keep [0, 3, 4] (.ops false [⟨(some 11), none, .mov (.t 3)⟩,
 ⟨(some 12), none, .mov (.t 0)⟩,
 ⟨(some 13), none, .mov (.t 4)⟩,
 ⟨(some 14), none, .idxA 2 (.t 12) (.t 13)⟩,
 ⟨(some 15), none, .load 2 true (.t 14)⟩,
 ⟨(some 16), none, .callG n_long_Int_String [(.t 15)]⟩,
 ⟨(some 17), none, .bin .add (.t 11) (.t 16)⟩,
 ⟨(some 18), none, .bin .add (.t 17) (.c (.str ⟨#[32]⟩))⟩,
 ⟨(some 3), none, .mov (.t 18)⟩])))
 (.keep [0, 3, 4] (.ops false [⟨(some 9), none, .mov (.t 4)⟩,
 ⟨(some 10), none, .bin .add (.t 9) (.c (.int .i64 1))⟩,
 ⟨(some 4), none, .mov (.t 10)⟩])))))))
 (.seq (.keep [2] (.ops false [⟨(some 19), none, .mov (.t 3)⟩,
 ⟨(some 2), none, .mov (.t 19)⟩]))
 .ret))))
def gimballaw08_text.res : List RX := [(2, none)]
theorem gimballaw08_text.m : mK pg Try.f64.ntmps gimballaw08_text.k (Try.f64.body.getD .skip) = true := by kernel_rfl
theorem gimballaw08_text.mr : mRes pg Try.f64.results.toList gimballaw08_text.res = true := by kernel_rfl
theorem gimballaw08_text.of {args : List V} {r : V} (hn : args.length = 1) (hW : W pg gimballaw08_text.k (done gimballaw08_text.res r) (start args)) : Ret pg n_gimballaw08_text args r :=
 Ret_of (fn := Try.f64) Try.func64 rfl (by kernel_rfl) gimballaw08_text.m gimballaw08_text.mr (by rw [hn]; exact of_decide_eq_true (by kernel_rfl)) hW
def gimballaw08_texts.k : K :=
 (.seq (.keep [0] (.ops false [⟨(some 2), none, .mov (.c (.str ⟨#[]⟩))⟩]))
 (.seq (.keep [0, 3] (.ops false [⟨(some 3), none, .mov (.c (.str ⟨#[]⟩))⟩]))
 (.seq (.seq (.keep [0, 3, 4] (.ops false [⟨(some 4), none, .mov (.c (.int .i64 0))⟩]))
 (.block 0 (.loop (.seq (.seq (.keep [0, 3, 4, 8] (.ops false [⟨(some 5), none, .mov (.t 4)⟩,
 ⟨(some 6), none, .mov (.t 0)⟩,
 ⟨(some 7), none, .len false (.t 6)⟩,
 ⟨(some 8), none, .bin .lss (.t 5) (.t 7)⟩]))
 (.cond (.t 8) .skip
 (.exit 0)))
 (.seq (.block 1 (.keep [0, 3, 4] (.ops false [⟨(some 11), none, .mov (.t 3)⟩,
 ⟨(some 12), none, .mov (.t 0)⟩,
 ⟨(some 13), none, .mov (.t 4)⟩,
 ⟨(some 14), none, .idxA 2 (.t 12) (.t 13)⟩,
 ⟨(some 15), none, .load 2 true (.t 14)⟩,
 ⟨(some 16), none, .callG n_gimbalref01_Int_String [(.t 15)]⟩,
 ⟨(some 17), none, .bin .add (.t 11) (.t 16)⟩,
 ⟨(some 18), none, .bin .add (.t 17) (.c (.str ⟨#[32]⟩))⟩,
 ⟨(some 3), none, .mov (.t 18)⟩])))
 (.keep [0, 3, 4] (.ops false [⟨(some 9), none, .mov (.t 4)⟩,
 ⟨(some 10), none, .bin .add (.t 9) (.c (.int .i64 1))⟩,
 ⟨(some 4), none, .mov (.t 10)⟩])))))))
 (.seq (.keep [2] (.ops false [⟨(some 19), none, .mov (.t 3)⟩,
 ⟨(some 2), none, .mov (.t 19)⟩]))
 .ret))))
def gimballaw08_texts.res : List RX := [(2, none)]
theorem gimballaw08_texts.m : mK pg Try.f68.ntmps gimballaw08_texts.k (Try.f68.body.getD .skip) = true := by kernel_rfl
theorem gimballaw08_texts.mr : mRes pg Try.f68.results.toList gimballaw08_texts.res = true := by kernel_rfl
theorem gimballaw08_texts.of {args : List V} {r : V} (hn : args.length = 1) (hW : W pg gimballaw08_texts.k (done gimballaw08_texts.res r) (start args)) : Ret pg n_gimballaw08_texts args r :=
 Ret_of (fn := Try.f68) Try.func68 rfl (by kernel_rfl) gimballaw08_texts.m gimballaw08_texts.mr (by rw [hn]; exact of_decide_eq_true (by kernel_rfl)) hW
def gimballaw08_filled.k : K :=
 (.seq (.keep [0, 1] (.ops false [⟨(some 4), none, .mov (.c .nil)⟩]))
 (.seq (.keep [0, 5] (.ops false [⟨(some 6), none, .mov (.t 1)⟩,
 ⟨(some 7), none, .new (.mks 1 8 (.int .i64 0)) [(.t 6), (.t 6)]⟩,
 ⟨(some 5), none, .mov (.t 7)⟩]))
 (.seq (.keep [5] (.ops false [⟨(some 8), none, .mov (.t 5)⟩,
 ⟨(some 9), none, .mov (.t 0)⟩,
 ⟨(some 10), none, .eff (.cpy 1) [(.t 8), (.t 9)]⟩]))
 (.seq (.keep [4] (.ops false [⟨(some 11), none, .mov (.t 5)⟩,
 ⟨(some 4), none, .mov (.t 11)⟩]))
 .ret))))
def gimballaw08_filled.res : List RX := [(4, none)]
theorem gimballaw08_filled.m : mK pg Try.f101.ntmps gimballaw08_filled.k (Try.f101.body.getD .skip) = true := by kernel_rfl
theorem gimballaw08_filled.mr : mRes pg Try.f101.results.toList gimballaw08_filled.res = true := by kernel_rfl
theorem gimballaw08_filled.of {args : List V} {r : V} (hn : args.length = 2) (hW : W pg gimballaw08_filled.k (done gimballaw08_filled.res r) (start args)) : Ret pg n_gimballaw08_filled args r :=
 Ret_of (fn := Try.f101) Try.func101 rfl (by kernel_rfl) gimballaw08_filled.m gimballaw08_filled.mr (by rw [hn]; exact of_decide_eq_true (by kernel_rfl)) hW
end Go.Gim

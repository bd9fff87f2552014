import Derived.Test.YtjkjpjneeioeiaaGN
/- Functions' code as data (written by wip/tools/gen.py), and the step to their contracts. -/
set_option maxRecDepth 100000
namespace Go.Gim
open Go.Proofs
def gimbalref16_out.k : K :=
 (.seq (.keep [0, 1, 2] (.ops false [⟨(some 6), none, .mov (.c (.bool false))⟩]))
 (.seq (.keep [6] (.ops false [⟨(some 7), none, .mov (.t 0)⟩,
 ⟨(some 8), none, .mov (.t 1)⟩,
 ⟨(some 9), none, .bin .lss (.t 7) (.t 8)⟩,
 ⟨(some 10), none, .mov (.t 9)⟩,
 ⟨(some 11), (some (10, false)), .mov (.t 0)⟩,
 ⟨(some 12), (some (10, false)), .mov (.t 2)⟩,
 ⟨(some 13), (some (10, false)), .bin .gtr (.t 11) (.t 12)⟩,
 ⟨(some 14), none, .pick (.t 10) (.c (.bool true)) (.t 13)⟩,
 ⟨(some 6), none, .mov (.t 14)⟩]))
 .ret))
def gimbalref16_out.res : List RX := [(6, none)]
theorem gimbalref16_out.m : mK pg Try.f32.ntmps gimbalref16_out.k (Try.f32.body.getD .skip) = true := by kernel_rfl
theorem gimbalref16_out.mr : mRes pg Try.f32.results.toList gimbalref16_out.res = true := by kernel_rfl
theorem gimbalref16_out.of {args : List V} {r : V} (hn : args.length = 3) (hW : W pg gimbalref16_out.k (done gimbalref16_out.res r) (start args)) : Ret pg n_gimbalref16_out args r :=
 Ret_of (fn := Try.f32) Try.func32 rfl (by kernel_rfl) gimbalref16_out.m gimbalref16_out.mr (by rw [hn]; exact of_decide_eq_true (by kernel_rfl)) hW
def gimbalref16_Same.k : K :=
 (.seq (.keep [2, 3] (.ops false [⟨(some 2), none, .boxP (.t 0)⟩,
 ⟨(some 3), none, .boxP (.t 1)⟩,
 ⟨(some 4), none, .mov (.c (.bool false))⟩]))
 (.seq (.seq (.keep [2, 3, 33] (.ops false [⟨(some 6), none, .fldA 0 1 false (.t 2)⟩,
 ⟨(some 7), none, .load 1 false (.t 6)⟩,
 ⟨(some 8), none, .len false (.t 7)⟩,
 ⟨(some 9), none, .fldA 0 1 false (.t 3)⟩,
 ⟨(some 10), none, .load 1 false (.t 9)⟩,
 ⟨(some 11), none, .len false (.t 10)⟩,
 ⟨(some 12), none, .bin .neq (.t 8) (.t 11)⟩,
 ⟨(some 13), none, .mov (.t 12)⟩,
 ⟨(some 14), (some (13, false)), .fldA 1 1 false (.t 2)⟩,
 ⟨(some 15), (some (13, false)), .load 1 false (.t 14)⟩,
 ⟨(some 16), (some (13, false)), .fldA 1 1 false (.t 3)⟩,
 ⟨(some 17), (some (13, false)), .load 1 false (.t 16)⟩,
 ⟨(some 18), (some (13, false)), .bin .neq (.t 15) (.t 17)⟩,
 ⟨(some 19), none, .pick (.t 13) (.c (.bool true)) (.t 18)⟩,
 ⟨(some 20), none, .mov (.t 19)⟩,
 ⟨(some 21), (some (20, false)), .fldA 2 1 false (.t 2)⟩,
 ⟨(some 22), (some (20, false)), .load 1 false (.t 21)⟩,
 ⟨(some 23), (some (20, false)), .fldA 2 1 false (.t 3)⟩,
 ⟨(some 24), (some (20, false)), .load 1 false (.t 23)⟩,
 ⟨(some 25), (some (20, false)), .bin .neq (.t 22) (.t 24)⟩,
 ⟨(some 26), none, .pick (.t 20) (.c (.bool true)) (.t 25)⟩,
 ⟨(some 27), none, .mov (.t 26)⟩,
 ⟨(some 28), (some (27, false)), .fldA 3 1 false (.t 2)⟩,
 ⟨(some 29), (some (27, false)), .load 1 false (.t 28)⟩,
 ⟨(some 30), (some (27, false)), .fldA 3 1 false (.t 3)⟩,
 ⟨(some 31), (some (27, false)), .load 1 false (.t 30)⟩,
 ⟨(some 32), (some (27, false)), .bin .neq (.t 29) (.t 31)⟩,
 ⟨(some 33), none, .pick (.t 27) (.c (.bool true)) (.t 32)⟩]))
 (.cond (.t 33) (.seq (.keep [4] (.ops false [⟨(some 4), none, .mov (.c (.bool false))⟩]))
 .ret)
 .skip))
 (.seq (.seq (.keep [2, 3, 5] (.ops false [⟨(some 5), none, .mov (.c (.int .i64 0))⟩]))
 (.block 0 (.loop (.seq (.seq (.keep [2, 3, 5, 38] (.ops false [⟨(some 34), none, .mov (.t 5)⟩,
 ⟨(some 35), none, .fldA 0 1 false (.t 2)⟩,
 ⟨(some 36), none, .load 1 false (.t 35)⟩,
 ⟨(some 37), none, .len false (.t 36)⟩,
 ⟨(some 38), none, .bin .lss (.t 34) (.t 37)⟩]))
 (.cond (.t 38) .skip
 (.exit 0)))
 (.seq (.block 1 (.seq (.keep [2, 3, 5, 51] (.ops true [⟨(some 41), none, .fldA 0 1 false (.t 2)⟩,
 ⟨(some 42), none, .load 1 false (.t 41)⟩,
 ⟨(some 43), none, .mov (.t 5)⟩,
 ⟨(some 44), none, .idxA 1 (.t 42) (.t 43)⟩,
 ⟨(some 45), none, .load 1 false (.t 44)⟩,
 ⟨(some 46), none, .fldA 0 1 false (.t 3)⟩,
 ⟨(some 47), none, .load 1 false (.t 46)⟩,
 ⟨(some 48), none, .mov (.t 5)⟩,
 ⟨(some 49), none, .idxA 1 (.t 47) (.t 48)⟩,
 ⟨(some 50), none, .load 1 false (.t 49)⟩,
 ⟨(some 51), none, .bin .neq (.t 45) (.t 50)⟩]))
 (.cond (.t 51) (.seq (.keep [4] (.ops false [⟨(some 4), none, .mov (.c (.bool false))⟩]))
 .ret)
 .skip)))
 (.keep [2, 3, 5] (.ops false [⟨(some 39), none, .mov (.t 5)⟩,
 ⟨(some 40), none, .bin .add (.t 39) (.c (.int .i64 1))⟩,
 ⟨(some 5), none, .mov (.t 40)⟩])))))))
 (.seq (.keep [4] (.ops false [⟨(some 4), none, .mov (.c (.bool true))⟩]))
 .ret))))
def gimbalref16_Same.res : List RX := [(4, none)]
theorem gimbalref16_Same.m : mK pg Try.f37.ntmps gimbalref16_Same.k (Try.f37.body.getD .skip) = true := by kernel_rfl
theorem gimbalref16_Same.mr : mRes pg Try.f37.results.toList gimbalref16_Same.res = true := by kernel_rfl
theorem gimbalref16_Same.of {args : List V} {r : V} (hn : args.length = 2) (hW : W pg gimbalref16_Same.k (done gimbalref16_Same.res r) (start args)) : Ret pg n_gimbalref16_Same args r :=
 Ret_of (fn := Try.f37) Try.func37 rfl (by kernel_rfl) gimbalref16_Same.m gimbalref16_Same.mr (by rw [hn]; exact of_decide_eq_true (by kernel_rfl)) hW
def gimbalref16_Right.k : K :=
 (.seq (.keep [1, 2] (.ops false [⟨(some 2), none, .boxP (.t 0)⟩,
 ⟨(some 4), none, .mov (.c (.bool false))⟩]))
 (.seq (.seq (.keep [1, 2, 29] (.ops false [⟨(some 6), none, .fldA 0 1 false (.t 2)⟩,
 ⟨(some 7), none, .load 1 false (.t 6)⟩,
 ⟨(some 8), none, .len false (.t 7)⟩,
 ⟨(some 9), none, .mov (.t 1)⟩,
 ⟨(some 10), none, .bin .neq (.t 8) (.t 9)⟩,
 ⟨(some 11), none, .mov (.t 10)⟩,
 ⟨(some 12), (some (11, false)), .mov (.t 1)⟩,
 ⟨(some 13), (some (11, false)), .bin .gtr (.t 12) (.c (.int .i64 11))⟩,
 ⟨(some 14), none, .pick (.t 11) (.c (.bool true)) (.t 13)⟩,
 ⟨(some 15), none, .mov (.t 14)⟩,
 ⟨(some 16), (some (15, false)), .fldA 1 1 false (.t 2)⟩,
 ⟨(some 17), (some (15, false)), .load 1 false (.t 16)⟩,
 ⟨(some 18), (some (15, false)), .callG n_gimbalref16_out [(.t 17), (.c (.int .i64 (-1000000000))), (.c (.int .i64 1000000000))]⟩,
 ⟨(some 19), none, .pick (.t 15) (.c (.bool true)) (.t 18)⟩,
 ⟨(some 20), none, .mov (.t 19)⟩,
 ⟨(some 21), (some (20, false)), .fldA 2 1 false (.t 2)⟩,
 ⟨(some 22), (some (20, false)), .load 1 false (.t 21)⟩,
 ⟨(some 23), (some (20, false)), .callG n_gimbalref16_out [(.t 22), (.c (.int .i64 1)), (.c (.int .i64 32768))]⟩,
 ⟨(some 24), none, .pick (.t 20) (.c (.bool true)) (.t 23)⟩,
 ⟨(some 25), none, .mov (.t 24)⟩,
 ⟨(some 26), (some (25, false)), .fldA 3 1 false (.t 2)⟩,
 ⟨(some 27), (some (25, false)), .load 1 false (.t 26)⟩,
 ⟨(some 28), (some (25, false)), .callG n_gimbalref16_out [(.t 27), (.c (.int .i64 1)), (.c (.int .i64 100))]⟩,
 ⟨(some 29), none, .pick (.t 25) (.c (.bool true)) (.t 28)⟩]))
 (.cond (.t 29) (.seq (.keep [4] (.ops false [⟨(some 4), none, .mov (.c (.bool false))⟩]))
 .ret)
 .skip))
 (.seq (.seq (.keep [1, 2, 5] (.ops false [⟨(some 5), none, .mov (.c (.int .i64 0))⟩]))
 (.block 0 (.loop (.seq (.seq (.keep [1, 2, 5, 32] (.ops false [⟨(some 30), none, .mov (.t 5)⟩,
 ⟨(some 31), none, .mov (.t 1)⟩,
 ⟨(some 32), none, .bin .lss (.t 30) (.t 31)⟩]))
 (.cond (.t 32) .skip
 (.exit 0)))
 (.seq (.block 1 (.seq (.keep [1, 2, 5, 40] (.ops false [⟨(some 35), none, .fldA 0 1 false (.t 2)⟩,
 ⟨(some 36), none, .load 1 false (.t 35)⟩,
 ⟨(some 37), none, .mov (.t 5)⟩,
 ⟨(some 38), none, .idxA 1 (.t 36) (.t 37)⟩,
 ⟨(some 39), none, .load 1 false (.t 38)⟩,
 ⟨(some 40), none, .callG n_gimbalref16_out [(.t 39), (.c (.int .i64 (-1000))), (.c (.int .i64 1000))]⟩]))
 (.cond (.t 40) (.seq (.keep [4] (.ops false [⟨(some 4), none, .mov (.c (.bool false))⟩]))
 .ret)
 .skip)))
 (.keep [1, 2, 5] (.ops false [⟨(some 33), none, .mov (.t 5)⟩,
 ⟨(some 34), none, .bin .add (.t 33) (.c (.int .i64 1))⟩,
 ⟨(some 5), none, .mov (.t 34)⟩])))))))
 (.seq (.keep [4] (.ops false [⟨(some 4), none, .mov (.c (.bool true))⟩]))
 .ret))))
def gimbalref16_Right.res : List RX := [(4, none)]
theorem gimbalref16_Right.m : mK pg Try.f64.ntmps gimbalref16_Right.k (Try.f64.body.getD .skip) = true := by kernel_rfl
theorem gimbalref16_Right.mr : mRes pg Try.f64.results.toList gimbalref16_Right.res = true := by kernel_rfl
theorem gimbalref16_Right.of {args : List V} {r : V} (hn : args.length = 2) (hW : W pg gimbalref16_Right.k (done gimbalref16_Right.res r) (start args)) : Ret pg n_gimbalref16_Right args r :=
 Ret_of (fn := Try.f64) Try.func64 rfl (by kernel_rfl) gimbalref16_Right.m gimbalref16_Right.mr (by rw [hn]; exact of_decide_eq_true (by kernel_rfl)) hW
def gimbalref17_New.k : K :=
 (.seq (.keep [0, 1, 4] (.ops false [⟨(some 4), none, .alloc 8 (.agg [(.int .i64 0), .nil, .nil, .nil, (.bool false), (.sl []), (.bool false), (.sl [])])⟩,
 ⟨(some 5), none, .mov (.c (.int .i64 0))⟩]))
 (.seq (.seq (.keep [0, 1, 4, 15] (.ops false [⟨(some 10), none, .mov (.t 0)⟩,
 ⟨(some 11), none, .bin .lss (.t 10) (.c (.int .i64 1))⟩,
 ⟨(some 12), none, .mov (.t 11)⟩,
 ⟨(some 13), (some (12, false)), .mov (.t 0)⟩,
 ⟨(some 14), (some (12, false)), .bin .gtr (.t 13) (.c (.int .i64 11))⟩,
 ⟨(some 15), none, .pick (.t 12) (.c (.bool true)) (.t 14)⟩]))
 (.cond (.t 15) (.seq (.keep [4, 5] (.ops false [⟨(some 16), none, .build [(.int .i64 0), .nil, .nil, .nil, (.bool false), (.sl []), (.bool false), (.sl [])] []⟩,
 ⟨none, none, .store 8 (.t 4) (.t 16)⟩,
 ⟨(some 5), none, .mov (.c (.int .i64 1))⟩]))
 .ret)
 .skip))
 (.seq (.seq (.keep [0, 1, 4, 19] (.ops false [⟨(some 17), none, .mov (.t 1)⟩,
 ⟨(some 18), none, .len false (.t 17)⟩,
 ⟨(some 19), none, .bin .gtr (.t 18) (.c (.int .i64 60))⟩]))
 (.cond (.t 19) (.seq (.keep [4, 5] (.ops false [⟨(some 20), none, .build [(.int .i64 0), .nil, .nil, .nil, (.bool false), (.sl []), (.bool false), (.sl [])] []⟩,
 ⟨none, none, .store 8 (.t 4) (.t 20)⟩,
 ⟨(some 5), none, .mov (.c (.int .i64 3))⟩]))
 .ret)
 .skip))
 (.seq (.seq (.keep [0, 1, 4, 6] (.ops false [⟨(some 6), none, .mov (.c (.int .i64 0))⟩]))
 (.block 0 (.loop (.seq (.seq (.keep [0, 1, 4, 6, 24] (.ops false [⟨(some 21), none, .mov (.t 6)⟩,
 ⟨(some 22), none, .mov (.t 1)⟩,
 ⟨(some 23), none, .len false (.t 22)⟩,
 ⟨(some 24), none, .bin .lss (.t 21) (.t 23)⟩]))
 (.cond (.t 24) .skip
 (.exit 0)))
 (.seq (.block 1 (.seq (.keep [0, 1, 4, 6, 7] (.ops false [⟨(some 27), none, .mov (.t 1)⟩,
 ⟨(some 28), none, .mov (.t 6)⟩,
 ⟨(some 29), none, .idxA 4 (.t 27) (.t 28)⟩,
 ⟨(some 30), none, .load 4 true (.t 29)⟩,
 ⟨(some 31), none, .mov (.t 0)⟩,
 ⟨(some 32), none, .callG n_gimbalref16_Right [(.t 30), (.t 31)]⟩,
 ⟨(some 7), none, .mov (.t 32)⟩]))
 (.seq (.keep [0, 1, 4, 6, 34] (.ops false [⟨(some 33), none, .mov (.t 7)⟩,
 ⟨(some 34), none, .un .not (.t 33)⟩]))
 (.cond (.t 34) (.seq (.keep [4, 5] (.ops false [⟨(some 35), none, .build [(.int .i64 0), .nil, .nil, .nil, (.bool false), (.sl []), (.bool false), (.sl [])] []⟩,
 ⟨none, none, .store 8 (.t 4) (.t 35)⟩,
 ⟨(some 5), none, .mov (.c (.int .i64 160))⟩]))
 .ret)
 .skip))))
 (.keep [0, 1, 4, 6] (.ops false [⟨(some 25), none, .mov (.t 6)⟩,
 ⟨(some 26), none, .bin .add (.t 25) (.c (.int .i64 1))⟩,
 ⟨(some 6), none, .mov (.t 26)⟩])))))))
 (.seq (.keep [0, 1, 4, 8] (.ops false [⟨(some 36), none, .mov (.t 0)⟩,
 ⟨(some 37), none, .new (.mks 1 24 .nil) [(.t 36), (.t 36)]⟩,
 ⟨(some 8), none, .mov (.t 37)⟩]))
 (.seq (.seq (.keep [0, 1, 4, 8, 9] (.ops false [⟨(some 9), none, .mov (.c (.int .i64 0))⟩]))
 (.block 2 (.loop (.seq (.seq (.keep [0, 1, 4, 8, 9, 40] (.ops false [⟨(some 38), none, .mov (.t 9)⟩,
 ⟨(some 39), none, .mov (.t 0)⟩,
 ⟨(some 40), none, .bin .lss (.t 38) (.t 39)⟩]))
 (.cond (.t 40) .skip
 (.exit 2)))
 (.seq (.block 3 (.keep [0, 1, 4, 8, 9] (.ops false [⟨(some 43), none, .mov (.t 8)⟩,
 ⟨(some 44), none, .mov (.t 9)⟩,
 ⟨(some 45), none, .mov (.t 0)⟩,
 ⟨(some 46), none, .new (.mks 1 8 (.int .i64 0)) [(.t 45), (.t 45)]⟩,
 ⟨(some 47), none, .idxA 1 (.t 43) (.t 44)⟩,
 ⟨none, none, .store 1 (.t 47) (.t 46)⟩])))
 (.keep [0, 1, 4, 8, 9] (.ops false [⟨(some 41), none, .mov (.t 9)⟩,
 ⟨(some 42), none, .bin .add (.t 41) (.c (.int .i64 1))⟩,
 ⟨(some 9), none, .mov (.t 42)⟩])))))))
 (.seq (.keep [4, 5] (.ops false [⟨(some 48), none, .mov (.t 0)⟩,
 ⟨(some 49), none, .mov (.t 1)⟩,
 ⟨(some 50), none, .mov (.t 8)⟩,
 ⟨(some 51), none, .mov (.t 0)⟩,
 ⟨(some 52), none, .new (.mks 1 8 (.int .i64 0)) [(.t 51), (.t 51)]⟩,
 ⟨(some 53), none, .callG n_gimbalref08_Of [(.t 50), (.t 52), (.c (.int .i64 0))]⟩,
 ⟨(some 54), none, .callG n_gimbalref01_Of [(.c (.int .i64 1))]⟩,
 ⟨(some 55), none, .build [(.int .i64 0), .nil, .nil, .nil, (.bool false), (.sl []), (.bool false), (.sl [])] [(0, 1, (.t 48)), (1, 1, (.t 49)), (2, 4, (.t 53)), (6, 2, (.t 54))]⟩,
 ⟨none, none, .store 8 (.t 4) (.t 55)⟩,
 ⟨(some 5), none, .mov (.c (.int .i64 0))⟩]))
 .ret)))))))
def gimbalref17_New.res : List RX := [(4, some (8, true)), (5, none)]
theorem gimbalref17_New.m : mK pg Try.f26.ntmps gimbalref17_New.k (Try.f26.body.getD .skip) = true := by kernel_rfl
theorem gimbalref17_New.mr : mRes pg Try.f26.results.toList gimbalref17_New.res = true := by kernel_rfl
theorem gimbalref17_New.of {args : List V} {r : V} (hn : args.length = 2) (hW : W pg gimbalref17_New.k (done gimbalref17_New.res r) (start args)) : Ret pg n_gimbalref17_New args r :=
 Ret_of (fn := Try.f26) Try.func26 rfl (by kernel_rfl) gimbalref17_New.m gimbalref17_New.mr (by rw [hn]; exact of_decide_eq_true (by kernel_rfl)) hW
def gimbalref07_Of.k : K :=
 (.seq (.keep [0] (.ops false [⟨(some 2), none, .mov (.c .nil)⟩]))
 (.seq (.keep [0, 3] (.ops false [⟨(some 3), none, .mov (.c .nil)⟩]))
 (.seq (.seq (.keep [0, 3, 4] (.ops false [⟨(some 4), none, .mov (.c (.int .i64 0))⟩]))
 (.block 0 (.loop (.seq (.seq (.keep [0, 3, 4, 10] (.ops false [⟨(some 7), none, .mov (.t 4)⟩,
 ⟨(some 8), none, .mov (.t 0)⟩,
 ⟨(some 9), none, .len false (.t 8)⟩,
 ⟨(some 10), none, .bin .lss (.t 7) (.t 9)⟩]))
 (.cond (.t 10) .skip
 (.exit 0)))
 (.seq (.block 1 (.seq (.keep [0, 3, 4, 5] (.ops false [⟨(some 5), none, .mov (.c .nil)⟩]))
 (.seq (.seq (.keep [0, 3, 4, 5, 6] (.ops false [⟨(some 6), none, .mov (.c (.int .i64 0))⟩]))
 (.block 2 (.loop (.seq (.seq (.keep [0, 3, 4, 5, 6, 19] (.ops false [⟨(some 13), none, .mov (.t 6)⟩,
 ⟨(some 14), none, .mov (.t 0)⟩,
 ⟨(some 15), none, .mov (.t 4)⟩,
 ⟨(some 16), none, .idxA 1 (.t 14) (.t 15)⟩,
 ⟨(some 17), none, .load 1 false (.t 16)⟩,
 ⟨(some 18), none, .len false (.t 17)⟩,
 ⟨(some 19), none, .bin .lss (.t 13) (.t 18)⟩]))
 (.cond (.t 19) .skip
 (.exit 2)))
 (.seq (.block 3 (.keep [0, 3, 4, 5, 6] (.ops false [⟨(some 22), none, .mov (.t 5)⟩,
 ⟨(some 23), none, .mov (.t 0)⟩,
 ⟨(some 24), none, .mov (.t 4)⟩,
 ⟨(some 25), none, .idxA 1 (.t 23) (.t 24)⟩,
 ⟨(some 26), none, .load 1 false (.t 25)⟩,
 ⟨(some 27), none, .mov (.t 6)⟩,
 ⟨(some 28), none, .idxA 1 (.t 26) (.t 27)⟩,
 ⟨(some 29), none, .load 1 false (.t 28)⟩,
 ⟨(some 30), none, .callG n_gimbalref01_Of [(.t 29)]⟩,
 ⟨(some 31), none, .new (.bsl 2) [(.t 30)]⟩,
 ⟨(some 32), none, .eff (.app 2 32) [(.t 22), (.t 31)]⟩,
 ⟨(some 5), none, .mov (.t 32)⟩])))
 (.keep [0, 3, 4, 5, 6] (.ops false [⟨(some 20), none, .mov (.t 6)⟩,
 ⟨(some 21), none, .bin .add (.t 20) (.c (.int .i64 1))⟩,
 ⟨(some 6), none, .mov (.t 21)⟩])))))))
 (.gh (.keep [0, 3, 4] (.ops false [⟨(some 33), none, .mov (.t 3)⟩,
 ⟨(some 34), none, .mov (.t 5)⟩,
 ⟨(some 35), none, .new (.bsl 1) [(.t 34)]⟩,
 ⟨(some 36), none, .eff (.app 1 24) [(.t 33), (.t 35)]⟩,
 ⟨(some 3), none, .mov (.t 36)⟩]))))))
 (.keep [0, 3, 4] (.ops false [⟨(some 11), none, .mov (.t 4)⟩,
 ⟨(some 12), none, .bin .add (.t 11) (.c (.int .i64 1))⟩,
 ⟨(some 4), none, .mov (.t 12)⟩])))))))
 (.seq (.keep [2] (.ops false [⟨(some 37), none, .mov (.t 3)⟩,
 ⟨(some 2), none, .mov (.t 37)⟩]))
 .ret))))
def gimbalref07_Of.res : List RX := [(2, none)]
theorem gimbalref07_Of.m : mK pg Try.f67.ntmps gimbalref07_Of.k (Try.f67.body.getD .skip) = true := by kernel_rfl
theorem gimbalref07_Of.mr : mRes pg Try.f67.results.toList gimbalref07_Of.res = true := by kernel_rfl
theorem gimbalref07_Of.of {args : List V} {r : V} (hn : args.length = 1) (hW : W pg gimbalref07_Of.k (done gimbalref07_Of.res r) (start args)) : Ret pg n_gimbalref07_Of args r :=
 Ret_of (fn := Try.f67) Try.func67 rfl (by kernel_rfl) gimbalref07_Of.m gimbalref07_Of.mr (by rw [hn]; exact of_decide_eq_true (by kernel_rfl)) hW
def gimbalref08_Of.k : K :=
 (.seq (.keep [0, 1, 2, 6] (.ops false [⟨(some 6), none, .alloc 4 (.agg [.nil, .nil, (.bool false), (.sl [])])⟩]))
 (.seq (.keep [1, 6, 7] (.ops false [⟨(some 9), none, .mov (.t 0)⟩,
 ⟨(some 10), none, .callG n_gimbalref07_Of [(.t 9)]⟩,
 ⟨(some 11), none, .mov (.t 2)⟩,
 ⟨(some 12), none, .callG n_gimbalref01_Of [(.t 11)]⟩,
 ⟨(some 13), none, .build [.nil, .nil, (.bool false), (.sl [])] [(0, 1, (.t 10)), (2, 2, (.t 12))]⟩,
 ⟨(some 7), none, .alloc 4 (.agg [.nil, .nil, (.bool false), (.sl [])])⟩,
 ⟨none, none, .store 4 (.t 7) (.t 13)⟩]))
 (.seq (.seq (.keep [1, 6, 7, 8] (.ops false [⟨(some 8), none, .mov (.c (.int .i64 0))⟩]))
 (.block 0 (.loop (.seq (.seq (.keep [1, 6, 7, 8, 17] (.ops false [⟨(some 14), none, .mov (.t 8)⟩,
 ⟨(some 15), none, .mov (.t 1)⟩,
 ⟨(some 16), none, .len false (.t 15)⟩,
 ⟨(some 17), none, .bin .lss (.t 14) (.t 16)⟩]))
 (.cond (.t 17) .skip
 (.exit 0)))
 (.seq (.block 1 (.keep [1, 6, 7, 8] (.ops true [⟨(some 20), none, .fldA 1 1 false (.t 7)⟩,
 ⟨(some 21), none, .load 1 false (.t 20)⟩,
 ⟨(some 22), none, .mov (.t 1)⟩,
 ⟨(some 23), none, .mov (.t 8)⟩,
 ⟨(some 24), none, .idxA 1 (.t 22) (.t 23)⟩,
 ⟨(some 25), none, .load 1 false (.t 24)⟩,
 ⟨(some 26), none, .call n_gimbalref01_Of [(.t 25)]⟩,
 ⟨(some 27), none, .new (.bsl 2) [(.t 26)]⟩,
 ⟨(some 28), none, .eff (.app 2 32) [(.t 21), (.t 27)]⟩,
 ⟨(some 29), none, .fldA 1 1 false (.t 7)⟩,
 ⟨none, none, .store 1 (.t 29) (.t 28)⟩])))
 (.keep [1, 6, 7, 8] (.ops false [⟨(some 18), none, .mov (.t 8)⟩,
 ⟨(some 19), none, .bin .add (.t 18) (.c (.int .i64 1))⟩,
 ⟨(some 8), none, .mov (.t 19)⟩])))))))
 (.seq (.keep [6] (.ops false [⟨(some 30), none, .load 4 true (.t 7)⟩,
 ⟨none, none, .store 4 (.t 6) (.t 30)⟩]))
 .ret))))
def gimbalref08_Of.res : List RX := [(6, some (4, true))]
theorem gimbalref08_Of.m : mK pg Try.f30.ntmps gimbalref08_Of.k (Try.f30.body.getD .skip) = true := by kernel_rfl
theorem gimbalref08_Of.mr : mRes pg Try.f30.results.toList gimbalref08_Of.res = true := by kernel_rfl
theorem gimbalref08_Of.of {args : List V} {r : V} (hn : args.length = 3) (hW : W pg gimbalref08_Of.k (done gimbalref08_Of.res r) (start args)) : Ret pg n_gimbalref08_Of args r :=
 Ret_of (fn := Try.f30) Try.func30 rfl (by kernel_rfl) gimbalref08_Of.m gimbalref08_Of.mr (by rw [hn]; exact of_decide_eq_true (by kernel_rfl)) hW
end Go.Gim

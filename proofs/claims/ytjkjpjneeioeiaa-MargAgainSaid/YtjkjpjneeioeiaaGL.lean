import Derived.Test.YtjkjpjneeioeiaaGN
/- Functions' code as data (written by wip/tools/gen.py), and the step to their contracts. -/
set_option maxRecDepth 100000
namespace Go.Gim
open Go.Proofs
def long_Of.k : K :=
 (.seq (.keep [0, 2] (.ops false [⟨(some 2), none, .alloc 2 (.agg [(.bool false), .nil])⟩]))
 (.seq (.keep [0, 2, 3] (.ops false [⟨(some 4), none, .mov (.t 0)⟩,
 ⟨(some 5), none, .conv .u64 (.t 4)⟩,
 ⟨(some 3), none, .mov (.t 5)⟩]))
 (.seq (.seq (.keep [0, 2, 3, 7] (.ops false [⟨(some 6), none, .mov (.t 0)⟩,
 ⟨(some 7), none, .bin .lss (.t 6) (.c (.int .i64 0))⟩]))
 (.cond (.t 7) (.keep [0, 2, 3] (.ops false [⟨(some 8), none, .mov (.t 3)⟩,
 ⟨(some 9), none, .un .neg (.t 8)⟩,
 ⟨(some 3), none, .mov (.t 9)⟩]))
 .skip))
 (.seq (.keep [2] (.ops false [⟨(some 10), none, .mov (.t 0)⟩,
 ⟨(some 11), none, .bin .lss (.t 10) (.c (.int .i64 0))⟩,
 ⟨(some 12), none, .mov (.t 3)⟩,
 ⟨(some 13), none, .conv .u32 (.t 12)⟩,
 ⟨(some 14), none, .mov (.t 3)⟩,
 ⟨(some 15), none, .bin .shr (.t 14) (.c (.int .u64 32))⟩,
 ⟨(some 16), none, .conv .u32 (.t 15)⟩,
 ⟨(some 17), none, .new (.bsl 1) [(.t 13), (.t 16)]⟩,
 ⟨(some 18), none, .callG n_long_made [(.t 11), (.t 17)]⟩,
 ⟨none, none, .store 2 (.t 2) (.t 18)⟩]))
 .ret))))
def long_Of.res : List RX := [(2, some (2, true))]
theorem long_Of.m : mK pg Try.f18.ntmps long_Of.k (Try.f18.body.getD .skip) = true := by kernel_rfl
theorem long_Of.mr : mRes pg Try.f18.results.toList long_Of.res = true := by kernel_rfl
theorem long_Of.of {args : List V} {r : V} (hn : args.length = 1) (hW : W pg long_Of.k (done long_Of.res r) (start args)) : Ret pg n_long_Of args r :=
 Ret_of (fn := Try.f18) Try.func18 rfl (by kernel_rfl) long_Of.m long_Of.mr (by rw [hn]; exact of_decide_eq_true (by kernel_rfl)) hW
def long_made.k : K :=
 (.seq (.keep [0, 1, 4] (.ops false [⟨(some 4), none, .alloc 2 (.agg [(.bool false), .nil])⟩]))
 (.seq (.keep [0, 1, 4, 5] (.ops false [⟨(some 6), none, .mov (.t 1)⟩,
 ⟨(some 7), none, .len false (.t 6)⟩,
 ⟨(some 5), none, .mov (.t 7)⟩]))
 (.seq (.block 0 (.loop (.seq (.seq (.keep [0, 1, 4, 5, 17] (.ops false [⟨(some 8), none, .mov (.t 5)⟩,
 ⟨(some 9), none, .bin .gtr (.t 8) (.c (.int .i64 0))⟩,
 ⟨(some 10), none, .mov (.t 9)⟩,
 ⟨(some 11), (some (10, true)), .mov (.t 1)⟩,
 ⟨(some 12), (some (10, true)), .mov (.t 5)⟩,
 ⟨(some 13), (some (10, true)), .bin .sub (.t 12) (.c (.int .i64 1))⟩,
 ⟨(some 14), (some (10, true)), .idxA 1 (.t 11) (.t 13)⟩,
 ⟨(some 15), (some (10, true)), .load 1 false (.t 14)⟩,
 ⟨(some 16), (some (10, true)), .bin .eql (.t 15) (.c (.int .u32 0))⟩,
 ⟨(some 17), none, .pick (.t 10) (.t 16) (.c (.bool false))⟩]))
 (.cond (.t 17) .skip
 (.exit 0)))
 (.keep [0, 1, 4, 5] (.block 1 (.keep [0, 1, 4, 5] (.ops false [⟨(some 18), none, .mov (.t 5)⟩,
 ⟨(some 19), none, .bin .sub (.t 18) (.c (.int .i64 1))⟩,
 ⟨(some 5), none, .mov (.t 19)⟩])))))))
 (.seq (.keep [4] (.ops false [⟨(some 20), none, .mov (.t 0)⟩,
 ⟨(some 21), none, .mov (.t 20)⟩,
 ⟨(some 22), (some (21, true)), .mov (.t 5)⟩,
 ⟨(some 23), (some (21, true)), .bin .gtr (.t 22) (.c (.int .i64 0))⟩,
 ⟨(some 24), none, .pick (.t 21) (.t 23) (.c (.bool false))⟩,
 ⟨(some 25), none, .mov (.t 1)⟩,
 ⟨(some 26), none, .mov (.t 5)⟩,
 ⟨(some 27), none, .mov (.t 5)⟩,
 ⟨(some 28), none, .red (.slc 1 false true true) [(.t 25), (.t 26), (.t 27)]⟩,
 ⟨(some 29), none, .build [(.bool false), .nil] [(0, 1, (.t 24)), (1, 1, (.t 28))]⟩,
 ⟨none, none, .store 2 (.t 4) (.t 29)⟩]))
 .ret))))
def long_made.res : List RX := [(4, some (2, true))]
theorem long_made.m : mK pg Try.f51.ntmps long_made.k (Try.f51.body.getD .skip) = true := by kernel_rfl
theorem long_made.mr : mRes pg Try.f51.results.toList long_made.res = true := by kernel_rfl
theorem long_made.of {args : List V} {r : V} (hn : args.length = 2) (hW : W pg long_made.k (done long_made.res r) (start args)) : Ret pg n_long_made args r :=
 Ret_of (fn := Try.f51) Try.func51 rfl (by kernel_rfl) long_made.m long_made.mr (by rw [hn]; exact of_decide_eq_true (by kernel_rfl)) hW
def long_by.k : K :=
 (.seq (.keep [0, 1] (.ops false [⟨(some 4), none, .mov (.c .nil)⟩,
 ⟨(some 5), none, .mov (.c (.int .u32 0))⟩]))
 (.seq (.keep [0, 1, 6] (.ops false [⟨(some 9), none, .mov (.t 0)⟩,
 ⟨(some 10), none, .len false (.t 9)⟩,
 ⟨(some 11), none, .new (.mks 1 4 (.int .u32 0)) [(.t 10), (.t 10)]⟩,
 ⟨(some 6), none, .mov (.t 11)⟩]))
 (.seq (.keep [0, 1, 6, 7] (.ops false [⟨(some 7), none, .mov (.c (.int .u64 0))⟩]))
 (.seq (.seq (.keep [0, 1, 6, 7, 8] (.ops false [⟨(some 12), none, .mov (.t 0)⟩,
 ⟨(some 13), none, .len false (.t 12)⟩,
 ⟨(some 14), none, .bin .sub (.t 13) (.c (.int .i64 1))⟩,
 ⟨(some 8), none, .mov (.t 14)⟩]))
 (.block 0 (.loop (.seq (.seq (.keep [0, 1, 6, 7, 8, 16] (.ops false [⟨(some 15), none, .mov (.t 8)⟩,
 ⟨(some 16), none, .bin .geq (.t 15) (.c (.int .i64 0))⟩]))
 (.cond (.t 16) .skip
 (.exit 0)))
 (.seq (.block 1 (.seq (.keep [0, 1, 6, 7, 8] (.ops false [⟨(some 19), none, .mov (.t 7)⟩,
 ⟨(some 20), none, .bin .shl (.t 19) (.c (.int .u64 32))⟩,
 ⟨(some 21), none, .mov (.t 0)⟩,
 ⟨(some 22), none, .mov (.t 8)⟩,
 ⟨(some 23), none, .idxA 1 (.t 21) (.t 22)⟩,
 ⟨(some 24), none, .load 1 false (.t 23)⟩,
 ⟨(some 25), none, .conv .u64 (.t 24)⟩,
 ⟨(some 26), none, .bin .or (.t 20) (.t 25)⟩,
 ⟨(some 7), none, .mov (.t 26)⟩]))
 (.seq (.keep [0, 1, 6, 7, 8] (.ops false [⟨(some 27), none, .mov (.t 6)⟩,
 ⟨(some 28), none, .mov (.t 8)⟩,
 ⟨(some 29), none, .mov (.t 7)⟩,
 ⟨(some 30), none, .mov (.t 1)⟩,
 ⟨(some 31), none, .conv .u64 (.t 30)⟩,
 ⟨(some 32), none, .bin .quo (.t 29) (.t 31)⟩,
 ⟨(some 33), none, .conv .u32 (.t 32)⟩,
 ⟨(some 34), none, .idxA 1 (.t 27) (.t 28)⟩,
 ⟨none, none, .store 1 (.t 34) (.t 33)⟩]))
 (.keep [0, 1, 6, 7, 8] (.ops false [⟨(some 35), none, .mov (.t 7)⟩,
 ⟨(some 36), none, .mov (.t 1)⟩,
 ⟨(some 37), none, .conv .u64 (.t 36)⟩,
 ⟨(some 38), none, .bin .rem (.t 35) (.t 37)⟩,
 ⟨(some 7), none, .mov (.t 38)⟩])))))
 (.keep [0, 1, 6, 7, 8] (.ops false [⟨(some 17), none, .mov (.t 8)⟩,
 ⟨(some 18), none, .bin .sub (.t 17) (.c (.int .i64 1))⟩,
 ⟨(some 8), none, .mov (.t 18)⟩])))))))
 (.seq (.keep [4, 5] (.ops false [⟨(some 39), none, .mov (.t 6)⟩,
 ⟨(some 40), none, .mov (.t 7)⟩,
 ⟨(some 41), none, .conv .u32 (.t 40)⟩,
 ⟨(some 4), none, .mov (.t 39)⟩,
 ⟨(some 5), none, .mov (.t 41)⟩]))
 .ret)))))
def long_by.res : List RX := [(4, none), (5, none)]
theorem long_by.m : mK pg Try.f54.ntmps long_by.k (Try.f54.body.getD .skip) = true := by kernel_rfl
theorem long_by.mr : mRes pg Try.f54.results.toList long_by.res = true := by kernel_rfl
theorem long_by.of {args : List V} {r : V} (hn : args.length = 2) (hW : W pg long_by.k (done long_by.res r) (start args)) : Ret pg n_long_by args r :=
 Ret_of (fn := Try.f54) Try.func54 rfl (by kernel_rfl) long_by.m long_by.mr (by rw [hn]; exact of_decide_eq_true (by kernel_rfl)) hW
def long_plus.k : K :=
 (.seq (.keep [0, 1] (.ops false [⟨(some 4), none, .mov (.c .nil)⟩]))
 (.seq (.seq (.keep [0, 1, 12] (.ops false [⟨(some 8), none, .mov (.t 0)⟩,
 ⟨(some 9), none, .len false (.t 8)⟩,
 ⟨(some 10), none, .mov (.t 1)⟩,
 ⟨(some 11), none, .len false (.t 10)⟩,
 ⟨(some 12), none, .bin .lss (.t 9) (.t 11)⟩]))
 (.cond (.t 12) (.keep [0, 1] (.ops false [⟨(some 13), none, .mov (.t 1)⟩,
 ⟨(some 14), none, .mov (.t 0)⟩,
 ⟨(some 0), none, .mov (.t 13)⟩,
 ⟨(some 1), none, .mov (.t 14)⟩]))
 .skip))
 (.seq (.keep [0, 1, 5] (.ops false [⟨(some 15), none, .mov (.t 0)⟩,
 ⟨(some 16), none, .len false (.t 15)⟩,
 ⟨(some 17), none, .bin .add (.t 16) (.c (.int .i64 1))⟩,
 ⟨(some 18), none, .new (.mks 1 4 (.int .u32 0)) [(.t 17), (.t 17)]⟩,
 ⟨(some 5), none, .mov (.t 18)⟩]))
 (.seq (.keep [1, 5] (.ops false [⟨(some 19), none, .mov (.t 5)⟩,
 ⟨(some 20), none, .mov (.t 0)⟩,
 ⟨(some 21), none, .eff (.cpy 1) [(.t 19), (.t 20)]⟩]))
 (.seq (.keep [1, 5, 6] (.ops false [⟨(some 6), none, .mov (.c (.int .u64 0))⟩]))
 (.seq (.seq (.keep [1, 5, 6, 23, 24] (.ops false [⟨(some 22), none, .mov (.t 5)⟩,
 ⟨(some 23), none, .len false (.t 22)⟩,
 ⟨(some 24), none, .mov (.c (.int .i64 0))⟩]))
 (.block 0 (.loop (.seq (.keep [1, 5, 6, 23, 24, 25] (.ops false [⟨(some 25), none, .bin .lss (.t 24) (.t 23)⟩]))
 (.seq (.cond (.t 25) .skip
 (.exit 0))
 (.seq (.block 1 (.seq (.keep [1, 5, 6, 7, 23, 24] (.ops false [⟨(some 26), none, .mov (.t 24)⟩,
 ⟨(some 7), none, .mov (.t 26)⟩]))
 (.seq (.keep [1, 5, 6, 7, 23, 24] (.ops false [⟨(some 27), none, .mov (.t 6)⟩,
 ⟨(some 28), none, .mov (.t 5)⟩,
 ⟨(some 29), none, .mov (.t 7)⟩,
 ⟨(some 30), none, .idxA 1 (.t 28) (.t 29)⟩,
 ⟨(some 31), none, .load 1 false (.t 30)⟩,
 ⟨(some 32), none, .conv .u64 (.t 31)⟩,
 ⟨(some 33), none, .bin .add (.t 27) (.t 32)⟩,
 ⟨(some 6), none, .mov (.t 33)⟩]))
 (.seq (.seq (.keep [1, 5, 6, 7, 23, 24, 37] (.ops false [⟨(some 34), none, .mov (.t 7)⟩,
 ⟨(some 35), none, .mov (.t 1)⟩,
 ⟨(some 36), none, .len false (.t 35)⟩,
 ⟨(some 37), none, .bin .lss (.t 34) (.t 36)⟩]))
 (.cond (.t 37) (.keep [1, 5, 6, 7, 23, 24] (.ops false [⟨(some 38), none, .mov (.t 6)⟩,
 ⟨(some 39), none, .mov (.t 1)⟩,
 ⟨(some 40), none, .mov (.t 7)⟩,
 ⟨(some 41), none, .idxA 1 (.t 39) (.t 40)⟩,
 ⟨(some 42), none, .load 1 false (.t 41)⟩,
 ⟨(some 43), none, .conv .u64 (.t 42)⟩,
 ⟨(some 44), none, .bin .add (.t 38) (.t 43)⟩,
 ⟨(some 6), none, .mov (.t 44)⟩]))
 .skip))
 (.seq (.keep [1, 5, 6, 23, 24] (.ops false [⟨(some 45), none, .mov (.t 5)⟩,
 ⟨(some 46), none, .mov (.t 7)⟩,
 ⟨(some 47), none, .mov (.t 6)⟩,
 ⟨(some 48), none, .conv .u32 (.t 47)⟩,
 ⟨(some 49), none, .idxA 1 (.t 45) (.t 46)⟩,
 ⟨none, none, .store 1 (.t 49) (.t 48)⟩]))
 (.keep [1, 5, 6, 23, 24] (.ops false [⟨(some 50), none, .mov (.t 6)⟩,
 ⟨(some 51), none, .bin .shr (.t 50) (.c (.int .u64 32))⟩,
 ⟨(some 6), none, .mov (.t 51)⟩])))))))
 (.keep [1, 5, 6, 23, 24] (.ops false [⟨(some 52), none, .bin .add (.t 24) (.c (.int .i64 1))⟩,
 ⟨(some 24), none, .mov (.t 52)⟩]))))))))
 (.seq (.keep [4] (.ops false [⟨(some 53), none, .mov (.t 5)⟩,
 ⟨(some 4), none, .mov (.t 53)⟩]))
 .ret)))))))
def long_plus.res : List RX := [(4, none)]
theorem long_plus.m : mK pg Try.f56.ntmps long_plus.k (Try.f56.body.getD .skip) = true := by kernel_rfl
theorem long_plus.mr : mRes pg Try.f56.results.toList long_plus.res = true := by kernel_rfl
theorem long_plus.of {args : List V} {r : V} (hn : args.length = 2) (hW : W pg long_plus.k (done long_plus.res r) (start args)) : Ret pg n_long_plus args r :=
 Ret_of (fn := Try.f56) Try.func56 rfl (by kernel_rfl) long_plus.m long_plus.mr (by rw [hn]; exact of_decide_eq_true (by kernel_rfl)) hW
def long_cmp.k : K :=
 (.seq (.keep [0, 1] (.ops false [⟨(some 4), none, .mov (.c (.int .i64 0))⟩]))
 (.seq (.seq (.keep [0, 1, 10] (.ops false [⟨(some 6), none, .mov (.t 0)⟩,
 ⟨(some 7), none, .len false (.t 6)⟩,
 ⟨(some 8), none, .mov (.t 1)⟩,
 ⟨(some 9), none, .len false (.t 8)⟩,
 ⟨(some 10), none, .bin .neq (.t 7) (.t 9)⟩]))
 (.cond (.t 10) (.seq (.seq (.keep [15] (.ops false [⟨(some 11), none, .mov (.t 0)⟩,
 ⟨(some 12), none, .len false (.t 11)⟩,
 ⟨(some 13), none, .mov (.t 1)⟩,
 ⟨(some 14), none, .len false (.t 13)⟩,
 ⟨(some 15), none, .bin .lss (.t 12) (.t 14)⟩]))
 (.cond (.t 15) (.seq (.keep [4] (.ops false [⟨(some 4), none, .mov (.c (.int .i64 (-1)))⟩]))
 .ret)
 .skip))
 (.seq (.keep [4] (.ops false [⟨(some 4), none, .mov (.c (.int .i64 1))⟩]))
 .ret))
 .skip))
 (.seq (.seq (.keep [0, 1, 5] (.ops false [⟨(some 16), none, .mov (.t 0)⟩,
 ⟨(some 17), none, .len false (.t 16)⟩,
 ⟨(some 18), none, .bin .sub (.t 17) (.c (.int .i64 1))⟩,
 ⟨(some 5), none, .mov (.t 18)⟩]))
 (.block 0 (.loop (.seq (.seq (.keep [0, 1, 5, 20] (.ops false [⟨(some 19), none, .mov (.t 5)⟩,
 ⟨(some 20), none, .bin .geq (.t 19) (.c (.int .i64 0))⟩]))
 (.cond (.t 20) .skip
 (.exit 0)))
 (.seq (.block 1 (.block 2 (.seq (.keep [0, 1, 5, 23] (.ops true [⟨(some 24), none, .mov (.t 0)⟩,
 ⟨(some 25), none, .mov (.t 5)⟩,
 ⟨(some 26), none, .idxA 1 (.t 24) (.t 25)⟩,
 ⟨(some 27), none, .load 1 false (.t 26)⟩,
 ⟨(some 28), none, .mov (.t 1)⟩,
 ⟨(some 29), none, .mov (.t 5)⟩,
 ⟨(some 30), none, .idxA 1 (.t 28) (.t 29)⟩,
 ⟨(some 31), none, .load 1 false (.t 30)⟩,
 ⟨(some 32), none, .bin .lss (.t 27) (.t 31)⟩,
 ⟨(some 23), none, .mov (.t 32)⟩]))
 (.cond (.t 23) (.seq (.keep [4] (.ops false [⟨(some 4), none, .mov (.c (.int .i64 (-1)))⟩]))
 .ret)
 (.seq (.keep [0, 1, 5, 33] (.ops true [⟨(some 34), none, .mov (.t 0)⟩,
 ⟨(some 35), none, .mov (.t 5)⟩,
 ⟨(some 36), none, .idxA 1 (.t 34) (.t 35)⟩,
 ⟨(some 37), none, .load 1 false (.t 36)⟩,
 ⟨(some 38), none, .mov (.t 1)⟩,
 ⟨(some 39), none, .mov (.t 5)⟩,
 ⟨(some 40), none, .idxA 1 (.t 38) (.t 39)⟩,
 ⟨(some 41), none, .load 1 false (.t 40)⟩,
 ⟨(some 42), none, .bin .gtr (.t 37) (.t 41)⟩,
 ⟨(some 33), none, .mov (.t 42)⟩]))
 (.cond (.t 33) (.seq (.keep [4] (.ops false [⟨(some 4), none, .mov (.c (.int .i64 1))⟩]))
 .ret)
 .skip))))))
 (.keep [0, 1, 5] (.ops false [⟨(some 21), none, .mov (.t 5)⟩,
 ⟨(some 22), none, .bin .sub (.t 21) (.c (.int .i64 1))⟩,
 ⟨(some 5), none, .mov (.t 22)⟩])))))))
 (.seq (.keep [4] (.ops false [⟨(some 4), none, .mov (.c (.int .i64 0))⟩]))
 .ret))))
def long_cmp.res : List RX := [(4, none)]
theorem long_cmp.m : mK pg Try.f57.ntmps long_cmp.k (Try.f57.body.getD .skip) = true := by kernel_rfl
theorem long_cmp.mr : mRes pg Try.f57.results.toList long_cmp.res = true := by kernel_rfl
theorem long_cmp.of {args : List V} {r : V} (hn : args.length = 2) (hW : W pg long_cmp.k (done long_cmp.res r) (start args)) : Ret pg n_long_cmp args r :=
 Ret_of (fn := Try.f57) Try.func57 rfl (by kernel_rfl) long_cmp.m long_cmp.mr (by rw [hn]; exact of_decide_eq_true (by kernel_rfl)) hW
def long_less.k : K :=
 (.seq (.keep [0, 1] (.ops false [⟨(some 4), none, .mov (.c .nil)⟩]))
 (.seq (.keep [1, 5] (.ops false [⟨(some 9), none, .mov (.t 0)⟩,
 ⟨(some 10), none, .callG n_slices_Clone_Luint32_uint32 [(.t 9)]⟩,
 ⟨(some 5), none, .mov (.t 10)⟩]))
 (.seq (.keep [1, 5, 6] (.ops false [⟨(some 6), none, .mov (.c (.int .u64 0))⟩]))
 (.seq (.seq (.keep [1, 5, 6, 12, 13] (.ops false [⟨(some 11), none, .mov (.t 5)⟩,
 ⟨(some 12), none, .len false (.t 11)⟩,
 ⟨(some 13), none, .mov (.c (.int .i64 0))⟩]))
 (.block 0 (.loop (.seq (.keep [1, 5, 6, 12, 13, 14] (.ops false [⟨(some 14), none, .bin .lss (.t 13) (.t 12)⟩]))
 (.seq (.cond (.t 14) .skip
 (.exit 0))
 (.seq (.block 1 (.seq (.keep [1, 5, 6, 7, 12, 13] (.ops false [⟨(some 15), none, .mov (.t 13)⟩,
 ⟨(some 7), none, .mov (.t 15)⟩]))
 (.seq (.keep [1, 5, 7, 8, 12, 13] (.ops false [⟨(some 16), none, .mov (.t 5)⟩,
 ⟨(some 17), none, .mov (.t 7)⟩,
 ⟨(some 18), none, .idxA 1 (.t 16) (.t 17)⟩,
 ⟨(some 19), none, .load 1 false (.t 18)⟩,
 ⟨(some 20), none, .conv .u64 (.t 19)⟩,
 ⟨(some 21), none, .mov (.t 6)⟩,
 ⟨(some 22), none, .bin .sub (.t 20) (.t 21)⟩,
 ⟨(some 8), none, .mov (.t 22)⟩]))
 (.seq (.seq (.keep [1, 5, 7, 8, 12, 13, 26] (.ops false [⟨(some 23), none, .mov (.t 7)⟩,
 ⟨(some 24), none, .mov (.t 1)⟩,
 ⟨(some 25), none, .len false (.t 24)⟩,
 ⟨(some 26), none, .bin .lss (.t 23) (.t 25)⟩]))
 (.cond (.t 26) (.keep [1, 5, 7, 8, 12, 13] (.ops false [⟨(some 27), none, .mov (.t 8)⟩,
 ⟨(some 28), none, .mov (.t 1)⟩,
 ⟨(some 29), none, .mov (.t 7)⟩,
 ⟨(some 30), none, .idxA 1 (.t 28) (.t 29)⟩,
 ⟨(some 31), none, .load 1 false (.t 30)⟩,
 ⟨(some 32), none, .conv .u64 (.t 31)⟩,
 ⟨(some 33), none, .bin .sub (.t 27) (.t 32)⟩,
 ⟨(some 8), none, .mov (.t 33)⟩]))
 .skip))
 (.seq (.keep [1, 5, 8, 12, 13] (.ops false [⟨(some 34), none, .mov (.t 5)⟩,
 ⟨(some 35), none, .mov (.t 7)⟩,
 ⟨(some 36), none, .mov (.t 8)⟩,
 ⟨(some 37), none, .conv .u32 (.t 36)⟩,
 ⟨(some 38), none, .idxA 1 (.t 34) (.t 35)⟩,
 ⟨none, none, .store 1 (.t 38) (.t 37)⟩]))
 (.keep [1, 5, 6, 12, 13] (.ops false [⟨(some 39), none, .mov (.t 8)⟩,
 ⟨(some 40), none, .bin .shr (.t 39) (.c (.int .u64 63))⟩,
 ⟨(some 6), none, .mov (.t 40)⟩])))))))
 (.keep [1, 5, 6, 12, 13] (.ops false [⟨(some 41), none, .bin .add (.t 13) (.c (.int .i64 1))⟩,
 ⟨(some 13), none, .mov (.t 41)⟩]))))))))
 (.seq (.keep [4] (.ops false [⟨(some 42), none, .mov (.t 5)⟩,
 ⟨(some 4), none, .mov (.t 42)⟩]))
 .ret)))))
def long_less.res : List RX := [(4, none)]
theorem long_less.m : mK pg Try.f58.ntmps long_less.k (Try.f58.body.getD .skip) = true := by kernel_rfl
theorem long_less.mr : mRes pg Try.f58.results.toList long_less.res = true := by kernel_rfl
theorem long_less.ofG {args : List V} {H : Hp} {n : Nat} {Q : V → Hp → Nat → Prop} (hn : args.length = 2) (hW : W pg long_less.k (doneG long_less.res (fun r H' n' => n ≤ n' ∧ Q r H' n')) (startG args H n)) : ∃ r H' n', Q r H' n' ∧ RetG pg n_long_less args H n r H' n' :=
 RetG_of (fn := Try.f58) Try.func58 rfl (by kernel_rfl) long_less.m long_less.mr (by rw [hn]; exact of_decide_eq_true (by kernel_rfl)) hW
def long_parted.k : K :=
 (.seq (.keep [0, 1] (.ops false [⟨(some 4), none, .mov (.c .nil)⟩,
 ⟨(some 5), none, .mov (.c .nil)⟩]))
 (.seq (.block 0 (.seq (.keep [0, 1, 14] (.ops false [⟨(some 15), none, .mov (.t 0)⟩,
 ⟨(some 16), none, .mov (.t 1)⟩,
 ⟨(some 17), none, .callG n_long_cmp [(.t 15), (.t 16)]⟩,
 ⟨(some 18), none, .bin .lss (.t 17) (.c (.int .i64 0))⟩,
 ⟨(some 14), none, .mov (.t 18)⟩]))
 (.cond (.t 14) (.seq (.keep [4, 5] (.ops false [⟨(some 19), none, .mov (.t 0)⟩,
 ⟨(some 4), none, .mov (.c .nil)⟩,
 ⟨(some 5), none, .mov (.t 19)⟩]))
 .ret)
 (.seq (.keep [0, 1, 20] (.ops false [⟨(some 21), none, .mov (.t 1)⟩,
 ⟨(some 22), none, .len false (.t 21)⟩,
 ⟨(some 23), none, .bin .eql (.t 22) (.c (.int .i64 1))⟩,
 ⟨(some 20), none, .mov (.t 23)⟩]))
 (.cond (.t 20) (.seq (.keep [6, 7] (.ops false [⟨(some 25), none, .mov (.t 0)⟩,
 ⟨(some 26), none, .mov (.t 1)⟩,
 ⟨(some 27), none, .idxA 1 (.t 26) (.c (.int .i64 0))⟩,
 ⟨(some 28), none, .load 1 false (.t 27)⟩,
 ⟨(some 29), none, .callG n_long_by [(.t 25), (.t 28)]⟩,
 ⟨(some 24), none, .mov (.t 29)⟩,
 ⟨(some 30), none, .ext (.t 24) 0⟩,
 ⟨(some 31), none, .ext (.t 24) 1⟩,
 ⟨(some 6), none, .mov (.t 30)⟩,
 ⟨(some 7), none, .mov (.t 31)⟩]))
 (.seq (.keep [4, 5] (.ops false [⟨(some 32), none, .mov (.t 6)⟩,
 ⟨(some 33), none, .mov (.t 7)⟩,
 ⟨(some 34), none, .new (.bsl 1) [(.t 33)]⟩,
 ⟨(some 4), none, .mov (.t 32)⟩,
 ⟨(some 5), none, .mov (.t 34)⟩]))
 .ret))
 .skip)))))
 (.seq (.keep [0, 1, 8] (.ops false [⟨(some 35), none, .mov (.t 1)⟩,
 ⟨(some 36), none, .mov (.t 1)⟩,
 ⟨(some 37), none, .len false (.t 36)⟩,
 ⟨(some 38), none, .bin .sub (.t 37) (.c (.int .i64 1))⟩,
 ⟨(some 39), none, .idxA 1 (.t 35) (.t 38)⟩,
 ⟨(some 40), none, .load 1 false (.t 39)⟩,
 ⟨(some 41), none, .callG n_math_bits_LeadingZeros32 [(.t 40)]⟩,
 ⟨(some 8), none, .mov (.t 41)⟩]))
 (.seq (.keep [1, 8, 9] (.ops false [⟨(some 42), none, .mov (.t 0)⟩,
 ⟨(some 43), none, .mov (.t 8)⟩,
 ⟨(some 44), none, .callG n_long_shifted [(.t 42), (.t 43)]⟩,
 ⟨(some 9), none, .mov (.t 44)⟩]))
 (.seq (.keep [4, 8, 9] (.ops false [⟨(some 45), none, .mov (.t 9)⟩,
 ⟨(some 46), none, .mov (.t 1)⟩,
 ⟨(some 47), none, .mov (.t 8)⟩,
 ⟨(some 48), none, .callG n_long_shifted [(.t 46), (.t 47)]⟩,
 ⟨(some 49), none, .mov (.t 1)⟩,
 ⟨(some 50), none, .len false (.t 49)⟩,
 ⟨(some 51), none, .red (.slc 1 false true false) [(.t 48), (.t 50)]⟩,
 ⟨(some 52), none, .callG n_long_long [(.t 45), (.t 51)]⟩,
 ⟨(some 4), none, .mov (.t 52)⟩]))
 (.seq (.keep [4, 8, 10] (.ops false [⟨(some 53), none, .mov (.t 9)⟩,
 ⟨(some 54), none, .callG n_long_made [(.c (.bool false)), (.t 53)]⟩,
 ⟨(some 55), none, .fld 1 1 false (.t 54)⟩,
 ⟨(some 10), none, .mov (.t 55)⟩]))
 (.seq (.keep [4, 8, 10, 11] (.ops false [⟨(some 56), none, .mov (.t 10)⟩,
 ⟨(some 57), none, .len false (.t 56)⟩,
 ⟨(some 58), none, .new (.mks 1 4 (.int .u32 0)) [(.t 57), (.t 57)]⟩,
 ⟨(some 11), none, .mov (.t 58)⟩]))
 (.seq (.seq (.keep [4, 8, 11, 59, 60, 61] (.ops false [⟨(some 59), none, .mov (.t 10)⟩,
 ⟨(some 60), none, .len false (.t 59)⟩,
 ⟨(some 61), none, .mov (.c (.int .i64 0))⟩]))
 (.block 1 (.loop (.seq (.keep [4, 8, 11, 59, 60, 61, 62] (.ops false [⟨(some 62), none, .bin .lss (.t 61) (.t 60)⟩]))
 (.seq (.cond (.t 62) .skip
 (.exit 1))
 (.seq (.block 2 (.seq (.keep [4, 8, 11, 12, 13, 59, 60, 61] (.ops false [⟨(some 63), none, .mov (.t 61)⟩,
 ⟨(some 64), none, .idxA 1 (.t 59) (.t 61)⟩,
 ⟨(some 65), none, .load 1 false (.t 64)⟩,
 ⟨(some 12), none, .mov (.t 63)⟩,
 ⟨(some 13), none, .mov (.t 65)⟩]))
 (.seq (.keep [4, 8, 11, 12, 13, 59, 60, 61] (.ops true [⟨(some 66), none, .mov (.t 11)⟩,
 ⟨(some 67), none, .mov (.t 12)⟩,
 ⟨(some 68), none, .idxA 1 (.t 66) (.t 67)⟩,
 ⟨(some 69), none, .load 1 false (.t 68)⟩,
 ⟨(some 70), none, .mov (.t 13)⟩,
 ⟨(some 71), none, .mov (.t 8)⟩,
 ⟨(some 72), none, .bin .shr (.t 70) (.t 71)⟩,
 ⟨(some 73), none, .bin .or (.t 69) (.t 72)⟩,
 ⟨(some 74), none, .idxA 1 (.t 66) (.t 67)⟩,
 ⟨none, none, .store 1 (.t 74) (.t 73)⟩]))
 (.seq (.keep [4, 8, 11, 12, 13, 59, 60, 61, 76] (.ops false [⟨(some 75), none, .mov (.t 12)⟩,
 ⟨(some 76), none, .bin .gtr (.t 75) (.c (.int .i64 0))⟩]))
 (.cond (.t 76) (.keep [4, 8, 11, 59, 60, 61] (.ops true [⟨(some 77), none, .mov (.t 11)⟩,
 ⟨(some 78), none, .mov (.t 12)⟩,
 ⟨(some 79), none, .bin .sub (.t 78) (.c (.int .i64 1))⟩,
 ⟨(some 80), none, .idxA 1 (.t 77) (.t 79)⟩,
 ⟨(some 81), none, .load 1 false (.t 80)⟩,
 ⟨(some 82), none, .mov (.t 13)⟩,
 ⟨(some 83), none, .conv .u64 (.t 82)⟩,
 ⟨(some 84), none, .mov (.t 8)⟩,
 ⟨(some 85), none, .bin .sub (.c (.int .i64 32)) (.t 84)⟩,
 ⟨(some 86), none, .bin .shl (.t 83) (.t 85)⟩,
 ⟨(some 87), none, .conv .u32 (.t 86)⟩,
 ⟨(some 88), none, .bin .or (.t 81) (.t 87)⟩,
 ⟨(some 89), none, .idxA 1 (.t 77) (.t 79)⟩,
 ⟨none, none, .store 1 (.t 89) (.t 88)⟩]))
 .skip)))))
 (.keep [4, 8, 11, 59, 60, 61] (.ops false [⟨(some 90), none, .bin .add (.t 61) (.c (.int .i64 1))⟩,
 ⟨(some 61), none, .mov (.t 90)⟩]))))))))
 (.seq (.keep [4, 5] (.ops false [⟨(some 91), none, .mov (.t 4)⟩,
 ⟨(some 92), none, .mov (.t 11)⟩,
 ⟨(some 4), none, .mov (.t 91)⟩,
 ⟨(some 5), none, .mov (.t 92)⟩]))
 .ret)))))))))
def long_parted.res : List RX := [(4, none), (5, none)]
theorem long_parted.m : mK pg Try.f91.ntmps long_parted.k (Try.f91.body.getD .skip) = true := by kernel_rfl
theorem long_parted.mr : mRes pg Try.f91.results.toList long_parted.res = true := by kernel_rfl
theorem long_parted.of {args : List V} {r : V} (hn : args.length = 2) (hW : W pg long_parted.k (done long_parted.res r) (start args)) : Ret pg n_long_parted args r :=
 Ret_of (fn := Try.f91) Try.func91 rfl (by kernel_rfl) long_parted.m long_parted.mr (by rw [hn]; exact of_decide_eq_true (by kernel_rfl)) hW
theorem long_parted.ofG {args : List V} {H : Hp} {n : Nat} {Q : V → Hp → Nat → Prop} (hn : args.length = 2) (hW : W pg long_parted.k (doneG long_parted.res (fun r H' n' => n ≤ n' ∧ Q r H' n')) (startG args H n)) : ∃ r H' n', Q r H' n' ∧ RetG pg n_long_parted args H n r H' n' :=
 RetG_of (fn := Try.f91) Try.func91 rfl (by kernel_rfl) long_parted.m long_parted.mr (by rw [hn]; exact of_decide_eq_true (by kernel_rfl)) hW
def long_shifted.k : K :=
 (.seq (.keep [0, 1] (.ops false [⟨(some 4), none, .mov (.c .nil)⟩]))
 (.seq (.keep [0, 1, 5] (.ops false [⟨(some 9), none, .mov (.t 0)⟩,
 ⟨(some 10), none, .len false (.t 9)⟩,
 ⟨(some 11), none, .bin .add (.t 10) (.c (.int .i64 1))⟩,
 ⟨(some 12), none, .new (.mks 1 4 (.int .u32 0)) [(.t 11), (.t 11)]⟩,
 ⟨(some 5), none, .mov (.t 12)⟩]))
 (.seq (.seq (.keep [1, 5, 13, 14, 15] (.ops false [⟨(some 13), none, .mov (.t 0)⟩,
 ⟨(some 14), none, .len false (.t 13)⟩,
 ⟨(some 15), none, .mov (.c (.int .i64 0))⟩]))
 (.block 0 (.loop (.seq (.keep [1, 5, 13, 14, 15, 16] (.ops false [⟨(some 16), none, .bin .lss (.t 15) (.t 14)⟩]))
 (.seq (.cond (.t 16) .skip
 (.exit 0))
 (.seq (.block 1 (.seq (.keep [1, 5, 6, 7, 13, 14, 15] (.ops false [⟨(some 17), none, .mov (.t 15)⟩,
 ⟨(some 18), none, .idxA 1 (.t 13) (.t 15)⟩,
 ⟨(some 19), none, .load 1 false (.t 18)⟩,
 ⟨(some 6), none, .mov (.t 17)⟩,
 ⟨(some 7), none, .mov (.t 19)⟩]))
 (.seq (.keep [1, 5, 6, 8, 13, 14, 15] (.ops false [⟨(some 20), none, .mov (.t 7)⟩,
 ⟨(some 21), none, .conv .u64 (.t 20)⟩,
 ⟨(some 22), none, .mov (.t 1)⟩,
 ⟨(some 23), none, .bin .shl (.t 21) (.t 22)⟩,
 ⟨(some 8), none, .mov (.t 23)⟩]))
 (.seq (.keep [1, 5, 6, 8, 13, 14, 15] (.ops false [⟨(some 24), none, .mov (.t 5)⟩,
 ⟨(some 25), none, .mov (.t 6)⟩,
 ⟨(some 26), none, .idxA 1 (.t 24) (.t 25)⟩,
 ⟨(some 27), none, .load 1 false (.t 26)⟩,
 ⟨(some 28), none, .mov (.t 8)⟩,
 ⟨(some 29), none, .conv .u32 (.t 28)⟩,
 ⟨(some 30), none, .bin .or (.t 27) (.t 29)⟩,
 ⟨(some 31), none, .idxA 1 (.t 24) (.t 25)⟩,
 ⟨none, none, .store 1 (.t 31) (.t 30)⟩]))
 (.keep [1, 5, 13, 14, 15] (.ops false [⟨(some 32), none, .mov (.t 5)⟩,
 ⟨(some 33), none, .mov (.t 6)⟩,
 ⟨(some 34), none, .bin .add (.t 33) (.c (.int .i64 1))⟩,
 ⟨(some 35), none, .idxA 1 (.t 32) (.t 34)⟩,
 ⟨(some 36), none, .load 1 false (.t 35)⟩,
 ⟨(some 37), none, .mov (.t 8)⟩,
 ⟨(some 38), none, .bin .shr (.t 37) (.c (.int .u64 32))⟩,
 ⟨(some 39), none, .conv .u32 (.t 38)⟩,
 ⟨(some 40), none, .bin .or (.t 36) (.t 39)⟩,
 ⟨(some 41), none, .idxA 1 (.t 32) (.t 34)⟩,
 ⟨none, none, .store 1 (.t 41) (.t 40)⟩]))))))
 (.keep [1, 5, 13, 14, 15] (.ops false [⟨(some 42), none, .bin .add (.t 15) (.c (.int .i64 1))⟩,
 ⟨(some 15), none, .mov (.t 42)⟩]))))))))
 (.seq (.keep [4] (.ops false [⟨(some 43), none, .mov (.t 5)⟩,
 ⟨(some 4), none, .mov (.t 43)⟩]))
 .ret))))
def long_shifted.res : List RX := [(4, none)]
theorem long_shifted.m : mK pg Try.f96.ntmps long_shifted.k (Try.f96.body.getD .skip) = true := by kernel_rfl
theorem long_shifted.mr : mRes pg Try.f96.results.toList long_shifted.res = true := by kernel_rfl
theorem long_shifted.ofG {args : List V} {H : Hp} {n : Nat} {Q : V → Hp → Nat → Prop} (hn : args.length = 2) (hW : W pg long_shifted.k (doneG long_shifted.res (fun r H' n' => n ≤ n' ∧ Q r H' n')) (startG args H n)) : ∃ r H' n', Q r H' n' ∧ RetG pg n_long_shifted args H n r H' n' :=
 RetG_of (fn := Try.f96) Try.func96 rfl (by kernel_rfl) long_shifted.m long_shifted.mr (by rw [hn]; exact of_decide_eq_true (by kernel_rfl)) hW
def long_long.k : K :=
 (.seq (.keep [0, 1] (.ops false [⟨(some 4), none, .mov (.c .nil)⟩]))
 (.seq (.keep [0, 1, 5] (.ops false [⟨(some 10), none, .mov (.t 1)⟩,
 ⟨(some 11), none, .len false (.t 10)⟩,
 ⟨(some 5), none, .mov (.t 11)⟩]))
 (.seq (.keep [0, 1, 5, 6] (.ops false [⟨(some 12), none, .mov (.t 0)⟩,
 ⟨(some 13), none, .len false (.t 12)⟩,
 ⟨(some 14), none, .mov (.t 5)⟩,
 ⟨(some 15), none, .bin .sub (.t 13) (.t 14)⟩,
 ⟨(some 16), none, .mm true (.c (.int .i64 0)) [(.t 15)]⟩,
 ⟨(some 17), none, .new (.mks 1 4 (.int .u32 0)) [(.t 16), (.t 16)]⟩,
 ⟨(some 6), none, .mov (.t 17)⟩]))
 (.seq (.seq (.keep [0, 1, 5, 6, 7] (.ops false [⟨(some 18), none, .mov (.t 0)⟩,
 ⟨(some 19), none, .len false (.t 18)⟩,
 ⟨(some 20), none, .mov (.t 5)⟩,
 ⟨(some 21), none, .bin .sub (.t 19) (.t 20)⟩,
 ⟨(some 22), none, .bin .sub (.t 21) (.c (.int .i64 1))⟩,
 ⟨(some 7), none, .mov (.t 22)⟩]))
 (.block 0 (.loop (.seq (.seq (.keep [0, 1, 5, 6, 7, 24] (.ops false [⟨(some 23), none, .mov (.t 7)⟩,
 ⟨(some 24), none, .bin .geq (.t 23) (.c (.int .i64 0))⟩]))
 (.cond (.t 24) .skip
 (.exit 0)))
 (.seq (.block 1 (.seq (.keep [0, 1, 5, 6, 7, 8] (.ops true [⟨(some 27), none, .mov (.t 0)⟩,
 ⟨(some 28), none, .mov (.t 7)⟩,
 ⟨(some 29), none, .mov (.t 5)⟩,
 ⟨(some 30), none, .bin .add (.t 28) (.t 29)⟩,
 ⟨(some 31), none, .idxA 1 (.t 27) (.t 30)⟩,
 ⟨(some 32), none, .load 1 false (.t 31)⟩,
 ⟨(some 33), none, .conv .u64 (.t 32)⟩,
 ⟨(some 34), none, .bin .shl (.t 33) (.c (.int .u64 32))⟩,
 ⟨(some 35), none, .mov (.t 0)⟩,
 ⟨(some 36), none, .mov (.t 7)⟩,
 ⟨(some 37), none, .mov (.t 5)⟩,
 ⟨(some 38), none, .bin .add (.t 36) (.t 37)⟩,
 ⟨(some 39), none, .bin .sub (.t 38) (.c (.int .i64 1))⟩,
 ⟨(some 40), none, .idxA 1 (.t 35) (.t 39)⟩,
 ⟨(some 41), none, .load 1 false (.t 40)⟩,
 ⟨(some 42), none, .conv .u64 (.t 41)⟩,
 ⟨(some 43), none, .bin .or (.t 34) (.t 42)⟩,
 ⟨(some 8), none, .mov (.t 43)⟩]))
 (.seq (.keep [0, 1, 5, 6, 7, 9] (.ops false [⟨(some 44), none, .mov (.t 8)⟩,
 ⟨(some 45), none, .mov (.t 1)⟩,
 ⟨(some 46), none, .mov (.t 5)⟩,
 ⟨(some 47), none, .bin .sub (.t 46) (.c (.int .i64 1))⟩,
 ⟨(some 48), none, .idxA 1 (.t 45) (.t 47)⟩,
 ⟨(some 49), none, .load 1 false (.t 48)⟩,
 ⟨(some 50), none, .conv .u64 (.t 49)⟩,
 ⟨(some 51), none, .bin .quo (.t 44) (.t 50)⟩,
 ⟨(some 52), none, .mm false (.t 51) [(.c (.int .u64 4294967295))]⟩,
 ⟨(some 9), none, .mov (.t 52)⟩]))
 (.seq (.block 2 (.loop (.seq (.seq (.keep [0, 1, 5, 6, 7, 9, 63] (.ops false [⟨(some 53), none, .mov (.t 0)⟩,
 ⟨(some 54), none, .mov (.t 7)⟩,
 ⟨(some 55), none, .mov (.t 7)⟩,
 ⟨(some 56), none, .mov (.t 5)⟩,
 ⟨(some 57), none, .bin .add (.t 55) (.t 56)⟩,
 ⟨(some 58), none, .bin .add (.t 57) (.c (.int .i64 1))⟩,
 ⟨(some 59), none, .win 1 (.t 53) (.t 54) (.t 58)⟩,
 ⟨(some 60), none, .mov (.t 1)⟩,
 ⟨(some 61), none, .mov (.t 9)⟩,
 ⟨(some 62), none, .conv .u32 (.t 61)⟩,
 ⟨(some 63), none, .callG n_long_takes [(.t 59), (.t 60), (.t 62)]⟩]))
 (.cond (.t 63) .skip
 (.exit 2)))
 (.keep [0, 1, 5, 6, 7, 9] (.block 3 (.keep [0, 1, 5, 6, 7, 9] (.ops false [⟨(some 64), none, .mov (.t 9)⟩,
 ⟨(some 65), none, .bin .sub (.t 64) (.c (.int .u64 1))⟩,
 ⟨(some 9), none, .mov (.t 65)⟩])))))))
 (.keep [0, 1, 5, 6, 7] (.ops false [⟨(some 66), none, .mov (.t 6)⟩,
 ⟨(some 67), none, .mov (.t 7)⟩,
 ⟨(some 68), none, .mov (.t 9)⟩,
 ⟨(some 69), none, .conv .u32 (.t 68)⟩,
 ⟨(some 70), none, .idxA 1 (.t 66) (.t 67)⟩,
 ⟨none, none, .store 1 (.t 70) (.t 69)⟩]))))))
 (.keep [0, 1, 5, 6, 7] (.ops false [⟨(some 25), none, .mov (.t 7)⟩,
 ⟨(some 26), none, .bin .sub (.t 25) (.c (.int .i64 1))⟩,
 ⟨(some 7), none, .mov (.t 26)⟩])))))))
 (.seq (.keep [4] (.ops false [⟨(some 71), none, .mov (.t 6)⟩,
 ⟨(some 4), none, .mov (.t 71)⟩]))
 .ret)))))
def long_long.res : List RX := [(4, none)]
theorem long_long.m : mK pg Try.f97.ntmps long_long.k (Try.f97.body.getD .skip) = true := by kernel_rfl
theorem long_long.mr : mRes pg Try.f97.results.toList long_long.res = true := by kernel_rfl
theorem long_long.ofG {args : List V} {H : Hp} {n : Nat} {Q : V → Hp → Nat → Prop} (hn : args.length = 2) (hW : W pg long_long.k (doneG long_long.res (fun r H' n' => n ≤ n' ∧ Q r H' n')) (startG args H n)) : ∃ r H' n', Q r H' n' ∧ RetG pg n_long_long args H n r H' n' :=
 RetG_of (fn := Try.f97) Try.func97 rfl (by kernel_rfl) long_long.m long_long.mr (by rw [hn]; exact of_decide_eq_true (by kernel_rfl)) hW
def long_takes.k : K :=
 (.seq (.keep [0, 1, 2] (.ops false [⟨(some 6), none, .mov (.c (.bool false))⟩]))
 (.seq (.keep [0, 2, 7] (.ops false [⟨(some 11), none, .mov (.t 1)⟩,
 ⟨(some 12), none, .callG n_slices_Clone_Luint32_uint32 [(.t 11)]⟩,
 ⟨(some 13), none, .new (.bsl 1) [(.c (.int .u32 0))]⟩,
 ⟨(some 14), none, .eff (.app 1 4) [(.t 12), (.t 13)]⟩,
 ⟨(some 7), none, .mov (.t 14)⟩]))
 (.seq (.keep [0, 2, 7, 8] (.ops false [⟨(some 8), none, .mov (.c (.int .u64 0))⟩]))
 (.seq (.seq (.keep [0, 2, 7, 8, 16, 17] (.ops false [⟨(some 15), none, .mov (.t 7)⟩,
 ⟨(some 16), none, .len false (.t 15)⟩,
 ⟨(some 17), none, .mov (.c (.int .i64 0))⟩]))
 (.block 0 (.loop (.seq (.keep [0, 2, 7, 8, 16, 17, 18] (.ops false [⟨(some 18), none, .bin .lss (.t 17) (.t 16)⟩]))
 (.seq (.cond (.t 18) .skip
 (.exit 0))
 (.seq (.block 1 (.seq (.keep [0, 2, 7, 8, 9, 16, 17] (.ops false [⟨(some 19), none, .mov (.t 17)⟩,
 ⟨(some 9), none, .mov (.t 19)⟩]))
 (.seq (.keep [0, 2, 7, 8, 9, 16, 17] (.ops false [⟨(some 20), none, .mov (.t 8)⟩,
 ⟨(some 21), none, .mov (.t 7)⟩,
 ⟨(some 22), none, .mov (.t 9)⟩,
 ⟨(some 23), none, .idxA 1 (.t 21) (.t 22)⟩,
 ⟨(some 24), none, .load 1 false (.t 23)⟩,
 ⟨(some 25), none, .conv .u64 (.t 24)⟩,
 ⟨(some 26), none, .mov (.t 2)⟩,
 ⟨(some 27), none, .conv .u64 (.t 26)⟩,
 ⟨(some 28), none, .bin .mul (.t 25) (.t 27)⟩,
 ⟨(some 29), none, .bin .add (.t 20) (.t 28)⟩,
 ⟨(some 8), none, .mov (.t 29)⟩]))
 (.seq (.keep [0, 2, 7, 8, 16, 17] (.ops false [⟨(some 30), none, .mov (.t 7)⟩,
 ⟨(some 31), none, .mov (.t 9)⟩,
 ⟨(some 32), none, .mov (.t 8)⟩,
 ⟨(some 33), none, .conv .u32 (.t 32)⟩,
 ⟨(some 34), none, .idxA 1 (.t 30) (.t 31)⟩,
 ⟨none, none, .store 1 (.t 34) (.t 33)⟩]))
 (.keep [0, 2, 7, 8, 16, 17] (.ops false [⟨(some 35), none, .mov (.t 8)⟩,
 ⟨(some 36), none, .bin .shr (.t 35) (.c (.int .u64 32))⟩,
 ⟨(some 8), none, .mov (.t 36)⟩]))))))
 (.keep [0, 2, 7, 8, 16, 17] (.ops false [⟨(some 37), none, .bin .add (.t 17) (.c (.int .i64 1))⟩,
 ⟨(some 17), none, .mov (.t 37)⟩]))))))))
 (.seq (.seq (.keep [0, 7, 10] (.ops false [⟨(some 38), none, .mov (.t 7)⟩,
 ⟨(some 39), none, .len false (.t 38)⟩,
 ⟨(some 40), none, .bin .sub (.t 39) (.c (.int .i64 1))⟩,
 ⟨(some 10), none, .mov (.t 40)⟩]))
 (.block 2 (.loop (.seq (.seq (.keep [0, 7, 10, 53] (.ops true [⟨(some 41), none, .mov (.t 10)⟩,
 ⟨(some 42), none, .bin .geq (.t 41) (.c (.int .i64 0))⟩,
 ⟨(some 43), none, .mov (.t 42)⟩,
 ⟨(some 44), (some (43, true)), .mov (.t 0)⟩,
 ⟨(some 45), (some (43, true)), .mov (.t 10)⟩,
 ⟨(some 46), (some (43, true)), .idxA 1 (.t 44) (.t 45)⟩,
 ⟨(some 47), (some (43, true)), .load 1 false (.t 46)⟩,
 ⟨(some 48), (some (43, true)), .mov (.t 7)⟩,
 ⟨(some 49), (some (43, true)), .mov (.t 10)⟩,
 ⟨(some 50), (some (43, true)), .idxA 1 (.t 48) (.t 49)⟩,
 ⟨(some 51), (some (43, true)), .load 1 false (.t 50)⟩,
 ⟨(some 52), (some (43, true)), .bin .leq (.t 47) (.t 51)⟩,
 ⟨(some 53), none, .pick (.t 43) (.t 52) (.c (.bool false))⟩]))
 (.cond (.t 53) .skip
 (.exit 2)))
 (.seq (.block 3 (.seq (.keep [0, 7, 10, 64] (.ops true [⟨(some 56), none, .mov (.t 0)⟩,
 ⟨(some 57), none, .mov (.t 10)⟩,
 ⟨(some 58), none, .idxA 1 (.t 56) (.t 57)⟩,
 ⟨(some 59), none, .load 1 false (.t 58)⟩,
 ⟨(some 60), none, .mov (.t 7)⟩,
 ⟨(some 61), none, .mov (.t 10)⟩,
 ⟨(some 62), none, .idxA 1 (.t 60) (.t 61)⟩,
 ⟨(some 63), none, .load 1 false (.t 62)⟩,
 ⟨(some 64), none, .bin .lss (.t 59) (.t 63)⟩]))
 (.cond (.t 64) (.seq (.keep [6] (.ops false [⟨(some 6), none, .mov (.c (.bool true))⟩]))
 .ret)
 .skip)))
 (.keep [0, 7, 10] (.ops false [⟨(some 54), none, .mov (.t 10)⟩,
 ⟨(some 55), none, .bin .sub (.t 54) (.c (.int .i64 1))⟩,
 ⟨(some 10), none, .mov (.t 55)⟩])))))))
 (.seq (.keep [] (.ops false [⟨(some 65), none, .mov (.t 0)⟩,
 ⟨(some 66), none, .mov (.t 0)⟩,
 ⟨(some 67), none, .mov (.t 7)⟩,
 ⟨(some 68), none, .callG n_long_less [(.t 66), (.t 67)]⟩,
 ⟨(some 69), none, .eff (.cpy 1) [(.t 65), (.t 68)]⟩]))
 (.seq (.keep [6] (.ops false [⟨(some 6), none, .mov (.c (.bool false))⟩]))
 .ret)))))))
def long_takes.res : List RX := [(6, none)]
theorem long_takes.m : mK pg Try.f99.ntmps long_takes.k (Try.f99.body.getD .skip) = true := by kernel_rfl
theorem long_takes.mr : mRes pg Try.f99.results.toList long_takes.res = true := by kernel_rfl
theorem long_takes.ofG {args : List V} {H : Hp} {n : Nat} {Q : V → Hp → Nat → Prop} (hn : args.length = 3) (hW : W pg long_takes.k (doneG long_takes.res (fun r H' n' => n ≤ n' ∧ Q r H' n')) (startG args H n)) : ∃ r H' n', Q r H' n' ∧ RetG pg n_long_takes args H n r H' n' :=
 RetG_of (fn := Try.f99) Try.func99 rfl (by kernel_rfl) long_takes.m long_takes.mr (by rw [hn]; exact of_decide_eq_true (by kernel_rfl)) hW
def long_Int_Mul.k : K :=
 (.seq (.keep [2, 3, 4] (.ops false [⟨(some 2), none, .boxP (.t 0)⟩,
 ⟨(some 3), none, .boxP (.t 1)⟩,
 ⟨(some 4), none, .alloc 2 (.agg [(.bool false), .nil])⟩]))
 (.seq (.keep [2, 3, 4, 5] (.ops false [⟨(some 11), none, .fldA 1 1 false (.t 2)⟩,
 ⟨(some 12), none, .load 1 false (.t 11)⟩,
 ⟨(some 13), none, .len false (.t 12)⟩,
 ⟨(some 14), none, .fldA 1 1 false (.t 3)⟩,
 ⟨(some 15), none, .load 1 false (.t 14)⟩,
 ⟨(some 16), none, .len false (.t 15)⟩,
 ⟨(some 17), none, .bin .add (.t 13) (.t 16)⟩,
 ⟨(some 18), none, .bin .add (.t 17) (.c (.int .i64 1))⟩,
 ⟨(some 19), none, .new (.mks 1 4 (.int .u32 0)) [(.t 18), (.t 18)]⟩,
 ⟨(some 5), none, .mov (.t 19)⟩]))
 (.seq (.seq (.keep [2, 3, 4, 5, 21, 22, 23] (.ops false [⟨(some 20), none, .fldA 1 1 false (.t 2)⟩,
 ⟨(some 21), none, .load 1 false (.t 20)⟩,
 ⟨(some 22), none, .len false (.t 21)⟩,
 ⟨(some 23), none, .mov (.c (.int .i64 0))⟩]))
 (.block 0 (.loop (.seq (.keep [2, 3, 4, 5, 21, 22, 23, 24] (.ops false [⟨(some 24), none, .bin .lss (.t 23) (.t 22)⟩]))
 (.seq (.cond (.t 24) .skip
 (.exit 0))
 (.seq (.block 1 (.seq (.keep [2, 3, 4, 5, 6, 7, 21, 22, 23] (.ops false [⟨(some 25), none, .mov (.t 23)⟩,
 ⟨(some 26), none, .idxA 1 (.t 21) (.t 23)⟩,
 ⟨(some 27), none, .load 1 false (.t 26)⟩,
 ⟨(some 6), none, .mov (.t 25)⟩,
 ⟨(some 7), none, .mov (.t 27)⟩]))
 (.seq (.keep [2, 3, 4, 5, 6, 7, 8, 21, 22, 23] (.ops false [⟨(some 8), none, .mov (.c (.int .u64 0))⟩]))
 (.seq (.seq (.keep [2, 3, 4, 5, 6, 7, 8, 21, 22, 23, 29, 30, 31] (.ops false [⟨(some 28), none, .fldA 1 1 false (.t 3)⟩,
 ⟨(some 29), none, .load 1 false (.t 28)⟩,
 ⟨(some 30), none, .len false (.t 29)⟩,
 ⟨(some 31), none, .mov (.c (.int .i64 0))⟩]))
 (.block 2 (.loop (.seq (.keep [2, 3, 4, 5, 6, 7, 8, 21, 22, 23, 29, 30, 31, 32] (.ops false [⟨(some 32), none, .bin .lss (.t 31) (.t 30)⟩]))
 (.seq (.cond (.t 32) .skip
 (.exit 2))
 (.seq (.block 3 (.seq (.keep [2, 3, 4, 5, 6, 7, 8, 9, 10, 21, 22, 23, 29, 30, 31] (.ops false [⟨(some 33), none, .mov (.t 31)⟩,
 ⟨(some 34), none, .idxA 1 (.t 29) (.t 31)⟩,
 ⟨(some 35), none, .load 1 false (.t 34)⟩,
 ⟨(some 9), none, .mov (.t 33)⟩,
 ⟨(some 10), none, .mov (.t 35)⟩]))
 (.seq (.keep [2, 3, 4, 5, 6, 7, 8, 9, 21, 22, 23, 29, 30, 31] (.ops false [⟨(some 36), none, .mov (.t 8)⟩,
 ⟨(some 37), none, .mov (.t 7)⟩,
 ⟨(some 38), none, .conv .u64 (.t 37)⟩,
 ⟨(some 39), none, .mov (.t 10)⟩,
 ⟨(some 40), none, .conv .u64 (.t 39)⟩,
 ⟨(some 41), none, .bin .mul (.t 38) (.t 40)⟩,
 ⟨(some 42), none, .mov (.t 5)⟩,
 ⟨(some 43), none, .mov (.t 6)⟩,
 ⟨(some 44), none, .mov (.t 9)⟩,
 ⟨(some 45), none, .bin .add (.t 43) (.t 44)⟩,
 ⟨(some 46), none, .idxA 1 (.t 42) (.t 45)⟩,
 ⟨(some 47), none, .load 1 false (.t 46)⟩,
 ⟨(some 48), none, .conv .u64 (.t 47)⟩,
 ⟨(some 49), none, .bin .add (.t 41) (.t 48)⟩,
 ⟨(some 50), none, .bin .add (.t 36) (.t 49)⟩,
 ⟨(some 8), none, .mov (.t 50)⟩]))
 (.seq (.keep [2, 3, 4, 5, 6, 7, 8, 21, 22, 23, 29, 30, 31] (.ops false [⟨(some 51), none, .mov (.t 5)⟩,
 ⟨(some 52), none, .mov (.t 6)⟩,
 ⟨(some 53), none, .mov (.t 9)⟩,
 ⟨(some 54), none, .bin .add (.t 52) (.t 53)⟩,
 ⟨(some 55), none, .mov (.t 8)⟩,
 ⟨(some 56), none, .conv .u32 (.t 55)⟩,
 ⟨(some 57), none, .idxA 1 (.t 51) (.t 54)⟩,
 ⟨none, none, .store 1 (.t 57) (.t 56)⟩]))
 (.keep [2, 3, 4, 5, 6, 7, 8, 21, 22, 23, 29, 30, 31] (.ops false [⟨(some 58), none, .mov (.t 8)⟩,
 ⟨(some 59), none, .bin .shr (.t 58) (.c (.int .u64 32))⟩,
 ⟨(some 8), none, .mov (.t 59)⟩]))))))
 (.keep [2, 3, 4, 5, 6, 7, 8, 21, 22, 23, 29, 30, 31] (.ops false [⟨(some 60), none, .bin .add (.t 31) (.c (.int .i64 1))⟩,
 ⟨(some 31), none, .mov (.t 60)⟩]))))))))
 (.keep [2, 3, 4, 5, 21, 22, 23] (.ops false [⟨(some 61), none, .mov (.t 5)⟩,
 ⟨(some 62), none, .mov (.t 6)⟩,
 ⟨(some 63), none, .fldA 1 1 false (.t 3)⟩,
 ⟨(some 64), none, .load 1 false (.t 63)⟩,
 ⟨(some 65), none, .len false (.t 64)⟩,
 ⟨(some 66), none, .bin .add (.t 62) (.t 65)⟩,
 ⟨(some 67), none, .mov (.t 8)⟩,
 ⟨(some 68), none, .conv .u32 (.t 67)⟩,
 ⟨(some 69), none, .idxA 1 (.t 61) (.t 66)⟩,
 ⟨none, none, .store 1 (.t 69) (.t 68)⟩]))))))
 (.keep [2, 3, 4, 5, 21, 22, 23] (.ops false [⟨(some 70), none, .bin .add (.t 23) (.c (.int .i64 1))⟩,
 ⟨(some 23), none, .mov (.t 70)⟩]))))))))
 (.seq (.keep [4] (.ops false [⟨(some 71), none, .fldA 0 1 false (.t 2)⟩,
 ⟨(some 72), none, .load 1 false (.t 71)⟩,
 ⟨(some 73), none, .fldA 0 1 false (.t 3)⟩,
 ⟨(some 74), none, .load 1 false (.t 73)⟩,
 ⟨(some 75), none, .eqB true (.t 72) (.t 74)⟩,
 ⟨(some 76), none, .mov (.t 5)⟩,
 ⟨(some 77), none, .callG n_long_made [(.t 75), (.t 76)]⟩,
 ⟨none, none, .store 2 (.t 4) (.t 77)⟩]))
 .ret))))
def long_Int_Mul.res : List RX := [(4, some (2, true))]
theorem long_Int_Mul.m : mK pg Try.f17.ntmps long_Int_Mul.k (Try.f17.body.getD .skip) = true := by kernel_rfl
theorem long_Int_Mul.mr : mRes pg Try.f17.results.toList long_Int_Mul.res = true := by kernel_rfl
theorem long_Int_Mul.of {args : List V} {r : V} (hn : args.length = 2) (hW : W pg long_Int_Mul.k (done long_Int_Mul.res r) (start args)) : Ret pg n_long_Int_Mul args r :=
 Ret_of (fn := Try.f17) Try.func17 rfl (by kernel_rfl) long_Int_Mul.m long_Int_Mul.mr (by rw [hn]; exact of_decide_eq_true (by kernel_rfl)) hW
def long_Int_Cmp.k : K :=
 (.seq (.keep [2, 3] (.ops false [⟨(some 2), none, .boxP (.t 0)⟩,
 ⟨(some 3), none, .boxP (.t 1)⟩,
 ⟨(some 4), none, .mov (.c (.int .i64 0))⟩]))
 (.seq (.keep [4] (.ops false [⟨(some 5), none, .load 2 true (.t 2)⟩,
 ⟨(some 6), none, .load 2 true (.t 3)⟩,
 ⟨(some 7), none, .callG n_long_Int_Sub [(.t 5), (.t 6)]⟩,
 ⟨(some 8), none, .callG n_long_Int_Sign [(.t 7)]⟩,
 ⟨(some 4), none, .mov (.t 8)⟩]))
 .ret))
def long_Int_Cmp.res : List RX := [(4, none)]
theorem long_Int_Cmp.m : mK pg Try.f19.ntmps long_Int_Cmp.k (Try.f19.body.getD .skip) = true := by kernel_rfl
theorem long_Int_Cmp.mr : mRes pg Try.f19.results.toList long_Int_Cmp.res = true := by kernel_rfl
theorem long_Int_Cmp.of {args : List V} {r : V} (hn : args.length = 2) (hW : W pg long_Int_Cmp.k (done long_Int_Cmp.res r) (start args)) : Ret pg n_long_Int_Cmp args r :=
 Ret_of (fn := Try.f19) Try.func19 rfl (by kernel_rfl) long_Int_Cmp.m long_Int_Cmp.mr (by rw [hn]; exact of_decide_eq_true (by kernel_rfl)) hW
def long_Int_Sign.k : K :=
 (.seq (.keep [1] (.ops false [⟨(some 1), none, .boxP (.t 0)⟩,
 ⟨(some 2), none, .mov (.c (.int .i64 0))⟩]))
 (.seq (.block 0 (.seq (.keep [1, 3] (.ops false [⟨(some 4), none, .fldA 1 1 false (.t 1)⟩,
 ⟨(some 5), none, .load 1 false (.t 4)⟩,
 ⟨(some 6), none, .len false (.t 5)⟩,
 ⟨(some 7), none, .bin .eql (.t 6) (.c (.int .i64 0))⟩,
 ⟨(some 3), none, .mov (.t 7)⟩]))
 (.cond (.t 3) (.seq (.keep [2] (.ops false [⟨(some 2), none, .mov (.c (.int .i64 0))⟩]))
 .ret)
 (.seq (.keep [8] (.ops false [⟨(some 9), none, .fldA 0 1 false (.t 1)⟩,
 ⟨(some 10), none, .load 1 false (.t 9)⟩,
 ⟨(some 8), none, .mov (.t 10)⟩]))
 (.cond (.t 8) (.seq (.keep [2] (.ops false [⟨(some 2), none, .mov (.c (.int .i64 (-1)))⟩]))
 .ret)
 .skip)))))
 (.seq (.keep [2] (.ops false [⟨(some 2), none, .mov (.c (.int .i64 1))⟩]))
 .ret)))
def long_Int_Sign.res : List RX := [(2, none)]
theorem long_Int_Sign.m : mK pg Try.f20.ntmps long_Int_Sign.k (Try.f20.body.getD .skip) = true := by kernel_rfl
theorem long_Int_Sign.mr : mRes pg Try.f20.results.toList long_Int_Sign.res = true := by kernel_rfl
theorem long_Int_Sign.of {args : List V} {r : V} (hn : args.length = 1) (hW : W pg long_Int_Sign.k (done long_Int_Sign.res r) (start args)) : Ret pg n_long_Int_Sign args r :=
 Ret_of (fn := Try.f20) Try.func20 rfl (by kernel_rfl) long_Int_Sign.m long_Int_Sign.mr (by rw [hn]; exact of_decide_eq_true (by kernel_rfl)) hW
def long_Int_String.k : K :=
 (.seq (.keep [1] (.ops false [⟨(some 1), none, .boxP (.t 0)⟩,
 ⟨(some 2), none, .mov (.c (.str ⟨#[]⟩))⟩]))
 (.seq (.seq (.keep [1, 10] (.ops false [⟨(some 7), none, .fldA 1 1 false (.t 1)⟩,
 ⟨(some 8), none, .load 1 false (.t 7)⟩,
 ⟨(some 9), none, .len false (.t 8)⟩,
 ⟨(some 10), none, .bin .eql (.t 9) (.c (.int .i64 0))⟩]))
 (.cond (.t 10) (.seq (.keep [2] (.ops false [⟨(some 2), none, .mov (.c (.str ⟨#[48]⟩))⟩]))
 .ret)
 .skip))
 (.seq (.keep [1, 3] (.ops false [⟨(some 3), none, .mov (.c .nil)⟩]))
 (.seq (.seq (.keep [1, 3, 4] (.ops false [⟨(some 11), none, .fldA 1 1 false (.t 1)⟩,
 ⟨(some 12), none, .load 1 false (.t 11)⟩,
 ⟨(some 4), none, .mov (.t 12)⟩]))
 (.block 0 (.loop (.seq (.seq (.keep [1, 3, 4, 15] (.ops false [⟨(some 13), none, .mov (.t 4)⟩,
 ⟨(some 14), none, .len false (.t 13)⟩,
 ⟨(some 15), none, .bin .gtr (.t 14) (.c (.int .i64 0))⟩]))
 (.cond (.t 15) .skip
 (.exit 0)))
 (.keep [1, 3, 4] (.block 1 (.seq (.keep [1, 3, 5, 6] (.ops false [⟨(some 17), none, .mov (.t 4)⟩,
 ⟨(some 18), none, .callG n_long_by [(.t 17), (.c (.int .u32 1000000000))]⟩,
 ⟨(some 16), none, .mov (.t 18)⟩,
 ⟨(some 19), none, .ext (.t 16) 0⟩,
 ⟨(some 20), none, .ext (.t 16) 1⟩,
 ⟨(some 5), none, .mov (.t 19)⟩,
 ⟨(some 6), none, .mov (.t 20)⟩]))
 (.seq (.keep [1, 3, 4, 6] (.ops false [⟨(some 21), none, .mov (.t 5)⟩,
 ⟨(some 22), none, .callG n_long_made [(.c (.bool false)), (.t 21)]⟩,
 ⟨(some 23), none, .fld 1 1 false (.t 22)⟩,
 ⟨(some 4), none, .mov (.t 23)⟩]))
 (.seq (.keep [1, 3, 4, 6, 24] (.ops false [⟨(some 24), none, .mov (.c (.int .i64 0))⟩]))
 (.block 2 (.loop (.seq (.keep [1, 3, 4, 6, 24, 25] (.ops false [⟨(some 25), none, .bin .lss (.t 24) (.c (.int .i64 9))⟩]))
 (.seq (.cond (.t 25) .skip
 (.exit 2))
 (.seq (.block 3 (.seq (.seq (.keep [1, 3, 4, 6, 24, 32] (.ops false [⟨(some 26), none, .mov (.t 6)⟩,
 ⟨(some 27), none, .bin .gtr (.t 26) (.c (.int .u32 0))⟩,
 ⟨(some 28), none, .mov (.t 27)⟩,
 ⟨(some 29), (some (28, false)), .mov (.t 4)⟩,
 ⟨(some 30), (some (28, false)), .len false (.t 29)⟩,
 ⟨(some 31), (some (28, false)), .bin .gtr (.t 30) (.c (.int .i64 0))⟩,
 ⟨(some 32), none, .pick (.t 28) (.c (.bool true)) (.t 31)⟩]))
 (.cond (.t 32) (.keep [1, 3, 4, 6, 24] (.ops false [⟨(some 33), none, .mov (.t 3)⟩,
 ⟨(some 34), none, .mov (.t 6)⟩,
 ⟨(some 35), none, .bin .rem (.t 34) (.c (.int .u32 10))⟩,
 ⟨(some 36), none, .bin .add (.c (.int .u32 48)) (.t 35)⟩,
 ⟨(some 37), none, .conv .u8 (.t 36)⟩,
 ⟨(some 38), none, .new (.bsl 1) [(.t 37)]⟩,
 ⟨(some 39), none, .eff (.app 1 1) [(.t 33), (.t 38)]⟩,
 ⟨(some 3), none, .mov (.t 39)⟩]))
 .skip))
 (.keep [1, 3, 4, 6, 24] (.ops false [⟨(some 40), none, .mov (.t 6)⟩,
 ⟨(some 41), none, .bin .quo (.t 40) (.c (.int .u32 10))⟩,
 ⟨(some 6), none, .mov (.t 41)⟩]))))
 (.keep [1, 3, 4, 6, 24] (.ops false [⟨(some 42), none, .bin .add (.t 24) (.c (.int .i64 1))⟩,
 ⟨(some 24), none, .mov (.t 42)⟩]))))))))))))))))
 (.seq (.seq (.keep [3, 44] (.ops false [⟨(some 43), none, .fldA 0 1 false (.t 1)⟩,
 ⟨(some 44), none, .load 1 false (.t 43)⟩]))
 (.cond (.t 44) (.keep [3] (.ops false [⟨(some 45), none, .mov (.t 3)⟩,
 ⟨(some 46), none, .new (.bsl 1) [(.c (.int .u8 45))]⟩,
 ⟨(some 47), none, .eff (.app 1 1) [(.t 45), (.t 46)]⟩,
 ⟨(some 3), none, .mov (.t 47)⟩]))
 .skip))
 (.seq (.keep [3] (.ops false [⟨(some 48), none, .mov (.t 3)⟩,
 ⟨(some 49), none, .callG n_slices_Reverse_Lbyte_byte [(.t 48)]⟩]))
 (.seq (.keep [2] (.ops false [⟨(some 50), none, .mov (.t 3)⟩,
 ⟨(some 51), none, .eff .b2sO [(.t 50)]⟩,
 ⟨(some 2), none, .mov (.t 51)⟩]))
 .ret)))))))
def long_Int_String.res : List RX := [(2, none)]
theorem long_Int_String.m : mK pg Try.f22.ntmps long_Int_String.k (Try.f22.body.getD .skip) = true := by kernel_rfl
theorem long_Int_String.mr : mRes pg Try.f22.results.toList long_Int_String.res = true := by kernel_rfl
theorem long_Int_String.of {args : List V} {r : V} (hn : args.length = 1) (hW : W pg long_Int_String.k (done long_Int_String.res r) (start args)) : Ret pg n_long_Int_String args r :=
 Ret_of (fn := Try.f22) Try.func22 rfl (by kernel_rfl) long_Int_String.m long_Int_String.mr (by rw [hn]; exact of_decide_eq_true (by kernel_rfl)) hW
def long_Int_Add.k : K :=
 (.seq (.keep [2, 3, 4] (.ops false [⟨(some 2), none, .boxP (.t 0)⟩,
 ⟨(some 3), none, .boxP (.t 1)⟩,
 ⟨(some 4), none, .alloc 2 (.agg [(.bool false), .nil])⟩]))
 (.seq (.block 0 (.seq (.keep [2, 3, 4, 5] (.ops false [⟨(some 6), none, .fldA 0 1 false (.t 2)⟩,
 ⟨(some 7), none, .load 1 false (.t 6)⟩,
 ⟨(some 8), none, .fldA 0 1 false (.t 3)⟩,
 ⟨(some 9), none, .load 1 false (.t 8)⟩,
 ⟨(some 10), none, .eqB false (.t 7) (.t 9)⟩,
 ⟨(some 5), none, .mov (.t 10)⟩]))
 (.cond (.t 5) (.seq (.keep [4] (.ops true [⟨(some 11), none, .fldA 0 1 false (.t 2)⟩,
 ⟨(some 12), none, .load 1 false (.t 11)⟩,
 ⟨(some 13), none, .fldA 1 1 false (.t 2)⟩,
 ⟨(some 14), none, .load 1 false (.t 13)⟩,
 ⟨(some 15), none, .fldA 1 1 false (.t 3)⟩,
 ⟨(some 16), none, .load 1 false (.t 15)⟩,
 ⟨(some 17), none, .call n_long_plus [(.t 14), (.t 16)]⟩,
 ⟨(some 18), none, .call n_long_made [(.t 12), (.t 17)]⟩,
 ⟨none, none, .store 2 (.t 4) (.t 18)⟩]))
 .ret)
 (.seq (.keep [2, 3, 4, 19] (.ops false [⟨(some 20), none, .fldA 1 1 false (.t 2)⟩,
 ⟨(some 21), none, .load 1 false (.t 20)⟩,
 ⟨(some 22), none, .fldA 1 1 false (.t 3)⟩,
 ⟨(some 23), none, .load 1 false (.t 22)⟩,
 ⟨(some 24), none, .callG n_long_cmp [(.t 21), (.t 23)]⟩,
 ⟨(some 25), none, .bin .geq (.t 24) (.c (.int .i64 0))⟩,
 ⟨(some 19), none, .mov (.t 25)⟩]))
 (.cond (.t 19) (.seq (.keep [4] (.ops true [⟨(some 26), none, .fldA 0 1 false (.t 2)⟩,
 ⟨(some 27), none, .load 1 false (.t 26)⟩,
 ⟨(some 28), none, .fldA 1 1 false (.t 2)⟩,
 ⟨(some 29), none, .load 1 false (.t 28)⟩,
 ⟨(some 30), none, .fldA 1 1 false (.t 3)⟩,
 ⟨(some 31), none, .load 1 false (.t 30)⟩,
 ⟨(some 32), none, .call n_long_less [(.t 29), (.t 31)]⟩,
 ⟨(some 33), none, .call n_long_made [(.t 27), (.t 32)]⟩,
 ⟨none, none, .store 2 (.t 4) (.t 33)⟩]))
 .ret)
 .skip)))))
 (.seq (.keep [4] (.ops true [⟨(some 34), none, .fldA 0 1 false (.t 3)⟩,
 ⟨(some 35), none, .load 1 false (.t 34)⟩,
 ⟨(some 36), none, .fldA 1 1 false (.t 3)⟩,
 ⟨(some 37), none, .load 1 false (.t 36)⟩,
 ⟨(some 38), none, .fldA 1 1 false (.t 2)⟩,
 ⟨(some 39), none, .load 1 false (.t 38)⟩,
 ⟨(some 40), none, .call n_long_less [(.t 37), (.t 39)]⟩,
 ⟨(some 41), none, .call n_long_made [(.t 35), (.t 40)]⟩,
 ⟨none, none, .store 2 (.t 4) (.t 41)⟩]))
 .ret)))
def long_Int_Add.res : List RX := [(4, some (2, true))]
theorem long_Int_Add.m : mK pg Try.f23.ntmps long_Int_Add.k (Try.f23.body.getD .skip) = true := by kernel_rfl
theorem long_Int_Add.mr : mRes pg Try.f23.results.toList long_Int_Add.res = true := by kernel_rfl
theorem long_Int_Add.of {args : List V} {r : V} (hn : args.length = 2) (hW : W pg long_Int_Add.k (done long_Int_Add.res r) (start args)) : Ret pg n_long_Int_Add args r :=
 Ret_of (fn := Try.f23) Try.func23 rfl (by kernel_rfl) long_Int_Add.m long_Int_Add.mr (by rw [hn]; exact of_decide_eq_true (by kernel_rfl)) hW
def long_Int_Sub.k : K :=
 (.seq (.keep [2, 3, 4] (.ops false [⟨(some 2), none, .boxP (.t 0)⟩,
 ⟨(some 3), none, .boxP (.t 1)⟩,
 ⟨(some 4), none, .alloc 2 (.agg [(.bool false), .nil])⟩]))
 (.seq (.keep [4] (.ops true [⟨(some 5), none, .load 2 true (.t 2)⟩,
 ⟨(some 6), none, .load 2 true (.t 3)⟩,
 ⟨(some 7), none, .call n_long_Int_Neg [(.t 6)]⟩,
 ⟨(some 8), none, .call n_long_Int_Add [(.t 5), (.t 7)]⟩,
 ⟨none, none, .store 2 (.t 4) (.t 8)⟩]))
 .ret))
def long_Int_Sub.res : List RX := [(4, some (2, true))]
theorem long_Int_Sub.m : mK pg Try.f46.ntmps long_Int_Sub.k (Try.f46.body.getD .skip) = true := by kernel_rfl
theorem long_Int_Sub.mr : mRes pg Try.f46.results.toList long_Int_Sub.res = true := by kernel_rfl
theorem long_Int_Sub.of {args : List V} {r : V} (hn : args.length = 2) (hW : W pg long_Int_Sub.k (done long_Int_Sub.res r) (start args)) : Ret pg n_long_Int_Sub args r :=
 Ret_of (fn := Try.f46) Try.func46 rfl (by kernel_rfl) long_Int_Sub.m long_Int_Sub.mr (by rw [hn]; exact of_decide_eq_true (by kernel_rfl)) hW
def long_Int_Quo.k : K :=
 (.seq (.keep [2, 3, 4, 5] (.ops false [⟨(some 2), none, .boxP (.t 0)⟩,
 ⟨(some 3), none, .boxP (.t 1)⟩,
 ⟨(some 4), none, .alloc 2 (.agg [(.bool false), .nil])⟩,
 ⟨(some 5), none, .alloc 2 (.agg [(.bool false), .nil])⟩,
 ⟨(some 6), none, .mov (.c (.int .i64 0))⟩]))
 (.seq (.seq (.keep [2, 3, 4, 5, 12] (.ops false [⟨(some 9), none, .fldA 1 1 false (.t 3)⟩,
 ⟨(some 10), none, .load 1 false (.t 9)⟩,
 ⟨(some 11), none, .len false (.t 10)⟩,
 ⟨(some 12), none, .bin .eql (.t 11) (.c (.int .i64 0))⟩]))
 (.cond (.t 12) (.seq (.keep [4, 5, 6] (.ops false [⟨(some 13), none, .build [(.bool false), .nil] []⟩,
 ⟨(some 14), none, .build [(.bool false), .nil] []⟩,
 ⟨none, none, .store 2 (.t 4) (.t 13)⟩,
 ⟨none, none, .store 2 (.t 5) (.t 14)⟩,
 ⟨(some 6), none, .mov (.c (.int .i64 11))⟩]))
 .ret)
 .skip))
 (.seq (.keep [2, 3, 4, 5, 7, 8] (.ops false [⟨(some 16), none, .fldA 1 1 false (.t 2)⟩,
 ⟨(some 17), none, .load 1 false (.t 16)⟩,
 ⟨(some 18), none, .fldA 1 1 false (.t 3)⟩,
 ⟨(some 19), none, .load 1 false (.t 18)⟩,
 ⟨(some 20), none, .callG n_long_parted [(.t 17), (.t 19)]⟩,
 ⟨(some 15), none, .mov (.t 20)⟩,
 ⟨(some 21), none, .ext (.t 15) 0⟩,
 ⟨(some 22), none, .ext (.t 15) 1⟩,
 ⟨(some 7), none, .mov (.t 21)⟩,
 ⟨(some 8), none, .mov (.t 22)⟩]))
 (.seq (.keep [3, 4, 5] (.ops true [⟨(some 23), none, .fldA 0 1 false (.t 2)⟩,
 ⟨(some 24), none, .load 1 false (.t 23)⟩,
 ⟨(some 25), none, .fldA 0 1 false (.t 3)⟩,
 ⟨(some 26), none, .load 1 false (.t 25)⟩,
 ⟨(some 27), none, .eqB true (.t 24) (.t 26)⟩,
 ⟨(some 28), none, .mov (.t 7)⟩,
 ⟨(some 29), none, .call n_long_made [(.t 27), (.t 28)]⟩,
 ⟨(some 30), none, .fldA 0 1 false (.t 2)⟩,
 ⟨(some 31), none, .loadN 1 false (.t 30) [4]⟩,
 ⟨(some 32), none, .mov (.t 8)⟩,
 ⟨(some 33), none, .call n_long_made [(.t 31), (.t 32)]⟩,
 ⟨none, none, .store 2 (.t 4) (.t 29)⟩,
 ⟨none, none, .store 2 (.t 5) (.t 33)⟩]))
 (.seq (.seq (.keep [3, 4, 5, 43] (.ops false [⟨(some 34), none, .load 2 true (.t 5)⟩,
 ⟨(some 35), none, .callG n_long_Int_Sign [(.t 34)]⟩,
 ⟨(some 36), none, .bin .neq (.t 35) (.c (.int .i64 0))⟩,
 ⟨(some 37), none, .mov (.t 36)⟩,
 ⟨(some 38), (some (37, true)), .fldA 0 1 false (.t 5)⟩,
 ⟨(some 39), (some (37, true)), .load 1 false (.t 38)⟩,
 ⟨(some 40), (some (37, true)), .fldA 0 1 false (.t 3)⟩,
 ⟨(some 41), (some (37, true)), .load 1 false (.t 40)⟩,
 ⟨(some 42), (some (37, true)), .eqB true (.t 39) (.t 41)⟩,
 ⟨(some 43), none, .pick (.t 37) (.t 42) (.c (.bool false))⟩]))
 (.cond (.t 43) (.keep [4, 5] (.ops true [⟨(some 44), none, .load 2 true (.t 4)⟩,
 ⟨(some 45), none, .call n_long_Of [(.c (.int .i64 1))]⟩,
 ⟨(some 46), none, .call n_long_Int_Sub [(.t 44), (.t 45)]⟩,
 ⟨(some 47), none, .loadN 2 true (.t 5) [4]⟩,
 ⟨(some 48), none, .loadN 2 true (.t 3) [4]⟩,
 ⟨(some 49), none, .call n_long_Int_Add [(.t 47), (.t 48)]⟩,
 ⟨none, none, .store 2 (.t 4) (.t 46)⟩,
 ⟨none, none, .store 2 (.t 5) (.t 49)⟩]))
 .skip))
 (.seq (.keep [4, 5, 6] (.ops true [⟨(some 50), none, .load 2 true (.t 4)⟩,
 ⟨(some 51), none, .loadN 2 true (.t 5) [4]⟩,
 ⟨none, none, .store 2 (.t 4) (.t 50)⟩,
 ⟨none, none, .store 2 (.t 5) (.t 51)⟩,
 ⟨(some 6), none, .mov (.c (.int .i64 0))⟩]))
 .ret))))))
def long_Int_Quo.res : List RX := [(4, some (2, true)), (5, some (2, true)), (6, none)]
theorem long_Int_Quo.m : mK pg Try.f70.ntmps long_Int_Quo.k (Try.f70.body.getD .skip) = true := by kernel_rfl
theorem long_Int_Quo.mr : mRes pg Try.f70.results.toList long_Int_Quo.res = true := by kernel_rfl
theorem long_Int_Quo.of {args : List V} {r : V} (hn : args.length = 2) (hW : W pg long_Int_Quo.k (done long_Int_Quo.res r) (start args)) : Ret pg n_long_Int_Quo args r :=
 Ret_of (fn := Try.f70) Try.func70 rfl (by kernel_rfl) long_Int_Quo.m long_Int_Quo.mr (by rw [hn]; exact of_decide_eq_true (by kernel_rfl)) hW
def long_Int_Neg.k : K :=
 (.seq (.keep [1, 2] (.ops false [⟨(some 1), none, .boxP (.t 0)⟩,
 ⟨(some 2), none, .alloc 2 (.agg [(.bool false), .nil])⟩]))
 (.seq (.keep [2] (.ops false [⟨(some 3), none, .fldA 0 1 false (.t 1)⟩,
 ⟨(some 4), none, .load 1 false (.t 3)⟩,
 ⟨(some 5), none, .un .not (.t 4)⟩,
 ⟨(some 6), none, .fldA 1 1 false (.t 1)⟩,
 ⟨(some 7), none, .load 1 false (.t 6)⟩,
 ⟨(some 8), none, .callG n_long_made [(.t 5), (.t 7)]⟩,
 ⟨none, none, .store 2 (.t 2) (.t 8)⟩]))
 .ret))
def long_Int_Neg.res : List RX := [(2, some (2, true))]
theorem long_Int_Neg.m : mK pg Try.f81.ntmps long_Int_Neg.k (Try.f81.body.getD .skip) = true := by kernel_rfl
theorem long_Int_Neg.mr : mRes pg Try.f81.results.toList long_Int_Neg.res = true := by kernel_rfl
theorem long_Int_Neg.of {args : List V} {r : V} (hn : args.length = 1) (hW : W pg long_Int_Neg.k (done long_Int_Neg.res r) (start args)) : Ret pg n_long_Int_Neg args r :=
 Ret_of (fn := Try.f81) Try.func81 rfl (by kernel_rfl) long_Int_Neg.m long_Int_Neg.mr (by rw [hn]; exact of_decide_eq_true (by kernel_rfl)) hW
def slices_Reverse_Lbyte_byte.k : K :=
 (.seq (.keep [0, 2, 3] (.ops false [⟨(some 4), none, .mov (.t 0)⟩,
 ⟨(some 5), none, .len false (.t 4)⟩,
 ⟨(some 6), none, .bin .sub (.t 5) (.c (.int .i64 1))⟩,
 ⟨(some 2), none, .mov (.c (.int .i64 0))⟩,
 ⟨(some 3), none, .mov (.t 6)⟩]))
 (.block 0 (.loop (.seq (.seq (.keep [0, 2, 3, 9] (.ops false [⟨(some 7), none, .mov (.t 2)⟩,
 ⟨(some 8), none, .mov (.t 3)⟩,
 ⟨(some 9), none, .bin .lss (.t 7) (.t 8)⟩]))
 (.cond (.t 9) .skip
 (.exit 0)))
 (.seq (.block 1 (.keep [0, 2, 3] (.ops true [⟨(some 14), none, .mov (.t 0)⟩,
 ⟨(some 15), none, .mov (.t 2)⟩,
 ⟨(some 16), none, .mov (.t 0)⟩,
 ⟨(some 17), none, .mov (.t 3)⟩,
 ⟨(some 18), none, .mov (.t 0)⟩,
 ⟨(some 19), none, .mov (.t 3)⟩,
 ⟨(some 20), none, .idxA 1 (.t 18) (.t 19)⟩,
 ⟨(some 21), none, .load 1 false (.t 20)⟩,
 ⟨(some 22), none, .mov (.t 0)⟩,
 ⟨(some 23), none, .mov (.t 2)⟩,
 ⟨(some 24), none, .idxA 1 (.t 22) (.t 23)⟩,
 ⟨(some 25), none, .load 1 false (.t 24)⟩,
 ⟨(some 26), none, .idxA 1 (.t 14) (.t 15)⟩,
 ⟨none, none, .store 1 (.t 26) (.t 21)⟩,
 ⟨(some 27), none, .idxA 1 (.t 16) (.t 17)⟩,
 ⟨none, none, .store 1 (.t 27) (.t 25)⟩])))
 (.keep [0, 2, 3] (.ops false [⟨(some 10), none, .mov (.t 2)⟩,
 ⟨(some 11), none, .bin .add (.t 10) (.c (.int .i64 1))⟩,
 ⟨(some 12), none, .mov (.t 3)⟩,
 ⟨(some 13), none, .bin .sub (.t 12) (.c (.int .i64 1))⟩,
 ⟨(some 2), none, .mov (.t 11)⟩,
 ⟨(some 3), none, .mov (.t 13)⟩])))))))
def slices_Reverse_Lbyte_byte.res : List RX := []
theorem slices_Reverse_Lbyte_byte.m : mK pg Try.f55.ntmps slices_Reverse_Lbyte_byte.k (Try.f55.body.getD .skip) = true := by kernel_rfl
theorem slices_Reverse_Lbyte_byte.mr : mRes pg Try.f55.results.toList slices_Reverse_Lbyte_byte.res = true := by kernel_rfl
theorem slices_Reverse_Lbyte_byte.ofG {args : List V} {H : Hp} {n : Nat} {Q : V → Hp → Nat → Prop} (hn : args.length = 1) (hW : W pg slices_Reverse_Lbyte_byte.k (doneG slices_Reverse_Lbyte_byte.res (fun r H' n' => n ≤ n' ∧ Q r H' n')) (startG args H n)) : ∃ r H' n', Q r H' n' ∧ RetG pg n_slices_Reverse_Lbyte_byte args H n r H' n' :=
 RetG_of (fn := Try.f55) Try.func55 rfl (by kernel_rfl) slices_Reverse_Lbyte_byte.m slices_Reverse_Lbyte_byte.mr (by rw [hn]; exact of_decide_eq_true (by kernel_rfl)) hW
def slices_Clone_Lint64_int64.k : K :=
 (.seq (.keep [0] (.ops false [⟨(some 2), none, .mov (.c .nil)⟩]))
 (.seq (.seq (.keep [0, 4] (.ops false [⟨(some 3), none, .mov (.t 0)⟩,
 ⟨(some 4), none, .isnil 0 false (.t 3)⟩]))
 (.cond (.t 4) (.seq (.keep [2] (.ops false [⟨(some 2), none, .mov (.c .nil)⟩]))
 .ret)
 .skip))
 (.seq (.keep [2] (.ops false [⟨(some 5), none, .new (.bsl 1) []⟩,
 ⟨(some 6), none, .mov (.t 0)⟩,
 ⟨(some 7), none, .eff (.app 1 8) [(.t 5), (.t 6)]⟩,
 ⟨(some 2), none, .mov (.t 7)⟩]))
 .ret)))
def slices_Clone_Lint64_int64.res : List RX := [(2, none)]
theorem slices_Clone_Lint64_int64.m : mK pg Try.f36.ntmps slices_Clone_Lint64_int64.k (Try.f36.body.getD .skip) = true := by kernel_rfl
theorem slices_Clone_Lint64_int64.mr : mRes pg Try.f36.results.toList slices_Clone_Lint64_int64.res = true := by kernel_rfl
theorem slices_Clone_Lint64_int64.of {args : List V} {r : V} (hn : args.length = 1) (hW : W pg slices_Clone_Lint64_int64.k (done slices_Clone_Lint64_int64.res r) (start args)) : Ret pg n_slices_Clone_Lint64_int64 args r :=
 Ret_of (fn := Try.f36) Try.func36 rfl (by kernel_rfl) slices_Clone_Lint64_int64.m slices_Clone_Lint64_int64.mr (by rw [hn]; exact of_decide_eq_true (by kernel_rfl)) hW
def slices_Clone_Luint32_uint32.k : K :=
 (.seq (.keep [0] (.ops false [⟨(some 2), none, .mov (.c .nil)⟩]))
 (.seq (.seq (.keep [0, 4] (.ops false [⟨(some 3), none, .mov (.t 0)⟩,
 ⟨(some 4), none, .isnil 0 false (.t 3)⟩]))
 (.cond (.t 4) (.seq (.keep [2] (.ops false [⟨(some 2), none, .mov (.c .nil)⟩]))
 .ret)
 .skip))
 (.seq (.keep [2] (.ops false [⟨(some 5), none, .new (.bsl 1) []⟩,
 ⟨(some 6), none, .mov (.t 0)⟩,
 ⟨(some 7), none, .eff (.app 1 4) [(.t 5), (.t 6)]⟩,
 ⟨(some 2), none, .mov (.t 7)⟩]))
 .ret)))
def slices_Clone_Luint32_uint32.res : List RX := [(2, none)]
theorem slices_Clone_Luint32_uint32.m : mK pg Try.f87.ntmps slices_Clone_Luint32_uint32.k (Try.f87.body.getD .skip) = true := by kernel_rfl
theorem slices_Clone_Luint32_uint32.mr : mRes pg Try.f87.results.toList slices_Clone_Luint32_uint32.res = true := by kernel_rfl
theorem slices_Clone_Luint32_uint32.ofG {args : List V} {H : Hp} {n : Nat} {Q : V → Hp → Nat → Prop} (hn : args.length = 1) (hW : W pg slices_Clone_Luint32_uint32.k (doneG slices_Clone_Luint32_uint32.res (fun r H' n' => n ≤ n' ∧ Q r H' n')) (startG args H n)) : ∃ r H' n', Q r H' n' ∧ RetG pg n_slices_Clone_Luint32_uint32 args H n r H' n' :=
 RetG_of (fn := Try.f87) Try.func87 rfl (by kernel_rfl) slices_Clone_Luint32_uint32.m slices_Clone_Luint32_uint32.mr (by rw [hn]; exact of_decide_eq_true (by kernel_rfl)) hW
end Go.Gim

import Derived.Test.YtjkjpjneeioeiaaGreatGN
/- Functions' code as data (written by wip/tools/gen.py), and the step to their contracts. -/
set_option maxRecDepth 100000
namespace Go.Gim
open Go.Proofs
def long_Of.k : K :=
 (.seq (.keep [0, 2] (.ops false [Ot 2 (.alloc 2 (.agg [(.bool false), .nil]))]))
 (.seq (.keep [0, 2, 3] (.ops false [Ot 4 (.mov (.t 0)),
 Ot 5 (.conv .u64 (.t 4)),
 Ot 3 (.mov (.t 5))]))
 (.seq (.seq (.keep [0, 2, 3, 7] (.ops false [Ot 6 (.mov (.t 0)),
 Ot 7 (.bin .lss (.t 6) (.c (.int .i64 0)))]))
 (.cond (.t 7) (.keep [0, 2, 3] (.ops false [Ot 8 (.mov (.t 3)),
 Ot 9 (.un .neg (.t 8)),
 Ot 3 (.mov (.t 9))]))
 .skip))
 (.seq (.keep [2] (.ops false [Ot 10 (.mov (.t 0)),
 Ot 11 (.bin .lss (.t 10) (.c (.int .i64 0))),
 Ot 12 (.mov (.t 3)),
 Ot 13 (.conv .u32 (.t 12)),
 Ot 14 (.mov (.t 3)),
 Ot 15 (.bin .shr (.t 14) (.c (.int .u64 32))),
 Ot 16 (.conv .u32 (.t 15)),
 Ot 17 (.new (.bsl 1) [(.t 13), (.t 16)]),
 Ot 18 (.callG zb3 [(.t 11), (.t 17)]),
 ⟨none, none, .store 2 (.t 2) (.t 18)⟩]))
 .ret))))
def long_Of.res : List RX := [(2, some (2, true))]
theorem long_Of.m : mK pg Tryz.f25.ntmps long_Of.k (Tryz.f25.body.getD .skip) = true := by kernel_rfl
theorem long_Of.mr : mRes pg Tryz.f25.results.toList long_Of.res = true := by kernel_rfl
theorem long_Of.of {args : List V} {r : V} (hn : args.length = 1) (hW : W pg long_Of.k (done long_Of.res r) (start args)) : Ret pg za0 args r :=
 Ret_of (fn := Tryz.f25) Tryz.func25 rfl (by kernel_rfl) long_Of.m long_Of.mr (by rw [hn]; exact of_decide_eq_true (by kernel_rfl)) hW
def long_by.k : K :=
 (.seq (.keep [0, 1] (.ops false [Ot 4 (.mov (.c .nil)),
 Ot 5 (.mov (.c (.int .u32 0)))]))
 (.seq (.keep [0, 1, 6] (.ops false [Ot 9 (.mov (.t 0)),
 Ot 10 (.len false (.t 9)),
 Ot 11 (.new (.mks 1 4 (.int .u32 0)) [(.t 10), (.t 10)]),
 Ot 6 (.mov (.t 11))]))
 (.seq (.keep [0, 1, 6, 7] (.ops false [Ot 7 (.mov (.c (.int .u64 0)))]))
 (.seq (.seq (.keep [0, 1, 6, 7, 8] (.ops false [Ot 12 (.mov (.t 0)),
 Ot 13 (.len false (.t 12)),
 Ot 14 (.bin .sub (.t 13) (.c (.int .i64 1))),
 Ot 8 (.mov (.t 14))]))
 (.block 0 (.loop (.seq (.seq (.keep [0, 1, 6, 7, 8, 16] (.ops false [Ot 15 (.mov (.t 8)),
 Ot 16 (.bin .geq (.t 15) (.c (.int .i64 0)))]))
 (.cond (.t 16) .skip
 (.exit 0)))
 (.seq (.block 1 (.seq (.keep [0, 1, 6, 7, 8] (.ops false [Ot 19 (.mov (.t 7)),
 Ot 20 (.bin .shl (.t 19) (.c (.int .u64 32))),
 Ot 21 (.mov (.t 0)),
 Ot 22 (.mov (.t 8)),
 Ot 23 (.idxA 1 (.t 21) (.t 22)),
 Ot 24 (.load 1 false (.t 23)),
 Ot 25 (.conv .u64 (.t 24)),
 Ot 26 (.bin .or (.t 20) (.t 25)),
 Ot 7 (.mov (.t 26))]))
 (.seq (.keep [0, 1, 6, 7, 8] (.ops false [Ot 27 (.mov (.t 6)),
 Ot 28 (.mov (.t 8)),
 Ot 29 (.mov (.t 7)),
 Ot 30 (.mov (.t 1)),
 Ot 31 (.conv .u64 (.t 30)),
 Ot 32 (.bin .quo (.t 29) (.t 31)),
 Ot 33 (.conv .u32 (.t 32)),
 Ot 34 (.idxA 1 (.t 27) (.t 28)),
 ⟨none, none, .store 1 (.t 34) (.t 33)⟩]))
 (.keep [0, 1, 6, 7, 8] (.ops false [Ot 35 (.mov (.t 7)),
 Ot 36 (.mov (.t 1)),
 Ot 37 (.conv .u64 (.t 36)),
 Ot 38 (.bin .rem (.t 35) (.t 37)),
 Ot 7 (.mov (.t 38))])))))
 (.keep [0, 1, 6, 7, 8] (.ops false [Ot 17 (.mov (.t 8)),
 Ot 18 (.bin .sub (.t 17) (.c (.int .i64 1))),
 Ot 8 (.mov (.t 18))])))))))
 (.seq (.keep [4, 5] (.ops false [Ot 39 (.mov (.t 6)),
 Ot 40 (.mov (.t 7)),
 Ot 41 (.conv .u32 (.t 40)),
 Ot 4 (.mov (.t 39)),
 Ot 5 (.mov (.t 41))]))
 .ret)))))
def long_by.res : List RX := [(4, none), (5, none)]
theorem long_by.m : mK pg Tryz.f76.ntmps long_by.k (Tryz.f76.body.getD .skip) = true := by kernel_rfl
theorem long_by.mr : mRes pg Tryz.f76.results.toList long_by.res = true := by kernel_rfl
theorem long_by.of {args : List V} {r : V} (hn : args.length = 2) (hW : W pg long_by.k (done long_by.res r) (start args)) : Ret pg n_long_by args r :=
 Ret_of (fn := Tryz.f76) Tryz.func76 rfl (by kernel_rfl) long_by.m long_by.mr (by rw [hn]; exact of_decide_eq_true (by kernel_rfl)) hW
def long_made.k : K :=
 (.seq (.keep [0, 1, 4] (.ops false [Ot 4 (.alloc 2 (.agg [(.bool false), .nil]))]))
 (.seq (.keep [0, 1, 4, 5] (.ops false [Ot 6 (.mov (.t 1)),
 Ot 7 (.len false (.t 6)),
 Ot 5 (.mov (.t 7))]))
 (.seq (.block 0 (.loop (.seq (.seq (.keep [0, 1, 4, 5, 17] (.ops false [Ot 8 (.mov (.t 5)),
 Ot 9 (.bin .gtr (.t 8) (.c (.int .i64 0))),
 Ot 10 (.mov (.t 9)),
 ⟨(some 11), (some (10, true)), .mov (.t 1)⟩,
 ⟨(some 12), (some (10, true)), .mov (.t 5)⟩,
 ⟨(some 13), (some (10, true)), .bin .sub (.t 12) (.c (.int .i64 1))⟩,
 ⟨(some 14), (some (10, true)), .idxA 1 (.t 11) (.t 13)⟩,
 ⟨(some 15), (some (10, true)), .load 1 false (.t 14)⟩,
 ⟨(some 16), (some (10, true)), .bin .eql (.t 15) (.c (.int .u32 0))⟩,
 Ot 17 (.pick (.t 10) (.t 16) (.c (.bool false)))]))
 (.cond (.t 17) .skip
 (.exit 0)))
 (.keep [0, 1, 4, 5] (.block 1 (.keep [0, 1, 4, 5] (.ops false [Ot 18 (.mov (.t 5)),
 Ot 19 (.bin .sub (.t 18) (.c (.int .i64 1))),
 Ot 5 (.mov (.t 19))])))))))
 (.seq (.keep [4] (.ops false [Ot 20 (.mov (.t 0)),
 Ot 21 (.mov (.t 20)),
 ⟨(some 22), (some (21, true)), .mov (.t 5)⟩,
 ⟨(some 23), (some (21, true)), .bin .gtr (.t 22) (.c (.int .i64 0))⟩,
 Ot 24 (.pick (.t 21) (.t 23) (.c (.bool false))),
 Ot 25 (.mov (.t 1)),
 Ot 26 (.mov (.t 5)),
 Ot 27 (.mov (.t 5)),
 Ot 28 (.red (.slc 1 false true true) [(.t 25), (.t 26), (.t 27)]),
 Ot 29 (.build [(.bool false), .nil] [(0, 1, (.t 24)), (1, 1, (.t 28))]),
 ⟨none, none, .store 2 (.t 4) (.t 29)⟩]))
 .ret))))
def long_made.res : List RX := [(4, some (2, true))]
theorem long_made.m : mK pg Tryz.f77.ntmps long_made.k (Tryz.f77.body.getD .skip) = true := by kernel_rfl
theorem long_made.mr : mRes pg Tryz.f77.results.toList long_made.res = true := by kernel_rfl
theorem long_made.of {args : List V} {r : V} (hn : args.length = 2) (hW : W pg long_made.k (done long_made.res r) (start args)) : Ret pg zb3 args r :=
 Ret_of (fn := Tryz.f77) Tryz.func77 rfl (by kernel_rfl) long_made.m long_made.mr (by rw [hn]; exact of_decide_eq_true (by kernel_rfl)) hW
def long_plus.k : K :=
 (.seq (.keep [0, 1] (.ops false [Ot 4 (.mov (.c .nil))]))
 (.seq (.seq (.keep [0, 1, 12] (.ops false [Ot 8 (.mov (.t 0)),
 Ot 9 (.len false (.t 8)),
 Ot 10 (.mov (.t 1)),
 Ot 11 (.len false (.t 10)),
 Ot 12 (.bin .lss (.t 9) (.t 11))]))
 (.cond (.t 12) (.keep [0, 1] (.ops false [Ot 13 (.mov (.t 1)),
 Ot 14 (.mov (.t 0)),
 Ot 0 (.mov (.t 13)),
 Ot 1 (.mov (.t 14))]))
 .skip))
 (.seq (.keep [0, 1, 5] (.ops false [Ot 15 (.mov (.t 0)),
 Ot 16 (.len false (.t 15)),
 Ot 17 (.bin .add (.t 16) (.c (.int .i64 1))),
 Ot 18 (.new (.mks 1 4 (.int .u32 0)) [(.t 17), (.t 17)]),
 Ot 5 (.mov (.t 18))]))
 (.seq (.keep [1, 5] (.ops false [Ot 19 (.mov (.t 5)),
 Ot 20 (.mov (.t 0)),
 Ot 21 (.eff (.cpy 1) [(.t 19), (.t 20)])]))
 (.seq (.keep [1, 5, 6] (.ops false [Ot 6 (.mov (.c (.int .u64 0)))]))
 (.seq (.seq (.keep [1, 5, 6, 23, 24] (.ops false [Ot 22 (.mov (.t 5)),
 Ot 23 (.len false (.t 22)),
 Ot 24 (.mov (.c (.int .i64 0)))]))
 (.block 0 (.loop (.seq (.keep [1, 5, 6, 23, 24, 25] (.ops false [Ot 25 (.bin .lss (.t 24) (.t 23))]))
 (.seq (.cond (.t 25) .skip
 (.exit 0))
 (.seq (.block 1 (.seq (.keep [1, 5, 6, 7, 23, 24] (.ops false [Ot 26 (.mov (.t 24)),
 Ot 7 (.mov (.t 26))]))
 (.seq (.keep [1, 5, 6, 7, 23, 24] (.ops false [Ot 27 (.mov (.t 6)),
 Ot 28 (.mov (.t 5)),
 Ot 29 (.mov (.t 7)),
 Ot 30 (.idxA 1 (.t 28) (.t 29)),
 Ot 31 (.load 1 false (.t 30)),
 Ot 32 (.conv .u64 (.t 31)),
 Ot 33 (.bin .add (.t 27) (.t 32)),
 Ot 6 (.mov (.t 33))]))
 (.seq (.seq (.keep [1, 5, 6, 7, 23, 24, 37] (.ops false [Ot 34 (.mov (.t 7)),
 Ot 35 (.mov (.t 1)),
 Ot 36 (.len false (.t 35)),
 Ot 37 (.bin .lss (.t 34) (.t 36))]))
 (.cond (.t 37) (.keep [1, 5, 6, 7, 23, 24] (.ops false [Ot 38 (.mov (.t 6)),
 Ot 39 (.mov (.t 1)),
 Ot 40 (.mov (.t 7)),
 Ot 41 (.idxA 1 (.t 39) (.t 40)),
 Ot 42 (.load 1 false (.t 41)),
 Ot 43 (.conv .u64 (.t 42)),
 Ot 44 (.bin .add (.t 38) (.t 43)),
 Ot 6 (.mov (.t 44))]))
 .skip))
 (.seq (.keep [1, 5, 6, 23, 24] (.ops false [Ot 45 (.mov (.t 5)),
 Ot 46 (.mov (.t 7)),
 Ot 47 (.mov (.t 6)),
 Ot 48 (.conv .u32 (.t 47)),
 Ot 49 (.idxA 1 (.t 45) (.t 46)),
 ⟨none, none, .store 1 (.t 49) (.t 48)⟩]))
 (.keep [1, 5, 6, 23, 24] (.ops false [Ot 50 (.mov (.t 6)),
 Ot 51 (.bin .shr (.t 50) (.c (.int .u64 32))),
 Ot 6 (.mov (.t 51))])))))))
 (.keep [1, 5, 6, 23, 24] (.ops false [Ot 52 (.bin .add (.t 24) (.c (.int .i64 1))),
 Ot 24 (.mov (.t 52))]))))))))
 (.seq (.keep [4] (.ops false [Ot 53 (.mov (.t 5)),
 Ot 4 (.mov (.t 53))]))
 .ret)))))))
def long_plus.res : List RX := [(4, none)]
theorem long_plus.m : mK pg Tryz.f80.ntmps long_plus.k (Tryz.f80.body.getD .skip) = true := by kernel_rfl
theorem long_plus.mr : mRes pg Tryz.f80.results.toList long_plus.res = true := by kernel_rfl
theorem long_plus.of {args : List V} {r : V} (hn : args.length = 2) (hW : W pg long_plus.k (done long_plus.res r) (start args)) : Ret pg n_long_plus args r :=
 Ret_of (fn := Tryz.f80) Tryz.func80 rfl (by kernel_rfl) long_plus.m long_plus.mr (by rw [hn]; exact of_decide_eq_true (by kernel_rfl)) hW
def long_cmp.k : K :=
 (.seq (.keep [0, 1] (.ops false [Ot 4 (.mov (.c (.int .i64 0)))]))
 (.seq (.seq (.keep [0, 1, 10] (.ops false [Ot 6 (.mov (.t 0)),
 Ot 7 (.len false (.t 6)),
 Ot 8 (.mov (.t 1)),
 Ot 9 (.len false (.t 8)),
 Ot 10 (.bin .neq (.t 7) (.t 9))]))
 (.cond (.t 10) (.seq (.seq (.keep [15] (.ops false [Ot 11 (.mov (.t 0)),
 Ot 12 (.len false (.t 11)),
 Ot 13 (.mov (.t 1)),
 Ot 14 (.len false (.t 13)),
 Ot 15 (.bin .lss (.t 12) (.t 14))]))
 (.cond (.t 15) (.seq (.keep [4] (.ops false [Ot 4 (.mov (.c (.int .i64 (-1))))]))
 .ret)
 .skip))
 (.seq (.keep [4] (.ops false [Ot 4 (.mov (.c (.int .i64 1)))]))
 .ret))
 .skip))
 (.seq (.seq (.keep [0, 1, 5] (.ops false [Ot 16 (.mov (.t 0)),
 Ot 17 (.len false (.t 16)),
 Ot 18 (.bin .sub (.t 17) (.c (.int .i64 1))),
 Ot 5 (.mov (.t 18))]))
 (.block 0 (.loop (.seq (.seq (.keep [0, 1, 5, 20] (.ops false [Ot 19 (.mov (.t 5)),
 Ot 20 (.bin .geq (.t 19) (.c (.int .i64 0)))]))
 (.cond (.t 20) .skip
 (.exit 0)))
 (.seq (.block 1 (.block 2 (.seq (.keep [0, 1, 5, 23] (.ops true [Ot 24 (.mov (.t 0)),
 Ot 25 (.mov (.t 5)),
 Ot 26 (.idxA 1 (.t 24) (.t 25)),
 Ot 27 (.load 1 false (.t 26)),
 Ot 28 (.mov (.t 1)),
 Ot 29 (.mov (.t 5)),
 Ot 30 (.idxA 1 (.t 28) (.t 29)),
 Ot 31 (.load 1 false (.t 30)),
 Ot 32 (.bin .lss (.t 27) (.t 31)),
 Ot 23 (.mov (.t 32))]))
 (.cond (.t 23) (.seq (.keep [4] (.ops false [Ot 4 (.mov (.c (.int .i64 (-1))))]))
 .ret)
 (.seq (.keep [0, 1, 5, 33] (.ops true [Ot 34 (.mov (.t 0)),
 Ot 35 (.mov (.t 5)),
 Ot 36 (.idxA 1 (.t 34) (.t 35)),
 Ot 37 (.load 1 false (.t 36)),
 Ot 38 (.mov (.t 1)),
 Ot 39 (.mov (.t 5)),
 Ot 40 (.idxA 1 (.t 38) (.t 39)),
 Ot 41 (.load 1 false (.t 40)),
 Ot 42 (.bin .gtr (.t 37) (.t 41)),
 Ot 33 (.mov (.t 42))]))
 (.cond (.t 33) (.seq (.keep [4] (.ops false [Ot 4 (.mov (.c (.int .i64 1)))]))
 .ret)
 .skip))))))
 (.keep [0, 1, 5] (.ops false [Ot 21 (.mov (.t 5)),
 Ot 22 (.bin .sub (.t 21) (.c (.int .i64 1))),
 Ot 5 (.mov (.t 22))])))))))
 (.seq (.keep [4] (.ops false [Ot 4 (.mov (.c (.int .i64 0)))]))
 .ret))))
def long_cmp.res : List RX := [(4, none)]
theorem long_cmp.m : mK pg Tryz.f81.ntmps long_cmp.k (Tryz.f81.body.getD .skip) = true := by kernel_rfl
theorem long_cmp.mr : mRes pg Tryz.f81.results.toList long_cmp.res = true := by kernel_rfl
theorem long_cmp.of {args : List V} {r : V} (hn : args.length = 2) (hW : W pg long_cmp.k (done long_cmp.res r) (start args)) : Ret pg n_long_cmp args r :=
 Ret_of (fn := Tryz.f81) Tryz.func81 rfl (by kernel_rfl) long_cmp.m long_cmp.mr (by rw [hn]; exact of_decide_eq_true (by kernel_rfl)) hW
def long_less.k : K :=
 (.seq (.keep [0, 1] (.ops false [Ot 4 (.mov (.c .nil))]))
 (.seq (.keep [1, 5] (.ops false [Ot 9 (.mov (.t 0)),
 Ot 10 (.callG za6 [(.t 9)]),
 Ot 5 (.mov (.t 10))]))
 (.seq (.keep [1, 5, 6] (.ops false [Ot 6 (.mov (.c (.int .u64 0)))]))
 (.seq (.seq (.keep [1, 5, 6, 12, 13] (.ops false [Ot 11 (.mov (.t 5)),
 Ot 12 (.len false (.t 11)),
 Ot 13 (.mov (.c (.int .i64 0)))]))
 (.block 0 (.loop (.seq (.keep [1, 5, 6, 12, 13, 14] (.ops false [Ot 14 (.bin .lss (.t 13) (.t 12))]))
 (.seq (.cond (.t 14) .skip
 (.exit 0))
 (.seq (.block 1 (.seq (.keep [1, 5, 6, 7, 12, 13] (.ops false [Ot 15 (.mov (.t 13)),
 Ot 7 (.mov (.t 15))]))
 (.seq (.keep [1, 5, 7, 8, 12, 13] (.ops false [Ot 16 (.mov (.t 5)),
 Ot 17 (.mov (.t 7)),
 Ot 18 (.idxA 1 (.t 16) (.t 17)),
 Ot 19 (.load 1 false (.t 18)),
 Ot 20 (.conv .u64 (.t 19)),
 Ot 21 (.mov (.t 6)),
 Ot 22 (.bin .sub (.t 20) (.t 21)),
 Ot 8 (.mov (.t 22))]))
 (.seq (.seq (.keep [1, 5, 7, 8, 12, 13, 26] (.ops false [Ot 23 (.mov (.t 7)),
 Ot 24 (.mov (.t 1)),
 Ot 25 (.len false (.t 24)),
 Ot 26 (.bin .lss (.t 23) (.t 25))]))
 (.cond (.t 26) (.keep [1, 5, 7, 8, 12, 13] (.ops false [Ot 27 (.mov (.t 8)),
 Ot 28 (.mov (.t 1)),
 Ot 29 (.mov (.t 7)),
 Ot 30 (.idxA 1 (.t 28) (.t 29)),
 Ot 31 (.load 1 false (.t 30)),
 Ot 32 (.conv .u64 (.t 31)),
 Ot 33 (.bin .sub (.t 27) (.t 32)),
 Ot 8 (.mov (.t 33))]))
 .skip))
 (.seq (.keep [1, 5, 8, 12, 13] (.ops false [Ot 34 (.mov (.t 5)),
 Ot 35 (.mov (.t 7)),
 Ot 36 (.mov (.t 8)),
 Ot 37 (.conv .u32 (.t 36)),
 Ot 38 (.idxA 1 (.t 34) (.t 35)),
 ⟨none, none, .store 1 (.t 38) (.t 37)⟩]))
 (.keep [1, 5, 6, 12, 13] (.ops false [Ot 39 (.mov (.t 8)),
 Ot 40 (.bin .shr (.t 39) (.c (.int .u64 63))),
 Ot 6 (.mov (.t 40))])))))))
 (.keep [1, 5, 6, 12, 13] (.ops false [Ot 41 (.bin .add (.t 13) (.c (.int .i64 1))),
 Ot 13 (.mov (.t 41))]))))))))
 (.seq (.keep [4] (.ops false [Ot 42 (.mov (.t 5)),
 Ot 4 (.mov (.t 42))]))
 .ret)))))
def long_less.res : List RX := [(4, none)]
theorem long_less.m : mK pg Tryz.f82.ntmps long_less.k (Tryz.f82.body.getD .skip) = true := by kernel_rfl
theorem long_less.mr : mRes pg Tryz.f82.results.toList long_less.res = true := by kernel_rfl
theorem long_less.ofG {args : List V} {H : Hp} {n : Nat} {Q : V → Hp → Nat → Prop} (hn : args.length = 2) (hW : W pg long_less.k (doneG long_less.res (fun r H' n' => n ≤ n' ∧ Q r H' n')) (zfp args H n)) : ∃ r H' n', Q r H' n' ∧ RetG pg zd4 args H n r H' n' :=
 RetG_of (fn := Tryz.f82) Tryz.func82 rfl (by kernel_rfl) long_less.m long_less.mr (by rw [hn]; exact of_decide_eq_true (by kernel_rfl)) hW
def long_parted.k : K :=
 (.seq (.keep [0, 1] (.ops false [Ot 4 (.mov (.c .nil)),
 Ot 5 (.mov (.c .nil))]))
 (.seq (.block 0 (.seq (.keep [0, 1, 14] (.ops false [Ot 15 (.mov (.t 0)),
 Ot 16 (.mov (.t 1)),
 Ot 17 (.callG n_long_cmp [(.t 15), (.t 16)]),
 Ot 18 (.bin .lss (.t 17) (.c (.int .i64 0))),
 Ot 14 (.mov (.t 18))]))
 (.cond (.t 14) (.seq (.keep [4, 5] (.ops false [Ot 19 (.mov (.t 0)),
 Ot 4 (.mov (.c .nil)),
 Ot 5 (.mov (.t 19))]))
 .ret)
 (.seq (.keep [0, 1, 20] (.ops false [Ot 21 (.mov (.t 1)),
 Ot 22 (.len false (.t 21)),
 Ot 23 (.bin .eql (.t 22) (.c (.int .i64 1))),
 Ot 20 (.mov (.t 23))]))
 (.cond (.t 20) (.seq (.keep [6, 7] (.ops false [Ot 25 (.mov (.t 0)),
 Ot 26 (.mov (.t 1)),
 Ot 27 (.idxA 1 (.t 26) (.c (.int .i64 0))),
 Ot 28 (.load 1 false (.t 27)),
 Ot 29 (.callG n_long_by [(.t 25), (.t 28)]),
 Ot 24 (.mov (.t 29)),
 Ot 30 (.ext (.t 24) 0),
 Ot 31 (.ext (.t 24) 1),
 Ot 6 (.mov (.t 30)),
 Ot 7 (.mov (.t 31))]))
 (.seq (.keep [4, 5] (.ops false [Ot 32 (.mov (.t 6)),
 Ot 33 (.mov (.t 7)),
 Ot 34 (.new (.bsl 1) [(.t 33)]),
 Ot 4 (.mov (.t 32)),
 Ot 5 (.mov (.t 34))]))
 .ret))
 .skip)))))
 (.seq (.keep [0, 1, 8] (.ops false [Ot 35 (.mov (.t 1)),
 Ot 36 (.mov (.t 1)),
 Ot 37 (.len false (.t 36)),
 Ot 38 (.bin .sub (.t 37) (.c (.int .i64 1))),
 Ot 39 (.idxA 1 (.t 35) (.t 38)),
 Ot 40 (.load 1 false (.t 39)),
 Ot 41 (.callG zce [(.t 40)]),
 Ot 8 (.mov (.t 41))]))
 (.seq (.keep [1, 8, 9] (.ops false [Ot 42 (.mov (.t 0)),
 Ot 43 (.mov (.t 8)),
 Ot 44 (.callG zc2 [(.t 42), (.t 43)]),
 Ot 9 (.mov (.t 44))]))
 (.seq (.keep [4, 8, 9] (.ops false [Ot 45 (.mov (.t 9)),
 Ot 46 (.mov (.t 1)),
 Ot 47 (.mov (.t 8)),
 Ot 48 (.callG zc2 [(.t 46), (.t 47)]),
 Ot 49 (.mov (.t 1)),
 Ot 50 (.len false (.t 49)),
 Ot 51 (.red (.slc 1 false true false) [(.t 48), (.t 50)]),
 Ot 52 (.callG n_long_long [(.t 45), (.t 51)]),
 Ot 4 (.mov (.t 52))]))
 (.seq (.keep [4, 8, 10] (.ops false [Ot 53 (.mov (.t 9)),
 Ot 54 (.callG zb3 [(.c (.bool false)), (.t 53)]),
 Ot 55 (.fld 1 1 false (.t 54)),
 Ot 10 (.mov (.t 55))]))
 (.seq (.keep [4, 8, 10, 11] (.ops false [Ot 56 (.mov (.t 10)),
 Ot 57 (.len false (.t 56)),
 Ot 58 (.new (.mks 1 4 (.int .u32 0)) [(.t 57), (.t 57)]),
 Ot 11 (.mov (.t 58))]))
 (.seq (.seq (.keep [4, 8, 11, 59, 60, 61] (.ops false [Ot 59 (.mov (.t 10)),
 Ot 60 (.len false (.t 59)),
 Ot 61 (.mov (.c (.int .i64 0)))]))
 (.block 1 (.loop (.seq (.keep [4, 8, 11, 59, 60, 61, 62] (.ops false [Ot 62 (.bin .lss (.t 61) (.t 60))]))
 (.seq (.cond (.t 62) .skip
 (.exit 1))
 (.seq (.block 2 (.seq (.keep [4, 8, 11, 12, 13, 59, 60, 61] (.ops false [Ot 63 (.mov (.t 61)),
 Ot 64 (.idxA 1 (.t 59) (.t 61)),
 Ot 65 (.load 1 false (.t 64)),
 Ot 12 (.mov (.t 63)),
 Ot 13 (.mov (.t 65))]))
 (.seq (.keep [4, 8, 11, 12, 13, 59, 60, 61] (.ops true [Ot 66 (.mov (.t 11)),
 Ot 67 (.mov (.t 12)),
 Ot 68 (.idxA 1 (.t 66) (.t 67)),
 Ot 69 (.load 1 false (.t 68)),
 Ot 70 (.mov (.t 13)),
 Ot 71 (.mov (.t 8)),
 Ot 72 (.bin .shr (.t 70) (.t 71)),
 Ot 73 (.bin .or (.t 69) (.t 72)),
 Ot 74 (.idxA 1 (.t 66) (.t 67)),
 ⟨none, none, .store 1 (.t 74) (.t 73)⟩]))
 (.seq (.keep [4, 8, 11, 12, 13, 59, 60, 61, 76] (.ops false [Ot 75 (.mov (.t 12)),
 Ot 76 (.bin .gtr (.t 75) (.c (.int .i64 0)))]))
 (.cond (.t 76) (.keep [4, 8, 11, 59, 60, 61] (.ops true [Ot 77 (.mov (.t 11)),
 Ot 78 (.mov (.t 12)),
 Ot 79 (.bin .sub (.t 78) (.c (.int .i64 1))),
 Ot 80 (.idxA 1 (.t 77) (.t 79)),
 Ot 81 (.load 1 false (.t 80)),
 Ot 82 (.mov (.t 13)),
 Ot 83 (.conv .u64 (.t 82)),
 Ot 84 (.mov (.t 8)),
 Ot 85 (.bin .sub (.c (.int .i64 32)) (.t 84)),
 Ot 86 (.bin .shl (.t 83) (.t 85)),
 Ot 87 (.conv .u32 (.t 86)),
 Ot 88 (.bin .or (.t 81) (.t 87)),
 Ot 89 (.idxA 1 (.t 77) (.t 79)),
 ⟨none, none, .store 1 (.t 89) (.t 88)⟩]))
 .skip)))))
 (.keep [4, 8, 11, 59, 60, 61] (.ops false [Ot 90 (.bin .add (.t 61) (.c (.int .i64 1))),
 Ot 61 (.mov (.t 90))]))))))))
 (.seq (.keep [4, 5] (.ops false [Ot 91 (.mov (.t 4)),
 Ot 92 (.mov (.t 11)),
 Ot 4 (.mov (.t 91)),
 Ot 5 (.mov (.t 92))]))
 .ret)))))))))
def long_parted.res : List RX := [(4, none), (5, none)]
theorem long_parted.m : mK pg Tryz.f121.ntmps long_parted.k (Tryz.f121.body.getD .skip) = true := by kernel_rfl
theorem long_parted.mr : mRes pg Tryz.f121.results.toList long_parted.res = true := by kernel_rfl
theorem long_parted.of {args : List V} {r : V} (hn : args.length = 2) (hW : W pg long_parted.k (done long_parted.res r) (start args)) : Ret pg zem args r :=
 Ret_of (fn := Tryz.f121) Tryz.func121 rfl (by kernel_rfl) long_parted.m long_parted.mr (by rw [hn]; exact of_decide_eq_true (by kernel_rfl)) hW
theorem long_parted.ofG {args : List V} {H : Hp} {n : Nat} {Q : V → Hp → Nat → Prop} (hn : args.length = 2) (hW : W pg long_parted.k (doneG long_parted.res (fun r H' n' => n ≤ n' ∧ Q r H' n')) (zfp args H n)) : ∃ r H' n', Q r H' n' ∧ RetG pg zem args H n r H' n' :=
 RetG_of (fn := Tryz.f121) Tryz.func121 rfl (by kernel_rfl) long_parted.m long_parted.mr (by rw [hn]; exact of_decide_eq_true (by kernel_rfl)) hW
def long_shifted.k : K :=
 (.seq (.keep [0, 1] (.ops false [Ot 4 (.mov (.c .nil))]))
 (.seq (.keep [0, 1, 5] (.ops false [Ot 9 (.mov (.t 0)),
 Ot 10 (.len false (.t 9)),
 Ot 11 (.bin .add (.t 10) (.c (.int .i64 1))),
 Ot 12 (.new (.mks 1 4 (.int .u32 0)) [(.t 11), (.t 11)]),
 Ot 5 (.mov (.t 12))]))
 (.seq (.seq (.keep [1, 5, 13, 14, 15] (.ops false [Ot 13 (.mov (.t 0)),
 Ot 14 (.len false (.t 13)),
 Ot 15 (.mov (.c (.int .i64 0)))]))
 (.block 0 (.loop (.seq (.keep [1, 5, 13, 14, 15, 16] (.ops false [Ot 16 (.bin .lss (.t 15) (.t 14))]))
 (.seq (.cond (.t 16) .skip
 (.exit 0))
 (.seq (.block 1 (.seq (.keep [1, 5, 6, 7, 13, 14, 15] (.ops false [Ot 17 (.mov (.t 15)),
 Ot 18 (.idxA 1 (.t 13) (.t 15)),
 Ot 19 (.load 1 false (.t 18)),
 Ot 6 (.mov (.t 17)),
 Ot 7 (.mov (.t 19))]))
 (.seq (.keep [1, 5, 6, 8, 13, 14, 15] (.ops false [Ot 20 (.mov (.t 7)),
 Ot 21 (.conv .u64 (.t 20)),
 Ot 22 (.mov (.t 1)),
 Ot 23 (.bin .shl (.t 21) (.t 22)),
 Ot 8 (.mov (.t 23))]))
 (.seq (.keep [1, 5, 6, 8, 13, 14, 15] (.ops false [Ot 24 (.mov (.t 5)),
 Ot 25 (.mov (.t 6)),
 Ot 26 (.idxA 1 (.t 24) (.t 25)),
 Ot 27 (.load 1 false (.t 26)),
 Ot 28 (.mov (.t 8)),
 Ot 29 (.conv .u32 (.t 28)),
 Ot 30 (.bin .or (.t 27) (.t 29)),
 Ot 31 (.idxA 1 (.t 24) (.t 25)),
 ⟨none, none, .store 1 (.t 31) (.t 30)⟩]))
 (.keep [1, 5, 13, 14, 15] (.ops false [Ot 32 (.mov (.t 5)),
 Ot 33 (.mov (.t 6)),
 Ot 34 (.bin .add (.t 33) (.c (.int .i64 1))),
 Ot 35 (.idxA 1 (.t 32) (.t 34)),
 Ot 36 (.load 1 false (.t 35)),
 Ot 37 (.mov (.t 8)),
 Ot 38 (.bin .shr (.t 37) (.c (.int .u64 32))),
 Ot 39 (.conv .u32 (.t 38)),
 Ot 40 (.bin .or (.t 36) (.t 39)),
 Ot 41 (.idxA 1 (.t 32) (.t 34)),
 ⟨none, none, .store 1 (.t 41) (.t 40)⟩]))))))
 (.keep [1, 5, 13, 14, 15] (.ops false [Ot 42 (.bin .add (.t 15) (.c (.int .i64 1))),
 Ot 15 (.mov (.t 42))]))))))))
 (.seq (.keep [4] (.ops false [Ot 43 (.mov (.t 5)),
 Ot 4 (.mov (.t 43))]))
 .ret))))
def long_shifted.res : List RX := [(4, none)]
theorem long_shifted.m : mK pg Tryz.f170.ntmps long_shifted.k (Tryz.f170.body.getD .skip) = true := by kernel_rfl
theorem long_shifted.mr : mRes pg Tryz.f170.results.toList long_shifted.res = true := by kernel_rfl
theorem long_shifted.ofG {args : List V} {H : Hp} {n : Nat} {Q : V → Hp → Nat → Prop} (hn : args.length = 2) (hW : W pg long_shifted.k (doneG long_shifted.res (fun r H' n' => n ≤ n' ∧ Q r H' n')) (zfp args H n)) : ∃ r H' n', Q r H' n' ∧ RetG pg zc2 args H n r H' n' :=
 RetG_of (fn := Tryz.f170) Tryz.func170 rfl (by kernel_rfl) long_shifted.m long_shifted.mr (by rw [hn]; exact of_decide_eq_true (by kernel_rfl)) hW
def long_long.k : K :=
 (.seq (.keep [0, 1] (.ops false [Ot 4 (.mov (.c .nil))]))
 (.seq (.keep [0, 1, 5] (.ops false [Ot 10 (.mov (.t 1)),
 Ot 11 (.len false (.t 10)),
 Ot 5 (.mov (.t 11))]))
 (.seq (.keep [0, 1, 5, 6] (.ops false [Ot 12 (.mov (.t 0)),
 Ot 13 (.len false (.t 12)),
 Ot 14 (.mov (.t 5)),
 Ot 15 (.bin .sub (.t 13) (.t 14)),
 Ot 16 (.mm true (.c (.int .i64 0)) [(.t 15)]),
 Ot 17 (.new (.mks 1 4 (.int .u32 0)) [(.t 16), (.t 16)]),
 Ot 6 (.mov (.t 17))]))
 (.seq (.seq (.keep [0, 1, 5, 6, 7] (.ops false [Ot 18 (.mov (.t 0)),
 Ot 19 (.len false (.t 18)),
 Ot 20 (.mov (.t 5)),
 Ot 21 (.bin .sub (.t 19) (.t 20)),
 Ot 22 (.bin .sub (.t 21) (.c (.int .i64 1))),
 Ot 7 (.mov (.t 22))]))
 (.block 0 (.loop (.seq (.seq (.keep [0, 1, 5, 6, 7, 24] (.ops false [Ot 23 (.mov (.t 7)),
 Ot 24 (.bin .geq (.t 23) (.c (.int .i64 0)))]))
 (.cond (.t 24) .skip
 (.exit 0)))
 (.seq (.block 1 (.seq (.keep [0, 1, 5, 6, 7, 8] (.ops true [Ot 27 (.mov (.t 0)),
 Ot 28 (.mov (.t 7)),
 Ot 29 (.mov (.t 5)),
 Ot 30 (.bin .add (.t 28) (.t 29)),
 Ot 31 (.idxA 1 (.t 27) (.t 30)),
 Ot 32 (.load 1 false (.t 31)),
 Ot 33 (.conv .u64 (.t 32)),
 Ot 34 (.bin .shl (.t 33) (.c (.int .u64 32))),
 Ot 35 (.mov (.t 0)),
 Ot 36 (.mov (.t 7)),
 Ot 37 (.mov (.t 5)),
 Ot 38 (.bin .add (.t 36) (.t 37)),
 Ot 39 (.bin .sub (.t 38) (.c (.int .i64 1))),
 Ot 40 (.idxA 1 (.t 35) (.t 39)),
 Ot 41 (.load 1 false (.t 40)),
 Ot 42 (.conv .u64 (.t 41)),
 Ot 43 (.bin .or (.t 34) (.t 42)),
 Ot 8 (.mov (.t 43))]))
 (.seq (.keep [0, 1, 5, 6, 7, 9] (.ops false [Ot 44 (.mov (.t 8)),
 Ot 45 (.mov (.t 1)),
 Ot 46 (.mov (.t 5)),
 Ot 47 (.bin .sub (.t 46) (.c (.int .i64 1))),
 Ot 48 (.idxA 1 (.t 45) (.t 47)),
 Ot 49 (.load 1 false (.t 48)),
 Ot 50 (.conv .u64 (.t 49)),
 Ot 51 (.bin .quo (.t 44) (.t 50)),
 Ot 52 (.mm false (.t 51) [(.c (.int .u64 4294967295))]),
 Ot 9 (.mov (.t 52))]))
 (.seq (.block 2 (.loop (.seq (.seq (.keep [0, 1, 5, 6, 7, 9, 63] (.ops false [Ot 53 (.mov (.t 0)),
 Ot 54 (.mov (.t 7)),
 Ot 55 (.mov (.t 7)),
 Ot 56 (.mov (.t 5)),
 Ot 57 (.bin .add (.t 55) (.t 56)),
 Ot 58 (.bin .add (.t 57) (.c (.int .i64 1))),
 Ot 59 (.win 1 (.t 53) (.t 54) (.t 58)),
 Ot 60 (.mov (.t 1)),
 Ot 61 (.mov (.t 9)),
 Ot 62 (.conv .u32 (.t 61)),
 Ot 63 (.callG zft [(.t 59), (.t 60), (.t 62)])]))
 (.cond (.t 63) .skip
 (.exit 2)))
 (.keep [0, 1, 5, 6, 7, 9] (.block 3 (.keep [0, 1, 5, 6, 7, 9] (.ops false [Ot 64 (.mov (.t 9)),
 Ot 65 (.bin .sub (.t 64) (.c (.int .u64 1))),
 Ot 9 (.mov (.t 65))])))))))
 (.keep [0, 1, 5, 6, 7] (.ops false [Ot 66 (.mov (.t 6)),
 Ot 67 (.mov (.t 7)),
 Ot 68 (.mov (.t 9)),
 Ot 69 (.conv .u32 (.t 68)),
 Ot 70 (.idxA 1 (.t 66) (.t 67)),
 ⟨none, none, .store 1 (.t 70) (.t 69)⟩]))))))
 (.keep [0, 1, 5, 6, 7] (.ops false [Ot 25 (.mov (.t 7)),
 Ot 26 (.bin .sub (.t 25) (.c (.int .i64 1))),
 Ot 7 (.mov (.t 26))])))))))
 (.seq (.keep [4] (.ops false [Ot 71 (.mov (.t 6)),
 Ot 4 (.mov (.t 71))]))
 .ret)))))
def long_long.res : List RX := [(4, none)]
theorem long_long.m : mK pg Tryz.f171.ntmps long_long.k (Tryz.f171.body.getD .skip) = true := by kernel_rfl
theorem long_long.mr : mRes pg Tryz.f171.results.toList long_long.res = true := by kernel_rfl
theorem long_long.ofG {args : List V} {H : Hp} {n : Nat} {Q : V → Hp → Nat → Prop} (hn : args.length = 2) (hW : W pg long_long.k (doneG long_long.res (fun r H' n' => n ≤ n' ∧ Q r H' n')) (zfp args H n)) : ∃ r H' n', Q r H' n' ∧ RetG pg n_long_long args H n r H' n' :=
 RetG_of (fn := Tryz.f171) Tryz.func171 rfl (by kernel_rfl) long_long.m long_long.mr (by rw [hn]; exact of_decide_eq_true (by kernel_rfl)) hW
def long_takes.k : K :=
 (.seq (.keep [0, 1, 2] (.ops false [Ot 6 (.mov (.c (.bool false)))]))
 (.seq (.keep [0, 2, 7] (.ops false [Ot 11 (.mov (.t 1)),
 Ot 12 (.callG za6 [(.t 11)]),
 Ot 13 (.new (.bsl 1) [(.c (.int .u32 0))]),
 Ot 14 (.eff (.app 1 4) [(.t 12), (.t 13)]),
 Ot 7 (.mov (.t 14))]))
 (.seq (.keep [0, 2, 7, 8] (.ops false [Ot 8 (.mov (.c (.int .u64 0)))]))
 (.seq (.seq (.keep [0, 2, 7, 8, 16, 17] (.ops false [Ot 15 (.mov (.t 7)),
 Ot 16 (.len false (.t 15)),
 Ot 17 (.mov (.c (.int .i64 0)))]))
 (.block 0 (.loop (.seq (.keep [0, 2, 7, 8, 16, 17, 18] (.ops false [Ot 18 (.bin .lss (.t 17) (.t 16))]))
 (.seq (.cond (.t 18) .skip
 (.exit 0))
 (.seq (.block 1 (.seq (.keep [0, 2, 7, 8, 9, 16, 17] (.ops false [Ot 19 (.mov (.t 17)),
 Ot 9 (.mov (.t 19))]))
 (.seq (.keep [0, 2, 7, 8, 9, 16, 17] (.ops false [Ot 20 (.mov (.t 8)),
 Ot 21 (.mov (.t 7)),
 Ot 22 (.mov (.t 9)),
 Ot 23 (.idxA 1 (.t 21) (.t 22)),
 Ot 24 (.load 1 false (.t 23)),
 Ot 25 (.conv .u64 (.t 24)),
 Ot 26 (.mov (.t 2)),
 Ot 27 (.conv .u64 (.t 26)),
 Ot 28 (.bin .mul (.t 25) (.t 27)),
 Ot 29 (.bin .add (.t 20) (.t 28)),
 Ot 8 (.mov (.t 29))]))
 (.seq (.keep [0, 2, 7, 8, 16, 17] (.ops false [Ot 30 (.mov (.t 7)),
 Ot 31 (.mov (.t 9)),
 Ot 32 (.mov (.t 8)),
 Ot 33 (.conv .u32 (.t 32)),
 Ot 34 (.idxA 1 (.t 30) (.t 31)),
 ⟨none, none, .store 1 (.t 34) (.t 33)⟩]))
 (.keep [0, 2, 7, 8, 16, 17] (.ops false [Ot 35 (.mov (.t 8)),
 Ot 36 (.bin .shr (.t 35) (.c (.int .u64 32))),
 Ot 8 (.mov (.t 36))]))))))
 (.keep [0, 2, 7, 8, 16, 17] (.ops false [Ot 37 (.bin .add (.t 17) (.c (.int .i64 1))),
 Ot 17 (.mov (.t 37))]))))))))
 (.seq (.seq (.keep [0, 7, 10] (.ops false [Ot 38 (.mov (.t 7)),
 Ot 39 (.len false (.t 38)),
 Ot 40 (.bin .sub (.t 39) (.c (.int .i64 1))),
 Ot 10 (.mov (.t 40))]))
 (.block 2 (.loop (.seq (.seq (.keep [0, 7, 10, 53] (.ops true [Ot 41 (.mov (.t 10)),
 Ot 42 (.bin .geq (.t 41) (.c (.int .i64 0))),
 Ot 43 (.mov (.t 42)),
 ⟨(some 44), (some (43, true)), .mov (.t 0)⟩,
 ⟨(some 45), (some (43, true)), .mov (.t 10)⟩,
 ⟨(some 46), (some (43, true)), .idxA 1 (.t 44) (.t 45)⟩,
 ⟨(some 47), (some (43, true)), .load 1 false (.t 46)⟩,
 ⟨(some 48), (some (43, true)), .mov (.t 7)⟩,
 ⟨(some 49), (some (43, true)), .mov (.t 10)⟩,
 ⟨(some 50), (some (43, true)), .idxA 1 (.t 48) (.t 49)⟩,
 ⟨(some 51), (some (43, true)), .load 1 false (.t 50)⟩,
 ⟨(some 52), (some (43, true)), .bin .leq (.t 47) (.t 51)⟩,
 Ot 53 (.pick (.t 43) (.t 52) (.c (.bool false)))]))
 (.cond (.t 53) .skip
 (.exit 2)))
 (.seq (.block 3 (.seq (.keep [0, 7, 10, 64] (.ops true [Ot 56 (.mov (.t 0)),
 Ot 57 (.mov (.t 10)),
 Ot 58 (.idxA 1 (.t 56) (.t 57)),
 Ot 59 (.load 1 false (.t 58)),
 Ot 60 (.mov (.t 7)),
 Ot 61 (.mov (.t 10)),
 Ot 62 (.idxA 1 (.t 60) (.t 61)),
 Ot 63 (.load 1 false (.t 62)),
 Ot 64 (.bin .lss (.t 59) (.t 63))]))
 (.cond (.t 64) (.seq (.keep [6] (.ops false [Ot 6 (.mov (.c (.bool true)))]))
 .ret)
 .skip)))
 (.keep [0, 7, 10] (.ops false [Ot 54 (.mov (.t 10)),
 Ot 55 (.bin .sub (.t 54) (.c (.int .i64 1))),
 Ot 10 (.mov (.t 55))])))))))
 (.seq (.keep [] (.ops false [Ot 65 (.mov (.t 0)),
 Ot 66 (.mov (.t 0)),
 Ot 67 (.mov (.t 7)),
 Ot 68 (.callG zd4 [(.t 66), (.t 67)]),
 Ot 69 (.eff (.cpy 1) [(.t 65), (.t 68)])]))
 (.seq (.keep [6] (.ops false [Ot 6 (.mov (.c (.bool false)))]))
 .ret)))))))
def long_takes.res : List RX := [(6, none)]
theorem long_takes.m : mK pg Tryz.f193.ntmps long_takes.k (Tryz.f193.body.getD .skip) = true := by kernel_rfl
theorem long_takes.mr : mRes pg Tryz.f193.results.toList long_takes.res = true := by kernel_rfl
theorem long_takes.ofG {args : List V} {H : Hp} {n : Nat} {Q : V → Hp → Nat → Prop} (hn : args.length = 3) (hW : W pg long_takes.k (doneG long_takes.res (fun r H' n' => n ≤ n' ∧ Q r H' n')) (zfp args H n)) : ∃ r H' n', Q r H' n' ∧ RetG pg zft args H n r H' n' :=
 RetG_of (fn := Tryz.f193) Tryz.func193 rfl (by kernel_rfl) long_takes.m long_takes.mr (by rw [hn]; exact of_decide_eq_true (by kernel_rfl)) hW
def long_Int_String.k : K :=
 (.seq (.keep [1] (.ops false [Ot 1 (.boxP (.t 0)),
 ⟨(some 2), none, .mov (.c (.str ⟨#[]⟩))⟩]))
 (.seq (.seq (.keep [1, 10] (.ops false [Ot 7 (.fldA 1 1 false (.t 1)),
 Ot 8 (.load 1 false (.t 7)),
 Ot 9 (.len false (.t 8)),
 Ot 10 (.bin .eql (.t 9) (.c (.int .i64 0)))]))
 (.cond (.t 10) (.seq (.keep [2] (.ops false [⟨(some 2), none, .mov (.c (.str ⟨#[48]⟩))⟩]))
 .ret)
 .skip))
 (.seq (.keep [1, 3] (.ops false [Ot 3 (.mov (.c .nil))]))
 (.seq (.seq (.keep [1, 3, 4] (.ops false [Ot 11 (.fldA 1 1 false (.t 1)),
 Ot 12 (.load 1 false (.t 11)),
 Ot 4 (.mov (.t 12))]))
 (.block 0 (.loop (.seq (.seq (.keep [1, 3, 4, 15] (.ops false [Ot 13 (.mov (.t 4)),
 Ot 14 (.len false (.t 13)),
 Ot 15 (.bin .gtr (.t 14) (.c (.int .i64 0)))]))
 (.cond (.t 15) .skip
 (.exit 0)))
 (.keep [1, 3, 4] (.block 1 (.seq (.keep [1, 3, 5, 6] (.ops false [Ot 17 (.mov (.t 4)),
 Ot 18 (.callG n_long_by [(.t 17), (.c (.int .u32 1000000000))]),
 Ot 16 (.mov (.t 18)),
 Ot 19 (.ext (.t 16) 0),
 Ot 20 (.ext (.t 16) 1),
 Ot 5 (.mov (.t 19)),
 Ot 6 (.mov (.t 20))]))
 (.seq (.keep [1, 3, 4, 6] (.ops false [Ot 21 (.mov (.t 5)),
 Ot 22 (.callG zb3 [(.c (.bool false)), (.t 21)]),
 Ot 23 (.fld 1 1 false (.t 22)),
 Ot 4 (.mov (.t 23))]))
 (.seq (.keep [1, 3, 4, 6, 24] (.ops false [Ot 24 (.mov (.c (.int .i64 0)))]))
 (.block 2 (.loop (.seq (.keep [1, 3, 4, 6, 24, 25] (.ops false [Ot 25 (.bin .lss (.t 24) (.c (.int .i64 9)))]))
 (.seq (.cond (.t 25) .skip
 (.exit 2))
 (.seq (.block 3 (.seq (.seq (.keep [1, 3, 4, 6, 24, 32] (.ops false [Ot 26 (.mov (.t 6)),
 Ot 27 (.bin .gtr (.t 26) (.c (.int .u32 0))),
 Ot 28 (.mov (.t 27)),
 ⟨(some 29), (some (28, false)), .mov (.t 4)⟩,
 ⟨(some 30), (some (28, false)), .len false (.t 29)⟩,
 ⟨(some 31), (some (28, false)), .bin .gtr (.t 30) (.c (.int .i64 0))⟩,
 Ot 32 (.pick (.t 28) (.c (.bool true)) (.t 31))]))
 (.cond (.t 32) (.keep [1, 3, 4, 6, 24] (.ops false [Ot 33 (.mov (.t 3)),
 Ot 34 (.mov (.t 6)),
 Ot 35 (.bin .rem (.t 34) (.c (.int .u32 10))),
 Ot 36 (.bin .add (.c (.int .u32 48)) (.t 35)),
 Ot 37 (.conv .u8 (.t 36)),
 Ot 38 (.new (.bsl 1) [(.t 37)]),
 Ot 39 (.eff (.app 1 1) [(.t 33), (.t 38)]),
 Ot 3 (.mov (.t 39))]))
 .skip))
 (.keep [1, 3, 4, 6, 24] (.ops false [Ot 40 (.mov (.t 6)),
 Ot 41 (.bin .quo (.t 40) (.c (.int .u32 10))),
 Ot 6 (.mov (.t 41))]))))
 (.keep [1, 3, 4, 6, 24] (.ops false [Ot 42 (.bin .add (.t 24) (.c (.int .i64 1))),
 Ot 24 (.mov (.t 42))]))))))))))))))))
 (.seq (.seq (.keep [3, 44] (.ops false [Ot 43 (.fldA 0 1 false (.t 1)),
 Ot 44 (.load 1 false (.t 43))]))
 (.cond (.t 44) (.keep [3] (.ops false [Ot 45 (.mov (.t 3)),
 Ot 46 (.new (.bsl 1) [(.c (.int .u8 45))]),
 Ot 47 (.eff (.app 1 1) [(.t 45), (.t 46)]),
 Ot 3 (.mov (.t 47))]))
 .skip))
 (.seq (.keep [3] (.ops false [Ot 48 (.mov (.t 3)),
 Ot 49 (.callG zbr [(.t 48)])]))
 (.seq (.keep [2] (.ops false [Ot 50 (.mov (.t 3)),
 Ot 51 (.eff .b2sO [(.t 50)]),
 Ot 2 (.mov (.t 51))]))
 .ret)))))))
def long_Int_String.res : List RX := [(2, none)]
theorem long_Int_String.m : mK pg Tryz.f18.ntmps long_Int_String.k (Tryz.f18.body.getD .skip) = true := by kernel_rfl
theorem long_Int_String.mr : mRes pg Tryz.f18.results.toList long_Int_String.res = true := by kernel_rfl
theorem long_Int_String.of {args : List V} {r : V} (hn : args.length = 1) (hW : W pg long_Int_String.k (done long_Int_String.res r) (start args)) : Ret pg zbn args r :=
 Ret_of (fn := Tryz.f18) Tryz.func18 rfl (by kernel_rfl) long_Int_String.m long_Int_String.mr (by rw [hn]; exact of_decide_eq_true (by kernel_rfl)) hW
def long_Int_Add.k : K :=
 (.seq (.keep [2, 3, 4] (.ops false [Ot 2 (.boxP (.t 0)),
 Ot 3 (.boxP (.t 1)),
 Ot 4 (.alloc 2 (.agg [(.bool false), .nil]))]))
 (.seq (.block 0 (.seq (.keep [2, 3, 4, 5] (.ops false [Ot 6 (.fldA 0 1 false (.t 2)),
 Ot 7 (.load 1 false (.t 6)),
 Ot 8 (.fldA 0 1 false (.t 3)),
 Ot 9 (.load 1 false (.t 8)),
 Ot 10 (.eqB false (.t 7) (.t 9)),
 Ot 5 (.mov (.t 10))]))
 (.cond (.t 5) (.seq (.keep [4] (.ops true [Ot 11 (.fldA 0 1 false (.t 2)),
 Ot 12 (.load 1 false (.t 11)),
 Ot 13 (.fldA 1 1 false (.t 2)),
 Ot 14 (.load 1 false (.t 13)),
 Ot 15 (.fldA 1 1 false (.t 3)),
 Ot 16 (.load 1 false (.t 15)),
 Ot 17 (.call n_long_plus [(.t 14), (.t 16)]),
 Ot 18 (.call zb3 [(.t 12), (.t 17)]),
 ⟨none, none, .store 2 (.t 4) (.t 18)⟩]))
 .ret)
 (.seq (.keep [2, 3, 4, 19] (.ops false [Ot 20 (.fldA 1 1 false (.t 2)),
 Ot 21 (.load 1 false (.t 20)),
 Ot 22 (.fldA 1 1 false (.t 3)),
 Ot 23 (.load 1 false (.t 22)),
 Ot 24 (.callG n_long_cmp [(.t 21), (.t 23)]),
 Ot 25 (.bin .geq (.t 24) (.c (.int .i64 0))),
 Ot 19 (.mov (.t 25))]))
 (.cond (.t 19) (.seq (.keep [4] (.ops true [Ot 26 (.fldA 0 1 false (.t 2)),
 Ot 27 (.load 1 false (.t 26)),
 Ot 28 (.fldA 1 1 false (.t 2)),
 Ot 29 (.load 1 false (.t 28)),
 Ot 30 (.fldA 1 1 false (.t 3)),
 Ot 31 (.load 1 false (.t 30)),
 Ot 32 (.call zd4 [(.t 29), (.t 31)]),
 Ot 33 (.call zb3 [(.t 27), (.t 32)]),
 ⟨none, none, .store 2 (.t 4) (.t 33)⟩]))
 .ret)
 .skip)))))
 (.seq (.keep [4] (.ops true [Ot 34 (.fldA 0 1 false (.t 3)),
 Ot 35 (.load 1 false (.t 34)),
 Ot 36 (.fldA 1 1 false (.t 3)),
 Ot 37 (.load 1 false (.t 36)),
 Ot 38 (.fldA 1 1 false (.t 2)),
 Ot 39 (.load 1 false (.t 38)),
 Ot 40 (.call zd4 [(.t 37), (.t 39)]),
 Ot 41 (.call zb3 [(.t 35), (.t 40)]),
 ⟨none, none, .store 2 (.t 4) (.t 41)⟩]))
 .ret)))
def long_Int_Add.res : List RX := [(4, some (2, true))]
theorem long_Int_Add.m : mK pg Tryz.f26.ntmps long_Int_Add.k (Tryz.f26.body.getD .skip) = true := by kernel_rfl
theorem long_Int_Add.mr : mRes pg Tryz.f26.results.toList long_Int_Add.res = true := by kernel_rfl
theorem long_Int_Add.of {args : List V} {r : V} (hn : args.length = 2) (hW : W pg long_Int_Add.k (done long_Int_Add.res r) (start args)) : Ret pg zbh args r :=
 Ret_of (fn := Tryz.f26) Tryz.func26 rfl (by kernel_rfl) long_Int_Add.m long_Int_Add.mr (by rw [hn]; exact of_decide_eq_true (by kernel_rfl)) hW
def long_Int_Mul.k : K :=
 (.seq (.keep [2, 3, 4] (.ops false [Ot 2 (.boxP (.t 0)),
 Ot 3 (.boxP (.t 1)),
 Ot 4 (.alloc 2 (.agg [(.bool false), .nil]))]))
 (.seq (.keep [2, 3, 4, 5] (.ops false [Ot 11 (.fldA 1 1 false (.t 2)),
 Ot 12 (.load 1 false (.t 11)),
 Ot 13 (.len false (.t 12)),
 Ot 14 (.fldA 1 1 false (.t 3)),
 Ot 15 (.load 1 false (.t 14)),
 Ot 16 (.len false (.t 15)),
 Ot 17 (.bin .add (.t 13) (.t 16)),
 Ot 18 (.bin .add (.t 17) (.c (.int .i64 1))),
 Ot 19 (.new (.mks 1 4 (.int .u32 0)) [(.t 18), (.t 18)]),
 Ot 5 (.mov (.t 19))]))
 (.seq (.seq (.keep [2, 3, 4, 5, 21, 22, 23] (.ops false [Ot 20 (.fldA 1 1 false (.t 2)),
 Ot 21 (.load 1 false (.t 20)),
 Ot 22 (.len false (.t 21)),
 Ot 23 (.mov (.c (.int .i64 0)))]))
 (.block 0 (.loop (.seq (.keep [2, 3, 4, 5, 21, 22, 23, 24] (.ops false [Ot 24 (.bin .lss (.t 23) (.t 22))]))
 (.seq (.cond (.t 24) .skip
 (.exit 0))
 (.seq (.block 1 (.seq (.keep [2, 3, 4, 5, 6, 7, 21, 22, 23] (.ops false [Ot 25 (.mov (.t 23)),
 Ot 26 (.idxA 1 (.t 21) (.t 23)),
 Ot 27 (.load 1 false (.t 26)),
 Ot 6 (.mov (.t 25)),
 Ot 7 (.mov (.t 27))]))
 (.seq (.keep [2, 3, 4, 5, 6, 7, 8, 21, 22, 23] (.ops false [Ot 8 (.mov (.c (.int .u64 0)))]))
 (.seq (.seq (.keep [2, 3, 4, 5, 6, 7, 8, 21, 22, 23, 29, 30, 31] (.ops false [Ot 28 (.fldA 1 1 false (.t 3)),
 Ot 29 (.load 1 false (.t 28)),
 Ot 30 (.len false (.t 29)),
 Ot 31 (.mov (.c (.int .i64 0)))]))
 (.block 2 (.loop (.seq (.keep [2, 3, 4, 5, 6, 7, 8, 21, 22, 23, 29, 30, 31, 32] (.ops false [Ot 32 (.bin .lss (.t 31) (.t 30))]))
 (.seq (.cond (.t 32) .skip
 (.exit 2))
 (.seq (.block 3 (.seq (.keep [2, 3, 4, 5, 6, 7, 8, 9, 10, 21, 22, 23, 29, 30, 31] (.ops false [Ot 33 (.mov (.t 31)),
 Ot 34 (.idxA 1 (.t 29) (.t 31)),
 Ot 35 (.load 1 false (.t 34)),
 Ot 9 (.mov (.t 33)),
 Ot 10 (.mov (.t 35))]))
 (.seq (.keep [2, 3, 4, 5, 6, 7, 8, 9, 21, 22, 23, 29, 30, 31] (.ops false [Ot 36 (.mov (.t 8)),
 Ot 37 (.mov (.t 7)),
 Ot 38 (.conv .u64 (.t 37)),
 Ot 39 (.mov (.t 10)),
 Ot 40 (.conv .u64 (.t 39)),
 Ot 41 (.bin .mul (.t 38) (.t 40)),
 Ot 42 (.mov (.t 5)),
 Ot 43 (.mov (.t 6)),
 Ot 44 (.mov (.t 9)),
 Ot 45 (.bin .add (.t 43) (.t 44)),
 Ot 46 (.idxA 1 (.t 42) (.t 45)),
 Ot 47 (.load 1 false (.t 46)),
 Ot 48 (.conv .u64 (.t 47)),
 Ot 49 (.bin .add (.t 41) (.t 48)),
 Ot 50 (.bin .add (.t 36) (.t 49)),
 Ot 8 (.mov (.t 50))]))
 (.seq (.keep [2, 3, 4, 5, 6, 7, 8, 21, 22, 23, 29, 30, 31] (.ops false [Ot 51 (.mov (.t 5)),
 Ot 52 (.mov (.t 6)),
 Ot 53 (.mov (.t 9)),
 Ot 54 (.bin .add (.t 52) (.t 53)),
 Ot 55 (.mov (.t 8)),
 Ot 56 (.conv .u32 (.t 55)),
 Ot 57 (.idxA 1 (.t 51) (.t 54)),
 ⟨none, none, .store 1 (.t 57) (.t 56)⟩]))
 (.keep [2, 3, 4, 5, 6, 7, 8, 21, 22, 23, 29, 30, 31] (.ops false [Ot 58 (.mov (.t 8)),
 Ot 59 (.bin .shr (.t 58) (.c (.int .u64 32))),
 Ot 8 (.mov (.t 59))]))))))
 (.keep [2, 3, 4, 5, 6, 7, 8, 21, 22, 23, 29, 30, 31] (.ops false [Ot 60 (.bin .add (.t 31) (.c (.int .i64 1))),
 Ot 31 (.mov (.t 60))]))))))))
 (.keep [2, 3, 4, 5, 21, 22, 23] (.ops false [Ot 61 (.mov (.t 5)),
 Ot 62 (.mov (.t 6)),
 Ot 63 (.fldA 1 1 false (.t 3)),
 Ot 64 (.load 1 false (.t 63)),
 Ot 65 (.len false (.t 64)),
 Ot 66 (.bin .add (.t 62) (.t 65)),
 Ot 67 (.mov (.t 8)),
 Ot 68 (.conv .u32 (.t 67)),
 Ot 69 (.idxA 1 (.t 61) (.t 66)),
 ⟨none, none, .store 1 (.t 69) (.t 68)⟩]))))))
 (.keep [2, 3, 4, 5, 21, 22, 23] (.ops false [Ot 70 (.bin .add (.t 23) (.c (.int .i64 1))),
 Ot 23 (.mov (.t 70))]))))))))
 (.seq (.keep [4] (.ops false [Ot 71 (.fldA 0 1 false (.t 2)),
 Ot 72 (.load 1 false (.t 71)),
 Ot 73 (.fldA 0 1 false (.t 3)),
 Ot 74 (.load 1 false (.t 73)),
 Ot 75 (.eqB true (.t 72) (.t 74)),
 Ot 76 (.mov (.t 5)),
 Ot 77 (.callG zb3 [(.t 75), (.t 76)]),
 ⟨none, none, .store 2 (.t 4) (.t 77)⟩]))
 .ret))))
def long_Int_Mul.res : List RX := [(4, some (2, true))]
theorem long_Int_Mul.m : mK pg Tryz.f27.ntmps long_Int_Mul.k (Tryz.f27.body.getD .skip) = true := by kernel_rfl
theorem long_Int_Mul.mr : mRes pg Tryz.f27.results.toList long_Int_Mul.res = true := by kernel_rfl
theorem long_Int_Mul.of {args : List V} {r : V} (hn : args.length = 2) (hW : W pg long_Int_Mul.k (done long_Int_Mul.res r) (start args)) : Ret pg zap args r :=
 Ret_of (fn := Tryz.f27) Tryz.func27 rfl (by kernel_rfl) long_Int_Mul.m long_Int_Mul.mr (by rw [hn]; exact of_decide_eq_true (by kernel_rfl)) hW
def long_Int_Cmp.k : K :=
 (.seq (.keep [2, 3] (.ops false [Ot 2 (.boxP (.t 0)),
 Ot 3 (.boxP (.t 1)),
 Ot 4 (.mov (.c (.int .i64 0)))]))
 (.seq (.keep [4] (.ops false [Ot 5 (.load 2 true (.t 2)),
 Ot 6 (.load 2 true (.t 3)),
 Ot 7 (.callG zbq [(.t 5), (.t 6)]),
 Ot 8 (.callG zca [(.t 7)]),
 Ot 4 (.mov (.t 8))]))
 .ret))
def long_Int_Cmp.res : List RX := [(4, none)]
theorem long_Int_Cmp.m : mK pg Tryz.f29.ntmps long_Int_Cmp.k (Tryz.f29.body.getD .skip) = true := by kernel_rfl
theorem long_Int_Cmp.mr : mRes pg Tryz.f29.results.toList long_Int_Cmp.res = true := by kernel_rfl
theorem long_Int_Cmp.of {args : List V} {r : V} (hn : args.length = 2) (hW : W pg long_Int_Cmp.k (done long_Int_Cmp.res r) (start args)) : Ret pg zc3 args r :=
 Ret_of (fn := Tryz.f29) Tryz.func29 rfl (by kernel_rfl) long_Int_Cmp.m long_Int_Cmp.mr (by rw [hn]; exact of_decide_eq_true (by kernel_rfl)) hW
def long_Int_Sign.k : K :=
 (.seq (.keep [1] (.ops false [Ot 1 (.boxP (.t 0)),
 Ot 2 (.mov (.c (.int .i64 0)))]))
 (.seq (.block 0 (.seq (.keep [1, 3] (.ops false [Ot 4 (.fldA 1 1 false (.t 1)),
 Ot 5 (.load 1 false (.t 4)),
 Ot 6 (.len false (.t 5)),
 Ot 7 (.bin .eql (.t 6) (.c (.int .i64 0))),
 Ot 3 (.mov (.t 7))]))
 (.cond (.t 3) (.seq (.keep [2] (.ops false [Ot 2 (.mov (.c (.int .i64 0)))]))
 .ret)
 (.seq (.keep [8] (.ops false [Ot 9 (.fldA 0 1 false (.t 1)),
 Ot 10 (.load 1 false (.t 9)),
 Ot 8 (.mov (.t 10))]))
 (.cond (.t 8) (.seq (.keep [2] (.ops false [Ot 2 (.mov (.c (.int .i64 (-1))))]))
 .ret)
 .skip)))))
 (.seq (.keep [2] (.ops false [Ot 2 (.mov (.c (.int .i64 1)))]))
 .ret)))
def long_Int_Sign.res : List RX := [(2, none)]
theorem long_Int_Sign.m : mK pg Tryz.f45.ntmps long_Int_Sign.k (Tryz.f45.body.getD .skip) = true := by kernel_rfl
theorem long_Int_Sign.mr : mRes pg Tryz.f45.results.toList long_Int_Sign.res = true := by kernel_rfl
theorem long_Int_Sign.of {args : List V} {r : V} (hn : args.length = 1) (hW : W pg long_Int_Sign.k (done long_Int_Sign.res r) (start args)) : Ret pg zca args r :=
 Ret_of (fn := Tryz.f45) Tryz.func45 rfl (by kernel_rfl) long_Int_Sign.m long_Int_Sign.mr (by rw [hn]; exact of_decide_eq_true (by kernel_rfl)) hW
def long_Int_Neg.k : K :=
 (.seq (.keep [1, 2] (.ops false [Ot 1 (.boxP (.t 0)),
 Ot 2 (.alloc 2 (.agg [(.bool false), .nil]))]))
 (.seq (.keep [2] (.ops false [Ot 3 (.fldA 0 1 false (.t 1)),
 Ot 4 (.load 1 false (.t 3)),
 Ot 5 (.un .not (.t 4)),
 Ot 6 (.fldA 1 1 false (.t 1)),
 Ot 7 (.load 1 false (.t 6)),
 Ot 8 (.callG zb3 [(.t 5), (.t 7)]),
 ⟨none, none, .store 2 (.t 2) (.t 8)⟩]))
 .ret))
def long_Int_Neg.res : List RX := [(2, some (2, true))]
theorem long_Int_Neg.m : mK pg Tryz.f46.ntmps long_Int_Neg.k (Tryz.f46.body.getD .skip) = true := by kernel_rfl
theorem long_Int_Neg.mr : mRes pg Tryz.f46.results.toList long_Int_Neg.res = true := by kernel_rfl
theorem long_Int_Neg.of {args : List V} {r : V} (hn : args.length = 1) (hW : W pg long_Int_Neg.k (done long_Int_Neg.res r) (start args)) : Ret pg zfj args r :=
 Ret_of (fn := Tryz.f46) Tryz.func46 rfl (by kernel_rfl) long_Int_Neg.m long_Int_Neg.mr (by rw [hn]; exact of_decide_eq_true (by kernel_rfl)) hW
def long_Int_Quo.k : K :=
 (.seq (.keep [2, 3, 4, 5] (.ops false [Ot 2 (.boxP (.t 0)),
 Ot 3 (.boxP (.t 1)),
 Ot 4 (.alloc 2 (.agg [(.bool false), .nil])),
 Ot 5 (.alloc 2 (.agg [(.bool false), .nil])),
 Ot 6 (.mov (.c (.int .i64 0)))]))
 (.seq (.seq (.keep [2, 3, 4, 5, 12] (.ops false [Ot 9 (.fldA 1 1 false (.t 3)),
 Ot 10 (.load 1 false (.t 9)),
 Ot 11 (.len false (.t 10)),
 Ot 12 (.bin .eql (.t 11) (.c (.int .i64 0)))]))
 (.cond (.t 12) (.seq (.keep [4, 5, 6] (.ops false [Ot 13 (.build [(.bool false), .nil] []),
 Ot 14 (.build [(.bool false), .nil] []),
 ⟨none, none, .store 2 (.t 4) (.t 13)⟩,
 ⟨none, none, .store 2 (.t 5) (.t 14)⟩,
 Ot 6 (.mov (.c (.int .i64 11)))]))
 .ret)
 .skip))
 (.seq (.keep [2, 3, 4, 5, 7, 8] (.ops false [Ot 16 (.fldA 1 1 false (.t 2)),
 Ot 17 (.load 1 false (.t 16)),
 Ot 18 (.fldA 1 1 false (.t 3)),
 Ot 19 (.load 1 false (.t 18)),
 Ot 20 (.callG zem [(.t 17), (.t 19)]),
 Ot 15 (.mov (.t 20)),
 Ot 21 (.ext (.t 15) 0),
 Ot 22 (.ext (.t 15) 1),
 Ot 7 (.mov (.t 21)),
 Ot 8 (.mov (.t 22))]))
 (.seq (.keep [3, 4, 5] (.ops true [Ot 23 (.fldA 0 1 false (.t 2)),
 Ot 24 (.load 1 false (.t 23)),
 Ot 25 (.fldA 0 1 false (.t 3)),
 Ot 26 (.load 1 false (.t 25)),
 Ot 27 (.eqB true (.t 24) (.t 26)),
 Ot 28 (.mov (.t 7)),
 Ot 29 (.call zb3 [(.t 27), (.t 28)]),
 Ot 30 (.fldA 0 1 false (.t 2)),
 Ot 31 (.loadN 1 false (.t 30) [4]),
 Ot 32 (.mov (.t 8)),
 Ot 33 (.call zb3 [(.t 31), (.t 32)]),
 ⟨none, none, .store 2 (.t 4) (.t 29)⟩,
 ⟨none, none, .store 2 (.t 5) (.t 33)⟩]))
 (.seq (.seq (.keep [3, 4, 5, 43] (.ops false [Ot 34 (.load 2 true (.t 5)),
 Ot 35 (.callG zca [(.t 34)]),
 Ot 36 (.bin .neq (.t 35) (.c (.int .i64 0))),
 Ot 37 (.mov (.t 36)),
 ⟨(some 38), (some (37, true)), .fldA 0 1 false (.t 5)⟩,
 ⟨(some 39), (some (37, true)), .load 1 false (.t 38)⟩,
 ⟨(some 40), (some (37, true)), .fldA 0 1 false (.t 3)⟩,
 ⟨(some 41), (some (37, true)), .load 1 false (.t 40)⟩,
 ⟨(some 42), (some (37, true)), .eqB true (.t 39) (.t 41)⟩,
 Ot 43 (.pick (.t 37) (.t 42) (.c (.bool false)))]))
 (.cond (.t 43) (.keep [4, 5] (.ops true [Ot 44 (.load 2 true (.t 4)),
 Ot 45 (.call za0 [(.c (.int .i64 1))]),
 Ot 46 (.call zbq [(.t 44), (.t 45)]),
 Ot 47 (.loadN 2 true (.t 5) [4]),
 Ot 48 (.loadN 2 true (.t 3) [4]),
 Ot 49 (.call zbh [(.t 47), (.t 48)]),
 ⟨none, none, .store 2 (.t 4) (.t 46)⟩,
 ⟨none, none, .store 2 (.t 5) (.t 49)⟩]))
 .skip))
 (.seq (.keep [4, 5, 6] (.ops true [Ot 50 (.load 2 true (.t 4)),
 Ot 51 (.loadN 2 true (.t 5) [4]),
 ⟨none, none, .store 2 (.t 4) (.t 50)⟩,
 ⟨none, none, .store 2 (.t 5) (.t 51)⟩,
 Ot 6 (.mov (.c (.int .i64 0)))]))
 .ret))))))
def long_Int_Quo.res : List RX := [(4, some (2, true)), (5, some (2, true)), (6, none)]
theorem long_Int_Quo.m : mK pg Tryz.f49.ntmps long_Int_Quo.k (Tryz.f49.body.getD .skip) = true := by kernel_rfl
theorem long_Int_Quo.mr : mRes pg Tryz.f49.results.toList long_Int_Quo.res = true := by kernel_rfl
theorem long_Int_Quo.of {args : List V} {r : V} (hn : args.length = 2) (hW : W pg long_Int_Quo.k (done long_Int_Quo.res r) (start args)) : Ret pg zfi args r :=
 Ret_of (fn := Tryz.f49) Tryz.func49 rfl (by kernel_rfl) long_Int_Quo.m long_Int_Quo.mr (by rw [hn]; exact of_decide_eq_true (by kernel_rfl)) hW
def long_Int_Sub.k : K :=
 (.seq (.keep [2, 3, 4] (.ops false [Ot 2 (.boxP (.t 0)),
 Ot 3 (.boxP (.t 1)),
 Ot 4 (.alloc 2 (.agg [(.bool false), .nil]))]))
 (.seq (.keep [4] (.ops true [Ot 5 (.load 2 true (.t 2)),
 Ot 6 (.load 2 true (.t 3)),
 Ot 7 (.call zfj [(.t 6)]),
 Ot 8 (.call zbh [(.t 5), (.t 7)]),
 ⟨none, none, .store 2 (.t 4) (.t 8)⟩]))
 .ret))
def long_Int_Sub.res : List RX := [(4, some (2, true))]
theorem long_Int_Sub.m : mK pg Tryz.f84.ntmps long_Int_Sub.k (Tryz.f84.body.getD .skip) = true := by kernel_rfl
theorem long_Int_Sub.mr : mRes pg Tryz.f84.results.toList long_Int_Sub.res = true := by kernel_rfl
theorem long_Int_Sub.of {args : List V} {r : V} (hn : args.length = 2) (hW : W pg long_Int_Sub.k (done long_Int_Sub.res r) (start args)) : Ret pg zbq args r :=
 Ret_of (fn := Tryz.f84) Tryz.func84 rfl (by kernel_rfl) long_Int_Sub.m long_Int_Sub.mr (by rw [hn]; exact of_decide_eq_true (by kernel_rfl)) hW
def slices_Reverse_Lbyte_byte.k : K :=
 (.seq (.keep [0, 2, 3] (.ops false [Ot 4 (.mov (.t 0)),
 Ot 5 (.len false (.t 4)),
 Ot 6 (.bin .sub (.t 5) (.c (.int .i64 1))),
 Ot 2 (.mov (.c (.int .i64 0))),
 Ot 3 (.mov (.t 6))]))
 (.block 0 (.loop (.seq (.seq (.keep [0, 2, 3, 9] (.ops false [Ot 7 (.mov (.t 2)),
 Ot 8 (.mov (.t 3)),
 Ot 9 (.bin .lss (.t 7) (.t 8))]))
 (.cond (.t 9) .skip
 (.exit 0)))
 (.seq (.block 1 (.keep [0, 2, 3] (.ops true [Ot 14 (.mov (.t 0)),
 Ot 15 (.mov (.t 2)),
 Ot 16 (.mov (.t 0)),
 Ot 17 (.mov (.t 3)),
 Ot 18 (.mov (.t 0)),
 Ot 19 (.mov (.t 3)),
 Ot 20 (.idxA 1 (.t 18) (.t 19)),
 Ot 21 (.load 1 false (.t 20)),
 Ot 22 (.mov (.t 0)),
 Ot 23 (.mov (.t 2)),
 Ot 24 (.idxA 1 (.t 22) (.t 23)),
 Ot 25 (.load 1 false (.t 24)),
 Ot 26 (.idxA 1 (.t 14) (.t 15)),
 ⟨none, none, .store 1 (.t 26) (.t 21)⟩,
 Ot 27 (.idxA 1 (.t 16) (.t 17)),
 ⟨none, none, .store 1 (.t 27) (.t 25)⟩])))
 (.keep [0, 2, 3] (.ops false [Ot 10 (.mov (.t 2)),
 Ot 11 (.bin .add (.t 10) (.c (.int .i64 1))),
 Ot 12 (.mov (.t 3)),
 Ot 13 (.bin .sub (.t 12) (.c (.int .i64 1))),
 Ot 2 (.mov (.t 11)),
 Ot 3 (.mov (.t 13))])))))))
def slices_Reverse_Lbyte_byte.res : List RX := []
theorem slices_Reverse_Lbyte_byte.m : mK pg Tryz.f78.ntmps slices_Reverse_Lbyte_byte.k (Tryz.f78.body.getD .skip) = true := by kernel_rfl
theorem slices_Reverse_Lbyte_byte.mr : mRes pg Tryz.f78.results.toList slices_Reverse_Lbyte_byte.res = true := by kernel_rfl
theorem slices_Reverse_Lbyte_byte.ofG {args : List V} {H : Hp} {n : Nat} {Q : V → Hp → Nat → Prop} (hn : args.length = 1) (hW : W pg slices_Reverse_Lbyte_byte.k (doneG slices_Reverse_Lbyte_byte.res (fun r H' n' => n ≤ n' ∧ Q r H' n')) (zfp args H n)) : ∃ r H' n', Q r H' n' ∧ RetG pg zbr args H n r H' n' :=
 RetG_of (fn := Tryz.f78) Tryz.func78 rfl (by kernel_rfl) slices_Reverse_Lbyte_byte.m slices_Reverse_Lbyte_byte.mr (by rw [hn]; exact of_decide_eq_true (by kernel_rfl)) hW
def slices_Clone_Lint64_int64.k : K :=
 (.seq (.keep [0] (.ops false [Ot 2 (.mov (.c .nil))]))
 (.seq (.seq (.keep [0, 4] (.ops false [Ot 3 (.mov (.t 0)),
 Ot 4 (.isnil 0 false (.t 3))]))
 (.cond (.t 4) (.seq (.keep [2] (.ops false [Ot 2 (.mov (.c .nil))]))
 .ret)
 .skip))
 (.seq (.keep [2] (.ops false [Ot 5 (.new (.bsl 1) []),
 Ot 6 (.mov (.t 0)),
 Ot 7 (.eff (.app 1 8) [(.t 5), (.t 6)]),
 Ot 2 (.mov (.t 7))]))
 .ret)))
def slices_Clone_Lint64_int64.res : List RX := [(2, none)]
theorem slices_Clone_Lint64_int64.m : mK pg Tryz.f63.ntmps slices_Clone_Lint64_int64.k (Tryz.f63.body.getD .skip) = true := by kernel_rfl
theorem slices_Clone_Lint64_int64.mr : mRes pg Tryz.f63.results.toList slices_Clone_Lint64_int64.res = true := by kernel_rfl
theorem slices_Clone_Lint64_int64.of {args : List V} {r : V} (hn : args.length = 1) (hW : W pg slices_Clone_Lint64_int64.k (done slices_Clone_Lint64_int64.res r) (start args)) : Ret pg zb9 args r :=
 Ret_of (fn := Tryz.f63) Tryz.func63 rfl (by kernel_rfl) slices_Clone_Lint64_int64.m slices_Clone_Lint64_int64.mr (by rw [hn]; exact of_decide_eq_true (by kernel_rfl)) hW
def slices_Clone_Luint32_uint32.k : K :=
 (.seq (.keep [0] (.ops false [Ot 2 (.mov (.c .nil))]))
 (.seq (.seq (.keep [0, 4] (.ops false [Ot 3 (.mov (.t 0)),
 Ot 4 (.isnil 0 false (.t 3))]))
 (.cond (.t 4) (.seq (.keep [2] (.ops false [Ot 2 (.mov (.c .nil))]))
 .ret)
 .skip))
 (.seq (.keep [2] (.ops false [Ot 5 (.new (.bsl 1) []),
 Ot 6 (.mov (.t 0)),
 Ot 7 (.eff (.app 1 4) [(.t 5), (.t 6)]),
 Ot 2 (.mov (.t 7))]))
 .ret)))
def slices_Clone_Luint32_uint32.res : List RX := [(2, none)]
theorem slices_Clone_Luint32_uint32.m : mK pg Tryz.f140.ntmps slices_Clone_Luint32_uint32.k (Tryz.f140.body.getD .skip) = true := by kernel_rfl
theorem slices_Clone_Luint32_uint32.mr : mRes pg Tryz.f140.results.toList slices_Clone_Luint32_uint32.res = true := by kernel_rfl
theorem slices_Clone_Luint32_uint32.ofG {args : List V} {H : Hp} {n : Nat} {Q : V → Hp → Nat → Prop} (hn : args.length = 1) (hW : W pg slices_Clone_Luint32_uint32.k (doneG slices_Clone_Luint32_uint32.res (fun r H' n' => n ≤ n' ∧ Q r H' n')) (zfp args H n)) : ∃ r H' n', Q r H' n' ∧ RetG pg za6 args H n r H' n' :=
 RetG_of (fn := Tryz.f140) Tryz.func140 rfl (by kernel_rfl) slices_Clone_Luint32_uint32.m slices_Clone_Luint32_uint32.mr (by rw [hn]; exact of_decide_eq_true (by kernel_rfl)) hW
end Go.Gim

import Derived.Test.YtmmfkmnakelacaaGN
/- Functions' code as data (written by wip/tools/gen.py), and the step to their contracts. -/
set_option maxRecDepth 100000
namespace Go.Gim
open Go.Proofs
def lin_Of.k : K :=
 (.seq (.keep [1] (.ops false [⟨(some 1), none, .boxP (.t 0)⟩,
 ⟨(some 2), none, .mov (.c .nil)⟩,
 ⟨(some 3), none, .mov (.c (.int .i64 0))⟩]))
 (.seq (.seq (.keep [1, 8] (.ops false [⟨(some 6), none, .load 1 false (.t 1)⟩,
 ⟨(some 7), none, .len false (.t 6)⟩,
 ⟨(some 8), none, .bin .gtr (.t 7) (.c (.int .i64 12))⟩]))
 (.cond (.t 8) (.seq (.keep [2, 3] (.ops false [⟨(some 2), none, .mov (.c .nil)⟩,
 ⟨(some 3), none, .mov (.c (.int .i64 2))⟩]))
 .ret)
 .skip))
 (.seq (.seq (.keep [1, 9, 10, 11] (.ops false [⟨(some 9), none, .load 1 false (.t 1)⟩,
 ⟨(some 10), none, .len false (.t 9)⟩,
 ⟨(some 11), none, .mov (.c (.int .i64 0))⟩]))
 (.block 0 (.loop (.seq (.keep [1, 9, 10, 11, 12] (.ops false [⟨(some 12), none, .bin .lss (.t 11) (.t 10)⟩]))
 (.seq (.cond (.t 12) .skip
 (.exit 0))
 (.seq (.block 1 (.seq (.keep [1, 5, 9, 10, 11] (.ops false [⟨(some 13), none, .idxA 1 (.t 9) (.t 11)⟩,
 ⟨(some 14), none, .load 1 false (.t 13)⟩,
 ⟨(some 5), none, .mov (.t 14)⟩]))
 (.seq (.keep [1, 9, 10, 11, 19] (.ops false [⟨(some 15), none, .mov (.t 5)⟩,
 ⟨(some 16), none, .len false (.t 15)⟩,
 ⟨(some 17), none, .load 1 false (.t 1)⟩,
 ⟨(some 18), none, .len false (.t 17)⟩,
 ⟨(some 19), none, .bin .neq (.t 16) (.t 18)⟩]))
 (.cond (.t 19) (.seq (.keep [2, 3] (.ops false [⟨(some 2), none, .mov (.c .nil)⟩,
 ⟨(some 3), none, .mov (.c (.int .i64 1))⟩]))
 .ret)
 .skip))))
 (.keep [1, 9, 10, 11] (.ops false [⟨(some 20), none, .bin .add (.t 11) (.c (.int .i64 1))⟩,
 ⟨(some 11), none, .mov (.t 20)⟩]))))))))
 (.seq (.keep [2, 3] (.ops false [⟨(some 21), none, .load 1 false (.t 1)⟩,
 ⟨(some 22), none, .len false (.t 21)⟩,
 ⟨(some 23), none, .mkFn n_lin_Of_1 [(.t 1)]⟩,
 ⟨(some 24), none, .callG n_lin_made [(.t 22), (.t 23)]⟩,
 ⟨(some 2), none, .mov (.t 24)⟩,
 ⟨(some 3), none, .mov (.c (.int .i64 0))⟩]))
 .ret))))
def lin_Of.res : List RX := [(2, none), (3, none)]
theorem lin_Of.m : mK pg Try.f38.ntmps lin_Of.k (Try.f38.body.getD .skip) = true := by kernel_rfl
theorem lin_Of.mr : mRes pg Try.f38.results.toList lin_Of.res = true := by kernel_rfl
theorem lin_Of.of {args : List V} {r : V} (hn : args.length = 1) (hW : W pg lin_Of.k (done lin_Of.res r) (start args)) : Ret pg n_lin_Of args r :=
 Ret_of (fn := Try.f38) Try.func38 rfl (by kernel_rfl) lin_Of.m lin_Of.mr (by rw [hn]; exact of_decide_eq_true (by kernel_rfl)) hW
def lin_made.k : K :=
 (.seq (.keep [2, 3] (.ops false [⟨(some 2), none, .boxP (.t 0)⟩,
 ⟨(some 3), none, .boxP (.t 1)⟩,
 ⟨(some 4), none, .mov (.c .nil)⟩]))
 (.seq (.keep [4] (.ops false [⟨(some 5), none, .load 1 false (.t 2)⟩,
 ⟨(some 6), none, .mkFn n_lin_made_1 [(.t 2), (.t 3)]⟩,
 ⟨(some 7), none, .callG n_lin_list_Llong_Int [(.t 5), (.t 6)]⟩,
 ⟨(some 4), none, .mov (.t 7)⟩]))
 .ret))
def lin_made.res : List RX := [(4, none)]
theorem lin_made.m : mK pg Try.f47.ntmps lin_made.k (Try.f47.body.getD .skip) = true := by kernel_rfl
theorem lin_made.mr : mRes pg Try.f47.results.toList lin_made.res = true := by kernel_rfl
theorem lin_made.of {args : List V} {r : V} (hn : args.length = 2) (hW : W pg lin_made.k (done lin_made.res r) (start args)) : Ret pg n_lin_made args r :=
 Ret_of (fn := Try.f47) Try.func47 rfl (by kernel_rfl) lin_made.m lin_made.mr (by rw [hn]; exact of_decide_eq_true (by kernel_rfl)) hW
def lin_zeros.k : K :=
 (.seq (.keep [0] (.ops false [⟨(some 2), none, .mov (.c .nil)⟩]))
 (.seq (.keep [2] (.ops false [⟨(some 3), none, .mov (.t 0)⟩,
 ⟨(some 4), none, .new (.mks 2 32 (.agg [(.bool false), (.sl [])])) [(.t 3), (.t 3)]⟩,
 ⟨(some 2), none, .mov (.t 4)⟩]))
 .ret))
def lin_zeros.res : List RX := [(2, none)]
theorem lin_zeros.m : mK pg Try.f50.ntmps lin_zeros.k (Try.f50.body.getD .skip) = true := by kernel_rfl
theorem lin_zeros.mr : mRes pg Try.f50.results.toList lin_zeros.res = true := by kernel_rfl
theorem lin_zeros.of {args : List V} {r : V} (hn : args.length = 1) (hW : W pg lin_zeros.k (done lin_zeros.res r) (start args)) : Ret pg n_lin_zeros args r :=
 Ret_of (fn := Try.f50) Try.func50 rfl (by kernel_rfl) lin_zeros.m lin_zeros.mr (by rw [hn]; exact of_decide_eq_true (by kernel_rfl)) hW
def lin_turned.k : K :=
 (.seq (.keep [1, 2, 4] (.ops false [⟨(some 2), none, .boxP (.t 0)⟩,
 ⟨(some 4), none, .alloc 2 (.agg [(.bool false), (.sl [])])⟩]))
 (.seq (.seq (.keep [2, 4, 5] (.ops false [⟨(some 5), none, .mov (.t 1)⟩]))
 (.cond (.t 5) (.seq (.keep [4] (.ops false [⟨(some 6), none, .load 2 true (.t 2)⟩,
 ⟨(some 7), none, .callG n_long_Int_Neg [(.t 6)]⟩,
 ⟨none, none, .store 2 (.t 4) (.t 7)⟩]))
 .ret)
 .skip))
 (.seq (.keep [4] (.ops false [⟨(some 8), none, .load 2 true (.t 2)⟩,
 ⟨none, none, .store 2 (.t 4) (.t 8)⟩]))
 .ret)))
def lin_turned.res : List RX := [(4, some (2, true))]
theorem lin_turned.m : mK pg Try.f51.ntmps lin_turned.k (Try.f51.body.getD .skip) = true := by kernel_rfl
theorem lin_turned.mr : mRes pg Try.f51.results.toList lin_turned.res = true := by kernel_rfl
theorem lin_turned.of {args : List V} {r : V} (hn : args.length = 2) (hW : W pg lin_turned.k (done lin_turned.res r) (start args)) : Ret pg n_lin_turned args r :=
 Ret_of (fn := Try.f51) Try.func51 rfl (by kernel_rfl) lin_turned.m lin_turned.mr (by rw [hn]; exact of_decide_eq_true (by kernel_rfl)) hW
def lin_list_long_Int.k : K :=
 (.seq (.keep [0, 1] (.ops false [⟨(some 4), none, .mov (.c .nil)⟩]))
 (.seq (.keep [1, 5] (.ops false [⟨(some 7), none, .mov (.t 0)⟩,
 ⟨(some 8), none, .new (.mks 2 32 (.agg [(.bool false), (.sl [])])) [(.t 7), (.t 7)]⟩,
 ⟨(some 5), none, .mov (.t 8)⟩]))
 (.seq (.seq (.keep [1, 5, 10, 11] (.ops false [⟨(some 9), none, .mov (.t 5)⟩,
 ⟨(some 10), none, .len false (.t 9)⟩,
 ⟨(some 11), none, .mov (.c (.int .i64 0))⟩]))
 (.block 0 (.loop (.seq (.keep [1, 5, 10, 11, 12] (.ops false [⟨(some 12), none, .bin .lss (.t 11) (.t 10)⟩]))
 (.seq (.cond (.t 12) .skip
 (.exit 0))
 (.seq (.block 1 (.seq (.keep [1, 5, 6, 10, 11] (.ops false [⟨(some 13), none, .mov (.t 11)⟩,
 ⟨(some 6), none, .mov (.t 13)⟩]))
 (.keep [1, 5, 10, 11] (.ops false [⟨(some 14), none, .mov (.t 5)⟩,
 ⟨(some 15), none, .mov (.t 6)⟩,
 ⟨(some 16), none, .mov (.t 1)⟩,
 ⟨(some 17), none, .mov (.t 6)⟩,
 ⟨(some 18), none, .callGV (.t 16) [(.t 17)]⟩,
 ⟨(some 19), none, .idxA 2 (.t 14) (.t 15)⟩,
 ⟨none, none, .store 2 (.t 19) (.t 18)⟩]))))
 (.keep [1, 5, 10, 11] (.ops false [⟨(some 20), none, .bin .add (.t 11) (.c (.int .i64 1))⟩,
 ⟨(some 11), none, .mov (.t 20)⟩]))))))))
 (.seq (.keep [4] (.ops false [⟨(some 21), none, .mov (.t 5)⟩,
 ⟨(some 4), none, .mov (.t 21)⟩]))
 .ret))))
def lin_list_long_Int.res : List RX := [(4, none)]
theorem lin_list_long_Int.m : mK pg Try.f52.ntmps lin_list_long_Int.k (Try.f52.body.getD .skip) = true := by kernel_rfl
theorem lin_list_long_Int.mr : mRes pg Try.f52.results.toList lin_list_long_Int.res = true := by kernel_rfl
theorem lin_list_long_Int.of {args : List V} {r : V} (hn : args.length = 2) (hW : W pg lin_list_long_Int.k (done lin_list_long_Int.res r) (start args)) : Ret pg n_lin_list_long_Int args r :=
 Ret_of (fn := Try.f52) Try.func52 rfl (by kernel_rfl) lin_list_long_Int.m lin_list_long_Int.mr (by rw [hn]; exact of_decide_eq_true (by kernel_rfl)) hW
theorem lin_list_long_Int.ofG {args : List V} {H : Hp} {n : Nat} {Q : V → Hp → Nat → Prop} (hn : args.length = 2) (hW : W pg lin_list_long_Int.k (doneG lin_list_long_Int.res (fun r H' n' => n ≤ n' ∧ Q r H' n')) (startG args H n)) : ∃ r H' n', Q r H' n' ∧ RetG pg n_lin_list_long_Int args H n r H' n' :=
 RetG_of (fn := Try.f52) Try.func52 rfl (by kernel_rfl) lin_list_long_Int.m lin_list_long_Int.mr (by rw [hn]; exact of_decide_eq_true (by kernel_rfl)) hW
def lin_sum.k : K :=
 (.seq (.keep [0, 1, 4] (.ops false [⟨(some 4), none, .alloc 2 (.agg [(.bool false), (.sl [])])⟩]))
 (.seq (.keep [0, 1, 4, 5] (.ops false [⟨(some 5), none, .alloc 2 (.agg [(.bool false), (.sl [])])⟩]))
 (.seq (.seq (.keep [1, 4, 5, 9, 10] (.ops false [⟨(some 9), none, .mov (.t 0)⟩,
 ⟨(some 10), none, .mov (.c (.int .i64 0))⟩]))
 (.block 0 (.loop (.seq (.keep [1, 4, 5, 9, 10, 11] (.ops false [⟨(some 11), none, .bin .lss (.t 10) (.t 9)⟩]))
 (.seq (.cond (.t 11) .skip
 (.exit 0))
 (.seq (.block 1 (.seq (.keep [1, 4, 5, 6, 9, 10] (.ops false [⟨(some 12), none, .mov (.t 10)⟩,
 ⟨(some 6), none, .mov (.t 12)⟩]))
 (.seq (.keep [1, 4, 5, 7, 8, 9, 10] (.ops false [⟨(some 14), none, .mov (.t 1)⟩,
 ⟨(some 15), none, .mov (.t 6)⟩,
 ⟨(some 16), none, .callGV (.t 14) [(.t 15)]⟩,
 ⟨(some 13), none, .mov (.t 16)⟩,
 ⟨(some 17), none, .ext (.t 13) 0⟩,
 ⟨(some 18), none, .ext (.t 13) 1⟩,
 ⟨(some 7), none, .alloc 2 (.agg [(.bool false), (.sl [])])⟩,
 ⟨(some 8), none, .alloc 2 (.agg [(.bool false), (.sl [])])⟩,
 ⟨none, none, .store 2 (.t 7) (.t 17)⟩,
 ⟨none, none, .store 2 (.t 8) (.t 18)⟩]))
 (.keep [1, 4, 5, 9, 10] (.ops true [⟨(some 19), none, .load 2 true (.t 5)⟩,
 ⟨(some 20), none, .load 2 true (.t 7)⟩,
 ⟨(some 21), none, .load 2 true (.t 8)⟩,
 ⟨(some 22), none, .call n_long_Int_Mul [(.t 20), (.t 21)]⟩,
 ⟨(some 23), none, .call n_long_Int_Add [(.t 19), (.t 22)]⟩,
 ⟨none, none, .store 2 (.t 5) (.t 23)⟩])))))
 (.keep [1, 4, 5, 9, 10] (.ops false [⟨(some 24), none, .bin .add (.t 10) (.c (.int .i64 1))⟩,
 ⟨(some 10), none, .mov (.t 24)⟩]))))))))
 (.seq (.keep [4] (.ops false [⟨(some 25), none, .load 2 true (.t 5)⟩,
 ⟨none, none, .store 2 (.t 4) (.t 25)⟩]))
 .ret))))
def lin_sum.res : List RX := [(4, some (2, true))]
theorem lin_sum.m : mK pg Try.f56.ntmps lin_sum.k (Try.f56.body.getD .skip) = true := by kernel_rfl
theorem lin_sum.mr : mRes pg Try.f56.results.toList lin_sum.res = true := by kernel_rfl
theorem lin_sum.of {args : List V} {r : V} (hn : args.length = 2) (hW : W pg lin_sum.k (done lin_sum.res r) (start args)) : Ret pg n_lin_sum args r :=
 Ret_of (fn := Try.f56) Try.func56 rfl (by kernel_rfl) lin_sum.m lin_sum.mr (by rw [hn]; exact of_decide_eq_true (by kernel_rfl)) hW
def lin_Of_1.k : K :=
 (.seq (.keep [0, 1, 2, 5] (.ops false [⟨(some 5), none, .alloc 2 (.agg [(.bool false), (.sl [])])⟩]))
 (.seq (.keep [5] (.ops false [⟨(some 6), none, .load 1 false (.t 2)⟩,
 ⟨(some 7), none, .mov (.t 0)⟩,
 ⟨(some 8), none, .idxA 1 (.t 6) (.t 7)⟩,
 ⟨(some 9), none, .load 1 false (.t 8)⟩,
 ⟨(some 10), none, .mov (.t 1)⟩,
 ⟨(some 11), none, .idxA 1 (.t 9) (.t 10)⟩,
 ⟨(some 12), none, .load 1 false (.t 11)⟩,
 ⟨(some 13), none, .callG n_long_Of [(.t 12)]⟩,
 ⟨none, none, .store 2 (.t 5) (.t 13)⟩]))
 .ret))
def lin_Of_1.res : List RX := [(5, some (2, true))]
theorem lin_Of_1.m : mK pg Try.f59.ntmps lin_Of_1.k (Try.f59.body.getD .skip) = true := by kernel_rfl
theorem lin_Of_1.mr : mRes pg Try.f59.results.toList lin_Of_1.res = true := by kernel_rfl
theorem lin_Of_1.of {args : List V} {r : V} (hn : args.length = 3) (hW : W pg lin_Of_1.k (done lin_Of_1.res r) (start args)) : Ret pg n_lin_Of_1 args r :=
 Ret_of (fn := Try.f59) Try.func59 rfl (by kernel_rfl) lin_Of_1.m lin_Of_1.mr (by rw [hn]; exact of_decide_eq_true (by kernel_rfl)) hW
def lin_list_Llong_Int.k : K :=
 (.seq (.keep [0, 1] (.ops false [⟨(some 4), none, .mov (.c .nil)⟩]))
 (.seq (.keep [1, 5] (.ops false [⟨(some 7), none, .mov (.t 0)⟩,
 ⟨(some 8), none, .new (.mks 1 24 .nil) [(.t 7), (.t 7)]⟩,
 ⟨(some 5), none, .mov (.t 8)⟩]))
 (.seq (.seq (.keep [1, 5, 10, 11] (.ops false [⟨(some 9), none, .mov (.t 5)⟩,
 ⟨(some 10), none, .len false (.t 9)⟩,
 ⟨(some 11), none, .mov (.c (.int .i64 0))⟩]))
 (.block 0 (.loop (.seq (.keep [1, 5, 10, 11, 12] (.ops false [⟨(some 12), none, .bin .lss (.t 11) (.t 10)⟩]))
 (.seq (.cond (.t 12) .skip
 (.exit 0))
 (.seq (.block 1 (.seq (.keep [1, 5, 6, 10, 11] (.ops false [⟨(some 13), none, .mov (.t 11)⟩,
 ⟨(some 6), none, .mov (.t 13)⟩]))
 (.keep [1, 5, 10, 11] (.ops false [⟨(some 14), none, .mov (.t 5)⟩,
 ⟨(some 15), none, .mov (.t 6)⟩,
 ⟨(some 16), none, .mov (.t 1)⟩,
 ⟨(some 17), none, .mov (.t 6)⟩,
 ⟨(some 18), none, .callGV (.t 16) [(.t 17)]⟩,
 ⟨(some 19), none, .idxA 1 (.t 14) (.t 15)⟩,
 ⟨none, none, .store 1 (.t 19) (.t 18)⟩]))))
 (.keep [1, 5, 10, 11] (.ops false [⟨(some 20), none, .bin .add (.t 11) (.c (.int .i64 1))⟩,
 ⟨(some 11), none, .mov (.t 20)⟩]))))))))
 (.seq (.keep [4] (.ops false [⟨(some 21), none, .mov (.t 5)⟩,
 ⟨(some 4), none, .mov (.t 21)⟩]))
 .ret))))
def lin_list_Llong_Int.res : List RX := [(4, none)]
theorem lin_list_Llong_Int.m : mK pg Try.f63.ntmps lin_list_Llong_Int.k (Try.f63.body.getD .skip) = true := by kernel_rfl
theorem lin_list_Llong_Int.mr : mRes pg Try.f63.results.toList lin_list_Llong_Int.res = true := by kernel_rfl
theorem lin_list_Llong_Int.of {args : List V} {r : V} (hn : args.length = 2) (hW : W pg lin_list_Llong_Int.k (done lin_list_Llong_Int.res r) (start args)) : Ret pg n_lin_list_Llong_Int args r :=
 Ret_of (fn := Try.f63) Try.func63 rfl (by kernel_rfl) lin_list_Llong_Int.m lin_list_Llong_Int.mr (by rw [hn]; exact of_decide_eq_true (by kernel_rfl)) hW
theorem lin_list_Llong_Int.ofG {args : List V} {H : Hp} {n : Nat} {Q : V → Hp → Nat → Prop} (hn : args.length = 2) (hW : W pg lin_list_Llong_Int.k (doneG lin_list_Llong_Int.res (fun r H' n' => n ≤ n' ∧ Q r H' n')) (startG args H n)) : ∃ r H' n', Q r H' n' ∧ RetG pg n_lin_list_Llong_Int args H n r H' n' :=
 RetG_of (fn := Try.f63) Try.func63 rfl (by kernel_rfl) lin_list_Llong_Int.m lin_list_Llong_Int.mr (by rw [hn]; exact of_decide_eq_true (by kernel_rfl)) hW
def lin_made_1.k : K :=
 (.seq (.keep [1, 2, 3] (.ops false [⟨(some 3), none, .boxP (.t 0)⟩,
 ⟨(some 4), none, .mov (.c .nil)⟩]))
 (.seq (.keep [4] (.ops false [⟨(some 5), none, .load 1 false (.t 1)⟩,
 ⟨(some 6), none, .mkFn n_lin_made_1_1 [(.t 2), (.t 3)]⟩,
 ⟨(some 7), none, .callG n_lin_list_long_Int [(.t 5), (.t 6)]⟩,
 ⟨(some 4), none, .mov (.t 7)⟩]))
 .ret))
def lin_made_1.res : List RX := [(4, none)]
theorem lin_made_1.m : mK pg Try.f64.ntmps lin_made_1.k (Try.f64.body.getD .skip) = true := by kernel_rfl
theorem lin_made_1.mr : mRes pg Try.f64.results.toList lin_made_1.res = true := by kernel_rfl
theorem lin_made_1.of {args : List V} {r : V} (hn : args.length = 3) (hW : W pg lin_made_1.k (done lin_made_1.res r) (start args)) : Ret pg n_lin_made_1 args r :=
 Ret_of (fn := Try.f64) Try.func64 rfl (by kernel_rfl) lin_made_1.m lin_made_1.mr (by rw [hn]; exact of_decide_eq_true (by kernel_rfl)) hW
def lin_made_1_1.k : K :=
 (.seq (.keep [0, 1, 2, 4] (.ops false [⟨(some 4), none, .alloc 2 (.agg [(.bool false), (.sl [])])⟩]))
 (.seq (.keep [4] (.ops false [⟨(some 5), none, .load 1 false (.t 1)⟩,
 ⟨(some 6), none, .load 1 false (.t 2)⟩,
 ⟨(some 7), none, .mov (.t 0)⟩,
 ⟨(some 8), none, .callGV (.t 5) [(.t 6), (.t 7)]⟩,
 ⟨none, none, .store 2 (.t 4) (.t 8)⟩]))
 .ret))
def lin_made_1_1.res : List RX := [(4, some (2, true))]
theorem lin_made_1_1.m : mK pg Try.f65.ntmps lin_made_1_1.k (Try.f65.body.getD .skip) = true := by kernel_rfl
theorem lin_made_1_1.mr : mRes pg Try.f65.results.toList lin_made_1_1.res = true := by kernel_rfl
theorem lin_made_1_1.of {args : List V} {r : V} (hn : args.length = 3) (hW : W pg lin_made_1_1.k (done lin_made_1_1.res r) (start args)) : Ret pg n_lin_made_1_1 args r :=
 Ret_of (fn := Try.f65) Try.func65 rfl (by kernel_rfl) lin_made_1_1.m lin_made_1_1.mr (by rw [hn]; exact of_decide_eq_true (by kernel_rfl)) hW
def lin_Mat_Definite.k : K :=
 (.seq (.keep [1] (.ops false [⟨(some 1), none, .boxP (.t 0)⟩,
 ⟨(some 2), none, .mov (.c (.bool false))⟩]))
 (.seq (.seq (.keep [1, 7, 8] (.ops false [⟨(some 6), none, .load 1 false (.t 1)⟩,
 ⟨(some 7), none, .len false (.t 6)⟩,
 ⟨(some 8), none, .mov (.c (.int .i64 0))⟩]))
 (.block 0 (.loop (.seq (.keep [1, 7, 8, 9] (.ops false [⟨(some 9), none, .bin .lss (.t 8) (.t 7)⟩]))
 (.seq (.cond (.t 9) .skip
 (.exit 0))
 (.seq (.block 1 (.seq (.keep [1, 3, 7, 8] (.ops false [⟨(some 10), none, .mov (.t 8)⟩,
 ⟨(some 3), none, .mov (.t 10)⟩]))
 (.seq (.seq (.keep [1, 3, 7, 8, 11, 12] (.ops false [⟨(some 11), none, .mov (.t 3)⟩,
 ⟨(some 12), none, .mov (.c (.int .i64 0))⟩]))
 (.block 2 (.loop (.seq (.keep [1, 3, 7, 8, 11, 12, 13] (.ops false [⟨(some 13), none, .bin .lss (.t 12) (.t 11)⟩]))
 (.seq (.cond (.t 13) .skip
 (.exit 2))
 (.seq (.block 3 (.seq (.keep [1, 3, 4, 7, 8, 11, 12] (.ops false [⟨(some 14), none, .mov (.t 12)⟩,
 ⟨(some 4), none, .mov (.t 14)⟩]))
 (.seq (.keep [1, 3, 7, 8, 11, 12, 30] (.ops true [⟨(some 15), none, .load 1 false (.t 1)⟩,
 ⟨(some 16), none, .mov (.t 3)⟩,
 ⟨(some 17), none, .idxA 1 (.t 15) (.t 16)⟩,
 ⟨(some 18), none, .load 1 false (.t 17)⟩,
 ⟨(some 19), none, .mov (.t 4)⟩,
 ⟨(some 20), none, .idxA 2 (.t 18) (.t 19)⟩,
 ⟨(some 21), none, .load 2 true (.t 20)⟩,
 ⟨(some 22), none, .load 1 false (.t 1)⟩,
 ⟨(some 23), none, .mov (.t 4)⟩,
 ⟨(some 24), none, .idxA 1 (.t 22) (.t 23)⟩,
 ⟨(some 25), none, .load 1 false (.t 24)⟩,
 ⟨(some 26), none, .mov (.t 3)⟩,
 ⟨(some 27), none, .idxA 2 (.t 25) (.t 26)⟩,
 ⟨(some 28), none, .load 2 true (.t 27)⟩,
 ⟨(some 29), none, .call n_long_Int_Cmp [(.t 21), (.t 28)]⟩,
 ⟨(some 30), none, .bin .neq (.t 29) (.c (.int .i64 0))⟩]))
 (.cond (.t 30) (.seq (.keep [2] (.ops false [⟨(some 2), none, .mov (.c (.bool false))⟩]))
 .ret)
 .skip))))
 (.keep [1, 3, 7, 8, 11, 12] (.ops false [⟨(some 31), none, .bin .add (.t 12) (.c (.int .i64 1))⟩,
 ⟨(some 12), none, .mov (.t 31)⟩]))))))))
 (.seq (.keep [1, 5, 7, 8] (.ops false [⟨(some 32), none, .mov (.t 3)⟩,
 ⟨(some 33), none, .bin .add (.t 32) (.c (.int .i64 1))⟩,
 ⟨(some 34), none, .mkFn n_lin_Mat_Definite_1 [(.t 1)]⟩,
 ⟨(some 35), none, .callG n_lin_made [(.t 33), (.t 34)]⟩,
 ⟨(some 5), none, .mov (.t 35)⟩]))
 (.seq (.keep [1, 7, 8, 39] (.ops false [⟨(some 36), none, .mov (.t 5)⟩,
 ⟨(some 37), none, .callG n_lin_Mat_Det [(.t 36)]⟩,
 ⟨(some 38), none, .callG n_long_Int_Sign [(.t 37)]⟩,
 ⟨(some 39), none, .bin .leq (.t 38) (.c (.int .i64 0))⟩]))
 (.cond (.t 39) (.seq (.keep [2] (.ops false [⟨(some 2), none, .mov (.c (.bool false))⟩]))
 .ret)
 .skip))))))
 (.keep [1, 7, 8] (.ops false [⟨(some 40), none, .bin .add (.t 8) (.c (.int .i64 1))⟩,
 ⟨(some 8), none, .mov (.t 40)⟩]))))))))
 (.seq (.keep [2] (.ops false [⟨(some 2), none, .mov (.c (.bool true))⟩]))
 .ret)))
def lin_Mat_Definite.res : List RX := [(2, none)]
theorem lin_Mat_Definite.m : mK pg Try.f24.ntmps lin_Mat_Definite.k (Try.f24.body.getD .skip) = true := by kernel_rfl
theorem lin_Mat_Definite.mr : mRes pg Try.f24.results.toList lin_Mat_Definite.res = true := by kernel_rfl
theorem lin_Mat_Definite.of {args : List V} {r : V} (hn : args.length = 1) (hW : W pg lin_Mat_Definite.k (done lin_Mat_Definite.res r) (start args)) : Ret pg n_lin_Mat_Definite args r :=
 Ret_of (fn := Try.f24) Try.func24 rfl (by kernel_rfl) lin_Mat_Definite.m lin_Mat_Definite.mr (by rw [hn]; exact of_decide_eq_true (by kernel_rfl)) hW
def lin_Mat_Det.k : K :=
 (.seq (.keep [0, 2] (.ops false [⟨(some 2), none, .alloc 2 (.agg [(.bool false), (.sl [])])⟩]))
 (.seq (.keep [0, 2, 3, 4, 5] (.ops false [⟨(some 7), none, .mov (.t 0)⟩,
 ⟨(some 8), none, .mov (.t 0)⟩,
 ⟨(some 9), none, .len false (.t 8)⟩,
 ⟨(some 10), none, .callG n_lin_zeros [(.t 9)]⟩,
 ⟨(some 11), none, .callG n_lin_Mat_swept [(.t 7), (.t 10)]⟩,
 ⟨(some 6), none, .mov (.t 11)⟩,
 ⟨(some 12), none, .ext (.t 6) 0⟩,
 ⟨(some 13), none, .ext (.t 6) 1⟩,
 ⟨(some 14), none, .ext (.t 6) 2⟩,
 ⟨(some 3), none, .mov (.t 12)⟩,
 ⟨(some 4), none, .mov (.t 13)⟩,
 ⟨(some 5), none, .mov (.t 14)⟩]))
 (.seq (.block 0 (.seq (.keep [0, 2, 3, 4, 15] (.ops false [⟨(some 16), none, .mov (.t 5)⟩,
 ⟨(some 17), none, .un .not (.t 16)⟩,
 ⟨(some 15), none, .mov (.t 17)⟩]))
 (.cond (.t 15) (.seq (.keep [2] (.ops false [⟨(some 18), none, .build [(.bool false), (.sl [])] []⟩,
 ⟨none, none, .store 2 (.t 2) (.t 18)⟩]))
 .ret)
 (.seq (.keep [0, 2, 3, 4, 19] (.ops false [⟨(some 20), none, .mov (.t 0)⟩,
 ⟨(some 21), none, .len false (.t 20)⟩,
 ⟨(some 22), none, .bin .eql (.t 21) (.c (.int .i64 0))⟩,
 ⟨(some 19), none, .mov (.t 22)⟩]))
 (.cond (.t 19) (.seq (.keep [2] (.ops false [⟨(some 23), none, .callG n_long_Of [(.c (.int .i64 1))]⟩,
 ⟨none, none, .store 2 (.t 2) (.t 23)⟩]))
 .ret)
 .skip)))))
 (.seq (.keep [2] (.ops false [⟨(some 24), none, .mov (.t 3)⟩,
 ⟨(some 25), none, .mov (.t 0)⟩,
 ⟨(some 26), none, .len false (.t 25)⟩,
 ⟨(some 27), none, .bin .sub (.t 26) (.c (.int .i64 1))⟩,
 ⟨(some 28), none, .idxA 1 (.t 24) (.t 27)⟩,
 ⟨(some 29), none, .load 1 false (.t 28)⟩,
 ⟨(some 30), none, .mov (.t 0)⟩,
 ⟨(some 31), none, .len false (.t 30)⟩,
 ⟨(some 32), none, .bin .sub (.t 31) (.c (.int .i64 1))⟩,
 ⟨(some 33), none, .idxA 2 (.t 29) (.t 32)⟩,
 ⟨(some 34), none, .load 2 true (.t 33)⟩,
 ⟨(some 35), none, .mov (.t 4)⟩,
 ⟨(some 36), none, .callG n_lin_turned [(.t 34), (.t 35)]⟩,
 ⟨none, none, .store 2 (.t 2) (.t 36)⟩]))
 .ret))))
def lin_Mat_Det.res : List RX := [(2, some (2, true))]
theorem lin_Mat_Det.m : mK pg Try.f25.ntmps lin_Mat_Det.k (Try.f25.body.getD .skip) = true := by kernel_rfl
theorem lin_Mat_Det.mr : mRes pg Try.f25.results.toList lin_Mat_Det.res = true := by kernel_rfl
theorem lin_Mat_Det.of {args : List V} {r : V} (hn : args.length = 1) (hW : W pg lin_Mat_Det.k (done lin_Mat_Det.res r) (start args)) : Ret pg n_lin_Mat_Det args r :=
 Ret_of (fn := Try.f25) Try.func25 rfl (by kernel_rfl) lin_Mat_Det.m lin_Mat_Det.mr (by rw [hn]; exact of_decide_eq_true (by kernel_rfl)) hW
def lin_Mat_Solve.k : K :=
 (.seq (.keep [1, 2, 5] (.ops false [⟨(some 2), none, .boxP (.t 0)⟩,
 ⟨(some 4), none, .mov (.c .nil)⟩,
 ⟨(some 5), none, .alloc 2 (.agg [(.bool false), (.sl [])])⟩,
 ⟨(some 6), none, .mov (.c (.int .i64 0))⟩]))
 (.seq (.seq (.keep [1, 2, 5, 14] (.ops false [⟨(some 10), none, .mov (.t 1)⟩,
 ⟨(some 11), none, .len false (.t 10)⟩,
 ⟨(some 12), none, .load 1 false (.t 2)⟩,
 ⟨(some 13), none, .len false (.t 12)⟩,
 ⟨(some 14), none, .bin .neq (.t 11) (.t 13)⟩]))
 (.cond (.t 14) (.seq (.keep [4, 5, 6] (.ops false [⟨(some 15), none, .build [(.bool false), (.sl [])] []⟩,
 ⟨(some 4), none, .mov (.c .nil)⟩,
 ⟨none, none, .store 2 (.t 5) (.t 15)⟩,
 ⟨(some 6), none, .mov (.c (.int .i64 1))⟩]))
 .ret)
 .skip))
 (.seq (.keep [2, 5, 7, 8, 9] (.ops false [⟨(some 17), none, .load 1 false (.t 2)⟩,
 ⟨(some 18), none, .mov (.t 1)⟩,
 ⟨(some 19), none, .callG n_lin_Mat_swept [(.t 17), (.t 18)]⟩,
 ⟨(some 16), none, .mov (.t 19)⟩,
 ⟨(some 20), none, .ext (.t 16) 0⟩,
 ⟨(some 21), none, .ext (.t 16) 1⟩,
 ⟨(some 22), none, .ext (.t 16) 2⟩,
 ⟨(some 7), none, .alloc 1 .nil⟩,
 ⟨(some 8), none, .alloc 1 (.bool false)⟩,
 ⟨none, none, .store 1 (.t 7) (.t 20)⟩,
 ⟨none, none, .store 1 (.t 8) (.t 21)⟩,
 ⟨(some 9), none, .mov (.t 22)⟩]))
 (.seq (.seq (.keep [2, 5, 7, 8, 24] (.ops false [⟨(some 23), none, .mov (.t 9)⟩,
 ⟨(some 24), none, .un .not (.t 23)⟩]))
 (.cond (.t 24) (.seq (.keep [4, 5, 6] (.ops false [⟨(some 25), none, .build [(.bool false), (.sl [])] []⟩,
 ⟨(some 4), none, .mov (.c .nil)⟩,
 ⟨none, none, .store 2 (.t 5) (.t 25)⟩,
 ⟨(some 6), none, .mov (.c (.int .i64 11))⟩]))
 .ret)
 .skip))
 (.seq (.gh (.keep [4, 5, 6] (.ops true [⟨(some 26), none, .load 1 false (.t 2)⟩,
 ⟨(some 27), none, .len false (.t 26)⟩,
 ⟨(some 28), none, .mkFn n_lin_Mat_Solve_1 [(.t 7), (.t 2), (.t 8)]⟩,
 ⟨(some 29), none, .call n_lin_list_long_Int [(.t 27), (.t 28)]⟩,
 ⟨(some 30), none, .load 1 false (.t 2)⟩,
 ⟨(some 31), none, .call n_lin_Mat_Det [(.t 30)]⟩,
 ⟨(some 4), none, .mov (.t 29)⟩,
 ⟨none, none, .store 2 (.t 5) (.t 31)⟩,
 ⟨(some 6), none, .mov (.c (.int .i64 0))⟩])))
 .ret)))))
def lin_Mat_Solve.res : List RX := [(4, none), (5, some (2, true)), (6, none)]
theorem lin_Mat_Solve.m : mK pg Try.f26.ntmps lin_Mat_Solve.k (Try.f26.body.getD .skip) = true := by kernel_rfl
theorem lin_Mat_Solve.mr : mRes pg Try.f26.results.toList lin_Mat_Solve.res = true := by kernel_rfl
theorem lin_Mat_Solve.of {args : List V} {r : V} (hn : args.length = 2) (hW : W pg lin_Mat_Solve.k (done lin_Mat_Solve.res r) (start args)) : Ret pg n_lin_Mat_Solve args r :=
 Ret_of (fn := Try.f26) Try.func26 rfl (by kernel_rfl) lin_Mat_Solve.m lin_Mat_Solve.mr (by rw [hn]; exact of_decide_eq_true (by kernel_rfl)) hW
def lin_Mat_Quad.k : K :=
 (.seq (.keep [0, 3, 4] (.ops false [⟨(some 3), none, .boxP (.t 1)⟩,
 ⟨(some 4), none, .alloc 2 (.agg [(.bool false), (.sl [])])⟩]))
 (.seq (.keep [0, 3, 4, 5] (.ops false [⟨(some 6), none, .mov (.t 0)⟩,
 ⟨(some 7), none, .load 1 false (.t 3)⟩,
 ⟨(some 8), none, .callG n_lin_Mat_Apply [(.t 6), (.t 7)]⟩,
 ⟨(some 5), none, .alloc 1 .nil⟩,
 ⟨none, none, .store 1 (.t 5) (.t 8)⟩]))
 (.seq (.keep [4] (.ops false [⟨(some 9), none, .mov (.t 0)⟩,
 ⟨(some 10), none, .len false (.t 9)⟩,
 ⟨(some 11), none, .mkFn n_lin_Mat_Quad_1 [(.t 3), (.t 5)]⟩,
 ⟨(some 12), none, .callG n_lin_sum [(.t 10), (.t 11)]⟩,
 ⟨none, none, .store 2 (.t 4) (.t 12)⟩]))
 .ret)))
def lin_Mat_Quad.res : List RX := [(4, some (2, true))]
theorem lin_Mat_Quad.m : mK pg Try.f33.ntmps lin_Mat_Quad.k (Try.f33.body.getD .skip) = true := by kernel_rfl
theorem lin_Mat_Quad.mr : mRes pg Try.f33.results.toList lin_Mat_Quad.res = true := by kernel_rfl
theorem lin_Mat_Quad.of {args : List V} {r : V} (hn : args.length = 2) (hW : W pg lin_Mat_Quad.k (done lin_Mat_Quad.res r) (start args)) : Ret pg n_lin_Mat_Quad args r :=
 Ret_of (fn := Try.f33) Try.func33 rfl (by kernel_rfl) lin_Mat_Quad.m lin_Mat_Quad.mr (by rw [hn]; exact of_decide_eq_true (by kernel_rfl)) hW
def lin_Mat_Turned.k : K :=
 (.seq (.keep [1] (.ops false [⟨(some 1), none, .boxP (.t 0)⟩,
 ⟨(some 2), none, .mov (.c .nil)⟩]))
 (.seq (.keep [2] (.ops false [⟨(some 3), none, .load 1 false (.t 1)⟩,
 ⟨(some 4), none, .len false (.t 3)⟩,
 ⟨(some 5), none, .mkFn n_lin_Mat_Turned_1 [(.t 1)]⟩,
 ⟨(some 6), none, .callG n_lin_made [(.t 4), (.t 5)]⟩,
 ⟨(some 2), none, .mov (.t 6)⟩]))
 .ret))
def lin_Mat_Turned.res : List RX := [(2, none)]
theorem lin_Mat_Turned.m : mK pg Try.f40.ntmps lin_Mat_Turned.k (Try.f40.body.getD .skip) = true := by kernel_rfl
theorem lin_Mat_Turned.mr : mRes pg Try.f40.results.toList lin_Mat_Turned.res = true := by kernel_rfl
theorem lin_Mat_Turned.of {args : List V} {r : V} (hn : args.length = 1) (hW : W pg lin_Mat_Turned.k (done lin_Mat_Turned.res r) (start args)) : Ret pg n_lin_Mat_Turned args r :=
 Ret_of (fn := Try.f40) Try.func40 rfl (by kernel_rfl) lin_Mat_Turned.m lin_Mat_Turned.mr (by rw [hn]; exact of_decide_eq_true (by kernel_rfl)) hW
def lin_Mat_Apply.k : K :=
 (.seq (.keep [2, 3] (.ops false [⟨(some 2), none, .boxP (.t 0)⟩,
 ⟨(some 3), none, .boxP (.t 1)⟩,
 ⟨(some 4), none, .mov (.c .nil)⟩]))
 (.seq (.keep [4] (.ops false [⟨(some 5), none, .load 1 false (.t 2)⟩,
 ⟨(some 6), none, .len false (.t 5)⟩,
 ⟨(some 7), none, .mkFn n_lin_Mat_Apply_1 [(.t 2), (.t 3)]⟩,
 ⟨(some 8), none, .callG n_lin_list_long_Int [(.t 6), (.t 7)]⟩,
 ⟨(some 4), none, .mov (.t 8)⟩]))
 .ret))
def lin_Mat_Apply.res : List RX := [(4, none)]
theorem lin_Mat_Apply.m : mK pg Try.f44.ntmps lin_Mat_Apply.k (Try.f44.body.getD .skip) = true := by kernel_rfl
theorem lin_Mat_Apply.mr : mRes pg Try.f44.results.toList lin_Mat_Apply.res = true := by kernel_rfl
theorem lin_Mat_Apply.of {args : List V} {r : V} (hn : args.length = 2) (hW : W pg lin_Mat_Apply.k (done lin_Mat_Apply.res r) (start args)) : Ret pg n_lin_Mat_Apply args r :=
 Ret_of (fn := Try.f44) Try.func44 rfl (by kernel_rfl) lin_Mat_Apply.m lin_Mat_Apply.mr (by rw [hn]; exact of_decide_eq_true (by kernel_rfl)) hW
def lin_Mat_Definite_1.k : K :=
 (.seq (.keep [0, 1, 2, 5] (.ops false [⟨(some 5), none, .alloc 2 (.agg [(.bool false), (.sl [])])⟩]))
 (.seq (.keep [5] (.ops false [⟨(some 6), none, .load 1 false (.t 2)⟩,
 ⟨(some 7), none, .mov (.t 0)⟩,
 ⟨(some 8), none, .idxA 1 (.t 6) (.t 7)⟩,
 ⟨(some 9), none, .load 1 false (.t 8)⟩,
 ⟨(some 10), none, .mov (.t 1)⟩,
 ⟨(some 11), none, .idxA 2 (.t 9) (.t 10)⟩,
 ⟨(some 12), none, .load 2 true (.t 11)⟩,
 ⟨none, none, .store 2 (.t 5) (.t 12)⟩]))
 .ret))
def lin_Mat_Definite_1.res : List RX := [(5, some (2, true))]
theorem lin_Mat_Definite_1.m : mK pg Try.f48.ntmps lin_Mat_Definite_1.k (Try.f48.body.getD .skip) = true := by kernel_rfl
theorem lin_Mat_Definite_1.mr : mRes pg Try.f48.results.toList lin_Mat_Definite_1.res = true := by kernel_rfl
theorem lin_Mat_Definite_1.of {args : List V} {r : V} (hn : args.length = 3) (hW : W pg lin_Mat_Definite_1.k (done lin_Mat_Definite_1.res r) (start args)) : Ret pg n_lin_Mat_Definite_1 args r :=
 Ret_of (fn := Try.f48) Try.func48 rfl (by kernel_rfl) lin_Mat_Definite_1.m lin_Mat_Definite_1.mr (by rw [hn]; exact of_decide_eq_true (by kernel_rfl)) hW
def lin_Mat_swept.k : K :=
 (.seq (.keep [2, 3, 5] (.ops false [⟨(some 2), none, .boxP (.t 0)⟩,
 ⟨(some 3), none, .boxP (.t 1)⟩,
 ⟨(some 4), none, .mov (.c .nil)⟩,
 ⟨(some 5), none, .mov (.c (.bool false))⟩,
 ⟨(some 6), none, .mov (.c (.bool false))⟩]))
 (.seq (.keep [2, 3, 5, 7] (.ops false [⟨(some 15), none, .load 1 false (.t 2)⟩,
 ⟨(some 16), none, .len false (.t 15)⟩,
 ⟨(some 7), none, .alloc 1 (.int .i64 0)⟩,
 ⟨none, none, .store 1 (.t 7) (.t 16)⟩]))
 (.seq (.keep [4, 5, 7] (.ops false [⟨(some 17), none, .load 1 false (.t 7)⟩,
 ⟨(some 18), none, .mkFn n_lin_Mat_swept_1 [(.t 7), (.t 2), (.t 3)]⟩,
 ⟨(some 19), none, .callG n_lin_list_Llong_Int [(.t 17), (.t 18)]⟩,
 ⟨(some 4), none, .mov (.t 19)⟩]))
 (.seq (.keep [4, 5, 7, 8] (.ops false [⟨(some 20), none, .callG n_long_Of [(.c (.int .i64 1))]⟩,
 ⟨(some 8), none, .alloc 2 (.agg [(.bool false), (.sl [])])⟩,
 ⟨none, none, .store 2 (.t 8) (.t 20)⟩]))
 (.seq (.seq (.keep [4, 5, 7, 8, 21, 22] (.ops false [⟨(some 21), none, .load 1 false (.t 7)⟩,
 ⟨(some 22), none, .mov (.c (.int .i64 0))⟩]))
 (.block 0 (.loop (.seq (.keep [4, 5, 7, 8, 21, 22, 23] (.ops false [⟨(some 23), none, .bin .lss (.t 22) (.t 21)⟩]))
 (.seq (.cond (.t 23) .skip
 (.exit 0))
 (.seq (.block 1 (.seq (.keep [4, 5, 7, 8, 9, 21, 22] (.ops false [⟨(some 24), none, .mov (.t 22)⟩,
 ⟨(some 9), none, .mov (.t 24)⟩]))
 (.seq (.keep [4, 5, 7, 8, 9, 10, 21, 22] (.ops false [⟨(some 25), none, .mov (.t 9)⟩,
 ⟨(some 10), none, .mov (.t 25)⟩]))
 (.seq (.block 2 (.loop (.seq (.seq (.keep [4, 5, 7, 8, 9, 10, 21, 22, 39] (.ops false [⟨(some 26), none, .mov (.t 10)⟩,
 ⟨(some 27), none, .load 1 false (.t 7)⟩,
 ⟨(some 28), none, .bin .lss (.t 26) (.t 27)⟩,
 ⟨(some 29), none, .mov (.t 28)⟩,
 ⟨(some 30), (some (29, true)), .mov (.t 4)⟩,
 ⟨(some 31), (some (29, true)), .mov (.t 10)⟩,
 ⟨(some 32), (some (29, true)), .idxA 1 (.t 30) (.t 31)⟩,
 ⟨(some 33), (some (29, true)), .load 1 false (.t 32)⟩,
 ⟨(some 34), (some (29, true)), .mov (.t 9)⟩,
 ⟨(some 35), (some (29, true)), .idxA 2 (.t 33) (.t 34)⟩,
 ⟨(some 36), (some (29, true)), .load 2 true (.t 35)⟩,
 ⟨(some 37), (some (29, true)), .callG n_long_Int_Sign [(.t 36)]⟩,
 ⟨(some 38), (some (29, true)), .bin .eql (.t 37) (.c (.int .i64 0))⟩,
 ⟨(some 39), none, .pick (.t 29) (.t 38) (.c (.bool false))⟩]))
 (.cond (.t 39) .skip
 (.exit 2)))
 (.keep [4, 5, 7, 8, 9, 10, 21, 22] (.block 3 (.keep [4, 5, 7, 8, 9, 10, 21, 22] (.ops false [⟨(some 40), none, .mov (.t 10)⟩,
 ⟨(some 41), none, .bin .add (.t 40) (.c (.int .i64 1))⟩,
 ⟨(some 10), none, .mov (.t 41)⟩])))))))
 (.seq (.seq (.keep [4, 5, 7, 8, 9, 10, 21, 22, 44] (.ops false [⟨(some 42), none, .mov (.t 10)⟩,
 ⟨(some 43), none, .load 1 false (.t 7)⟩,
 ⟨(some 44), none, .bin .eql (.t 42) (.t 43)⟩]))
 (.cond (.t 44) (.seq (.keep [4, 5, 6] (.ops false [⟨(some 4), none, .mov (.c .nil)⟩,
 ⟨(some 5), none, .mov (.c (.bool false))⟩,
 ⟨(some 6), none, .mov (.c (.bool false))⟩]))
 .ret)
 .skip))
 (.seq (.seq (.keep [4, 5, 7, 8, 9, 10, 21, 22, 47] (.ops false [⟨(some 45), none, .mov (.t 10)⟩,
 ⟨(some 46), none, .mov (.t 9)⟩,
 ⟨(some 47), none, .bin .neq (.t 45) (.t 46)⟩]))
 (.cond (.t 47) (.keep [4, 5, 7, 8, 9, 21, 22] (.ops true [⟨(some 48), none, .mov (.t 4)⟩,
 ⟨(some 49), none, .mov (.t 10)⟩,
 ⟨(some 50), none, .mov (.t 4)⟩,
 ⟨(some 51), none, .mov (.t 9)⟩,
 ⟨(some 52), none, .mov (.t 4)⟩,
 ⟨(some 53), none, .mov (.t 9)⟩,
 ⟨(some 54), none, .idxA 1 (.t 52) (.t 53)⟩,
 ⟨(some 55), none, .load 1 false (.t 54)⟩,
 ⟨(some 56), none, .mov (.t 4)⟩,
 ⟨(some 57), none, .mov (.t 10)⟩,
 ⟨(some 58), none, .idxA 1 (.t 56) (.t 57)⟩,
 ⟨(some 59), none, .load 1 false (.t 58)⟩,
 ⟨(some 60), none, .mov (.t 5)⟩,
 ⟨(some 61), none, .un .not (.t 60)⟩,
 ⟨(some 62), none, .idxA 1 (.t 48) (.t 49)⟩,
 ⟨none, none, .store 1 (.t 62) (.t 55)⟩,
 ⟨(some 63), none, .idxA 1 (.t 50) (.t 51)⟩,
 ⟨none, none, .store 1 (.t 63) (.t 59)⟩,
 ⟨(some 5), none, .mov (.t 61)⟩]))
 .skip))
 (.seq (.keep [4, 5, 7, 8, 9, 11, 21, 22] (.ops false [⟨(some 64), none, .mov (.t 4)⟩,
 ⟨(some 65), none, .mov (.t 9)⟩,
 ⟨(some 66), none, .idxA 1 (.t 64) (.t 65)⟩,
 ⟨(some 67), none, .load 1 false (.t 66)⟩,
 ⟨(some 68), none, .mov (.t 9)⟩,
 ⟨(some 69), none, .idxA 2 (.t 67) (.t 68)⟩,
 ⟨(some 70), none, .load 2 true (.t 69)⟩,
 ⟨(some 11), none, .alloc 2 (.agg [(.bool false), (.sl [])])⟩,
 ⟨none, none, .store 2 (.t 11) (.t 70)⟩]))
 (.seq (.seq (.keep [4, 5, 7, 8, 9, 11, 21, 22, 71, 72] (.ops false [⟨(some 71), none, .load 1 false (.t 7)⟩,
 ⟨(some 72), none, .mov (.c (.int .i64 0))⟩]))
 (.block 4 (.loop (.seq (.keep [4, 5, 7, 8, 9, 11, 21, 22, 71, 72, 73] (.ops false [⟨(some 73), none, .bin .lss (.t 72) (.t 71)⟩]))
 (.seq (.cond (.t 73) .skip
 (.exit 4))
 (.seq (.block 5 (.seq (.keep [4, 5, 7, 8, 9, 11, 12, 21, 22, 71, 72] (.ops false [⟨(some 74), none, .mov (.t 72)⟩,
 ⟨(some 12), none, .mov (.t 74)⟩]))
 (.seq (.seq (.keep [4, 5, 7, 8, 9, 11, 12, 21, 22, 71, 72, 77] (.ops false [⟨(some 75), none, .mov (.t 12)⟩,
 ⟨(some 76), none, .mov (.t 9)⟩,
 ⟨(some 77), none, .bin .eql (.t 75) (.t 76)⟩]))
 (.cond (.t 77) (.exit 5)
 .skip))
 (.seq (.keep [4, 5, 7, 8, 9, 11, 12, 13, 21, 22, 71, 72] (.ops false [⟨(some 78), none, .mov (.t 4)⟩,
 ⟨(some 79), none, .mov (.t 12)⟩,
 ⟨(some 80), none, .idxA 1 (.t 78) (.t 79)⟩,
 ⟨(some 81), none, .load 1 false (.t 80)⟩,
 ⟨(some 82), none, .mov (.t 9)⟩,
 ⟨(some 83), none, .idxA 2 (.t 81) (.t 82)⟩,
 ⟨(some 84), none, .load 2 true (.t 83)⟩,
 ⟨(some 13), none, .alloc 2 (.agg [(.bool false), (.sl [])])⟩,
 ⟨none, none, .store 2 (.t 13) (.t 84)⟩]))
 (.seq (.keep [4, 5, 7, 8, 9, 11, 12, 13, 21, 22, 71, 72, 89, 90] (.ops false [⟨(some 85), none, .mov (.t 4)⟩,
 ⟨(some 86), none, .mov (.t 12)⟩,
 ⟨(some 87), none, .idxA 1 (.t 85) (.t 86)⟩,
 ⟨(some 88), none, .load 1 false (.t 87)⟩,
 ⟨(some 89), none, .len false (.t 88)⟩,
 ⟨(some 90), none, .mov (.c (.int .i64 0))⟩]))
 (.block 6 (.loop (.seq (.keep [4, 5, 7, 8, 9, 11, 12, 13, 21, 22, 71, 72, 89, 90, 91] (.ops false [⟨(some 91), none, .bin .lss (.t 90) (.t 89)⟩]))
 (.seq (.cond (.t 91) .skip
 (.exit 6))
 (.seq (.block 7 (.seq (.keep [4, 5, 7, 8, 9, 11, 12, 13, 14, 21, 22, 71, 72, 89, 90] (.ops false [⟨(some 92), none, .mov (.t 90)⟩,
 ⟨(some 14), none, .mov (.t 92)⟩]))
 (.keep [4, 5, 7, 8, 9, 11, 12, 13, 21, 22, 71, 72, 89, 90] (.ops true [⟨(some 94), none, .mov (.t 4)⟩,
 ⟨(some 95), none, .mov (.t 12)⟩,
 ⟨(some 96), none, .idxA 1 (.t 94) (.t 95)⟩,
 ⟨(some 97), none, .load 1 false (.t 96)⟩,
 ⟨(some 98), none, .mov (.t 14)⟩,
 ⟨(some 99), none, .load 2 true (.t 11)⟩,
 ⟨(some 100), none, .mov (.t 4)⟩,
 ⟨(some 101), none, .mov (.t 12)⟩,
 ⟨(some 102), none, .idxA 1 (.t 100) (.t 101)⟩,
 ⟨(some 103), none, .load 1 false (.t 102)⟩,
 ⟨(some 104), none, .mov (.t 14)⟩,
 ⟨(some 105), none, .idxA 2 (.t 103) (.t 104)⟩,
 ⟨(some 106), none, .load 2 true (.t 105)⟩,
 ⟨(some 107), none, .call n_long_Int_Mul [(.t 99), (.t 106)]⟩,
 ⟨(some 108), none, .load 2 true (.t 13)⟩,
 ⟨(some 109), none, .mov (.t 4)⟩,
 ⟨(some 110), none, .mov (.t 9)⟩,
 ⟨(some 111), none, .idxA 1 (.t 109) (.t 110)⟩,
 ⟨(some 112), none, .load 1 false (.t 111)⟩,
 ⟨(some 113), none, .mov (.t 14)⟩,
 ⟨(some 114), none, .idxA 2 (.t 112) (.t 113)⟩,
 ⟨(some 115), none, .load 2 true (.t 114)⟩,
 ⟨(some 116), none, .call n_long_Int_Mul [(.t 108), (.t 115)]⟩,
 ⟨(some 117), none, .call n_long_Int_Sub [(.t 107), (.t 116)]⟩,
 ⟨(some 118), none, .load 2 true (.t 8)⟩,
 ⟨(some 119), none, .call n_long_Int_Quo [(.t 117), (.t 118)]⟩,
 ⟨(some 93), none, .mov (.t 119)⟩,
 ⟨(some 120), none, .ext (.t 93) 0⟩,
 ⟨(some 121), none, .ext (.t 93) 1⟩,
 ⟨(some 122), none, .ext (.t 93) 2⟩,
 ⟨(some 123), none, .idxA 2 (.t 97) (.t 98)⟩,
 ⟨none, none, .store 2 (.t 123) (.t 120)⟩]))))
 (.keep [4, 5, 7, 8, 9, 11, 12, 13, 21, 22, 71, 72, 89, 90] (.ops false [⟨(some 124), none, .bin .add (.t 90) (.c (.int .i64 1))⟩,
 ⟨(some 90), none, .mov (.t 124)⟩]))))))))))))
 (.keep [4, 5, 7, 8, 9, 11, 21, 22, 71, 72] (.ops false [⟨(some 125), none, .bin .add (.t 72) (.c (.int .i64 1))⟩,
 ⟨(some 72), none, .mov (.t 125)⟩]))))))))
 (.keep [4, 5, 7, 8, 21, 22] (.ops false [⟨(some 126), none, .load 2 true (.t 11)⟩,
 ⟨none, none, .store 2 (.t 8) (.t 126)⟩]))))))))))
 (.keep [4, 5, 7, 8, 21, 22] (.ops false [⟨(some 127), none, .bin .add (.t 22) (.c (.int .i64 1))⟩,
 ⟨(some 22), none, .mov (.t 127)⟩]))))))))
 (.seq (.keep [4, 5, 6] (.ops false [⟨(some 128), none, .mov (.t 4)⟩,
 ⟨(some 129), none, .mov (.t 5)⟩,
 ⟨(some 4), none, .mov (.t 128)⟩,
 ⟨(some 5), none, .mov (.t 129)⟩,
 ⟨(some 6), none, .mov (.c (.bool true))⟩]))
 .ret))))))
def lin_Mat_swept.res : List RX := [(4, none), (5, none), (6, none)]
theorem lin_Mat_swept.m : mK pg Try.f49.ntmps lin_Mat_swept.k (Try.f49.body.getD .skip) = true := by kernel_rfl
theorem lin_Mat_swept.mr : mRes pg Try.f49.results.toList lin_Mat_swept.res = true := by kernel_rfl
theorem lin_Mat_swept.of {args : List V} {r : V} (hn : args.length = 2) (hW : W pg lin_Mat_swept.k (done lin_Mat_swept.res r) (start args)) : Ret pg n_lin_Mat_swept args r :=
 Ret_of (fn := Try.f49) Try.func49 rfl (by kernel_rfl) lin_Mat_swept.m lin_Mat_swept.mr (by rw [hn]; exact of_decide_eq_true (by kernel_rfl)) hW
def lin_Mat_Solve_1.k : K :=
 (.seq (.keep [0, 1, 2, 3, 5] (.ops false [⟨(some 5), none, .alloc 2 (.agg [(.bool false), (.sl [])])⟩]))
 (.seq (.keep [5] (.ops true [⟨(some 6), none, .load 1 false (.t 1)⟩,
 ⟨(some 7), none, .mov (.t 0)⟩,
 ⟨(some 8), none, .idxA 1 (.t 6) (.t 7)⟩,
 ⟨(some 9), none, .load 1 false (.t 8)⟩,
 ⟨(some 10), none, .load 1 false (.t 2)⟩,
 ⟨(some 11), none, .len false (.t 10)⟩,
 ⟨(some 12), none, .idxA 2 (.t 9) (.t 11)⟩,
 ⟨(some 13), none, .load 2 true (.t 12)⟩,
 ⟨(some 14), none, .load 1 false (.t 3)⟩,
 ⟨(some 15), none, .call n_lin_turned [(.t 13), (.t 14)]⟩,
 ⟨none, none, .store 2 (.t 5) (.t 15)⟩]))
 .ret))
def lin_Mat_Solve_1.res : List RX := [(5, some (2, true))]
theorem lin_Mat_Solve_1.m : mK pg Try.f53.ntmps lin_Mat_Solve_1.k (Try.f53.body.getD .skip) = true := by kernel_rfl
theorem lin_Mat_Solve_1.mr : mRes pg Try.f53.results.toList lin_Mat_Solve_1.res = true := by kernel_rfl
theorem lin_Mat_Solve_1.of {args : List V} {r : V} (hn : args.length = 4) (hW : W pg lin_Mat_Solve_1.k (done lin_Mat_Solve_1.res r) (start args)) : Ret pg n_lin_Mat_Solve_1 args r :=
 Ret_of (fn := Try.f53) Try.func53 rfl (by kernel_rfl) lin_Mat_Solve_1.m lin_Mat_Solve_1.mr (by rw [hn]; exact of_decide_eq_true (by kernel_rfl)) hW
def lin_Mat_Quad_1.k : K :=
 (.seq (.keep [0, 1, 2, 4, 5] (.ops false [⟨(some 4), none, .alloc 2 (.agg [(.bool false), (.sl [])])⟩,
 ⟨(some 5), none, .alloc 2 (.agg [(.bool false), (.sl [])])⟩]))
 (.seq (.keep [4, 5] (.ops true [⟨(some 6), none, .red (.ldP 1 false) [(.t 1)]⟩,
 ⟨(some 7), none, .mov (.t 0)⟩,
 ⟨(some 8), none, .red (.ixP 2) [(.t 6), (.t 7)]⟩,
 ⟨(some 9), none, .red (.ldP 2 true) [(.t 8)]⟩,
 ⟨(some 10), none, .red (.ldP 1 false) [(.t 2)]⟩,
 ⟨(some 11), none, .mov (.t 0)⟩,
 ⟨(some 12), none, .red (.ixP 2) [(.t 10), (.t 11)]⟩,
 ⟨(some 13), none, .red (.ldP 2 true) [(.t 12)]⟩,
 ⟨none, none, .store 2 (.t 4) (.t 9)⟩,
 ⟨none, none, .store 2 (.t 5) (.t 13)⟩]))
 .ret))
def lin_Mat_Quad_1.res : List RX := [(4, some (2, true)), (5, some (2, true))]
theorem lin_Mat_Quad_1.m : mK pg Try.f57.ntmps lin_Mat_Quad_1.k (Try.f57.body.getD .skip) = true := by kernel_rfl
theorem lin_Mat_Quad_1.mr : mRes pg Try.f57.results.toList lin_Mat_Quad_1.res = true := by kernel_rfl
theorem lin_Mat_Quad_1.of {args : List V} {r : V} (hn : args.length = 3) (hW : W pg lin_Mat_Quad_1.k (done lin_Mat_Quad_1.res r) (start args)) : Ret pg n_lin_Mat_Quad_1 args r :=
 Ret_of (fn := Try.f57) Try.func57 rfl (by kernel_rfl) lin_Mat_Quad_1.m lin_Mat_Quad_1.mr (by rw [hn]; exact of_decide_eq_true (by kernel_rfl)) hW
def lin_Mat_Turned_1.k : K :=
 (.seq (.keep [0, 1, 2, 5] (.ops false [⟨(some 5), none, .alloc 2 (.agg [(.bool false), (.sl [])])⟩]))
 (.seq (.keep [5] (.ops false [⟨(some 6), none, .load 1 false (.t 2)⟩,
 ⟨(some 7), none, .mov (.t 1)⟩,
 ⟨(some 8), none, .idxA 1 (.t 6) (.t 7)⟩,
 ⟨(some 9), none, .load 1 false (.t 8)⟩,
 ⟨(some 10), none, .mov (.t 0)⟩,
 ⟨(some 11), none, .idxA 2 (.t 9) (.t 10)⟩,
 ⟨(some 12), none, .load 2 true (.t 11)⟩,
 ⟨none, none, .store 2 (.t 5) (.t 12)⟩]))
 .ret))
def lin_Mat_Turned_1.res : List RX := [(5, some (2, true))]
theorem lin_Mat_Turned_1.m : mK pg Try.f60.ntmps lin_Mat_Turned_1.k (Try.f60.body.getD .skip) = true := by kernel_rfl
theorem lin_Mat_Turned_1.mr : mRes pg Try.f60.results.toList lin_Mat_Turned_1.res = true := by kernel_rfl
theorem lin_Mat_Turned_1.of {args : List V} {r : V} (hn : args.length = 3) (hW : W pg lin_Mat_Turned_1.k (done lin_Mat_Turned_1.res r) (start args)) : Ret pg n_lin_Mat_Turned_1 args r :=
 Ret_of (fn := Try.f60) Try.func60 rfl (by kernel_rfl) lin_Mat_Turned_1.m lin_Mat_Turned_1.mr (by rw [hn]; exact of_decide_eq_true (by kernel_rfl)) hW
def lin_Mat_Apply_1.k : K :=
 (.seq (.keep [1, 2, 3, 4] (.ops false [⟨(some 3), none, .boxP (.t 0)⟩,
 ⟨(some 4), none, .alloc 2 (.agg [(.bool false), (.sl [])])⟩]))
 (.seq (.keep [4] (.ops false [⟨(some 5), none, .load 1 false (.t 1)⟩,
 ⟨(some 6), none, .len false (.t 5)⟩,
 ⟨(some 7), none, .mkFn n_lin_Mat_Apply_1_1 [(.t 1), (.t 3), (.t 2)]⟩,
 ⟨(some 8), none, .callG n_lin_sum [(.t 6), (.t 7)]⟩,
 ⟨none, none, .store 2 (.t 4) (.t 8)⟩]))
 .ret))
def lin_Mat_Apply_1.res : List RX := [(4, some (2, true))]
theorem lin_Mat_Apply_1.m : mK pg Try.f61.ntmps lin_Mat_Apply_1.k (Try.f61.body.getD .skip) = true := by kernel_rfl
theorem lin_Mat_Apply_1.mr : mRes pg Try.f61.results.toList lin_Mat_Apply_1.res = true := by kernel_rfl
theorem lin_Mat_Apply_1.of {args : List V} {r : V} (hn : args.length = 3) (hW : W pg lin_Mat_Apply_1.k (done lin_Mat_Apply_1.res r) (start args)) : Ret pg n_lin_Mat_Apply_1 args r :=
 Ret_of (fn := Try.f61) Try.func61 rfl (by kernel_rfl) lin_Mat_Apply_1.m lin_Mat_Apply_1.mr (by rw [hn]; exact of_decide_eq_true (by kernel_rfl)) hW
def lin_Mat_Apply_1_1.k : K :=
 (.seq (.keep [0, 1, 2, 3, 5, 6] (.ops false [⟨(some 5), none, .alloc 2 (.agg [(.bool false), (.sl [])])⟩,
 ⟨(some 6), none, .alloc 2 (.agg [(.bool false), (.sl [])])⟩]))
 (.seq (.keep [5, 6] (.ops true [⟨(some 7), none, .red (.ldP 1 false) [(.t 1)]⟩,
 ⟨(some 8), none, .red (.ldP 1 false) [(.t 2)]⟩,
 ⟨(some 9), none, .red (.ixP 1) [(.t 7), (.t 8)]⟩,
 ⟨(some 10), none, .red (.ldP 1 false) [(.t 9)]⟩,
 ⟨(some 11), none, .mov (.t 0)⟩,
 ⟨(some 12), none, .red (.ixP 2) [(.t 10), (.t 11)]⟩,
 ⟨(some 13), none, .red (.ldP 2 true) [(.t 12)]⟩,
 ⟨(some 14), none, .red (.ldP 1 false) [(.t 3)]⟩,
 ⟨(some 15), none, .mov (.t 0)⟩,
 ⟨(some 16), none, .red (.ixP 2) [(.t 14), (.t 15)]⟩,
 ⟨(some 17), none, .red (.ldP 2 true) [(.t 16)]⟩,
 ⟨none, none, .store 2 (.t 5) (.t 13)⟩,
 ⟨none, none, .store 2 (.t 6) (.t 17)⟩]))
 .ret))
def lin_Mat_Apply_1_1.res : List RX := [(5, some (2, true)), (6, some (2, true))]
theorem lin_Mat_Apply_1_1.m : mK pg Try.f62.ntmps lin_Mat_Apply_1_1.k (Try.f62.body.getD .skip) = true := by kernel_rfl
theorem lin_Mat_Apply_1_1.mr : mRes pg Try.f62.results.toList lin_Mat_Apply_1_1.res = true := by kernel_rfl
theorem lin_Mat_Apply_1_1.of {args : List V} {r : V} (hn : args.length = 4) (hW : W pg lin_Mat_Apply_1_1.k (done lin_Mat_Apply_1_1.res r) (start args)) : Ret pg n_lin_Mat_Apply_1_1 args r :=
 Ret_of (fn := Try.f62) Try.func62 rfl (by kernel_rfl) lin_Mat_Apply_1_1.m lin_Mat_Apply_1_1.mr (by rw [hn]; exact of_decide_eq_true (by kernel_rfl)) hW
def lin_Mat_swept_1.k : K :=
 (.seq (.keep [1, 2, 3, 4] (.ops false [⟨(some 4), none, .boxP (.t 0)⟩,
 ⟨(some 5), none, .mov (.c .nil)⟩]))
 (.seq (.keep [5] (.ops false [⟨(some 6), none, .load 1 false (.t 1)⟩,
 ⟨(some 7), none, .bin .add (.t 6) (.c (.int .i64 1))⟩,
 ⟨(some 8), none, .mkFn n_lin_Mat_swept_1_1 [(.t 1), (.t 2), (.t 4), (.t 3)]⟩,
 ⟨(some 9), none, .callG n_lin_list_long_Int [(.t 7), (.t 8)]⟩,
 ⟨(some 5), none, .mov (.t 9)⟩]))
 .ret))
def lin_Mat_swept_1.res : List RX := [(5, none)]
theorem lin_Mat_swept_1.m : mK pg Try.f66.ntmps lin_Mat_swept_1.k (Try.f66.body.getD .skip) = true := by kernel_rfl
theorem lin_Mat_swept_1.mr : mRes pg Try.f66.results.toList lin_Mat_swept_1.res = true := by kernel_rfl
theorem lin_Mat_swept_1.ofG {args : List V} {H : Hp} {n : Nat} {Q : V → Hp → Nat → Prop} (hn : args.length = 4) (hW : W pg lin_Mat_swept_1.k (doneG lin_Mat_swept_1.res (fun r H' n' => n ≤ n' ∧ Q r H' n')) (startG args H n)) : ∃ r H' n', Q r H' n' ∧ RetG pg n_lin_Mat_swept_1 args H n r H' n' :=
 RetG_of (fn := Try.f66) Try.func66 rfl (by kernel_rfl) lin_Mat_swept_1.m lin_Mat_swept_1.mr (by rw [hn]; exact of_decide_eq_true (by kernel_rfl)) hW
def lin_Mat_swept_1_1.k : K :=
 (.seq (.keep [0, 1, 2, 3, 4, 6] (.ops false [⟨(some 6), none, .alloc 2 (.agg [(.bool false), (.sl [])])⟩]))
 (.seq (.seq (.keep [0, 2, 3, 4, 6, 9] (.ops false [⟨(some 7), none, .mov (.t 0)⟩,
 ⟨(some 8), none, .load 1 false (.t 1)⟩,
 ⟨(some 9), none, .bin .lss (.t 7) (.t 8)⟩]))
 (.cond (.t 9) (.seq (.keep [6] (.ops false [⟨(some 10), none, .load 1 false (.t 2)⟩,
 ⟨(some 11), none, .load 1 false (.t 3)⟩,
 ⟨(some 12), none, .idxA 1 (.t 10) (.t 11)⟩,
 ⟨(some 13), none, .load 1 false (.t 12)⟩,
 ⟨(some 14), none, .mov (.t 0)⟩,
 ⟨(some 15), none, .idxA 2 (.t 13) (.t 14)⟩,
 ⟨(some 16), none, .load 2 true (.t 15)⟩,
 ⟨none, none, .store 2 (.t 6) (.t 16)⟩]))
 .ret)
 .skip))
 (.seq (.keep [6] (.ops false [⟨(some 17), none, .load 1 false (.t 4)⟩,
 ⟨(some 18), none, .load 1 false (.t 3)⟩,
 ⟨(some 19), none, .idxA 2 (.t 17) (.t 18)⟩,
 ⟨(some 20), none, .load 2 true (.t 19)⟩,
 ⟨none, none, .store 2 (.t 6) (.t 20)⟩]))
 .ret)))
def lin_Mat_swept_1_1.res : List RX := [(6, some (2, true))]
theorem lin_Mat_swept_1_1.m : mK pg Try.f67.ntmps lin_Mat_swept_1_1.k (Try.f67.body.getD .skip) = true := by kernel_rfl
theorem lin_Mat_swept_1_1.mr : mRes pg Try.f67.results.toList lin_Mat_swept_1_1.res = true := by kernel_rfl
theorem lin_Mat_swept_1_1.of {args : List V} {r : V} (hn : args.length = 5) (hW : W pg lin_Mat_swept_1_1.k (done lin_Mat_swept_1_1.res r) (start args)) : Ret pg n_lin_Mat_swept_1_1 args r :=
 Ret_of (fn := Try.f67) Try.func67 rfl (by kernel_rfl) lin_Mat_swept_1_1.m lin_Mat_swept_1_1.mr (by rw [hn]; exact of_decide_eq_true (by kernel_rfl)) hW
def quad_Of.k : K :=
 (.seq (.keep [0, 1, 2, 6] (.ops false [⟨(some 6), none, .alloc 4 (.agg [.nil, .nil, (.bool false), (.sl [])])⟩,
 ⟨(some 7), none, .mov (.c (.int .i64 0))⟩]))
 (.seq (.keep [1, 2, 6, 8, 9] (.ops false [⟨(some 14), none, .mov (.t 0)⟩,
 ⟨(some 15), none, .callG n_lin_Of [(.t 14)]⟩,
 ⟨(some 13), none, .mov (.t 15)⟩,
 ⟨(some 16), none, .ext (.t 13) 0⟩,
 ⟨(some 17), none, .ext (.t 13) 1⟩,
 ⟨(some 8), none, .mov (.t 16)⟩,
 ⟨(some 9), none, .mov (.t 17)⟩]))
 (.seq (.block 0 (.seq (.keep [1, 2, 6, 8, 9, 18] (.ops false [⟨(some 19), none, .mov (.t 9)⟩,
 ⟨(some 20), none, .bin .neq (.t 19) (.c (.int .i64 0))⟩,
 ⟨(some 18), none, .mov (.t 20)⟩]))
 (.cond (.t 18) (.seq (.keep [6, 7] (.ops false [⟨(some 21), none, .build [.nil, .nil, (.bool false), (.sl [])] []⟩,
 ⟨(some 22), none, .mov (.t 9)⟩,
 ⟨none, none, .store 4 (.t 6) (.t 21)⟩,
 ⟨(some 7), none, .mov (.t 22)⟩]))
 .ret)
 (.seq (.keep [1, 2, 6, 8, 23] (.ops false [⟨(some 24), none, .mov (.t 1)⟩,
 ⟨(some 25), none, .len false (.t 24)⟩,
 ⟨(some 26), none, .mov (.t 8)⟩,
 ⟨(some 27), none, .len false (.t 26)⟩,
 ⟨(some 28), none, .bin .neq (.t 25) (.t 27)⟩,
 ⟨(some 29), none, .mov (.t 28)⟩,
 ⟨(some 30), (some (29, false)), .mov (.t 8)⟩,
 ⟨(some 31), (some (29, false)), .mov (.t 8)⟩,
 ⟨(some 32), (some (29, false)), .callG n_lin_Mat_Turned [(.t 31)]⟩,
 ⟨(some 33), (some (29, false)), .callG n_quad_same [(.t 30), (.t 32)]⟩,
 ⟨(some 34), (some (29, false)), .un .not (.t 33)⟩,
 ⟨(some 35), none, .pick (.t 29) (.c (.bool true)) (.t 34)⟩,
 ⟨(some 23), none, .mov (.t 35)⟩]))
 (.cond (.t 23) (.seq (.keep [6, 7] (.ops false [⟨(some 36), none, .build [.nil, .nil, (.bool false), (.sl [])] []⟩,
 ⟨none, none, .store 4 (.t 6) (.t 36)⟩,
 ⟨(some 7), none, .mov (.c (.int .i64 1))⟩]))
 .ret)
 .skip)))))
 (.seq (.keep [1, 6, 10] (.ops false [⟨(some 37), none, .mov (.t 8)⟩,
 ⟨(some 38), none, .mov (.t 2)⟩,
 ⟨(some 39), none, .callG n_long_Of [(.t 38)]⟩,
 ⟨(some 40), none, .build [.nil, .nil, (.bool false), (.sl [])] [(0, 1, (.t 37)), (2, 2, (.t 39))]⟩,
 ⟨(some 10), none, .alloc 4 (.agg [.nil, .nil, (.bool false), (.sl [])])⟩,
 ⟨none, none, .store 4 (.t 10) (.t 40)⟩]))
 (.seq (.seq (.keep [6, 10, 41, 42, 43] (.ops false [⟨(some 41), none, .mov (.t 1)⟩,
 ⟨(some 42), none, .len false (.t 41)⟩,
 ⟨(some 43), none, .mov (.c (.int .i64 0))⟩]))
 (.block 1 (.loop (.seq (.keep [6, 10, 41, 42, 43, 44] (.ops false [⟨(some 44), none, .bin .lss (.t 43) (.t 42)⟩]))
 (.seq (.cond (.t 44) .skip
 (.exit 1))
 (.seq (.block 2 (.seq (.keep [6, 10, 12, 41, 42, 43] (.ops false [⟨(some 45), none, .idxA 1 (.t 41) (.t 43)⟩,
 ⟨(some 46), none, .load 1 false (.t 45)⟩,
 ⟨(some 12), none, .mov (.t 46)⟩]))
 (.keep [6, 10, 41, 42, 43] (.ops true [⟨(some 47), none, .fldA 1 1 false (.t 10)⟩,
 ⟨(some 48), none, .load 1 false (.t 47)⟩,
 ⟨(some 49), none, .mov (.t 12)⟩,
 ⟨(some 50), none, .call n_long_Of [(.t 49)]⟩,
 ⟨(some 51), none, .new (.bsl 2) [(.t 50)]⟩,
 ⟨(some 52), none, .eff (.app 2 32) [(.t 48), (.t 51)]⟩,
 ⟨(some 53), none, .fldA 1 1 false (.t 10)⟩,
 ⟨none, none, .store 1 (.t 53) (.t 52)⟩]))))
 (.keep [6, 10, 41, 42, 43] (.ops false [⟨(some 54), none, .bin .add (.t 43) (.c (.int .i64 1))⟩,
 ⟨(some 43), none, .mov (.t 54)⟩]))))))))
 (.seq (.keep [6, 7] (.ops false [⟨(some 55), none, .load 4 true (.t 10)⟩,
 ⟨none, none, .store 4 (.t 6) (.t 55)⟩,
 ⟨(some 7), none, .mov (.c (.int .i64 0))⟩]))
 .ret))))))
def quad_Of.res : List RX := [(6, some (4, true)), (7, none)]
theorem quad_Of.m : mK pg Try.f13.ntmps quad_Of.k (Try.f13.body.getD .skip) = true := by kernel_rfl
theorem quad_Of.mr : mRes pg Try.f13.results.toList quad_Of.res = true := by kernel_rfl
theorem quad_Of.of {args : List V} {r : V} (hn : args.length = 3) (hW : W pg quad_Of.k (done quad_Of.res r) (start args)) : Ret pg n_quad_Of args r :=
 Ret_of (fn := Try.f13) Try.func13 rfl (by kernel_rfl) quad_Of.m quad_Of.mr (by rw [hn]; exact of_decide_eq_true (by kernel_rfl)) hW
def quad_first.k : K :=
 (.seq (.keep [0, 1] (.ops false [⟨(some 4), none, .mov (.c .nil)⟩]))
 (.seq (.keep [0, 1, 5] (.ops false [⟨(some 5), none, .mov (.c .nil)⟩]))
 (.seq (.seq (.keep [1, 5, 10, 11, 12] (.ops false [⟨(some 8), none, .mov (.t 0)⟩,
 ⟨(some 9), none, .mov (.t 1)⟩,
 ⟨(some 10), none, .red (.slc 1 false true false) [(.t 8), (.t 9)]⟩,
 ⟨(some 11), none, .len false (.t 10)⟩,
 ⟨(some 12), none, .mov (.c (.int .i64 0))⟩]))
 (.block 0 (.loop (.seq (.keep [1, 5, 10, 11, 12, 13] (.ops false [⟨(some 13), none, .bin .lss (.t 12) (.t 11)⟩]))
 (.seq (.cond (.t 13) .skip
 (.exit 0))
 (.seq (.block 1 (.seq (.keep [1, 5, 7, 10, 11, 12] (.ops false [⟨(some 14), none, .idxA 1 (.t 10) (.t 12)⟩,
 ⟨(some 15), none, .load 1 false (.t 14)⟩,
 ⟨(some 7), none, .mov (.t 15)⟩]))
 (.gh (.keep [1, 5, 10, 11, 12] (.ops false [⟨(some 16), none, .mov (.t 5)⟩,
 ⟨(some 17), none, .mov (.t 7)⟩,
 ⟨(some 18), none, .mov (.t 1)⟩,
 ⟨(some 19), none, .mov (.t 1)⟩,
 ⟨(some 20), none, .red (.slc 2 false true true) [(.t 17), (.t 18), (.t 19)]⟩,
 ⟨(some 21), none, .new (.bsl 1) [(.t 20)]⟩,
 ⟨(some 22), none, .eff (.app 1 24) [(.t 16), (.t 21)]⟩,
 ⟨(some 5), none, .mov (.t 22)⟩])))))
 (.keep [1, 5, 10, 11, 12] (.ops false [⟨(some 23), none, .bin .add (.t 12) (.c (.int .i64 1))⟩,
 ⟨(some 12), none, .mov (.t 23)⟩]))))))))
 (.seq (.keep [4] (.ops false [⟨(some 24), none, .mov (.t 5)⟩,
 ⟨(some 4), none, .mov (.t 24)⟩]))
 .ret))))
def quad_first.res : List RX := [(4, none)]
theorem quad_first.m : mK pg Try.f23.ntmps quad_first.k (Try.f23.body.getD .skip) = true := by kernel_rfl
theorem quad_first.mr : mRes pg Try.f23.results.toList quad_first.res = true := by kernel_rfl
theorem quad_first.of {args : List V} {r : V} (hn : args.length = 2) (hW : W pg quad_first.k (done quad_first.res r) (start args)) : Ret pg n_quad_first args r :=
 Ret_of (fn := Try.f23) Try.func23 rfl (by kernel_rfl) quad_first.m quad_first.mr (by rw [hn]; exact of_decide_eq_true (by kernel_rfl)) hW
def quad_dot.k : K :=
 (.seq (.keep [0, 1, 4] (.ops false [⟨(some 4), none, .alloc 2 (.agg [(.bool false), (.sl [])])⟩]))
 (.seq (.keep [0, 1, 4, 5] (.ops false [⟨(some 5), none, .alloc 2 (.agg [(.bool false), (.sl [])])⟩]))
 (.seq (.seq (.keep [0, 1, 4, 5, 8, 9] (.ops false [⟨(some 7), none, .mov (.t 0)⟩,
 ⟨(some 8), none, .len false (.t 7)⟩,
 ⟨(some 9), none, .mov (.c (.int .i64 0))⟩]))
 (.block 0 (.loop (.seq (.keep [0, 1, 4, 5, 8, 9, 10] (.ops false [⟨(some 10), none, .bin .lss (.t 9) (.t 8)⟩]))
 (.seq (.cond (.t 10) .skip
 (.exit 0))
 (.seq (.block 1 (.seq (.keep [0, 1, 4, 5, 6, 8, 9] (.ops false [⟨(some 11), none, .mov (.t 9)⟩,
 ⟨(some 6), none, .mov (.t 11)⟩]))
 (.keep [0, 1, 4, 5, 8, 9] (.ops true [⟨(some 12), none, .load 2 true (.t 5)⟩,
 ⟨(some 13), none, .mov (.t 0)⟩,
 ⟨(some 14), none, .mov (.t 6)⟩,
 ⟨(some 15), none, .idxA 2 (.t 13) (.t 14)⟩,
 ⟨(some 16), none, .load 2 true (.t 15)⟩,
 ⟨(some 17), none, .mov (.t 1)⟩,
 ⟨(some 18), none, .mov (.t 6)⟩,
 ⟨(some 19), none, .idxA 2 (.t 17) (.t 18)⟩,
 ⟨(some 20), none, .load 2 true (.t 19)⟩,
 ⟨(some 21), none, .call n_long_Int_Mul [(.t 16), (.t 20)]⟩,
 ⟨(some 22), none, .call n_long_Int_Add [(.t 12), (.t 21)]⟩,
 ⟨none, none, .store 2 (.t 5) (.t 22)⟩]))))
 (.keep [0, 1, 4, 5, 8, 9] (.ops false [⟨(some 23), none, .bin .add (.t 9) (.c (.int .i64 1))⟩,
 ⟨(some 9), none, .mov (.t 23)⟩]))))))))
 (.seq (.keep [4] (.ops false [⟨(some 24), none, .load 2 true (.t 5)⟩,
 ⟨none, none, .store 2 (.t 4) (.t 24)⟩]))
 .ret))))
def quad_dot.res : List RX := [(4, some (2, true))]
theorem quad_dot.m : mK pg Try.f28.ntmps quad_dot.k (Try.f28.body.getD .skip) = true := by kernel_rfl
theorem quad_dot.mr : mRes pg Try.f28.results.toList quad_dot.res = true := by kernel_rfl
theorem quad_dot.of {args : List V} {r : V} (hn : args.length = 2) (hW : W pg quad_dot.k (done quad_dot.res r) (start args)) : Ret pg n_quad_dot args r :=
 Ret_of (fn := Try.f28) Try.func28 rfl (by kernel_rfl) quad_dot.m quad_dot.mr (by rw [hn]; exact of_decide_eq_true (by kernel_rfl)) hW
def quad_sums.k : K :=
 (.seq (.keep [0, 1] (.ops false [⟨(some 4), none, .mov (.c .nil)⟩]))
 (.seq (.keep [1, 5] (.ops false [⟨(some 9), none, .mov (.t 0)⟩,
 ⟨(some 10), none, .red (.slc 2 false true true) [(.t 9), (.c (.int .i64 0)), (.c (.int .i64 0))]⟩,
 ⟨(some 11), none, .mov (.t 0)⟩,
 ⟨(some 12), none, .eff (.app 2 32) [(.t 10), (.t 11)]⟩,
 ⟨(some 5), none, .mov (.t 12)⟩]))
 (.seq (.seq (.keep [5, 13, 14, 15] (.ops false [⟨(some 13), none, .mov (.t 1)⟩,
 ⟨(some 14), none, .len false (.t 13)⟩,
 ⟨(some 15), none, .mov (.c (.int .i64 0))⟩]))
 (.block 0 (.loop (.seq (.keep [5, 13, 14, 15, 16] (.ops false [⟨(some 16), none, .bin .lss (.t 15) (.t 14)⟩]))
 (.seq (.cond (.t 16) .skip
 (.exit 0))
 (.seq (.block 1 (.seq (.keep [5, 7, 13, 14, 15] (.ops false [⟨(some 17), none, .idxA 1 (.t 13) (.t 15)⟩,
 ⟨(some 18), none, .load 1 false (.t 17)⟩,
 ⟨(some 7), none, .mov (.t 18)⟩]))
 (.seq (.keep [5, 7, 13, 14, 15, 20, 21] (.ops false [⟨(some 19), none, .mov (.t 5)⟩,
 ⟨(some 20), none, .len false (.t 19)⟩,
 ⟨(some 21), none, .mov (.c (.int .i64 0))⟩]))
 (.block 2 (.loop (.seq (.keep [5, 7, 13, 14, 15, 20, 21, 22] (.ops false [⟨(some 22), none, .bin .lss (.t 21) (.t 20)⟩]))
 (.seq (.cond (.t 22) .skip
 (.exit 2))
 (.seq (.block 3 (.seq (.keep [5, 7, 8, 13, 14, 15, 20, 21] (.ops false [⟨(some 23), none, .mov (.t 21)⟩,
 ⟨(some 8), none, .mov (.t 23)⟩]))
 (.keep [5, 7, 13, 14, 15, 20, 21] (.ops true [⟨(some 24), none, .mov (.t 5)⟩,
 ⟨(some 25), none, .mov (.t 8)⟩,
 ⟨(some 26), none, .mov (.t 5)⟩,
 ⟨(some 27), none, .mov (.t 8)⟩,
 ⟨(some 28), none, .idxA 2 (.t 26) (.t 27)⟩,
 ⟨(some 29), none, .load 2 true (.t 28)⟩,
 ⟨(some 30), none, .mov (.t 7)⟩,
 ⟨(some 31), none, .mov (.t 8)⟩,
 ⟨(some 32), none, .idxA 2 (.t 30) (.t 31)⟩,
 ⟨(some 33), none, .load 2 true (.t 32)⟩,
 ⟨(some 34), none, .call n_long_Int_Add [(.t 29), (.t 33)]⟩,
 ⟨(some 35), none, .idxA 2 (.t 24) (.t 25)⟩,
 ⟨none, none, .store 2 (.t 35) (.t 34)⟩]))))
 (.keep [5, 7, 13, 14, 15, 20, 21] (.ops false [⟨(some 36), none, .bin .add (.t 21) (.c (.int .i64 1))⟩,
 ⟨(some 21), none, .mov (.t 36)⟩]))))))))))
 (.keep [5, 13, 14, 15] (.ops false [⟨(some 37), none, .bin .add (.t 15) (.c (.int .i64 1))⟩,
 ⟨(some 15), none, .mov (.t 37)⟩]))))))))
 (.seq (.keep [4] (.ops false [⟨(some 38), none, .mov (.t 5)⟩,
 ⟨(some 4), none, .mov (.t 38)⟩]))
 .ret))))
def quad_sums.res : List RX := [(4, none)]
theorem quad_sums.m : mK pg Try.f29.ntmps quad_sums.k (Try.f29.body.getD .skip) = true := by kernel_rfl
theorem quad_sums.mr : mRes pg Try.f29.results.toList quad_sums.res = true := by kernel_rfl
theorem quad_sums.of {args : List V} {r : V} (hn : args.length = 2) (hW : W pg quad_sums.k (done quad_sums.res r) (start args)) : Ret pg n_quad_sums args r :=
 Ret_of (fn := Try.f29) Try.func29 rfl (by kernel_rfl) quad_sums.m quad_sums.mr (by rw [hn]; exact of_decide_eq_true (by kernel_rfl)) hW
def quad_same.k : K :=
 (.seq (.keep [0, 1] (.ops false [⟨(some 4), none, .mov (.c (.bool false))⟩]))
 (.seq (.seq (.keep [0, 1, 8, 9] (.ops false [⟨(some 7), none, .mov (.t 0)⟩,
 ⟨(some 8), none, .len false (.t 7)⟩,
 ⟨(some 9), none, .mov (.c (.int .i64 0))⟩]))
 (.block 0 (.loop (.seq (.keep [0, 1, 8, 9, 10] (.ops false [⟨(some 10), none, .bin .lss (.t 9) (.t 8)⟩]))
 (.seq (.cond (.t 10) .skip
 (.exit 0))
 (.seq (.block 1 (.seq (.keep [0, 1, 5, 8, 9] (.ops false [⟨(some 11), none, .mov (.t 9)⟩,
 ⟨(some 5), none, .mov (.t 11)⟩]))
 (.seq (.keep [0, 1, 5, 8, 9, 16, 17] (.ops false [⟨(some 12), none, .mov (.t 0)⟩,
 ⟨(some 13), none, .mov (.t 5)⟩,
 ⟨(some 14), none, .idxA 1 (.t 12) (.t 13)⟩,
 ⟨(some 15), none, .load 1 false (.t 14)⟩,
 ⟨(some 16), none, .len false (.t 15)⟩,
 ⟨(some 17), none, .mov (.c (.int .i64 0))⟩]))
 (.block 2 (.loop (.seq (.keep [0, 1, 5, 8, 9, 16, 17, 18] (.ops false [⟨(some 18), none, .bin .lss (.t 17) (.t 16)⟩]))
 (.seq (.cond (.t 18) .skip
 (.exit 2))
 (.seq (.block 3 (.seq (.keep [0, 1, 5, 6, 8, 9, 16, 17] (.ops false [⟨(some 19), none, .mov (.t 17)⟩,
 ⟨(some 6), none, .mov (.t 19)⟩]))
 (.seq (.keep [0, 1, 5, 8, 9, 16, 17, 35] (.ops true [⟨(some 20), none, .mov (.t 0)⟩,
 ⟨(some 21), none, .mov (.t 5)⟩,
 ⟨(some 22), none, .idxA 1 (.t 20) (.t 21)⟩,
 ⟨(some 23), none, .load 1 false (.t 22)⟩,
 ⟨(some 24), none, .mov (.t 6)⟩,
 ⟨(some 25), none, .idxA 2 (.t 23) (.t 24)⟩,
 ⟨(some 26), none, .load 2 true (.t 25)⟩,
 ⟨(some 27), none, .mov (.t 1)⟩,
 ⟨(some 28), none, .mov (.t 5)⟩,
 ⟨(some 29), none, .idxA 1 (.t 27) (.t 28)⟩,
 ⟨(some 30), none, .load 1 false (.t 29)⟩,
 ⟨(some 31), none, .mov (.t 6)⟩,
 ⟨(some 32), none, .idxA 2 (.t 30) (.t 31)⟩,
 ⟨(some 33), none, .load 2 true (.t 32)⟩,
 ⟨(some 34), none, .call n_long_Int_Cmp [(.t 26), (.t 33)]⟩,
 ⟨(some 35), none, .bin .neq (.t 34) (.c (.int .i64 0))⟩]))
 (.cond (.t 35) (.seq (.keep [4] (.ops false [⟨(some 4), none, .mov (.c (.bool false))⟩]))
 .ret)
 .skip))))
 (.keep [0, 1, 5, 8, 9, 16, 17] (.ops false [⟨(some 36), none, .bin .add (.t 17) (.c (.int .i64 1))⟩,
 ⟨(some 17), none, .mov (.t 36)⟩]))))))))))
 (.keep [0, 1, 8, 9] (.ops false [⟨(some 37), none, .bin .add (.t 9) (.c (.int .i64 1))⟩,
 ⟨(some 9), none, .mov (.t 37)⟩]))))))))
 (.seq (.keep [4] (.ops false [⟨(some 4), none, .mov (.c (.bool true))⟩]))
 .ret)))
def quad_same.res : List RX := [(4, none)]
theorem quad_same.m : mK pg Try.f39.ntmps quad_same.k (Try.f39.body.getD .skip) = true := by kernel_rfl
theorem quad_same.mr : mRes pg Try.f39.results.toList quad_same.res = true := by kernel_rfl
theorem quad_same.of {args : List V} {r : V} (hn : args.length = 2) (hW : W pg quad_same.k (done quad_same.res r) (start args)) : Ret pg n_quad_same args r :=
 Ret_of (fn := Try.f39) Try.func39 rfl (by kernel_rfl) quad_same.m quad_same.mr (by rw [hn]; exact of_decide_eq_true (by kernel_rfl)) hW
def quad_less.k : K :=
 (.seq (.keep [0, 1] (.ops false [⟨(some 4), none, .mov (.c .nil)⟩]))
 (.seq (.keep [0, 1, 5] (.ops false [⟨(some 7), none, .mov (.t 0)⟩,
 ⟨(some 8), none, .len false (.t 7)⟩,
 ⟨(some 9), none, .new (.mks 2 32 (.agg [(.bool false), (.sl [])])) [(.t 8), (.t 8)]⟩,
 ⟨(some 5), none, .mov (.t 9)⟩]))
 (.seq (.seq (.keep [0, 1, 5, 11, 12] (.ops false [⟨(some 10), none, .mov (.t 0)⟩,
 ⟨(some 11), none, .len false (.t 10)⟩,
 ⟨(some 12), none, .mov (.c (.int .i64 0))⟩]))
 (.block 0 (.loop (.seq (.keep [0, 1, 5, 11, 12, 13] (.ops false [⟨(some 13), none, .bin .lss (.t 12) (.t 11)⟩]))
 (.seq (.cond (.t 13) .skip
 (.exit 0))
 (.seq (.block 1 (.seq (.keep [0, 1, 5, 6, 11, 12] (.ops false [⟨(some 14), none, .mov (.t 12)⟩,
 ⟨(some 6), none, .mov (.t 14)⟩]))
 (.keep [0, 1, 5, 11, 12] (.ops true [⟨(some 15), none, .mov (.t 5)⟩,
 ⟨(some 16), none, .mov (.t 6)⟩,
 ⟨(some 17), none, .mov (.t 0)⟩,
 ⟨(some 18), none, .mov (.t 6)⟩,
 ⟨(some 19), none, .idxA 2 (.t 17) (.t 18)⟩,
 ⟨(some 20), none, .load 2 true (.t 19)⟩,
 ⟨(some 21), none, .mov (.t 1)⟩,
 ⟨(some 22), none, .mov (.t 6)⟩,
 ⟨(some 23), none, .idxA 2 (.t 21) (.t 22)⟩,
 ⟨(some 24), none, .load 2 true (.t 23)⟩,
 ⟨(some 25), none, .call n_long_Int_Sub [(.t 20), (.t 24)]⟩,
 ⟨(some 26), none, .idxA 2 (.t 15) (.t 16)⟩,
 ⟨none, none, .store 2 (.t 26) (.t 25)⟩]))))
 (.keep [0, 1, 5, 11, 12] (.ops false [⟨(some 27), none, .bin .add (.t 12) (.c (.int .i64 1))⟩,
 ⟨(some 12), none, .mov (.t 27)⟩]))))))))
 (.seq (.keep [4] (.ops false [⟨(some 28), none, .mov (.t 5)⟩,
 ⟨(some 4), none, .mov (.t 28)⟩]))
 .ret))))
def quad_less.res : List RX := [(4, none)]
theorem quad_less.m : mK pg Try.f43.ntmps quad_less.k (Try.f43.body.getD .skip) = true := by kernel_rfl
theorem quad_less.mr : mRes pg Try.f43.results.toList quad_less.res = true := by kernel_rfl
theorem quad_less.of {args : List V} {r : V} (hn : args.length = 2) (hW : W pg quad_less.k (done quad_less.res r) (start args)) : Ret pg n_quad_less args r :=
 Ret_of (fn := Try.f43) Try.func43 rfl (by kernel_rfl) quad_less.m quad_less.mr (by rw [hn]; exact of_decide_eq_true (by kernel_rfl)) hW
def quad_times.k : K :=
 (.seq (.keep [0, 3] (.ops false [⟨(some 3), none, .boxP (.t 1)⟩,
 ⟨(some 4), none, .mov (.c .nil)⟩]))
 (.seq (.keep [0, 3, 5] (.ops false [⟨(some 7), none, .mov (.t 0)⟩,
 ⟨(some 8), none, .len false (.t 7)⟩,
 ⟨(some 9), none, .new (.mks 2 32 (.agg [(.bool false), (.sl [])])) [(.t 8), (.t 8)]⟩,
 ⟨(some 5), none, .mov (.t 9)⟩]))
 (.seq (.seq (.keep [0, 3, 5, 11, 12] (.ops false [⟨(some 10), none, .mov (.t 0)⟩,
 ⟨(some 11), none, .len false (.t 10)⟩,
 ⟨(some 12), none, .mov (.c (.int .i64 0))⟩]))
 (.block 0 (.loop (.seq (.keep [0, 3, 5, 11, 12, 13] (.ops false [⟨(some 13), none, .bin .lss (.t 12) (.t 11)⟩]))
 (.seq (.cond (.t 13) .skip
 (.exit 0))
 (.seq (.block 1 (.seq (.keep [0, 3, 5, 6, 11, 12] (.ops false [⟨(some 14), none, .mov (.t 12)⟩,
 ⟨(some 6), none, .mov (.t 14)⟩]))
 (.keep [0, 3, 5, 11, 12] (.ops true [⟨(some 15), none, .mov (.t 5)⟩,
 ⟨(some 16), none, .mov (.t 6)⟩,
 ⟨(some 17), none, .mov (.t 0)⟩,
 ⟨(some 18), none, .mov (.t 6)⟩,
 ⟨(some 19), none, .idxA 2 (.t 17) (.t 18)⟩,
 ⟨(some 20), none, .load 2 true (.t 19)⟩,
 ⟨(some 21), none, .load 2 true (.t 3)⟩,
 ⟨(some 22), none, .call n_long_Int_Mul [(.t 20), (.t 21)]⟩,
 ⟨(some 23), none, .idxA 2 (.t 15) (.t 16)⟩,
 ⟨none, none, .store 2 (.t 23) (.t 22)⟩]))))
 (.keep [0, 3, 5, 11, 12] (.ops false [⟨(some 24), none, .bin .add (.t 12) (.c (.int .i64 1))⟩,
 ⟨(some 12), none, .mov (.t 24)⟩]))))))))
 (.seq (.keep [4] (.ops false [⟨(some 25), none, .mov (.t 5)⟩,
 ⟨(some 4), none, .mov (.t 25)⟩]))
 .ret))))
def quad_times.res : List RX := [(4, none)]
theorem quad_times.m : mK pg Try.f45.ntmps quad_times.k (Try.f45.body.getD .skip) = true := by kernel_rfl
theorem quad_times.mr : mRes pg Try.f45.results.toList quad_times.res = true := by kernel_rfl
theorem quad_times.of {args : List V} {r : V} (hn : args.length = 2) (hW : W pg quad_times.k (done quad_times.res r) (start args)) : Ret pg n_quad_times args r :=
 Ret_of (fn := Try.f45) Try.func45 rfl (by kernel_rfl) quad_times.m quad_times.mr (by rw [hn]; exact of_decide_eq_true (by kernel_rfl)) hW
def quad_Quad_Without.k : K :=
 (.seq (.keep [1, 2, 4, 5] (.ops false [⟨(some 2), none, .boxP (.t 0)⟩,
 ⟨(some 4), none, .alloc 4 (.agg [.nil, .nil, (.bool false), (.sl [])])⟩,
 ⟨(some 5), none, .alloc 2 (.agg [(.bool false), (.sl [])])⟩,
 ⟨(some 6), none, .mov (.c (.int .i64 0))⟩]))
 (.seq (.seq (.keep [1, 2, 4, 5, 25] (.ops false [⟨(some 17), none, .mov (.t 1)⟩,
 ⟨(some 18), none, .bin .lss (.t 17) (.c (.int .i64 0))⟩,
 ⟨(some 19), none, .mov (.t 18)⟩,
 ⟨(some 20), (some (19, false)), .mov (.t 1)⟩,
 ⟨(some 21), (some (19, false)), .fldA 0 1 false (.t 2)⟩,
 ⟨(some 22), (some (19, false)), .load 1 false (.t 21)⟩,
 ⟨(some 23), (some (19, false)), .len false (.t 22)⟩,
 ⟨(some 24), (some (19, false)), .bin .gtr (.t 20) (.t 23)⟩,
 ⟨(some 25), none, .pick (.t 19) (.c (.bool true)) (.t 24)⟩]))
 (.cond (.t 25) (.seq (.keep [4, 5, 6] (.ops false [⟨(some 26), none, .build [.nil, .nil, (.bool false), (.sl [])] []⟩,
 ⟨(some 27), none, .build [(.bool false), (.sl [])] []⟩,
 ⟨none, none, .store 4 (.t 4) (.t 26)⟩,
 ⟨none, none, .store 2 (.t 5) (.t 27)⟩,
 ⟨(some 6), none, .mov (.c (.int .i64 1))⟩]))
 .ret)
 .skip))
 (.seq (.keep [1, 2, 4, 5, 7] (.ops false [⟨(some 28), none, .fldA 0 1 false (.t 2)⟩,
 ⟨(some 29), none, .load 1 false (.t 28)⟩,
 ⟨(some 30), none, .mov (.t 1)⟩,
 ⟨(some 31), none, .callG n_quad_first [(.t 29), (.t 30)]⟩,
 ⟨(some 7), none, .mov (.t 31)⟩]))
 (.seq (.seq (.keep [1, 2, 4, 5, 7, 34] (.ops false [⟨(some 32), none, .mov (.t 7)⟩,
 ⟨(some 33), none, .callG n_lin_Mat_Definite [(.t 32)]⟩,
 ⟨(some 34), none, .un .not (.t 33)⟩]))
 (.cond (.t 34) (.seq (.keep [4, 5, 6] (.ops false [⟨(some 35), none, .build [.nil, .nil, (.bool false), (.sl [])] []⟩,
 ⟨(some 36), none, .build [(.bool false), (.sl [])] []⟩,
 ⟨none, none, .store 4 (.t 4) (.t 35)⟩,
 ⟨none, none, .store 2 (.t 5) (.t 36)⟩,
 ⟨(some 6), none, .mov (.c (.int .i64 80))⟩]))
 .ret)
 .skip))
 (.seq (.keep [1, 2, 4, 5, 7] (.ops false [⟨(some 37), none, .mov (.t 7)⟩,
 ⟨(some 38), none, .callG n_lin_Mat_Det [(.t 37)]⟩,
 ⟨none, none, .store 2 (.t 5) (.t 38)⟩]))
 (.seq (.keep [1, 2, 4, 5, 7, 8] (.ops false [⟨(some 40), none, .mov (.t 7)⟩,
 ⟨(some 41), none, .fldA 1 1 false (.t 2)⟩,
 ⟨(some 42), none, .load 1 false (.t 41)⟩,
 ⟨(some 43), none, .mov (.t 1)⟩,
 ⟨(some 44), none, .red (.slc 2 false true false) [(.t 42), (.t 43)]⟩,
 ⟨(some 45), none, .callG n_lin_Mat_Solve [(.t 40), (.t 44)]⟩,
 ⟨(some 39), none, .mov (.t 45)⟩,
 ⟨(some 46), none, .ext (.t 39) 0⟩,
 ⟨(some 47), none, .ext (.t 39) 1⟩,
 ⟨(some 48), none, .ext (.t 39) 2⟩,
 ⟨(some 9), none, .alloc 2 (.agg [(.bool false), (.sl [])])⟩,
 ⟨(some 8), none, .mov (.t 46)⟩,
 ⟨none, none, .store 2 (.t 9) (.t 47)⟩,
 ⟨(some 10), none, .mov (.t 48)⟩]))
 (.seq (.keep [1, 2, 4, 5, 7, 8] (.ops true [⟨(some 49), none, .fldA 2 2 true (.t 2)⟩,
 ⟨(some 50), none, .load 2 true (.t 49)⟩,
 ⟨(some 51), none, .load 2 true (.t 5)⟩,
 ⟨(some 52), none, .call n_long_Int_Mul [(.t 50), (.t 51)]⟩,
 ⟨(some 53), none, .fldA 1 1 false (.t 2)⟩,
 ⟨(some 54), none, .load 1 false (.t 53)⟩,
 ⟨(some 55), none, .mov (.t 1)⟩,
 ⟨(some 56), none, .red (.slc 2 false true false) [(.t 54), (.t 55)]⟩,
 ⟨(some 57), none, .mov (.t 8)⟩,
 ⟨(some 58), none, .call n_quad_dot [(.t 56), (.t 57)]⟩,
 ⟨(some 59), none, .call n_long_Int_Sub [(.t 52), (.t 58)]⟩,
 ⟨(some 60), none, .fldA 2 2 true (.t 4)⟩,
 ⟨none, none, .store 2 (.t 60) (.t 59)⟩]))
 (.seq (.seq (.keep [1, 2, 4, 5, 7, 8, 11] (.ops false [⟨(some 61), none, .mov (.t 1)⟩,
 ⟨(some 11), none, .mov (.t 61)⟩]))
 (.block 0 (.loop (.seq (.seq (.keep [1, 2, 4, 5, 7, 8, 11, 66] (.ops false [⟨(some 62), none, .mov (.t 11)⟩,
 ⟨(some 63), none, .fldA 0 1 false (.t 2)⟩,
 ⟨(some 64), none, .load 1 false (.t 63)⟩,
 ⟨(some 65), none, .len false (.t 64)⟩,
 ⟨(some 66), none, .bin .lss (.t 62) (.t 65)⟩]))
 (.cond (.t 66) .skip
 (.exit 0)))
 (.seq (.block 1 (.seq (.keep [1, 2, 4, 5, 7, 8, 11, 12] (.ops false [⟨(some 70), none, .mov (.t 7)⟩,
 ⟨(some 71), none, .fldA 0 1 false (.t 2)⟩,
 ⟨(some 72), none, .load 1 false (.t 71)⟩,
 ⟨(some 73), none, .mov (.t 11)⟩,
 ⟨(some 74), none, .idxA 1 (.t 72) (.t 73)⟩,
 ⟨(some 75), none, .load 1 false (.t 74)⟩,
 ⟨(some 76), none, .mov (.t 1)⟩,
 ⟨(some 77), none, .red (.slc 2 false true false) [(.t 75), (.t 76)]⟩,
 ⟨(some 78), none, .callG n_lin_Mat_Solve [(.t 70), (.t 77)]⟩,
 ⟨(some 69), none, .mov (.t 78)⟩,
 ⟨(some 79), none, .ext (.t 69) 0⟩,
 ⟨(some 80), none, .ext (.t 69) 1⟩,
 ⟨(some 81), none, .ext (.t 69) 2⟩,
 ⟨(some 13), none, .alloc 2 (.agg [(.bool false), (.sl [])])⟩,
 ⟨(some 12), none, .mov (.t 79)⟩,
 ⟨none, none, .store 2 (.t 13) (.t 80)⟩,
 ⟨(some 14), none, .mov (.t 81)⟩]))
 (.seq (.keep [1, 2, 4, 5, 7, 8, 11, 12, 15] (.ops false [⟨(some 15), none, .mov (.c .nil)⟩]))
 (.seq (.seq (.keep [1, 2, 4, 5, 7, 8, 11, 12, 15, 16] (.ops false [⟨(some 82), none, .mov (.t 1)⟩,
 ⟨(some 16), none, .mov (.t 82)⟩]))
 (.block 2 (.loop (.seq (.seq (.keep [1, 2, 4, 5, 7, 8, 11, 12, 15, 16, 87] (.ops false [⟨(some 83), none, .mov (.t 16)⟩,
 ⟨(some 84), none, .fldA 0 1 false (.t 2)⟩,
 ⟨(some 85), none, .load 1 false (.t 84)⟩,
 ⟨(some 86), none, .len false (.t 85)⟩,
 ⟨(some 87), none, .bin .lss (.t 83) (.t 86)⟩]))
 (.cond (.t 87) .skip
 (.exit 2)))
 (.seq (.block 3 (.keep [1, 2, 4, 5, 7, 8, 11, 12, 15, 16] (.ops true [⟨(some 90), none, .mov (.t 15)⟩,
 ⟨(some 91), none, .fldA 0 1 false (.t 2)⟩,
 ⟨(some 92), none, .load 1 false (.t 91)⟩,
 ⟨(some 93), none, .mov (.t 11)⟩,
 ⟨(some 94), none, .idxA 1 (.t 92) (.t 93)⟩,
 ⟨(some 95), none, .load 1 false (.t 94)⟩,
 ⟨(some 96), none, .mov (.t 16)⟩,
 ⟨(some 97), none, .idxA 2 (.t 95) (.t 96)⟩,
 ⟨(some 98), none, .load 2 true (.t 97)⟩,
 ⟨(some 99), none, .load 2 true (.t 5)⟩,
 ⟨(some 100), none, .call n_long_Int_Mul [(.t 98), (.t 99)]⟩,
 ⟨(some 101), none, .mov (.t 12)⟩,
 ⟨(some 102), none, .fldA 0 1 false (.t 2)⟩,
 ⟨(some 103), none, .load 1 false (.t 102)⟩,
 ⟨(some 104), none, .mov (.t 16)⟩,
 ⟨(some 105), none, .idxA 1 (.t 103) (.t 104)⟩,
 ⟨(some 106), none, .load 1 false (.t 105)⟩,
 ⟨(some 107), none, .mov (.t 1)⟩,
 ⟨(some 108), none, .red (.slc 2 false true false) [(.t 106), (.t 107)]⟩,
 ⟨(some 109), none, .call n_quad_dot [(.t 101), (.t 108)]⟩,
 ⟨(some 110), none, .call n_long_Int_Sub [(.t 100), (.t 109)]⟩,
 ⟨(some 111), none, .new (.bsl 2) [(.t 110)]⟩,
 ⟨(some 112), none, .eff (.app 2 32) [(.t 90), (.t 111)]⟩,
 ⟨(some 15), none, .mov (.t 112)⟩])))
 (.keep [1, 2, 4, 5, 7, 8, 11, 12, 15, 16] (.ops false [⟨(some 88), none, .mov (.t 16)⟩,
 ⟨(some 89), none, .bin .add (.t 88) (.c (.int .i64 1))⟩,
 ⟨(some 16), none, .mov (.t 89)⟩])))))))
 (.seq (.gh (.keep [1, 2, 4, 5, 7, 8, 11] (.ops false [⟨(some 113), none, .fldA 0 1 false (.t 4)⟩,
 ⟨(some 114), none, .load 1 false (.t 113)⟩,
 ⟨(some 115), none, .mov (.t 15)⟩,
 ⟨(some 116), none, .new (.bsl 1) [(.t 115)]⟩,
 ⟨(some 117), none, .eff (.app 1 24) [(.t 114), (.t 116)]⟩,
 ⟨(some 118), none, .fldA 0 1 false (.t 4)⟩,
 ⟨none, none, .store 1 (.t 118) (.t 117)⟩])))
 (.keep [1, 2, 4, 5, 7, 8, 11] (.ops true [⟨(some 119), none, .fldA 1 1 false (.t 4)⟩,
 ⟨(some 120), none, .load 1 false (.t 119)⟩,
 ⟨(some 121), none, .fldA 1 1 false (.t 2)⟩,
 ⟨(some 122), none, .load 1 false (.t 121)⟩,
 ⟨(some 123), none, .mov (.t 11)⟩,
 ⟨(some 124), none, .idxA 2 (.t 122) (.t 123)⟩,
 ⟨(some 125), none, .load 2 true (.t 124)⟩,
 ⟨(some 126), none, .load 2 true (.t 5)⟩,
 ⟨(some 127), none, .call n_long_Int_Mul [(.t 125), (.t 126)]⟩,
 ⟨(some 128), none, .fldA 0 1 false (.t 2)⟩,
 ⟨(some 129), none, .load 1 false (.t 128)⟩,
 ⟨(some 130), none, .mov (.t 11)⟩,
 ⟨(some 131), none, .idxA 1 (.t 129) (.t 130)⟩,
 ⟨(some 132), none, .load 1 false (.t 131)⟩,
 ⟨(some 133), none, .mov (.t 1)⟩,
 ⟨(some 134), none, .red (.slc 2 false true false) [(.t 132), (.t 133)]⟩,
 ⟨(some 135), none, .mov (.t 8)⟩,
 ⟨(some 136), none, .call n_quad_dot [(.t 134), (.t 135)]⟩,
 ⟨(some 137), none, .call n_long_Int_Sub [(.t 127), (.t 136)]⟩,
 ⟨(some 138), none, .new (.bsl 2) [(.t 137)]⟩,
 ⟨(some 139), none, .eff (.app 2 32) [(.t 120), (.t 138)]⟩,
 ⟨(some 140), none, .fldA 1 1 false (.t 4)⟩,
 ⟨none, none, .store 1 (.t 140) (.t 139)⟩])))))))
 (.keep [1, 2, 4, 5, 7, 8, 11] (.ops false [⟨(some 67), none, .mov (.t 11)⟩,
 ⟨(some 68), none, .bin .add (.t 67) (.c (.int .i64 1))⟩,
 ⟨(some 11), none, .mov (.t 68)⟩])))))))
 (.seq (.keep [4, 5, 6] (.ops true [⟨(some 141), none, .load 4 true (.t 4)⟩,
 ⟨(some 142), none, .loadN 2 true (.t 5) [4]⟩,
 ⟨none, none, .store 4 (.t 4) (.t 141)⟩,
 ⟨none, none, .store 2 (.t 5) (.t 142)⟩,
 ⟨(some 6), none, .mov (.c (.int .i64 0))⟩]))
 .ret)))))))))
def quad_Quad_Without.res : List RX := [(4, some (4, true)), (5, some (2, true)), (6, none)]
theorem quad_Quad_Without.m : mK pg Try.f6.ntmps quad_Quad_Without.k (Try.f6.body.getD .skip) = true := by kernel_rfl
theorem quad_Quad_Without.mr : mRes pg Try.f6.results.toList quad_Quad_Without.res = true := by kernel_rfl
theorem quad_Quad_Without.of {args : List V} {r : V} (hn : args.length = 2) (hW : W pg quad_Quad_Without.k (done quad_Quad_Without.res r) (start args)) : Ret pg n_quad_Quad_Without args r :=
 Ret_of (fn := Try.f6) Try.func6 rfl (by kernel_rfl) quad_Quad_Without.m quad_Quad_Without.mr (by rw [hn]; exact of_decide_eq_true (by kernel_rfl)) hW
def quad_Quad_Add.k : K :=
 (.seq (.keep [2, 3, 4] (.ops false [⟨(some 2), none, .boxP (.t 0)⟩,
 ⟨(some 3), none, .boxP (.t 1)⟩,
 ⟨(some 4), none, .alloc 4 (.agg [.nil, .nil, (.bool false), (.sl [])])⟩]))
 (.seq (.keep [2, 3, 4, 5] (.ops true [⟨(some 7), none, .fldA 1 1 false (.t 2)⟩,
 ⟨(some 8), none, .load 1 false (.t 7)⟩,
 ⟨(some 9), none, .fldA 1 1 false (.t 3)⟩,
 ⟨(some 10), none, .load 1 false (.t 9)⟩,
 ⟨(some 11), none, .red .bsz [(.t 10)]⟩,
 ⟨(some 12), none, .call n_quad_sums [(.t 8), (.t 11)]⟩,
 ⟨(some 13), none, .fldA 2 2 true (.t 2)⟩,
 ⟨(some 14), none, .load 2 true (.t 13)⟩,
 ⟨(some 15), none, .fldA 2 2 true (.t 3)⟩,
 ⟨(some 16), none, .load 2 true (.t 15)⟩,
 ⟨(some 17), none, .call n_long_Int_Add [(.t 14), (.t 16)]⟩,
 ⟨(some 18), none, .build [.nil, .nil, (.bool false), (.sl [])] [(1, 1, (.t 12)), (2, 2, (.t 17))]⟩,
 ⟨(some 5), none, .alloc 4 (.agg [.nil, .nil, (.bool false), (.sl [])])⟩,
 ⟨none, none, .store 4 (.t 5) (.t 18)⟩]))
 (.seq (.seq (.keep [2, 3, 4, 5, 21, 22] (.ops false [⟨(some 19), none, .fldA 0 1 false (.t 2)⟩,
 ⟨(some 20), none, .load 1 false (.t 19)⟩,
 ⟨(some 21), none, .len false (.t 20)⟩,
 ⟨(some 22), none, .mov (.c (.int .i64 0))⟩]))
 (.block 0 (.loop (.seq (.keep [2, 3, 4, 5, 21, 22, 23] (.ops false [⟨(some 23), none, .bin .lss (.t 22) (.t 21)⟩]))
 (.seq (.cond (.t 23) .skip
 (.exit 0))
 (.seq (.block 1 (.seq (.keep [2, 3, 4, 5, 6, 21, 22] (.ops false [⟨(some 24), none, .mov (.t 22)⟩,
 ⟨(some 6), none, .mov (.t 24)⟩]))
 (.gh (.keep [2, 3, 4, 5, 21, 22] (.ops true [⟨(some 25), none, .fldA 0 1 false (.t 5)⟩,
 ⟨(some 26), none, .load 1 false (.t 25)⟩,
 ⟨(some 27), none, .fldA 0 1 false (.t 2)⟩,
 ⟨(some 28), none, .load 1 false (.t 27)⟩,
 ⟨(some 29), none, .mov (.t 6)⟩,
 ⟨(some 30), none, .idxA 1 (.t 28) (.t 29)⟩,
 ⟨(some 31), none, .load 1 false (.t 30)⟩,
 ⟨(some 32), none, .fldA 0 1 false (.t 3)⟩,
 ⟨(some 33), none, .load 1 false (.t 32)⟩,
 ⟨(some 34), none, .mov (.t 6)⟩,
 ⟨(some 35), none, .idxA 1 (.t 33) (.t 34)⟩,
 ⟨(some 36), none, .load 1 false (.t 35)⟩,
 ⟨(some 37), none, .red .bsz [(.t 36)]⟩,
 ⟨(some 38), none, .call n_quad_sums [(.t 31), (.t 37)]⟩,
 ⟨(some 39), none, .red .bsz [(.t 38)]⟩,
 ⟨(some 40), none, .eff (.app 1 24) [(.t 26), (.t 39)]⟩,
 ⟨(some 41), none, .fldA 0 1 false (.t 5)⟩,
 ⟨none, none, .store 1 (.t 41) (.t 40)⟩])))))
 (.keep [2, 3, 4, 5, 21, 22] (.ops false [⟨(some 42), none, .bin .add (.t 22) (.c (.int .i64 1))⟩,
 ⟨(some 22), none, .mov (.t 42)⟩]))))))))
 (.seq (.keep [4] (.ops false [⟨(some 43), none, .load 4 true (.t 5)⟩,
 ⟨none, none, .store 4 (.t 4) (.t 43)⟩]))
 .ret))))
def quad_Quad_Add.res : List RX := [(4, some (4, true))]
theorem quad_Quad_Add.m : mK pg Try.f7.ntmps quad_Quad_Add.k (Try.f7.body.getD .skip) = true := by kernel_rfl
theorem quad_Quad_Add.mr : mRes pg Try.f7.results.toList quad_Quad_Add.res = true := by kernel_rfl
theorem quad_Quad_Add.of {args : List V} {r : V} (hn : args.length = 2) (hW : W pg quad_Quad_Add.k (done quad_Quad_Add.res r) (start args)) : Ret pg n_quad_Quad_Add args r :=
 Ret_of (fn := Try.f7) Try.func7 rfl (by kernel_rfl) quad_Quad_Add.m quad_Quad_Add.mr (by rw [hn]; exact of_decide_eq_true (by kernel_rfl)) hW
def quad_Quad_Value.k : K :=
 (.seq (.keep [1, 2, 4] (.ops false [⟨(some 2), none, .boxP (.t 0)⟩,
 ⟨(some 4), none, .alloc 2 (.agg [(.bool false), (.sl [])])⟩]))
 (.seq (.keep [4] (.ops true [⟨(some 5), none, .fldA 0 1 false (.t 2)⟩,
 ⟨(some 6), none, .load 1 false (.t 5)⟩,
 ⟨(some 7), none, .mov (.t 1)⟩,
 ⟨(some 8), none, .call n_lin_Mat_Quad [(.t 6), (.t 7)]⟩,
 ⟨(some 9), none, .fldA 1 1 false (.t 2)⟩,
 ⟨(some 10), none, .load 1 false (.t 9)⟩,
 ⟨(some 11), none, .mov (.t 1)⟩,
 ⟨(some 12), none, .call n_quad_dot [(.t 10), (.t 11)]⟩,
 ⟨(some 13), none, .call n_long_Of [(.c (.int .i64 2))]⟩,
 ⟨(some 14), none, .call n_long_Int_Mul [(.t 12), (.t 13)]⟩,
 ⟨(some 15), none, .call n_long_Int_Sub [(.t 8), (.t 14)]⟩,
 ⟨(some 16), none, .fldA 2 2 true (.t 2)⟩,
 ⟨(some 17), none, .load 2 true (.t 16)⟩,
 ⟨(some 18), none, .call n_long_Int_Add [(.t 15), (.t 17)]⟩,
 ⟨none, none, .store 2 (.t 4) (.t 18)⟩]))
 .ret))
def quad_Quad_Value.res : List RX := [(4, some (2, true))]
theorem quad_Quad_Value.m : mK pg Try.f10.ntmps quad_Quad_Value.k (Try.f10.body.getD .skip) = true := by kernel_rfl
theorem quad_Quad_Value.mr : mRes pg Try.f10.results.toList quad_Quad_Value.res = true := by kernel_rfl
theorem quad_Quad_Value.of {args : List V} {r : V} (hn : args.length = 2) (hW : W pg quad_Quad_Value.k (done quad_Quad_Value.res r) (start args)) : Ret pg n_quad_Quad_Value args r :=
 Ret_of (fn := Try.f10) Try.func10 rfl (by kernel_rfl) quad_Quad_Value.m quad_Quad_Value.mr (by rw [hn]; exact of_decide_eq_true (by kernel_rfl)) hW
def quad_Quad_Slope.k : K :=
 (.seq (.keep [1, 2] (.ops false [⟨(some 2), none, .boxP (.t 0)⟩,
 ⟨(some 4), none, .mov (.c .nil)⟩]))
 (.seq (.keep [4] (.ops true [⟨(some 5), none, .fldA 0 1 false (.t 2)⟩,
 ⟨(some 6), none, .load 1 false (.t 5)⟩,
 ⟨(some 7), none, .mov (.t 1)⟩,
 ⟨(some 8), none, .call n_lin_Mat_Apply [(.t 6), (.t 7)]⟩,
 ⟨(some 9), none, .fldA 1 1 false (.t 2)⟩,
 ⟨(some 10), none, .load 1 false (.t 9)⟩,
 ⟨(some 11), none, .call n_quad_less [(.t 8), (.t 10)]⟩,
 ⟨(some 4), none, .mov (.t 11)⟩]))
 .ret))
def quad_Quad_Slope.res : List RX := [(4, none)]
theorem quad_Quad_Slope.m : mK pg Try.f15.ntmps quad_Quad_Slope.k (Try.f15.body.getD .skip) = true := by kernel_rfl
theorem quad_Quad_Slope.mr : mRes pg Try.f15.results.toList quad_Quad_Slope.res = true := by kernel_rfl
theorem quad_Quad_Slope.of {args : List V} {r : V} (hn : args.length = 2) (hW : W pg quad_Quad_Slope.k (done quad_Quad_Slope.res r) (start args)) : Ret pg n_quad_Quad_Slope args r :=
 Ret_of (fn := Try.f15) Try.func15 rfl (by kernel_rfl) quad_Quad_Slope.m quad_Quad_Slope.mr (by rw [hn]; exact of_decide_eq_true (by kernel_rfl)) hW
def quad_Quad_Least.k : K :=
 (.seq (.keep [1, 3, 4] (.ops false [⟨(some 1), none, .boxP (.t 0)⟩,
 ⟨(some 2), none, .mov (.c .nil)⟩,
 ⟨(some 3), none, .alloc 2 (.agg [(.bool false), (.sl [])])⟩,
 ⟨(some 4), none, .alloc 2 (.agg [(.bool false), (.sl [])])⟩,
 ⟨(some 5), none, .mov (.c (.int .i64 0))⟩]))
 (.seq (.seq (.keep [1, 3, 4, 9] (.ops false [⟨(some 6), none, .fldA 0 1 false (.t 1)⟩,
 ⟨(some 7), none, .load 1 false (.t 6)⟩,
 ⟨(some 8), none, .callG n_lin_Mat_Definite [(.t 7)]⟩,
 ⟨(some 9), none, .un .not (.t 8)⟩]))
 (.cond (.t 9) (.seq (.keep [2, 3, 4, 5] (.ops false [⟨(some 10), none, .build [(.bool false), (.sl [])] []⟩,
 ⟨(some 11), none, .build [(.bool false), (.sl [])] []⟩,
 ⟨(some 2), none, .mov (.c .nil)⟩,
 ⟨none, none, .store 2 (.t 3) (.t 10)⟩,
 ⟨none, none, .store 2 (.t 4) (.t 11)⟩,
 ⟨(some 5), none, .mov (.c (.int .i64 80))⟩]))
 .ret)
 .skip))
 (.seq (.keep [1, 2, 3, 4] (.ops false [⟨(some 13), none, .fldA 0 1 false (.t 1)⟩,
 ⟨(some 14), none, .load 1 false (.t 13)⟩,
 ⟨(some 15), none, .fldA 1 1 false (.t 1)⟩,
 ⟨(some 16), none, .load 1 false (.t 15)⟩,
 ⟨(some 17), none, .callG n_lin_Mat_Solve [(.t 14), (.t 16)]⟩,
 ⟨(some 12), none, .mov (.t 17)⟩,
 ⟨(some 18), none, .ext (.t 12) 0⟩,
 ⟨(some 19), none, .ext (.t 12) 1⟩,
 ⟨(some 20), none, .ext (.t 12) 2⟩,
 ⟨(some 2), none, .mov (.t 18)⟩,
 ⟨none, none, .store 2 (.t 3) (.t 19)⟩]))
 (.seq (.keep [2, 3, 4, 5] (.ops true [⟨(some 21), none, .mov (.t 2)⟩,
 ⟨(some 22), none, .load 2 true (.t 3)⟩,
 ⟨(some 23), none, .fldA 2 2 true (.t 1)⟩,
 ⟨(some 24), none, .loadN 2 true (.t 23) [3]⟩,
 ⟨(some 25), none, .load 2 true (.t 3)⟩,
 ⟨(some 26), none, .call n_long_Int_Mul [(.t 24), (.t 25)]⟩,
 ⟨(some 27), none, .fldA 1 1 false (.t 1)⟩,
 ⟨(some 28), none, .loadN 1 false (.t 27) [3]⟩,
 ⟨(some 29), none, .mov (.t 2)⟩,
 ⟨(some 30), none, .call n_quad_dot [(.t 28), (.t 29)]⟩,
 ⟨(some 31), none, .call n_long_Int_Sub [(.t 26), (.t 30)]⟩,
 ⟨(some 2), none, .mov (.t 21)⟩,
 ⟨none, none, .store 2 (.t 3) (.t 22)⟩,
 ⟨none, none, .store 2 (.t 4) (.t 31)⟩,
 ⟨(some 5), none, .mov (.c (.int .i64 0))⟩]))
 .ret))))
def quad_Quad_Least.res : List RX := [(2, none), (3, some (2, true)), (4, some (2, true)), (5, none)]
theorem quad_Quad_Least.m : mK pg Try.f16.ntmps quad_Quad_Least.k (Try.f16.body.getD .skip) = true := by kernel_rfl
theorem quad_Quad_Least.mr : mRes pg Try.f16.results.toList quad_Quad_Least.res = true := by kernel_rfl
theorem quad_Quad_Least.of {args : List V} {r : V} (hn : args.length = 1) (hW : W pg quad_Quad_Least.k (done quad_Quad_Least.res r) (start args)) : Ret pg n_quad_Quad_Least args r :=
 Ret_of (fn := Try.f16) Try.func16 rfl (by kernel_rfl) quad_Quad_Least.m quad_Quad_Least.mr (by rw [hn]; exact of_decide_eq_true (by kernel_rfl)) hW
def quad_Quad_With.k : K :=
 (.seq (.keep [1, 2, 4] (.ops false [⟨(some 2), none, .boxP (.t 0)⟩,
 ⟨(some 4), none, .alloc 4 (.agg [.nil, .nil, (.bool false), (.sl [])])⟩,
 ⟨(some 5), none, .mov (.c (.int .i64 0))⟩]))
 (.seq (.keep [1, 2, 4, 6] (.ops false [⟨(some 9), none, .fldA 0 1 false (.t 2)⟩,
 ⟨(some 10), none, .load 1 false (.t 9)⟩,
 ⟨(some 11), none, .len false (.t 10)⟩,
 ⟨(some 12), none, .mov (.t 1)⟩,
 ⟨(some 13), none, .len false (.t 12)⟩,
 ⟨(some 14), none, .bin .sub (.t 11) (.t 13)⟩,
 ⟨(some 6), none, .mov (.t 14)⟩]))
 (.seq (.seq (.keep [1, 2, 4, 6, 16] (.ops false [⟨(some 15), none, .mov (.t 6)⟩,
 ⟨(some 16), none, .bin .lss (.t 15) (.c (.int .i64 0))⟩]))
 (.cond (.t 16) (.seq (.keep [4, 5] (.ops false [⟨(some 17), none, .build [.nil, .nil, (.bool false), (.sl [])] []⟩,
 ⟨none, none, .store 4 (.t 4) (.t 17)⟩,
 ⟨(some 5), none, .mov (.c (.int .i64 1))⟩]))
 .ret)
 .skip))
 (.seq (.keep [2, 4, 6, 7] (.ops false [⟨(some 18), none, .mov (.t 6)⟩,
 ⟨(some 19), none, .new (.mks 2 32 (.agg [(.bool false), (.sl [])])) [(.t 18), (.t 18)]⟩,
 ⟨(some 20), none, .mov (.t 1)⟩,
 ⟨(some 21), none, .eff (.app 2 32) [(.t 19), (.t 20)]⟩,
 ⟨(some 7), none, .mov (.t 21)⟩]))
 (.seq (.keep [2, 4, 6, 7, 8] (.ops false [⟨(some 22), none, .load 4 true (.t 2)⟩,
 ⟨(some 23), none, .mov (.t 7)⟩,
 ⟨(some 24), none, .callG n_quad_Quad_Slope [(.t 22), (.t 23)]⟩,
 ⟨(some 8), none, .mov (.t 24)⟩]))
 (.seq (.keep [4, 5] (.ops true [⟨(some 25), none, .fldA 0 1 false (.t 2)⟩,
 ⟨(some 26), none, .load 1 false (.t 25)⟩,
 ⟨(some 27), none, .mov (.t 6)⟩,
 ⟨(some 28), none, .call n_quad_first [(.t 26), (.t 27)]⟩,
 ⟨(some 29), none, .mov (.t 8)⟩,
 ⟨(some 30), none, .mov (.t 6)⟩,
 ⟨(some 31), none, .red (.slc 2 false true false) [(.t 29), (.t 30)]⟩,
 ⟨(some 32), none, .call n_long_Of [(.c (.int .i64 (-1)))]⟩,
 ⟨(some 33), none, .call n_quad_times [(.t 31), (.t 32)]⟩,
 ⟨(some 34), none, .load 4 true (.t 2)⟩,
 ⟨(some 35), none, .mov (.t 7)⟩,
 ⟨(some 36), none, .call n_quad_Quad_Value [(.t 34), (.t 35)]⟩,
 ⟨(some 37), none, .build [.nil, .nil, (.bool false), (.sl [])] [(0, 1, (.t 28)), (1, 1, (.t 33)), (2, 2, (.t 36))]⟩,
 ⟨none, none, .store 4 (.t 4) (.t 37)⟩,
 ⟨(some 5), none, .mov (.c (.int .i64 0))⟩]))
 .ret))))))
def quad_Quad_With.res : List RX := [(4, some (4, true)), (5, none)]
theorem quad_Quad_With.m : mK pg Try.f17.ntmps quad_Quad_With.k (Try.f17.body.getD .skip) = true := by kernel_rfl
theorem quad_Quad_With.mr : mRes pg Try.f17.results.toList quad_Quad_With.res = true := by kernel_rfl
theorem quad_Quad_With.of {args : List V} {r : V} (hn : args.length = 2) (hW : W pg quad_Quad_With.k (done quad_Quad_With.res r) (start args)) : Ret pg n_quad_Quad_With args r :=
 Ret_of (fn := Try.f17) Try.func17 rfl (by kernel_rfl) quad_Quad_With.m quad_Quad_With.mr (by rw [hn]; exact of_decide_eq_true (by kernel_rfl)) hW
end Go.Gim

import Derived.Test.YtmfenpedpajfkaaGN
/- Functions' code as data (written by wip/tools/gen.py), and the step to their contracts. -/
set_option maxRecDepth 100000
namespace Go.Gim
open Go.Proofs
def lin_Of.k : K :=
  (.seq (.keep [1] (.ops false [⟨(some 1), none, .boxP (.t 0)⟩,
     ⟨(some 2), none, .mov (.c .nil)⟩,
     ⟨(some 3), none, .mov (.c (.int .i64 0))⟩]))
  (.seq (.seq (.keep [1, 8] (.ops false [⟨(some 6), none, .load 1 false (.t 1)⟩,
       ⟨(some 7), none, .len false (.t 6)⟩,
       ⟨(some 8), none, .bin .gtr (.t 7) (.c (.int .i64 12))⟩]))
    (.cond (.t 8) (.seq (.keep [2, 3] (.ops false [⟨(some 2), none, .mov (.c .nil)⟩,
         ⟨(some 3), none, .mov (.c (.int .i64 2))⟩]))
      .ret)
     .skip))
   (.seq (.seq (.keep [1, 9, 10, 11] (.ops false [⟨(some 9), none, .load 1 false (.t 1)⟩,
        ⟨(some 10), none, .len false (.t 9)⟩,
        ⟨(some 11), none, .mov (.c (.int .i64 0))⟩]))
     (.block 0 (.loop (.seq (.keep [1, 9, 10, 11, 12] (.ops false [⟨(some 12), none, .bin .lss (.t 11) (.t 10)⟩]))
        (.seq (.cond (.t 12) .skip
          (.exit 0))
         (.seq (.block 1 (.seq (.keep [1, 5, 9, 10, 11] (.ops false [⟨(some 13), none, .idxA 1 (.t 9) (.t 11)⟩,
               ⟨(some 14), none, .load 1 false (.t 13)⟩,
               ⟨(some 5), none, .mov (.t 14)⟩]))
            (.seq (.keep [1, 9, 10, 11, 19] (.ops false [⟨(some 15), none, .mov (.t 5)⟩,
                ⟨(some 16), none, .len false (.t 15)⟩,
                ⟨(some 17), none, .load 1 false (.t 1)⟩,
                ⟨(some 18), none, .len false (.t 17)⟩,
                ⟨(some 19), none, .bin .neq (.t 16) (.t 18)⟩]))
             (.cond (.t 19) (.seq (.keep [2, 3] (.ops false [⟨(some 2), none, .mov (.c .nil)⟩,
                  ⟨(some 3), none, .mov (.c (.int .i64 1))⟩]))
               .ret)
              .skip))))
          (.keep [1, 9, 10, 11] (.ops false [⟨(some 20), none, .bin .add (.t 11) (.c (.int .i64 1))⟩,
             ⟨(some 11), none, .mov (.t 20)⟩]))))))))
    (.seq (.keep [2, 3] (.ops false [⟨(some 21), none, .load 1 false (.t 1)⟩,
        ⟨(some 22), none, .len false (.t 21)⟩,
        ⟨(some 23), none, .mkFn n_lin_Of_1 [(.t 1)]⟩,
        ⟨(some 24), none, .callG n_lin_made [(.t 22), (.t 23)]⟩,
        ⟨(some 2), none, .mov (.t 24)⟩,
        ⟨(some 3), none, .mov (.c (.int .i64 0))⟩]))
     .ret))))
def lin_Of.res : List RX := [(2, none), (3, none)]
theorem lin_Of.m : mK pg Try.f18.ntmps lin_Of.k (Try.f18.body.getD .skip) = true := by kernel_rfl
theorem lin_Of.mr : mRes pg Try.f18.results.toList lin_Of.res = true := by kernel_rfl
theorem lin_Of.of {args : List V} {r : V} (hn : args.length = 1) (hW : W pg lin_Of.k (done lin_Of.res r) (start args)) : Ret pg n_lin_Of args r :=
  Ret_of (fn := Try.f18) Try.func18 rfl (by kernel_rfl) lin_Of.m lin_Of.mr (by rw [hn]; exact of_decide_eq_true (by kernel_rfl)) hW
def lin_made.k : K :=
  (.seq (.keep [2, 3] (.ops false [⟨(some 2), none, .boxP (.t 0)⟩,
     ⟨(some 3), none, .boxP (.t 1)⟩,
     ⟨(some 4), none, .mov (.c .nil)⟩]))
  (.seq (.keep [4] (.ops false [⟨(some 5), none, .load 1 false (.t 2)⟩,
      ⟨(some 6), none, .mkFn n_lin_made_1 [(.t 2), (.t 3)]⟩,
      ⟨(some 7), none, .callG n_lin_list_Llong_Int [(.t 5), (.t 6)]⟩,
      ⟨(some 4), none, .mov (.t 7)⟩]))
   .ret))
def lin_made.res : List RX := [(4, none)]
theorem lin_made.m : mK pg Try.f71.ntmps lin_made.k (Try.f71.body.getD .skip) = true := by kernel_rfl
theorem lin_made.mr : mRes pg Try.f71.results.toList lin_made.res = true := by kernel_rfl
theorem lin_made.of {args : List V} {r : V} (hn : args.length = 2) (hW : W pg lin_made.k (done lin_made.res r) (start args)) : Ret pg n_lin_made args r :=
  Ret_of (fn := Try.f71) Try.func71 rfl (by kernel_rfl) lin_made.m lin_made.mr (by rw [hn]; exact of_decide_eq_true (by kernel_rfl)) hW
def lin_Of_1.k : K :=
  (.seq (.keep [0, 1, 2, 5] (.ops false [⟨(some 5), none, .alloc 2 (.agg [(.bool false), (.sl [])])⟩]))
  (.seq (.keep [5] (.ops false [⟨(some 6), none, .load 1 false (.t 2)⟩,
      ⟨(some 7), none, .mov (.t 0)⟩,
      ⟨(some 8), none, .idxA 1 (.t 6) (.t 7)⟩,
      ⟨(some 9), none, .load 1 false (.t 8)⟩,
      ⟨(some 10), none, .mov (.t 1)⟩,
      ⟨(some 11), none, .idxA 1 (.t 9) (.t 10)⟩,
      ⟨(some 12), none, .load 1 false (.t 11)⟩,
      ⟨(some 13), none, .callG n_long_Of [(.t 12)]⟩,
      ⟨none, none, .store 2 (.t 5) (.t 13)⟩]))
   .ret))
def lin_Of_1.res : List RX := [(5, some (2, true))]
theorem lin_Of_1.m : mK pg Try.f72.ntmps lin_Of_1.k (Try.f72.body.getD .skip) = true := by kernel_rfl
theorem lin_Of_1.mr : mRes pg Try.f72.results.toList lin_Of_1.res = true := by kernel_rfl
theorem lin_Of_1.of {args : List V} {r : V} (hn : args.length = 3) (hW : W pg lin_Of_1.k (done lin_Of_1.res r) (start args)) : Ret pg n_lin_Of_1 args r :=
  Ret_of (fn := Try.f72) Try.func72 rfl (by kernel_rfl) lin_Of_1.m lin_Of_1.mr (by rw [hn]; exact of_decide_eq_true (by kernel_rfl)) hW
def lin_zeros.k : K :=
  (.seq (.keep [0] (.ops false [⟨(some 2), none, .mov (.c .nil)⟩]))
  (.seq (.keep [2] (.ops false [⟨(some 3), none, .mov (.t 0)⟩,
      ⟨(some 4), none, .new (.mks 2 32 (.agg [(.bool false), (.sl [])])) [(.t 3), (.t 3)]⟩,
      ⟨(some 2), none, .mov (.t 4)⟩]))
   .ret))
def lin_zeros.res : List RX := [(2, none)]
theorem lin_zeros.m : mK pg Try.f75.ntmps lin_zeros.k (Try.f75.body.getD .skip) = true := by kernel_rfl
theorem lin_zeros.mr : mRes pg Try.f75.results.toList lin_zeros.res = true := by kernel_rfl
theorem lin_zeros.of {args : List V} {r : V} (hn : args.length = 1) (hW : W pg lin_zeros.k (done lin_zeros.res r) (start args)) : Ret pg n_lin_zeros args r :=
  Ret_of (fn := Try.f75) Try.func75 rfl (by kernel_rfl) lin_zeros.m lin_zeros.mr (by rw [hn]; exact of_decide_eq_true (by kernel_rfl)) hW
def lin_turned.k : K :=
  (.seq (.keep [1, 2, 4] (.ops false [⟨(some 2), none, .boxP (.t 0)⟩,
     ⟨(some 4), none, .alloc 2 (.agg [(.bool false), (.sl [])])⟩]))
  (.seq (.seq (.keep [2, 4, 5] (.ops false [⟨(some 5), none, .mov (.t 1)⟩]))
    (.cond (.t 5) (.seq (.keep [4] (.ops false [⟨(some 6), none, .load 2 true (.t 2)⟩,
         ⟨(some 7), none, .callG n_long_Int_Neg [(.t 6)]⟩,
         ⟨none, none, .store 2 (.t 4) (.t 7)⟩]))
      .ret)
     .skip))
   (.seq (.keep [4] (.ops false [⟨(some 8), none, .load 2 true (.t 2)⟩,
       ⟨none, none, .store 2 (.t 4) (.t 8)⟩]))
    .ret)))
def lin_turned.res : List RX := [(4, some (2, true))]
theorem lin_turned.m : mK pg Try.f76.ntmps lin_turned.k (Try.f76.body.getD .skip) = true := by kernel_rfl
theorem lin_turned.mr : mRes pg Try.f76.results.toList lin_turned.res = true := by kernel_rfl
theorem lin_turned.of {args : List V} {r : V} (hn : args.length = 2) (hW : W pg lin_turned.k (done lin_turned.res r) (start args)) : Ret pg n_lin_turned args r :=
  Ret_of (fn := Try.f76) Try.func76 rfl (by kernel_rfl) lin_turned.m lin_turned.mr (by rw [hn]; exact of_decide_eq_true (by kernel_rfl)) hW
def lin_list_long_Int.k : K :=
  (.seq (.keep [0, 1] (.ops false [⟨(some 4), none, .mov (.c .nil)⟩]))
  (.seq (.keep [1, 5] (.ops false [⟨(some 7), none, .mov (.t 0)⟩,
      ⟨(some 8), none, .new (.mks 2 32 (.agg [(.bool false), (.sl [])])) [(.t 7), (.t 7)]⟩,
      ⟨(some 5), none, .mov (.t 8)⟩]))
   (.seq (.seq (.keep [1, 5, 10, 11] (.ops false [⟨(some 9), none, .mov (.t 5)⟩,
        ⟨(some 10), none, .len false (.t 9)⟩,
        ⟨(some 11), none, .mov (.c (.int .i64 0))⟩]))
     (.block 0 (.loop (.seq (.keep [1, 5, 10, 11, 12] (.ops false [⟨(some 12), none, .bin .lss (.t 11) (.t 10)⟩]))
        (.seq (.cond (.t 12) .skip
          (.exit 0))
         (.seq (.block 1 (.seq (.keep [1, 5, 6, 10, 11] (.ops false [⟨(some 13), none, .mov (.t 11)⟩,
               ⟨(some 6), none, .mov (.t 13)⟩]))
            (.keep [1, 5, 10, 11] (.ops false [⟨(some 14), none, .mov (.t 5)⟩,
               ⟨(some 15), none, .mov (.t 6)⟩,
               ⟨(some 16), none, .mov (.t 1)⟩,
               ⟨(some 17), none, .mov (.t 6)⟩,
               ⟨(some 18), none, .callGV (.t 16) [(.t 17)]⟩,
               ⟨(some 19), none, .idxA 2 (.t 14) (.t 15)⟩,
               ⟨none, none, .store 2 (.t 19) (.t 18)⟩]))))
          (.keep [1, 5, 10, 11] (.ops false [⟨(some 20), none, .bin .add (.t 11) (.c (.int .i64 1))⟩,
             ⟨(some 11), none, .mov (.t 20)⟩]))))))))
    (.seq (.keep [4] (.ops false [⟨(some 21), none, .mov (.t 5)⟩,
        ⟨(some 4), none, .mov (.t 21)⟩]))
     .ret))))
def lin_list_long_Int.res : List RX := [(4, none)]
theorem lin_list_long_Int.m : mK pg Try.f80.ntmps lin_list_long_Int.k (Try.f80.body.getD .skip) = true := by kernel_rfl
theorem lin_list_long_Int.mr : mRes pg Try.f80.results.toList lin_list_long_Int.res = true := by kernel_rfl
theorem lin_list_long_Int.of {args : List V} {r : V} (hn : args.length = 2) (hW : W pg lin_list_long_Int.k (done lin_list_long_Int.res r) (start args)) : Ret pg n_lin_list_long_Int args r :=
  Ret_of (fn := Try.f80) Try.func80 rfl (by kernel_rfl) lin_list_long_Int.m lin_list_long_Int.mr (by rw [hn]; exact of_decide_eq_true (by kernel_rfl)) hW
theorem lin_list_long_Int.ofG {args : List V} {H : Hp} {n : Nat} {Q : V → Hp → Nat → Prop} (hn : args.length = 2) (hW : W pg lin_list_long_Int.k (doneG lin_list_long_Int.res (fun r H' n' => n ≤ n' ∧ Q r H' n')) (startG args H n)) : ∃ r H' n', Q r H' n' ∧ RetG pg n_lin_list_long_Int args H n r H' n' :=
  RetG_of (fn := Try.f80) Try.func80 rfl (by kernel_rfl) lin_list_long_Int.m lin_list_long_Int.mr (by rw [hn]; exact of_decide_eq_true (by kernel_rfl)) hW
def lin_sum.k : K :=
  (.seq (.keep [0, 1, 4] (.ops false [⟨(some 4), none, .alloc 2 (.agg [(.bool false), (.sl [])])⟩]))
  (.seq (.keep [0, 1, 4, 5] (.ops false [⟨(some 5), none, .alloc 2 (.agg [(.bool false), (.sl [])])⟩]))
   (.seq (.seq (.keep [1, 4, 5, 9, 10] (.ops false [⟨(some 9), none, .mov (.t 0)⟩,
        ⟨(some 10), none, .mov (.c (.int .i64 0))⟩]))
     (.block 0 (.loop (.seq (.keep [1, 4, 5, 9, 10, 11] (.ops false [⟨(some 11), none, .bin .lss (.t 10) (.t 9)⟩]))
        (.seq (.cond (.t 11) .skip
          (.exit 0))
         (.seq (.block 1 (.seq (.keep [1, 4, 5, 6, 9, 10] (.ops false [⟨(some 12), none, .mov (.t 10)⟩,
               ⟨(some 6), none, .mov (.t 12)⟩]))
            (.seq (.keep [1, 4, 5, 7, 8, 9, 10] (.ops false [⟨(some 14), none, .mov (.t 1)⟩,
                ⟨(some 15), none, .mov (.t 6)⟩,
                ⟨(some 16), none, .callGV (.t 14) [(.t 15)]⟩,
                ⟨(some 13), none, .mov (.t 16)⟩,
                ⟨(some 17), none, .ext (.t 13) 0⟩,
                ⟨(some 18), none, .ext (.t 13) 1⟩,
                ⟨(some 7), none, .alloc 2 (.agg [(.bool false), (.sl [])])⟩,
                ⟨(some 8), none, .alloc 2 (.agg [(.bool false), (.sl [])])⟩,
                ⟨none, none, .store 2 (.t 7) (.t 17)⟩,
                ⟨none, none, .store 2 (.t 8) (.t 18)⟩]))
             (.keep [1, 4, 5, 9, 10] (.ops true [⟨(some 19), none, .load 2 true (.t 5)⟩,
                ⟨(some 20), none, .load 2 true (.t 7)⟩,
                ⟨(some 21), none, .load 2 true (.t 8)⟩,
                ⟨(some 22), none, .call n_long_Int_Mul [(.t 20), (.t 21)]⟩,
                ⟨(some 23), none, .call n_long_Int_Add [(.t 19), (.t 22)]⟩,
                ⟨none, none, .store 2 (.t 5) (.t 23)⟩])))))
          (.keep [1, 4, 5, 9, 10] (.ops false [⟨(some 24), none, .bin .add (.t 10) (.c (.int .i64 1))⟩,
             ⟨(some 10), none, .mov (.t 24)⟩]))))))))
    (.seq (.keep [4] (.ops false [⟨(some 25), none, .load 2 true (.t 5)⟩,
        ⟨none, none, .store 2 (.t 4) (.t 25)⟩]))
     .ret))))
def lin_sum.res : List RX := [(4, some (2, true))]
theorem lin_sum.m : mK pg Try.f87.ntmps lin_sum.k (Try.f87.body.getD .skip) = true := by kernel_rfl
theorem lin_sum.mr : mRes pg Try.f87.results.toList lin_sum.res = true := by kernel_rfl
theorem lin_sum.of {args : List V} {r : V} (hn : args.length = 2) (hW : W pg lin_sum.k (done lin_sum.res r) (start args)) : Ret pg n_lin_sum args r :=
  Ret_of (fn := Try.f87) Try.func87 rfl (by kernel_rfl) lin_sum.m lin_sum.mr (by rw [hn]; exact of_decide_eq_true (by kernel_rfl)) hW
def lin_list_Llong_Int.k : K :=
  (.seq (.keep [0, 1] (.ops false [⟨(some 4), none, .mov (.c .nil)⟩]))
  (.seq (.keep [1, 5] (.ops false [⟨(some 7), none, .mov (.t 0)⟩,
      ⟨(some 8), none, .new (.mks 1 24 .nil) [(.t 7), (.t 7)]⟩,
      ⟨(some 5), none, .mov (.t 8)⟩]))
   (.seq (.seq (.keep [1, 5, 10, 11] (.ops false [⟨(some 9), none, .mov (.t 5)⟩,
        ⟨(some 10), none, .len false (.t 9)⟩,
        ⟨(some 11), none, .mov (.c (.int .i64 0))⟩]))
     (.block 0 (.loop (.seq (.keep [1, 5, 10, 11, 12] (.ops false [⟨(some 12), none, .bin .lss (.t 11) (.t 10)⟩]))
        (.seq (.cond (.t 12) .skip
          (.exit 0))
         (.seq (.block 1 (.seq (.keep [1, 5, 6, 10, 11] (.ops false [⟨(some 13), none, .mov (.t 11)⟩,
               ⟨(some 6), none, .mov (.t 13)⟩]))
            (.keep [1, 5, 10, 11] (.ops false [⟨(some 14), none, .mov (.t 5)⟩,
               ⟨(some 15), none, .mov (.t 6)⟩,
               ⟨(some 16), none, .mov (.t 1)⟩,
               ⟨(some 17), none, .mov (.t 6)⟩,
               ⟨(some 18), none, .callGV (.t 16) [(.t 17)]⟩,
               ⟨(some 19), none, .idxA 1 (.t 14) (.t 15)⟩,
               ⟨none, none, .store 1 (.t 19) (.t 18)⟩]))))
          (.keep [1, 5, 10, 11] (.ops false [⟨(some 20), none, .bin .add (.t 11) (.c (.int .i64 1))⟩,
             ⟨(some 11), none, .mov (.t 20)⟩]))))))))
    (.seq (.keep [4] (.ops false [⟨(some 21), none, .mov (.t 5)⟩,
        ⟨(some 4), none, .mov (.t 21)⟩]))
     .ret))))
def lin_list_Llong_Int.res : List RX := [(4, none)]
theorem lin_list_Llong_Int.m : mK pg Try.f109.ntmps lin_list_Llong_Int.k (Try.f109.body.getD .skip) = true := by kernel_rfl
theorem lin_list_Llong_Int.mr : mRes pg Try.f109.results.toList lin_list_Llong_Int.res = true := by kernel_rfl
theorem lin_list_Llong_Int.of {args : List V} {r : V} (hn : args.length = 2) (hW : W pg lin_list_Llong_Int.k (done lin_list_Llong_Int.res r) (start args)) : Ret pg n_lin_list_Llong_Int args r :=
  Ret_of (fn := Try.f109) Try.func109 rfl (by kernel_rfl) lin_list_Llong_Int.m lin_list_Llong_Int.mr (by rw [hn]; exact of_decide_eq_true (by kernel_rfl)) hW
theorem lin_list_Llong_Int.ofG {args : List V} {H : Hp} {n : Nat} {Q : V → Hp → Nat → Prop} (hn : args.length = 2) (hW : W pg lin_list_Llong_Int.k (doneG lin_list_Llong_Int.res (fun r H' n' => n ≤ n' ∧ Q r H' n')) (startG args H n)) : ∃ r H' n', Q r H' n' ∧ RetG pg n_lin_list_Llong_Int args H n r H' n' :=
  RetG_of (fn := Try.f109) Try.func109 rfl (by kernel_rfl) lin_list_Llong_Int.m lin_list_Llong_Int.mr (by rw [hn]; exact of_decide_eq_true (by kernel_rfl)) hW
def lin_made_1.k : K :=
  (.seq (.keep [1, 2, 3] (.ops false [⟨(some 3), none, .boxP (.t 0)⟩,
     ⟨(some 4), none, .mov (.c .nil)⟩]))
  (.seq (.keep [4] (.ops false [⟨(some 5), none, .load 1 false (.t 1)⟩,
      ⟨(some 6), none, .mkFn n_lin_made_1_1 [(.t 2), (.t 3)]⟩,
      ⟨(some 7), none, .callG n_lin_list_long_Int [(.t 5), (.t 6)]⟩,
      ⟨(some 4), none, .mov (.t 7)⟩]))
   .ret))
def lin_made_1.res : List RX := [(4, none)]
theorem lin_made_1.m : mK pg Try.f110.ntmps lin_made_1.k (Try.f110.body.getD .skip) = true := by kernel_rfl
theorem lin_made_1.mr : mRes pg Try.f110.results.toList lin_made_1.res = true := by kernel_rfl
theorem lin_made_1.of {args : List V} {r : V} (hn : args.length = 3) (hW : W pg lin_made_1.k (done lin_made_1.res r) (start args)) : Ret pg n_lin_made_1 args r :=
  Ret_of (fn := Try.f110) Try.func110 rfl (by kernel_rfl) lin_made_1.m lin_made_1.mr (by rw [hn]; exact of_decide_eq_true (by kernel_rfl)) hW
def lin_made_1_1.k : K :=
  (.seq (.keep [0, 1, 2, 4] (.ops false [⟨(some 4), none, .alloc 2 (.agg [(.bool false), (.sl [])])⟩]))
  (.seq (.keep [4] (.ops false [⟨(some 5), none, .load 1 false (.t 1)⟩,
      ⟨(some 6), none, .load 1 false (.t 2)⟩,
      ⟨(some 7), none, .mov (.t 0)⟩,
      ⟨(some 8), none, .callGV (.t 5) [(.t 6), (.t 7)]⟩,
      ⟨none, none, .store 2 (.t 4) (.t 8)⟩]))
   .ret))
def lin_made_1_1.res : List RX := [(4, some (2, true))]
theorem lin_made_1_1.m : mK pg Try.f111.ntmps lin_made_1_1.k (Try.f111.body.getD .skip) = true := by kernel_rfl
theorem lin_made_1_1.mr : mRes pg Try.f111.results.toList lin_made_1_1.res = true := by kernel_rfl
theorem lin_made_1_1.of {args : List V} {r : V} (hn : args.length = 3) (hW : W pg lin_made_1_1.k (done lin_made_1_1.res r) (start args)) : Ret pg n_lin_made_1_1 args r :=
  Ret_of (fn := Try.f111) Try.func111 rfl (by kernel_rfl) lin_made_1_1.m lin_made_1_1.mr (by rw [hn]; exact of_decide_eq_true (by kernel_rfl)) hW
def lin_Mat_Det.k : K :=
  (.seq (.keep [0, 2] (.ops false [⟨(some 2), none, .alloc 2 (.agg [(.bool false), (.sl [])])⟩]))
  (.seq (.keep [0, 2, 3, 4, 5] (.ops false [⟨(some 7), none, .mov (.t 0)⟩,
      ⟨(some 8), none, .mov (.t 0)⟩,
      ⟨(some 9), none, .len false (.t 8)⟩,
      ⟨(some 10), none, .callG n_lin_zeros [(.t 9)]⟩,
      ⟨(some 11), none, .callG n_lin_Mat_swept [(.t 7), (.t 10)]⟩,
      ⟨(some 6), none, .mov (.t 11)⟩,
      ⟨(some 12), none, .ext (.t 6) 0⟩,
      ⟨(some 13), none, .ext (.t 6) 1⟩,
      ⟨(some 14), none, .ext (.t 6) 2⟩,
      ⟨(some 3), none, .mov (.t 12)⟩,
      ⟨(some 4), none, .mov (.t 13)⟩,
      ⟨(some 5), none, .mov (.t 14)⟩]))
   (.seq (.block 0 (.seq (.keep [0, 2, 3, 4, 15] (.ops false [⟨(some 16), none, .mov (.t 5)⟩,
         ⟨(some 17), none, .un .not (.t 16)⟩,
         ⟨(some 15), none, .mov (.t 17)⟩]))
      (.cond (.t 15) (.seq (.keep [2] (.ops false [⟨(some 18), none, .build [(.bool false), (.sl [])] []⟩,
           ⟨none, none, .store 2 (.t 2) (.t 18)⟩]))
        .ret)
       (.seq (.keep [0, 2, 3, 4, 19] (.ops false [⟨(some 20), none, .mov (.t 0)⟩,
           ⟨(some 21), none, .len false (.t 20)⟩,
           ⟨(some 22), none, .bin .eql (.t 21) (.c (.int .i64 0))⟩,
           ⟨(some 19), none, .mov (.t 22)⟩]))
        (.cond (.t 19) (.seq (.keep [2] (.ops false [⟨(some 23), none, .callG n_long_Of [(.c (.int .i64 1))]⟩,
             ⟨none, none, .store 2 (.t 2) (.t 23)⟩]))
          .ret)
         .skip)))))
    (.seq (.keep [2] (.ops false [⟨(some 24), none, .mov (.t 3)⟩,
        ⟨(some 25), none, .mov (.t 0)⟩,
        ⟨(some 26), none, .len false (.t 25)⟩,
        ⟨(some 27), none, .bin .sub (.t 26) (.c (.int .i64 1))⟩,
        ⟨(some 28), none, .idxA 1 (.t 24) (.t 27)⟩,
        ⟨(some 29), none, .load 1 false (.t 28)⟩,
        ⟨(some 30), none, .mov (.t 0)⟩,
        ⟨(some 31), none, .len false (.t 30)⟩,
        ⟨(some 32), none, .bin .sub (.t 31) (.c (.int .i64 1))⟩,
        ⟨(some 33), none, .idxA 2 (.t 29) (.t 32)⟩,
        ⟨(some 34), none, .load 2 true (.t 33)⟩,
        ⟨(some 35), none, .mov (.t 4)⟩,
        ⟨(some 36), none, .callG n_lin_turned [(.t 34), (.t 35)]⟩,
        ⟨none, none, .store 2 (.t 2) (.t 36)⟩]))
     .ret))))
def lin_Mat_Det.res : List RX := [(2, some (2, true))]
theorem lin_Mat_Det.m : mK pg Try.f25.ntmps lin_Mat_Det.k (Try.f25.body.getD .skip) = true := by kernel_rfl
theorem lin_Mat_Det.mr : mRes pg Try.f25.results.toList lin_Mat_Det.res = true := by kernel_rfl
theorem lin_Mat_Det.of {args : List V} {r : V} (hn : args.length = 1) (hW : W pg lin_Mat_Det.k (done lin_Mat_Det.res r) (start args)) : Ret pg n_lin_Mat_Det args r :=
  Ret_of (fn := Try.f25) Try.func25 rfl (by kernel_rfl) lin_Mat_Det.m lin_Mat_Det.mr (by rw [hn]; exact of_decide_eq_true (by kernel_rfl)) hW
def lin_Mat_Solve.k : K :=
  (.seq (.keep [1, 2, 5] (.ops false [⟨(some 2), none, .boxP (.t 0)⟩,
     ⟨(some 4), none, .mov (.c .nil)⟩,
     ⟨(some 5), none, .alloc 2 (.agg [(.bool false), (.sl [])])⟩,
     ⟨(some 6), none, .mov (.c (.int .i64 0))⟩]))
  (.seq (.seq (.keep [1, 2, 5, 14] (.ops false [⟨(some 10), none, .mov (.t 1)⟩,
       ⟨(some 11), none, .len false (.t 10)⟩,
       ⟨(some 12), none, .load 1 false (.t 2)⟩,
       ⟨(some 13), none, .len false (.t 12)⟩,
       ⟨(some 14), none, .bin .neq (.t 11) (.t 13)⟩]))
    (.cond (.t 14) (.seq (.keep [4, 5, 6] (.ops false [⟨(some 15), none, .build [(.bool false), (.sl [])] []⟩,
         ⟨(some 4), none, .mov (.c .nil)⟩,
         ⟨none, none, .store 2 (.t 5) (.t 15)⟩,
         ⟨(some 6), none, .mov (.c (.int .i64 1))⟩]))
      .ret)
     .skip))
   (.seq (.keep [2, 5, 7, 8, 9] (.ops false [⟨(some 17), none, .load 1 false (.t 2)⟩,
       ⟨(some 18), none, .mov (.t 1)⟩,
       ⟨(some 19), none, .callG n_lin_Mat_swept [(.t 17), (.t 18)]⟩,
       ⟨(some 16), none, .mov (.t 19)⟩,
       ⟨(some 20), none, .ext (.t 16) 0⟩,
       ⟨(some 21), none, .ext (.t 16) 1⟩,
       ⟨(some 22), none, .ext (.t 16) 2⟩,
       ⟨(some 7), none, .alloc 1 .nil⟩,
       ⟨(some 8), none, .alloc 1 (.bool false)⟩,
       ⟨none, none, .store 1 (.t 7) (.t 20)⟩,
       ⟨none, none, .store 1 (.t 8) (.t 21)⟩,
       ⟨(some 9), none, .mov (.t 22)⟩]))
    (.seq (.seq (.keep [2, 5, 7, 8, 24] (.ops false [⟨(some 23), none, .mov (.t 9)⟩,
         ⟨(some 24), none, .un .not (.t 23)⟩]))
      (.cond (.t 24) (.seq (.keep [4, 5, 6] (.ops false [⟨(some 25), none, .build [(.bool false), (.sl [])] []⟩,
           ⟨(some 4), none, .mov (.c .nil)⟩,
           ⟨none, none, .store 2 (.t 5) (.t 25)⟩,
           ⟨(some 6), none, .mov (.c (.int .i64 11))⟩]))
        .ret)
       .skip))
     (.seq (.gh (.keep [4, 5, 6] (.ops true [⟨(some 26), none, .load 1 false (.t 2)⟩,
         ⟨(some 27), none, .len false (.t 26)⟩,
         ⟨(some 28), none, .mkFn n_lin_Mat_Solve_1 [(.t 7), (.t 2), (.t 8)]⟩,
         ⟨(some 29), none, .call n_lin_list_long_Int [(.t 27), (.t 28)]⟩,
         ⟨(some 30), none, .load 1 false (.t 2)⟩,
         ⟨(some 31), none, .call n_lin_Mat_Det [(.t 30)]⟩,
         ⟨(some 4), none, .mov (.t 29)⟩,
         ⟨none, none, .store 2 (.t 5) (.t 31)⟩,
         ⟨(some 6), none, .mov (.c (.int .i64 0))⟩])))
      .ret)))))
def lin_Mat_Solve.res : List RX := [(4, none), (5, some (2, true)), (6, none)]
theorem lin_Mat_Solve.m : mK pg Try.f27.ntmps lin_Mat_Solve.k (Try.f27.body.getD .skip) = true := by kernel_rfl
theorem lin_Mat_Solve.mr : mRes pg Try.f27.results.toList lin_Mat_Solve.res = true := by kernel_rfl
theorem lin_Mat_Solve.of {args : List V} {r : V} (hn : args.length = 2) (hW : W pg lin_Mat_Solve.k (done lin_Mat_Solve.res r) (start args)) : Ret pg n_lin_Mat_Solve args r :=
  Ret_of (fn := Try.f27) Try.func27 rfl (by kernel_rfl) lin_Mat_Solve.m lin_Mat_Solve.mr (by rw [hn]; exact of_decide_eq_true (by kernel_rfl)) hW
def lin_Mat_Apply.k : K :=
  (.seq (.keep [2, 3] (.ops false [⟨(some 2), none, .boxP (.t 0)⟩,
     ⟨(some 3), none, .boxP (.t 1)⟩,
     ⟨(some 4), none, .mov (.c .nil)⟩]))
  (.seq (.keep [4] (.ops false [⟨(some 5), none, .load 1 false (.t 2)⟩,
      ⟨(some 6), none, .len false (.t 5)⟩,
      ⟨(some 7), none, .mkFn n_lin_Mat_Apply_1 [(.t 2), (.t 3)]⟩,
      ⟨(some 8), none, .callG n_lin_list_long_Int [(.t 6), (.t 7)]⟩,
      ⟨(some 4), none, .mov (.t 8)⟩]))
   .ret))
def lin_Mat_Apply.res : List RX := [(4, none)]
theorem lin_Mat_Apply.m : mK pg Try.f35.ntmps lin_Mat_Apply.k (Try.f35.body.getD .skip) = true := by kernel_rfl
theorem lin_Mat_Apply.mr : mRes pg Try.f35.results.toList lin_Mat_Apply.res = true := by kernel_rfl
theorem lin_Mat_Apply.of {args : List V} {r : V} (hn : args.length = 2) (hW : W pg lin_Mat_Apply.k (done lin_Mat_Apply.res r) (start args)) : Ret pg n_lin_Mat_Apply args r :=
  Ret_of (fn := Try.f35) Try.func35 rfl (by kernel_rfl) lin_Mat_Apply.m lin_Mat_Apply.mr (by rw [hn]; exact of_decide_eq_true (by kernel_rfl)) hW
def lin_Mat_Mul.k : K :=
  (.seq (.keep [2, 3] (.ops false [⟨(some 2), none, .boxP (.t 0)⟩,
     ⟨(some 3), none, .boxP (.t 1)⟩,
     ⟨(some 4), none, .mov (.c .nil)⟩]))
  (.seq (.keep [4] (.ops false [⟨(some 5), none, .load 1 false (.t 2)⟩,
      ⟨(some 6), none, .len false (.t 5)⟩,
      ⟨(some 7), none, .mkFn n_lin_Mat_Mul_1 [(.t 2), (.t 3)]⟩,
      ⟨(some 8), none, .callG n_lin_made [(.t 6), (.t 7)]⟩,
      ⟨(some 4), none, .mov (.t 8)⟩]))
   .ret))
def lin_Mat_Mul.res : List RX := [(4, none)]
theorem lin_Mat_Mul.m : mK pg Try.f39.ntmps lin_Mat_Mul.k (Try.f39.body.getD .skip) = true := by kernel_rfl
theorem lin_Mat_Mul.mr : mRes pg Try.f39.results.toList lin_Mat_Mul.res = true := by kernel_rfl
theorem lin_Mat_Mul.of {args : List V} {r : V} (hn : args.length = 2) (hW : W pg lin_Mat_Mul.k (done lin_Mat_Mul.res r) (start args)) : Ret pg n_lin_Mat_Mul args r :=
  Ret_of (fn := Try.f39) Try.func39 rfl (by kernel_rfl) lin_Mat_Mul.m lin_Mat_Mul.mr (by rw [hn]; exact of_decide_eq_true (by kernel_rfl)) hW
def lin_Mat_Turned.k : K :=
  (.seq (.keep [1] (.ops false [⟨(some 1), none, .boxP (.t 0)⟩,
     ⟨(some 2), none, .mov (.c .nil)⟩]))
  (.seq (.keep [2] (.ops false [⟨(some 3), none, .load 1 false (.t 1)⟩,
      ⟨(some 4), none, .len false (.t 3)⟩,
      ⟨(some 5), none, .mkFn n_lin_Mat_Turned_1 [(.t 1)]⟩,
      ⟨(some 6), none, .callG n_lin_made [(.t 4), (.t 5)]⟩,
      ⟨(some 2), none, .mov (.t 6)⟩]))
   .ret))
def lin_Mat_Turned.res : List RX := [(2, none)]
theorem lin_Mat_Turned.m : mK pg Try.f40.ntmps lin_Mat_Turned.k (Try.f40.body.getD .skip) = true := by kernel_rfl
theorem lin_Mat_Turned.mr : mRes pg Try.f40.results.toList lin_Mat_Turned.res = true := by kernel_rfl
theorem lin_Mat_Turned.of {args : List V} {r : V} (hn : args.length = 1) (hW : W pg lin_Mat_Turned.k (done lin_Mat_Turned.res r) (start args)) : Ret pg n_lin_Mat_Turned args r :=
  Ret_of (fn := Try.f40) Try.func40 rfl (by kernel_rfl) lin_Mat_Turned.m lin_Mat_Turned.mr (by rw [hn]; exact of_decide_eq_true (by kernel_rfl)) hW
def lin_Mat_Quad.k : K :=
  (.seq (.keep [0, 3, 4] (.ops false [⟨(some 3), none, .boxP (.t 1)⟩,
     ⟨(some 4), none, .alloc 2 (.agg [(.bool false), (.sl [])])⟩]))
  (.seq (.keep [0, 3, 4, 5] (.ops false [⟨(some 6), none, .mov (.t 0)⟩,
      ⟨(some 7), none, .load 1 false (.t 3)⟩,
      ⟨(some 8), none, .callG n_lin_Mat_Apply [(.t 6), (.t 7)]⟩,
      ⟨(some 5), none, .alloc 1 .nil⟩,
      ⟨none, none, .store 1 (.t 5) (.t 8)⟩]))
   (.seq (.keep [4] (.ops false [⟨(some 9), none, .mov (.t 0)⟩,
       ⟨(some 10), none, .len false (.t 9)⟩,
       ⟨(some 11), none, .mkFn n_lin_Mat_Quad_1 [(.t 3), (.t 5)]⟩,
       ⟨(some 12), none, .callG n_lin_sum [(.t 10), (.t 11)]⟩,
       ⟨none, none, .store 2 (.t 4) (.t 12)⟩]))
    .ret)))
def lin_Mat_Quad.res : List RX := [(4, some (2, true))]
theorem lin_Mat_Quad.m : mK pg Try.f41.ntmps lin_Mat_Quad.k (Try.f41.body.getD .skip) = true := by kernel_rfl
theorem lin_Mat_Quad.mr : mRes pg Try.f41.results.toList lin_Mat_Quad.res = true := by kernel_rfl
theorem lin_Mat_Quad.of {args : List V} {r : V} (hn : args.length = 2) (hW : W pg lin_Mat_Quad.k (done lin_Mat_Quad.res r) (start args)) : Ret pg n_lin_Mat_Quad args r :=
  Ret_of (fn := Try.f41) Try.func41 rfl (by kernel_rfl) lin_Mat_Quad.m lin_Mat_Quad.mr (by rw [hn]; exact of_decide_eq_true (by kernel_rfl)) hW
def lin_Mat_Definite.k : K :=
  (.seq (.keep [1] (.ops false [⟨(some 1), none, .boxP (.t 0)⟩,
     ⟨(some 2), none, .mov (.c (.bool false))⟩]))
  (.seq (.seq (.keep [1, 7, 8] (.ops false [⟨(some 6), none, .load 1 false (.t 1)⟩,
       ⟨(some 7), none, .len false (.t 6)⟩,
       ⟨(some 8), none, .mov (.c (.int .i64 0))⟩]))
    (.block 0 (.loop (.seq (.keep [1, 7, 8, 9] (.ops false [⟨(some 9), none, .bin .lss (.t 8) (.t 7)⟩]))
       (.seq (.cond (.t 9) .skip
         (.exit 0))
        (.seq (.block 1 (.seq (.keep [1, 3, 7, 8] (.ops false [⟨(some 10), none, .mov (.t 8)⟩,
              ⟨(some 3), none, .mov (.t 10)⟩]))
           (.seq (.seq (.keep [1, 3, 7, 8, 11, 12] (.ops false [⟨(some 11), none, .mov (.t 3)⟩,
                ⟨(some 12), none, .mov (.c (.int .i64 0))⟩]))
             (.block 2 (.loop (.seq (.keep [1, 3, 7, 8, 11, 12, 13] (.ops false [⟨(some 13), none, .bin .lss (.t 12) (.t 11)⟩]))
                (.seq (.cond (.t 13) .skip
                  (.exit 2))
                 (.seq (.block 3 (.seq (.keep [1, 3, 4, 7, 8, 11, 12] (.ops false [⟨(some 14), none, .mov (.t 12)⟩,
                       ⟨(some 4), none, .mov (.t 14)⟩]))
                    (.seq (.keep [1, 3, 7, 8, 11, 12, 30] (.ops true [⟨(some 15), none, .load 1 false (.t 1)⟩,
                        ⟨(some 16), none, .mov (.t 3)⟩,
                        ⟨(some 17), none, .idxA 1 (.t 15) (.t 16)⟩,
                        ⟨(some 18), none, .load 1 false (.t 17)⟩,
                        ⟨(some 19), none, .mov (.t 4)⟩,
                        ⟨(some 20), none, .idxA 2 (.t 18) (.t 19)⟩,
                        ⟨(some 21), none, .load 2 true (.t 20)⟩,
                        ⟨(some 22), none, .load 1 false (.t 1)⟩,
                        ⟨(some 23), none, .mov (.t 4)⟩,
                        ⟨(some 24), none, .idxA 1 (.t 22) (.t 23)⟩,
                        ⟨(some 25), none, .load 1 false (.t 24)⟩,
                        ⟨(some 26), none, .mov (.t 3)⟩,
                        ⟨(some 27), none, .idxA 2 (.t 25) (.t 26)⟩,
                        ⟨(some 28), none, .load 2 true (.t 27)⟩,
                        ⟨(some 29), none, .call n_long_Int_Cmp [(.t 21), (.t 28)]⟩,
                        ⟨(some 30), none, .bin .neq (.t 29) (.c (.int .i64 0))⟩]))
                     (.cond (.t 30) (.seq (.keep [2] (.ops false [⟨(some 2), none, .mov (.c (.bool false))⟩]))
                       .ret)
                      .skip))))
                  (.keep [1, 3, 7, 8, 11, 12] (.ops false [⟨(some 31), none, .bin .add (.t 12) (.c (.int .i64 1))⟩,
                     ⟨(some 12), none, .mov (.t 31)⟩]))))))))
            (.seq (.keep [1, 5, 7, 8] (.ops false [⟨(some 32), none, .mov (.t 3)⟩,
                ⟨(some 33), none, .bin .add (.t 32) (.c (.int .i64 1))⟩,
                ⟨(some 34), none, .mkFn n_lin_Mat_Definite_1 [(.t 1)]⟩,
                ⟨(some 35), none, .callG n_lin_made [(.t 33), (.t 34)]⟩,
                ⟨(some 5), none, .mov (.t 35)⟩]))
             (.seq (.keep [1, 7, 8, 39] (.ops false [⟨(some 36), none, .mov (.t 5)⟩,
                 ⟨(some 37), none, .callG n_lin_Mat_Det [(.t 36)]⟩,
                 ⟨(some 38), none, .callG n_long_Int_Sign [(.t 37)]⟩,
                 ⟨(some 39), none, .bin .leq (.t 38) (.c (.int .i64 0))⟩]))
              (.cond (.t 39) (.seq (.keep [2] (.ops false [⟨(some 2), none, .mov (.c (.bool false))⟩]))
                .ret)
               .skip))))))
         (.keep [1, 7, 8] (.ops false [⟨(some 40), none, .bin .add (.t 8) (.c (.int .i64 1))⟩,
            ⟨(some 8), none, .mov (.t 40)⟩]))))))))
   (.seq (.keep [2] (.ops false [⟨(some 2), none, .mov (.c (.bool true))⟩]))
    .ret)))
def lin_Mat_Definite.res : List RX := [(2, none)]
theorem lin_Mat_Definite.m : mK pg Try.f42.ntmps lin_Mat_Definite.k (Try.f42.body.getD .skip) = true := by kernel_rfl
theorem lin_Mat_Definite.mr : mRes pg Try.f42.results.toList lin_Mat_Definite.res = true := by kernel_rfl
theorem lin_Mat_Definite.of {args : List V} {r : V} (hn : args.length = 1) (hW : W pg lin_Mat_Definite.k (done lin_Mat_Definite.res r) (start args)) : Ret pg n_lin_Mat_Definite args r :=
  Ret_of (fn := Try.f42) Try.func42 rfl (by kernel_rfl) lin_Mat_Definite.m lin_Mat_Definite.mr (by rw [hn]; exact of_decide_eq_true (by kernel_rfl)) hW
def lin_Mat_swept.k : K :=
  (.seq (.keep [2, 3, 5] (.ops false [⟨(some 2), none, .boxP (.t 0)⟩,
     ⟨(some 3), none, .boxP (.t 1)⟩,
     ⟨(some 4), none, .mov (.c .nil)⟩,
     ⟨(some 5), none, .mov (.c (.bool false))⟩,
     ⟨(some 6), none, .mov (.c (.bool false))⟩]))
  (.seq (.keep [2, 3, 5, 7] (.ops false [⟨(some 15), none, .load 1 false (.t 2)⟩,
      ⟨(some 16), none, .len false (.t 15)⟩,
      ⟨(some 7), none, .alloc 1 (.int .i64 0)⟩,
      ⟨none, none, .store 1 (.t 7) (.t 16)⟩]))
   (.seq (.keep [4, 5, 7] (.ops false [⟨(some 17), none, .load 1 false (.t 7)⟩,
       ⟨(some 18), none, .mkFn n_lin_Mat_swept_1 [(.t 7), (.t 2), (.t 3)]⟩,
       ⟨(some 19), none, .callG n_lin_list_Llong_Int [(.t 17), (.t 18)]⟩,
       ⟨(some 4), none, .mov (.t 19)⟩]))
    (.seq (.keep [4, 5, 7, 8] (.ops false [⟨(some 20), none, .callG n_long_Of [(.c (.int .i64 1))]⟩,
        ⟨(some 8), none, .alloc 2 (.agg [(.bool false), (.sl [])])⟩,
        ⟨none, none, .store 2 (.t 8) (.t 20)⟩]))
     (.seq (.seq (.keep [4, 5, 7, 8, 21, 22] (.ops false [⟨(some 21), none, .load 1 false (.t 7)⟩,
          ⟨(some 22), none, .mov (.c (.int .i64 0))⟩]))
       (.block 0 (.loop (.seq (.keep [4, 5, 7, 8, 21, 22, 23] (.ops false [⟨(some 23), none, .bin .lss (.t 22) (.t 21)⟩]))
          (.seq (.cond (.t 23) .skip
            (.exit 0))
           (.seq (.block 1 (.seq (.keep [4, 5, 7, 8, 9, 21, 22] (.ops false [⟨(some 24), none, .mov (.t 22)⟩,
                 ⟨(some 9), none, .mov (.t 24)⟩]))
              (.seq (.keep [4, 5, 7, 8, 9, 10, 21, 22] (.ops false [⟨(some 25), none, .mov (.t 9)⟩,
                  ⟨(some 10), none, .mov (.t 25)⟩]))
               (.seq (.block 2 (.loop (.seq (.seq (.keep [4, 5, 7, 8, 9, 10, 21, 22, 39] (.ops false [⟨(some 26), none, .mov (.t 10)⟩,
                       ⟨(some 27), none, .load 1 false (.t 7)⟩,
                       ⟨(some 28), none, .bin .lss (.t 26) (.t 27)⟩,
                       ⟨(some 29), none, .mov (.t 28)⟩,
                       ⟨(some 30), (some (29, true)), .mov (.t 4)⟩,
                       ⟨(some 31), (some (29, true)), .mov (.t 10)⟩,
                       ⟨(some 32), (some (29, true)), .idxA 1 (.t 30) (.t 31)⟩,
                       ⟨(some 33), (some (29, true)), .load 1 false (.t 32)⟩,
                       ⟨(some 34), (some (29, true)), .mov (.t 9)⟩,
                       ⟨(some 35), (some (29, true)), .idxA 2 (.t 33) (.t 34)⟩,
                       ⟨(some 36), (some (29, true)), .load 2 true (.t 35)⟩,
                       ⟨(some 37), (some (29, true)), .callG n_long_Int_Sign [(.t 36)]⟩,
                       ⟨(some 38), (some (29, true)), .bin .eql (.t 37) (.c (.int .i64 0))⟩,
                       ⟨(some 39), none, .pick (.t 29) (.t 38) (.c (.bool false))⟩]))
                    (.cond (.t 39) .skip
                     (.exit 2)))
                   (.keep [4, 5, 7, 8, 9, 10, 21, 22] (.block 3 (.keep [4, 5, 7, 8, 9, 10, 21, 22] (.ops false [⟨(some 40), none, .mov (.t 10)⟩,
                        ⟨(some 41), none, .bin .add (.t 40) (.c (.int .i64 1))⟩,
                        ⟨(some 10), none, .mov (.t 41)⟩])))))))
                (.seq (.seq (.keep [4, 5, 7, 8, 9, 10, 21, 22, 44] (.ops false [⟨(some 42), none, .mov (.t 10)⟩,
                     ⟨(some 43), none, .load 1 false (.t 7)⟩,
                     ⟨(some 44), none, .bin .eql (.t 42) (.t 43)⟩]))
                  (.cond (.t 44) (.seq (.keep [4, 5, 6] (.ops false [⟨(some 4), none, .mov (.c .nil)⟩,
                       ⟨(some 5), none, .mov (.c (.bool false))⟩,
                       ⟨(some 6), none, .mov (.c (.bool false))⟩]))
                    .ret)
                   .skip))
                 (.seq (.seq (.keep [4, 5, 7, 8, 9, 10, 21, 22, 47] (.ops false [⟨(some 45), none, .mov (.t 10)⟩,
                      ⟨(some 46), none, .mov (.t 9)⟩,
                      ⟨(some 47), none, .bin .neq (.t 45) (.t 46)⟩]))
                   (.cond (.t 47) (.keep [4, 5, 7, 8, 9, 21, 22] (.ops true [⟨(some 48), none, .mov (.t 4)⟩,
                       ⟨(some 49), none, .mov (.t 10)⟩,
                       ⟨(some 50), none, .mov (.t 4)⟩,
                       ⟨(some 51), none, .mov (.t 9)⟩,
                       ⟨(some 52), none, .mov (.t 4)⟩,
                       ⟨(some 53), none, .mov (.t 9)⟩,
                       ⟨(some 54), none, .idxA 1 (.t 52) (.t 53)⟩,
                       ⟨(some 55), none, .load 1 false (.t 54)⟩,
                       ⟨(some 56), none, .mov (.t 4)⟩,
                       ⟨(some 57), none, .mov (.t 10)⟩,
                       ⟨(some 58), none, .idxA 1 (.t 56) (.t 57)⟩,
                       ⟨(some 59), none, .load 1 false (.t 58)⟩,
                       ⟨(some 60), none, .mov (.t 5)⟩,
                       ⟨(some 61), none, .un .not (.t 60)⟩,
                       ⟨(some 62), none, .idxA 1 (.t 48) (.t 49)⟩,
                       ⟨none, none, .store 1 (.t 62) (.t 55)⟩,
                       ⟨(some 63), none, .idxA 1 (.t 50) (.t 51)⟩,
                       ⟨none, none, .store 1 (.t 63) (.t 59)⟩,
                       ⟨(some 5), none, .mov (.t 61)⟩]))
                    .skip))
                  (.seq (.keep [4, 5, 7, 8, 9, 11, 21, 22] (.ops false [⟨(some 64), none, .mov (.t 4)⟩,
                      ⟨(some 65), none, .mov (.t 9)⟩,
                      ⟨(some 66), none, .idxA 1 (.t 64) (.t 65)⟩,
                      ⟨(some 67), none, .load 1 false (.t 66)⟩,
                      ⟨(some 68), none, .mov (.t 9)⟩,
                      ⟨(some 69), none, .idxA 2 (.t 67) (.t 68)⟩,
                      ⟨(some 70), none, .load 2 true (.t 69)⟩,
                      ⟨(some 11), none, .alloc 2 (.agg [(.bool false), (.sl [])])⟩,
                      ⟨none, none, .store 2 (.t 11) (.t 70)⟩]))
                   (.seq (.seq (.keep [4, 5, 7, 8, 9, 11, 21, 22, 71, 72] (.ops false [⟨(some 71), none, .load 1 false (.t 7)⟩,
                        ⟨(some 72), none, .mov (.c (.int .i64 0))⟩]))
                     (.block 4 (.loop (.seq (.keep [4, 5, 7, 8, 9, 11, 21, 22, 71, 72, 73] (.ops false [⟨(some 73), none, .bin .lss (.t 72) (.t 71)⟩]))
                        (.seq (.cond (.t 73) .skip
                          (.exit 4))
                         (.seq (.block 5 (.seq (.keep [4, 5, 7, 8, 9, 11, 12, 21, 22, 71, 72] (.ops false [⟨(some 74), none, .mov (.t 72)⟩,
                               ⟨(some 12), none, .mov (.t 74)⟩]))
                            (.seq (.seq (.keep [4, 5, 7, 8, 9, 11, 12, 21, 22, 71, 72, 77] (.ops false [⟨(some 75), none, .mov (.t 12)⟩,
                                 ⟨(some 76), none, .mov (.t 9)⟩,
                                 ⟨(some 77), none, .bin .eql (.t 75) (.t 76)⟩]))
                              (.cond (.t 77) (.exit 5)
                               .skip))
                             (.seq (.keep [4, 5, 7, 8, 9, 11, 12, 13, 21, 22, 71, 72] (.ops false [⟨(some 78), none, .mov (.t 4)⟩,
                                 ⟨(some 79), none, .mov (.t 12)⟩,
                                 ⟨(some 80), none, .idxA 1 (.t 78) (.t 79)⟩,
                                 ⟨(some 81), none, .load 1 false (.t 80)⟩,
                                 ⟨(some 82), none, .mov (.t 9)⟩,
                                 ⟨(some 83), none, .idxA 2 (.t 81) (.t 82)⟩,
                                 ⟨(some 84), none, .load 2 true (.t 83)⟩,
                                 ⟨(some 13), none, .alloc 2 (.agg [(.bool false), (.sl [])])⟩,
                                 ⟨none, none, .store 2 (.t 13) (.t 84)⟩]))
                              (.seq (.keep [4, 5, 7, 8, 9, 11, 12, 13, 21, 22, 71, 72, 89, 90] (.ops false [⟨(some 85), none, .mov (.t 4)⟩,
                                  ⟨(some 86), none, .mov (.t 12)⟩,
                                  ⟨(some 87), none, .idxA 1 (.t 85) (.t 86)⟩,
                                  ⟨(some 88), none, .load 1 false (.t 87)⟩,
                                  ⟨(some 89), none, .len false (.t 88)⟩,
                                  ⟨(some 90), none, .mov (.c (.int .i64 0))⟩]))
                               (.block 6 (.loop (.seq (.keep [4, 5, 7, 8, 9, 11, 12, 13, 21, 22, 71, 72, 89, 90, 91] (.ops false [⟨(some 91), none, .bin .lss (.t 90) (.t 89)⟩]))
                                  (.seq (.cond (.t 91) .skip
                                    (.exit 6))
                                   (.seq (.block 7 (.seq (.keep [4, 5, 7, 8, 9, 11, 12, 13, 14, 21, 22, 71, 72, 89, 90] (.ops false [⟨(some 92), none, .mov (.t 90)⟩,
                                         ⟨(some 14), none, .mov (.t 92)⟩]))
                                      (.keep [4, 5, 7, 8, 9, 11, 12, 13, 21, 22, 71, 72, 89, 90] (.ops true [⟨(some 94), none, .mov (.t 4)⟩,
                                         ⟨(some 95), none, .mov (.t 12)⟩,
                                         ⟨(some 96), none, .idxA 1 (.t 94) (.t 95)⟩,
                                         ⟨(some 97), none, .load 1 false (.t 96)⟩,
                                         ⟨(some 98), none, .mov (.t 14)⟩,
                                         ⟨(some 99), none, .load 2 true (.t 11)⟩,
                                         ⟨(some 100), none, .mov (.t 4)⟩,
                                         ⟨(some 101), none, .mov (.t 12)⟩,
                                         ⟨(some 102), none, .idxA 1 (.t 100) (.t 101)⟩,
                                         ⟨(some 103), none, .load 1 false (.t 102)⟩,
                                         ⟨(some 104), none, .mov (.t 14)⟩,
                                         ⟨(some 105), none, .idxA 2 (.t 103) (.t 104)⟩,
                                         ⟨(some 106), none, .load 2 true (.t 105)⟩,
                                         ⟨(some 107), none, .call n_long_Int_Mul [(.t 99), (.t 106)]⟩,
                                         ⟨(some 108), none, .load 2 true (.t 13)⟩,
                                         ⟨(some 109), none, .mov (.t 4)⟩,
                                         ⟨(some 110), none, .mov (.t 9)⟩,
                                         ⟨(some 111), none, .idxA 1 (.t 109) (.t 110)⟩,
                                         ⟨(some 112), none, .load 1 false (.t 111)⟩,
                                         ⟨(some 113), none, .mov (.t 14)⟩,
                                         ⟨(some 114), none, .idxA 2 (.t 112) (.t 113)⟩,
                                         ⟨(some 115), none, .load 2 true (.t 114)⟩,
                                         ⟨(some 116), none, .call n_long_Int_Mul [(.t 108), (.t 115)]⟩,
                                         ⟨(some 117), none, .call n_long_Int_Sub [(.t 107), (.t 116)]⟩,
                                         ⟨(some 118), none, .load 2 true (.t 8)⟩,
                                         ⟨(some 119), none, .call n_long_Int_Quo [(.t 117), (.t 118)]⟩,
                                         ⟨(some 93), none, .mov (.t 119)⟩,
                                         ⟨(some 120), none, .ext (.t 93) 0⟩,
                                         ⟨(some 121), none, .ext (.t 93) 1⟩,
                                         ⟨(some 122), none, .ext (.t 93) 2⟩,
                                         ⟨(some 123), none, .idxA 2 (.t 97) (.t 98)⟩,
                                         ⟨none, none, .store 2 (.t 123) (.t 120)⟩]))))
                                    (.keep [4, 5, 7, 8, 9, 11, 12, 13, 21, 22, 71, 72, 89, 90] (.ops false [⟨(some 124), none, .bin .add (.t 90) (.c (.int .i64 1))⟩,
                                       ⟨(some 90), none, .mov (.t 124)⟩]))))))))))))
                          (.keep [4, 5, 7, 8, 9, 11, 21, 22, 71, 72] (.ops false [⟨(some 125), none, .bin .add (.t 72) (.c (.int .i64 1))⟩,
                             ⟨(some 72), none, .mov (.t 125)⟩]))))))))
                    (.keep [4, 5, 7, 8, 21, 22] (.ops false [⟨(some 126), none, .load 2 true (.t 11)⟩,
                       ⟨none, none, .store 2 (.t 8) (.t 126)⟩]))))))))))
            (.keep [4, 5, 7, 8, 21, 22] (.ops false [⟨(some 127), none, .bin .add (.t 22) (.c (.int .i64 1))⟩,
               ⟨(some 22), none, .mov (.t 127)⟩]))))))))
      (.seq (.keep [4, 5, 6] (.ops false [⟨(some 128), none, .mov (.t 4)⟩,
          ⟨(some 129), none, .mov (.t 5)⟩,
          ⟨(some 4), none, .mov (.t 128)⟩,
          ⟨(some 5), none, .mov (.t 129)⟩,
          ⟨(some 6), none, .mov (.c (.bool true))⟩]))
       .ret))))))
def lin_Mat_swept.res : List RX := [(4, none), (5, none), (6, none)]
theorem lin_Mat_swept.m : mK pg Try.f74.ntmps lin_Mat_swept.k (Try.f74.body.getD .skip) = true := by kernel_rfl
theorem lin_Mat_swept.mr : mRes pg Try.f74.results.toList lin_Mat_swept.res = true := by kernel_rfl
theorem lin_Mat_swept.of {args : List V} {r : V} (hn : args.length = 2) (hW : W pg lin_Mat_swept.k (done lin_Mat_swept.res r) (start args)) : Ret pg n_lin_Mat_swept args r :=
  Ret_of (fn := Try.f74) Try.func74 rfl (by kernel_rfl) lin_Mat_swept.m lin_Mat_swept.mr (by rw [hn]; exact of_decide_eq_true (by kernel_rfl)) hW
def lin_Mat_Solve_1.k : K :=
  (.seq (.keep [0, 1, 2, 3, 5] (.ops false [⟨(some 5), none, .alloc 2 (.agg [(.bool false), (.sl [])])⟩]))
  (.seq (.keep [5] (.ops true [⟨(some 6), none, .load 1 false (.t 1)⟩,
      ⟨(some 7), none, .mov (.t 0)⟩,
      ⟨(some 8), none, .idxA 1 (.t 6) (.t 7)⟩,
      ⟨(some 9), none, .load 1 false (.t 8)⟩,
      ⟨(some 10), none, .load 1 false (.t 2)⟩,
      ⟨(some 11), none, .len false (.t 10)⟩,
      ⟨(some 12), none, .idxA 2 (.t 9) (.t 11)⟩,
      ⟨(some 13), none, .load 2 true (.t 12)⟩,
      ⟨(some 14), none, .load 1 false (.t 3)⟩,
      ⟨(some 15), none, .call n_lin_turned [(.t 13), (.t 14)]⟩,
      ⟨none, none, .store 2 (.t 5) (.t 15)⟩]))
   .ret))
def lin_Mat_Solve_1.res : List RX := [(5, some (2, true))]
theorem lin_Mat_Solve_1.m : mK pg Try.f81.ntmps lin_Mat_Solve_1.k (Try.f81.body.getD .skip) = true := by kernel_rfl
theorem lin_Mat_Solve_1.mr : mRes pg Try.f81.results.toList lin_Mat_Solve_1.res = true := by kernel_rfl
theorem lin_Mat_Solve_1.of {args : List V} {r : V} (hn : args.length = 4) (hW : W pg lin_Mat_Solve_1.k (done lin_Mat_Solve_1.res r) (start args)) : Ret pg n_lin_Mat_Solve_1 args r :=
  Ret_of (fn := Try.f81) Try.func81 rfl (by kernel_rfl) lin_Mat_Solve_1.m lin_Mat_Solve_1.mr (by rw [hn]; exact of_decide_eq_true (by kernel_rfl)) hW
def lin_Mat_Apply_1.k : K :=
  (.seq (.keep [1, 2, 3, 4] (.ops false [⟨(some 3), none, .boxP (.t 0)⟩,
     ⟨(some 4), none, .alloc 2 (.agg [(.bool false), (.sl [])])⟩]))
  (.seq (.keep [4] (.ops false [⟨(some 5), none, .load 1 false (.t 1)⟩,
      ⟨(some 6), none, .len false (.t 5)⟩,
      ⟨(some 7), none, .mkFn n_lin_Mat_Apply_1_1 [(.t 1), (.t 3), (.t 2)]⟩,
      ⟨(some 8), none, .callG n_lin_sum [(.t 6), (.t 7)]⟩,
      ⟨none, none, .store 2 (.t 4) (.t 8)⟩]))
   .ret))
def lin_Mat_Apply_1.res : List RX := [(4, some (2, true))]
theorem lin_Mat_Apply_1.m : mK pg Try.f86.ntmps lin_Mat_Apply_1.k (Try.f86.body.getD .skip) = true := by kernel_rfl
theorem lin_Mat_Apply_1.mr : mRes pg Try.f86.results.toList lin_Mat_Apply_1.res = true := by kernel_rfl
theorem lin_Mat_Apply_1.of {args : List V} {r : V} (hn : args.length = 3) (hW : W pg lin_Mat_Apply_1.k (done lin_Mat_Apply_1.res r) (start args)) : Ret pg n_lin_Mat_Apply_1 args r :=
  Ret_of (fn := Try.f86) Try.func86 rfl (by kernel_rfl) lin_Mat_Apply_1.m lin_Mat_Apply_1.mr (by rw [hn]; exact of_decide_eq_true (by kernel_rfl)) hW
def lin_Mat_Apply_1_1.k : K :=
  (.seq (.keep [0, 1, 2, 3, 5, 6] (.ops false [⟨(some 5), none, .alloc 2 (.agg [(.bool false), (.sl [])])⟩,
     ⟨(some 6), none, .alloc 2 (.agg [(.bool false), (.sl [])])⟩]))
  (.seq (.keep [5, 6] (.ops true [⟨(some 7), none, .red (.ldP 1 false) [(.t 1)]⟩,
      ⟨(some 8), none, .red (.ldP 1 false) [(.t 2)]⟩,
      ⟨(some 9), none, .red (.ixP 1) [(.t 7), (.t 8)]⟩,
      ⟨(some 10), none, .red (.ldP 1 false) [(.t 9)]⟩,
      ⟨(some 11), none, .mov (.t 0)⟩,
      ⟨(some 12), none, .red (.ixP 2) [(.t 10), (.t 11)]⟩,
      ⟨(some 13), none, .red (.ldP 2 true) [(.t 12)]⟩,
      ⟨(some 14), none, .red (.ldP 1 false) [(.t 3)]⟩,
      ⟨(some 15), none, .mov (.t 0)⟩,
      ⟨(some 16), none, .red (.ixP 2) [(.t 14), (.t 15)]⟩,
      ⟨(some 17), none, .red (.ldP 2 true) [(.t 16)]⟩,
      ⟨none, none, .store 2 (.t 5) (.t 13)⟩,
      ⟨none, none, .store 2 (.t 6) (.t 17)⟩]))
   .ret))
def lin_Mat_Apply_1_1.res : List RX := [(5, some (2, true)), (6, some (2, true))]
theorem lin_Mat_Apply_1_1.m : mK pg Try.f88.ntmps lin_Mat_Apply_1_1.k (Try.f88.body.getD .skip) = true := by kernel_rfl
theorem lin_Mat_Apply_1_1.mr : mRes pg Try.f88.results.toList lin_Mat_Apply_1_1.res = true := by kernel_rfl
theorem lin_Mat_Apply_1_1.of {args : List V} {r : V} (hn : args.length = 4) (hW : W pg lin_Mat_Apply_1_1.k (done lin_Mat_Apply_1_1.res r) (start args)) : Ret pg n_lin_Mat_Apply_1_1 args r :=
  Ret_of (fn := Try.f88) Try.func88 rfl (by kernel_rfl) lin_Mat_Apply_1_1.m lin_Mat_Apply_1_1.mr (by rw [hn]; exact of_decide_eq_true (by kernel_rfl)) hW
def lin_Mat_Mul_1.k : K :=
  (.seq (.keep [2, 3, 4, 5, 6] (.ops false [⟨(some 4), none, .boxP (.t 0)⟩,
     ⟨(some 5), none, .boxP (.t 1)⟩,
     ⟨(some 6), none, .alloc 2 (.agg [(.bool false), (.sl [])])⟩]))
  (.seq (.keep [6] (.ops false [⟨(some 7), none, .load 1 false (.t 2)⟩,
      ⟨(some 8), none, .len false (.t 7)⟩,
      ⟨(some 9), none, .mkFn n_lin_Mat_Mul_1_1 [(.t 2), (.t 4), (.t 3), (.t 5)]⟩,
      ⟨(some 10), none, .callG n_lin_sum [(.t 8), (.t 9)]⟩,
      ⟨none, none, .store 2 (.t 6) (.t 10)⟩]))
   .ret))
def lin_Mat_Mul_1.res : List RX := [(6, some (2, true))]
theorem lin_Mat_Mul_1.m : mK pg Try.f92.ntmps lin_Mat_Mul_1.k (Try.f92.body.getD .skip) = true := by kernel_rfl
theorem lin_Mat_Mul_1.mr : mRes pg Try.f92.results.toList lin_Mat_Mul_1.res = true := by kernel_rfl
theorem lin_Mat_Mul_1.of {args : List V} {r : V} (hn : args.length = 4) (hW : W pg lin_Mat_Mul_1.k (done lin_Mat_Mul_1.res r) (start args)) : Ret pg n_lin_Mat_Mul_1 args r :=
  Ret_of (fn := Try.f92) Try.func92 rfl (by kernel_rfl) lin_Mat_Mul_1.m lin_Mat_Mul_1.mr (by rw [hn]; exact of_decide_eq_true (by kernel_rfl)) hW
def lin_Mat_Mul_1_1.k : K :=
  (.seq (.keep [0, 1, 2, 3, 4, 6, 7] (.ops false [⟨(some 6), none, .alloc 2 (.agg [(.bool false), (.sl [])])⟩,
     ⟨(some 7), none, .alloc 2 (.agg [(.bool false), (.sl [])])⟩]))
  (.seq (.keep [6, 7] (.ops true [⟨(some 8), none, .red (.ldP 1 false) [(.t 1)]⟩,
      ⟨(some 9), none, .red (.ldP 1 false) [(.t 2)]⟩,
      ⟨(some 10), none, .red (.ixP 1) [(.t 8), (.t 9)]⟩,
      ⟨(some 11), none, .red (.ldP 1 false) [(.t 10)]⟩,
      ⟨(some 12), none, .mov (.t 0)⟩,
      ⟨(some 13), none, .red (.ixP 2) [(.t 11), (.t 12)]⟩,
      ⟨(some 14), none, .red (.ldP 2 true) [(.t 13)]⟩,
      ⟨(some 15), none, .red (.ldP 1 false) [(.t 3)]⟩,
      ⟨(some 16), none, .mov (.t 0)⟩,
      ⟨(some 17), none, .red (.ixP 1) [(.t 15), (.t 16)]⟩,
      ⟨(some 18), none, .red (.ldP 1 false) [(.t 17)]⟩,
      ⟨(some 19), none, .red (.ldP 1 false) [(.t 4)]⟩,
      ⟨(some 20), none, .red (.ixP 2) [(.t 18), (.t 19)]⟩,
      ⟨(some 21), none, .red (.ldP 2 true) [(.t 20)]⟩,
      ⟨none, none, .store 2 (.t 6) (.t 14)⟩,
      ⟨none, none, .store 2 (.t 7) (.t 21)⟩]))
   .ret))
def lin_Mat_Mul_1_1.res : List RX := [(6, some (2, true)), (7, some (2, true))]
theorem lin_Mat_Mul_1_1.m : mK pg Try.f93.ntmps lin_Mat_Mul_1_1.k (Try.f93.body.getD .skip) = true := by kernel_rfl
theorem lin_Mat_Mul_1_1.mr : mRes pg Try.f93.results.toList lin_Mat_Mul_1_1.res = true := by kernel_rfl
theorem lin_Mat_Mul_1_1.of {args : List V} {r : V} (hn : args.length = 5) (hW : W pg lin_Mat_Mul_1_1.k (done lin_Mat_Mul_1_1.res r) (start args)) : Ret pg n_lin_Mat_Mul_1_1 args r :=
  Ret_of (fn := Try.f93) Try.func93 rfl (by kernel_rfl) lin_Mat_Mul_1_1.m lin_Mat_Mul_1_1.mr (by rw [hn]; exact of_decide_eq_true (by kernel_rfl)) hW
def lin_Mat_Turned_1.k : K :=
  (.seq (.keep [0, 1, 2, 5] (.ops false [⟨(some 5), none, .alloc 2 (.agg [(.bool false), (.sl [])])⟩]))
  (.seq (.keep [5] (.ops false [⟨(some 6), none, .load 1 false (.t 2)⟩,
      ⟨(some 7), none, .mov (.t 1)⟩,
      ⟨(some 8), none, .idxA 1 (.t 6) (.t 7)⟩,
      ⟨(some 9), none, .load 1 false (.t 8)⟩,
      ⟨(some 10), none, .mov (.t 0)⟩,
      ⟨(some 11), none, .idxA 2 (.t 9) (.t 10)⟩,
      ⟨(some 12), none, .load 2 true (.t 11)⟩,
      ⟨none, none, .store 2 (.t 5) (.t 12)⟩]))
   .ret))
def lin_Mat_Turned_1.res : List RX := [(5, some (2, true))]
theorem lin_Mat_Turned_1.m : mK pg Try.f94.ntmps lin_Mat_Turned_1.k (Try.f94.body.getD .skip) = true := by kernel_rfl
theorem lin_Mat_Turned_1.mr : mRes pg Try.f94.results.toList lin_Mat_Turned_1.res = true := by kernel_rfl
theorem lin_Mat_Turned_1.of {args : List V} {r : V} (hn : args.length = 3) (hW : W pg lin_Mat_Turned_1.k (done lin_Mat_Turned_1.res r) (start args)) : Ret pg n_lin_Mat_Turned_1 args r :=
  Ret_of (fn := Try.f94) Try.func94 rfl (by kernel_rfl) lin_Mat_Turned_1.m lin_Mat_Turned_1.mr (by rw [hn]; exact of_decide_eq_true (by kernel_rfl)) hW
def lin_Mat_Quad_1.k : K :=
  (.seq (.keep [0, 1, 2, 4, 5] (.ops false [⟨(some 4), none, .alloc 2 (.agg [(.bool false), (.sl [])])⟩,
     ⟨(some 5), none, .alloc 2 (.agg [(.bool false), (.sl [])])⟩]))
  (.seq (.keep [4, 5] (.ops true [⟨(some 6), none, .red (.ldP 1 false) [(.t 1)]⟩,
      ⟨(some 7), none, .mov (.t 0)⟩,
      ⟨(some 8), none, .red (.ixP 2) [(.t 6), (.t 7)]⟩,
      ⟨(some 9), none, .red (.ldP 2 true) [(.t 8)]⟩,
      ⟨(some 10), none, .red (.ldP 1 false) [(.t 2)]⟩,
      ⟨(some 11), none, .mov (.t 0)⟩,
      ⟨(some 12), none, .red (.ixP 2) [(.t 10), (.t 11)]⟩,
      ⟨(some 13), none, .red (.ldP 2 true) [(.t 12)]⟩,
      ⟨none, none, .store 2 (.t 4) (.t 9)⟩,
      ⟨none, none, .store 2 (.t 5) (.t 13)⟩]))
   .ret))
def lin_Mat_Quad_1.res : List RX := [(4, some (2, true)), (5, some (2, true))]
theorem lin_Mat_Quad_1.m : mK pg Try.f95.ntmps lin_Mat_Quad_1.k (Try.f95.body.getD .skip) = true := by kernel_rfl
theorem lin_Mat_Quad_1.mr : mRes pg Try.f95.results.toList lin_Mat_Quad_1.res = true := by kernel_rfl
theorem lin_Mat_Quad_1.of {args : List V} {r : V} (hn : args.length = 3) (hW : W pg lin_Mat_Quad_1.k (done lin_Mat_Quad_1.res r) (start args)) : Ret pg n_lin_Mat_Quad_1 args r :=
  Ret_of (fn := Try.f95) Try.func95 rfl (by kernel_rfl) lin_Mat_Quad_1.m lin_Mat_Quad_1.mr (by rw [hn]; exact of_decide_eq_true (by kernel_rfl)) hW
def lin_Mat_Definite_1.k : K :=
  (.seq (.keep [0, 1, 2, 5] (.ops false [⟨(some 5), none, .alloc 2 (.agg [(.bool false), (.sl [])])⟩]))
  (.seq (.keep [5] (.ops false [⟨(some 6), none, .load 1 false (.t 2)⟩,
      ⟨(some 7), none, .mov (.t 0)⟩,
      ⟨(some 8), none, .idxA 1 (.t 6) (.t 7)⟩,
      ⟨(some 9), none, .load 1 false (.t 8)⟩,
      ⟨(some 10), none, .mov (.t 1)⟩,
      ⟨(some 11), none, .idxA 2 (.t 9) (.t 10)⟩,
      ⟨(some 12), none, .load 2 true (.t 11)⟩,
      ⟨none, none, .store 2 (.t 5) (.t 12)⟩]))
   .ret))
def lin_Mat_Definite_1.res : List RX := [(5, some (2, true))]
theorem lin_Mat_Definite_1.m : mK pg Try.f96.ntmps lin_Mat_Definite_1.k (Try.f96.body.getD .skip) = true := by kernel_rfl
theorem lin_Mat_Definite_1.mr : mRes pg Try.f96.results.toList lin_Mat_Definite_1.res = true := by kernel_rfl
theorem lin_Mat_Definite_1.of {args : List V} {r : V} (hn : args.length = 3) (hW : W pg lin_Mat_Definite_1.k (done lin_Mat_Definite_1.res r) (start args)) : Ret pg n_lin_Mat_Definite_1 args r :=
  Ret_of (fn := Try.f96) Try.func96 rfl (by kernel_rfl) lin_Mat_Definite_1.m lin_Mat_Definite_1.mr (by rw [hn]; exact of_decide_eq_true (by kernel_rfl)) hW
def lin_Mat_swept_1.k : K :=
  (.seq (.keep [1, 2, 3, 4] (.ops false [⟨(some 4), none, .boxP (.t 0)⟩,
     ⟨(some 5), none, .mov (.c .nil)⟩]))
  (.seq (.keep [5] (.ops false [⟨(some 6), none, .load 1 false (.t 1)⟩,
      ⟨(some 7), none, .bin .add (.t 6) (.c (.int .i64 1))⟩,
      ⟨(some 8), none, .mkFn n_lin_Mat_swept_1_1 [(.t 1), (.t 2), (.t 4), (.t 3)]⟩,
      ⟨(some 9), none, .callG n_lin_list_long_Int [(.t 7), (.t 8)]⟩,
      ⟨(some 5), none, .mov (.t 9)⟩]))
   .ret))
def lin_Mat_swept_1.res : List RX := [(5, none)]
theorem lin_Mat_swept_1.m : mK pg Try.f113.ntmps lin_Mat_swept_1.k (Try.f113.body.getD .skip) = true := by kernel_rfl
theorem lin_Mat_swept_1.mr : mRes pg Try.f113.results.toList lin_Mat_swept_1.res = true := by kernel_rfl
theorem lin_Mat_swept_1.ofG {args : List V} {H : Hp} {n : Nat} {Q : V → Hp → Nat → Prop} (hn : args.length = 4) (hW : W pg lin_Mat_swept_1.k (doneG lin_Mat_swept_1.res (fun r H' n' => n ≤ n' ∧ Q r H' n')) (startG args H n)) : ∃ r H' n', Q r H' n' ∧ RetG pg n_lin_Mat_swept_1 args H n r H' n' :=
  RetG_of (fn := Try.f113) Try.func113 rfl (by kernel_rfl) lin_Mat_swept_1.m lin_Mat_swept_1.mr (by rw [hn]; exact of_decide_eq_true (by kernel_rfl)) hW
def lin_Mat_swept_1_1.k : K :=
  (.seq (.keep [0, 1, 2, 3, 4, 6] (.ops false [⟨(some 6), none, .alloc 2 (.agg [(.bool false), (.sl [])])⟩]))
  (.seq (.seq (.keep [0, 2, 3, 4, 6, 9] (.ops false [⟨(some 7), none, .mov (.t 0)⟩,
       ⟨(some 8), none, .load 1 false (.t 1)⟩,
       ⟨(some 9), none, .bin .lss (.t 7) (.t 8)⟩]))
    (.cond (.t 9) (.seq (.keep [6] (.ops false [⟨(some 10), none, .load 1 false (.t 2)⟩,
         ⟨(some 11), none, .load 1 false (.t 3)⟩,
         ⟨(some 12), none, .idxA 1 (.t 10) (.t 11)⟩,
         ⟨(some 13), none, .load 1 false (.t 12)⟩,
         ⟨(some 14), none, .mov (.t 0)⟩,
         ⟨(some 15), none, .idxA 2 (.t 13) (.t 14)⟩,
         ⟨(some 16), none, .load 2 true (.t 15)⟩,
         ⟨none, none, .store 2 (.t 6) (.t 16)⟩]))
      .ret)
     .skip))
   (.seq (.keep [6] (.ops false [⟨(some 17), none, .load 1 false (.t 4)⟩,
       ⟨(some 18), none, .load 1 false (.t 3)⟩,
       ⟨(some 19), none, .idxA 2 (.t 17) (.t 18)⟩,
       ⟨(some 20), none, .load 2 true (.t 19)⟩,
       ⟨none, none, .store 2 (.t 6) (.t 20)⟩]))
    .ret)))
def lin_Mat_swept_1_1.res : List RX := [(6, some (2, true))]
theorem lin_Mat_swept_1_1.m : mK pg Try.f114.ntmps lin_Mat_swept_1_1.k (Try.f114.body.getD .skip) = true := by kernel_rfl
theorem lin_Mat_swept_1_1.mr : mRes pg Try.f114.results.toList lin_Mat_swept_1_1.res = true := by kernel_rfl
theorem lin_Mat_swept_1_1.of {args : List V} {r : V} (hn : args.length = 5) (hW : W pg lin_Mat_swept_1_1.k (done lin_Mat_swept_1_1.res r) (start args)) : Ret pg n_lin_Mat_swept_1_1 args r :=
  Ret_of (fn := Try.f114) Try.func114 rfl (by kernel_rfl) lin_Mat_swept_1_1.m lin_Mat_swept_1_1.mr (by rw [hn]; exact of_decide_eq_true (by kernel_rfl)) hW
end Go.Gim

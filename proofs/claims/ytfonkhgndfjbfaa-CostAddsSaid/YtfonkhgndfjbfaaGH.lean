import Derived.Test.YtfonkhgndfjbfaaGN
/- Functions' code as data (written by wip/tools/gen.py), and the step to their contracts. -/
set_option maxRecDepth 100000
namespace Go.Gim
open Go.Proofs
def huber_Slope.k : K :=
  (.seq (.keep [0, 1] (.ops false [⟨(some 4), none, .mov (.c (.int .i64 0))⟩]))
  (.seq (.keep [0, 1, 5] (.ops false [⟨(some 7), none, .mov (.t 0)⟩,
      ⟨(some 8), none, .mov (.t 1)⟩,
      ⟨(some 9), none, .callG n_huber_cut [(.t 7), (.t 8)]⟩,
      ⟨(some 6), none, .mov (.t 9)⟩,
      ⟨(some 10), none, .ext (.t 6) 0⟩,
      ⟨(some 11), none, .ext (.t 6) 1⟩,
      ⟨(some 12), none, .ext (.t 6) 2⟩,
      ⟨(some 0), none, .mov (.t 10)⟩,
      ⟨(some 5), none, .mov (.t 11)⟩,
      ⟨(some 1), none, .mov (.t 12)⟩]))
   (.seq (.keep [4] (.ops false [⟨(some 13), none, .mov (.t 5)⟩,
       ⟨(some 14), none, .mov (.t 1)⟩,
       ⟨(some 15), none, .callG n_huber_of [(.t 13), (.t 14)]⟩,
       ⟨(some 16), none, .fld 1 1 false (.t 15)⟩,
       ⟨(some 17), none, .mov (.t 0)⟩,
       ⟨(some 18), none, .mov (.t 1)⟩,
       ⟨(some 19), none, .callGV (.t 16) [(.t 17), (.t 18)]⟩,
       ⟨(some 4), none, .mov (.t 19)⟩]))
    .ret)))
def huber_Slope.res : List RX := [(4, none)]
theorem huber_Slope.m : mK pg Try.f102.ntmps huber_Slope.k (Try.f102.body.getD .skip) = true := by kernel_rfl
theorem huber_Slope.mr : mRes pg Try.f102.results.toList huber_Slope.res = true := by kernel_rfl
theorem huber_Slope.of {args : List V} {r : V} (hn : args.length = 2) (hW : W pg huber_Slope.k (done huber_Slope.res r) (start args)) : Ret pg n_huber_Slope args r :=
  Ret_of (fn := Try.f102) Try.func102 rfl (by kernel_rfl) huber_Slope.m huber_Slope.mr (by rw [hn]; exact of_decide_eq_true (by kernel_rfl)) hW
def huber_Rho.k : K :=
  (.seq (.keep [0, 1] (.ops false [⟨(some 4), none, .mov (.c (.int .i64 0))⟩]))
  (.seq (.keep [0, 1, 5] (.ops false [⟨(some 7), none, .mov (.t 0)⟩,
      ⟨(some 8), none, .mov (.t 1)⟩,
      ⟨(some 9), none, .callG n_huber_cut [(.t 7), (.t 8)]⟩,
      ⟨(some 6), none, .mov (.t 9)⟩,
      ⟨(some 10), none, .ext (.t 6) 0⟩,
      ⟨(some 11), none, .ext (.t 6) 1⟩,
      ⟨(some 12), none, .ext (.t 6) 2⟩,
      ⟨(some 0), none, .mov (.t 10)⟩,
      ⟨(some 5), none, .mov (.t 11)⟩,
      ⟨(some 1), none, .mov (.t 12)⟩]))
   (.seq (.keep [4] (.ops false [⟨(some 13), none, .mov (.t 5)⟩,
       ⟨(some 14), none, .mov (.t 1)⟩,
       ⟨(some 15), none, .callG n_huber_of [(.t 13), (.t 14)]⟩,
       ⟨(some 16), none, .fld 0 1 false (.t 15)⟩,
       ⟨(some 17), none, .mov (.t 0)⟩,
       ⟨(some 18), none, .mov (.t 1)⟩,
       ⟨(some 19), none, .callGV (.t 16) [(.t 17), (.t 18)]⟩,
       ⟨(some 4), none, .mov (.t 19)⟩]))
    .ret)))
def huber_Rho.res : List RX := [(4, none)]
theorem huber_Rho.m : mK pg Try.f104.ntmps huber_Rho.k (Try.f104.body.getD .skip) = true := by kernel_rfl
theorem huber_Rho.mr : mRes pg Try.f104.results.toList huber_Rho.res = true := by kernel_rfl
theorem huber_Rho.of {args : List V} {r : V} (hn : args.length = 2) (hW : W pg huber_Rho.k (done huber_Rho.res r) (start args)) : Ret pg n_huber_Rho args r :=
  Ret_of (fn := Try.f104) Try.func104 rfl (by kernel_rfl) huber_Rho.m huber_Rho.mr (by rw [hn]; exact of_decide_eq_true (by kernel_rfl)) hW
def huber_cut.k : K :=
  (.seq (.keep [0, 1] (.ops false [⟨(some 4), none, .mov (.c (.int .i64 0))⟩,
     ⟨(some 5), none, .mov (.c (.int .i64 0))⟩,
     ⟨(some 6), none, .mov (.c (.int .i64 0))⟩]))
  (.seq (.keep [1, 4] (.ops false [⟨(some 7), none, .mov (.t 0)⟩,
      ⟨(some 8), none, .mm false (.t 7) [(.c (.int .i64 2147483647))]⟩,
      ⟨(some 9), none, .mm true (.c (.int .i64 (-2147483647))) [(.t 8)]⟩,
      ⟨(some 4), none, .mov (.t 9)⟩]))
   (.seq (.keep [4, 5, 6] (.ops false [⟨(some 10), none, .mov (.t 4)⟩,
       ⟨(some 11), none, .mov (.t 4)⟩,
       ⟨(some 12), none, .mov (.t 4)⟩,
       ⟨(some 13), none, .un .neg (.t 12)⟩,
       ⟨(some 14), none, .mm true (.t 11) [(.t 13)]⟩,
       ⟨(some 15), none, .mov (.t 1)⟩,
       ⟨(some 16), none, .mm false (.t 15) [(.c (.int .i64 2147483647))]⟩,
       ⟨(some 17), none, .mm true (.c (.int .i64 0)) [(.t 16)]⟩,
       ⟨(some 4), none, .mov (.t 10)⟩,
       ⟨(some 5), none, .mov (.t 14)⟩,
       ⟨(some 6), none, .mov (.t 17)⟩]))
    .ret)))
def huber_cut.res : List RX := [(4, none), (5, none), (6, none)]
theorem huber_cut.m : mK pg Try.f106.ntmps huber_cut.k (Try.f106.body.getD .skip) = true := by kernel_rfl
theorem huber_cut.mr : mRes pg Try.f106.results.toList huber_cut.res = true := by kernel_rfl
theorem huber_cut.of {args : List V} {r : V} (hn : args.length = 2) (hW : W pg huber_cut.k (done huber_cut.res r) (start args)) : Ret pg n_huber_cut args r :=
  Ret_of (fn := Try.f106) Try.func106 rfl (by kernel_rfl) huber_cut.m huber_cut.mr (by rw [hn]; exact of_decide_eq_true (by kernel_rfl)) hW
def huber_of.k : K :=
  (.seq (.keep [0, 1, 4] (.ops false [⟨(some 4), none, .alloc 2 (.agg [.nilfn, .nilfn])⟩]))
  (.seq (.seq (.keep [4, 7] (.ops false [⟨(some 5), none, .mov (.t 0)⟩,
       ⟨(some 6), none, .mov (.t 1)⟩,
       ⟨(some 7), none, .bin .leq (.t 5) (.t 6)⟩]))
    (.cond (.t 7) (.seq (.keep [4] (.ops false [⟨(some 8), none, .build [.nilfn, .nilfn] [(0, 1, (.c (.fn n_huber_of_1 []))), (1, 1, (.c (.fn n_huber_of_2 [])))]⟩,
         ⟨none, none, .store 2 (.t 4) (.t 8)⟩]))
      .ret)
     .skip))
   (.seq (.keep [4] (.ops false [⟨(some 9), none, .build [.nilfn, .nilfn] [(0, 1, (.c (.fn n_huber_of_3 []))), (1, 1, (.c (.fn n_huber_of_4 [])))]⟩,
       ⟨none, none, .store 2 (.t 4) (.t 9)⟩]))
    .ret)))
def huber_of.res : List RX := [(4, some (2, true))]
theorem huber_of.m : mK pg Try.f107.ntmps huber_of.k (Try.f107.body.getD .skip) = true := by kernel_rfl
theorem huber_of.mr : mRes pg Try.f107.results.toList huber_of.res = true := by kernel_rfl
theorem huber_of.of {args : List V} {r : V} (hn : args.length = 2) (hW : W pg huber_of.k (done huber_of.res r) (start args)) : Ret pg n_huber_of args r :=
  Ret_of (fn := Try.f107) Try.func107 rfl (by kernel_rfl) huber_of.m huber_of.mr (by rw [hn]; exact of_decide_eq_true (by kernel_rfl)) hW
def huber_of_1.k : K :=
  (.seq (.keep [0] (.ops false [⟨(some 4), none, .mov (.c (.int .i64 0))⟩]))
  (.seq (.keep [4] (.ops false [⟨(some 5), none, .mov (.t 0)⟩,
      ⟨(some 6), none, .mov (.t 0)⟩,
      ⟨(some 7), none, .bin .mul (.t 5) (.t 6)⟩,
      ⟨(some 4), none, .mov (.t 7)⟩]))
   .ret))
def huber_of_1.res : List RX := [(4, none)]
theorem huber_of_1.m : mK pg Try.f108.ntmps huber_of_1.k (Try.f108.body.getD .skip) = true := by kernel_rfl
theorem huber_of_1.mr : mRes pg Try.f108.results.toList huber_of_1.res = true := by kernel_rfl
theorem huber_of_1.of {args : List V} {r : V} (hn : args.length = 2) (hW : W pg huber_of_1.k (done huber_of_1.res r) (start args)) : Ret pg n_huber_of_1 args r :=
  Ret_of (fn := Try.f108) Try.func108 rfl (by kernel_rfl) huber_of_1.m huber_of_1.mr (by rw [hn]; exact of_decide_eq_true (by kernel_rfl)) hW
def huber_of_2.k : K :=
  (.seq (.keep [0] (.ops false [⟨(some 4), none, .mov (.c (.int .i64 0))⟩]))
  (.seq (.keep [4] (.ops false [⟨(some 5), none, .mov (.t 0)⟩,
      ⟨(some 4), none, .mov (.t 5)⟩]))
   .ret))
def huber_of_2.res : List RX := [(4, none)]
theorem huber_of_2.m : mK pg Try.f109.ntmps huber_of_2.k (Try.f109.body.getD .skip) = true := by kernel_rfl
theorem huber_of_2.mr : mRes pg Try.f109.results.toList huber_of_2.res = true := by kernel_rfl
theorem huber_of_2.of {args : List V} {r : V} (hn : args.length = 2) (hW : W pg huber_of_2.k (done huber_of_2.res r) (start args)) : Ret pg n_huber_of_2 args r :=
  Ret_of (fn := Try.f109) Try.func109 rfl (by kernel_rfl) huber_of_2.m huber_of_2.mr (by rw [hn]; exact of_decide_eq_true (by kernel_rfl)) hW
def huber_of_3.k : K :=
  (.seq (.keep [0, 1] (.ops false [⟨(some 4), none, .mov (.c (.int .i64 0))⟩]))
  (.seq (.keep [4] (.ops false [⟨(some 5), none, .mov (.t 1)⟩,
      ⟨(some 6), none, .bin .mul (.c (.int .i64 2)) (.t 5)⟩,
      ⟨(some 7), none, .mov (.t 0)⟩,
      ⟨(some 8), none, .mov (.t 0)⟩,
      ⟨(some 9), none, .un .neg (.t 8)⟩,
      ⟨(some 10), none, .mm true (.t 7) [(.t 9)]⟩,
      ⟨(some 11), none, .bin .mul (.t 6) (.t 10)⟩,
      ⟨(some 12), none, .mov (.t 1)⟩,
      ⟨(some 13), none, .mov (.t 1)⟩,
      ⟨(some 14), none, .bin .mul (.t 12) (.t 13)⟩,
      ⟨(some 15), none, .bin .sub (.t 11) (.t 14)⟩,
      ⟨(some 4), none, .mov (.t 15)⟩]))
   .ret))
def huber_of_3.res : List RX := [(4, none)]
theorem huber_of_3.m : mK pg Try.f110.ntmps huber_of_3.k (Try.f110.body.getD .skip) = true := by kernel_rfl
theorem huber_of_3.mr : mRes pg Try.f110.results.toList huber_of_3.res = true := by kernel_rfl
theorem huber_of_3.of {args : List V} {r : V} (hn : args.length = 2) (hW : W pg huber_of_3.k (done huber_of_3.res r) (start args)) : Ret pg n_huber_of_3 args r :=
  Ret_of (fn := Try.f110) Try.func110 rfl (by kernel_rfl) huber_of_3.m huber_of_3.mr (by rw [hn]; exact of_decide_eq_true (by kernel_rfl)) hW
def huber_of_4.k : K :=
  (.seq (.keep [0, 1] (.ops false [⟨(some 4), none, .mov (.c (.int .i64 0))⟩]))
  (.seq (.keep [4] (.ops false [⟨(some 5), none, .mov (.t 1)⟩,
      ⟨(some 6), none, .un .neg (.t 5)⟩,
      ⟨(some 7), none, .mov (.t 0)⟩,
      ⟨(some 8), none, .mov (.t 1)⟩,
      ⟨(some 9), none, .mm false (.t 7) [(.t 8)]⟩,
      ⟨(some 10), none, .mm true (.t 6) [(.t 9)]⟩,
      ⟨(some 4), none, .mov (.t 10)⟩]))
   .ret))
def huber_of_4.res : List RX := [(4, none)]
theorem huber_of_4.m : mK pg Try.f111.ntmps huber_of_4.k (Try.f111.body.getD .skip) = true := by kernel_rfl
theorem huber_of_4.mr : mRes pg Try.f111.results.toList huber_of_4.res = true := by kernel_rfl
theorem huber_of_4.of {args : List V} {r : V} (hn : args.length = 2) (hW : W pg huber_of_4.k (done huber_of_4.res r) (start args)) : Ret pg n_huber_of_4 args r :=
  Ret_of (fn := Try.f111) Try.func111 rfl (by kernel_rfl) huber_of_4.m huber_of_4.mr (by rw [hn]; exact of_decide_eq_true (by kernel_rfl)) hW
def cost_Steep.k : K :=
  (.seq (.keep [2, 3] (.ops false [⟨(some 2), none, .boxP (.t 0)⟩,
     ⟨(some 3), none, .boxP (.t 1)⟩,
     ⟨(some 4), none, .mov (.c .nil)⟩]))
  (.seq (.keep [2, 3, 5] (.ops false [⟨(some 12), none, .load 1 false (.t 3)⟩,
      ⟨(some 13), none, .len false (.t 12)⟩,
      ⟨(some 14), none, .new (.mks 2 32 (.agg [(.bool false), (.sl [])])) [(.t 13), (.t 13)]⟩,
      ⟨(some 5), none, .mov (.t 14)⟩]))
   (.seq (.seq (.keep [2, 3, 5, 18, 19, 20] (.ops false [⟨(some 15), none, .fldA 1 1 false (.t 2)⟩,
        ⟨(some 16), none, .load 1 false (.t 15)⟩,
        ⟨(some 17), none, .mkFn n_cost_Steep_1 [(.t 3)]⟩,
        ⟨(some 18), none, .callG n_cost_each_api_Row_Lint64 [(.t 16), (.t 17)]⟩,
        ⟨(some 19), none, .len false (.t 18)⟩,
        ⟨(some 20), none, .mov (.c (.int .i64 0))⟩]))
     (.block 0 (.loop (.seq (.keep [2, 3, 5, 18, 19, 20, 21] (.ops false [⟨(some 21), none, .bin .lss (.t 20) (.t 19)⟩]))
        (.seq (.cond (.t 21) .skip
          (.exit 0))
         (.seq (.block 1 (.seq (.keep [2, 3, 5, 7, 18, 19, 20] (.ops false [⟨(some 22), none, .idxA 1 (.t 18) (.t 20)⟩,
               ⟨(some 23), none, .load 1 false (.t 22)⟩,
               ⟨(some 7), none, .mov (.t 23)⟩]))
            (.seq (.keep [2, 3, 5, 18, 19, 20, 24, 25, 26] (.ops false [⟨(some 24), none, .mov (.t 7)⟩,
                ⟨(some 25), none, .len false (.t 24)⟩,
                ⟨(some 26), none, .mov (.c (.int .i64 0))⟩]))
             (.block 2 (.loop (.seq (.keep [2, 3, 5, 18, 19, 20, 24, 25, 26, 27] (.ops false [⟨(some 27), none, .bin .lss (.t 26) (.t 25)⟩]))
                (.seq (.cond (.t 27) .skip
                  (.exit 2))
                 (.seq (.block 3 (.seq (.keep [2, 3, 5, 8, 9, 18, 19, 20, 24, 25, 26] (.ops false [⟨(some 28), none, .mov (.t 26)⟩,
                       ⟨(some 29), none, .idxA 1 (.t 24) (.t 26)⟩,
                       ⟨(some 30), none, .load 1 false (.t 29)⟩,
                       ⟨(some 8), none, .mov (.t 28)⟩,
                       ⟨(some 9), none, .mov (.t 30)⟩]))
                    (.keep [2, 3, 5, 18, 19, 20, 24, 25, 26] (.ops true [⟨(some 31), none, .mov (.t 5)⟩,
                       ⟨(some 32), none, .mov (.t 8)⟩,
                       ⟨(some 33), none, .mov (.t 5)⟩,
                       ⟨(some 34), none, .mov (.t 8)⟩,
                       ⟨(some 35), none, .idxA 2 (.t 33) (.t 34)⟩,
                       ⟨(some 36), none, .load 2 true (.t 35)⟩,
                       ⟨(some 37), none, .mov (.t 9)⟩,
                       ⟨(some 38), none, .call n_long_Of [(.t 37)]⟩,
                       ⟨(some 39), none, .call n_long_Int_Add [(.t 36), (.t 38)]⟩,
                       ⟨(some 40), none, .idxA 2 (.t 31) (.t 32)⟩,
                       ⟨none, none, .store 2 (.t 40) (.t 39)⟩]))))
                  (.keep [2, 3, 5, 18, 19, 20, 24, 25, 26] (.ops false [⟨(some 41), none, .bin .add (.t 26) (.c (.int .i64 1))⟩,
                     ⟨(some 26), none, .mov (.t 41)⟩]))))))))))
          (.keep [2, 3, 5, 18, 19, 20] (.ops false [⟨(some 42), none, .bin .add (.t 20) (.c (.int .i64 1))⟩,
             ⟨(some 20), none, .mov (.t 42)⟩]))))))))
    (.seq (.keep [2, 5, 10] (.ops true [⟨(some 43), none, .fldA 2 4 true (.t 2)⟩,
        ⟨(some 44), none, .load 4 true (.t 43)⟩,
        ⟨(some 45), none, .load 1 false (.t 3)⟩,
        ⟨(some 46), none, .call n_cost_each_int64_long_Int [(.t 45), (.c (.fn n_long_Of []))]⟩,
        ⟨(some 47), none, .call n_quad_Quad_Slope [(.t 44), (.t 46)]⟩,
        ⟨(some 10), none, .mov (.t 47)⟩]))
     (.seq (.seq (.keep [2, 5, 10, 49, 50] (.ops false [⟨(some 48), none, .mov (.t 5)⟩,
          ⟨(some 49), none, .len false (.t 48)⟩,
          ⟨(some 50), none, .mov (.c (.int .i64 0))⟩]))
       (.block 4 (.loop (.seq (.keep [2, 5, 10, 49, 50, 51] (.ops false [⟨(some 51), none, .bin .lss (.t 50) (.t 49)⟩]))
          (.seq (.cond (.t 51) .skip
            (.exit 4))
           (.seq (.block 5 (.seq (.keep [2, 5, 10, 11, 49, 50] (.ops false [⟨(some 52), none, .mov (.t 50)⟩,
                 ⟨(some 11), none, .mov (.t 52)⟩]))
              (.keep [2, 5, 10, 49, 50] (.ops true [⟨(some 53), none, .mov (.t 5)⟩,
                 ⟨(some 54), none, .mov (.t 11)⟩,
                 ⟨(some 55), none, .mov (.t 5)⟩,
                 ⟨(some 56), none, .mov (.t 11)⟩,
                 ⟨(some 57), none, .idxA 2 (.t 55) (.t 56)⟩,
                 ⟨(some 58), none, .load 2 true (.t 57)⟩,
                 ⟨(some 59), none, .fldA 6 2 true (.t 2)⟩,
                 ⟨(some 60), none, .load 2 true (.t 59)⟩,
                 ⟨(some 61), none, .call n_long_Int_Mul [(.t 58), (.t 60)]⟩,
                 ⟨(some 62), none, .mov (.t 10)⟩,
                 ⟨(some 63), none, .mov (.t 11)⟩,
                 ⟨(some 64), none, .idxA 2 (.t 62) (.t 63)⟩,
                 ⟨(some 65), none, .load 2 true (.t 64)⟩,
                 ⟨(some 66), none, .call n_long_Int_Add [(.t 61), (.t 65)]⟩,
                 ⟨(some 67), none, .idxA 2 (.t 53) (.t 54)⟩,
                 ⟨none, none, .store 2 (.t 67) (.t 66)⟩]))))
            (.keep [2, 5, 10, 49, 50] (.ops false [⟨(some 68), none, .bin .add (.t 50) (.c (.int .i64 1))⟩,
               ⟨(some 50), none, .mov (.t 68)⟩]))))))))
      (.seq (.keep [4] (.ops false [⟨(some 69), none, .mov (.t 5)⟩,
          ⟨(some 4), none, .mov (.t 69)⟩]))
       .ret))))))
def cost_Steep.res : List RX := [(4, none)]
theorem cost_Steep.m : mK pg Try.f38.ntmps cost_Steep.k (Try.f38.body.getD .skip) = true := by kernel_rfl
theorem cost_Steep.mr : mRes pg Try.f38.results.toList cost_Steep.res = true := by kernel_rfl
theorem cost_Steep.of {args : List V} {r : V} (hn : args.length = 2) (hW : W pg cost_Steep.k (done cost_Steep.res r) (start args)) : Ret pg n_cost_Steep args r :=
  Ret_of (fn := Try.f38) Try.func38 rfl (by kernel_rfl) cost_Steep.m cost_Steep.mr (by rw [hn]; exact of_decide_eq_true (by kernel_rfl)) hW
def cost_Value.k : K :=
  (.seq (.keep [2, 3, 4] (.ops false [⟨(some 2), none, .boxP (.t 0)⟩,
     ⟨(some 3), none, .boxP (.t 1)⟩,
     ⟨(some 4), none, .alloc 2 (.agg [(.bool false), (.sl [])])⟩]))
  (.seq (.keep [2, 3, 4, 5] (.ops false [⟨(some 5), none, .alloc 2 (.agg [(.bool false), (.sl [])])⟩]))
   (.seq (.seq (.keep [2, 3, 4, 5, 11, 12, 13] (.ops false [⟨(some 8), none, .fldA 1 1 false (.t 2)⟩,
        ⟨(some 9), none, .load 1 false (.t 8)⟩,
        ⟨(some 10), none, .mkFn n_cost_Value_1 [(.t 3)]⟩,
        ⟨(some 11), none, .callG n_cost_each_api_Row_int64 [(.t 9), (.t 10)]⟩,
        ⟨(some 12), none, .len false (.t 11)⟩,
        ⟨(some 13), none, .mov (.c (.int .i64 0))⟩]))
     (.block 0 (.loop (.seq (.keep [2, 3, 4, 5, 11, 12, 13, 14] (.ops false [⟨(some 14), none, .bin .lss (.t 13) (.t 12)⟩]))
        (.seq (.cond (.t 14) .skip
          (.exit 0))
         (.seq (.block 1 (.seq (.keep [2, 3, 4, 5, 7, 11, 12, 13] (.ops false [⟨(some 15), none, .idxA 1 (.t 11) (.t 13)⟩,
               ⟨(some 16), none, .load 1 false (.t 15)⟩,
               ⟨(some 7), none, .mov (.t 16)⟩]))
            (.keep [2, 3, 4, 5, 11, 12, 13] (.ops true [⟨(some 17), none, .load 2 true (.t 5)⟩,
               ⟨(some 18), none, .mov (.t 7)⟩,
               ⟨(some 19), none, .call n_long_Of [(.t 18)]⟩,
               ⟨(some 20), none, .call n_long_Int_Add [(.t 17), (.t 19)]⟩,
               ⟨none, none, .store 2 (.t 5) (.t 20)⟩]))))
          (.keep [2, 3, 4, 5, 11, 12, 13] (.ops false [⟨(some 21), none, .bin .add (.t 13) (.c (.int .i64 1))⟩,
             ⟨(some 13), none, .mov (.t 21)⟩]))))))))
    (.seq (.keep [4] (.ops true [⟨(some 22), none, .load 2 true (.t 5)⟩,
        ⟨(some 23), none, .fldA 6 2 true (.t 2)⟩,
        ⟨(some 24), none, .load 2 true (.t 23)⟩,
        ⟨(some 25), none, .call n_long_Int_Mul [(.t 22), (.t 24)]⟩,
        ⟨(some 26), none, .fldA 2 4 true (.t 2)⟩,
        ⟨(some 27), none, .load 4 true (.t 26)⟩,
        ⟨(some 28), none, .load 1 false (.t 3)⟩,
        ⟨(some 29), none, .call n_cost_each_int64_long_Int [(.t 28), (.c (.fn n_long_Of []))]⟩,
        ⟨(some 30), none, .call n_quad_Quad_Value [(.t 27), (.t 29)]⟩,
        ⟨(some 31), none, .call n_long_Int_Add [(.t 25), (.t 30)]⟩,
        ⟨none, none, .store 2 (.t 4) (.t 31)⟩]))
     .ret))))
def cost_Value.res : List RX := [(4, some (2, true))]
theorem cost_Value.m : mK pg Try.f39.ntmps cost_Value.k (Try.f39.body.getD .skip) = true := by kernel_rfl
theorem cost_Value.mr : mRes pg Try.f39.results.toList cost_Value.res = true := by kernel_rfl
theorem cost_Value.of {args : List V} {r : V} (hn : args.length = 2) (hW : W pg cost_Value.k (done cost_Value.res r) (start args)) : Ret pg n_cost_Value args r :=
  Ret_of (fn := Try.f39) Try.func39 rfl (by kernel_rfl) cost_Value.m cost_Value.mr (by rw [hn]; exact of_decide_eq_true (by kernel_rfl)) hW
def cost_Flat.k : K :=
  (.seq (.keep [1, 2, 3] (.ops false [⟨(some 3), none, .boxP (.t 0)⟩,
     ⟨(some 6), none, .mov (.c (.bool false))⟩]))
  (.seq (.keep [1, 3, 7] (.ops true [⟨(some 10), none, .fldA 6 2 true (.t 3)⟩,
      ⟨(some 11), none, .load 2 true (.t 10)⟩,
      ⟨(some 12), none, .mov (.t 2)⟩,
      ⟨(some 13), none, .call n_long_Of [(.t 12)]⟩,
      ⟨(some 14), none, .call n_long_Int_Mul [(.t 11), (.t 13)]⟩,
      ⟨(some 7), none, .alloc 2 (.agg [(.bool false), (.sl [])])⟩,
      ⟨none, none, .store 2 (.t 7) (.t 14)⟩]))
   (.seq (.seq (.keep [7, 17, 18, 19] (.ops false [⟨(some 15), none, .load 8 true (.t 3)⟩,
        ⟨(some 16), none, .mov (.t 1)⟩,
        ⟨(some 17), none, .callG n_cost_Steep [(.t 15), (.t 16)]⟩,
        ⟨(some 18), none, .len false (.t 17)⟩,
        ⟨(some 19), none, .mov (.c (.int .i64 0))⟩]))
     (.block 0 (.loop (.seq (.keep [7, 17, 18, 19, 20] (.ops false [⟨(some 20), none, .bin .lss (.t 19) (.t 18)⟩]))
        (.seq (.cond (.t 20) .skip
          (.exit 0))
         (.seq (.block 1 (.seq (.keep [7, 9, 17, 18, 19] (.ops false [⟨(some 21), none, .idxA 2 (.t 17) (.t 19)⟩,
               ⟨(some 22), none, .load 2 true (.t 21)⟩,
               ⟨(some 9), none, .alloc 2 (.agg [(.bool false), (.sl [])])⟩,
               ⟨none, none, .store 2 (.t 9) (.t 22)⟩]))
            (.seq (.keep [7, 17, 18, 19, 33] (.ops true [⟨(some 23), none, .load 2 true (.t 9)⟩,
                ⟨(some 24), none, .load 2 true (.t 7)⟩,
                ⟨(some 25), none, .call n_long_Int_Cmp [(.t 23), (.t 24)]⟩,
                ⟨(some 26), none, .bin .gtr (.t 25) (.c (.int .i64 0))⟩,
                ⟨(some 27), none, .mov (.t 26)⟩,
                ⟨(some 28), (some (27, false)), .load 2 true (.t 9)⟩,
                ⟨(some 29), (some (27, false)), .call n_long_Int_Neg [(.t 28)]⟩,
                ⟨(some 30), (some (27, false)), .load 2 true (.t 7)⟩,
                ⟨(some 31), (some (27, false)), .call n_long_Int_Cmp [(.t 29), (.t 30)]⟩,
                ⟨(some 32), (some (27, false)), .bin .gtr (.t 31) (.c (.int .i64 0))⟩,
                ⟨(some 33), none, .pick (.t 27) (.c (.bool true)) (.t 32)⟩]))
             (.cond (.t 33) (.seq (.keep [6] (.ops false [⟨(some 6), none, .mov (.c (.bool false))⟩]))
               .ret)
              .skip))))
          (.keep [7, 17, 18, 19] (.ops false [⟨(some 34), none, .bin .add (.t 19) (.c (.int .i64 1))⟩,
             ⟨(some 19), none, .mov (.t 34)⟩]))))))))
    (.seq (.keep [6] (.ops false [⟨(some 6), none, .mov (.c (.bool true))⟩]))
     .ret))))
def cost_Flat.res : List RX := [(6, none)]
theorem cost_Flat.m : mK pg Try.f41.ntmps cost_Flat.k (Try.f41.body.getD .skip) = true := by kernel_rfl
theorem cost_Flat.mr : mRes pg Try.f41.results.toList cost_Flat.res = true := by kernel_rfl
theorem cost_Flat.of {args : List V} {r : V} (hn : args.length = 3) (hW : W pg cost_Flat.k (done cost_Flat.res r) (start args)) : Ret pg n_cost_Flat args r :=
  Ret_of (fn := Try.f41) Try.func41 rfl (by kernel_rfl) cost_Flat.m cost_Flat.mr (by rw [hn]; exact of_decide_eq_true (by kernel_rfl)) hW
def cost_State.k : K :=
  (.seq (.keep [0] (.ops false [⟨(some 2), none, .mov (.c (.bool false))⟩]))
  (.seq (.seq (.keep [5, 6, 7] (.ops false [⟨(some 5), none, .mov (.t 0)⟩,
       ⟨(some 6), none, .len false (.t 5)⟩,
       ⟨(some 7), none, .mov (.c (.int .i64 0))⟩]))
    (.block 0 (.loop (.seq (.keep [5, 6, 7, 8] (.ops false [⟨(some 8), none, .bin .lss (.t 7) (.t 6)⟩]))
       (.seq (.cond (.t 8) .skip
         (.exit 0))
        (.seq (.block 1 (.seq (.keep [4, 5, 6, 7] (.ops false [⟨(some 9), none, .idxA 1 (.t 5) (.t 7)⟩,
              ⟨(some 10), none, .load 1 false (.t 9)⟩,
              ⟨(some 4), none, .mov (.t 10)⟩]))
           (.seq (.keep [5, 6, 7, 16] (.ops false [⟨(some 11), none, .mov (.t 4)⟩,
               ⟨(some 12), none, .bin .lss (.t 11) (.c (.int .i64 (-1000000)))⟩,
               ⟨(some 13), none, .mov (.t 12)⟩,
               ⟨(some 14), (some (13, false)), .mov (.t 4)⟩,
               ⟨(some 15), (some (13, false)), .bin .gtr (.t 14) (.c (.int .i64 1000000))⟩,
               ⟨(some 16), none, .pick (.t 13) (.c (.bool true)) (.t 15)⟩]))
            (.cond (.t 16) (.seq (.keep [2] (.ops false [⟨(some 2), none, .mov (.c (.bool false))⟩]))
              .ret)
             .skip))))
         (.keep [5, 6, 7] (.ops false [⟨(some 17), none, .bin .add (.t 7) (.c (.int .i64 1))⟩,
            ⟨(some 7), none, .mov (.t 17)⟩]))))))))
   (.seq (.keep [2] (.ops false [⟨(some 2), none, .mov (.c (.bool true))⟩]))
    .ret)))
def cost_State.res : List RX := [(2, none)]
theorem cost_State.m : mK pg Try.f70.ntmps cost_State.k (Try.f70.body.getD .skip) = true := by kernel_rfl
theorem cost_State.mr : mRes pg Try.f70.results.toList cost_State.res = true := by kernel_rfl
theorem cost_State.of {args : List V} {r : V} (hn : args.length = 1) (hW : W pg cost_State.k (done cost_State.res r) (start args)) : Ret pg n_cost_State args r :=
  Ret_of (fn := Try.f70) Try.func70 rfl (by kernel_rfl) cost_State.m cost_State.mr (by rw [hn]; exact of_decide_eq_true (by kernel_rfl)) hW
def cost_each_api_Row_Lint64.k : K :=
  (.seq (.keep [0, 1] (.ops false [⟨(some 4), none, .mov (.c .nil)⟩]))
  (.seq (.keep [0, 1, 5] (.ops false [⟨(some 8), none, .mov (.t 0)⟩,
      ⟨(some 9), none, .len false (.t 8)⟩,
      ⟨(some 10), none, .new (.mks 1 24 .nil) [(.c (.int .i64 0)), (.t 9)]⟩,
      ⟨(some 5), none, .mov (.t 10)⟩]))
   (.seq (.seq (.keep [1, 5, 11, 12, 13] (.ops false [⟨(some 11), none, .mov (.t 0)⟩,
        ⟨(some 12), none, .len false (.t 11)⟩,
        ⟨(some 13), none, .mov (.c (.int .i64 0))⟩]))
     (.block 0 (.loop (.seq (.keep [1, 5, 11, 12, 13, 14] (.ops false [⟨(some 14), none, .bin .lss (.t 13) (.t 12)⟩]))
        (.seq (.cond (.t 14) .skip
          (.exit 0))
         (.seq (.block 1 (.seq (.keep [1, 5, 7, 11, 12, 13] (.ops false [⟨(some 15), none, .idxA 4 (.t 11) (.t 13)⟩,
               ⟨(some 16), none, .load 4 true (.t 15)⟩,
               ⟨(some 7), none, .alloc 4 (.agg [(.sl []), (.int .i64 0), (.int .i64 0), (.int .i64 0)])⟩,
               ⟨none, none, .store 4 (.t 7) (.t 16)⟩]))
            (.gh (.keep [1, 5, 11, 12, 13] (.ops false [⟨(some 17), none, .mov (.t 5)⟩,
               ⟨(some 18), none, .mov (.t 1)⟩,
               ⟨(some 19), none, .load 4 true (.t 7)⟩,
               ⟨(some 20), none, .callGV (.t 18) [(.t 19)]⟩,
               ⟨(some 21), none, .new (.bsl 1) [(.t 20)]⟩,
               ⟨(some 22), none, .eff (.app 1 24) [(.t 17), (.t 21)]⟩,
               ⟨(some 5), none, .mov (.t 22)⟩])))))
          (.keep [1, 5, 11, 12, 13] (.ops false [⟨(some 23), none, .bin .add (.t 13) (.c (.int .i64 1))⟩,
             ⟨(some 13), none, .mov (.t 23)⟩]))))))))
    (.seq (.keep [4] (.ops false [⟨(some 24), none, .mov (.t 5)⟩,
        ⟨(some 4), none, .mov (.t 24)⟩]))
     .ret))))
def cost_each_api_Row_Lint64.res : List RX := [(4, none)]
theorem cost_each_api_Row_Lint64.m : mK pg Try.f72.ntmps cost_each_api_Row_Lint64.k (Try.f72.body.getD .skip) = true := by kernel_rfl
theorem cost_each_api_Row_Lint64.mr : mRes pg Try.f72.results.toList cost_each_api_Row_Lint64.res = true := by kernel_rfl
theorem cost_each_api_Row_Lint64.of {args : List V} {r : V} (hn : args.length = 2) (hW : W pg cost_each_api_Row_Lint64.k (done cost_each_api_Row_Lint64.res r) (start args)) : Ret pg n_cost_each_api_Row_Lint64 args r :=
  Ret_of (fn := Try.f72) Try.func72 rfl (by kernel_rfl) cost_each_api_Row_Lint64.m cost_each_api_Row_Lint64.mr (by rw [hn]; exact of_decide_eq_true (by kernel_rfl)) hW
def cost_Steep_1.k : K :=
  (.seq (.keep [1, 2] (.ops false [⟨(some 2), none, .boxP (.t 0)⟩,
     ⟨(some 3), none, .mov (.c .nil)⟩]))
  (.seq (.keep [3] (.ops false [⟨(some 4), none, .load 4 true (.t 2)⟩,
      ⟨(some 5), none, .load 1 false (.t 1)⟩,
      ⟨(some 6), none, .callG n_factor_Steep [(.t 4), (.t 5)]⟩,
      ⟨(some 3), none, .mov (.t 6)⟩]))
   .ret))
def cost_Steep_1.res : List RX := [(3, none)]
theorem cost_Steep_1.m : mK pg Try.f73.ntmps cost_Steep_1.k (Try.f73.body.getD .skip) = true := by kernel_rfl
theorem cost_Steep_1.mr : mRes pg Try.f73.results.toList cost_Steep_1.res = true := by kernel_rfl
theorem cost_Steep_1.of {args : List V} {r : V} (hn : args.length = 2) (hW : W pg cost_Steep_1.k (done cost_Steep_1.res r) (start args)) : Ret pg n_cost_Steep_1 args r :=
  Ret_of (fn := Try.f73) Try.func73 rfl (by kernel_rfl) cost_Steep_1.m cost_Steep_1.mr (by rw [hn]; exact of_decide_eq_true (by kernel_rfl)) hW
def cost_each_int64_long_Int.k : K :=
  (.seq (.keep [0, 1] (.ops false [⟨(some 4), none, .mov (.c .nil)⟩]))
  (.seq (.keep [0, 1, 5] (.ops false [⟨(some 8), none, .mov (.t 0)⟩,
      ⟨(some 9), none, .len false (.t 8)⟩,
      ⟨(some 10), none, .new (.mks 2 32 (.agg [(.bool false), (.sl [])])) [(.c (.int .i64 0)), (.t 9)]⟩,
      ⟨(some 5), none, .mov (.t 10)⟩]))
   (.seq (.seq (.keep [1, 5, 11, 12, 13] (.ops false [⟨(some 11), none, .mov (.t 0)⟩,
        ⟨(some 12), none, .len false (.t 11)⟩,
        ⟨(some 13), none, .mov (.c (.int .i64 0))⟩]))
     (.block 0 (.loop (.seq (.keep [1, 5, 11, 12, 13, 14] (.ops false [⟨(some 14), none, .bin .lss (.t 13) (.t 12)⟩]))
        (.seq (.cond (.t 14) .skip
          (.exit 0))
         (.seq (.block 1 (.seq (.keep [1, 5, 7, 11, 12, 13] (.ops false [⟨(some 15), none, .idxA 1 (.t 11) (.t 13)⟩,
               ⟨(some 16), none, .load 1 false (.t 15)⟩,
               ⟨(some 7), none, .mov (.t 16)⟩]))
            (.keep [1, 5, 11, 12, 13] (.ops false [⟨(some 17), none, .mov (.t 5)⟩,
               ⟨(some 18), none, .mov (.t 1)⟩,
               ⟨(some 19), none, .mov (.t 7)⟩,
               ⟨(some 20), none, .callGV (.t 18) [(.t 19)]⟩,
               ⟨(some 21), none, .new (.bsl 2) [(.t 20)]⟩,
               ⟨(some 22), none, .eff (.app 2 32) [(.t 17), (.t 21)]⟩,
               ⟨(some 5), none, .mov (.t 22)⟩]))))
          (.keep [1, 5, 11, 12, 13] (.ops false [⟨(some 23), none, .bin .add (.t 13) (.c (.int .i64 1))⟩,
             ⟨(some 13), none, .mov (.t 23)⟩]))))))))
    (.seq (.keep [4] (.ops false [⟨(some 24), none, .mov (.t 5)⟩,
        ⟨(some 4), none, .mov (.t 24)⟩]))
     .ret))))
def cost_each_int64_long_Int.res : List RX := [(4, none)]
theorem cost_each_int64_long_Int.m : mK pg Try.f76.ntmps cost_each_int64_long_Int.k (Try.f76.body.getD .skip) = true := by kernel_rfl
theorem cost_each_int64_long_Int.mr : mRes pg Try.f76.results.toList cost_each_int64_long_Int.res = true := by kernel_rfl
theorem cost_each_int64_long_Int.of {args : List V} {r : V} (hn : args.length = 2) (hW : W pg cost_each_int64_long_Int.k (done cost_each_int64_long_Int.res r) (start args)) : Ret pg n_cost_each_int64_long_Int args r :=
  Ret_of (fn := Try.f76) Try.func76 rfl (by kernel_rfl) cost_each_int64_long_Int.m cost_each_int64_long_Int.mr (by rw [hn]; exact of_decide_eq_true (by kernel_rfl)) hW
def cost_each_api_Row_int64.k : K :=
  (.seq (.keep [0, 1] (.ops false [⟨(some 4), none, .mov (.c .nil)⟩]))
  (.seq (.keep [0, 1, 5] (.ops false [⟨(some 8), none, .mov (.t 0)⟩,
      ⟨(some 9), none, .len false (.t 8)⟩,
      ⟨(some 10), none, .new (.mks 1 8 (.int .i64 0)) [(.c (.int .i64 0)), (.t 9)]⟩,
      ⟨(some 5), none, .mov (.t 10)⟩]))
   (.seq (.seq (.keep [1, 5, 11, 12, 13] (.ops false [⟨(some 11), none, .mov (.t 0)⟩,
        ⟨(some 12), none, .len false (.t 11)⟩,
        ⟨(some 13), none, .mov (.c (.int .i64 0))⟩]))
     (.block 0 (.loop (.seq (.keep [1, 5, 11, 12, 13, 14] (.ops false [⟨(some 14), none, .bin .lss (.t 13) (.t 12)⟩]))
        (.seq (.cond (.t 14) .skip
          (.exit 0))
         (.seq (.block 1 (.seq (.keep [1, 5, 7, 11, 12, 13] (.ops false [⟨(some 15), none, .idxA 4 (.t 11) (.t 13)⟩,
               ⟨(some 16), none, .load 4 true (.t 15)⟩,
               ⟨(some 7), none, .alloc 4 (.agg [(.sl []), (.int .i64 0), (.int .i64 0), (.int .i64 0)])⟩,
               ⟨none, none, .store 4 (.t 7) (.t 16)⟩]))
            (.keep [1, 5, 11, 12, 13] (.ops false [⟨(some 17), none, .mov (.t 5)⟩,
               ⟨(some 18), none, .mov (.t 1)⟩,
               ⟨(some 19), none, .load 4 true (.t 7)⟩,
               ⟨(some 20), none, .callGV (.t 18) [(.t 19)]⟩,
               ⟨(some 21), none, .new (.bsl 1) [(.t 20)]⟩,
               ⟨(some 22), none, .eff (.app 1 8) [(.t 17), (.t 21)]⟩,
               ⟨(some 5), none, .mov (.t 22)⟩]))))
          (.keep [1, 5, 11, 12, 13] (.ops false [⟨(some 23), none, .bin .add (.t 13) (.c (.int .i64 1))⟩,
             ⟨(some 13), none, .mov (.t 23)⟩]))))))))
    (.seq (.keep [4] (.ops false [⟨(some 24), none, .mov (.t 5)⟩,
        ⟨(some 4), none, .mov (.t 24)⟩]))
     .ret))))
def cost_each_api_Row_int64.res : List RX := [(4, none)]
theorem cost_each_api_Row_int64.m : mK pg Try.f77.ntmps cost_each_api_Row_int64.k (Try.f77.body.getD .skip) = true := by kernel_rfl
theorem cost_each_api_Row_int64.mr : mRes pg Try.f77.results.toList cost_each_api_Row_int64.res = true := by kernel_rfl
theorem cost_each_api_Row_int64.of {args : List V} {r : V} (hn : args.length = 2) (hW : W pg cost_each_api_Row_int64.k (done cost_each_api_Row_int64.res r) (start args)) : Ret pg n_cost_each_api_Row_int64 args r :=
  Ret_of (fn := Try.f77) Try.func77 rfl (by kernel_rfl) cost_each_api_Row_int64.m cost_each_api_Row_int64.mr (by rw [hn]; exact of_decide_eq_true (by kernel_rfl)) hW
def cost_Value_1.k : K :=
  (.seq (.keep [1, 2] (.ops false [⟨(some 2), none, .boxP (.t 0)⟩,
     ⟨(some 3), none, .mov (.c (.int .i64 0))⟩]))
  (.seq (.keep [3] (.ops false [⟨(some 4), none, .load 4 true (.t 2)⟩,
      ⟨(some 5), none, .load 1 false (.t 1)⟩,
      ⟨(some 6), none, .callG n_factor_Cost [(.t 4), (.t 5)]⟩,
      ⟨(some 3), none, .mov (.t 6)⟩]))
   .ret))
def cost_Value_1.res : List RX := [(3, none)]
theorem cost_Value_1.m : mK pg Try.f78.ntmps cost_Value_1.k (Try.f78.body.getD .skip) = true := by kernel_rfl
theorem cost_Value_1.mr : mRes pg Try.f78.results.toList cost_Value_1.res = true := by kernel_rfl
theorem cost_Value_1.of {args : List V} {r : V} (hn : args.length = 2) (hW : W pg cost_Value_1.k (done cost_Value_1.res r) (start args)) : Ret pg n_cost_Value_1 args r :=
  Ret_of (fn := Try.f78) Try.func78 rfl (by kernel_rfl) cost_Value_1.m cost_Value_1.mr (by rw [hn]; exact of_decide_eq_true (by kernel_rfl)) hW
end Go.Gim

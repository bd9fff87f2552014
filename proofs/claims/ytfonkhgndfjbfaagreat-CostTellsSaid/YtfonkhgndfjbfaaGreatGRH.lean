import Derived.Test.YtfonkhgndfjbfaaGreatGN
/- Functions' code as data (written by wip/tools/gen.py), and the step to their contracts. -/
set_option maxRecDepth 100000
namespace Go.Gim
open Go.Proofs
def gimbalref09_Rho.k : K :=
  (.seq (.keep [0, 1] (.ops false [⟨(some 4), none, .mov (.c (.str ⟨#[]⟩))⟩]))
  (.seq (.keep [5, 7] (.ops false [⟨(some 11), none, .mov (.t 0)⟩,
      ⟨(some 12), none, .mov (.t 1)⟩,
      ⟨(some 13), none, .callG n_gimbalref09_cut [(.t 11), (.t 12)]⟩,
      ⟨(some 10), none, .mov (.t 13)⟩,
      ⟨(some 14), none, .ext (.t 10) 0⟩,
      ⟨(some 15), none, .ext (.t 10) 1⟩,
      ⟨(some 16), none, .ext (.t 10) 2⟩,
      ⟨(some 5), none, .mov (.t 14)⟩,
      ⟨(some 6), none, .mov (.t 15)⟩,
      ⟨(some 7), none, .mov (.t 16)⟩]))
   (.seq (.keep [5, 7, 8] (.ops false [⟨(some 17), none, .mov (.t 5)⟩,
       ⟨(some 18), none, .callG n_gimbalref01_Of [(.t 17)]⟩,
       ⟨(some 8), none, .alloc 2 (.agg [(.bool false), (.sl [])])⟩,
       ⟨none, none, .store 2 (.t 8) (.t 18)⟩]))
    (.seq (.seq (.keep [7, 8, 21] (.ops false [⟨(some 19), none, .mov (.t 5)⟩,
         ⟨(some 20), none, .mov (.t 7)⟩,
         ⟨(some 21), none, .bin .leq (.t 19) (.t 20)⟩]))
      (.cond (.t 21) (.seq (.keep [4] (.ops false [⟨(some 22), none, .load 2 true (.t 8)⟩,
           ⟨(some 23), none, .load 2 true (.t 8)⟩,
           ⟨(some 24), none, .callG n_gimbalref01_Int_Mul [(.t 22), (.t 23)]⟩,
           ⟨(some 25), none, .callG n_gimbalref01_Int_String [(.t 24)]⟩,
           ⟨(some 4), none, .mov (.t 25)⟩]))
        .ret)
       .skip))
     (.seq (.keep [8, 9] (.ops false [⟨(some 26), none, .mov (.t 7)⟩,
         ⟨(some 27), none, .callG n_gimbalref01_Of [(.t 26)]⟩,
         ⟨(some 9), none, .alloc 2 (.agg [(.bool false), (.sl [])])⟩,
         ⟨none, none, .store 2 (.t 9) (.t 27)⟩]))
      (.seq (.keep [4] (.ops true [⟨(some 28), none, .load 2 true (.t 9)⟩,
          ⟨(some 29), none, .load 2 true (.t 8)⟩,
          ⟨(some 30), none, .call n_gimbalref01_Int_Mul [(.t 28), (.t 29)]⟩,
          ⟨(some 31), none, .load 2 true (.t 9)⟩,
          ⟨(some 32), none, .load 2 true (.t 8)⟩,
          ⟨(some 33), none, .call n_gimbalref01_Int_Mul [(.t 31), (.t 32)]⟩,
          ⟨(some 34), none, .call n_gimbalref01_Int_Add [(.t 30), (.t 33)]⟩,
          ⟨(some 35), none, .load 2 true (.t 9)⟩,
          ⟨(some 36), none, .load 2 true (.t 9)⟩,
          ⟨(some 37), none, .call n_gimbalref01_Int_Mul [(.t 35), (.t 36)]⟩,
          ⟨(some 38), none, .call n_gimbalref01_Int_Sub [(.t 34), (.t 37)]⟩,
          ⟨(some 39), none, .call n_gimbalref01_Int_String [(.t 38)]⟩,
          ⟨(some 4), none, .mov (.t 39)⟩]))
       .ret))))))
def gimbalref09_Rho.res : List RX := [(4, none)]
theorem gimbalref09_Rho.m : mK pg Tryz.f84.ntmps gimbalref09_Rho.k (Tryz.f84.body.getD .skip) = true := by kernel_rfl
theorem gimbalref09_Rho.mr : mRes pg Tryz.f84.results.toList gimbalref09_Rho.res = true := by kernel_rfl
theorem gimbalref09_Rho.of {args : List V} {r : V} (hn : args.length = 2) (hW : W pg gimbalref09_Rho.k (done gimbalref09_Rho.res r) (start args)) : Ret pg n_gimbalref09_Rho args r :=
  Ret_of (fn := Tryz.f84) Tryz.func84 rfl (by kernel_rfl) gimbalref09_Rho.m gimbalref09_Rho.mr (by rw [hn]; exact of_decide_eq_true (by kernel_rfl)) hW
def gimbalref09_Slope.k : K :=
  (.seq (.keep [0, 1] (.ops false [⟨(some 4), none, .mov (.c (.int .i64 0))⟩]))
  (.seq (.keep [5, 6, 7] (.ops false [⟨(some 9), none, .mov (.t 0)⟩,
      ⟨(some 10), none, .mov (.t 1)⟩,
      ⟨(some 11), none, .callG n_gimbalref09_cut [(.t 9), (.t 10)]⟩,
      ⟨(some 8), none, .mov (.t 11)⟩,
      ⟨(some 12), none, .ext (.t 8) 0⟩,
      ⟨(some 13), none, .ext (.t 8) 1⟩,
      ⟨(some 14), none, .ext (.t 8) 2⟩,
      ⟨(some 5), none, .mov (.t 12)⟩,
      ⟨(some 6), none, .mov (.t 13)⟩,
      ⟨(some 7), none, .mov (.t 14)⟩]))
   (.seq (.seq (.keep [5, 6, 7, 17] (.ops false [⟨(some 15), none, .mov (.t 5)⟩,
        ⟨(some 16), none, .mov (.t 7)⟩,
        ⟨(some 17), none, .bin .gtr (.t 15) (.t 16)⟩]))
     (.cond (.t 17) (.keep [5, 6] (.ops false [⟨(some 18), none, .mov (.t 7)⟩,
         ⟨(some 5), none, .mov (.t 18)⟩]))
      .skip))
    (.seq (.seq (.keep [5, 19] (.ops false [⟨(some 19), none, .mov (.t 6)⟩]))
      (.cond (.t 19) (.seq (.keep [4] (.ops false [⟨(some 20), none, .mov (.t 5)⟩,
           ⟨(some 21), none, .un .neg (.t 20)⟩,
           ⟨(some 4), none, .mov (.t 21)⟩]))
        .ret)
       .skip))
     (.seq (.keep [4] (.ops false [⟨(some 22), none, .mov (.t 5)⟩,
         ⟨(some 4), none, .mov (.t 22)⟩]))
      .ret)))))
def gimbalref09_Slope.res : List RX := [(4, none)]
theorem gimbalref09_Slope.m : mK pg Tryz.f87.ntmps gimbalref09_Slope.k (Tryz.f87.body.getD .skip) = true := by kernel_rfl
theorem gimbalref09_Slope.mr : mRes pg Tryz.f87.results.toList gimbalref09_Slope.res = true := by kernel_rfl
theorem gimbalref09_Slope.of {args : List V} {r : V} (hn : args.length = 2) (hW : W pg gimbalref09_Slope.k (done gimbalref09_Slope.res r) (start args)) : Ret pg n_gimbalref09_Slope args r :=
  Ret_of (fn := Tryz.f87) Tryz.func87 rfl (by kernel_rfl) gimbalref09_Slope.m gimbalref09_Slope.mr (by rw [hn]; exact of_decide_eq_true (by kernel_rfl)) hW
def gimbalref09_cut.k : K :=
  (.seq (.keep [0, 1] (.ops false [⟨(some 4), none, .mov (.c (.int .i64 0))⟩,
     ⟨(some 5), none, .mov (.c (.bool false))⟩,
     ⟨(some 6), none, .mov (.c (.int .i64 0))⟩]))
  (.seq (.seq (.keep [0, 1, 8] (.ops false [⟨(some 7), none, .mov (.t 0)⟩,
       ⟨(some 8), none, .bin .lss (.t 7) (.c (.int .i64 (-2147483647)))⟩]))
    (.cond (.t 8) (.keep [0, 1] (.ops false [⟨(some 0), none, .mov (.c (.int .i64 (-2147483647)))⟩]))
     .skip))
   (.seq (.seq (.keep [0, 1, 10] (.ops false [⟨(some 9), none, .mov (.t 0)⟩,
        ⟨(some 10), none, .bin .gtr (.t 9) (.c (.int .i64 2147483647))⟩]))
     (.cond (.t 10) (.keep [0, 1] (.ops false [⟨(some 0), none, .mov (.c (.int .i64 2147483647))⟩]))
      .skip))
    (.seq (.seq (.keep [0, 1, 12] (.ops false [⟨(some 11), none, .mov (.t 1)⟩,
         ⟨(some 12), none, .bin .lss (.t 11) (.c (.int .i64 0))⟩]))
      (.cond (.t 12) (.keep [0, 1] (.ops false [⟨(some 1), none, .mov (.c (.int .i64 0))⟩]))
       .skip))
     (.seq (.seq (.keep [0, 1, 14] (.ops false [⟨(some 13), none, .mov (.t 1)⟩,
          ⟨(some 14), none, .bin .gtr (.t 13) (.c (.int .i64 2147483647))⟩]))
       (.cond (.t 14) (.keep [0, 1] (.ops false [⟨(some 1), none, .mov (.c (.int .i64 2147483647))⟩]))
        .skip))
      (.seq (.seq (.keep [0, 1, 16] (.ops false [⟨(some 15), none, .mov (.t 0)⟩,
           ⟨(some 16), none, .bin .lss (.t 15) (.c (.int .i64 0))⟩]))
        (.cond (.t 16) (.seq (.keep [4, 5, 6] (.ops false [⟨(some 17), none, .mov (.t 0)⟩,
             ⟨(some 18), none, .un .neg (.t 17)⟩,
             ⟨(some 19), none, .mov (.t 1)⟩,
             ⟨(some 4), none, .mov (.t 18)⟩,
             ⟨(some 5), none, .mov (.c (.bool true))⟩,
             ⟨(some 6), none, .mov (.t 19)⟩]))
          .ret)
         .skip))
       (.seq (.keep [4, 5, 6] (.ops false [⟨(some 20), none, .mov (.t 0)⟩,
           ⟨(some 21), none, .mov (.t 1)⟩,
           ⟨(some 4), none, .mov (.t 20)⟩,
           ⟨(some 5), none, .mov (.c (.bool false))⟩,
           ⟨(some 6), none, .mov (.t 21)⟩]))
        .ret)))))))
def gimbalref09_cut.res : List RX := [(4, none), (5, none), (6, none)]
theorem gimbalref09_cut.m : mK pg Tryz.f101.ntmps gimbalref09_cut.k (Tryz.f101.body.getD .skip) = true := by kernel_rfl
theorem gimbalref09_cut.mr : mRes pg Tryz.f101.results.toList gimbalref09_cut.res = true := by kernel_rfl
theorem gimbalref09_cut.of {args : List V} {r : V} (hn : args.length = 2) (hW : W pg gimbalref09_cut.k (done gimbalref09_cut.res r) (start args)) : Ret pg n_gimbalref09_cut args r :=
  Ret_of (fn := Tryz.f101) Tryz.func101 rfl (by kernel_rfl) gimbalref09_cut.m gimbalref09_cut.mr (by rw [hn]; exact of_decide_eq_true (by kernel_rfl)) hW
def gimbalref18_Value.k : K :=
  (.seq (.keep [1, 2, 4] (.ops false [⟨(some 2), none, .boxP (.t 0)⟩,
     ⟨(some 4), none, .alloc 2 (.agg [(.bool false), (.sl [])])⟩]))
  (.seq (.keep [1, 2, 4, 5] (.ops true [⟨(some 7), none, .fldA 2 4 true (.t 2)⟩,
      ⟨(some 8), none, .load 4 true (.t 7)⟩,
      ⟨(some 9), none, .mov (.t 1)⟩,
      ⟨(some 10), none, .call n_gimbalref18_Numbers [(.t 9)]⟩,
      ⟨(some 11), none, .call n_gimbalref08_Quad_Value [(.t 8), (.t 10)]⟩,
      ⟨(some 5), none, .alloc 2 (.agg [(.bool false), (.sl [])])⟩,
      ⟨none, none, .store 2 (.t 5) (.t 11)⟩]))
   (.seq (.seq (.keep [1, 2, 4, 5, 6] (.ops false [⟨(some 6), none, .mov (.c (.int .i64 0))⟩]))
     (.block 0 (.loop (.seq (.seq (.keep [1, 2, 4, 5, 6, 16] (.ops false [⟨(some 12), none, .mov (.t 6)⟩,
            ⟨(some 13), none, .fldA 1 1 false (.t 2)⟩,
            ⟨(some 14), none, .load 1 false (.t 13)⟩,
            ⟨(some 15), none, .len false (.t 14)⟩,
            ⟨(some 16), none, .bin .lss (.t 12) (.t 15)⟩]))
         (.cond (.t 16) .skip
          (.exit 0)))
        (.seq (.block 1 (.keep [1, 2, 4, 5, 6] (.ops true [⟨(some 19), none, .load 2 true (.t 5)⟩,
             ⟨(some 20), none, .fldA 1 1 false (.t 2)⟩,
             ⟨(some 21), none, .load 1 false (.t 20)⟩,
             ⟨(some 22), none, .mov (.t 6)⟩,
             ⟨(some 23), none, .idxA 4 (.t 21) (.t 22)⟩,
             ⟨(some 24), none, .load 4 true (.t 23)⟩,
             ⟨(some 25), none, .mov (.t 1)⟩,
             ⟨(some 26), none, .call n_gimbalref16_Cost [(.t 24), (.t 25)]⟩,
             ⟨(some 27), none, .fldA 6 2 true (.t 2)⟩,
             ⟨(some 28), none, .load 2 true (.t 27)⟩,
             ⟨(some 29), none, .call n_gimbalref01_Int_Mul [(.t 26), (.t 28)]⟩,
             ⟨(some 30), none, .call n_gimbalref01_Int_Add [(.t 19), (.t 29)]⟩,
             ⟨none, none, .store 2 (.t 5) (.t 30)⟩])))
         (.keep [1, 2, 4, 5, 6] (.ops false [⟨(some 17), none, .mov (.t 6)⟩,
            ⟨(some 18), none, .bin .add (.t 17) (.c (.int .i64 1))⟩,
            ⟨(some 6), none, .mov (.t 18)⟩])))))))
    (.seq (.keep [4] (.ops false [⟨(some 31), none, .load 2 true (.t 5)⟩,
        ⟨none, none, .store 2 (.t 4) (.t 31)⟩]))
     .ret))))
def gimbalref18_Value.res : List RX := [(4, some (2, true))]
theorem gimbalref18_Value.m : mK pg Tryz.f11.ntmps gimbalref18_Value.k (Tryz.f11.body.getD .skip) = true := by kernel_rfl
theorem gimbalref18_Value.mr : mRes pg Tryz.f11.results.toList gimbalref18_Value.res = true := by kernel_rfl
theorem gimbalref18_Value.of {args : List V} {r : V} (hn : args.length = 2) (hW : W pg gimbalref18_Value.k (done gimbalref18_Value.res r) (start args)) : Ret pg n_gimbalref18_Value args r :=
  Ret_of (fn := Tryz.f11) Tryz.func11 rfl (by kernel_rfl) gimbalref18_Value.m gimbalref18_Value.mr (by rw [hn]; exact of_decide_eq_true (by kernel_rfl)) hW
def gimbalref18_Steep.k : K :=
  (.seq (.keep [1, 2] (.ops false [⟨(some 2), none, .boxP (.t 0)⟩,
     ⟨(some 4), none, .mov (.c .nil)⟩]))
  (.seq (.keep [1, 2, 5] (.ops true [⟨(some 9), none, .fldA 2 4 true (.t 2)⟩,
      ⟨(some 10), none, .load 4 true (.t 9)⟩,
      ⟨(some 11), none, .mov (.t 1)⟩,
      ⟨(some 12), none, .call n_gimbalref18_Numbers [(.t 11)]⟩,
      ⟨(some 13), none, .callG n_gimbalref08_Quad_Slope [(.t 10), (.t 12)]⟩,
      ⟨(some 5), none, .mov (.t 13)⟩]))
   (.seq (.seq (.keep [1, 2, 5, 6] (.ops false [⟨(some 6), none, .mov (.c (.int .i64 0))⟩]))
     (.block 0 (.loop (.seq (.seq (.keep [1, 2, 5, 6, 18] (.ops false [⟨(some 14), none, .mov (.t 6)⟩,
            ⟨(some 15), none, .fldA 1 1 false (.t 2)⟩,
            ⟨(some 16), none, .load 1 false (.t 15)⟩,
            ⟨(some 17), none, .len false (.t 16)⟩,
            ⟨(some 18), none, .bin .lss (.t 14) (.t 17)⟩]))
         (.cond (.t 18) .skip
          (.exit 0)))
        (.seq (.block 1 (.seq (.keep [1, 2, 5, 6, 7] (.ops false [⟨(some 21), none, .fldA 1 1 false (.t 2)⟩,
              ⟨(some 22), none, .load 1 false (.t 21)⟩,
              ⟨(some 23), none, .mov (.t 6)⟩,
              ⟨(some 24), none, .idxA 4 (.t 22) (.t 23)⟩,
              ⟨(some 25), none, .load 4 true (.t 24)⟩,
              ⟨(some 26), none, .mov (.t 1)⟩,
              ⟨(some 27), none, .callG n_gimbalref16_Steep [(.t 25), (.t 26)]⟩,
              ⟨(some 7), none, .mov (.t 27)⟩]))
           (.seq (.keep [1, 2, 5, 6, 7, 8] (.ops false [⟨(some 8), none, .mov (.c (.int .i64 0))⟩]))
            (.block 2 (.loop (.seq (.seq (.keep [1, 2, 5, 6, 7, 8, 31] (.ops false [⟨(some 28), none, .mov (.t 8)⟩,
                   ⟨(some 29), none, .mov (.t 7)⟩,
                   ⟨(some 30), none, .len false (.t 29)⟩,
                   ⟨(some 31), none, .bin .lss (.t 28) (.t 30)⟩]))
                (.cond (.t 31) .skip
                 (.exit 2)))
               (.seq (.block 3 (.keep [1, 2, 5, 6, 7, 8] (.ops true [⟨(some 34), none, .mov (.t 5)⟩,
                    ⟨(some 35), none, .mov (.t 8)⟩,
                    ⟨(some 36), none, .mov (.t 5)⟩,
                    ⟨(some 37), none, .mov (.t 8)⟩,
                    ⟨(some 38), none, .idxA 2 (.t 36) (.t 37)⟩,
                    ⟨(some 39), none, .load 2 true (.t 38)⟩,
                    ⟨(some 40), none, .mov (.t 7)⟩,
                    ⟨(some 41), none, .mov (.t 8)⟩,
                    ⟨(some 42), none, .idxA 1 (.t 40) (.t 41)⟩,
                    ⟨(some 43), none, .load 1 false (.t 42)⟩,
                    ⟨(some 44), none, .call n_gimbalref01_Of [(.t 43)]⟩,
                    ⟨(some 45), none, .fldA 6 2 true (.t 2)⟩,
                    ⟨(some 46), none, .load 2 true (.t 45)⟩,
                    ⟨(some 47), none, .call n_gimbalref01_Int_Mul [(.t 44), (.t 46)]⟩,
                    ⟨(some 48), none, .call n_gimbalref01_Int_Add [(.t 39), (.t 47)]⟩,
                    ⟨(some 49), none, .idxA 2 (.t 34) (.t 35)⟩,
                    ⟨none, none, .store 2 (.t 49) (.t 48)⟩])))
                (.keep [1, 2, 5, 6, 7, 8] (.ops false [⟨(some 32), none, .mov (.t 8)⟩,
                   ⟨(some 33), none, .bin .add (.t 32) (.c (.int .i64 1))⟩,
                   ⟨(some 8), none, .mov (.t 33)⟩])))))))))
         (.keep [1, 2, 5, 6] (.ops false [⟨(some 19), none, .mov (.t 6)⟩,
            ⟨(some 20), none, .bin .add (.t 19) (.c (.int .i64 1))⟩,
            ⟨(some 6), none, .mov (.t 20)⟩])))))))
    (.seq (.keep [4] (.ops false [⟨(some 50), none, .mov (.t 5)⟩,
        ⟨(some 4), none, .mov (.t 50)⟩]))
     .ret))))
def gimbalref18_Steep.res : List RX := [(4, none)]
theorem gimbalref18_Steep.m : mK pg Tryz.f14.ntmps gimbalref18_Steep.k (Tryz.f14.body.getD .skip) = true := by kernel_rfl
theorem gimbalref18_Steep.mr : mRes pg Tryz.f14.results.toList gimbalref18_Steep.res = true := by kernel_rfl
theorem gimbalref18_Steep.of {args : List V} {r : V} (hn : args.length = 2) (hW : W pg gimbalref18_Steep.k (done gimbalref18_Steep.res r) (start args)) : Ret pg n_gimbalref18_Steep args r :=
  Ret_of (fn := Tryz.f14) Tryz.func14 rfl (by kernel_rfl) gimbalref18_Steep.m gimbalref18_Steep.mr (by rw [hn]; exact of_decide_eq_true (by kernel_rfl)) hW
def gimbalref18_Numbers.k : K :=
  (.seq (.keep [0] (.ops false [⟨(some 2), none, .mov (.c .nil)⟩]))
  (.seq (.keep [0, 3] (.ops false [⟨(some 3), none, .mov (.c .nil)⟩]))
   (.seq (.seq (.keep [0, 3, 4] (.ops false [⟨(some 4), none, .mov (.c (.int .i64 0))⟩]))
     (.block 0 (.loop (.seq (.seq (.keep [0, 3, 4, 8] (.ops false [⟨(some 5), none, .mov (.t 4)⟩,
            ⟨(some 6), none, .mov (.t 0)⟩,
            ⟨(some 7), none, .len false (.t 6)⟩,
            ⟨(some 8), none, .bin .lss (.t 5) (.t 7)⟩]))
         (.cond (.t 8) .skip
          (.exit 0)))
        (.seq (.block 1 (.keep [0, 3, 4] (.ops false [⟨(some 11), none, .mov (.t 3)⟩,
             ⟨(some 12), none, .mov (.t 0)⟩,
             ⟨(some 13), none, .mov (.t 4)⟩,
             ⟨(some 14), none, .idxA 1 (.t 12) (.t 13)⟩,
             ⟨(some 15), none, .load 1 false (.t 14)⟩,
             ⟨(some 16), none, .callG n_gimbalref01_Of [(.t 15)]⟩,
             ⟨(some 17), none, .new (.bsl 2) [(.t 16)]⟩,
             ⟨(some 18), none, .eff (.app 2 32) [(.t 11), (.t 17)]⟩,
             ⟨(some 3), none, .mov (.t 18)⟩])))
         (.keep [0, 3, 4] (.ops false [⟨(some 9), none, .mov (.t 4)⟩,
            ⟨(some 10), none, .bin .add (.t 9) (.c (.int .i64 1))⟩,
            ⟨(some 4), none, .mov (.t 10)⟩])))))))
    (.seq (.keep [2] (.ops false [⟨(some 19), none, .mov (.t 3)⟩,
        ⟨(some 2), none, .mov (.t 19)⟩]))
     .ret))))
def gimbalref18_Numbers.res : List RX := [(2, none)]
theorem gimbalref18_Numbers.m : mK pg Tryz.f44.ntmps gimbalref18_Numbers.k (Tryz.f44.body.getD .skip) = true := by kernel_rfl
theorem gimbalref18_Numbers.mr : mRes pg Tryz.f44.results.toList gimbalref18_Numbers.res = true := by kernel_rfl
theorem gimbalref18_Numbers.of {args : List V} {r : V} (hn : args.length = 1) (hW : W pg gimbalref18_Numbers.k (done gimbalref18_Numbers.res r) (start args)) : Ret pg n_gimbalref18_Numbers args r :=
  Ret_of (fn := Tryz.f44) Tryz.func44 rfl (by kernel_rfl) gimbalref18_Numbers.m gimbalref18_Numbers.mr (by rw [hn]; exact of_decide_eq_true (by kernel_rfl)) hW
end Go.Gim

import Derived.Test.YtfonkhgndfjbfaaGN
/- Functions' code as data (written by wip/tools/gen.py), and the step to their contracts. -/
set_option maxRecDepth 100000
namespace Go.Gim
open Go.Proofs
def graph_New.k : K :=
  (.seq (.keep [1, 2, 4] (.ops false [⟨(some 2), none, .boxP (.t 0)⟩,
     ⟨(some 4), none, .alloc 8 (.agg [(.int .i64 0), .nil, .nil, .nil, (.bool false), (.sl []), (.bool false), (.sl [])])⟩,
     ⟨(some 5), none, .mov (.c (.int .i64 0))⟩]))
  (.seq (.block 0 (.seq (.keep [1, 2, 4, 7] (.ops false [⟨(some 8), none, .load 1 false (.t 2)⟩,
        ⟨(some 9), none, .bin .lss (.t 8) (.c (.int .i64 1))⟩,
        ⟨(some 10), none, .mov (.t 9)⟩,
        ⟨(some 11), (some (10, false)), .load 1 false (.t 2)⟩,
        ⟨(some 12), (some (10, false)), .bin .gtr (.t 11) (.c (.int .i64 11))⟩,
        ⟨(some 13), none, .pick (.t 10) (.c (.bool true)) (.t 12)⟩,
        ⟨(some 7), none, .mov (.t 13)⟩]))
     (.cond (.t 7) (.seq (.keep [4, 5] (.ops false [⟨(some 14), none, .build [(.int .i64 0), .nil, .nil, .nil, (.bool false), (.sl []), (.bool false), (.sl [])] []⟩,
          ⟨none, none, .store 8 (.t 4) (.t 14)⟩,
          ⟨(some 5), none, .mov (.c (.int .i64 1))⟩]))
       .ret)
      (.seq (.keep [1, 2, 4, 15] (.ops false [⟨(some 16), none, .mov (.t 1)⟩,
          ⟨(some 17), none, .len false (.t 16)⟩,
          ⟨(some 18), none, .bin .gtr (.t 17) (.c (.int .i64 60))⟩,
          ⟨(some 15), none, .mov (.t 18)⟩]))
       (.cond (.t 15) (.seq (.keep [4, 5] (.ops false [⟨(some 19), none, .build [(.int .i64 0), .nil, .nil, .nil, (.bool false), (.sl []), (.bool false), (.sl [])] []⟩,
            ⟨none, none, .store 8 (.t 4) (.t 19)⟩,
            ⟨(some 5), none, .mov (.c (.int .i64 3))⟩]))
         .ret)
        (.seq (.keep [1, 2, 4, 20] (.ops false [⟨(some 21), none, .mov (.t 1)⟩,
            ⟨(some 22), none, .mkFn n_graph_New_1 [(.t 2)]⟩,
            ⟨(some 23), none, .callG n_slices_ContainsFunc_Lapi_Row_api_Row [(.t 21), (.t 22)]⟩,
            ⟨(some 20), none, .mov (.t 23)⟩]))
         (.cond (.t 20) (.seq (.keep [4, 5] (.ops false [⟨(some 24), none, .build [(.int .i64 0), .nil, .nil, .nil, (.bool false), (.sl []), (.bool false), (.sl [])] []⟩,
              ⟨none, none, .store 8 (.t 4) (.t 24)⟩,
              ⟨(some 5), none, .mov (.c (.int .i64 160))⟩]))
           .ret)
          .skip)))))))
   (.seq (.keep [2, 4, 6] (.ops true [⟨(some 25), none, .load 1 false (.t 2)⟩,
       ⟨(some 26), none, .mov (.t 1)⟩,
       ⟨(some 27), none, .call n_long_Of [(.c (.int .i64 1))]⟩,
       ⟨(some 28), none, .build [(.int .i64 0), .nil, .nil, .nil, (.bool false), (.sl []), (.bool false), (.sl [])] [(0, 1, (.t 25)), (1, 1, (.t 26)), (6, 2, (.t 27))]⟩,
       ⟨(some 6), none, .alloc 8 (.agg [(.int .i64 0), .nil, .nil, .nil, (.bool false), (.sl []), (.bool false), (.sl [])])⟩,
       ⟨none, none, .store 8 (.t 6) (.t 28)⟩]))
    (.seq (.keep [4, 6] (.ops false [⟨(some 29), none, .load 1 false (.t 2)⟩,
        ⟨(some 30), none, .new (.mks 2 32 (.agg [(.bool false), (.sl [])])) [(.t 29), (.t 29)]⟩,
        ⟨(some 31), none, .fldA 2 4 true (.t 6)⟩,
        ⟨(some 32), none, .fldA 1 1 false (.t 31)⟩,
        ⟨none, none, .store 1 (.t 32) (.t 30)⟩]))
     (.seq (.keep [4, 6] (.ops false [⟨(some 33), none, .load 8 true (.t 6)⟩,
         ⟨(some 34), none, .callG n_graph_Graph_made [(.t 33), (.c (.fn n_graph_New_2 []))]⟩,
         ⟨(some 35), none, .fldA 2 4 true (.t 6)⟩,
         ⟨(some 36), none, .fldA 0 1 false (.t 35)⟩,
         ⟨none, none, .store 1 (.t 36) (.t 34)⟩]))
      (.seq (.keep [4, 5] (.ops false [⟨(some 37), none, .load 8 true (.t 6)⟩,
          ⟨none, none, .store 8 (.t 4) (.t 37)⟩,
          ⟨(some 5), none, .mov (.c (.int .i64 0))⟩]))
       .ret))))))
def graph_New.res : List RX := [(4, some (8, true)), (5, none)]
theorem graph_New.m : mK pg Try.f14.ntmps graph_New.k (Try.f14.body.getD .skip) = true := by kernel_rfl
theorem graph_New.mr : mRes pg Try.f14.results.toList graph_New.res = true := by kernel_rfl
theorem graph_New.of {args : List V} {r : V} (hn : args.length = 2) (hW : W pg graph_New.k (done graph_New.res r) (start args)) : Ret pg n_graph_New args r :=
  Ret_of (fn := Try.f14) Try.func14 rfl (by kernel_rfl) graph_New.m graph_New.mr (by rw [hn]; exact of_decide_eq_true (by kernel_rfl)) hW
def graph_New_1.k : K :=
  (.seq (.keep [1, 2] (.ops false [⟨(some 2), none, .boxP (.t 0)⟩,
     ⟨(some 3), none, .mov (.c (.bool false))⟩]))
  (.seq (.keep [3] (.ops false [⟨(some 4), none, .load 4 true (.t 2)⟩,
      ⟨(some 5), none, .load 1 false (.t 1)⟩,
      ⟨(some 6), none, .callG n_factor_Right [(.t 4), (.t 5)]⟩,
      ⟨(some 7), none, .un .not (.t 6)⟩,
      ⟨(some 3), none, .mov (.t 7)⟩]))
   .ret))
def graph_New_1.res : List RX := [(3, none)]
theorem graph_New_1.m : mK pg Try.f45.ntmps graph_New_1.k (Try.f45.body.getD .skip) = true := by kernel_rfl
theorem graph_New_1.mr : mRes pg Try.f45.results.toList graph_New_1.res = true := by kernel_rfl
theorem graph_New_1.of {args : List V} {r : V} (hn : args.length = 2) (hW : W pg graph_New_1.k (done graph_New_1.res r) (start args)) : Ret pg n_graph_New_1 args r :=
  Ret_of (fn := Try.f45) Try.func45 rfl (by kernel_rfl) graph_New_1.m graph_New_1.mr (by rw [hn]; exact of_decide_eq_true (by kernel_rfl)) hW
def graph_New_2.k : K :=
  (.seq (.keep [4] (.ops false [⟨(some 4), none, .alloc 2 (.agg [(.bool false), (.sl [])])⟩]))
  (.seq (.keep [4] (.ops false [⟨(some 5), none, .build [(.bool false), (.sl [])] []⟩,
      ⟨none, none, .store 2 (.t 4) (.t 5)⟩]))
   .ret))
def graph_New_2.res : List RX := [(4, some (2, true))]
theorem graph_New_2.m : mK pg Try.f48.ntmps graph_New_2.k (Try.f48.body.getD .skip) = true := by kernel_rfl
theorem graph_New_2.mr : mRes pg Try.f48.results.toList graph_New_2.res = true := by kernel_rfl
theorem graph_New_2.of {args : List V} {r : V} (hn : args.length = 2) (hW : W pg graph_New_2.k (done graph_New_2.res r) (start args)) : Ret pg n_graph_New_2 args r :=
  Ret_of (fn := Try.f48) Try.func48 rfl (by kernel_rfl) graph_New_2.m graph_New_2.mr (by rw [hn]; exact of_decide_eq_true (by kernel_rfl)) hW
def graph_Graph_Share.k : K :=
  (.seq (.keep [2, 4] (.ops false [⟨(some 3), none, .boxP (.t 0)⟩,
     ⟨(some 4), none, .boxP (.t 1)⟩,
     ⟨(some 6), none, .mov (.c (.int .i64 0))⟩]))
  (.seq (.keep [4, 7] (.ops false [⟨(some 8), none, .load 4 true (.t 4)⟩,
      ⟨(some 9), none, .mov (.t 2)⟩,
      ⟨(some 10), none, .callG n_factor_Residual [(.t 8), (.t 9)]⟩,
      ⟨(some 7), none, .mov (.t 10)⟩]))
   (.seq (.keep [4, 7] (.ops false [⟨(some 11), none, .mov (.t 7)⟩,
       ⟨(some 12), none, .mov (.t 7)⟩,
       ⟨(some 13), none, .un .neg (.t 12)⟩,
       ⟨(some 14), none, .mm true (.t 11) [(.t 13)]⟩,
       ⟨(some 7), none, .mov (.t 14)⟩]))
    (.seq (.seq (.keep [4, 7, 18] (.ops false [⟨(some 15), none, .mov (.t 7)⟩,
         ⟨(some 16), none, .fldA 2 1 false (.t 4)⟩,
         ⟨(some 17), none, .load 1 false (.t 16)⟩,
         ⟨(some 18), none, .bin .leq (.t 15) (.t 17)⟩]))
      (.cond (.t 18) (.seq (.keep [6] (.ops false [⟨(some 6), none, .mov (.c (.int .i64 1024))⟩]))
        .ret)
       .skip))
     (.seq (.keep [6] (.ops false [⟨(some 19), none, .fldA 2 1 false (.t 4)⟩,
         ⟨(some 20), none, .load 1 false (.t 19)⟩,
         ⟨(some 21), none, .bin .mul (.c (.int .i64 1024)) (.t 20)⟩,
         ⟨(some 22), none, .mov (.t 7)⟩,
         ⟨(some 23), none, .bin .quo (.t 21) (.t 22)⟩,
         ⟨(some 24), none, .mm true (.c (.int .i64 1)) [(.t 23)]⟩,
         ⟨(some 6), none, .mov (.t 24)⟩]))
      .ret)))))
def graph_Graph_Share.res : List RX := [(6, none)]
theorem graph_Graph_Share.m : mK pg Try.f21.ntmps graph_Graph_Share.k (Try.f21.body.getD .skip) = true := by kernel_rfl
theorem graph_Graph_Share.mr : mRes pg Try.f21.results.toList graph_Graph_Share.res = true := by kernel_rfl
theorem graph_Graph_Share.of {args : List V} {r : V} (hn : args.length = 3) (hW : W pg graph_Graph_Share.k (done graph_Graph_Share.res r) (start args)) : Ret pg n_graph_Graph_Share args r :=
  Ret_of (fn := Try.f21) Try.func21 rfl (by kernel_rfl) graph_Graph_Share.m graph_Graph_Share.mr (by rw [hn]; exact of_decide_eq_true (by kernel_rfl)) hW
def graph_Graph_Curve.k : K :=
  (.seq (.keep [1, 2] (.ops false [⟨(some 2), none, .boxP (.t 0)⟩,
     ⟨(some 4), none, .mov (.c .nil)⟩]))
  (.seq (.keep [1, 2, 5] (.ops false [⟨(some 5), none, .alloc 1 .nil⟩]))
   (.seq (.seq (.keep [1, 2, 5, 9, 10, 11] (.ops false [⟨(some 8), none, .fldA 1 1 false (.t 2)⟩,
        ⟨(some 9), none, .load 1 false (.t 8)⟩,
        ⟨(some 10), none, .len false (.t 9)⟩,
        ⟨(some 11), none, .mov (.c (.int .i64 0))⟩]))
     (.block 0 (.loop (.seq (.keep [1, 2, 5, 9, 10, 11, 12] (.ops false [⟨(some 12), none, .bin .lss (.t 11) (.t 10)⟩]))
        (.seq (.cond (.t 12) .skip
          (.exit 0))
         (.seq (.block 1 (.seq (.keep [1, 2, 5, 7, 9, 10, 11] (.ops false [⟨(some 13), none, .idxA 4 (.t 9) (.t 11)⟩,
               ⟨(some 14), none, .load 4 true (.t 13)⟩,
               ⟨(some 7), none, .alloc 4 (.agg [(.sl []), (.int .i64 0), (.int .i64 0), (.int .i64 0)])⟩,
               ⟨none, none, .store 4 (.t 7) (.t 14)⟩]))
            (.keep [1, 2, 5, 9, 10, 11] (.ops true [⟨(some 15), none, .load 1 false (.t 5)⟩,
               ⟨(some 16), none, .fldA 3 1 false (.t 7)⟩,
               ⟨(some 17), none, .load 1 false (.t 16)⟩,
               ⟨(some 18), none, .load 8 true (.t 2)⟩,
               ⟨(some 19), none, .load 4 true (.t 7)⟩,
               ⟨(some 20), none, .mov (.t 1)⟩,
               ⟨(some 21), none, .call n_graph_Graph_Share [(.t 18), (.t 19), (.t 20)]⟩,
               ⟨(some 22), none, .bin .mul (.t 17) (.t 21)⟩,
               ⟨(some 23), none, .new (.bsl 1) [(.t 22)]⟩,
               ⟨(some 24), none, .eff (.app 1 8) [(.t 15), (.t 23)]⟩,
               ⟨none, none, .store 1 (.t 5) (.t 24)⟩]))))
          (.keep [1, 2, 5, 9, 10, 11] (.ops false [⟨(some 25), none, .bin .add (.t 11) (.c (.int .i64 1))⟩,
             ⟨(some 11), none, .mov (.t 25)⟩]))))))))
    (.seq (.keep [4] (.ops false [⟨(some 26), none, .load 8 true (.t 2)⟩,
        ⟨(some 27), none, .mkFn n_graph_Graph_Curve_1 [(.t 2), (.t 5)]⟩,
        ⟨(some 28), none, .callG n_graph_Graph_made [(.t 26), (.t 27)]⟩,
        ⟨(some 4), none, .mov (.t 28)⟩]))
     .ret))))
def graph_Graph_Curve.res : List RX := [(4, none)]
theorem graph_Graph_Curve.m : mK pg Try.f24.ntmps graph_Graph_Curve.k (Try.f24.body.getD .skip) = true := by kernel_rfl
theorem graph_Graph_Curve.mr : mRes pg Try.f24.results.toList graph_Graph_Curve.res = true := by kernel_rfl
theorem graph_Graph_Curve.of {args : List V} {r : V} (hn : args.length = 2) (hW : W pg graph_Graph_Curve.k (done graph_Graph_Curve.res r) (start args)) : Ret pg n_graph_Graph_Curve args r :=
  Ret_of (fn := Try.f24) Try.func24 rfl (by kernel_rfl) graph_Graph_Curve.m graph_Graph_Curve.mr (by rw [hn]; exact of_decide_eq_true (by kernel_rfl)) hW
def graph_Graph_With.k : K :=
  (.seq (.keep [3, 4, 5, 6] (.ops false [⟨(some 3), none, .eff (.boxO 8) [(.t 0)]⟩,
     ⟨(some 4), none, .boxP (.t 1)⟩,
     ⟨(some 5), none, .boxP (.t 2)⟩,
     ⟨(some 6), none, .alloc 8 (.agg [(.int .i64 0), .nil, .nil, .nil, (.bool false), (.sl []), (.bool false), (.sl [])])⟩,
     ⟨(some 7), none, .mov (.c (.int .i64 0))⟩]))
  (.seq (.seq (.keep [3, 4, 5, 6, 26] (.ops false [⟨(some 8), none, .fldA 0 1 false (.t 4)⟩,
       ⟨(some 9), none, .load 1 false (.t 8)⟩,
       ⟨(some 10), none, .len false (.t 9)⟩,
       ⟨(some 11), none, .fldA 0 1 false (.t 3)⟩,
       ⟨(some 12), none, .load 1 false (.t 11)⟩,
       ⟨(some 13), none, .bin .neq (.t 10) (.t 12)⟩,
       ⟨(some 14), none, .mov (.t 13)⟩,
       ⟨(some 15), (some (14, false)), .fldA 1 1 false (.t 4)⟩,
       ⟨(some 16), (some (14, false)), .load 1 false (.t 15)⟩,
       ⟨(some 17), (some (14, false)), .len false (.t 16)⟩,
       ⟨(some 18), (some (14, false)), .fldA 0 1 false (.t 3)⟩,
       ⟨(some 19), (some (14, false)), .load 1 false (.t 18)⟩,
       ⟨(some 20), (some (14, false)), .bin .neq (.t 17) (.t 19)⟩,
       ⟨(some 21), none, .pick (.t 14) (.c (.bool true)) (.t 20)⟩,
       ⟨(some 22), none, .mov (.t 21)⟩,
       ⟨(some 23), (some (22, false)), .load 2 true (.t 5)⟩,
       ⟨(some 24), (some (22, false)), .callG n_long_Int_Sign [(.t 23)]⟩,
       ⟨(some 25), (some (22, false)), .bin .leq (.t 24) (.c (.int .i64 0))⟩,
       ⟨(some 26), none, .pick (.t 22) (.c (.bool true)) (.t 25)⟩]))
    (.cond (.t 26) (.seq (.keep [6, 7] (.ops false [⟨(some 27), none, .build [(.int .i64 0), .nil, .nil, .nil, (.bool false), (.sl []), (.bool false), (.sl [])] []⟩,
         ⟨none, none, .store 8 (.t 6) (.t 27)⟩,
         ⟨(some 7), none, .mov (.c (.int .i64 1))⟩]))
      .ret)
     .skip))
   (.seq (.keep [3, 6] (.ops true [⟨(some 28), none, .red (.ldP 4 true) [(.t 4)]⟩,
       ⟨(some 29), none, .red (.ldP 2 true) [(.t 5)]⟩,
       ⟨(some 30), none, .fldA 2 4 true (.t 3)⟩,
       ⟨none, none, .store 4 (.t 30) (.t 28)⟩,
       ⟨(some 31), none, .fldA 6 2 true (.t 3)⟩,
       ⟨none, none, .store 2 (.t 31) (.t 29)⟩]))
    (.seq (.keep [6, 7] (.ops false [⟨(some 32), none, .load 8 true (.t 3)⟩,
        ⟨none, none, .store 8 (.t 6) (.t 32)⟩,
        ⟨(some 7), none, .mov (.c (.int .i64 0))⟩]))
     .ret))))
def graph_Graph_With.res : List RX := [(6, some (8, true)), (7, none)]
theorem graph_Graph_With.m : mK pg Try.f29.ntmps graph_Graph_With.k (Try.f29.body.getD .skip) = true := by kernel_rfl
theorem graph_Graph_With.mr : mRes pg Try.f29.results.toList graph_Graph_With.res = true := by kernel_rfl
theorem graph_Graph_With.of {args : List V} {r : V} (hn : args.length = 3) (hW : W pg graph_Graph_With.k (done graph_Graph_With.res r) (start args)) : Ret pg n_graph_Graph_With args r :=
  Ret_of (fn := Try.f29) Try.func29 rfl (by kernel_rfl) graph_Graph_With.m graph_Graph_With.mr (by rw [hn]; exact of_decide_eq_true (by kernel_rfl)) hW
def graph_Graph_made.k : K :=
  (.seq (.keep [1, 2] (.ops false [⟨(some 2), none, .boxP (.t 0)⟩,
     ⟨(some 4), none, .mov (.c .nil)⟩]))
  (.seq (.keep [1, 2, 5] (.ops false [⟨(some 5), none, .mov (.c .nil)⟩]))
   (.seq (.seq (.keep [1, 2, 5, 10, 11] (.ops false [⟨(some 9), none, .fldA 0 1 false (.t 2)⟩,
        ⟨(some 10), none, .load 1 false (.t 9)⟩,
        ⟨(some 11), none, .mov (.c (.int .i64 0))⟩]))
     (.block 0 (.loop (.seq (.keep [1, 2, 5, 10, 11, 12] (.ops false [⟨(some 12), none, .bin .lss (.t 11) (.t 10)⟩]))
        (.seq (.cond (.t 12) .skip
          (.exit 0))
         (.seq (.block 1 (.seq (.keep [1, 2, 5, 6, 10, 11] (.ops false [⟨(some 13), none, .mov (.t 11)⟩,
               ⟨(some 6), none, .mov (.t 13)⟩]))
            (.seq (.keep [1, 2, 5, 6, 7, 10, 11] (.ops false [⟨(some 7), none, .mov (.c .nil)⟩]))
             (.seq (.seq (.keep [1, 2, 5, 6, 7, 10, 11, 15, 16] (.ops false [⟨(some 14), none, .fldA 0 1 false (.t 2)⟩,
                  ⟨(some 15), none, .load 1 false (.t 14)⟩,
                  ⟨(some 16), none, .mov (.c (.int .i64 0))⟩]))
               (.block 2 (.loop (.seq (.keep [1, 2, 5, 6, 7, 10, 11, 15, 16, 17] (.ops false [⟨(some 17), none, .bin .lss (.t 16) (.t 15)⟩]))
                  (.seq (.cond (.t 17) .skip
                    (.exit 2))
                   (.seq (.block 3 (.seq (.keep [1, 2, 5, 6, 7, 8, 10, 11, 15, 16] (.ops false [⟨(some 18), none, .mov (.t 16)⟩,
                         ⟨(some 8), none, .mov (.t 18)⟩]))
                      (.keep [1, 2, 5, 6, 7, 10, 11, 15, 16] (.ops false [⟨(some 19), none, .mov (.t 7)⟩,
                         ⟨(some 20), none, .mov (.t 1)⟩,
                         ⟨(some 21), none, .mov (.t 6)⟩,
                         ⟨(some 22), none, .mov (.t 8)⟩,
                         ⟨(some 23), none, .callGV (.t 20) [(.t 21), (.t 22)]⟩,
                         ⟨(some 24), none, .new (.bsl 2) [(.t 23)]⟩,
                         ⟨(some 25), none, .eff (.app 2 32) [(.t 19), (.t 24)]⟩,
                         ⟨(some 7), none, .mov (.t 25)⟩]))))
                    (.keep [1, 2, 5, 6, 7, 10, 11, 15, 16] (.ops false [⟨(some 26), none, .bin .add (.t 16) (.c (.int .i64 1))⟩,
                       ⟨(some 16), none, .mov (.t 26)⟩]))))))))
              (.gh (.keep [1, 2, 5, 10, 11] (.ops false [⟨(some 27), none, .mov (.t 5)⟩,
                 ⟨(some 28), none, .mov (.t 7)⟩,
                 ⟨(some 29), none, .new (.bsl 1) [(.t 28)]⟩,
                 ⟨(some 30), none, .eff (.app 1 24) [(.t 27), (.t 29)]⟩,
                 ⟨(some 5), none, .mov (.t 30)⟩])))))))
          (.keep [1, 2, 5, 10, 11] (.ops false [⟨(some 31), none, .bin .add (.t 11) (.c (.int .i64 1))⟩,
             ⟨(some 11), none, .mov (.t 31)⟩]))))))))
    (.seq (.keep [4] (.ops false [⟨(some 32), none, .mov (.t 5)⟩,
        ⟨(some 4), none, .mov (.t 32)⟩]))
     .ret))))
def graph_Graph_made.res : List RX := [(4, none)]
theorem graph_Graph_made.m : mK pg Try.f47.ntmps graph_Graph_made.k (Try.f47.body.getD .skip) = true := by kernel_rfl
theorem graph_Graph_made.mr : mRes pg Try.f47.results.toList graph_Graph_made.res = true := by kernel_rfl
theorem graph_Graph_made.of {args : List V} {r : V} (hn : args.length = 2) (hW : W pg graph_Graph_made.k (done graph_Graph_made.res r) (start args)) : Ret pg n_graph_Graph_made args r :=
  Ret_of (fn := Try.f47) Try.func47 rfl (by kernel_rfl) graph_Graph_made.m graph_Graph_made.mr (by rw [hn]; exact of_decide_eq_true (by kernel_rfl)) hW
def graph_Graph_Curve_1.k : K :=
  (.seq (.keep [0, 1, 2, 3, 6] (.ops false [⟨(some 6), none, .alloc 2 (.agg [(.bool false), (.sl [])])⟩]))
  (.seq (.keep [0, 1, 2, 3, 6, 7] (.ops false [⟨(some 7), none, .alloc 2 (.agg [(.bool false), (.sl [])])⟩]))
   (.seq (.seq (.keep [0, 1, 2, 3, 6, 7, 11, 12, 13] (.ops false [⟨(some 10), none, .fldA 1 1 false (.t 2)⟩,
        ⟨(some 11), none, .load 1 false (.t 10)⟩,
        ⟨(some 12), none, .len false (.t 11)⟩,
        ⟨(some 13), none, .mov (.c (.int .i64 0))⟩]))
     (.block 0 (.loop (.seq (.keep [0, 1, 2, 3, 6, 7, 11, 12, 13, 14] (.ops false [⟨(some 14), none, .bin .lss (.t 13) (.t 12)⟩]))
        (.seq (.cond (.t 14) .skip
          (.exit 0))
         (.seq (.block 1 (.seq (.keep [0, 1, 2, 3, 6, 7, 8, 9, 11, 12, 13] (.ops false [⟨(some 15), none, .mov (.t 13)⟩,
               ⟨(some 16), none, .idxA 4 (.t 11) (.t 13)⟩,
               ⟨(some 17), none, .load 4 true (.t 16)⟩,
               ⟨(some 9), none, .alloc 4 (.agg [(.sl []), (.int .i64 0), (.int .i64 0), (.int .i64 0)])⟩,
               ⟨(some 8), none, .mov (.t 15)⟩,
               ⟨none, none, .store 4 (.t 9) (.t 17)⟩]))
            (.keep [0, 1, 2, 3, 6, 7, 11, 12, 13] (.ops true [⟨(some 18), none, .load 2 true (.t 7)⟩,
               ⟨(some 19), none, .load 1 false (.t 3)⟩,
               ⟨(some 20), none, .mov (.t 8)⟩,
               ⟨(some 21), none, .idxA 1 (.t 19) (.t 20)⟩,
               ⟨(some 22), none, .load 1 false (.t 21)⟩,
               ⟨(some 23), none, .fldA 0 1 false (.t 9)⟩,
               ⟨(some 24), none, .load 1 false (.t 23)⟩,
               ⟨(some 25), none, .mov (.t 0)⟩,
               ⟨(some 26), none, .idxA 1 (.t 24) (.t 25)⟩,
               ⟨(some 27), none, .load 1 false (.t 26)⟩,
               ⟨(some 28), none, .bin .mul (.t 22) (.t 27)⟩,
               ⟨(some 29), none, .fldA 0 1 false (.t 9)⟩,
               ⟨(some 30), none, .load 1 false (.t 29)⟩,
               ⟨(some 31), none, .mov (.t 1)⟩,
               ⟨(some 32), none, .idxA 1 (.t 30) (.t 31)⟩,
               ⟨(some 33), none, .load 1 false (.t 32)⟩,
               ⟨(some 34), none, .bin .mul (.t 28) (.t 33)⟩,
               ⟨(some 35), none, .call n_long_Of [(.t 34)]⟩,
               ⟨(some 36), none, .call n_long_Int_Add [(.t 18), (.t 35)]⟩,
               ⟨none, none, .store 2 (.t 7) (.t 36)⟩]))))
          (.keep [0, 1, 2, 3, 6, 7, 11, 12, 13] (.ops false [⟨(some 37), none, .bin .add (.t 13) (.c (.int .i64 1))⟩,
             ⟨(some 13), none, .mov (.t 37)⟩]))))))))
    (.seq (.keep [6] (.ops true [⟨(some 38), none, .load 2 true (.t 7)⟩,
        ⟨(some 39), none, .fldA 6 2 true (.t 2)⟩,
        ⟨(some 40), none, .load 2 true (.t 39)⟩,
        ⟨(some 41), none, .call n_long_Int_Mul [(.t 38), (.t 40)]⟩,
        ⟨(some 42), none, .fldA 2 4 true (.t 2)⟩,
        ⟨(some 43), none, .fldA 0 1 false (.t 42)⟩,
        ⟨(some 44), none, .load 1 false (.t 43)⟩,
        ⟨(some 45), none, .mov (.t 0)⟩,
        ⟨(some 46), none, .idxA 1 (.t 44) (.t 45)⟩,
        ⟨(some 47), none, .load 1 false (.t 46)⟩,
        ⟨(some 48), none, .mov (.t 1)⟩,
        ⟨(some 49), none, .idxA 2 (.t 47) (.t 48)⟩,
        ⟨(some 50), none, .load 2 true (.t 49)⟩,
        ⟨(some 51), none, .call n_long_Of [(.c (.int .i64 1024))]⟩,
        ⟨(some 52), none, .call n_long_Int_Mul [(.t 50), (.t 51)]⟩,
        ⟨(some 53), none, .call n_long_Int_Add [(.t 41), (.t 52)]⟩,
        ⟨none, none, .store 2 (.t 6) (.t 53)⟩]))
     .ret))))
def graph_Graph_Curve_1.res : List RX := [(6, some (2, true))]
theorem graph_Graph_Curve_1.m : mK pg Try.f56.ntmps graph_Graph_Curve_1.k (Try.f56.body.getD .skip) = true := by kernel_rfl
theorem graph_Graph_Curve_1.mr : mRes pg Try.f56.results.toList graph_Graph_Curve_1.res = true := by kernel_rfl
theorem graph_Graph_Curve_1.of {args : List V} {r : V} (hn : args.length = 4) (hW : W pg graph_Graph_Curve_1.k (done graph_Graph_Curve_1.res r) (start args)) : Ret pg n_graph_Graph_Curve_1 args r :=
  Ret_of (fn := Try.f56) Try.func56 rfl (by kernel_rfl) graph_Graph_Curve_1.m graph_Graph_Curve_1.mr (by rw [hn]; exact of_decide_eq_true (by kernel_rfl)) hW
def lin_Of.k : K :=
  (.seq (.keep [1] (.ops false [⟨(some 1), none, .boxP (.t 0)⟩,
     ⟨(some 2), none, .mov (.c .nil)⟩,
     ⟨(some 3), none, .mov (.c (.int .i64 0))⟩]))
  (.seq (.seq (.keep [1, 8] (.ops false [⟨(some 6), none, .load 1 false (.t 1)⟩,
       ⟨(some 7), none, .len false (.t 6)⟩,
       ⟨(some 8), none, .bin .gtr (.t 7) (.c (.int .i64 12))⟩]))
    (.cond (.t 8) (.seq (.keep [2, 3] (.ops false [⟨(some 2), none, .mov (.c .nil)⟩,
         ⟨(some 3), none, .mov (.c (.int .i64 2))⟩]))
      .ret)
     .skip))
   (.seq (.seq (.keep [1, 9, 10, 11] (.ops false [⟨(some 9), none, .load 1 false (.t 1)⟩,
        ⟨(some 10), none, .len false (.t 9)⟩,
        ⟨(some 11), none, .mov (.c (.int .i64 0))⟩]))
     (.block 0 (.loop (.seq (.keep [1, 9, 10, 11, 12] (.ops false [⟨(some 12), none, .bin .lss (.t 11) (.t 10)⟩]))
        (.seq (.cond (.t 12) .skip
          (.exit 0))
         (.seq (.block 1 (.seq (.keep [1, 5, 9, 10, 11] (.ops false [⟨(some 13), none, .idxA 1 (.t 9) (.t 11)⟩,
               ⟨(some 14), none, .load 1 false (.t 13)⟩,
               ⟨(some 5), none, .mov (.t 14)⟩]))
            (.seq (.keep [1, 9, 10, 11, 19] (.ops false [⟨(some 15), none, .mov (.t 5)⟩,
                ⟨(some 16), none, .len false (.t 15)⟩,
                ⟨(some 17), none, .load 1 false (.t 1)⟩,
                ⟨(some 18), none, .len false (.t 17)⟩,
                ⟨(some 19), none, .bin .neq (.t 16) (.t 18)⟩]))
             (.cond (.t 19) (.seq (.keep [2, 3] (.ops false [⟨(some 2), none, .mov (.c .nil)⟩,
                  ⟨(some 3), none, .mov (.c (.int .i64 1))⟩]))
               .ret)
              .skip))))
          (.keep [1, 9, 10, 11] (.ops false [⟨(some 20), none, .bin .add (.t 11) (.c (.int .i64 1))⟩,
             ⟨(some 11), none, .mov (.t 20)⟩]))))))))
    (.seq (.keep [2, 3] (.ops false [⟨(some 21), none, .load 1 false (.t 1)⟩,
        ⟨(some 22), none, .len false (.t 21)⟩,
        ⟨(some 23), none, .mkFn n_lin_Of_1 [(.t 1)]⟩,
        ⟨(some 24), none, .callG n_lin_made [(.t 22), (.t 23)]⟩,
        ⟨(some 2), none, .mov (.t 24)⟩,
        ⟨(some 3), none, .mov (.c (.int .i64 0))⟩]))
     .ret))))
def lin_Of.res : List RX := [(2, none), (3, none)]
theorem lin_Of.m : mK pg Try.f60.ntmps lin_Of.k (Try.f60.body.getD .skip) = true := by kernel_rfl
theorem lin_Of.mr : mRes pg Try.f60.results.toList lin_Of.res = true := by kernel_rfl
theorem lin_Of.of {args : List V} {r : V} (hn : args.length = 1) (hW : W pg lin_Of.k (done lin_Of.res r) (start args)) : Ret pg n_lin_Of args r :=
  Ret_of (fn := Try.f60) Try.func60 rfl (by kernel_rfl) lin_Of.m lin_Of.mr (by rw [hn]; exact of_decide_eq_true (by kernel_rfl)) hW
def lin_made.k : K :=
  (.seq (.keep [2, 3] (.ops false [⟨(some 2), none, .boxP (.t 0)⟩,
     ⟨(some 3), none, .boxP (.t 1)⟩,
     ⟨(some 4), none, .mov (.c .nil)⟩]))
  (.seq (.keep [4] (.ops false [⟨(some 5), none, .load 1 false (.t 2)⟩,
      ⟨(some 6), none, .mkFn n_lin_made_1 [(.t 2), (.t 3)]⟩,
      ⟨(some 7), none, .callG n_lin_list_Llong_Int [(.t 5), (.t 6)]⟩,
      ⟨(some 4), none, .mov (.t 7)⟩]))
   .ret))
def lin_made.res : List RX := [(4, none)]
theorem lin_made.m : mK pg Try.f65.ntmps lin_made.k (Try.f65.body.getD .skip) = true := by kernel_rfl
theorem lin_made.mr : mRes pg Try.f65.results.toList lin_made.res = true := by kernel_rfl
theorem lin_made.of {args : List V} {r : V} (hn : args.length = 2) (hW : W pg lin_made.k (done lin_made.res r) (start args)) : Ret pg n_lin_made args r :=
  Ret_of (fn := Try.f65) Try.func65 rfl (by kernel_rfl) lin_made.m lin_made.mr (by rw [hn]; exact of_decide_eq_true (by kernel_rfl)) hW
def lin_Of_1.k : K :=
  (.seq (.keep [0, 1, 2, 5] (.ops false [⟨(some 5), none, .alloc 2 (.agg [(.bool false), (.sl [])])⟩]))
  (.seq (.keep [5] (.ops false [⟨(some 6), none, .load 1 false (.t 2)⟩,
      ⟨(some 7), none, .mov (.t 0)⟩,
      ⟨(some 8), none, .idxA 1 (.t 6) (.t 7)⟩,
      ⟨(some 9), none, .load 1 false (.t 8)⟩,
      ⟨(some 10), none, .mov (.t 1)⟩,
      ⟨(some 11), none, .idxA 1 (.t 9) (.t 10)⟩,
      ⟨(some 12), none, .load 1 false (.t 11)⟩,
      ⟨(some 13), none, .callG n_long_Of [(.t 12)]⟩,
      ⟨none, none, .store 2 (.t 5) (.t 13)⟩]))
   .ret))
def lin_Of_1.res : List RX := [(5, some (2, true))]
theorem lin_Of_1.m : mK pg Try.f94.ntmps lin_Of_1.k (Try.f94.body.getD .skip) = true := by kernel_rfl
theorem lin_Of_1.mr : mRes pg Try.f94.results.toList lin_Of_1.res = true := by kernel_rfl
theorem lin_Of_1.of {args : List V} {r : V} (hn : args.length = 3) (hW : W pg lin_Of_1.k (done lin_Of_1.res r) (start args)) : Ret pg n_lin_Of_1 args r :=
  Ret_of (fn := Try.f94) Try.func94 rfl (by kernel_rfl) lin_Of_1.m lin_Of_1.mr (by rw [hn]; exact of_decide_eq_true (by kernel_rfl)) hW
def lin_list_Llong_Int.k : K :=
  (.seq (.keep [0, 1] (.ops false [⟨(some 4), none, .mov (.c .nil)⟩]))
  (.seq (.keep [1, 5] (.ops false [⟨(some 7), none, .mov (.t 0)⟩,
      ⟨(some 8), none, .new (.mks 1 24 .nil) [(.t 7), (.t 7)]⟩,
      ⟨(some 5), none, .mov (.t 8)⟩]))
   (.seq (.seq (.keep [1, 5, 10, 11] (.ops false [⟨(some 9), none, .mov (.t 5)⟩,
        ⟨(some 10), none, .len false (.t 9)⟩,
        ⟨(some 11), none, .mov (.c (.int .i64 0))⟩]))
     (.block 0 (.loop (.seq (.keep [1, 5, 10, 11, 12] (.ops false [⟨(some 12), none, .bin .lss (.t 11) (.t 10)⟩]))
        (.seq (.cond (.t 12) .skip
          (.exit 0))
         (.seq (.block 1 (.seq (.keep [1, 5, 6, 10, 11] (.ops false [⟨(some 13), none, .mov (.t 11)⟩,
               ⟨(some 6), none, .mov (.t 13)⟩]))
            (.keep [1, 5, 10, 11] (.ops false [⟨(some 14), none, .mov (.t 5)⟩,
               ⟨(some 15), none, .mov (.t 6)⟩,
               ⟨(some 16), none, .mov (.t 1)⟩,
               ⟨(some 17), none, .mov (.t 6)⟩,
               ⟨(some 18), none, .callGV (.t 16) [(.t 17)]⟩,
               ⟨(some 19), none, .idxA 1 (.t 14) (.t 15)⟩,
               ⟨none, none, .store 1 (.t 19) (.t 18)⟩]))))
          (.keep [1, 5, 10, 11] (.ops false [⟨(some 20), none, .bin .add (.t 11) (.c (.int .i64 1))⟩,
             ⟨(some 11), none, .mov (.t 20)⟩]))))))))
    (.seq (.keep [4] (.ops false [⟨(some 21), none, .mov (.t 5)⟩,
        ⟨(some 4), none, .mov (.t 21)⟩]))
     .ret))))
def lin_list_Llong_Int.res : List RX := [(4, none)]
theorem lin_list_Llong_Int.m : mK pg Try.f96.ntmps lin_list_Llong_Int.k (Try.f96.body.getD .skip) = true := by kernel_rfl
theorem lin_list_Llong_Int.mr : mRes pg Try.f96.results.toList lin_list_Llong_Int.res = true := by kernel_rfl
theorem lin_list_Llong_Int.of {args : List V} {r : V} (hn : args.length = 2) (hW : W pg lin_list_Llong_Int.k (done lin_list_Llong_Int.res r) (start args)) : Ret pg n_lin_list_Llong_Int args r :=
  Ret_of (fn := Try.f96) Try.func96 rfl (by kernel_rfl) lin_list_Llong_Int.m lin_list_Llong_Int.mr (by rw [hn]; exact of_decide_eq_true (by kernel_rfl)) hW
def lin_made_1.k : K :=
  (.seq (.keep [1, 2, 3] (.ops false [⟨(some 3), none, .boxP (.t 0)⟩,
     ⟨(some 4), none, .mov (.c .nil)⟩]))
  (.seq (.keep [4] (.ops false [⟨(some 5), none, .load 1 false (.t 1)⟩,
      ⟨(some 6), none, .mkFn n_lin_made_1_1 [(.t 2), (.t 3)]⟩,
      ⟨(some 7), none, .callG n_lin_list_long_Int [(.t 5), (.t 6)]⟩,
      ⟨(some 4), none, .mov (.t 7)⟩]))
   .ret))
def lin_made_1.res : List RX := [(4, none)]
theorem lin_made_1.m : mK pg Try.f97.ntmps lin_made_1.k (Try.f97.body.getD .skip) = true := by kernel_rfl
theorem lin_made_1.mr : mRes pg Try.f97.results.toList lin_made_1.res = true := by kernel_rfl
theorem lin_made_1.of {args : List V} {r : V} (hn : args.length = 3) (hW : W pg lin_made_1.k (done lin_made_1.res r) (start args)) : Ret pg n_lin_made_1 args r :=
  Ret_of (fn := Try.f97) Try.func97 rfl (by kernel_rfl) lin_made_1.m lin_made_1.mr (by rw [hn]; exact of_decide_eq_true (by kernel_rfl)) hW
def lin_list_long_Int.k : K :=
  (.seq (.keep [0, 1] (.ops false [⟨(some 4), none, .mov (.c .nil)⟩]))
  (.seq (.keep [1, 5] (.ops false [⟨(some 7), none, .mov (.t 0)⟩,
      ⟨(some 8), none, .new (.mks 2 32 (.agg [(.bool false), (.sl [])])) [(.t 7), (.t 7)]⟩,
      ⟨(some 5), none, .mov (.t 8)⟩]))
   (.seq (.seq (.keep [1, 5, 10, 11] (.ops false [⟨(some 9), none, .mov (.t 5)⟩,
        ⟨(some 10), none, .len false (.t 9)⟩,
        ⟨(some 11), none, .mov (.c (.int .i64 0))⟩]))
     (.block 0 (.loop (.seq (.keep [1, 5, 10, 11, 12] (.ops false [⟨(some 12), none, .bin .lss (.t 11) (.t 10)⟩]))
        (.seq (.cond (.t 12) .skip
          (.exit 0))
         (.seq (.block 1 (.seq (.keep [1, 5, 6, 10, 11] (.ops false [⟨(some 13), none, .mov (.t 11)⟩,
               ⟨(some 6), none, .mov (.t 13)⟩]))
            (.keep [1, 5, 10, 11] (.ops false [⟨(some 14), none, .mov (.t 5)⟩,
               ⟨(some 15), none, .mov (.t 6)⟩,
               ⟨(some 16), none, .mov (.t 1)⟩,
               ⟨(some 17), none, .mov (.t 6)⟩,
               ⟨(some 18), none, .callGV (.t 16) [(.t 17)]⟩,
               ⟨(some 19), none, .idxA 2 (.t 14) (.t 15)⟩,
               ⟨none, none, .store 2 (.t 19) (.t 18)⟩]))))
          (.keep [1, 5, 10, 11] (.ops false [⟨(some 20), none, .bin .add (.t 11) (.c (.int .i64 1))⟩,
             ⟨(some 11), none, .mov (.t 20)⟩]))))))))
    (.seq (.keep [4] (.ops false [⟨(some 21), none, .mov (.t 5)⟩,
        ⟨(some 4), none, .mov (.t 21)⟩]))
     .ret))))
def lin_list_long_Int.res : List RX := [(4, none)]
theorem lin_list_long_Int.m : mK pg Try.f98.ntmps lin_list_long_Int.k (Try.f98.body.getD .skip) = true := by kernel_rfl
theorem lin_list_long_Int.mr : mRes pg Try.f98.results.toList lin_list_long_Int.res = true := by kernel_rfl
theorem lin_list_long_Int.of {args : List V} {r : V} (hn : args.length = 2) (hW : W pg lin_list_long_Int.k (done lin_list_long_Int.res r) (start args)) : Ret pg n_lin_list_long_Int args r :=
  Ret_of (fn := Try.f98) Try.func98 rfl (by kernel_rfl) lin_list_long_Int.m lin_list_long_Int.mr (by rw [hn]; exact of_decide_eq_true (by kernel_rfl)) hW
def lin_made_1_1.k : K :=
  (.seq (.keep [0, 1, 2, 4] (.ops false [⟨(some 4), none, .alloc 2 (.agg [(.bool false), (.sl [])])⟩]))
  (.seq (.keep [4] (.ops false [⟨(some 5), none, .load 1 false (.t 1)⟩,
      ⟨(some 6), none, .load 1 false (.t 2)⟩,
      ⟨(some 7), none, .mov (.t 0)⟩,
      ⟨(some 8), none, .callGV (.t 5) [(.t 6), (.t 7)]⟩,
      ⟨none, none, .store 2 (.t 4) (.t 8)⟩]))
   .ret))
def lin_made_1_1.res : List RX := [(4, some (2, true))]
theorem lin_made_1_1.m : mK pg Try.f99.ntmps lin_made_1_1.k (Try.f99.body.getD .skip) = true := by kernel_rfl
theorem lin_made_1_1.mr : mRes pg Try.f99.results.toList lin_made_1_1.res = true := by kernel_rfl
theorem lin_made_1_1.of {args : List V} {r : V} (hn : args.length = 3) (hW : W pg lin_made_1_1.k (done lin_made_1_1.res r) (start args)) : Ret pg n_lin_made_1_1 args r :=
  Ret_of (fn := Try.f99) Try.func99 rfl (by kernel_rfl) lin_made_1_1.m lin_made_1_1.mr (by rw [hn]; exact of_decide_eq_true (by kernel_rfl)) hW
def lin_Mat_Turned.k : K :=
  (.seq (.keep [1] (.ops false [⟨(some 1), none, .boxP (.t 0)⟩,
     ⟨(some 2), none, .mov (.c .nil)⟩]))
  (.seq (.keep [2] (.ops false [⟨(some 3), none, .load 1 false (.t 1)⟩,
      ⟨(some 4), none, .len false (.t 3)⟩,
      ⟨(some 5), none, .mkFn n_lin_Mat_Turned_1 [(.t 1)]⟩,
      ⟨(some 6), none, .callG n_lin_made [(.t 4), (.t 5)]⟩,
      ⟨(some 2), none, .mov (.t 6)⟩]))
   .ret))
def lin_Mat_Turned.res : List RX := [(2, none)]
theorem lin_Mat_Turned.m : mK pg Try.f32.ntmps lin_Mat_Turned.k (Try.f32.body.getD .skip) = true := by kernel_rfl
theorem lin_Mat_Turned.mr : mRes pg Try.f32.results.toList lin_Mat_Turned.res = true := by kernel_rfl
theorem lin_Mat_Turned.of {args : List V} {r : V} (hn : args.length = 1) (hW : W pg lin_Mat_Turned.k (done lin_Mat_Turned.res r) (start args)) : Ret pg n_lin_Mat_Turned args r :=
  Ret_of (fn := Try.f32) Try.func32 rfl (by kernel_rfl) lin_Mat_Turned.m lin_Mat_Turned.mr (by rw [hn]; exact of_decide_eq_true (by kernel_rfl)) hW
def lin_Mat_Turned_1.k : K :=
  (.seq (.keep [0, 1, 2, 5] (.ops false [⟨(some 5), none, .alloc 2 (.agg [(.bool false), (.sl [])])⟩]))
  (.seq (.keep [5] (.ops false [⟨(some 6), none, .load 1 false (.t 2)⟩,
      ⟨(some 7), none, .mov (.t 1)⟩,
      ⟨(some 8), none, .idxA 1 (.t 6) (.t 7)⟩,
      ⟨(some 9), none, .load 1 false (.t 8)⟩,
      ⟨(some 10), none, .mov (.t 0)⟩,
      ⟨(some 11), none, .idxA 2 (.t 9) (.t 10)⟩,
      ⟨(some 12), none, .load 2 true (.t 11)⟩,
      ⟨none, none, .store 2 (.t 5) (.t 12)⟩]))
   .ret))
def lin_Mat_Turned_1.res : List RX := [(5, some (2, true))]
theorem lin_Mat_Turned_1.m : mK pg Try.f66.ntmps lin_Mat_Turned_1.k (Try.f66.body.getD .skip) = true := by kernel_rfl
theorem lin_Mat_Turned_1.mr : mRes pg Try.f66.results.toList lin_Mat_Turned_1.res = true := by kernel_rfl
theorem lin_Mat_Turned_1.of {args : List V} {r : V} (hn : args.length = 3) (hW : W pg lin_Mat_Turned_1.k (done lin_Mat_Turned_1.res r) (start args)) : Ret pg n_lin_Mat_Turned_1 args r :=
  Ret_of (fn := Try.f66) Try.func66 rfl (by kernel_rfl) lin_Mat_Turned_1.m lin_Mat_Turned_1.mr (by rw [hn]; exact of_decide_eq_true (by kernel_rfl)) hW
def quad_Of.k : K :=
  (.seq (.keep [0, 1, 2, 6] (.ops false [⟨(some 6), none, .alloc 4 (.agg [.nil, .nil, (.bool false), (.sl [])])⟩,
     ⟨(some 7), none, .mov (.c (.int .i64 0))⟩]))
  (.seq (.keep [1, 2, 6, 8, 9] (.ops false [⟨(some 14), none, .mov (.t 0)⟩,
      ⟨(some 15), none, .callG n_lin_Of [(.t 14)]⟩,
      ⟨(some 13), none, .mov (.t 15)⟩,
      ⟨(some 16), none, .ext (.t 13) 0⟩,
      ⟨(some 17), none, .ext (.t 13) 1⟩,
      ⟨(some 8), none, .mov (.t 16)⟩,
      ⟨(some 9), none, .mov (.t 17)⟩]))
   (.seq (.block 0 (.seq (.keep [1, 2, 6, 8, 9, 18] (.ops false [⟨(some 19), none, .mov (.t 9)⟩,
         ⟨(some 20), none, .bin .neq (.t 19) (.c (.int .i64 0))⟩,
         ⟨(some 18), none, .mov (.t 20)⟩]))
      (.cond (.t 18) (.seq (.keep [6, 7] (.ops false [⟨(some 21), none, .build [.nil, .nil, (.bool false), (.sl [])] []⟩,
           ⟨(some 22), none, .mov (.t 9)⟩,
           ⟨none, none, .store 4 (.t 6) (.t 21)⟩,
           ⟨(some 7), none, .mov (.t 22)⟩]))
        .ret)
       (.seq (.keep [1, 2, 6, 8, 23] (.ops false [⟨(some 24), none, .mov (.t 1)⟩,
           ⟨(some 25), none, .len false (.t 24)⟩,
           ⟨(some 26), none, .mov (.t 8)⟩,
           ⟨(some 27), none, .len false (.t 26)⟩,
           ⟨(some 28), none, .bin .neq (.t 25) (.t 27)⟩,
           ⟨(some 29), none, .mov (.t 28)⟩,
           ⟨(some 30), (some (29, false)), .mov (.t 8)⟩,
           ⟨(some 31), (some (29, false)), .mov (.t 8)⟩,
           ⟨(some 32), (some (29, false)), .callG n_lin_Mat_Turned [(.t 31)]⟩,
           ⟨(some 33), (some (29, false)), .callG n_quad_same [(.t 30), (.t 32)]⟩,
           ⟨(some 34), (some (29, false)), .un .not (.t 33)⟩,
           ⟨(some 35), none, .pick (.t 29) (.c (.bool true)) (.t 34)⟩,
           ⟨(some 23), none, .mov (.t 35)⟩]))
        (.cond (.t 23) (.seq (.keep [6, 7] (.ops false [⟨(some 36), none, .build [.nil, .nil, (.bool false), (.sl [])] []⟩,
             ⟨none, none, .store 4 (.t 6) (.t 36)⟩,
             ⟨(some 7), none, .mov (.c (.int .i64 1))⟩]))
          .ret)
         .skip)))))
    (.seq (.keep [1, 6, 10] (.ops false [⟨(some 37), none, .mov (.t 8)⟩,
        ⟨(some 38), none, .mov (.t 2)⟩,
        ⟨(some 39), none, .callG n_long_Of [(.t 38)]⟩,
        ⟨(some 40), none, .build [.nil, .nil, (.bool false), (.sl [])] [(0, 1, (.t 37)), (2, 2, (.t 39))]⟩,
        ⟨(some 10), none, .alloc 4 (.agg [.nil, .nil, (.bool false), (.sl [])])⟩,
        ⟨none, none, .store 4 (.t 10) (.t 40)⟩]))
     (.seq (.seq (.keep [6, 10, 41, 42, 43] (.ops false [⟨(some 41), none, .mov (.t 1)⟩,
          ⟨(some 42), none, .len false (.t 41)⟩,
          ⟨(some 43), none, .mov (.c (.int .i64 0))⟩]))
       (.block 1 (.loop (.seq (.keep [6, 10, 41, 42, 43, 44] (.ops false [⟨(some 44), none, .bin .lss (.t 43) (.t 42)⟩]))
          (.seq (.cond (.t 44) .skip
            (.exit 1))
           (.seq (.block 2 (.seq (.keep [6, 10, 12, 41, 42, 43] (.ops false [⟨(some 45), none, .idxA 1 (.t 41) (.t 43)⟩,
                 ⟨(some 46), none, .load 1 false (.t 45)⟩,
                 ⟨(some 12), none, .mov (.t 46)⟩]))
              (.keep [6, 10, 41, 42, 43] (.ops true [⟨(some 47), none, .fldA 1 1 false (.t 10)⟩,
                 ⟨(some 48), none, .load 1 false (.t 47)⟩,
                 ⟨(some 49), none, .mov (.t 12)⟩,
                 ⟨(some 50), none, .call n_long_Of [(.t 49)]⟩,
                 ⟨(some 51), none, .new (.bsl 2) [(.t 50)]⟩,
                 ⟨(some 52), none, .eff (.app 2 32) [(.t 48), (.t 51)]⟩,
                 ⟨(some 53), none, .fldA 1 1 false (.t 10)⟩,
                 ⟨none, none, .store 1 (.t 53) (.t 52)⟩]))))
            (.keep [6, 10, 41, 42, 43] (.ops false [⟨(some 54), none, .bin .add (.t 43) (.c (.int .i64 1))⟩,
               ⟨(some 43), none, .mov (.t 54)⟩]))))))))
      (.seq (.keep [6, 7] (.ops false [⟨(some 55), none, .load 4 true (.t 10)⟩,
          ⟨none, none, .store 4 (.t 6) (.t 55)⟩,
          ⟨(some 7), none, .mov (.c (.int .i64 0))⟩]))
       .ret))))))
def quad_Of.res : List RX := [(6, some (4, true)), (7, none)]
theorem quad_Of.m : mK pg Try.f27.ntmps quad_Of.k (Try.f27.body.getD .skip) = true := by kernel_rfl
theorem quad_Of.mr : mRes pg Try.f27.results.toList quad_Of.res = true := by kernel_rfl
theorem quad_Of.of {args : List V} {r : V} (hn : args.length = 3) (hW : W pg quad_Of.k (done quad_Of.res r) (start args)) : Ret pg n_quad_Of args r :=
  Ret_of (fn := Try.f27) Try.func27 rfl (by kernel_rfl) quad_Of.m quad_Of.mr (by rw [hn]; exact of_decide_eq_true (by kernel_rfl)) hW
def quad_same.k : K :=
  (.seq (.keep [0, 1] (.ops false [⟨(some 4), none, .mov (.c (.bool false))⟩]))
  (.seq (.seq (.keep [0, 1, 8, 9] (.ops false [⟨(some 7), none, .mov (.t 0)⟩,
       ⟨(some 8), none, .len false (.t 7)⟩,
       ⟨(some 9), none, .mov (.c (.int .i64 0))⟩]))
    (.block 0 (.loop (.seq (.keep [0, 1, 8, 9, 10] (.ops false [⟨(some 10), none, .bin .lss (.t 9) (.t 8)⟩]))
       (.seq (.cond (.t 10) .skip
         (.exit 0))
        (.seq (.block 1 (.seq (.keep [0, 1, 5, 8, 9] (.ops false [⟨(some 11), none, .mov (.t 9)⟩,
              ⟨(some 5), none, .mov (.t 11)⟩]))
           (.seq (.keep [0, 1, 5, 8, 9, 16, 17] (.ops false [⟨(some 12), none, .mov (.t 0)⟩,
               ⟨(some 13), none, .mov (.t 5)⟩,
               ⟨(some 14), none, .idxA 1 (.t 12) (.t 13)⟩,
               ⟨(some 15), none, .load 1 false (.t 14)⟩,
               ⟨(some 16), none, .len false (.t 15)⟩,
               ⟨(some 17), none, .mov (.c (.int .i64 0))⟩]))
            (.block 2 (.loop (.seq (.keep [0, 1, 5, 8, 9, 16, 17, 18] (.ops false [⟨(some 18), none, .bin .lss (.t 17) (.t 16)⟩]))
               (.seq (.cond (.t 18) .skip
                 (.exit 2))
                (.seq (.block 3 (.seq (.keep [0, 1, 5, 6, 8, 9, 16, 17] (.ops false [⟨(some 19), none, .mov (.t 17)⟩,
                      ⟨(some 6), none, .mov (.t 19)⟩]))
                   (.seq (.keep [0, 1, 5, 8, 9, 16, 17, 35] (.ops true [⟨(some 20), none, .mov (.t 0)⟩,
                       ⟨(some 21), none, .mov (.t 5)⟩,
                       ⟨(some 22), none, .idxA 1 (.t 20) (.t 21)⟩,
                       ⟨(some 23), none, .load 1 false (.t 22)⟩,
                       ⟨(some 24), none, .mov (.t 6)⟩,
                       ⟨(some 25), none, .idxA 2 (.t 23) (.t 24)⟩,
                       ⟨(some 26), none, .load 2 true (.t 25)⟩,
                       ⟨(some 27), none, .mov (.t 1)⟩,
                       ⟨(some 28), none, .mov (.t 5)⟩,
                       ⟨(some 29), none, .idxA 1 (.t 27) (.t 28)⟩,
                       ⟨(some 30), none, .load 1 false (.t 29)⟩,
                       ⟨(some 31), none, .mov (.t 6)⟩,
                       ⟨(some 32), none, .idxA 2 (.t 30) (.t 31)⟩,
                       ⟨(some 33), none, .load 2 true (.t 32)⟩,
                       ⟨(some 34), none, .call n_long_Int_Cmp [(.t 26), (.t 33)]⟩,
                       ⟨(some 35), none, .bin .neq (.t 34) (.c (.int .i64 0))⟩]))
                    (.cond (.t 35) (.seq (.keep [4] (.ops false [⟨(some 4), none, .mov (.c (.bool false))⟩]))
                      .ret)
                     .skip))))
                 (.keep [0, 1, 5, 8, 9, 16, 17] (.ops false [⟨(some 36), none, .bin .add (.t 17) (.c (.int .i64 1))⟩,
                    ⟨(some 17), none, .mov (.t 36)⟩]))))))))))
         (.keep [0, 1, 8, 9] (.ops false [⟨(some 37), none, .bin .add (.t 9) (.c (.int .i64 1))⟩,
            ⟨(some 9), none, .mov (.t 37)⟩]))))))))
   (.seq (.keep [4] (.ops false [⟨(some 4), none, .mov (.c (.bool true))⟩]))
    .ret)))
def quad_same.res : List RX := [(4, none)]
theorem quad_same.m : mK pg Try.f61.ntmps quad_same.k (Try.f61.body.getD .skip) = true := by kernel_rfl
theorem quad_same.mr : mRes pg Try.f61.results.toList quad_same.res = true := by kernel_rfl
theorem quad_same.of {args : List V} {r : V} (hn : args.length = 2) (hW : W pg quad_same.k (done quad_same.res r) (start args)) : Ret pg n_quad_same args r :=
  Ret_of (fn := Try.f61) Try.func61 rfl (by kernel_rfl) quad_same.m quad_same.mr (by rw [hn]; exact of_decide_eq_true (by kernel_rfl)) hW
def factor_Residual.k : K :=
  (.seq (.keep [1, 2] (.ops false [⟨(some 2), none, .boxP (.t 0)⟩,
     ⟨(some 4), none, .mov (.c (.int .i64 0))⟩]))
  (.seq (.keep [1, 2, 5] (.ops false [⟨(some 8), none, .fldA 1 1 false (.t 2)⟩,
      ⟨(some 9), none, .load 1 false (.t 8)⟩,
      ⟨(some 10), none, .un .neg (.t 9)⟩,
      ⟨(some 5), none, .mov (.t 10)⟩]))
   (.seq (.seq (.keep [1, 5, 12, 13, 14] (.ops false [⟨(some 11), none, .fldA 0 1 false (.t 2)⟩,
        ⟨(some 12), none, .load 1 false (.t 11)⟩,
        ⟨(some 13), none, .len false (.t 12)⟩,
        ⟨(some 14), none, .mov (.c (.int .i64 0))⟩]))
     (.block 0 (.loop (.seq (.keep [1, 5, 12, 13, 14, 15] (.ops false [⟨(some 15), none, .bin .lss (.t 14) (.t 13)⟩]))
        (.seq (.cond (.t 15) .skip
          (.exit 0))
         (.seq (.block 1 (.seq (.keep [1, 5, 6, 7, 12, 13, 14] (.ops false [⟨(some 16), none, .mov (.t 14)⟩,
               ⟨(some 17), none, .idxA 1 (.t 12) (.t 14)⟩,
               ⟨(some 18), none, .load 1 false (.t 17)⟩,
               ⟨(some 6), none, .mov (.t 16)⟩,
               ⟨(some 7), none, .mov (.t 18)⟩]))
            (.keep [1, 5, 12, 13, 14] (.ops false [⟨(some 19), none, .mov (.t 5)⟩,
               ⟨(some 20), none, .mov (.t 7)⟩,
               ⟨(some 21), none, .mov (.t 1)⟩,
               ⟨(some 22), none, .mov (.t 6)⟩,
               ⟨(some 23), none, .idxA 1 (.t 21) (.t 22)⟩,
               ⟨(some 24), none, .load 1 false (.t 23)⟩,
               ⟨(some 25), none, .bin .mul (.t 20) (.t 24)⟩,
               ⟨(some 26), none, .bin .add (.t 19) (.t 25)⟩,
               ⟨(some 5), none, .mov (.t 26)⟩]))))
          (.keep [1, 5, 12, 13, 14] (.ops false [⟨(some 27), none, .bin .add (.t 14) (.c (.int .i64 1))⟩,
             ⟨(some 14), none, .mov (.t 27)⟩]))))))))
    (.seq (.keep [4] (.ops false [⟨(some 28), none, .mov (.t 5)⟩,
        ⟨(some 29), none, .mm false (.t 28) [(.c (.int .i64 1000000000))]⟩,
        ⟨(some 30), none, .mm true (.c (.int .i64 (-1000000000))) [(.t 29)]⟩,
        ⟨(some 4), none, .mov (.t 30)⟩]))
     .ret))))
def factor_Residual.res : List RX := [(4, none)]
theorem factor_Residual.m : mK pg Try.f37.ntmps factor_Residual.k (Try.f37.body.getD .skip) = true := by kernel_rfl
theorem factor_Residual.mr : mRes pg Try.f37.results.toList factor_Residual.res = true := by kernel_rfl
theorem factor_Residual.of {args : List V} {r : V} (hn : args.length = 2) (hW : W pg factor_Residual.k (done factor_Residual.res r) (start args)) : Ret pg n_factor_Residual args r :=
  Ret_of (fn := Try.f37) Try.func37 rfl (by kernel_rfl) factor_Residual.m factor_Residual.mr (by rw [hn]; exact of_decide_eq_true (by kernel_rfl)) hW
def factor_Right.k : K :=
  (.seq (.keep [1, 2] (.ops false [⟨(some 2), none, .boxP (.t 0)⟩,
     ⟨(some 4), none, .mov (.c (.bool false))⟩]))
  (.seq (.seq (.keep [2, 30] (.ops false [⟨(some 7), none, .fldA 0 1 false (.t 2)⟩,
       ⟨(some 8), none, .load 1 false (.t 7)⟩,
       ⟨(some 9), none, .len false (.t 8)⟩,
       ⟨(some 10), none, .mov (.t 1)⟩,
       ⟨(some 11), none, .bin .neq (.t 9) (.t 10)⟩,
       ⟨(some 12), none, .mov (.t 11)⟩,
       ⟨(some 13), (some (12, false)), .mov (.t 1)⟩,
       ⟨(some 14), (some (12, false)), .bin .gtr (.t 13) (.c (.int .i64 11))⟩,
       ⟨(some 15), none, .pick (.t 12) (.c (.bool true)) (.t 14)⟩,
       ⟨(some 16), none, .mov (.t 15)⟩,
       ⟨(some 17), (some (16, false)), .fldA 1 1 false (.t 2)⟩,
       ⟨(some 18), (some (16, false)), .load 1 false (.t 17)⟩,
       ⟨(some 19), (some (16, false)), .callG n_factor_out [(.t 18), (.c (.int .i64 (-1000000000))), (.c (.int .i64 1000000000))]⟩,
       ⟨(some 20), none, .pick (.t 16) (.c (.bool true)) (.t 19)⟩,
       ⟨(some 21), none, .mov (.t 20)⟩,
       ⟨(some 22), (some (21, false)), .fldA 2 1 false (.t 2)⟩,
       ⟨(some 23), (some (21, false)), .load 1 false (.t 22)⟩,
       ⟨(some 24), (some (21, false)), .callG n_factor_out [(.t 23), (.c (.int .i64 1)), (.c (.int .i64 32768))]⟩,
       ⟨(some 25), none, .pick (.t 21) (.c (.bool true)) (.t 24)⟩,
       ⟨(some 26), none, .mov (.t 25)⟩,
       ⟨(some 27), (some (26, false)), .fldA 3 1 false (.t 2)⟩,
       ⟨(some 28), (some (26, false)), .load 1 false (.t 27)⟩,
       ⟨(some 29), (some (26, false)), .callG n_factor_out [(.t 28), (.c (.int .i64 1)), (.c (.int .i64 100))]⟩,
       ⟨(some 30), none, .pick (.t 26) (.c (.bool true)) (.t 29)⟩]))
    (.cond (.t 30) (.seq (.keep [4] (.ops false [⟨(some 4), none, .mov (.c (.bool false))⟩]))
      .ret)
     .skip))
   (.seq (.seq (.keep [32, 33, 34] (.ops false [⟨(some 31), none, .fldA 0 1 false (.t 2)⟩,
        ⟨(some 32), none, .load 1 false (.t 31)⟩,
        ⟨(some 33), none, .len false (.t 32)⟩,
        ⟨(some 34), none, .mov (.c (.int .i64 0))⟩]))
     (.block 0 (.loop (.seq (.keep [32, 33, 34, 35] (.ops false [⟨(some 35), none, .bin .lss (.t 34) (.t 33)⟩]))
        (.seq (.cond (.t 35) .skip
          (.exit 0))
         (.seq (.block 1 (.seq (.keep [6, 32, 33, 34] (.ops false [⟨(some 36), none, .idxA 1 (.t 32) (.t 34)⟩,
               ⟨(some 37), none, .load 1 false (.t 36)⟩,
               ⟨(some 6), none, .mov (.t 37)⟩]))
            (.seq (.keep [32, 33, 34, 39] (.ops false [⟨(some 38), none, .mov (.t 6)⟩,
                ⟨(some 39), none, .callG n_factor_out [(.t 38), (.c (.int .i64 (-1000))), (.c (.int .i64 1000))]⟩]))
             (.cond (.t 39) (.seq (.keep [4] (.ops false [⟨(some 4), none, .mov (.c (.bool false))⟩]))
               .ret)
              .skip))))
          (.keep [32, 33, 34] (.ops false [⟨(some 40), none, .bin .add (.t 34) (.c (.int .i64 1))⟩,
             ⟨(some 34), none, .mov (.t 40)⟩]))))))))
    (.seq (.keep [4] (.ops false [⟨(some 4), none, .mov (.c (.bool true))⟩]))
     .ret))))
def factor_Right.res : List RX := [(4, none)]
theorem factor_Right.m : mK pg Try.f46.ntmps factor_Right.k (Try.f46.body.getD .skip) = true := by kernel_rfl
theorem factor_Right.mr : mRes pg Try.f46.results.toList factor_Right.res = true := by kernel_rfl
theorem factor_Right.of {args : List V} {r : V} (hn : args.length = 2) (hW : W pg factor_Right.k (done factor_Right.res r) (start args)) : Ret pg n_factor_Right args r :=
  Ret_of (fn := Try.f46) Try.func46 rfl (by kernel_rfl) factor_Right.m factor_Right.mr (by rw [hn]; exact of_decide_eq_true (by kernel_rfl)) hW
def factor_out.k : K :=
  (.seq (.keep [0, 1, 2] (.ops false [⟨(some 6), none, .mov (.c (.bool false))⟩]))
  (.seq (.keep [6] (.ops false [⟨(some 7), none, .mov (.t 0)⟩,
      ⟨(some 8), none, .mov (.t 1)⟩,
      ⟨(some 9), none, .bin .lss (.t 7) (.t 8)⟩,
      ⟨(some 10), none, .mov (.t 9)⟩,
      ⟨(some 11), (some (10, false)), .mov (.t 0)⟩,
      ⟨(some 12), (some (10, false)), .mov (.t 2)⟩,
      ⟨(some 13), (some (10, false)), .bin .gtr (.t 11) (.t 12)⟩,
      ⟨(some 14), none, .pick (.t 10) (.c (.bool true)) (.t 13)⟩,
      ⟨(some 6), none, .mov (.t 14)⟩]))
   .ret))
def factor_out.res : List RX := [(6, none)]
theorem factor_out.m : mK pg Try.f83.ntmps factor_out.k (Try.f83.body.getD .skip) = true := by kernel_rfl
theorem factor_out.mr : mRes pg Try.f83.results.toList factor_out.res = true := by kernel_rfl
theorem factor_out.of {args : List V} {r : V} (hn : args.length = 3) (hW : W pg factor_out.k (done factor_out.res r) (start args)) : Ret pg n_factor_out args r :=
  Ret_of (fn := Try.f83) Try.func83 rfl (by kernel_rfl) factor_out.m factor_out.mr (by rw [hn]; exact of_decide_eq_true (by kernel_rfl)) hW
def slices_ContainsFunc_Lapi_Row_api_Row.k : K :=
  (.seq (.keep [0, 1] (.ops false [⟨(some 4), none, .mov (.c (.bool false))⟩]))
  (.seq (.keep [4] (.ops false [⟨(some 5), none, .mov (.t 0)⟩,
      ⟨(some 6), none, .mov (.t 1)⟩,
      ⟨(some 7), none, .callG n_slices_IndexFunc_Lapi_Row_api_Row [(.t 5), (.t 6)]⟩,
      ⟨(some 8), none, .bin .geq (.t 7) (.c (.int .i64 0))⟩,
      ⟨(some 4), none, .mov (.t 8)⟩]))
   .ret))
def slices_ContainsFunc_Lapi_Row_api_Row.res : List RX := [(4, none)]
theorem slices_ContainsFunc_Lapi_Row_api_Row.m : mK pg Try.f44.ntmps slices_ContainsFunc_Lapi_Row_api_Row.k (Try.f44.body.getD .skip) = true := by kernel_rfl
theorem slices_ContainsFunc_Lapi_Row_api_Row.mr : mRes pg Try.f44.results.toList slices_ContainsFunc_Lapi_Row_api_Row.res = true := by kernel_rfl
theorem slices_ContainsFunc_Lapi_Row_api_Row.of {args : List V} {r : V} (hn : args.length = 2) (hW : W pg slices_ContainsFunc_Lapi_Row_api_Row.k (done slices_ContainsFunc_Lapi_Row_api_Row.res r) (start args)) : Ret pg n_slices_ContainsFunc_Lapi_Row_api_Row args r :=
  Ret_of (fn := Try.f44) Try.func44 rfl (by kernel_rfl) slices_ContainsFunc_Lapi_Row_api_Row.m slices_ContainsFunc_Lapi_Row_api_Row.mr (by rw [hn]; exact of_decide_eq_true (by kernel_rfl)) hW
def slices_IndexFunc_Lapi_Row_api_Row.k : K :=
  (.seq (.keep [0, 1] (.ops false [⟨(some 4), none, .mov (.c (.int .i64 0))⟩]))
  (.seq (.seq (.keep [0, 1, 7, 8] (.ops false [⟨(some 6), none, .mov (.t 0)⟩,
       ⟨(some 7), none, .len false (.t 6)⟩,
       ⟨(some 8), none, .mov (.c (.int .i64 0))⟩]))
    (.block 0 (.loop (.seq (.keep [0, 1, 7, 8, 9] (.ops false [⟨(some 9), none, .bin .lss (.t 8) (.t 7)⟩]))
       (.seq (.cond (.t 9) .skip
         (.exit 0))
        (.seq (.block 1 (.seq (.keep [0, 1, 5, 7, 8] (.ops false [⟨(some 10), none, .mov (.t 8)⟩,
              ⟨(some 5), none, .mov (.t 10)⟩]))
           (.seq (.keep [0, 1, 5, 7, 8, 16] (.ops false [⟨(some 11), none, .mov (.t 1)⟩,
               ⟨(some 12), none, .mov (.t 0)⟩,
               ⟨(some 13), none, .mov (.t 5)⟩,
               ⟨(some 14), none, .idxA 4 (.t 12) (.t 13)⟩,
               ⟨(some 15), none, .load 4 true (.t 14)⟩,
               ⟨(some 16), none, .callGV (.t 11) [(.t 15)]⟩]))
            (.cond (.t 16) (.seq (.keep [4] (.ops false [⟨(some 17), none, .mov (.t 5)⟩,
                 ⟨(some 4), none, .mov (.t 17)⟩]))
              .ret)
             .skip))))
         (.keep [0, 1, 7, 8] (.ops false [⟨(some 18), none, .bin .add (.t 8) (.c (.int .i64 1))⟩,
            ⟨(some 8), none, .mov (.t 18)⟩]))))))))
   (.seq (.keep [4] (.ops false [⟨(some 4), none, .mov (.c (.int .i64 (-1)))⟩]))
    .ret)))
def slices_IndexFunc_Lapi_Row_api_Row.res : List RX := [(4, none)]
theorem slices_IndexFunc_Lapi_Row_api_Row.m : mK pg Try.f82.ntmps slices_IndexFunc_Lapi_Row_api_Row.k (Try.f82.body.getD .skip) = true := by kernel_rfl
theorem slices_IndexFunc_Lapi_Row_api_Row.mr : mRes pg Try.f82.results.toList slices_IndexFunc_Lapi_Row_api_Row.res = true := by kernel_rfl
theorem slices_IndexFunc_Lapi_Row_api_Row.of {args : List V} {r : V} (hn : args.length = 2) (hW : W pg slices_IndexFunc_Lapi_Row_api_Row.k (done slices_IndexFunc_Lapi_Row_api_Row.res r) (start args)) : Ret pg n_slices_IndexFunc_Lapi_Row_api_Row args r :=
  Ret_of (fn := Try.f82) Try.func82 rfl (by kernel_rfl) slices_IndexFunc_Lapi_Row_api_Row.m slices_IndexFunc_Lapi_Row_api_Row.mr (by rw [hn]; exact of_decide_eq_true (by kernel_rfl)) hW
end Go.Gim

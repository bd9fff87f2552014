import Derived.Test.YtoehjhcfilonoaaGN
/- Functions' code as data (written by wip/tools/gen.py), and the step to their contracts. -/
set_option maxRecDepth 100000
namespace Go.Gim
open Go.Proofs
def gimbalref09_Rho.k : K :=
  (.seq (.keep [0, 1] (.ops false [⟨(some 4), none, .mov (.c (.str ⟨#[]⟩))⟩]))
  (.seq (.keep [5, 7] (.ops false [⟨(some 11), none, .mov (.t 0)⟩,
      ⟨(some 12), none, .mov (.t 1)⟩,
      ⟨(some 13), none, .callG n_gimbalref09_cut [(.t 11), (.t 12)]⟩,
      ⟨(some 10), none, .mov (.t 13)⟩,
      ⟨(some 14), none, .ext (.t 10) 0⟩,
      ⟨(some 15), none, .ext (.t 10) 1⟩,
      ⟨(some 16), none, .ext (.t 10) 2⟩,
      ⟨(some 5), none, .mov (.t 14)⟩,
      ⟨(some 6), none, .mov (.t 15)⟩,
      ⟨(some 7), none, .mov (.t 16)⟩]))
   (.seq (.keep [5, 7, 8] (.ops false [⟨(some 17), none, .mov (.t 5)⟩,
       ⟨(some 18), none, .callG n_gimbalref01_Of [(.t 17)]⟩,
       ⟨(some 8), none, .alloc 2 (.agg [(.bool false), (.sl [])])⟩,
       ⟨none, none, .store 2 (.t 8) (.t 18)⟩]))
    (.seq (.seq (.keep [7, 8, 21] (.ops false [⟨(some 19), none, .mov (.t 5)⟩,
         ⟨(some 20), none, .mov (.t 7)⟩,
         ⟨(some 21), none, .bin .leq (.t 19) (.t 20)⟩]))
      (.cond (.t 21) (.seq (.keep [4] (.ops false [⟨(some 22), none, .load 2 true (.t 8)⟩,
           ⟨(some 23), none, .load 2 true (.t 8)⟩,
           ⟨(some 24), none, .callG n_gimbalref01_Int_Mul [(.t 22), (.t 23)]⟩,
           ⟨(some 25), none, .callG n_gimbalref01_Int_String [(.t 24)]⟩,
           ⟨(some 4), none, .mov (.t 25)⟩]))
        .ret)
       .skip))
     (.seq (.keep [8, 9] (.ops false [⟨(some 26), none, .mov (.t 7)⟩,
         ⟨(some 27), none, .callG n_gimbalref01_Of [(.t 26)]⟩,
         ⟨(some 9), none, .alloc 2 (.agg [(.bool false), (.sl [])])⟩,
         ⟨none, none, .store 2 (.t 9) (.t 27)⟩]))
      (.seq (.keep [4] (.ops true [⟨(some 28), none, .load 2 true (.t 9)⟩,
          ⟨(some 29), none, .load 2 true (.t 8)⟩,
          ⟨(some 30), none, .call n_gimbalref01_Int_Mul [(.t 28), (.t 29)]⟩,
          ⟨(some 31), none, .load 2 true (.t 9)⟩,
          ⟨(some 32), none, .load 2 true (.t 8)⟩,
          ⟨(some 33), none, .call n_gimbalref01_Int_Mul [(.t 31), (.t 32)]⟩,
          ⟨(some 34), none, .call n_gimbalref01_Int_Add [(.t 30), (.t 33)]⟩,
          ⟨(some 35), none, .load 2 true (.t 9)⟩,
          ⟨(some 36), none, .load 2 true (.t 9)⟩,
          ⟨(some 37), none, .call n_gimbalref01_Int_Mul [(.t 35), (.t 36)]⟩,
          ⟨(some 38), none, .call n_gimbalref01_Int_Sub [(.t 34), (.t 37)]⟩,
          ⟨(some 39), none, .call n_gimbalref01_Int_String [(.t 38)]⟩,
          ⟨(some 4), none, .mov (.t 39)⟩]))
       .ret))))))
def gimbalref09_Rho.res : List RX := [(4, none)]
theorem gimbalref09_Rho.m : mK pg Try.f24.ntmps gimbalref09_Rho.k (Try.f24.body.getD .skip) = true := by kernel_rfl
theorem gimbalref09_Rho.mr : mRes pg Try.f24.results.toList gimbalref09_Rho.res = true := by kernel_rfl
theorem gimbalref09_Rho.of {args : List V} {r : V} (hn : args.length = 2) (hW : W pg gimbalref09_Rho.k (done gimbalref09_Rho.res r) (start args)) : Ret pg n_gimbalref09_Rho args r :=
  Ret_of (fn := Try.f24) Try.func24 rfl (by kernel_rfl) gimbalref09_Rho.m gimbalref09_Rho.mr (by rw [hn]; exact of_decide_eq_true (by kernel_rfl)) hW
def gimbalref09_Slope.k : K :=
  (.seq (.keep [0, 1] (.ops false [⟨(some 4), none, .mov (.c (.int .i64 0))⟩]))
  (.seq (.keep [5, 6, 7] (.ops false [⟨(some 9), none, .mov (.t 0)⟩,
      ⟨(some 10), none, .mov (.t 1)⟩,
      ⟨(some 11), none, .callG n_gimbalref09_cut [(.t 9), (.t 10)]⟩,
      ⟨(some 8), none, .mov (.t 11)⟩,
      ⟨(some 12), none, .ext (.t 8) 0⟩,
      ⟨(some 13), none, .ext (.t 8) 1⟩,
      ⟨(some 14), none, .ext (.t 8) 2⟩,
      ⟨(some 5), none, .mov (.t 12)⟩,
      ⟨(some 6), none, .mov (.t 13)⟩,
      ⟨(some 7), none, .mov (.t 14)⟩]))
   (.seq (.seq (.keep [5, 6, 7, 17] (.ops false [⟨(some 15), none, .mov (.t 5)⟩,
        ⟨(some 16), none, .mov (.t 7)⟩,
        ⟨(some 17), none, .bin .gtr (.t 15) (.t 16)⟩]))
     (.cond (.t 17) (.keep [5, 6] (.ops false [⟨(some 18), none, .mov (.t 7)⟩,
         ⟨(some 5), none, .mov (.t 18)⟩]))
      .skip))
    (.seq (.seq (.keep [5, 19] (.ops false [⟨(some 19), none, .mov (.t 6)⟩]))
      (.cond (.t 19) (.seq (.keep [4] (.ops false [⟨(some 20), none, .mov (.t 5)⟩,
           ⟨(some 21), none, .un .neg (.t 20)⟩,
           ⟨(some 4), none, .mov (.t 21)⟩]))
        .ret)
       .skip))
     (.seq (.keep [4] (.ops false [⟨(some 22), none, .mov (.t 5)⟩,
         ⟨(some 4), none, .mov (.t 22)⟩]))
      .ret)))))
def gimbalref09_Slope.res : List RX := [(4, none)]
theorem gimbalref09_Slope.m : mK pg Try.f25.ntmps gimbalref09_Slope.k (Try.f25.body.getD .skip) = true := by kernel_rfl
theorem gimbalref09_Slope.mr : mRes pg Try.f25.results.toList gimbalref09_Slope.res = true := by kernel_rfl
theorem gimbalref09_Slope.of {args : List V} {r : V} (hn : args.length = 2) (hW : W pg gimbalref09_Slope.k (done gimbalref09_Slope.res r) (start args)) : Ret pg n_gimbalref09_Slope args r :=
  Ret_of (fn := Try.f25) Try.func25 rfl (by kernel_rfl) gimbalref09_Slope.m gimbalref09_Slope.mr (by rw [hn]; exact of_decide_eq_true (by kernel_rfl)) hW
def gimbalref09_cut.k : K :=
  (.seq (.keep [0, 1] (.ops false [⟨(some 4), none, .mov (.c (.int .i64 0))⟩,
     ⟨(some 5), none, .mov (.c (.bool false))⟩,
     ⟨(some 6), none, .mov (.c (.int .i64 0))⟩]))
  (.seq (.seq (.keep [0, 1, 8] (.ops false [⟨(some 7), none, .mov (.t 0)⟩,
       ⟨(some 8), none, .bin .lss (.t 7) (.c (.int .i64 (-2147483647)))⟩]))
    (.cond (.t 8) (.keep [0, 1] (.ops false [⟨(some 0), none, .mov (.c (.int .i64 (-2147483647)))⟩]))
     .skip))
   (.seq (.seq (.keep [0, 1, 10] (.ops false [⟨(some 9), none, .mov (.t 0)⟩,
        ⟨(some 10), none, .bin .gtr (.t 9) (.c (.int .i64 2147483647))⟩]))
     (.cond (.t 10) (.keep [0, 1] (.ops false [⟨(some 0), none, .mov (.c (.int .i64 2147483647))⟩]))
      .skip))
    (.seq (.seq (.keep [0, 1, 12] (.ops false [⟨(some 11), none, .mov (.t 1)⟩,
         ⟨(some 12), none, .bin .lss (.t 11) (.c (.int .i64 0))⟩]))
      (.cond (.t 12) (.keep [0, 1] (.ops false [⟨(some 1), none, .mov (.c (.int .i64 0))⟩]))
       .skip))
     (.seq (.seq (.keep [0, 1, 14] (.ops false [⟨(some 13), none, .mov (.t 1)⟩,
          ⟨(some 14), none, .bin .gtr (.t 13) (.c (.int .i64 2147483647))⟩]))
       (.cond (.t 14) (.keep [0, 1] (.ops false [⟨(some 1), none, .mov (.c (.int .i64 2147483647))⟩]))
        .skip))
      (.seq (.seq (.keep [0, 1, 16] (.ops false [⟨(some 15), none, .mov (.t 0)⟩,
           ⟨(some 16), none, .bin .lss (.t 15) (.c (.int .i64 0))⟩]))
        (.cond (.t 16) (.seq (.keep [4, 5, 6] (.ops false [⟨(some 17), none, .mov (.t 0)⟩,
             ⟨(some 18), none, .un .neg (.t 17)⟩,
             ⟨(some 19), none, .mov (.t 1)⟩,
             ⟨(some 4), none, .mov (.t 18)⟩,
             ⟨(some 5), none, .mov (.c (.bool true))⟩,
             ⟨(some 6), none, .mov (.t 19)⟩]))
          .ret)
         .skip))
       (.seq (.keep [4, 5, 6] (.ops false [⟨(some 20), none, .mov (.t 0)⟩,
           ⟨(some 21), none, .mov (.t 1)⟩,
           ⟨(some 4), none, .mov (.t 20)⟩,
           ⟨(some 5), none, .mov (.c (.bool false))⟩,
           ⟨(some 6), none, .mov (.t 21)⟩]))
        .ret)))))))
def gimbalref09_cut.res : List RX := [(4, none), (5, none), (6, none)]
theorem gimbalref09_cut.m : mK pg Try.f49.ntmps gimbalref09_cut.k (Try.f49.body.getD .skip) = true := by kernel_rfl
theorem gimbalref09_cut.mr : mRes pg Try.f49.results.toList gimbalref09_cut.res = true := by kernel_rfl
theorem gimbalref09_cut.of {args : List V} {r : V} (hn : args.length = 2) (hW : W pg gimbalref09_cut.k (done gimbalref09_cut.res r) (start args)) : Ret pg n_gimbalref09_cut args r :=
  Ret_of (fn := Try.f49) Try.func49 rfl (by kernel_rfl) gimbalref09_cut.m gimbalref09_cut.mr (by rw [hn]; exact of_decide_eq_true (by kernel_rfl)) hW
end Go.Gim

import Derived.Test.YtmfenpedpajfkaaGN
/- Functions' code as data (written by wip/tools/gen.py), and the step to their contracts. -/
set_option maxRecDepth 100000
namespace Go.Gim
open Go.Proofs
def gimbalref07_Of.k : K :=
  (.seq (.keep [0] (.ops false [⟨(some 2), none, .mov (.c .nil)⟩]))
  (.seq (.keep [0, 3] (.ops false [⟨(some 3), none, .mov (.c .nil)⟩]))
   (.seq (.seq (.keep [0, 3, 4] (.ops false [⟨(some 4), none, .mov (.c (.int .i64 0))⟩]))
     (.block 0 (.loop (.seq (.seq (.keep [0, 3, 4, 10] (.ops false [⟨(some 7), none, .mov (.t 4)⟩,
            ⟨(some 8), none, .mov (.t 0)⟩,
            ⟨(some 9), none, .len false (.t 8)⟩,
            ⟨(some 10), none, .bin .lss (.t 7) (.t 9)⟩]))
         (.cond (.t 10) .skip
          (.exit 0)))
        (.seq (.block 1 (.seq (.keep [0, 3, 4, 5] (.ops false [⟨(some 5), none, .mov (.c .nil)⟩]))
           (.seq (.seq (.keep [0, 3, 4, 5, 6] (.ops false [⟨(some 6), none, .mov (.c (.int .i64 0))⟩]))
             (.block 2 (.loop (.seq (.seq (.keep [0, 3, 4, 5, 6, 19] (.ops false [⟨(some 13), none, .mov (.t 6)⟩,
                    ⟨(some 14), none, .mov (.t 0)⟩,
                    ⟨(some 15), none, .mov (.t 4)⟩,
                    ⟨(some 16), none, .idxA 1 (.t 14) (.t 15)⟩,
                    ⟨(some 17), none, .load 1 false (.t 16)⟩,
                    ⟨(some 18), none, .len false (.t 17)⟩,
                    ⟨(some 19), none, .bin .lss (.t 13) (.t 18)⟩]))
                 (.cond (.t 19) .skip
                  (.exit 2)))
                (.seq (.block 3 (.keep [0, 3, 4, 5, 6] (.ops false [⟨(some 22), none, .mov (.t 5)⟩,
                     ⟨(some 23), none, .mov (.t 0)⟩,
                     ⟨(some 24), none, .mov (.t 4)⟩,
                     ⟨(some 25), none, .idxA 1 (.t 23) (.t 24)⟩,
                     ⟨(some 26), none, .load 1 false (.t 25)⟩,
                     ⟨(some 27), none, .mov (.t 6)⟩,
                     ⟨(some 28), none, .idxA 1 (.t 26) (.t 27)⟩,
                     ⟨(some 29), none, .load 1 false (.t 28)⟩,
                     ⟨(some 30), none, .callG n_gimbalref01_Of [(.t 29)]⟩,
                     ⟨(some 31), none, .new (.bsl 2) [(.t 30)]⟩,
                     ⟨(some 32), none, .eff (.app 2 32) [(.t 22), (.t 31)]⟩,
                     ⟨(some 5), none, .mov (.t 32)⟩])))
                 (.keep [0, 3, 4, 5, 6] (.ops false [⟨(some 20), none, .mov (.t 6)⟩,
                    ⟨(some 21), none, .bin .add (.t 20) (.c (.int .i64 1))⟩,
                    ⟨(some 6), none, .mov (.t 21)⟩])))))))
            (.gh (.keep [0, 3, 4] (.ops false [⟨(some 33), none, .mov (.t 3)⟩,
               ⟨(some 34), none, .mov (.t 5)⟩,
               ⟨(some 35), none, .new (.bsl 1) [(.t 34)]⟩,
               ⟨(some 36), none, .eff (.app 1 24) [(.t 33), (.t 35)]⟩,
               ⟨(some 3), none, .mov (.t 36)⟩]))))))
         (.keep [0, 3, 4] (.ops false [⟨(some 11), none, .mov (.t 4)⟩,
            ⟨(some 12), none, .bin .add (.t 11) (.c (.int .i64 1))⟩,
            ⟨(some 4), none, .mov (.t 12)⟩])))))))
    (.seq (.keep [2] (.ops false [⟨(some 37), none, .mov (.t 3)⟩,
        ⟨(some 2), none, .mov (.t 37)⟩]))
     .ret))))
def gimbalref07_Of.res : List RX := [(2, none)]
theorem gimbalref07_Of.m : mK pg Try.f22.ntmps gimbalref07_Of.k (Try.f22.body.getD .skip) = true := by kernel_rfl
theorem gimbalref07_Of.mr : mRes pg Try.f22.results.toList gimbalref07_Of.res = true := by kernel_rfl
theorem gimbalref07_Of.of {args : List V} {r : V} (hn : args.length = 1) (hW : W pg gimbalref07_Of.k (done gimbalref07_Of.res r) (start args)) : Ret pg n_gimbalref07_Of args r :=
  Ret_of (fn := Try.f22) Try.func22 rfl (by kernel_rfl) gimbalref07_Of.m gimbalref07_Of.mr (by rw [hn]; exact of_decide_eq_true (by kernel_rfl)) hW
def gimbalref07_Mat_Det.k : K :=
  (.seq (.keep [0, 2] (.ops false [⟨(some 2), none, .alloc 2 (.agg [(.bool false), (.sl [])])⟩]))
  (.seq (.seq (.keep [0, 2, 8] (.ops false [⟨(some 6), none, .mov (.t 0)⟩,
       ⟨(some 7), none, .len false (.t 6)⟩,
       ⟨(some 8), none, .bin .eql (.t 7) (.c (.int .i64 0))⟩]))
    (.cond (.t 8) (.seq (.keep [2] (.ops false [⟨(some 9), none, .callG n_gimbalref01_Of [(.c (.int .i64 1))]⟩,
         ⟨none, none, .store 2 (.t 2) (.t 9)⟩]))
      .ret)
     .skip))
   (.seq (.keep [0, 2, 3] (.ops false [⟨(some 10), none, .callG n_gimbalref01_Of [(.c (.int .i64 0))]⟩,
       ⟨(some 3), none, .alloc 2 (.agg [(.bool false), (.sl [])])⟩,
       ⟨none, none, .store 2 (.t 3) (.t 10)⟩]))
    (.seq (.seq (.keep [0, 2, 3, 4] (.ops false [⟨(some 4), none, .mov (.c (.int .i64 0))⟩]))
      (.block 0 (.loop (.seq (.seq (.keep [0, 2, 3, 4, 14] (.ops false [⟨(some 11), none, .mov (.t 4)⟩,
             ⟨(some 12), none, .mov (.t 0)⟩,
             ⟨(some 13), none, .len false (.t 12)⟩,
             ⟨(some 14), none, .bin .lss (.t 11) (.t 13)⟩]))
          (.cond (.t 14) .skip
           (.exit 0)))
         (.seq (.block 1 (.seq (.keep [0, 2, 3, 4, 5] (.ops true [⟨(some 17), none, .mov (.t 0)⟩,
               ⟨(some 18), none, .idxA 1 (.t 17) (.c (.int .i64 0))⟩,
               ⟨(some 19), none, .load 1 false (.t 18)⟩,
               ⟨(some 20), none, .mov (.t 4)⟩,
               ⟨(some 21), none, .idxA 2 (.t 19) (.t 20)⟩,
               ⟨(some 22), none, .load 2 true (.t 21)⟩,
               ⟨(some 23), none, .mov (.t 0)⟩,
               ⟨(some 24), none, .mov (.t 4)⟩,
               ⟨(some 25), none, .call n_gimbalref07_without [(.t 23), (.t 24)]⟩,
               ⟨(some 26), none, .call n_gimbalref07_Mat_Det [(.t 25)]⟩,
               ⟨(some 27), none, .call n_gimbalref01_Int_Mul [(.t 22), (.t 26)]⟩,
               ⟨(some 5), none, .alloc 2 (.agg [(.bool false), (.sl [])])⟩,
               ⟨none, none, .store 2 (.t 5) (.t 27)⟩]))
            (.seq (.seq (.keep [0, 2, 3, 4, 5, 30] (.ops false [⟨(some 28), none, .mov (.t 4)⟩,
                 ⟨(some 29), none, .bin .rem (.t 28) (.c (.int .i64 2))⟩,
                 ⟨(some 30), none, .bin .eql (.t 29) (.c (.int .i64 1))⟩]))
              (.cond (.t 30) (.keep [0, 2, 3, 4, 5] (.ops false [⟨(some 31), none, .load 2 true (.t 5)⟩,
                  ⟨(some 32), none, .callG n_gimbalref01_Int_Minus [(.t 31)]⟩,
                  ⟨none, none, .store 2 (.t 5) (.t 32)⟩]))
               .skip))
             (.keep [0, 2, 3, 4] (.ops false [⟨(some 33), none, .load 2 true (.t 3)⟩,
                ⟨(some 34), none, .load 2 true (.t 5)⟩,
                ⟨(some 35), none, .callG n_gimbalref01_Int_Add [(.t 33), (.t 34)]⟩,
                ⟨none, none, .store 2 (.t 3) (.t 35)⟩])))))
          (.keep [0, 2, 3, 4] (.ops false [⟨(some 15), none, .mov (.t 4)⟩,
             ⟨(some 16), none, .bin .add (.t 15) (.c (.int .i64 1))⟩,
             ⟨(some 4), none, .mov (.t 16)⟩])))))))
     (.seq (.keep [2] (.ops false [⟨(some 36), none, .load 2 true (.t 3)⟩,
         ⟨none, none, .store 2 (.t 2) (.t 36)⟩]))
      .ret)))))
def gimbalref07_Mat_Det.res : List RX := [(2, some (2, true))]
theorem gimbalref07_Mat_Det.m : mK pg Try.f28.ntmps gimbalref07_Mat_Det.k (Try.f28.body.getD .skip) = true := by kernel_rfl
theorem gimbalref07_Mat_Det.mr : mRes pg Try.f28.results.toList gimbalref07_Mat_Det.res = true := by kernel_rfl
theorem gimbalref07_Mat_Det.of {args : List V} {r : V} (hn : args.length = 1) (hW : W pg gimbalref07_Mat_Det.k (done gimbalref07_Mat_Det.res r) (start args)) : Ret pg n_gimbalref07_Mat_Det args r :=
  Ret_of (fn := Try.f28) Try.func28 rfl (by kernel_rfl) gimbalref07_Mat_Det.m gimbalref07_Mat_Det.mr (by rw [hn]; exact of_decide_eq_true (by kernel_rfl)) hW
def gimbalref07_Mat_Solve.k : K :=
  (.seq (.keep [0, 1] (.ops false [⟨(some 4), none, .mov (.c .nil)⟩]))
  (.seq (.keep [0, 1, 5] (.ops false [⟨(some 5), none, .mov (.c .nil)⟩]))
   (.seq (.seq (.keep [0, 1, 5, 6] (.ops false [⟨(some 6), none, .mov (.c (.int .i64 0))⟩]))
     (.block 0 (.loop (.seq (.seq (.keep [0, 1, 5, 6, 13] (.ops false [⟨(some 10), none, .mov (.t 6)⟩,
            ⟨(some 11), none, .mov (.t 0)⟩,
            ⟨(some 12), none, .len false (.t 11)⟩,
            ⟨(some 13), none, .bin .lss (.t 10) (.t 12)⟩]))
         (.cond (.t 13) .skip
          (.exit 0)))
        (.seq (.block 1 (.seq (.keep [0, 1, 5, 6, 7] (.ops false [⟨(some 7), none, .mov (.c .nil)⟩]))
           (.seq (.seq (.keep [0, 1, 5, 6, 7, 8] (.ops false [⟨(some 8), none, .mov (.c (.int .i64 0))⟩]))
             (.block 2 (.loop (.seq (.seq (.keep [0, 1, 5, 6, 7, 8, 19] (.ops false [⟨(some 16), none, .mov (.t 8)⟩,
                    ⟨(some 17), none, .mov (.t 0)⟩,
                    ⟨(some 18), none, .len false (.t 17)⟩,
                    ⟨(some 19), none, .bin .lss (.t 16) (.t 18)⟩]))
                 (.cond (.t 19) .skip
                  (.exit 2)))
                (.seq (.block 3 (.seq (.keep [0, 1, 5, 6, 7, 8, 9] (.ops false [⟨(some 22), none, .new (.bsl 2) []⟩,
                      ⟨(some 23), none, .mov (.t 0)⟩,
                      ⟨(some 24), none, .mov (.t 8)⟩,
                      ⟨(some 25), none, .idxA 1 (.t 23) (.t 24)⟩,
                      ⟨(some 26), none, .load 1 false (.t 25)⟩,
                      ⟨(some 27), none, .eff (.app 2 32) [(.t 22), (.t 26)]⟩,
                      ⟨(some 9), none, .mov (.t 27)⟩]))
                   (.seq (.keep [0, 1, 5, 6, 7, 8, 9] (.ops false [⟨(some 28), none, .mov (.t 9)⟩,
                       ⟨(some 29), none, .mov (.t 6)⟩,
                       ⟨(some 30), none, .mov (.t 1)⟩,
                       ⟨(some 31), none, .mov (.t 8)⟩,
                       ⟨(some 32), none, .idxA 2 (.t 30) (.t 31)⟩,
                       ⟨(some 33), none, .load 2 true (.t 32)⟩,
                       ⟨(some 34), none, .idxA 2 (.t 28) (.t 29)⟩,
                       ⟨none, none, .store 2 (.t 34) (.t 33)⟩]))
                    (.gh (.keep [0, 1, 5, 6, 7, 8] (.ops false [⟨(some 35), none, .mov (.t 7)⟩,
                       ⟨(some 36), none, .mov (.t 9)⟩,
                       ⟨(some 37), none, .new (.bsl 1) [(.t 36)]⟩,
                       ⟨(some 38), none, .eff (.app 1 24) [(.t 35), (.t 37)]⟩,
                       ⟨(some 7), none, .mov (.t 38)⟩]))))))
                 (.keep [0, 1, 5, 6, 7, 8] (.ops false [⟨(some 20), none, .mov (.t 8)⟩,
                    ⟨(some 21), none, .bin .add (.t 20) (.c (.int .i64 1))⟩,
                    ⟨(some 8), none, .mov (.t 21)⟩])))))))
            (.keep [0, 1, 5, 6] (.ops false [⟨(some 39), none, .mov (.t 5)⟩,
               ⟨(some 40), none, .mov (.t 7)⟩,
               ⟨(some 41), none, .callG n_gimbalref07_Mat_Det [(.t 40)]⟩,
               ⟨(some 42), none, .new (.bsl 2) [(.t 41)]⟩,
               ⟨(some 43), none, .eff (.app 2 32) [(.t 39), (.t 42)]⟩,
               ⟨(some 5), none, .mov (.t 43)⟩])))))
         (.keep [0, 1, 5, 6] (.ops false [⟨(some 14), none, .mov (.t 6)⟩,
            ⟨(some 15), none, .bin .add (.t 14) (.c (.int .i64 1))⟩,
            ⟨(some 6), none, .mov (.t 15)⟩])))))))
    (.seq (.keep [4] (.ops false [⟨(some 44), none, .mov (.t 5)⟩,
        ⟨(some 4), none, .mov (.t 44)⟩]))
     .ret))))
def gimbalref07_Mat_Solve.res : List RX := [(4, none)]
theorem gimbalref07_Mat_Solve.m : mK pg Try.f33.ntmps gimbalref07_Mat_Solve.k (Try.f33.body.getD .skip) = true := by kernel_rfl
theorem gimbalref07_Mat_Solve.mr : mRes pg Try.f33.results.toList gimbalref07_Mat_Solve.res = true := by kernel_rfl
theorem gimbalref07_Mat_Solve.of {args : List V} {r : V} (hn : args.length = 2) (hW : W pg gimbalref07_Mat_Solve.k (done gimbalref07_Mat_Solve.res r) (start args)) : Ret pg n_gimbalref07_Mat_Solve args r :=
  Ret_of (fn := Try.f33) Try.func33 rfl (by kernel_rfl) gimbalref07_Mat_Solve.m gimbalref07_Mat_Solve.mr (by rw [hn]; exact of_decide_eq_true (by kernel_rfl)) hW
def gimbalref07_without.k : K :=
  (.seq (.keep [0, 1] (.ops false [⟨(some 4), none, .mov (.c .nil)⟩]))
  (.seq (.keep [0, 1, 5] (.ops false [⟨(some 5), none, .mov (.c .nil)⟩]))
   (.seq (.seq (.keep [0, 1, 5, 6] (.ops false [⟨(some 6), none, .mov (.c (.int .i64 1))⟩]))
     (.block 0 (.loop (.seq (.seq (.keep [0, 1, 5, 6, 12] (.ops false [⟨(some 9), none, .mov (.t 6)⟩,
            ⟨(some 10), none, .mov (.t 0)⟩,
            ⟨(some 11), none, .len false (.t 10)⟩,
            ⟨(some 12), none, .bin .lss (.t 9) (.t 11)⟩]))
         (.cond (.t 12) .skip
          (.exit 0)))
        (.seq (.block 1 (.seq (.keep [0, 1, 5, 6, 7] (.ops false [⟨(some 7), none, .mov (.c .nil)⟩]))
           (.seq (.seq (.keep [0, 1, 5, 6, 7, 8] (.ops false [⟨(some 8), none, .mov (.c (.int .i64 0))⟩]))
             (.block 2 (.loop (.seq (.seq (.keep [0, 1, 5, 6, 7, 8, 21] (.ops false [⟨(some 15), none, .mov (.t 8)⟩,
                    ⟨(some 16), none, .mov (.t 0)⟩,
                    ⟨(some 17), none, .mov (.t 6)⟩,
                    ⟨(some 18), none, .idxA 1 (.t 16) (.t 17)⟩,
                    ⟨(some 19), none, .load 1 false (.t 18)⟩,
                    ⟨(some 20), none, .len false (.t 19)⟩,
                    ⟨(some 21), none, .bin .lss (.t 15) (.t 20)⟩]))
                 (.cond (.t 21) .skip
                  (.exit 2)))
                (.seq (.block 3 (.seq (.keep [0, 1, 5, 6, 7, 8, 26] (.ops false [⟨(some 24), none, .mov (.t 8)⟩,
                      ⟨(some 25), none, .mov (.t 1)⟩,
                      ⟨(some 26), none, .bin .neq (.t 24) (.t 25)⟩]))
                   (.cond (.t 26) (.keep [0, 1, 5, 6, 7, 8] (.ops false [⟨(some 27), none, .mov (.t 7)⟩,
                       ⟨(some 28), none, .mov (.t 0)⟩,
                       ⟨(some 29), none, .mov (.t 6)⟩,
                       ⟨(some 30), none, .idxA 1 (.t 28) (.t 29)⟩,
                       ⟨(some 31), none, .load 1 false (.t 30)⟩,
                       ⟨(some 32), none, .mov (.t 8)⟩,
                       ⟨(some 33), none, .idxA 2 (.t 31) (.t 32)⟩,
                       ⟨(some 34), none, .load 2 true (.t 33)⟩,
                       ⟨(some 35), none, .new (.bsl 2) [(.t 34)]⟩,
                       ⟨(some 36), none, .eff (.app 2 32) [(.t 27), (.t 35)]⟩,
                       ⟨(some 7), none, .mov (.t 36)⟩]))
                    .skip)))
                 (.keep [0, 1, 5, 6, 7, 8] (.ops false [⟨(some 22), none, .mov (.t 8)⟩,
                    ⟨(some 23), none, .bin .add (.t 22) (.c (.int .i64 1))⟩,
                    ⟨(some 8), none, .mov (.t 23)⟩])))))))
            (.gh (.keep [0, 1, 5, 6] (.ops false [⟨(some 37), none, .mov (.t 5)⟩,
               ⟨(some 38), none, .mov (.t 7)⟩,
               ⟨(some 39), none, .new (.bsl 1) [(.t 38)]⟩,
               ⟨(some 40), none, .eff (.app 1 24) [(.t 37), (.t 39)]⟩,
               ⟨(some 5), none, .mov (.t 40)⟩]))))))
         (.keep [0, 1, 5, 6] (.ops false [⟨(some 13), none, .mov (.t 6)⟩,
            ⟨(some 14), none, .bin .add (.t 13) (.c (.int .i64 1))⟩,
            ⟨(some 6), none, .mov (.t 14)⟩])))))))
    (.seq (.keep [4] (.ops false [⟨(some 41), none, .mov (.t 5)⟩,
        ⟨(some 4), none, .mov (.t 41)⟩]))
     .ret))))
def gimbalref07_without.res : List RX := [(4, none)]
theorem gimbalref07_without.m : mK pg Try.f83.ntmps gimbalref07_without.k (Try.f83.body.getD .skip) = true := by kernel_rfl
theorem gimbalref07_without.mr : mRes pg Try.f83.results.toList gimbalref07_without.res = true := by kernel_rfl
theorem gimbalref07_without.of {args : List V} {r : V} (hn : args.length = 2) (hW : W pg gimbalref07_without.k (done gimbalref07_without.res r) (start args)) : Ret pg n_gimbalref07_without args r :=
  Ret_of (fn := Try.f83) Try.func83 rfl (by kernel_rfl) gimbalref07_without.m gimbalref07_without.mr (by rw [hn]; exact of_decide_eq_true (by kernel_rfl)) hW
end Go.Gim

import Derived.Test.YtmfenpedpajfkaaGN
/- Functions' code as data (written by wip/tools/gen.py), and the step to their contracts. -/
set_option maxRecDepth 100000
namespace Go.Gim
open Go.Proofs
def gimbalref07_Of.k : K :=
  (.seq (.keep [0] (.ops false [⟨(some 2), none, .mov (.c .nil)⟩]))
  (.seq (.keep [0, 3] (.ops false [⟨(some 3), none, .mov (.c .nil)⟩]))
   (.seq (.seq (.keep [0, 3, 4] (.ops false [⟨(some 4), none, .mov (.c (.int .i64 0))⟩]))
     (.block 0 (.loop (.seq (.seq (.keep [0, 3, 4, 10] (.ops false [⟨(some 7), none, .mov (.t 4)⟩,
            ⟨(some 8), none, .mov (.t 0)⟩,
            ⟨(some 9), none, .len false (.t 8)⟩,
            ⟨(some 10), none, .bin .lss (.t 7) (.t 9)⟩]))
         (.cond (.t 10) .skip
          (.exit 0)))
        (.seq (.block 1 (.seq (.keep [0, 3, 4, 5] (.ops false [⟨(some 5), none, .mov (.c .nil)⟩]))
           (.seq (.seq (.keep [0, 3, 4, 5, 6] (.ops false [⟨(some 6), none, .mov (.c (.int .i64 0))⟩]))
             (.block 2 (.loop (.seq (.seq (.keep [0, 3, 4, 5, 6, 19] (.ops false [⟨(some 13), none, .mov (.t 6)⟩,
                    ⟨(some 14), none, .mov (.t 0)⟩,
                    ⟨(some 15), none, .mov (.t 4)⟩,
                    ⟨(some 16), none, .idxA 1 (.t 14) (.t 15)⟩,
                    ⟨(some 17), none, .load 1 false (.t 16)⟩,
                    ⟨(some 18), none, .len false (.t 17)⟩,
                    ⟨(some 19), none, .bin .lss (.t 13) (.t 18)⟩]))
                 (.cond (.t 19) .skip
                  (.exit 2)))
                (.seq (.block 3 (.keep [0, 3, 4, 5, 6] (.ops false [⟨(some 22), none, .mov (.t 5)⟩,
                     ⟨(some 23), none, .mov (.t 0)⟩,
                     ⟨(some 24), none, .mov (.t 4)⟩,
                     ⟨(some 25), none, .idxA 1 (.t 23) (.t 24)⟩,
                     ⟨(some 26), none, .load 1 false (.t 25)⟩,
                     ⟨(some 27), none, .mov (.t 6)⟩,
                     ⟨(some 28), none, .idxA 1 (.t 26) (.t 27)⟩,
                     ⟨(some 29), none, .load 1 false (.t 28)⟩,
                     ⟨(some 30), none, .callG n_gimbalref01_Of [(.t 29)]⟩,
                     ⟨(some 31), none, .new (.bsl 2) [(.t 30)]⟩,
                     ⟨(some 32), none, .eff (.app 2 32) [(.t 22), (.t 31)]⟩,
                     ⟨(some 5), none, .mov (.t 32)⟩])))
                 (.keep [0, 3, 4, 5, 6] (.ops false [⟨(some 20), none, .mov (.t 6)⟩,
                    ⟨(some 21), none, .bin .add (.t 20) (.c (.int .i64 1))⟩,
                    ⟨(some 6), none, .mov (.t 21)⟩])))))))
            (.gh (.keep [0, 3, 4] (.ops false [⟨(some 33), none, .mov (.t 3)⟩,
               ⟨(some 34), none, .mov (.t 5)⟩,
               ⟨(some 35), none, .new (.bsl 1) [(.t 34)]⟩,
               ⟨(some 36), none, .eff (.app 1 24) [(.t 33), (.t 35)]⟩,
               ⟨(some 3), none, .mov (.t 36)⟩]))))))
         (.keep [0, 3, 4] (.ops false [⟨(some 11), none, .mov (.t 4)⟩,
            ⟨(some 12), none, .bin .add (.t 11) (.c (.int .i64 1))⟩,
            ⟨(some 4), none, .mov (.t 12)⟩])))))))
    (.seq (.keep [2] (.ops false [⟨(some 37), none, .mov (.t 3)⟩,
        ⟨(some 2), none, .mov (.t 37)⟩]))
     .ret))))
def gimbalref07_Of.res : List RX := [(2, none)]
theorem gimbalref07_Of.m : mK pg Try.f22.ntmps gimbalref07_Of.k (Try.f22.body.getD .skip) = true := by kernel_rfl
theorem gimbalref07_Of.mr : mRes pg Try.f22.results.toList gimbalref07_Of.res = true := by kernel_rfl
theorem gimbalref07_Of.of {args : List V} {r : V} (hn : args.length = 1) (hW : W pg gimbalref07_Of.k (done gimbalref07_Of.res r) (start args)) : Ret pg n_gimbalref07_Of args r :=
  Ret_of (fn := Try.f22) Try.func22 rfl (by kernel_rfl) gimbalref07_Of.m gimbalref07_Of.mr (by rw [hn]; exact of_decide_eq_true (by kernel_rfl)) hW
def gimbalref07_Mat_Det.k : K :=
  (.seq (.keep [0, 2] (.ops false [⟨(some 2), none, .alloc 2 (.agg [(.bool false), (.sl [])])⟩]))
  (.seq (.seq (.keep [0, 2, 8] (.ops false [⟨(some 6), none, .mov (.t 0)⟩,
       ⟨(some 7), none, .len false (.t 6)⟩,
       ⟨(some 8), none, .bin .eql (.t 7) (.c (.int .i64 0))⟩]))
    (.cond (.t 8) (.seq (.keep [2] (.ops false [⟨(some 9), none, .callG n_gimbalref01_Of [(.c (.int .i64 1))]⟩,
         ⟨none, none, .store 2 (.t 2) (.t 9)⟩]))
      .ret)
     .skip))
   (.seq (.keep [0, 2, 3] (.ops false [⟨(some 10), none, .callG n_gimbalref01_Of [(.c (.int .i64 0))]⟩,
       ⟨(some 3), none, .alloc 2 (.agg [(.bool false), (.sl [])])⟩,
       ⟨none, none, .store 2 (.t 3) (.t 10)⟩]))
    (.seq (.seq (.keep [0, 2, 3, 4] (.ops false [⟨(some 4), none, .mov (.c (.int .i64 0))⟩]))
      (.block 0 (.loop (.seq (.seq (.keep [0, 2, 3, 4, 14] (.ops false [⟨(some 11), none, .mov (.t 4)⟩,
             ⟨(some 12), none, .mov (.t 0)⟩,
             ⟨(some 13), none, .len false (.t 12)⟩,
             ⟨(some 14), none, .bin .lss (.t 11) (.t 13)⟩]))
          (.cond (.t 14) .skip
           (.exit 0)))
         (.seq (.block 1 (.seq (.keep [0, 2, 3, 4, 5] (.ops true [⟨(some 17), none, .mov (.t 0)⟩,
               ⟨(some 18), none, .idxA 1 (.t 17) (.c (.int .i64 0))⟩,
               ⟨(some 19), none, .load 1 false (.t 18)⟩,
               ⟨(some 20), none, .mov (.t 4)⟩,
               ⟨(some 21), none, .idxA 2 (.t 19) (.t 20)⟩,
               ⟨(some 22), none, .load 2 true (.t 21)⟩,
               ⟨(some 23), none, .mov (.t 0)⟩,
               ⟨(some 24), none, .mov (.t 4)⟩,
               ⟨(some 25), none, .call n_gimbalref07_without [(.t 23), (.t 24)]⟩,
               ⟨(some 26), none, .call n_gimbalref07_Mat_Det [(.t 25)]⟩,
               ⟨(some 27), none, .call n_gimbalref01_Int_Mul [(.t 22), (.t 26)]⟩,
               ⟨(some 5), none, .alloc 2 (.agg [(.bool false), (.sl [])])⟩,
               ⟨none, none, .store 2 (.t 5) (.t 27)⟩]))
            (.seq (.seq (.keep [0, 2, 3, 4, 5, 30] (.ops false [⟨(some 28), none, .mov (.t 4)⟩,
                 ⟨(some 29), none, .bin .rem (.t 28) (.c (.int .i64 2))⟩,
                 ⟨(some 30), none, .bin .eql (.t 29) (.c (.int .i64 1))⟩]))
              (.cond (.t 30) (.keep [0, 2, 3, 4, 5] (.ops false [⟨(some 31), none, .load 2 true (.t 5)⟩,
                  ⟨(some 32), none, .callG n_gimbalref01_Int_Minus [(.t 31)]⟩,
                  ⟨none, none, .store 2 (.t 5) (.t 32)⟩]))
               .skip))
             (.keep [0, 2, 3, 4] (.ops false [⟨(some 33), none, .load 2 true (.t 3)⟩,
                ⟨(some 34), none, .load 2 true (.t 5)⟩,
                ⟨(some 35), none, .callG n_gimbalref01_Int_Add [(.t 33), (.t 34)]⟩,
                ⟨none, none, .store 2 (.t 3) (.t 35)⟩])))))
          (.keep [0, 2, 3, 4] (.ops false [⟨(some 15), none, .mov (.t 4)⟩,
             ⟨(some 16), none, .bin .add (.t 15) (.c (.int .i64 1))⟩,
             ⟨(some 4), none, .mov (.t 16)⟩])))))))
     (.seq (.keep [2] (.ops false [⟨(some 36), none, .load 2 true (.t 3)⟩,
         ⟨none, none, .store 2 (.t 2) (.t 36)⟩]))
      .ret)))))
def gimbalref07_Mat_Det.res : List RX := [(2, some (2, true))]
theorem gimbalref07_Mat_Det.m : mK pg Try.f28.ntmps gimbalref07_Mat_Det.k (Try.f28.body.getD .skip) = true := by kernel_rfl
theorem gimbalref07_Mat_Det.mr : mRes pg Try.f28.results.toList gimbalref07_Mat_Det.res = true := by kernel_rfl
theorem gimbalref07_Mat_Det.of {args : List V} {r : V} (hn : args.length = 1) (hW : W pg gimbalref07_Mat_Det.k (done gimbalref07_Mat_Det.res r) (start args)) : Ret pg n_gimbalref07_Mat_Det args r :=
  Ret_of (fn := Try.f28) Try.func28 rfl (by kernel_rfl) gimbalref07_Mat_Det.m gimbalref07_Mat_Det.mr (by rw [hn]; exact of_decide_eq_true (by kernel_rfl)) hW
def gimbalref07_Mat_Mul.k : K :=
  (.seq (.keep [0, 1] (.ops false [⟨(some 4), none, .mov (.c .nil)⟩]))
  (.seq (.keep [0, 1, 5] (.ops false [⟨(some 5), none, .mov (.c .nil)⟩]))
   (.seq (.keep [0, 5, 6] (.ops false [⟨(some 8), none, .mov (.t 1)⟩,
       ⟨(some 9), none, .callG n_gimbalref07_Mat_Turned [(.t 8)]⟩,
       ⟨(some 6), none, .mov (.t 9)⟩]))
    (.seq (.seq (.keep [0, 5, 6, 7] (.ops false [⟨(some 7), none, .mov (.c (.int .i64 0))⟩]))
      (.block 0 (.loop (.seq (.seq (.keep [0, 5, 6, 7, 13] (.ops false [⟨(some 10), none, .mov (.t 7)⟩,
             ⟨(some 11), none, .mov (.t 0)⟩,
             ⟨(some 12), none, .len false (.t 11)⟩,
             ⟨(some 13), none, .bin .lss (.t 10) (.t 12)⟩]))
          (.cond (.t 13) .skip
           (.exit 0)))
         (.seq (.block 1 (.gh (.keep [0, 5, 6, 7] (.ops false [⟨(some 16), none, .mov (.t 5)⟩,
              ⟨(some 17), none, .mov (.t 6)⟩,
              ⟨(some 18), none, .mov (.t 0)⟩,
              ⟨(some 19), none, .mov (.t 7)⟩,
              ⟨(some 20), none, .idxA 1 (.t 18) (.t 19)⟩,
              ⟨(some 21), none, .load 1 false (.t 20)⟩,
              ⟨(some 22), none, .callG n_gimbalref07_Mat_Apply [(.t 17), (.t 21)]⟩,
              ⟨(some 23), none, .new (.bsl 1) [(.t 22)]⟩,
              ⟨(some 24), none, .eff (.app 1 24) [(.t 16), (.t 23)]⟩,
              ⟨(some 5), none, .mov (.t 24)⟩]))))
          (.keep [0, 5, 6, 7] (.ops false [⟨(some 14), none, .mov (.t 7)⟩,
             ⟨(some 15), none, .bin .add (.t 14) (.c (.int .i64 1))⟩,
             ⟨(some 7), none, .mov (.t 15)⟩])))))))
     (.seq (.keep [4] (.ops false [⟨(some 25), none, .mov (.t 5)⟩,
         ⟨(some 4), none, .mov (.t 25)⟩]))
      .ret)))))
def gimbalref07_Mat_Mul.res : List RX := [(4, none)]
theorem gimbalref07_Mat_Mul.m : mK pg Try.f43.ntmps gimbalref07_Mat_Mul.k (Try.f43.body.getD .skip) = true := by kernel_rfl
theorem gimbalref07_Mat_Mul.mr : mRes pg Try.f43.results.toList gimbalref07_Mat_Mul.res = true := by kernel_rfl
theorem gimbalref07_Mat_Mul.of {args : List V} {r : V} (hn : args.length = 2) (hW : W pg gimbalref07_Mat_Mul.k (done gimbalref07_Mat_Mul.res r) (start args)) : Ret pg n_gimbalref07_Mat_Mul args r :=
  Ret_of (fn := Try.f43) Try.func43 rfl (by kernel_rfl) gimbalref07_Mat_Mul.m gimbalref07_Mat_Mul.mr (by rw [hn]; exact of_decide_eq_true (by kernel_rfl)) hW
def gimbalref07_Mat_Turned.k : K :=
  (.seq (.keep [0] (.ops false [⟨(some 2), none, .mov (.c .nil)⟩]))
  (.seq (.keep [0, 3] (.ops false [⟨(some 3), none, .mov (.c .nil)⟩]))
   (.seq (.seq (.keep [0, 3, 4] (.ops false [⟨(some 4), none, .mov (.c (.int .i64 0))⟩]))
     (.block 0 (.loop (.seq (.seq (.keep [0, 3, 4, 10] (.ops false [⟨(some 7), none, .mov (.t 4)⟩,
            ⟨(some 8), none, .mov (.t 0)⟩,
            ⟨(some 9), none, .len false (.t 8)⟩,
            ⟨(some 10), none, .bin .lss (.t 7) (.t 9)⟩]))
         (.cond (.t 10) .skip
          (.exit 0)))
        (.seq (.block 1 (.seq (.keep [0, 3, 4, 5] (.ops false [⟨(some 5), none, .mov (.c .nil)⟩]))
           (.seq (.seq (.keep [0, 3, 4, 5, 6] (.ops false [⟨(some 6), none, .mov (.c (.int .i64 0))⟩]))
             (.block 2 (.loop (.seq (.seq (.keep [0, 3, 4, 5, 6, 16] (.ops false [⟨(some 13), none, .mov (.t 6)⟩,
                    ⟨(some 14), none, .mov (.t 0)⟩,
                    ⟨(some 15), none, .len false (.t 14)⟩,
                    ⟨(some 16), none, .bin .lss (.t 13) (.t 15)⟩]))
                 (.cond (.t 16) .skip
                  (.exit 2)))
                (.seq (.block 3 (.keep [0, 3, 4, 5, 6] (.ops false [⟨(some 19), none, .mov (.t 5)⟩,
                     ⟨(some 20), none, .mov (.t 0)⟩,
                     ⟨(some 21), none, .mov (.t 6)⟩,
                     ⟨(some 22), none, .idxA 1 (.t 20) (.t 21)⟩,
                     ⟨(some 23), none, .load 1 false (.t 22)⟩,
                     ⟨(some 24), none, .mov (.t 4)⟩,
                     ⟨(some 25), none, .idxA 2 (.t 23) (.t 24)⟩,
                     ⟨(some 26), none, .load 2 true (.t 25)⟩,
                     ⟨(some 27), none, .new (.bsl 2) [(.t 26)]⟩,
                     ⟨(some 28), none, .eff (.app 2 32) [(.t 19), (.t 27)]⟩,
                     ⟨(some 5), none, .mov (.t 28)⟩])))
                 (.keep [0, 3, 4, 5, 6] (.ops false [⟨(some 17), none, .mov (.t 6)⟩,
                    ⟨(some 18), none, .bin .add (.t 17) (.c (.int .i64 1))⟩,
                    ⟨(some 6), none, .mov (.t 18)⟩])))))))
            (.gh (.keep [0, 3, 4] (.ops false [⟨(some 29), none, .mov (.t 3)⟩,
               ⟨(some 30), none, .mov (.t 5)⟩,
               ⟨(some 31), none, .new (.bsl 1) [(.t 30)]⟩,
               ⟨(some 32), none, .eff (.app 1 24) [(.t 29), (.t 31)]⟩,
               ⟨(some 3), none, .mov (.t 32)⟩]))))))
         (.keep [0, 3, 4] (.ops false [⟨(some 11), none, .mov (.t 4)⟩,
            ⟨(some 12), none, .bin .add (.t 11) (.c (.int .i64 1))⟩,
            ⟨(some 4), none, .mov (.t 12)⟩])))))))
    (.seq (.keep [2] (.ops false [⟨(some 33), none, .mov (.t 3)⟩,
        ⟨(some 2), none, .mov (.t 33)⟩]))
     .ret))))
def gimbalref07_Mat_Turned.res : List RX := [(2, none)]
theorem gimbalref07_Mat_Turned.m : mK pg Try.f44.ntmps gimbalref07_Mat_Turned.k (Try.f44.body.getD .skip) = true := by kernel_rfl
theorem gimbalref07_Mat_Turned.mr : mRes pg Try.f44.results.toList gimbalref07_Mat_Turned.res = true := by kernel_rfl
theorem gimbalref07_Mat_Turned.of {args : List V} {r : V} (hn : args.length = 1) (hW : W pg gimbalref07_Mat_Turned.k (done gimbalref07_Mat_Turned.res r) (start args)) : Ret pg n_gimbalref07_Mat_Turned args r :=
  Ret_of (fn := Try.f44) Try.func44 rfl (by kernel_rfl) gimbalref07_Mat_Turned.m gimbalref07_Mat_Turned.mr (by rw [hn]; exact of_decide_eq_true (by kernel_rfl)) hW
def gimbalref07_Mat_Apply.k : K :=
  (.seq (.keep [0, 1] (.ops false [⟨(some 4), none, .mov (.c .nil)⟩]))
  (.seq (.keep [0, 1, 5] (.ops false [⟨(some 5), none, .mov (.c .nil)⟩]))
   (.seq (.seq (.keep [0, 1, 5, 6] (.ops false [⟨(some 6), none, .mov (.c (.int .i64 0))⟩]))
     (.block 0 (.loop (.seq (.seq (.keep [0, 1, 5, 6, 10] (.ops false [⟨(some 7), none, .mov (.t 6)⟩,
            ⟨(some 8), none, .mov (.t 0)⟩,
            ⟨(some 9), none, .len false (.t 8)⟩,
            ⟨(some 10), none, .bin .lss (.t 7) (.t 9)⟩]))
         (.cond (.t 10) .skip
          (.exit 0)))
        (.seq (.block 1 (.keep [0, 1, 5, 6] (.ops false [⟨(some 13), none, .mov (.t 5)⟩,
             ⟨(some 14), none, .mov (.t 0)⟩,
             ⟨(some 15), none, .mov (.t 6)⟩,
             ⟨(some 16), none, .idxA 1 (.t 14) (.t 15)⟩,
             ⟨(some 17), none, .load 1 false (.t 16)⟩,
             ⟨(some 18), none, .mov (.t 1)⟩,
             ⟨(some 19), none, .callG n_gimbalref07_Dot [(.t 17), (.t 18)]⟩,
             ⟨(some 20), none, .new (.bsl 2) [(.t 19)]⟩,
             ⟨(some 21), none, .eff (.app 2 32) [(.t 13), (.t 20)]⟩,
             ⟨(some 5), none, .mov (.t 21)⟩])))
         (.keep [0, 1, 5, 6] (.ops false [⟨(some 11), none, .mov (.t 6)⟩,
            ⟨(some 12), none, .bin .add (.t 11) (.c (.int .i64 1))⟩,
            ⟨(some 6), none, .mov (.t 12)⟩])))))))
    (.seq (.keep [4] (.ops false [⟨(some 22), none, .mov (.t 5)⟩,
        ⟨(some 4), none, .mov (.t 22)⟩]))
     .ret))))
def gimbalref07_Mat_Apply.res : List RX := [(4, none)]
theorem gimbalref07_Mat_Apply.m : mK pg Try.f45.ntmps gimbalref07_Mat_Apply.k (Try.f45.body.getD .skip) = true := by kernel_rfl
theorem gimbalref07_Mat_Apply.mr : mRes pg Try.f45.results.toList gimbalref07_Mat_Apply.res = true := by kernel_rfl
theorem gimbalref07_Mat_Apply.of {args : List V} {r : V} (hn : args.length = 2) (hW : W pg gimbalref07_Mat_Apply.k (done gimbalref07_Mat_Apply.res r) (start args)) : Ret pg n_gimbalref07_Mat_Apply args r :=
  Ret_of (fn := Try.f45) Try.func45 rfl (by kernel_rfl) gimbalref07_Mat_Apply.m gimbalref07_Mat_Apply.mr (by rw [hn]; exact of_decide_eq_true (by kernel_rfl)) hW
theorem gimbalref07_Mat_Apply.ofG {args : List V} {H : Hp} {n : Nat} {Q : V → Hp → Nat → Prop} (hn : args.length = 2) (hW : W pg gimbalref07_Mat_Apply.k (doneG gimbalref07_Mat_Apply.res (fun r H' n' => n ≤ n' ∧ Q r H' n')) (startG args H n)) : ∃ r H' n', Q r H' n' ∧ RetG pg n_gimbalref07_Mat_Apply args H n r H' n' :=
  RetG_of (fn := Try.f45) Try.func45 rfl (by kernel_rfl) gimbalref07_Mat_Apply.m gimbalref07_Mat_Apply.mr (by rw [hn]; exact of_decide_eq_true (by kernel_rfl)) hW
def gimbalref07_Mat_Quad.k : K :=
  (.seq (.keep [0, 1, 4] (.ops false [⟨(some 4), none, .alloc 2 (.agg [(.bool false), (.sl [])])⟩]))
  (.seq (.keep [4] (.ops false [⟨(some 5), none, .mov (.t 1)⟩,
      ⟨(some 6), none, .mov (.t 0)⟩,
      ⟨(some 7), none, .mov (.t 1)⟩,
      ⟨(some 8), none, .callG n_gimbalref07_Mat_Apply [(.t 6), (.t 7)]⟩,
      ⟨(some 9), none, .callG n_gimbalref07_Dot [(.t 5), (.t 8)]⟩,
      ⟨none, none, .store 2 (.t 4) (.t 9)⟩]))
   .ret))
def gimbalref07_Mat_Quad.res : List RX := [(4, some (2, true))]
theorem gimbalref07_Mat_Quad.m : mK pg Try.f46.ntmps gimbalref07_Mat_Quad.k (Try.f46.body.getD .skip) = true := by kernel_rfl
theorem gimbalref07_Mat_Quad.mr : mRes pg Try.f46.results.toList gimbalref07_Mat_Quad.res = true := by kernel_rfl
theorem gimbalref07_Mat_Quad.of {args : List V} {r : V} (hn : args.length = 2) (hW : W pg gimbalref07_Mat_Quad.k (done gimbalref07_Mat_Quad.res r) (start args)) : Ret pg n_gimbalref07_Mat_Quad args r :=
  Ret_of (fn := Try.f46) Try.func46 rfl (by kernel_rfl) gimbalref07_Mat_Quad.m gimbalref07_Mat_Quad.mr (by rw [hn]; exact of_decide_eq_true (by kernel_rfl)) hW
def gimbalref07_Mat_Definite.k : K :=
  (.seq (.keep [0] (.ops false [⟨(some 2), none, .mov (.c (.bool false))⟩]))
  (.seq (.seq (.keep [0, 3] (.ops false [⟨(some 3), none, .mov (.c (.int .i64 0))⟩]))
    (.block 0 (.loop (.seq (.seq (.keep [0, 3, 11] (.ops false [⟨(some 8), none, .mov (.t 3)⟩,
           ⟨(some 9), none, .mov (.t 0)⟩,
           ⟨(some 10), none, .len false (.t 9)⟩,
           ⟨(some 11), none, .bin .lss (.t 8) (.t 10)⟩]))
        (.cond (.t 11) .skip
         (.exit 0)))
       (.seq (.block 1 (.seq (.keep [0, 3, 4] (.ops false [⟨(some 4), none, .mov (.c .nil)⟩]))
          (.seq (.seq (.keep [0, 3, 4, 5] (.ops false [⟨(some 5), none, .mov (.c (.int .i64 0))⟩]))
            (.block 2 (.loop (.seq (.seq (.keep [0, 3, 4, 5, 16] (.ops false [⟨(some 14), none, .mov (.t 5)⟩,
                   ⟨(some 15), none, .mov (.t 3)⟩,
                   ⟨(some 16), none, .bin .leq (.t 14) (.t 15)⟩]))
                (.cond (.t 16) .skip
                 (.exit 2)))
               (.seq (.block 3 (.seq (.gh (.keep [0, 3, 4, 5] (.ops false [⟨(some 19), none, .mov (.t 4)⟩,
                     ⟨(some 20), none, .mov (.t 0)⟩,
                     ⟨(some 21), none, .mov (.t 5)⟩,
                     ⟨(some 22), none, .idxA 1 (.t 20) (.t 21)⟩,
                     ⟨(some 23), none, .load 1 false (.t 22)⟩,
                     ⟨(some 24), none, .mov (.t 3)⟩,
                     ⟨(some 25), none, .bin .add (.t 24) (.c (.int .i64 1))⟩,
                     ⟨(some 26), none, .red (.slc 2 false true false) [(.t 23), (.t 25)]⟩,
                     ⟨(some 27), none, .new (.bsl 1) [(.t 26)]⟩,
                     ⟨(some 28), none, .eff (.app 1 24) [(.t 19), (.t 27)]⟩,
                     ⟨(some 4), none, .mov (.t 28)⟩])))
                  (.seq (.keep [0, 3, 4, 5, 6] (.ops true [⟨(some 29), none, .mov (.t 0)⟩,
                      ⟨(some 30), none, .mov (.t 3)⟩,
                      ⟨(some 31), none, .idxA 1 (.t 29) (.t 30)⟩,
                      ⟨(some 32), none, .load 1 false (.t 31)⟩,
                      ⟨(some 33), none, .mov (.t 5)⟩,
                      ⟨(some 34), none, .idxA 2 (.t 32) (.t 33)⟩,
                      ⟨(some 35), none, .load 2 true (.t 34)⟩,
                      ⟨(some 36), none, .mov (.t 0)⟩,
                      ⟨(some 37), none, .mov (.t 5)⟩,
                      ⟨(some 38), none, .idxA 1 (.t 36) (.t 37)⟩,
                      ⟨(some 39), none, .load 1 false (.t 38)⟩,
                      ⟨(some 40), none, .mov (.t 3)⟩,
                      ⟨(some 41), none, .idxA 2 (.t 39) (.t 40)⟩,
                      ⟨(some 42), none, .load 2 true (.t 41)⟩,
                      ⟨(some 43), none, .call n_gimbalref01_Int_Cmp [(.t 35), (.t 42)]⟩,
                      ⟨(some 6), none, .mov (.t 43)⟩]))
                   (.seq (.keep [0, 3, 4, 5, 45] (.ops false [⟨(some 44), none, .mov (.t 6)⟩,
                       ⟨(some 45), none, .bin .neq (.t 44) (.c (.int .i64 0))⟩]))
                    (.cond (.t 45) (.seq (.keep [2] (.ops false [⟨(some 2), none, .mov (.c (.bool false))⟩]))
                      .ret)
                     .skip)))))
                (.keep [0, 3, 4, 5] (.ops false [⟨(some 17), none, .mov (.t 5)⟩,
                   ⟨(some 18), none, .bin .add (.t 17) (.c (.int .i64 1))⟩,
                   ⟨(some 5), none, .mov (.t 18)⟩])))))))
           (.seq (.keep [0, 3, 7] (.ops false [⟨(some 46), none, .mov (.t 4)⟩,
               ⟨(some 47), none, .callG n_gimbalref07_Mat_Det [(.t 46)]⟩,
               ⟨(some 48), none, .callG n_gimbalref01_Int_Sign [(.t 47)]⟩,
               ⟨(some 7), none, .mov (.t 48)⟩]))
            (.seq (.keep [0, 3, 50] (.ops false [⟨(some 49), none, .mov (.t 7)⟩,
                ⟨(some 50), none, .bin .leq (.t 49) (.c (.int .i64 0))⟩]))
             (.cond (.t 50) (.seq (.keep [2] (.ops false [⟨(some 2), none, .mov (.c (.bool false))⟩]))
               .ret)
              .skip))))))
        (.keep [0, 3] (.ops false [⟨(some 12), none, .mov (.t 3)⟩,
           ⟨(some 13), none, .bin .add (.t 12) (.c (.int .i64 1))⟩,
           ⟨(some 3), none, .mov (.t 13)⟩])))))))
   (.seq (.keep [2] (.ops false [⟨(some 2), none, .mov (.c (.bool true))⟩]))
    .ret)))
def gimbalref07_Mat_Definite.res : List RX := [(2, none)]
theorem gimbalref07_Mat_Definite.m : mK pg Try.f47.ntmps gimbalref07_Mat_Definite.k (Try.f47.body.getD .skip) = true := by kernel_rfl
theorem gimbalref07_Mat_Definite.mr : mRes pg Try.f47.results.toList gimbalref07_Mat_Definite.res = true := by kernel_rfl
theorem gimbalref07_Mat_Definite.of {args : List V} {r : V} (hn : args.length = 1) (hW : W pg gimbalref07_Mat_Definite.k (done gimbalref07_Mat_Definite.res r) (start args)) : Ret pg n_gimbalref07_Mat_Definite args r :=
  Ret_of (fn := Try.f47) Try.func47 rfl (by kernel_rfl) gimbalref07_Mat_Definite.m gimbalref07_Mat_Definite.mr (by rw [hn]; exact of_decide_eq_true (by kernel_rfl)) hW
def gimbalref07_without.k : K :=
  (.seq (.keep [0, 1] (.ops false [⟨(some 4), none, .mov (.c .nil)⟩]))
  (.seq (.keep [0, 1, 5] (.ops false [⟨(some 5), none, .mov (.c .nil)⟩]))
   (.seq (.seq (.keep [0, 1, 5, 6] (.ops false [⟨(some 6), none, .mov (.c (.int .i64 1))⟩]))
     (.block 0 (.loop (.seq (.seq (.keep [0, 1, 5, 6, 12] (.ops false [⟨(some 9), none, .mov (.t 6)⟩,
            ⟨(some 10), none, .mov (.t 0)⟩,
            ⟨(some 11), none, .len false (.t 10)⟩,
            ⟨(some 12), none, .bin .lss (.t 9) (.t 11)⟩]))
         (.cond (.t 12) .skip
          (.exit 0)))
        (.seq (.block 1 (.seq (.keep [0, 1, 5, 6, 7] (.ops false [⟨(some 7), none, .mov (.c .nil)⟩]))
           (.seq (.seq (.keep [0, 1, 5, 6, 7, 8] (.ops false [⟨(some 8), none, .mov (.c (.int .i64 0))⟩]))
             (.block 2 (.loop (.seq (.seq (.keep [0, 1, 5, 6, 7, 8, 21] (.ops false [⟨(some 15), none, .mov (.t 8)⟩,
                    ⟨(some 16), none, .mov (.t 0)⟩,
                    ⟨(some 17), none, .mov (.t 6)⟩,
                    ⟨(some 18), none, .idxA 1 (.t 16) (.t 17)⟩,
                    ⟨(some 19), none, .load 1 false (.t 18)⟩,
                    ⟨(some 20), none, .len false (.t 19)⟩,
                    ⟨(some 21), none, .bin .lss (.t 15) (.t 20)⟩]))
                 (.cond (.t 21) .skip
                  (.exit 2)))
                (.seq (.block 3 (.seq (.keep [0, 1, 5, 6, 7, 8, 26] (.ops false [⟨(some 24), none, .mov (.t 8)⟩,
                      ⟨(some 25), none, .mov (.t 1)⟩,
                      ⟨(some 26), none, .bin .neq (.t 24) (.t 25)⟩]))
                   (.cond (.t 26) (.keep [0, 1, 5, 6, 7, 8] (.ops false [⟨(some 27), none, .mov (.t 7)⟩,
                       ⟨(some 28), none, .mov (.t 0)⟩,
                       ⟨(some 29), none, .mov (.t 6)⟩,
                       ⟨(some 30), none, .idxA 1 (.t 28) (.t 29)⟩,
                       ⟨(some 31), none, .load 1 false (.t 30)⟩,
                       ⟨(some 32), none, .mov (.t 8)⟩,
                       ⟨(some 33), none, .idxA 2 (.t 31) (.t 32)⟩,
                       ⟨(some 34), none, .load 2 true (.t 33)⟩,
                       ⟨(some 35), none, .new (.bsl 2) [(.t 34)]⟩,
                       ⟨(some 36), none, .eff (.app 2 32) [(.t 27), (.t 35)]⟩,
                       ⟨(some 7), none, .mov (.t 36)⟩]))
                    .skip)))
                 (.keep [0, 1, 5, 6, 7, 8] (.ops false [⟨(some 22), none, .mov (.t 8)⟩,
                    ⟨(some 23), none, .bin .add (.t 22) (.c (.int .i64 1))⟩,
                    ⟨(some 8), none, .mov (.t 23)⟩])))))))
            (.gh (.keep [0, 1, 5, 6] (.ops false [⟨(some 37), none, .mov (.t 5)⟩,
               ⟨(some 38), none, .mov (.t 7)⟩,
               ⟨(some 39), none, .new (.bsl 1) [(.t 38)]⟩,
               ⟨(some 40), none, .eff (.app 1 24) [(.t 37), (.t 39)]⟩,
               ⟨(some 5), none, .mov (.t 40)⟩]))))))
         (.keep [0, 1, 5, 6] (.ops false [⟨(some 13), none, .mov (.t 6)⟩,
            ⟨(some 14), none, .bin .add (.t 13) (.c (.int .i64 1))⟩,
            ⟨(some 6), none, .mov (.t 14)⟩])))))))
    (.seq (.keep [4] (.ops false [⟨(some 41), none, .mov (.t 5)⟩,
        ⟨(some 4), none, .mov (.t 41)⟩]))
     .ret))))
def gimbalref07_without.res : List RX := [(4, none)]
theorem gimbalref07_without.m : mK pg Try.f83.ntmps gimbalref07_without.k (Try.f83.body.getD .skip) = true := by kernel_rfl
theorem gimbalref07_without.mr : mRes pg Try.f83.results.toList gimbalref07_without.res = true := by kernel_rfl
theorem gimbalref07_without.of {args : List V} {r : V} (hn : args.length = 2) (hW : W pg gimbalref07_without.k (done gimbalref07_without.res r) (start args)) : Ret pg n_gimbalref07_without args r :=
  Ret_of (fn := Try.f83) Try.func83 rfl (by kernel_rfl) gimbalref07_without.m gimbalref07_without.mr (by rw [hn]; exact of_decide_eq_true (by kernel_rfl)) hW
def gimbalref07_Dot.k : K :=
  (.seq (.keep [0, 1, 4] (.ops false [⟨(some 4), none, .alloc 2 (.agg [(.bool false), (.sl [])])⟩]))
  (.seq (.keep [0, 1, 4, 5] (.ops false [⟨(some 7), none, .callG n_gimbalref01_Of [(.c (.int .i64 0))]⟩,
      ⟨(some 5), none, .alloc 2 (.agg [(.bool false), (.sl [])])⟩,
      ⟨none, none, .store 2 (.t 5) (.t 7)⟩]))
   (.seq (.seq (.keep [0, 1, 4, 5, 6] (.ops false [⟨(some 6), none, .mov (.c (.int .i64 0))⟩]))
     (.block 0 (.loop (.seq (.seq (.keep [0, 1, 4, 5, 6, 11] (.ops false [⟨(some 8), none, .mov (.t 6)⟩,
            ⟨(some 9), none, .mov (.t 0)⟩,
            ⟨(some 10), none, .len false (.t 9)⟩,
            ⟨(some 11), none, .bin .lss (.t 8) (.t 10)⟩]))
         (.cond (.t 11) .skip
          (.exit 0)))
        (.seq (.block 1 (.keep [0, 1, 4, 5, 6] (.ops true [⟨(some 14), none, .load 2 true (.t 5)⟩,
             ⟨(some 15), none, .mov (.t 0)⟩,
             ⟨(some 16), none, .mov (.t 6)⟩,
             ⟨(some 17), none, .idxA 2 (.t 15) (.t 16)⟩,
             ⟨(some 18), none, .load 2 true (.t 17)⟩,
             ⟨(some 19), none, .mov (.t 1)⟩,
             ⟨(some 20), none, .mov (.t 6)⟩,
             ⟨(some 21), none, .idxA 2 (.t 19) (.t 20)⟩,
             ⟨(some 22), none, .load 2 true (.t 21)⟩,
             ⟨(some 23), none, .call n_gimbalref01_Int_Mul [(.t 18), (.t 22)]⟩,
             ⟨(some 24), none, .call n_gimbalref01_Int_Add [(.t 14), (.t 23)]⟩,
             ⟨none, none, .store 2 (.t 5) (.t 24)⟩])))
         (.keep [0, 1, 4, 5, 6] (.ops false [⟨(some 12), none, .mov (.t 6)⟩,
            ⟨(some 13), none, .bin .add (.t 12) (.c (.int .i64 1))⟩,
            ⟨(some 6), none, .mov (.t 13)⟩])))))))
    (.seq (.keep [4] (.ops false [⟨(some 25), none, .load 2 true (.t 5)⟩,
        ⟨none, none, .store 2 (.t 4) (.t 25)⟩]))
     .ret))))
def gimbalref07_Dot.res : List RX := [(4, some (2, true))]
theorem gimbalref07_Dot.m : mK pg Try.f97.ntmps gimbalref07_Dot.k (Try.f97.body.getD .skip) = true := by kernel_rfl
theorem gimbalref07_Dot.mr : mRes pg Try.f97.results.toList gimbalref07_Dot.res = true := by kernel_rfl
theorem gimbalref07_Dot.of {args : List V} {r : V} (hn : args.length = 2) (hW : W pg gimbalref07_Dot.k (done gimbalref07_Dot.res r) (start args)) : Ret pg n_gimbalref07_Dot args r :=
  Ret_of (fn := Try.f97) Try.func97 rfl (by kernel_rfl) gimbalref07_Dot.m gimbalref07_Dot.mr (by rw [hn]; exact of_decide_eq_true (by kernel_rfl)) hW
end Go.Gim

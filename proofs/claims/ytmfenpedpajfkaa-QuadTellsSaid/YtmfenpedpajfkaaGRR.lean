import Derived.Test.YtmfenpedpajfkaaGN
/- Functions' code as data (written by wip/tools/gen.py), and the step to their contracts. -/
set_option maxRecDepth 100000
namespace Go.Gim
open Go.Proofs
def gimbalref07_Of.k : K :=
  (.seq (.keep [0] (.ops false [⟨(some 2), none, .mov (.c .nil)⟩]))
  (.seq (.keep [0, 3] (.ops false [⟨(some 3), none, .mov (.c .nil)⟩]))
   (.seq (.seq (.keep [0, 3, 4] (.ops false [⟨(some 4), none, .mov (.c (.int .i64 0))⟩]))
     (.block 0 (.loop (.seq (.seq (.keep [0, 3, 4, 10] (.ops false [⟨(some 7), none, .mov (.t 4)⟩,
            ⟨(some 8), none, .mov (.t 0)⟩,
            ⟨(some 9), none, .len false (.t 8)⟩,
            ⟨(some 10), none, .bin .lss (.t 7) (.t 9)⟩]))
         (.cond (.t 10) .skip
          (.exit 0)))
        (.seq (.block 1 (.seq (.keep [0, 3, 4, 5] (.ops false [⟨(some 5), none, .mov (.c .nil)⟩]))
           (.seq (.seq (.keep [0, 3, 4, 5, 6] (.ops false [⟨(some 6), none, .mov (.c (.int .i64 0))⟩]))
             (.block 2 (.loop (.seq (.seq (.keep [0, 3, 4, 5, 6, 19] (.ops false [⟨(some 13), none, .mov (.t 6)⟩,
                    ⟨(some 14), none, .mov (.t 0)⟩,
                    ⟨(some 15), none, .mov (.t 4)⟩,
                    ⟨(some 16), none, .idxA 1 (.t 14) (.t 15)⟩,
                    ⟨(some 17), none, .load 1 false (.t 16)⟩,
                    ⟨(some 18), none, .len false (.t 17)⟩,
                    ⟨(some 19), none, .bin .lss (.t 13) (.t 18)⟩]))
                 (.cond (.t 19) .skip
                  (.exit 2)))
                (.seq (.block 3 (.keep [0, 3, 4, 5, 6] (.ops false [⟨(some 22), none, .mov (.t 5)⟩,
                     ⟨(some 23), none, .mov (.t 0)⟩,
                     ⟨(some 24), none, .mov (.t 4)⟩,
                     ⟨(some 25), none, .idxA 1 (.t 23) (.t 24)⟩,
                     ⟨(some 26), none, .load 1 false (.t 25)⟩,
                     ⟨(some 27), none, .mov (.t 6)⟩,
                     ⟨(some 28), none, .idxA 1 (.t 26) (.t 27)⟩,
                     ⟨(some 29), none, .load 1 false (.t 28)⟩,
                     ⟨(some 30), none, .callG n_gimbalref01_Of [(.t 29)]⟩,
                     ⟨(some 31), none, .new (.bsl 2) [(.t 30)]⟩,
                     ⟨(some 32), none, .eff (.app 2 32) [(.t 22), (.t 31)]⟩,
                     ⟨(some 5), none, .mov (.t 32)⟩])))
                 (.keep [0, 3, 4, 5, 6] (.ops false [⟨(some 20), none, .mov (.t 6)⟩,
                    ⟨(some 21), none, .bin .add (.t 20) (.c (.int .i64 1))⟩,
                    ⟨(some 6), none, .mov (.t 21)⟩])))))))
            (.gh (.keep [0, 3, 4] (.ops false [⟨(some 33), none, .mov (.t 3)⟩,
               ⟨(some 34), none, .mov (.t 5)⟩,
               ⟨(some 35), none, .new (.bsl 1) [(.t 34)]⟩,
               ⟨(some 36), none, .eff (.app 1 24) [(.t 33), (.t 35)]⟩,
               ⟨(some 3), none, .mov (.t 36)⟩]))))))
         (.keep [0, 3, 4] (.ops false [⟨(some 11), none, .mov (.t 4)⟩,
            ⟨(some 12), none, .bin .add (.t 11) (.c (.int .i64 1))⟩,
            ⟨(some 4), none, .mov (.t 12)⟩])))))))
    (.seq (.keep [2] (.ops false [⟨(some 37), none, .mov (.t 3)⟩,
        ⟨(some 2), none, .mov (.t 37)⟩]))
     .ret))))
def gimbalref07_Of.res : List RX := [(2, none)]
theorem gimbalref07_Of.m : mK pg Try.f22.ntmps gimbalref07_Of.k (Try.f22.body.getD .skip) = true := by kernel_rfl
theorem gimbalref07_Of.mr : mRes pg Try.f22.results.toList gimbalref07_Of.res = true := by kernel_rfl
theorem gimbalref07_Of.of {args : List V} {r : V} (hn : args.length = 1) (hW : W pg gimbalref07_Of.k (done gimbalref07_Of.res r) (start args)) : Ret pg n_gimbalref07_Of args r :=
  Ret_of (fn := Try.f22) Try.func22 rfl (by kernel_rfl) gimbalref07_Of.m gimbalref07_Of.mr (by rw [hn]; exact of_decide_eq_true (by kernel_rfl)) hW
def gimbalref07_Mat_Apply.k : K :=
  (.seq (.keep [0, 1] (.ops false [⟨(some 4), none, .mov (.c .nil)⟩]))
  (.seq (.keep [0, 1, 5] (.ops false [⟨(some 5), none, .mov (.c .nil)⟩]))
   (.seq (.seq (.keep [0, 1, 5, 6] (.ops false [⟨(some 6), none, .mov (.c (.int .i64 0))⟩]))
     (.block 0 (.loop (.seq (.seq (.keep [0, 1, 5, 6, 10] (.ops false [⟨(some 7), none, .mov (.t 6)⟩,
            ⟨(some 8), none, .mov (.t 0)⟩,
            ⟨(some 9), none, .len false (.t 8)⟩,
            ⟨(some 10), none, .bin .lss (.t 7) (.t 9)⟩]))
         (.cond (.t 10) .skip
          (.exit 0)))
        (.seq (.block 1 (.keep [0, 1, 5, 6] (.ops false [⟨(some 13), none, .mov (.t 5)⟩,
             ⟨(some 14), none, .mov (.t 0)⟩,
             ⟨(some 15), none, .mov (.t 6)⟩,
             ⟨(some 16), none, .idxA 1 (.t 14) (.t 15)⟩,
             ⟨(some 17), none, .load 1 false (.t 16)⟩,
             ⟨(some 18), none, .mov (.t 1)⟩,
             ⟨(some 19), none, .callG n_gimbalref07_Dot [(.t 17), (.t 18)]⟩,
             ⟨(some 20), none, .new (.bsl 2) [(.t 19)]⟩,
             ⟨(some 21), none, .eff (.app 2 32) [(.t 13), (.t 20)]⟩,
             ⟨(some 5), none, .mov (.t 21)⟩])))
         (.keep [0, 1, 5, 6] (.ops false [⟨(some 11), none, .mov (.t 6)⟩,
            ⟨(some 12), none, .bin .add (.t 11) (.c (.int .i64 1))⟩,
            ⟨(some 6), none, .mov (.t 12)⟩])))))))
    (.seq (.keep [4] (.ops false [⟨(some 22), none, .mov (.t 5)⟩,
        ⟨(some 4), none, .mov (.t 22)⟩]))
     .ret))))
def gimbalref07_Mat_Apply.res : List RX := [(4, none)]
theorem gimbalref07_Mat_Apply.m : mK pg Try.f45.ntmps gimbalref07_Mat_Apply.k (Try.f45.body.getD .skip) = true := by kernel_rfl
theorem gimbalref07_Mat_Apply.mr : mRes pg Try.f45.results.toList gimbalref07_Mat_Apply.res = true := by kernel_rfl
theorem gimbalref07_Mat_Apply.of {args : List V} {r : V} (hn : args.length = 2) (hW : W pg gimbalref07_Mat_Apply.k (done gimbalref07_Mat_Apply.res r) (start args)) : Ret pg n_gimbalref07_Mat_Apply args r :=
  Ret_of (fn := Try.f45) Try.func45 rfl (by kernel_rfl) gimbalref07_Mat_Apply.m gimbalref07_Mat_Apply.mr (by rw [hn]; exact of_decide_eq_true (by kernel_rfl)) hW
theorem gimbalref07_Mat_Apply.ofG {args : List V} {H : Hp} {n : Nat} {Q : V → Hp → Nat → Prop} (hn : args.length = 2) (hW : W pg gimbalref07_Mat_Apply.k (doneG gimbalref07_Mat_Apply.res (fun r H' n' => n ≤ n' ∧ Q r H' n')) (startG args H n)) : ∃ r H' n', Q r H' n' ∧ RetG pg n_gimbalref07_Mat_Apply args H n r H' n' :=
  RetG_of (fn := Try.f45) Try.func45 rfl (by kernel_rfl) gimbalref07_Mat_Apply.m gimbalref07_Mat_Apply.mr (by rw [hn]; exact of_decide_eq_true (by kernel_rfl)) hW
def gimbalref07_Mat_Quad.k : K :=
  (.seq (.keep [0, 1, 4] (.ops false [⟨(some 4), none, .alloc 2 (.agg [(.bool false), (.sl [])])⟩]))
  (.seq (.keep [4] (.ops false [⟨(some 5), none, .mov (.t 1)⟩,
      ⟨(some 6), none, .mov (.t 0)⟩,
      ⟨(some 7), none, .mov (.t 1)⟩,
      ⟨(some 8), none, .callG n_gimbalref07_Mat_Apply [(.t 6), (.t 7)]⟩,
      ⟨(some 9), none, .callG n_gimbalref07_Dot [(.t 5), (.t 8)]⟩,
      ⟨none, none, .store 2 (.t 4) (.t 9)⟩]))
   .ret))
def gimbalref07_Mat_Quad.res : List RX := [(4, some (2, true))]
theorem gimbalref07_Mat_Quad.m : mK pg Try.f46.ntmps gimbalref07_Mat_Quad.k (Try.f46.body.getD .skip) = true := by kernel_rfl
theorem gimbalref07_Mat_Quad.mr : mRes pg Try.f46.results.toList gimbalref07_Mat_Quad.res = true := by kernel_rfl
theorem gimbalref07_Mat_Quad.of {args : List V} {r : V} (hn : args.length = 2) (hW : W pg gimbalref07_Mat_Quad.k (done gimbalref07_Mat_Quad.res r) (start args)) : Ret pg n_gimbalref07_Mat_Quad args r :=
  Ret_of (fn := Try.f46) Try.func46 rfl (by kernel_rfl) gimbalref07_Mat_Quad.m gimbalref07_Mat_Quad.mr (by rw [hn]; exact of_decide_eq_true (by kernel_rfl)) hW
def gimbalref07_Dot.k : K :=
  (.seq (.keep [0, 1, 4] (.ops false [⟨(some 4), none, .alloc 2 (.agg [(.bool false), (.sl [])])⟩]))
  (.seq (.keep [0, 1, 4, 5] (.ops false [⟨(some 7), none, .callG n_gimbalref01_Of [(.c (.int .i64 0))]⟩,
      ⟨(some 5), none, .alloc 2 (.agg [(.bool false), (.sl [])])⟩,
      ⟨none, none, .store 2 (.t 5) (.t 7)⟩]))
   (.seq (.seq (.keep [0, 1, 4, 5, 6] (.ops false [⟨(some 6), none, .mov (.c (.int .i64 0))⟩]))
     (.block 0 (.loop (.seq (.seq (.keep [0, 1, 4, 5, 6, 11] (.ops false [⟨(some 8), none, .mov (.t 6)⟩,
            ⟨(some 9), none, .mov (.t 0)⟩,
            ⟨(some 10), none, .len false (.t 9)⟩,
            ⟨(some 11), none, .bin .lss (.t 8) (.t 10)⟩]))
         (.cond (.t 11) .skip
          (.exit 0)))
        (.seq (.block 1 (.keep [0, 1, 4, 5, 6] (.ops true [⟨(some 14), none, .load 2 true (.t 5)⟩,
             ⟨(some 15), none, .mov (.t 0)⟩,
             ⟨(some 16), none, .mov (.t 6)⟩,
             ⟨(some 17), none, .idxA 2 (.t 15) (.t 16)⟩,
             ⟨(some 18), none, .load 2 true (.t 17)⟩,
             ⟨(some 19), none, .mov (.t 1)⟩,
             ⟨(some 20), none, .mov (.t 6)⟩,
             ⟨(some 21), none, .idxA 2 (.t 19) (.t 20)⟩,
             ⟨(some 22), none, .load 2 true (.t 21)⟩,
             ⟨(some 23), none, .call n_gimbalref01_Int_Mul [(.t 18), (.t 22)]⟩,
             ⟨(some 24), none, .call n_gimbalref01_Int_Add [(.t 14), (.t 23)]⟩,
             ⟨none, none, .store 2 (.t 5) (.t 24)⟩])))
         (.keep [0, 1, 4, 5, 6] (.ops false [⟨(some 12), none, .mov (.t 6)⟩,
            ⟨(some 13), none, .bin .add (.t 12) (.c (.int .i64 1))⟩,
            ⟨(some 6), none, .mov (.t 13)⟩])))))))
    (.seq (.keep [4] (.ops false [⟨(some 25), none, .load 2 true (.t 5)⟩,
        ⟨none, none, .store 2 (.t 4) (.t 25)⟩]))
     .ret))))
def gimbalref07_Dot.res : List RX := [(4, some (2, true))]
theorem gimbalref07_Dot.m : mK pg Try.f97.ntmps gimbalref07_Dot.k (Try.f97.body.getD .skip) = true := by kernel_rfl
theorem gimbalref07_Dot.mr : mRes pg Try.f97.results.toList gimbalref07_Dot.res = true := by kernel_rfl
theorem gimbalref07_Dot.of {args : List V} {r : V} (hn : args.length = 2) (hW : W pg gimbalref07_Dot.k (done gimbalref07_Dot.res r) (start args)) : Ret pg n_gimbalref07_Dot args r :=
  Ret_of (fn := Try.f97) Try.func97 rfl (by kernel_rfl) gimbalref07_Dot.m gimbalref07_Dot.mr (by rw [hn]; exact of_decide_eq_true (by kernel_rfl)) hW
def gimbalref08_Of.k : K :=
  (.seq (.keep [0, 1, 2, 6] (.ops false [⟨(some 6), none, .alloc 4 (.agg [.nil, .nil, (.bool false), (.sl [])])⟩]))
  (.seq (.keep [1, 6, 7] (.ops false [⟨(some 9), none, .mov (.t 0)⟩,
      ⟨(some 10), none, .callG n_gimbalref07_Of [(.t 9)]⟩,
      ⟨(some 11), none, .mov (.t 2)⟩,
      ⟨(some 12), none, .callG n_gimbalref01_Of [(.t 11)]⟩,
      ⟨(some 13), none, .build [.nil, .nil, (.bool false), (.sl [])] [(0, 1, (.t 10)), (2, 2, (.t 12))]⟩,
      ⟨(some 7), none, .alloc 4 (.agg [.nil, .nil, (.bool false), (.sl [])])⟩,
      ⟨none, none, .store 4 (.t 7) (.t 13)⟩]))
   (.seq (.seq (.keep [1, 6, 7, 8] (.ops false [⟨(some 8), none, .mov (.c (.int .i64 0))⟩]))
     (.block 0 (.loop (.seq (.seq (.keep [1, 6, 7, 8, 17] (.ops false [⟨(some 14), none, .mov (.t 8)⟩,
            ⟨(some 15), none, .mov (.t 1)⟩,
            ⟨(some 16), none, .len false (.t 15)⟩,
            ⟨(some 17), none, .bin .lss (.t 14) (.t 16)⟩]))
         (.cond (.t 17) .skip
          (.exit 0)))
        (.seq (.block 1 (.keep [1, 6, 7, 8] (.ops true [⟨(some 20), none, .fldA 1 1 false (.t 7)⟩,
             ⟨(some 21), none, .load 1 false (.t 20)⟩,
             ⟨(some 22), none, .mov (.t 1)⟩,
             ⟨(some 23), none, .mov (.t 8)⟩,
             ⟨(some 24), none, .idxA 1 (.t 22) (.t 23)⟩,
             ⟨(some 25), none, .load 1 false (.t 24)⟩,
             ⟨(some 26), none, .call n_gimbalref01_Of [(.t 25)]⟩,
             ⟨(some 27), none, .new (.bsl 2) [(.t 26)]⟩,
             ⟨(some 28), none, .eff (.app 2 32) [(.t 21), (.t 27)]⟩,
             ⟨(some 29), none, .fldA 1 1 false (.t 7)⟩,
             ⟨none, none, .store 1 (.t 29) (.t 28)⟩])))
         (.keep [1, 6, 7, 8] (.ops false [⟨(some 18), none, .mov (.t 8)⟩,
            ⟨(some 19), none, .bin .add (.t 18) (.c (.int .i64 1))⟩,
            ⟨(some 8), none, .mov (.t 19)⟩])))))))
    (.seq (.keep [6] (.ops false [⟨(some 30), none, .load 4 true (.t 7)⟩,
        ⟨none, none, .store 4 (.t 6) (.t 30)⟩]))
     .ret))))
def gimbalref08_Of.res : List RX := [(6, some (4, true))]
theorem gimbalref08_Of.m : mK pg Try.f54.ntmps gimbalref08_Of.k (Try.f54.body.getD .skip) = true := by kernel_rfl
theorem gimbalref08_Of.mr : mRes pg Try.f54.results.toList gimbalref08_Of.res = true := by kernel_rfl
theorem gimbalref08_Of.of {args : List V} {r : V} (hn : args.length = 3) (hW : W pg gimbalref08_Of.k (done gimbalref08_Of.res r) (start args)) : Ret pg n_gimbalref08_Of args r :=
  Ret_of (fn := Try.f54) Try.func54 rfl (by kernel_rfl) gimbalref08_Of.m gimbalref08_Of.mr (by rw [hn]; exact of_decide_eq_true (by kernel_rfl)) hW
def gimbalref08_Quad_Value.k : K :=
  (.seq (.keep [1, 2, 4] (.ops false [⟨(some 2), none, .boxP (.t 0)⟩,
     ⟨(some 4), none, .alloc 2 (.agg [(.bool false), (.sl [])])⟩]))
  (.seq (.keep [1, 2, 4, 5] (.ops true [⟨(some 6), none, .fldA 1 1 false (.t 2)⟩,
      ⟨(some 7), none, .load 1 false (.t 6)⟩,
      ⟨(some 8), none, .mov (.t 1)⟩,
      ⟨(some 9), none, .call n_gimbalref07_Dot [(.t 7), (.t 8)]⟩,
      ⟨(some 10), none, .fldA 1 1 false (.t 2)⟩,
      ⟨(some 11), none, .load 1 false (.t 10)⟩,
      ⟨(some 12), none, .mov (.t 1)⟩,
      ⟨(some 13), none, .call n_gimbalref07_Dot [(.t 11), (.t 12)]⟩,
      ⟨(some 14), none, .call n_gimbalref01_Int_Add [(.t 9), (.t 13)]⟩,
      ⟨(some 5), none, .alloc 2 (.agg [(.bool false), (.sl [])])⟩,
      ⟨none, none, .store 2 (.t 5) (.t 14)⟩]))
   (.seq (.keep [4] (.ops true [⟨(some 15), none, .fldA 0 1 false (.t 2)⟩,
       ⟨(some 16), none, .load 1 false (.t 15)⟩,
       ⟨(some 17), none, .mov (.t 1)⟩,
       ⟨(some 18), none, .call n_gimbalref07_Mat_Quad [(.t 16), (.t 17)]⟩,
       ⟨(some 19), none, .load 2 true (.t 5)⟩,
       ⟨(some 20), none, .call n_gimbalref01_Int_Sub [(.t 18), (.t 19)]⟩,
       ⟨(some 21), none, .fldA 2 2 true (.t 2)⟩,
       ⟨(some 22), none, .load 2 true (.t 21)⟩,
       ⟨(some 23), none, .call n_gimbalref01_Int_Add [(.t 20), (.t 22)]⟩,
       ⟨none, none, .store 2 (.t 4) (.t 23)⟩]))
    .ret)))
def gimbalref08_Quad_Value.res : List RX := [(4, some (2, true))]
theorem gimbalref08_Quad_Value.m : mK pg Try.f67.ntmps gimbalref08_Quad_Value.k (Try.f67.body.getD .skip) = true := by kernel_rfl
theorem gimbalref08_Quad_Value.mr : mRes pg Try.f67.results.toList gimbalref08_Quad_Value.res = true := by kernel_rfl
theorem gimbalref08_Quad_Value.of {args : List V} {r : V} (hn : args.length = 2) (hW : W pg gimbalref08_Quad_Value.k (done gimbalref08_Quad_Value.res r) (start args)) : Ret pg n_gimbalref08_Quad_Value args r :=
  Ret_of (fn := Try.f67) Try.func67 rfl (by kernel_rfl) gimbalref08_Quad_Value.m gimbalref08_Quad_Value.mr (by rw [hn]; exact of_decide_eq_true (by kernel_rfl)) hW
def gimbalref08_Quad_Slope.k : K :=
  (.seq (.keep [1, 2] (.ops false [⟨(some 2), none, .boxP (.t 0)⟩,
     ⟨(some 4), none, .mov (.c .nil)⟩]))
  (.seq (.keep [2, 5] (.ops false [⟨(some 7), none, .fldA 0 1 false (.t 2)⟩,
      ⟨(some 8), none, .load 1 false (.t 7)⟩,
      ⟨(some 9), none, .mov (.t 1)⟩,
      ⟨(some 10), none, .callG n_gimbalref07_Mat_Apply [(.t 8), (.t 9)]⟩,
      ⟨(some 5), none, .mov (.t 10)⟩]))
   (.seq (.seq (.keep [2, 5, 6] (.ops false [⟨(some 6), none, .mov (.c (.int .i64 0))⟩]))
     (.block 0 (.loop (.seq (.seq (.keep [2, 5, 6, 14] (.ops false [⟨(some 11), none, .mov (.t 6)⟩,
            ⟨(some 12), none, .mov (.t 5)⟩,
            ⟨(some 13), none, .len false (.t 12)⟩,
            ⟨(some 14), none, .bin .lss (.t 11) (.t 13)⟩]))
         (.cond (.t 14) .skip
          (.exit 0)))
        (.seq (.block 1 (.keep [2, 5, 6] (.ops true [⟨(some 17), none, .mov (.t 5)⟩,
             ⟨(some 18), none, .mov (.t 6)⟩,
             ⟨(some 19), none, .mov (.t 5)⟩,
             ⟨(some 20), none, .mov (.t 6)⟩,
             ⟨(some 21), none, .idxA 2 (.t 19) (.t 20)⟩,
             ⟨(some 22), none, .load 2 true (.t 21)⟩,
             ⟨(some 23), none, .fldA 1 1 false (.t 2)⟩,
             ⟨(some 24), none, .load 1 false (.t 23)⟩,
             ⟨(some 25), none, .mov (.t 6)⟩,
             ⟨(some 26), none, .idxA 2 (.t 24) (.t 25)⟩,
             ⟨(some 27), none, .load 2 true (.t 26)⟩,
             ⟨(some 28), none, .call n_gimbalref01_Int_Sub [(.t 22), (.t 27)]⟩,
             ⟨(some 29), none, .idxA 2 (.t 17) (.t 18)⟩,
             ⟨none, none, .store 2 (.t 29) (.t 28)⟩])))
         (.keep [2, 5, 6] (.ops false [⟨(some 15), none, .mov (.t 6)⟩,
            ⟨(some 16), none, .bin .add (.t 15) (.c (.int .i64 1))⟩,
            ⟨(some 6), none, .mov (.t 16)⟩])))))))
    (.seq (.keep [4] (.ops false [⟨(some 30), none, .mov (.t 5)⟩,
        ⟨(some 4), none, .mov (.t 30)⟩]))
     .ret))))
def gimbalref08_Quad_Slope.res : List RX := [(4, none)]
theorem gimbalref08_Quad_Slope.m : mK pg Try.f69.ntmps gimbalref08_Quad_Slope.k (Try.f69.body.getD .skip) = true := by kernel_rfl
theorem gimbalref08_Quad_Slope.mr : mRes pg Try.f69.results.toList gimbalref08_Quad_Slope.res = true := by kernel_rfl
theorem gimbalref08_Quad_Slope.of {args : List V} {r : V} (hn : args.length = 2) (hW : W pg gimbalref08_Quad_Slope.k (done gimbalref08_Quad_Slope.res r) (start args)) : Ret pg n_gimbalref08_Quad_Slope args r :=
  Ret_of (fn := Try.f69) Try.func69 rfl (by kernel_rfl) gimbalref08_Quad_Slope.m gimbalref08_Quad_Slope.mr (by rw [hn]; exact of_decide_eq_true (by kernel_rfl)) hW
theorem gimbalref08_Quad_Slope.ofG {args : List V} {H : Hp} {n : Nat} {Q : V → Hp → Nat → Prop} (hn : args.length = 2) (hW : W pg gimbalref08_Quad_Slope.k (doneG gimbalref08_Quad_Slope.res (fun r H' n' => n ≤ n' ∧ Q r H' n')) (startG args H n)) : ∃ r H' n', Q r H' n' ∧ RetG pg n_gimbalref08_Quad_Slope args H n r H' n' :=
  RetG_of (fn := Try.f69) Try.func69 rfl (by kernel_rfl) gimbalref08_Quad_Slope.m gimbalref08_Quad_Slope.mr (by rw [hn]; exact of_decide_eq_true (by kernel_rfl)) hW
def gimbalref08_Quad_Add.k : K :=
  (.seq (.keep [2, 3, 4] (.ops false [⟨(some 2), none, .boxP (.t 0)⟩,
     ⟨(some 3), none, .boxP (.t 1)⟩,
     ⟨(some 4), none, .alloc 4 (.agg [.nil, .nil, (.bool false), (.sl [])])⟩]))
  (.seq (.keep [2, 3, 4, 5] (.ops false [⟨(some 9), none, .fldA 2 2 true (.t 2)⟩,
      ⟨(some 10), none, .load 2 true (.t 9)⟩,
      ⟨(some 11), none, .fldA 2 2 true (.t 3)⟩,
      ⟨(some 12), none, .load 2 true (.t 11)⟩,
      ⟨(some 13), none, .callG n_gimbalref01_Int_Add [(.t 10), (.t 12)]⟩,
      ⟨(some 14), none, .build [.nil, .nil, (.bool false), (.sl [])] [(2, 2, (.t 13))]⟩,
      ⟨(some 5), none, .alloc 4 (.agg [.nil, .nil, (.bool false), (.sl [])])⟩,
      ⟨none, none, .store 4 (.t 5) (.t 14)⟩]))
   (.seq (.seq (.keep [2, 3, 4, 5, 6] (.ops false [⟨(some 6), none, .mov (.c (.int .i64 0))⟩]))
     (.block 0 (.loop (.seq (.seq (.keep [2, 3, 4, 5, 6, 19] (.ops false [⟨(some 15), none, .mov (.t 6)⟩,
            ⟨(some 16), none, .fldA 1 1 false (.t 2)⟩,
            ⟨(some 17), none, .load 1 false (.t 16)⟩,
            ⟨(some 18), none, .len false (.t 17)⟩,
            ⟨(some 19), none, .bin .lss (.t 15) (.t 18)⟩]))
         (.cond (.t 19) .skip
          (.exit 0)))
        (.seq (.block 1 (.seq (.keep [2, 3, 4, 5, 6] (.ops true [⟨(some 22), none, .fldA 1 1 false (.t 5)⟩,
              ⟨(some 23), none, .load 1 false (.t 22)⟩,
              ⟨(some 24), none, .fldA 1 1 false (.t 2)⟩,
              ⟨(some 25), none, .load 1 false (.t 24)⟩,
              ⟨(some 26), none, .mov (.t 6)⟩,
              ⟨(some 27), none, .idxA 2 (.t 25) (.t 26)⟩,
              ⟨(some 28), none, .load 2 true (.t 27)⟩,
              ⟨(some 29), none, .fldA 1 1 false (.t 3)⟩,
              ⟨(some 30), none, .load 1 false (.t 29)⟩,
              ⟨(some 31), none, .mov (.t 6)⟩,
              ⟨(some 32), none, .idxA 2 (.t 30) (.t 31)⟩,
              ⟨(some 33), none, .load 2 true (.t 32)⟩,
              ⟨(some 34), none, .call n_gimbalref01_Int_Add [(.t 28), (.t 33)]⟩,
              ⟨(some 35), none, .new (.bsl 2) [(.t 34)]⟩,
              ⟨(some 36), none, .eff (.app 2 32) [(.t 23), (.t 35)]⟩,
              ⟨(some 37), none, .fldA 1 1 false (.t 5)⟩,
              ⟨none, none, .store 1 (.t 37) (.t 36)⟩]))
           (.seq (.keep [2, 3, 4, 5, 6, 7] (.ops false [⟨(some 7), none, .mov (.c .nil)⟩]))
            (.seq (.seq (.keep [2, 3, 4, 5, 6, 7, 8] (.ops false [⟨(some 8), none, .mov (.c (.int .i64 0))⟩]))
              (.block 2 (.loop (.seq (.seq (.keep [2, 3, 4, 5, 6, 7, 8, 42] (.ops false [⟨(some 38), none, .mov (.t 8)⟩,
                     ⟨(some 39), none, .fldA 1 1 false (.t 2)⟩,
                     ⟨(some 40), none, .load 1 false (.t 39)⟩,
                     ⟨(some 41), none, .len false (.t 40)⟩,
                     ⟨(some 42), none, .bin .lss (.t 38) (.t 41)⟩]))
                  (.cond (.t 42) .skip
                   (.exit 2)))
                 (.seq (.block 3 (.keep [2, 3, 4, 5, 6, 7, 8] (.ops true [⟨(some 45), none, .mov (.t 7)⟩,
                      ⟨(some 46), none, .fldA 0 1 false (.t 2)⟩,
                      ⟨(some 47), none, .load 1 false (.t 46)⟩,
                      ⟨(some 48), none, .mov (.t 6)⟩,
                      ⟨(some 49), none, .idxA 1 (.t 47) (.t 48)⟩,
                      ⟨(some 50), none, .load 1 false (.t 49)⟩,
                      ⟨(some 51), none, .mov (.t 8)⟩,
                      ⟨(some 52), none, .idxA 2 (.t 50) (.t 51)⟩,
                      ⟨(some 53), none, .load 2 true (.t 52)⟩,
                      ⟨(some 54), none, .fldA 0 1 false (.t 3)⟩,
                      ⟨(some 55), none, .load 1 false (.t 54)⟩,
                      ⟨(some 56), none, .mov (.t 6)⟩,
                      ⟨(some 57), none, .idxA 1 (.t 55) (.t 56)⟩,
                      ⟨(some 58), none, .load 1 false (.t 57)⟩,
                      ⟨(some 59), none, .mov (.t 8)⟩,
                      ⟨(some 60), none, .idxA 2 (.t 58) (.t 59)⟩,
                      ⟨(some 61), none, .load 2 true (.t 60)⟩,
                      ⟨(some 62), none, .call n_gimbalref01_Int_Add [(.t 53), (.t 61)]⟩,
                      ⟨(some 63), none, .new (.bsl 2) [(.t 62)]⟩,
                      ⟨(some 64), none, .eff (.app 2 32) [(.t 45), (.t 63)]⟩,
                      ⟨(some 7), none, .mov (.t 64)⟩])))
                  (.keep [2, 3, 4, 5, 6, 7, 8] (.ops false [⟨(some 43), none, .mov (.t 8)⟩,
                     ⟨(some 44), none, .bin .add (.t 43) (.c (.int .i64 1))⟩,
                     ⟨(some 8), none, .mov (.t 44)⟩])))))))
             (.gh (.keep [2, 3, 4, 5, 6] (.ops false [⟨(some 65), none, .fldA 0 1 false (.t 5)⟩,
                ⟨(some 66), none, .load 1 false (.t 65)⟩,
                ⟨(some 67), none, .mov (.t 7)⟩,
                ⟨(some 68), none, .new (.bsl 1) [(.t 67)]⟩,
                ⟨(some 69), none, .eff (.app 1 24) [(.t 66), (.t 68)]⟩,
                ⟨(some 70), none, .fldA 0 1 false (.t 5)⟩,
                ⟨none, none, .store 1 (.t 70) (.t 69)⟩])))))))
         (.keep [2, 3, 4, 5, 6] (.ops false [⟨(some 20), none, .mov (.t 6)⟩,
            ⟨(some 21), none, .bin .add (.t 20) (.c (.int .i64 1))⟩,
            ⟨(some 6), none, .mov (.t 21)⟩])))))))
    (.seq (.keep [4] (.ops false [⟨(some 71), none, .load 4 true (.t 5)⟩,
        ⟨none, none, .store 4 (.t 4) (.t 71)⟩]))
     .ret))))
def gimbalref08_Quad_Add.res : List RX := [(4, some (4, true))]
theorem gimbalref08_Quad_Add.m : mK pg Try.f70.ntmps gimbalref08_Quad_Add.k (Try.f70.body.getD .skip) = true := by kernel_rfl
theorem gimbalref08_Quad_Add.mr : mRes pg Try.f70.results.toList gimbalref08_Quad_Add.res = true := by kernel_rfl
theorem gimbalref08_Quad_Add.of {args : List V} {r : V} (hn : args.length = 2) (hW : W pg gimbalref08_Quad_Add.k (done gimbalref08_Quad_Add.res r) (start args)) : Ret pg n_gimbalref08_Quad_Add args r :=
  Ret_of (fn := Try.f70) Try.func70 rfl (by kernel_rfl) gimbalref08_Quad_Add.m gimbalref08_Quad_Add.mr (by rw [hn]; exact of_decide_eq_true (by kernel_rfl)) hW
end Go.Gim

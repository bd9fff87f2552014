import Derived.Test.YtoehjhcfilonoaaGN
/- Functions' code as data (written by wip/tools/gen.py), and the step to their contracts. -/
set_option maxRecDepth 100000
namespace Go.Gim
open Go.Proofs
def gimbalref16_State.k : K :=
  (.seq (.keep [0] (.ops false [⟨(some 2), none, .mov (.c (.bool false))⟩]))
  (.seq (.seq (.keep [0, 3] (.ops false [⟨(some 3), none, .mov (.c (.int .i64 0))⟩]))
    (.block 0 (.loop (.seq (.seq (.keep [0, 3, 7] (.ops false [⟨(some 4), none, .mov (.t 3)⟩,
           ⟨(some 5), none, .mov (.t 0)⟩,
           ⟨(some 6), none, .len false (.t 5)⟩,
           ⟨(some 7), none, .bin .lss (.t 4) (.t 6)⟩]))
        (.cond (.t 7) .skip
         (.exit 0)))
       (.seq (.block 1 (.seq (.keep [0, 3, 14] (.ops false [⟨(some 10), none, .mov (.t 0)⟩,
             ⟨(some 11), none, .mov (.t 3)⟩,
             ⟨(some 12), none, .idxA 1 (.t 10) (.t 11)⟩,
             ⟨(some 13), none, .load 1 false (.t 12)⟩,
             ⟨(some 14), none, .callG n_gimbalref16_out [(.t 13), (.c (.int .i64 (-1000000))), (.c (.int .i64 1000000))]⟩]))
          (.cond (.t 14) (.seq (.keep [2] (.ops false [⟨(some 2), none, .mov (.c (.bool false))⟩]))
            .ret)
           .skip)))
        (.keep [0, 3] (.ops false [⟨(some 8), none, .mov (.t 3)⟩,
           ⟨(some 9), none, .bin .add (.t 8) (.c (.int .i64 1))⟩,
           ⟨(some 3), none, .mov (.t 9)⟩])))))))
   (.seq (.keep [2] (.ops false [⟨(some 2), none, .mov (.c (.bool true))⟩]))
    .ret)))
def gimbalref16_State.res : List RX := [(2, none)]
theorem gimbalref16_State.m : mK pg Try.f29.ntmps gimbalref16_State.k (Try.f29.body.getD .skip) = true := by kernel_rfl
theorem gimbalref16_State.mr : mRes pg Try.f29.results.toList gimbalref16_State.res = true := by kernel_rfl
theorem gimbalref16_State.of {args : List V} {r : V} (hn : args.length = 1) (hW : W pg gimbalref16_State.k (done gimbalref16_State.res r) (start args)) : Ret pg n_gimbalref16_State args r :=
  Ret_of (fn := Try.f29) Try.func29 rfl (by kernel_rfl) gimbalref16_State.m gimbalref16_State.mr (by rw [hn]; exact of_decide_eq_true (by kernel_rfl)) hW
def gimbalref16_Same.k : K :=
  (.seq (.keep [2, 3] (.ops false [⟨(some 2), none, .boxP (.t 0)⟩,
     ⟨(some 3), none, .boxP (.t 1)⟩,
     ⟨(some 4), none, .mov (.c (.bool false))⟩]))
  (.seq (.seq (.keep [2, 3, 33] (.ops false [⟨(some 6), none, .fldA 0 1 false (.t 2)⟩,
       ⟨(some 7), none, .load 1 false (.t 6)⟩,
       ⟨(some 8), none, .len false (.t 7)⟩,
       ⟨(some 9), none, .fldA 0 1 false (.t 3)⟩,
       ⟨(some 10), none, .load 1 false (.t 9)⟩,
       ⟨(some 11), none, .len false (.t 10)⟩,
       ⟨(some 12), none, .bin .neq (.t 8) (.t 11)⟩,
       ⟨(some 13), none, .mov (.t 12)⟩,
       ⟨(some 14), (some (13, false)), .fldA 1 1 false (.t 2)⟩,
       ⟨(some 15), (some (13, false)), .load 1 false (.t 14)⟩,
       ⟨(some 16), (some (13, false)), .fldA 1 1 false (.t 3)⟩,
       ⟨(some 17), (some (13, false)), .load 1 false (.t 16)⟩,
       ⟨(some 18), (some (13, false)), .bin .neq (.t 15) (.t 17)⟩,
       ⟨(some 19), none, .pick (.t 13) (.c (.bool true)) (.t 18)⟩,
       ⟨(some 20), none, .mov (.t 19)⟩,
       ⟨(some 21), (some (20, false)), .fldA 2 1 false (.t 2)⟩,
       ⟨(some 22), (some (20, false)), .load 1 false (.t 21)⟩,
       ⟨(some 23), (some (20, false)), .fldA 2 1 false (.t 3)⟩,
       ⟨(some 24), (some (20, false)), .load 1 false (.t 23)⟩,
       ⟨(some 25), (some (20, false)), .bin .neq (.t 22) (.t 24)⟩,
       ⟨(some 26), none, .pick (.t 20) (.c (.bool true)) (.t 25)⟩,
       ⟨(some 27), none, .mov (.t 26)⟩,
       ⟨(some 28), (some (27, false)), .fldA 3 1 false (.t 2)⟩,
       ⟨(some 29), (some (27, false)), .load 1 false (.t 28)⟩,
       ⟨(some 30), (some (27, false)), .fldA 3 1 false (.t 3)⟩,
       ⟨(some 31), (some (27, false)), .load 1 false (.t 30)⟩,
       ⟨(some 32), (some (27, false)), .bin .neq (.t 29) (.t 31)⟩,
       ⟨(some 33), none, .pick (.t 27) (.c (.bool true)) (.t 32)⟩]))
    (.cond (.t 33) (.seq (.keep [4] (.ops false [⟨(some 4), none, .mov (.c (.bool false))⟩]))
      .ret)
     .skip))
   (.seq (.seq (.keep [2, 3, 5] (.ops false [⟨(some 5), none, .mov (.c (.int .i64 0))⟩]))
     (.block 0 (.loop (.seq (.seq (.keep [2, 3, 5, 38] (.ops false [⟨(some 34), none, .mov (.t 5)⟩,
            ⟨(some 35), none, .fldA 0 1 false (.t 2)⟩,
            ⟨(some 36), none, .load 1 false (.t 35)⟩,
            ⟨(some 37), none, .len false (.t 36)⟩,
            ⟨(some 38), none, .bin .lss (.t 34) (.t 37)⟩]))
         (.cond (.t 38) .skip
          (.exit 0)))
        (.seq (.block 1 (.seq (.keep [2, 3, 5, 51] (.ops true [⟨(some 41), none, .fldA 0 1 false (.t 2)⟩,
              ⟨(some 42), none, .load 1 false (.t 41)⟩,
              ⟨(some 43), none, .mov (.t 5)⟩,
              ⟨(some 44), none, .idxA 1 (.t 42) (.t 43)⟩,
              ⟨(some 45), none, .load 1 false (.t 44)⟩,
              ⟨(some 46), none, .fldA 0 1 false (.t 3)⟩,
              ⟨(some 47), none, .load 1 false (.t 46)⟩,
              ⟨(some 48), none, .mov (.t 5)⟩,
              ⟨(some 49), none, .idxA 1 (.t 47) (.t 48)⟩,
              ⟨(some 50), none, .load 1 false (.t 49)⟩,
              ⟨(some 51), none, .bin .neq (.t 45) (.t 50)⟩]))
           (.cond (.t 51) (.seq (.keep [4] (.ops false [⟨(some 4), none, .mov (.c (.bool false))⟩]))
             .ret)
            .skip)))
         (.keep [2, 3, 5] (.ops false [⟨(some 39), none, .mov (.t 5)⟩,
            ⟨(some 40), none, .bin .add (.t 39) (.c (.int .i64 1))⟩,
            ⟨(some 5), none, .mov (.t 40)⟩])))))))
    (.seq (.keep [4] (.ops false [⟨(some 4), none, .mov (.c (.bool true))⟩]))
     .ret))))
def gimbalref16_Same.res : List RX := [(4, none)]
theorem gimbalref16_Same.m : mK pg Try.f35.ntmps gimbalref16_Same.k (Try.f35.body.getD .skip) = true := by kernel_rfl
theorem gimbalref16_Same.mr : mRes pg Try.f35.results.toList gimbalref16_Same.res = true := by kernel_rfl
theorem gimbalref16_Same.of {args : List V} {r : V} (hn : args.length = 2) (hW : W pg gimbalref16_Same.k (done gimbalref16_Same.res r) (start args)) : Ret pg n_gimbalref16_Same args r :=
  Ret_of (fn := Try.f35) Try.func35 rfl (by kernel_rfl) gimbalref16_Same.m gimbalref16_Same.mr (by rw [hn]; exact of_decide_eq_true (by kernel_rfl)) hW
def gimbalref16_out.k : K :=
  (.seq (.keep [0, 1, 2] (.ops false [⟨(some 6), none, .mov (.c (.bool false))⟩]))
  (.seq (.keep [6] (.ops false [⟨(some 7), none, .mov (.t 0)⟩,
      ⟨(some 8), none, .mov (.t 1)⟩,
      ⟨(some 9), none, .bin .lss (.t 7) (.t 8)⟩,
      ⟨(some 10), none, .mov (.t 9)⟩,
      ⟨(some 11), (some (10, false)), .mov (.t 0)⟩,
      ⟨(some 12), (some (10, false)), .mov (.t 2)⟩,
      ⟨(some 13), (some (10, false)), .bin .gtr (.t 11) (.t 12)⟩,
      ⟨(some 14), none, .pick (.t 10) (.c (.bool true)) (.t 13)⟩,
      ⟨(some 6), none, .mov (.t 14)⟩]))
   .ret))
def gimbalref16_out.res : List RX := [(6, none)]
theorem gimbalref16_out.m : mK pg Try.f59.ntmps gimbalref16_out.k (Try.f59.body.getD .skip) = true := by kernel_rfl
theorem gimbalref16_out.mr : mRes pg Try.f59.results.toList gimbalref16_out.res = true := by kernel_rfl
theorem gimbalref16_out.of {args : List V} {r : V} (hn : args.length = 3) (hW : W pg gimbalref16_out.k (done gimbalref16_out.res r) (start args)) : Ret pg n_gimbalref16_out args r :=
  Ret_of (fn := Try.f59) Try.func59 rfl (by kernel_rfl) gimbalref16_out.m gimbalref16_out.mr (by rw [hn]; exact of_decide_eq_true (by kernel_rfl)) hW
end Go.Gim

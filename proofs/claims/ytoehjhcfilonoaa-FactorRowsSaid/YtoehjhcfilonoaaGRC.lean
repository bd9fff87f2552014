import Derived.Test.YtoehjhcfilonoaaGN
/- Functions' code as data (written by wip/tools/gen.py), and the step to their contracts. -/
set_option maxRecDepth 100000
namespace Go.Gim
open Go.Proofs
def gimbalref13_Check.k : K :=
  (.seq (.keep [1] (.ops false [⟨(some 1), none, .boxP (.t 0)⟩,
     ⟨(some 2), none, .mov (.c (.str ⟨#[]⟩))⟩]))
  (.seq (.seq (.keep [1, 5] (.ops false [⟨(some 3), none, .fldA 0 1 false (.t 1)⟩,
       ⟨(some 4), none, .load 1 false (.t 3)⟩,
       ⟨(some 5), none, .callG n_gimbalref13_out [(.t 4), (.c (.int .i64 1)), (.c (.int .i64 1000))]⟩]))
    (.cond (.t 5) (.seq (.keep [2] (.ops false [⟨(some 2), none, .mov (.c (.str ⟨#[82, 97, 116, 101]⟩))⟩]))
      .ret)
     .skip))
   (.seq (.seq (.keep [1, 8] (.ops false [⟨(some 6), none, .fldA 1 1 false (.t 1)⟩,
        ⟨(some 7), none, .load 1 false (.t 6)⟩,
        ⟨(some 8), none, .callG n_gimbalref13_out [(.t 7), (.c (.int .i64 1)), (.c (.int .i64 1000))]⟩]))
     (.cond (.t 8) (.seq (.keep [2] (.ops false [⟨(some 2), none, .mov (.c (.str ⟨#[83, 116, 101, 112]⟩))⟩]))
       .ret)
      .skip))
    (.seq (.seq (.keep [1, 11] (.ops false [⟨(some 9), none, .fldA 2 1 false (.t 1)⟩,
         ⟨(some 10), none, .load 1 false (.t 9)⟩,
         ⟨(some 11), none, .callG n_gimbalref13_out [(.t 10), (.c (.int .i64 2)), (.c (.int .i64 5))]⟩]))
      (.cond (.t 11) (.seq (.keep [2] (.ops false [⟨(some 2), none, .mov (.c (.str ⟨#[75, 101, 121, 115]⟩))⟩]))
        .ret)
       .skip))
     (.seq (.seq (.keep [1, 14] (.ops false [⟨(some 12), none, .fldA 3 1 false (.t 1)⟩,
          ⟨(some 13), none, .load 1 false (.t 12)⟩,
          ⟨(some 14), none, .callG n_gimbalref13_out [(.t 13), (.c (.int .i64 1)), (.c (.int .i64 1000))]⟩]))
       (.cond (.t 14) (.seq (.keep [2] (.ops false [⟨(some 2), none, .mov (.c (.str ⟨#[71, 97, 112]⟩))⟩]))
         .ret)
        .skip))
      (.seq (.seq (.keep [1, 17] (.ops false [⟨(some 15), none, .fldA 4 1 false (.t 1)⟩,
           ⟨(some 16), none, .load 1 false (.t 15)⟩,
           ⟨(some 17), none, .callG n_gimbalref13_out [(.t 16), (.c (.int .i64 1)), (.c (.int .i64 4194304))]⟩]))
        (.cond (.t 17) (.seq (.keep [2] (.ops false [⟨(some 2), none, .mov (.c (.str ⟨#[84, 117, 114, 110]⟩))⟩]))
          .ret)
         .skip))
       (.seq (.seq (.keep [1, 20] (.ops false [⟨(some 18), none, .fldA 5 1 false (.t 1)⟩,
            ⟨(some 19), none, .load 1 false (.t 18)⟩,
            ⟨(some 20), none, .callG n_gimbalref13_out [(.t 19), (.c (.int .i64 1)), (.c (.int .i64 67108864))]⟩]))
         (.cond (.t 20) (.seq (.keep [2] (.ops false [⟨(some 2), none, .mov (.c (.str ⟨#[80, 117, 108, 108]⟩))⟩]))
           .ret)
          .skip))
        (.seq (.seq (.keep [1, 23] (.ops false [⟨(some 21), none, .fldA 6 4 true (.t 1)⟩,
             ⟨(some 22), none, .load 4 true (.t 21)⟩,
             ⟨(some 23), none, .callG n_gimbalref13_any4 [(.t 22), (.c (.int .i64 32768))]⟩]))
          (.cond (.t 23) (.seq (.keep [2] (.ops false [⟨(some 2), none, .mov (.c (.str ⟨#[75, 110, 101, 101, 115]⟩))⟩]))
            .ret)
           .skip))
         (.seq (.seq (.keep [1, 26] (.ops false [⟨(some 24), none, .fldA 10 4 true (.t 1)⟩,
              ⟨(some 25), none, .load 4 true (.t 24)⟩,
              ⟨(some 26), none, .callG n_gimbalref13_any4 [(.t 25), (.c (.int .i64 100))]⟩]))
           (.cond (.t 26) (.seq (.keep [2] (.ops false [⟨(some 2), none, .mov (.c (.str ⟨#[87, 101, 105, 103, 104, 116, 115]⟩))⟩]))
             .ret)
            .skip))
          (.seq (.seq (.keep [1, 29] (.ops false [⟨(some 27), none, .fldA 14 1 false (.t 1)⟩,
               ⟨(some 28), none, .load 1 false (.t 27)⟩,
               ⟨(some 29), none, .callG n_gimbalref13_out [(.t 28), (.c (.int .i64 1)), (.c (.int .i64 30))]⟩]))
            (.cond (.t 29) (.seq (.keep [2] (.ops false [⟨(some 2), none, .mov (.c (.str ⟨#[82, 111, 117, 110, 100, 115]⟩))⟩]))
              .ret)
             .skip))
           (.seq (.seq (.keep [1, 32] (.ops false [⟨(some 30), none, .fldA 15 1 false (.t 1)⟩,
                ⟨(some 31), none, .load 1 false (.t 30)⟩,
                ⟨(some 32), none, .callG n_gimbalref13_out [(.t 31), (.c (.int .i64 0)), (.c (.int .i64 12))]⟩]))
             (.cond (.t 32) (.seq (.keep [2] (.ops false [⟨(some 2), none, .mov (.c (.str ⟨#[82, 97, 105, 115, 101, 115]⟩))⟩]))
               .ret)
              .skip))
            (.seq (.seq (.keep [35] (.ops false [⟨(some 33), none, .fldA 16 1 false (.t 1)⟩,
                 ⟨(some 34), none, .load 1 false (.t 33)⟩,
                 ⟨(some 35), none, .callG n_gimbalref13_out [(.t 34), (.c (.int .i64 0)), (.c (.int .i64 1000000000))]⟩]))
              (.cond (.t 35) (.seq (.keep [2] (.ops false [⟨(some 2), none, .mov (.c (.str ⟨#[70, 108, 97, 116]⟩))⟩]))
                .ret)
               .skip))
             (.seq (.keep [2] (.ops false [⟨(some 2), none, .mov (.c (.str ⟨#[]⟩))⟩]))
              .ret)))))))))))))
def gimbalref13_Check.res : List RX := [(2, none)]
theorem gimbalref13_Check.m : mK pg Try.f60.ntmps gimbalref13_Check.k (Try.f60.body.getD .skip) = true := by kernel_rfl
theorem gimbalref13_Check.mr : mRes pg Try.f60.results.toList gimbalref13_Check.res = true := by kernel_rfl
theorem gimbalref13_Check.of {args : List V} {r : V} (hn : args.length = 1) (hW : W pg gimbalref13_Check.k (done gimbalref13_Check.res r) (start args)) : Ret pg n_gimbalref13_Check args r :=
  Ret_of (fn := Try.f60) Try.func60 rfl (by kernel_rfl) gimbalref13_Check.m gimbalref13_Check.mr (by rw [hn]; exact of_decide_eq_true (by kernel_rfl)) hW
def gimbalref13_out.k : K :=
  (.seq (.keep [0, 1, 2] (.ops false [⟨(some 6), none, .mov (.c (.bool false))⟩]))
  (.seq (.keep [6] (.ops false [⟨(some 7), none, .mov (.t 0)⟩,
      ⟨(some 8), none, .mov (.t 1)⟩,
      ⟨(some 9), none, .bin .lss (.t 7) (.t 8)⟩,
      ⟨(some 10), none, .mov (.t 9)⟩,
      ⟨(some 11), (some (10, false)), .mov (.t 0)⟩,
      ⟨(some 12), (some (10, false)), .mov (.t 2)⟩,
      ⟨(some 13), (some (10, false)), .bin .gtr (.t 11) (.t 12)⟩,
      ⟨(some 14), none, .pick (.t 10) (.c (.bool true)) (.t 13)⟩,
      ⟨(some 6), none, .mov (.t 14)⟩]))
   .ret))
def gimbalref13_out.res : List RX := [(6, none)]
theorem gimbalref13_out.m : mK pg Try.f82.ntmps gimbalref13_out.k (Try.f82.body.getD .skip) = true := by kernel_rfl
theorem gimbalref13_out.mr : mRes pg Try.f82.results.toList gimbalref13_out.res = true := by kernel_rfl
theorem gimbalref13_out.of {args : List V} {r : V} (hn : args.length = 3) (hW : W pg gimbalref13_out.k (done gimbalref13_out.res r) (start args)) : Ret pg n_gimbalref13_out args r :=
  Ret_of (fn := Try.f82) Try.func82 rfl (by kernel_rfl) gimbalref13_out.m gimbalref13_out.mr (by rw [hn]; exact of_decide_eq_true (by kernel_rfl)) hW
def gimbalref13_any4.k : K :=
  (.seq (.keep [1, 2] (.ops false [⟨(some 2), none, .boxP (.t 0)⟩,
     ⟨(some 4), none, .mov (.c (.bool false))⟩]))
  (.seq (.keep [4] (.ops false [⟨(some 5), none, .red (.aptr 4 1 false) [(.t 2), (.c (.int .i64 0))]⟩,
      ⟨(some 6), none, .load 1 false (.t 5)⟩,
      ⟨(some 7), none, .mov (.t 1)⟩,
      ⟨(some 8), none, .callG n_gimbalref13_out [(.t 6), (.c (.int .i64 1)), (.t 7)]⟩,
      ⟨(some 9), none, .mov (.t 8)⟩,
      ⟨(some 10), (some (9, false)), .red (.aptr 4 1 false) [(.t 2), (.c (.int .i64 1))]⟩,
      ⟨(some 11), (some (9, false)), .load 1 false (.t 10)⟩,
      ⟨(some 12), (some (9, false)), .mov (.t 1)⟩,
      ⟨(some 13), (some (9, false)), .callG n_gimbalref13_out [(.t 11), (.c (.int .i64 1)), (.t 12)]⟩,
      ⟨(some 14), none, .pick (.t 9) (.c (.bool true)) (.t 13)⟩,
      ⟨(some 15), none, .mov (.t 14)⟩,
      ⟨(some 16), (some (15, false)), .red (.aptr 4 1 false) [(.t 2), (.c (.int .i64 2))]⟩,
      ⟨(some 17), (some (15, false)), .load 1 false (.t 16)⟩,
      ⟨(some 18), (some (15, false)), .mov (.t 1)⟩,
      ⟨(some 19), (some (15, false)), .callG n_gimbalref13_out [(.t 17), (.c (.int .i64 1)), (.t 18)]⟩,
      ⟨(some 20), none, .pick (.t 15) (.c (.bool true)) (.t 19)⟩,
      ⟨(some 21), none, .mov (.t 20)⟩,
      ⟨(some 22), (some (21, false)), .red (.aptr 4 1 false) [(.t 2), (.c (.int .i64 3))]⟩,
      ⟨(some 23), (some (21, false)), .load 1 false (.t 22)⟩,
      ⟨(some 24), (some (21, false)), .mov (.t 1)⟩,
      ⟨(some 25), (some (21, false)), .callG n_gimbalref13_out [(.t 23), (.c (.int .i64 1)), (.t 24)]⟩,
      ⟨(some 26), none, .pick (.t 21) (.c (.bool true)) (.t 25)⟩,
      ⟨(some 4), none, .mov (.t 26)⟩]))
   .ret))
def gimbalref13_any4.res : List RX := [(4, none)]
theorem gimbalref13_any4.m : mK pg Try.f83.ntmps gimbalref13_any4.k (Try.f83.body.getD .skip) = true := by kernel_rfl
theorem gimbalref13_any4.mr : mRes pg Try.f83.results.toList gimbalref13_any4.res = true := by kernel_rfl
theorem gimbalref13_any4.of {args : List V} {r : V} (hn : args.length = 2) (hW : W pg gimbalref13_any4.k (done gimbalref13_any4.res r) (start args)) : Ret pg n_gimbalref13_any4 args r :=
  Ret_of (fn := Try.f83) Try.func83 rfl (by kernel_rfl) gimbalref13_any4.m gimbalref13_any4.mr (by rw [hn]; exact of_decide_eq_true (by kernel_rfl)) hW
end Go.Gim

import Derived.Test.YtoehjhcfilonoaaGN
/- Functions' code as data (written by wip/tools/gen.py), and the step to their contracts. -/
set_option maxRecDepth 100000
namespace Go.Gim
open Go.Proofs
def huber_Rho.k : K :=
  (.seq (.keep [0, 1] (.ops false [⟨(some 4), none, .mov (.c (.int .i64 0))⟩]))
  (.seq (.keep [0, 1, 5] (.ops false [⟨(some 7), none, .mov (.t 0)⟩,
      ⟨(some 8), none, .mov (.t 1)⟩,
      ⟨(some 9), none, .callG n_huber_cut [(.t 7), (.t 8)]⟩,
      ⟨(some 6), none, .mov (.t 9)⟩,
      ⟨(some 10), none, .ext (.t 6) 0⟩,
      ⟨(some 11), none, .ext (.t 6) 1⟩,
      ⟨(some 12), none, .ext (.t 6) 2⟩,
      ⟨(some 0), none, .mov (.t 10)⟩,
      ⟨(some 5), none, .mov (.t 11)⟩,
      ⟨(some 1), none, .mov (.t 12)⟩]))
   (.seq (.keep [4] (.ops false [⟨(some 13), none, .mov (.t 5)⟩,
       ⟨(some 14), none, .mov (.t 1)⟩,
       ⟨(some 15), none, .callG n_huber_of [(.t 13), (.t 14)]⟩,
       ⟨(some 16), none, .fld 0 1 false (.t 15)⟩,
       ⟨(some 17), none, .mov (.t 0)⟩,
       ⟨(some 18), none, .mov (.t 1)⟩,
       ⟨(some 19), none, .callGV (.t 16) [(.t 17), (.t 18)]⟩,
       ⟨(some 4), none, .mov (.t 19)⟩]))
    .ret)))
def huber_Rho.res : List RX := [(4, none)]
theorem huber_Rho.m : mK pg Try.f18.ntmps huber_Rho.k (Try.f18.body.getD .skip) = true := by kernel_rfl
theorem huber_Rho.mr : mRes pg Try.f18.results.toList huber_Rho.res = true := by kernel_rfl
theorem huber_Rho.of {args : List V} {r : V} (hn : args.length = 2) (hW : W pg huber_Rho.k (done huber_Rho.res r) (start args)) : Ret pg n_huber_Rho args r :=
  Ret_of (fn := Try.f18) Try.func18 rfl (by kernel_rfl) huber_Rho.m huber_Rho.mr (by rw [hn]; exact of_decide_eq_true (by kernel_rfl)) hW
def huber_cut.k : K :=
  (.seq (.keep [0, 1] (.ops false [⟨(some 4), none, .mov (.c (.int .i64 0))⟩,
     ⟨(some 5), none, .mov (.c (.int .i64 0))⟩,
     ⟨(some 6), none, .mov (.c (.int .i64 0))⟩]))
  (.seq (.keep [1, 4] (.ops false [⟨(some 7), none, .mov (.t 0)⟩,
      ⟨(some 8), none, .mm false (.t 7) [(.c (.int .i64 2147483647))]⟩,
      ⟨(some 9), none, .mm true (.c (.int .i64 (-2147483647))) [(.t 8)]⟩,
      ⟨(some 4), none, .mov (.t 9)⟩]))
   (.seq (.keep [4, 5, 6] (.ops false [⟨(some 10), none, .mov (.t 4)⟩,
       ⟨(some 11), none, .mov (.t 4)⟩,
       ⟨(some 12), none, .mov (.t 4)⟩,
       ⟨(some 13), none, .un .neg (.t 12)⟩,
       ⟨(some 14), none, .mm true (.t 11) [(.t 13)]⟩,
       ⟨(some 15), none, .mov (.t 1)⟩,
       ⟨(some 16), none, .mm false (.t 15) [(.c (.int .i64 2147483647))]⟩,
       ⟨(some 17), none, .mm true (.c (.int .i64 0)) [(.t 16)]⟩,
       ⟨(some 4), none, .mov (.t 10)⟩,
       ⟨(some 5), none, .mov (.t 14)⟩,
       ⟨(some 6), none, .mov (.t 17)⟩]))
    .ret)))
def huber_cut.res : List RX := [(4, none), (5, none), (6, none)]
theorem huber_cut.m : mK pg Try.f44.ntmps huber_cut.k (Try.f44.body.getD .skip) = true := by kernel_rfl
theorem huber_cut.mr : mRes pg Try.f44.results.toList huber_cut.res = true := by kernel_rfl
theorem huber_cut.of {args : List V} {r : V} (hn : args.length = 2) (hW : W pg huber_cut.k (done huber_cut.res r) (start args)) : Ret pg n_huber_cut args r :=
  Ret_of (fn := Try.f44) Try.func44 rfl (by kernel_rfl) huber_cut.m huber_cut.mr (by rw [hn]; exact of_decide_eq_true (by kernel_rfl)) hW
def huber_of.k : K :=
  (.seq (.keep [0, 1, 4] (.ops false [⟨(some 4), none, .alloc 2 (.agg [.nilfn, .nilfn])⟩]))
  (.seq (.seq (.keep [4, 7] (.ops false [⟨(some 5), none, .mov (.t 0)⟩,
       ⟨(some 6), none, .mov (.t 1)⟩,
       ⟨(some 7), none, .bin .leq (.t 5) (.t 6)⟩]))
    (.cond (.t 7) (.seq (.keep [4] (.ops false [⟨(some 8), none, .build [.nilfn, .nilfn] [(0, 1, (.c (.fn n_huber_of_1 []))), (1, 1, (.c (.fn n_huber_of_2 [])))]⟩,
         ⟨none, none, .store 2 (.t 4) (.t 8)⟩]))
      .ret)
     .skip))
   (.seq (.keep [4] (.ops false [⟨(some 9), none, .build [.nilfn, .nilfn] [(0, 1, (.c (.fn n_huber_of_3 []))), (1, 1, (.c (.fn n_huber_of_4 [])))]⟩,
       ⟨none, none, .store 2 (.t 4) (.t 9)⟩]))
    .ret)))
def huber_of.res : List RX := [(4, some (2, true))]
theorem huber_of.m : mK pg Try.f45.ntmps huber_of.k (Try.f45.body.getD .skip) = true := by kernel_rfl
theorem huber_of.mr : mRes pg Try.f45.results.toList huber_of.res = true := by kernel_rfl
theorem huber_of.of {args : List V} {r : V} (hn : args.length = 2) (hW : W pg huber_of.k (done huber_of.res r) (start args)) : Ret pg n_huber_of args r :=
  Ret_of (fn := Try.f45) Try.func45 rfl (by kernel_rfl) huber_of.m huber_of.mr (by rw [hn]; exact of_decide_eq_true (by kernel_rfl)) hW
def huber_of_1.k : K :=
  (.seq (.keep [0] (.ops false [⟨(some 4), none, .mov (.c (.int .i64 0))⟩]))
  (.seq (.keep [4] (.ops false [⟨(some 5), none, .mov (.t 0)⟩,
      ⟨(some 6), none, .mov (.t 0)⟩,
      ⟨(some 7), none, .bin .mul (.t 5) (.t 6)⟩,
      ⟨(some 4), none, .mov (.t 7)⟩]))
   .ret))
def huber_of_1.res : List RX := [(4, none)]
theorem huber_of_1.m : mK pg Try.f71.ntmps huber_of_1.k (Try.f71.body.getD .skip) = true := by kernel_rfl
theorem huber_of_1.mr : mRes pg Try.f71.results.toList huber_of_1.res = true := by kernel_rfl
theorem huber_of_1.of {args : List V} {r : V} (hn : args.length = 2) (hW : W pg huber_of_1.k (done huber_of_1.res r) (start args)) : Ret pg n_huber_of_1 args r :=
  Ret_of (fn := Try.f71) Try.func71 rfl (by kernel_rfl) huber_of_1.m huber_of_1.mr (by rw [hn]; exact of_decide_eq_true (by kernel_rfl)) hW
def huber_of_3.k : K :=
  (.seq (.keep [0, 1] (.ops false [⟨(some 4), none, .mov (.c (.int .i64 0))⟩]))
  (.seq (.keep [4] (.ops false [⟨(some 5), none, .mov (.t 1)⟩,
      ⟨(some 6), none, .bin .mul (.c (.int .i64 2)) (.t 5)⟩,
      ⟨(some 7), none, .mov (.t 0)⟩,
      ⟨(some 8), none, .mov (.t 0)⟩,
      ⟨(some 9), none, .un .neg (.t 8)⟩,
      ⟨(some 10), none, .mm true (.t 7) [(.t 9)]⟩,
      ⟨(some 11), none, .bin .mul (.t 6) (.t 10)⟩,
      ⟨(some 12), none, .mov (.t 1)⟩,
      ⟨(some 13), none, .mov (.t 1)⟩,
      ⟨(some 14), none, .bin .mul (.t 12) (.t 13)⟩,
      ⟨(some 15), none, .bin .sub (.t 11) (.t 14)⟩,
      ⟨(some 4), none, .mov (.t 15)⟩]))
   .ret))
def huber_of_3.res : List RX := [(4, none)]
theorem huber_of_3.m : mK pg Try.f73.ntmps huber_of_3.k (Try.f73.body.getD .skip) = true := by kernel_rfl
theorem huber_of_3.mr : mRes pg Try.f73.results.toList huber_of_3.res = true := by kernel_rfl
theorem huber_of_3.of {args : List V} {r : V} (hn : args.length = 2) (hW : W pg huber_of_3.k (done huber_of_3.res r) (start args)) : Ret pg n_huber_of_3 args r :=
  Ret_of (fn := Try.f73) Try.func73 rfl (by kernel_rfl) huber_of_3.m huber_of_3.mr (by rw [hn]; exact of_decide_eq_true (by kernel_rfl)) hW
end Go.Gim

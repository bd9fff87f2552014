import Derived.Test.YtoehjhcfilonoaaGN
/- Functions' code as data (written by wip/tools/gen.py), and the step to their contracts. -/
set_option maxRecDepth 100000
namespace Go.Gim
open Go.Proofs
def config_Default.k : K :=
  (.seq (.keep [0] (.ops false [⟨(some 0), none, .alloc 17 (.agg [(.int .i64 0), (.int .i64 0), (.int .i64 0), (.int .i64 0), (.int .i64 0), (.int .i64 0), (.int .i64 0), (.int .i64 0), (.int .i64 0), (.int .i64 0), (.int .i64 0), (.int .i64 0), (.int .i64 0), (.int .i64 0), (.int .i64 0), (.int .i64 0), (.int .i64 0)])⟩]))
  (.seq (.keep [0] (.ops false [⟨(some 1), none, .build [(.int .i64 0), (.int .i64 0), (.int .i64 0), (.int .i64 0)] [(0, 1, (.c (.int .i64 2000))), (1, 1, (.c (.int .i64 1000))), (2, 1, (.c (.int .i64 500))), (3, 1, (.c (.int .i64 100)))]⟩,
      ⟨(some 2), none, .build [(.int .i64 0), (.int .i64 0), (.int .i64 0), (.int .i64 0)] [(0, 1, (.c (.int .i64 4))), (1, 1, (.c (.int .i64 1))), (2, 1, (.c (.int .i64 2))), (3, 1, (.c (.int .i64 8)))]⟩,
      ⟨(some 3), none, .build [(.int .i64 0), (.int .i64 0), (.int .i64 0), (.int .i64 0), (.int .i64 0), (.int .i64 0), (.int .i64 0), (.int .i64 0), (.int .i64 0), (.int .i64 0), (.int .i64 0), (.int .i64 0), (.int .i64 0), (.int .i64 0), (.int .i64 0), (.int .i64 0), (.int .i64 0)] [(0, 1, (.c (.int .i64 100))), (1, 1, (.c (.int .i64 50))), (2, 1, (.c (.int .i64 4))), (3, 1, (.c (.int .i64 5))), (4, 1, (.c (.int .i64 2097152))), (5, 1, (.c (.int .i64 33554432))), (6, 4, (.t 1)), (10, 4, (.t 2)), (14, 1, (.c (.int .i64 12))), (15, 1, (.c (.int .i64 6))), (16, 1, (.c (.int .i64 1000)))]⟩,
      ⟨none, none, .store 17 (.t 0) (.t 3)⟩]))
   .ret))
def config_Default.res : List RX := [(0, some (17, true))]
theorem config_Default.m : mK pg Try.f54.ntmps config_Default.k (Try.f54.body.getD .skip) = true := by kernel_rfl
theorem config_Default.mr : mRes pg Try.f54.results.toList config_Default.res = true := by kernel_rfl
theorem config_Default.of {args : List V} {r : V} (hn : args.length = 0) (hW : W pg config_Default.k (done config_Default.res r) (start args)) : Ret pg n_config_Default args r :=
  Ret_of (fn := Try.f54) Try.func54 rfl (by kernel_rfl) config_Default.m config_Default.mr (by rw [hn]; exact of_decide_eq_true (by kernel_rfl)) hW
def config_fields.k : K :=
  (.seq (.keep [0] (.ops false [⟨(some 2), none, .mov (.c .nilfn)⟩]))
  (.seq (.keep [0, 3] (.ops false [⟨(some 3), none, .mov (.c (.fn n_config_fields_1 []))⟩]))
   (.seq (.keep [0, 3, 4] (.ops false [⟨(some 4), none, .mov (.c (.fn n_config_fields_2 []))⟩]))
    (.seq (.keep [5] (.ops true [⟨(some 6), none, .mov (.t 4)⟩,
        ⟨(some 7), none, .mov (.t 0)⟩,
        ⟨(some 8), none, .nilchk (.t 7)⟩,
        ⟨(some 9), none, .fldA 0 1 false (.t 8)⟩,
        ⟨(some 10), none, .callV (.t 6) [(.t 9)]⟩,
        ⟨(some 11), none, .build [(.str ⟨#[]⟩), .nil, (.int .i64 0), (.int .i64 0)] [(0, 1, (.c (.str ⟨#[82, 97, 116, 101]⟩))), (1, 1, (.t 10)), (2, 1, (.c (.int .i64 1))), (3, 1, (.c (.int .i64 1000)))]⟩,
        ⟨(some 12), none, .mov (.t 4)⟩,
        ⟨(some 13), none, .mov (.t 0)⟩,
        ⟨(some 14), none, .nilchk (.t 13)⟩,
        ⟨(some 15), none, .fldA 1 1 false (.t 14)⟩,
        ⟨(some 16), none, .callV (.t 12) [(.t 15)]⟩,
        ⟨(some 17), none, .build [(.str ⟨#[]⟩), .nil, (.int .i64 0), (.int .i64 0)] [(0, 1, (.c (.str ⟨#[83, 116, 101, 112]⟩))), (1, 1, (.t 16)), (2, 1, (.c (.int .i64 1))), (3, 1, (.c (.int .i64 1000)))]⟩,
        ⟨(some 18), none, .mov (.t 4)⟩,
        ⟨(some 19), none, .mov (.t 0)⟩,
        ⟨(some 20), none, .nilchk (.t 19)⟩,
        ⟨(some 21), none, .fldA 2 1 false (.t 20)⟩,
        ⟨(some 22), none, .callV (.t 18) [(.t 21)]⟩,
        ⟨(some 23), none, .build [(.str ⟨#[]⟩), .nil, (.int .i64 0), (.int .i64 0)] [(0, 1, (.c (.str ⟨#[75, 101, 121, 115]⟩))), (1, 1, (.t 22)), (2, 1, (.c (.int .i64 2))), (3, 1, (.c (.int .i64 5)))]⟩,
        ⟨(some 24), none, .mov (.t 4)⟩,
        ⟨(some 25), none, .mov (.t 0)⟩,
        ⟨(some 26), none, .nilchk (.t 25)⟩,
        ⟨(some 27), none, .fldA 3 1 false (.t 26)⟩,
        ⟨(some 28), none, .callV (.t 24) [(.t 27)]⟩,
        ⟨(some 29), none, .build [(.str ⟨#[]⟩), .nil, (.int .i64 0), (.int .i64 0)] [(0, 1, (.c (.str ⟨#[71, 97, 112]⟩))), (1, 1, (.t 28)), (2, 1, (.c (.int .i64 1))), (3, 1, (.c (.int .i64 1000)))]⟩,
        ⟨(some 30), none, .mov (.t 4)⟩,
        ⟨(some 31), none, .mov (.t 0)⟩,
        ⟨(some 32), none, .nilchk (.t 31)⟩,
        ⟨(some 33), none, .fldA 4 1 false (.t 32)⟩,
        ⟨(some 34), none, .callV (.t 30) [(.t 33)]⟩,
        ⟨(some 35), none, .build [(.str ⟨#[]⟩), .nil, (.int .i64 0), (.int .i64 0)] [(0, 1, (.c (.str ⟨#[84, 117, 114, 110]⟩))), (1, 1, (.t 34)), (2, 1, (.c (.int .i64 1))), (3, 1, (.c (.int .i64 4194304)))]⟩,
        ⟨(some 36), none, .mov (.t 4)⟩,
        ⟨(some 37), none, .mov (.t 0)⟩,
        ⟨(some 38), none, .nilchk (.t 37)⟩,
        ⟨(some 39), none, .fldA 5 1 false (.t 38)⟩,
        ⟨(some 40), none, .callV (.t 36) [(.t 39)]⟩,
        ⟨(some 41), none, .build [(.str ⟨#[]⟩), .nil, (.int .i64 0), (.int .i64 0)] [(0, 1, (.c (.str ⟨#[80, 117, 108, 108]⟩))), (1, 1, (.t 40)), (2, 1, (.c (.int .i64 1))), (3, 1, (.c (.int .i64 67108864)))]⟩,
        ⟨(some 42), none, .mov (.t 3)⟩,
        ⟨(some 43), none, .mov (.t 0)⟩,
        ⟨(some 44), none, .nilchk (.t 43)⟩,
        ⟨(some 45), none, .fldA 6 4 true (.t 44)⟩,
        ⟨(some 46), none, .callV (.t 42) [(.t 45)]⟩,
        ⟨(some 47), none, .build [(.str ⟨#[]⟩), .nil, (.int .i64 0), (.int .i64 0)] [(0, 1, (.c (.str ⟨#[75, 110, 101, 101, 115]⟩))), (1, 1, (.t 46)), (2, 1, (.c (.int .i64 1))), (3, 1, (.c (.int .i64 32768)))]⟩,
        ⟨(some 48), none, .mov (.t 3)⟩,
        ⟨(some 49), none, .mov (.t 0)⟩,
        ⟨(some 50), none, .nilchk (.t 49)⟩,
        ⟨(some 51), none, .fldA 10 4 true (.t 50)⟩,
        ⟨(some 52), none, .callV (.t 48) [(.t 51)]⟩,
        ⟨(some 53), none, .build [(.str ⟨#[]⟩), .nil, (.int .i64 0), (.int .i64 0)] [(0, 1, (.c (.str ⟨#[87, 101, 105, 103, 104, 116, 115]⟩))), (1, 1, (.t 52)), (2, 1, (.c (.int .i64 1))), (3, 1, (.c (.int .i64 100)))]⟩,
        ⟨(some 54), none, .mov (.t 4)⟩,
        ⟨(some 55), none, .mov (.t 0)⟩,
        ⟨(some 56), none, .nilchk (.t 55)⟩,
        ⟨(some 57), none, .fldA 14 1 false (.t 56)⟩,
        ⟨(some 58), none, .callV (.t 54) [(.t 57)]⟩,
        ⟨(some 59), none, .build [(.str ⟨#[]⟩), .nil, (.int .i64 0), (.int .i64 0)] [(0, 1, (.c (.str ⟨#[82, 111, 117, 110, 100, 115]⟩))), (1, 1, (.t 58)), (2, 1, (.c (.int .i64 1))), (3, 1, (.c (.int .i64 30)))]⟩,
        ⟨(some 60), none, .mov (.t 4)⟩,
        ⟨(some 61), none, .mov (.t 0)⟩,
        ⟨(some 62), none, .nilchk (.t 61)⟩,
        ⟨(some 63), none, .fldA 15 1 false (.t 62)⟩,
        ⟨(some 64), none, .callV (.t 60) [(.t 63)]⟩,
        ⟨(some 65), none, .build [(.str ⟨#[]⟩), .nil, (.int .i64 0), (.int .i64 0)] [(0, 1, (.c (.str ⟨#[82, 97, 105, 115, 101, 115]⟩))), (1, 1, (.t 64)), (2, 1, (.c (.int .i64 0))), (3, 1, (.c (.int .i64 12)))]⟩,
        ⟨(some 66), none, .mov (.t 4)⟩,
        ⟨(some 67), none, .mov (.t 0)⟩,
        ⟨(some 68), none, .nilchk (.t 67)⟩,
        ⟨(some 69), none, .fldA 16 1 false (.t 68)⟩,
        ⟨(some 70), none, .callV (.t 66) [(.t 69)]⟩,
        ⟨(some 71), none, .build [(.str ⟨#[]⟩), .nil, (.int .i64 0), (.int .i64 0)] [(0, 1, (.c (.str ⟨#[70, 108, 97, 116]⟩))), (1, 1, (.t 70)), (2, 1, (.c (.int .i64 0))), (3, 1, (.c (.int .i64 1000000000)))]⟩,
        ⟨(some 72), none, .new (.bsl 4) [(.t 11), (.t 17), (.t 23), (.t 29), (.t 35), (.t 41), (.t 47), (.t 53), (.t 59), (.t 65), (.t 71)]⟩,
        ⟨(some 5), none, .alloc 1 .nil⟩,
        ⟨none, none, .store 1 (.t 5) (.t 72)⟩]))
     (.seq (.keep [2] (.ops false [⟨(some 73), none, .mkFn n_config_fields_3 [(.t 5)]⟩,
         ⟨(some 2), none, .mov (.t 73)⟩]))
      .ret)))))
def config_fields.res : List RX := [(2, none)]
theorem config_fields.m : mK pg Try.f55.ntmps config_fields.k (Try.f55.body.getD .skip) = true := by kernel_rfl
theorem config_fields.mr : mRes pg Try.f55.results.toList config_fields.res = true := by kernel_rfl
theorem config_fields.of {args : List V} {r : V} (hn : args.length = 1) (hW : W pg config_fields.k (done config_fields.res r) (start args)) : Ret pg n_config_fields args r :=
  Ret_of (fn := Try.f55) Try.func55 rfl (by kernel_rfl) config_fields.m config_fields.mr (by rw [hn]; exact of_decide_eq_true (by kernel_rfl)) hW
def config_fields_1.k : K :=
  (.seq (.keep [0] (.ops false [⟨(some 2), none, .mov (.c .nil)⟩]))
  (.seq (.keep [2] (.ops true [⟨(some 3), none, .mov (.t 0)⟩,
      ⟨(some 4), none, .nilchk (.t 3)⟩,
      ⟨(some 5), none, .red (.aptr 4 1 false) [(.t 4), (.c (.int .i64 0))]⟩,
      ⟨(some 6), none, .mov (.t 0)⟩,
      ⟨(some 7), none, .nilchk (.t 6)⟩,
      ⟨(some 8), none, .red (.aptr 4 1 false) [(.t 7), (.c (.int .i64 1))]⟩,
      ⟨(some 9), none, .mov (.t 0)⟩,
      ⟨(some 10), none, .nilchk (.t 9)⟩,
      ⟨(some 11), none, .red (.aptr 4 1 false) [(.t 10), (.c (.int .i64 2))]⟩,
      ⟨(some 12), none, .mov (.t 0)⟩,
      ⟨(some 13), none, .nilchk (.t 12)⟩,
      ⟨(some 14), none, .red (.aptr 4 1 false) [(.t 13), (.c (.int .i64 3))]⟩,
      ⟨(some 15), none, .new (.bsl 1) [(.t 5), (.t 8), (.t 11), (.t 14)]⟩,
      ⟨(some 2), none, .mov (.t 15)⟩]))
   .ret))
def config_fields_1.res : List RX := [(2, none)]
theorem config_fields_1.m : mK pg Try.f79.ntmps config_fields_1.k (Try.f79.body.getD .skip) = true := by kernel_rfl
theorem config_fields_1.mr : mRes pg Try.f79.results.toList config_fields_1.res = true := by kernel_rfl
theorem config_fields_1.of {args : List V} {r : V} (hn : args.length = 1) (hW : W pg config_fields_1.k (done config_fields_1.res r) (start args)) : Ret pg n_config_fields_1 args r :=
  Ret_of (fn := Try.f79) Try.func79 rfl (by kernel_rfl) config_fields_1.m config_fields_1.mr (by rw [hn]; exact of_decide_eq_true (by kernel_rfl)) hW
def config_fields_2.k : K :=
  (.seq (.keep [0] (.ops false [⟨(some 2), none, .mov (.c .nil)⟩]))
  (.seq (.keep [2] (.ops false [⟨(some 3), none, .mov (.t 0)⟩,
      ⟨(some 4), none, .new (.bsl 1) [(.t 3)]⟩,
      ⟨(some 2), none, .mov (.t 4)⟩]))
   .ret))
def config_fields_2.res : List RX := [(2, none)]
theorem config_fields_2.m : mK pg Try.f80.ntmps config_fields_2.k (Try.f80.body.getD .skip) = true := by kernel_rfl
theorem config_fields_2.mr : mRes pg Try.f80.results.toList config_fields_2.res = true := by kernel_rfl
theorem config_fields_2.of {args : List V} {r : V} (hn : args.length = 1) (hW : W pg config_fields_2.k (done config_fields_2.res r) (start args)) : Ret pg n_config_fields_2 args r :=
  Ret_of (fn := Try.f80) Try.func80 rfl (by kernel_rfl) config_fields_2.m config_fields_2.mr (by rw [hn]; exact of_decide_eq_true (by kernel_rfl)) hW
end Go.Gim

import Derived.Test.YtoehjhcfilonoaaGN
/- Functions' code as data (written by wip/tools/gen.py), and the step to their contracts. -/
set_option maxRecDepth 100000
namespace Go.Gim
open Go.Proofs
def factor_Rows.k : K :=
  (.seq (.keep [1, 2] (.ops false [⟨(some 2), none, .boxP (.t 0)⟩,
     ⟨(some 4), none, .mov (.c .nil)⟩,
     ⟨(some 5), none, .mov (.c (.int .i64 0))⟩]))
  (.seq (.seq (.keep [1, 2, 7] (.ops false [⟨(some 14), none, .load 17 true (.t 2)⟩,
       ⟨(some 15), none, .callG n_config_Check [(.t 14)]⟩,
       ⟨(some 13), none, .mov (.t 15)⟩,
       ⟨(some 16), none, .ext (.t 13) 0⟩,
       ⟨(some 17), none, .ext (.t 13) 1⟩,
       ⟨(some 6), none, .mov (.t 16)⟩,
       ⟨(some 7), none, .mov (.t 17)⟩]))
    (.seq (.keep [1, 2, 7, 19] (.ops false [⟨(some 18), none, .mov (.t 7)⟩,
        ⟨(some 19), none, .bin .neq (.t 18) (.c (.int .i64 0))⟩]))
     (.cond (.t 19) (.seq (.keep [4, 5] (.ops false [⟨(some 20), none, .mov (.t 7)⟩,
          ⟨(some 4), none, .mov (.c .nil)⟩,
          ⟨(some 5), none, .mov (.t 20)⟩]))
       .ret)
      .skip)))
   (.seq (.seq (.keep [1, 2, 28] (.ops false [⟨(some 21), none, .mov (.t 1)⟩,
        ⟨(some 22), none, .len false (.t 21)⟩,
        ⟨(some 23), none, .bin .lss (.t 22) (.c (.int .i64 1))⟩,
        ⟨(some 24), none, .mov (.t 23)⟩,
        ⟨(some 25), (some (24, false)), .mov (.t 1)⟩,
        ⟨(some 26), (some (24, false)), .len false (.t 25)⟩,
        ⟨(some 27), (some (24, false)), .bin .gtr (.t 26) (.c (.int .i64 5))⟩,
        ⟨(some 28), none, .pick (.t 24) (.c (.bool true)) (.t 27)⟩]))
     (.cond (.t 28) (.seq (.keep [4, 5] (.ops false [⟨(some 4), none, .mov (.c .nil)⟩,
          ⟨(some 5), none, .mov (.c (.int .i64 160))⟩]))
       .ret)
      .skip))
    (.seq (.keep [1, 8] (.ops false [⟨(some 29), none, .mov (.t 1)⟩,
        ⟨(some 30), none, .len false (.t 29)⟩,
        ⟨(some 31), none, .bin .mul (.c (.int .i64 2)) (.t 30)⟩,
        ⟨(some 32), none, .bin .add (.t 31) (.c (.int .i64 1))⟩,
        ⟨(some 33), none, .load 17 true (.t 2)⟩,
        ⟨(some 34), none, .build [(.int .i64 0), (.int .i64 0), (.int .i64 0), (.int .i64 0), (.int .i64 0), (.int .i64 0), (.int .i64 0), (.int .i64 0), (.int .i64 0), (.int .i64 0), (.int .i64 0), (.int .i64 0), (.int .i64 0), (.int .i64 0), (.int .i64 0), (.int .i64 0), (.int .i64 0), (.int .i64 0), .nil] [(0, 1, (.t 32)), (1, 17, (.t 33))]⟩,
        ⟨(some 35), none, .eff (.boxO 19) [(.t 34)]⟩,
        ⟨(some 8), none, .mov (.t 35)⟩]))
     (.seq (.seq (.keep [8, 36, 37, 38] (.ops false [⟨(some 36), none, .mov (.t 1)⟩,
          ⟨(some 37), none, .len false (.t 36)⟩,
          ⟨(some 38), none, .mov (.c (.int .i64 0))⟩]))
       (.block 0 (.loop (.seq (.keep [8, 36, 37, 38, 39] (.ops false [⟨(some 39), none, .bin .lss (.t 38) (.t 37)⟩]))
          (.seq (.cond (.t 39) .skip
            (.exit 0))
           (.seq (.block 1 (.seq (.keep [8, 9, 10, 36, 37, 38] (.ops false [⟨(some 40), none, .mov (.t 38)⟩,
                 ⟨(some 41), none, .idxA 9 (.t 36) (.t 38)⟩,
                 ⟨(some 42), none, .load 9 true (.t 41)⟩,
                 ⟨(some 10), none, .alloc 9 (.agg [(.bool false), (.bool false), (.bool false), (.int .i64 0), (.int .i64 0), (.int .i64 0), (.int .i64 0), (.int .i64 0), (.int .i64 0)])⟩,
                 ⟨(some 9), none, .mov (.t 40)⟩,
                 ⟨none, none, .store 9 (.t 10) (.t 42)⟩]))
              (.seq (.seq (.keep [8, 9, 10, 36, 37, 38, 53, 54, 55] (.ops false [⟨(some 43), none, .fldA 3 1 false (.t 10)⟩,
                   ⟨(some 44), none, .load 1 false (.t 43)⟩,
                   ⟨(some 45), none, .fldA 4 1 false (.t 10)⟩,
                   ⟨(some 46), none, .load 1 false (.t 45)⟩,
                   ⟨(some 47), none, .fldA 5 1 false (.t 10)⟩,
                   ⟨(some 48), none, .load 1 false (.t 47)⟩,
                   ⟨(some 49), none, .fldA 6 1 false (.t 10)⟩,
                   ⟨(some 50), none, .load 1 false (.t 49)⟩,
                   ⟨(some 51), none, .fldA 7 1 false (.t 10)⟩,
                   ⟨(some 52), none, .load 1 false (.t 51)⟩,
                   ⟨(some 53), none, .new (.bsl 1) [(.t 44), (.t 46), (.t 48), (.t 50), (.t 52)]⟩,
                   ⟨(some 54), none, .len false (.t 53)⟩,
                   ⟨(some 55), none, .mov (.c (.int .i64 0))⟩]))
                (.block 2 (.loop (.seq (.keep [8, 9, 10, 36, 37, 38, 53, 54, 55, 56] (.ops false [⟨(some 56), none, .bin .lss (.t 55) (.t 54)⟩]))
                   (.seq (.cond (.t 56) .skip
                     (.exit 2))
                    (.seq (.block 3 (.seq (.keep [8, 9, 10, 12, 36, 37, 38, 53, 54, 55] (.ops false [⟨(some 57), none, .idxA 1 (.t 53) (.t 55)⟩,
                          ⟨(some 58), none, .load 1 false (.t 57)⟩,
                          ⟨(some 12), none, .mov (.t 58)⟩]))
                       (.seq (.keep [8, 9, 10, 36, 37, 38, 53, 54, 55, 60] (.ops false [⟨(some 59), none, .mov (.t 12)⟩,
                           ⟨(some 60), none, .callG n_factor_out [(.t 59), (.c (.int .i64 (-100000))), (.c (.int .i64 100000))]⟩]))
                        (.cond (.t 60) (.seq (.keep [4, 5] (.ops false [⟨(some 4), none, .mov (.c .nil)⟩,
                             ⟨(some 5), none, .mov (.c (.int .i64 160))⟩]))
                          .ret)
                         .skip))))
                     (.keep [8, 9, 10, 36, 37, 38, 53, 54, 55] (.ops false [⟨(some 61), none, .bin .add (.t 55) (.c (.int .i64 1))⟩,
                        ⟨(some 55), none, .mov (.t 61)⟩]))))))))
               (.seq (.seq (.keep [8, 9, 10, 36, 37, 38, 64] (.ops false [⟨(some 62), none, .fldA 8 1 false (.t 10)⟩,
                    ⟨(some 63), none, .load 1 false (.t 62)⟩,
                    ⟨(some 64), none, .bin .gtr (.t 63) (.c (.int .i64 1000))⟩]))
                 (.cond (.t 64) (.seq (.keep [4, 5] (.ops false [⟨(some 4), none, .mov (.c .nil)⟩,
                      ⟨(some 5), none, .mov (.c (.int .i64 160))⟩]))
                   .ret)
                  .skip))
                (.keep [8, 36, 37, 38] (.ops false [⟨(some 65), none, .mov (.t 8)⟩,
                   ⟨(some 66), none, .mov (.t 9)⟩,
                   ⟨(some 67), none, .load 9 true (.t 10)⟩,
                   ⟨(some 68), none, .callG n_factor_maker_key [(.t 65), (.t 66), (.t 67)]⟩]))))))
            (.keep [8, 36, 37, 38] (.ops false [⟨(some 69), none, .bin .add (.t 38) (.c (.int .i64 1))⟩,
               ⟨(some 38), none, .mov (.t 69)⟩]))))))))
      (.seq (.keep [8] (.ops false [⟨(some 70), none, .mov (.t 8)⟩,
          ⟨(some 71), none, .mov (.t 8)⟩,
          ⟨(some 72), none, .nilchk (.t 71)⟩,
          ⟨(some 73), none, .fldA 0 1 false (.t 72)⟩,
          ⟨(some 74), none, .load 1 false (.t 73)⟩,
          ⟨(some 75), none, .bin .sub (.t 74) (.c (.int .i64 1))⟩,
          ⟨(some 76), none, .new (.bsl 1) [(.t 75), (.c (.int .i64 1))]⟩,
          ⟨(some 77), none, .callG n_factor_maker_row [(.t 70), (.c (.int .i64 3)), (.c (.int .i64 0)), (.t 76)]⟩]))
       (.seq (.keep [4, 5] (.ops false [⟨(some 78), none, .mov (.t 8)⟩,
           ⟨(some 79), none, .nilchk (.t 78)⟩,
           ⟨(some 80), none, .fldA 18 1 false (.t 79)⟩,
           ⟨(some 81), none, .load 1 false (.t 80)⟩,
           ⟨(some 4), none, .mov (.t 81)⟩,
           ⟨(some 5), none, .mov (.c (.int .i64 0))⟩]))
        .ret)))))))
def factor_Rows.res : List RX := [(4, none), (5, none)]
theorem factor_Rows.m : mK pg Try.f28.ntmps factor_Rows.k (Try.f28.body.getD .skip) = true := by kernel_rfl
theorem factor_Rows.mr : mRes pg Try.f28.results.toList factor_Rows.res = true := by kernel_rfl
theorem factor_Rows.of {args : List V} {r : V} (hn : args.length = 2) (hW : W pg factor_Rows.k (done factor_Rows.res r) (start args)) : Ret pg n_factor_Rows args r :=
  Ret_of (fn := Try.f28) Try.func28 rfl (by kernel_rfl) factor_Rows.m factor_Rows.mr (by rw [hn]; exact of_decide_eq_true (by kernel_rfl)) hW
def factor_Residual.k : K :=
  (.seq (.keep [1, 2] (.ops false [⟨(some 2), none, .boxP (.t 0)⟩,
     ⟨(some 4), none, .mov (.c (.int .i64 0))⟩]))
  (.seq (.keep [1, 2, 5] (.ops false [⟨(some 8), none, .fldA 1 1 false (.t 2)⟩,
      ⟨(some 9), none, .load 1 false (.t 8)⟩,
      ⟨(some 10), none, .un .neg (.t 9)⟩,
      ⟨(some 5), none, .mov (.t 10)⟩]))
   (.seq (.seq (.keep [1, 5, 12, 13, 14] (.ops false [⟨(some 11), none, .fldA 0 1 false (.t 2)⟩,
        ⟨(some 12), none, .load 1 false (.t 11)⟩,
        ⟨(some 13), none, .len false (.t 12)⟩,
        ⟨(some 14), none, .mov (.c (.int .i64 0))⟩]))
     (.block 0 (.loop (.seq (.keep [1, 5, 12, 13, 14, 15] (.ops false [⟨(some 15), none, .bin .lss (.t 14) (.t 13)⟩]))
        (.seq (.cond (.t 15) .skip
          (.exit 0))
         (.seq (.block 1 (.seq (.keep [1, 5, 6, 7, 12, 13, 14] (.ops false [⟨(some 16), none, .mov (.t 14)⟩,
               ⟨(some 17), none, .idxA 1 (.t 12) (.t 14)⟩,
               ⟨(some 18), none, .load 1 false (.t 17)⟩,
               ⟨(some 6), none, .mov (.t 16)⟩,
               ⟨(some 7), none, .mov (.t 18)⟩]))
            (.keep [1, 5, 12, 13, 14] (.ops false [⟨(some 19), none, .mov (.t 5)⟩,
               ⟨(some 20), none, .mov (.t 7)⟩,
               ⟨(some 21), none, .mov (.t 1)⟩,
               ⟨(some 22), none, .mov (.t 6)⟩,
               ⟨(some 23), none, .idxA 1 (.t 21) (.t 22)⟩,
               ⟨(some 24), none, .load 1 false (.t 23)⟩,
               ⟨(some 25), none, .bin .mul (.t 20) (.t 24)⟩,
               ⟨(some 26), none, .bin .add (.t 19) (.t 25)⟩,
               ⟨(some 5), none, .mov (.t 26)⟩]))))
          (.keep [1, 5, 12, 13, 14] (.ops false [⟨(some 27), none, .bin .add (.t 14) (.c (.int .i64 1))⟩,
             ⟨(some 14), none, .mov (.t 27)⟩]))))))))
    (.seq (.keep [4] (.ops false [⟨(some 28), none, .mov (.t 5)⟩,
        ⟨(some 29), none, .mm false (.t 28) [(.c (.int .i64 1000000000))]⟩,
        ⟨(some 30), none, .mm true (.c (.int .i64 (-1000000000))) [(.t 29)]⟩,
        ⟨(some 4), none, .mov (.t 30)⟩]))
     .ret))))
def factor_Residual.res : List RX := [(4, none)]
theorem factor_Residual.m : mK pg Try.f30.ntmps factor_Residual.k (Try.f30.body.getD .skip) = true := by kernel_rfl
theorem factor_Residual.mr : mRes pg Try.f30.results.toList factor_Residual.res = true := by kernel_rfl
theorem factor_Residual.of {args : List V} {r : V} (hn : args.length = 2) (hW : W pg factor_Residual.k (done factor_Residual.res r) (start args)) : Ret pg n_factor_Residual args r :=
  Ret_of (fn := Try.f30) Try.func30 rfl (by kernel_rfl) factor_Residual.m factor_Residual.mr (by rw [hn]; exact of_decide_eq_true (by kernel_rfl)) hW
def factor_Cost.k : K :=
  (.seq (.keep [1, 2] (.ops false [⟨(some 2), none, .boxP (.t 0)⟩,
     ⟨(some 4), none, .mov (.c (.int .i64 0))⟩]))
  (.seq (.keep [4] (.ops true [⟨(some 5), none, .fldA 3 1 false (.t 2)⟩,
      ⟨(some 6), none, .load 1 false (.t 5)⟩,
      ⟨(some 7), none, .load 4 true (.t 2)⟩,
      ⟨(some 8), none, .mov (.t 1)⟩,
      ⟨(some 9), none, .call n_factor_Residual [(.t 7), (.t 8)]⟩,
      ⟨(some 10), none, .fldA 2 1 false (.t 2)⟩,
      ⟨(some 11), none, .load 1 false (.t 10)⟩,
      ⟨(some 12), none, .call n_huber_Rho [(.t 9), (.t 11)]⟩,
      ⟨(some 13), none, .bin .mul (.t 6) (.t 12)⟩,
      ⟨(some 4), none, .mov (.t 13)⟩]))
   .ret))
def factor_Cost.res : List RX := [(4, none)]
theorem factor_Cost.m : mK pg Try.f31.ntmps factor_Cost.k (Try.f31.body.getD .skip) = true := by kernel_rfl
theorem factor_Cost.mr : mRes pg Try.f31.results.toList factor_Cost.res = true := by kernel_rfl
theorem factor_Cost.of {args : List V} {r : V} (hn : args.length = 2) (hW : W pg factor_Cost.k (done factor_Cost.res r) (start args)) : Ret pg n_factor_Cost args r :=
  Ret_of (fn := Try.f31) Try.func31 rfl (by kernel_rfl) factor_Cost.m factor_Cost.mr (by rw [hn]; exact of_decide_eq_true (by kernel_rfl)) hW
def factor_out.k : K :=
  (.seq (.keep [0, 1, 2] (.ops false [⟨(some 6), none, .mov (.c (.bool false))⟩]))
  (.seq (.keep [6] (.ops false [⟨(some 7), none, .mov (.t 0)⟩,
      ⟨(some 8), none, .mov (.t 1)⟩,
      ⟨(some 9), none, .bin .lss (.t 7) (.t 8)⟩,
      ⟨(some 10), none, .mov (.t 9)⟩,
      ⟨(some 11), (some (10, false)), .mov (.t 0)⟩,
      ⟨(some 12), (some (10, false)), .mov (.t 2)⟩,
      ⟨(some 13), (some (10, false)), .bin .gtr (.t 11) (.t 12)⟩,
      ⟨(some 14), none, .pick (.t 10) (.c (.bool true)) (.t 13)⟩,
      ⟨(some 6), none, .mov (.t 14)⟩]))
   .ret))
def factor_out.res : List RX := [(6, none)]
theorem factor_out.m : mK pg Try.f56.ntmps factor_out.k (Try.f56.body.getD .skip) = true := by kernel_rfl
theorem factor_out.mr : mRes pg Try.f56.results.toList factor_out.res = true := by kernel_rfl
theorem factor_out.of {args : List V} {r : V} (hn : args.length = 3) (hW : W pg factor_out.k (done factor_out.res r) (start args)) : Ret pg n_factor_out args r :=
  Ret_of (fn := Try.f56) Try.func56 rfl (by kernel_rfl) factor_out.m factor_out.mr (by rw [hn]; exact of_decide_eq_true (by kernel_rfl)) hW
def factor_maker_key.k : K :=
  (.seq (.keep [0, 1, 5] (.ops false [⟨(some 5), none, .boxP (.t 2)⟩]))
  (.seq (.keep [0, 1, 5, 6] (.ops false [⟨(some 8), none, .mov (.t 1)⟩,
      ⟨(some 9), none, .bin .mul (.c (.int .i64 2)) (.t 8)⟩,
      ⟨(some 6), none, .mov (.t 9)⟩]))
   (.seq (.keep [0, 1, 5, 6, 7] (.ops false [⟨(some 10), none, .mov (.t 0)⟩,
       ⟨(some 11), none, .nilchk (.t 10)⟩,
       ⟨(some 12), none, .fldA 0 1 false (.t 11)⟩,
       ⟨(some 13), none, .load 1 false (.t 12)⟩,
       ⟨(some 14), none, .bin .sub (.t 13) (.c (.int .i64 1))⟩,
       ⟨(some 7), none, .mov (.t 14)⟩]))
    (.seq (.seq (.keep [0, 5, 6, 7, 21] (.ops false [⟨(some 15), none, .mov (.t 1)⟩,
         ⟨(some 16), none, .bin .gtr (.t 15) (.c (.int .i64 0))⟩,
         ⟨(some 17), none, .mov (.t 16)⟩,
         ⟨(some 18), (some (17, true)), .fldA 8 1 false (.t 5)⟩,
         ⟨(some 19), (some (17, true)), .load 1 false (.t 18)⟩,
         ⟨(some 20), (some (17, true)), .bin .geq (.t 19) (.c (.int .i64 1))⟩,
         ⟨(some 21), none, .pick (.t 17) (.t 20) (.c (.bool false))⟩]))
      (.cond (.t 21) (.seq (.keep [0, 5, 6, 7] (.ops true [⟨(some 22), none, .mov (.t 0)⟩,
           ⟨(some 23), none, .mov (.t 0)⟩,
           ⟨(some 24), none, .nilchk (.t 23)⟩,
           ⟨(some 25), none, .fldA 1 17 true (.t 24)⟩,
           ⟨(some 26), none, .fldA 0 1 false (.t 25)⟩,
           ⟨(some 27), none, .load 1 false (.t 26)⟩,
           ⟨(some 28), none, .fldA 7 1 false (.t 5)⟩,
           ⟨(some 29), none, .load 1 false (.t 28)⟩,
           ⟨(some 30), none, .bin .mul (.t 27) (.t 29)⟩,
           ⟨(some 31), none, .mov (.t 6)⟩,
           ⟨(some 32), none, .mov (.t 0)⟩,
           ⟨(some 33), none, .nilchk (.t 32)⟩,
           ⟨(some 34), none, .fldA 1 17 true (.t 33)⟩,
           ⟨(some 35), none, .fldA 0 1 false (.t 34)⟩,
           ⟨(some 36), none, .load 1 false (.t 35)⟩,
           ⟨(some 37), none, .mov (.t 6)⟩,
           ⟨(some 38), none, .bin .sub (.t 37) (.c (.int .i64 2))⟩,
           ⟨(some 39), none, .mov (.t 0)⟩,
           ⟨(some 40), none, .nilchk (.t 39)⟩,
           ⟨(some 41), none, .fldA 1 17 true (.t 40)⟩,
           ⟨(some 42), none, .fldA 0 1 false (.t 41)⟩,
           ⟨(some 43), none, .load 1 false (.t 42)⟩,
           ⟨(some 44), none, .un .neg (.t 43)⟩,
           ⟨(some 45), none, .mov (.t 6)⟩,
           ⟨(some 46), none, .bin .sub (.t 45) (.c (.int .i64 1))⟩,
           ⟨(some 47), none, .fldA 8 1 false (.t 5)⟩,
           ⟨(some 48), none, .load 1 false (.t 47)⟩,
           ⟨(some 49), none, .un .neg (.t 48)⟩,
           ⟨(some 50), none, .new (.bsl 1) [(.t 31), (.t 36), (.t 38), (.t 44), (.t 46), (.t 49)]⟩,
           ⟨(some 51), none, .callG n_factor_maker_row [(.t 22), (.c (.int .i64 0)), (.t 30), (.t 50)]⟩]))
        (.keep [0, 5, 6, 7] (.ops false [⟨(some 52), none, .mov (.t 0)⟩,
           ⟨(some 53), none, .fldA 6 1 false (.t 5)⟩,
           ⟨(some 54), none, .load 1 false (.t 53)⟩,
           ⟨(some 55), none, .mov (.t 6)⟩,
           ⟨(some 56), none, .bin .add (.t 55) (.c (.int .i64 1))⟩,
           ⟨(some 57), none, .mov (.t 6)⟩,
           ⟨(some 58), none, .bin .sub (.t 57) (.c (.int .i64 1))⟩,
           ⟨(some 59), none, .new (.bsl 1) [(.t 56), (.c (.int .i64 1)), (.t 58), (.c (.int .i64 (-1)))]⟩,
           ⟨(some 60), none, .callG n_factor_maker_row [(.t 52), (.c (.int .i64 0)), (.t 54), (.t 59)]⟩])))
       .skip))
     (.seq (.seq (.keep [0, 5, 6, 7, 62] (.ops false [⟨(some 61), none, .fldA 0 1 false (.t 5)⟩,
          ⟨(some 62), none, .load 1 false (.t 61)⟩]))
       (.cond (.t 62) (.keep [0, 5, 6, 7] (.ops false [⟨(some 63), none, .mov (.t 0)⟩,
           ⟨(some 64), none, .fldA 3 1 false (.t 5)⟩,
           ⟨(some 65), none, .load 1 false (.t 64)⟩,
           ⟨(some 66), none, .mov (.t 6)⟩,
           ⟨(some 67), none, .new (.bsl 1) [(.t 66), (.c (.int .i64 1))]⟩,
           ⟨(some 68), none, .callG n_factor_maker_row [(.t 63), (.c (.int .i64 1)), (.t 65), (.t 67)]⟩]))
        .skip))
      (.seq (.seq (.keep [0, 5, 6, 7, 70] (.ops false [⟨(some 69), none, .fldA 1 1 false (.t 5)⟩,
           ⟨(some 70), none, .load 1 false (.t 69)⟩]))
        (.cond (.t 70) (.keep [0, 5, 6, 7] (.ops false [⟨(some 71), none, .mov (.t 0)⟩,
            ⟨(some 72), none, .fldA 4 1 false (.t 5)⟩,
            ⟨(some 73), none, .load 1 false (.t 72)⟩,
            ⟨(some 74), none, .mov (.t 6)⟩,
            ⟨(some 75), none, .bin .add (.t 74) (.c (.int .i64 1))⟩,
            ⟨(some 76), none, .new (.bsl 1) [(.t 75), (.c (.int .i64 1))]⟩,
            ⟨(some 77), none, .callG n_factor_maker_row [(.t 71), (.c (.int .i64 1)), (.t 73), (.t 76)]⟩]))
         .skip))
       (.seq (.keep [0, 5, 6, 7, 79] (.ops false [⟨(some 78), none, .fldA 2 1 false (.t 5)⟩,
           ⟨(some 79), none, .load 1 false (.t 78)⟩]))
        (.cond (.t 79) (.keep [] (.ops false [⟨(some 80), none, .mov (.t 0)⟩,
            ⟨(some 81), none, .fldA 5 1 false (.t 5)⟩,
            ⟨(some 82), none, .load 1 false (.t 81)⟩,
            ⟨(some 83), none, .mov (.t 6)⟩,
            ⟨(some 84), none, .mov (.t 7)⟩,
            ⟨(some 85), none, .new (.bsl 1) [(.t 83), (.c (.int .i64 1)), (.t 84), (.c (.int .i64 1))]⟩,
            ⟨(some 86), none, .callG n_factor_maker_row [(.t 80), (.c (.int .i64 2)), (.t 82), (.t 85)]⟩]))
         .skip))))))))
def factor_maker_key.res : List RX := []
theorem factor_maker_key.m : mK pg Try.f57.ntmps factor_maker_key.k (Try.f57.body.getD .skip) = true := by kernel_rfl
theorem factor_maker_key.mr : mRes pg Try.f57.results.toList factor_maker_key.res = true := by kernel_rfl
theorem factor_maker_key.ofG {args : List V} {H : Hp} {n : Nat} {Q : V → Hp → Nat → Prop} (hn : args.length = 3) (hW : W pg factor_maker_key.k (doneG factor_maker_key.res (fun r H' n' => n ≤ n' ∧ Q r H' n')) (startG args H n)) : ∃ r H' n', Q r H' n' ∧ RetG pg n_factor_maker_key args H n r H' n' :=
  RetG_of (fn := Try.f57) Try.func57 rfl (by kernel_rfl) factor_maker_key.m factor_maker_key.mr (by rw [hn]; exact of_decide_eq_true (by kernel_rfl)) hW
def factor_maker_row.k : K :=
  (.seq (.keep [0, 3, 8] (.ops true [⟨(some 10), none, .mov (.t 0)⟩,
     ⟨(some 11), none, .nilchk (.t 10)⟩,
     ⟨(some 12), none, .fldA 0 1 false (.t 11)⟩,
     ⟨(some 13), none, .load 1 false (.t 12)⟩,
     ⟨(some 14), none, .new (.mks 1 8 (.int .i64 0)) [(.t 13), (.t 13)]⟩,
     ⟨(some 15), none, .mov (.t 2)⟩,
     ⟨(some 16), none, .mov (.t 0)⟩,
     ⟨(some 17), none, .mov (.t 1)⟩,
     ⟨(some 18), none, .nilchk (.t 16)⟩,
     ⟨(some 19), none, .fldA 1 17 true (.t 18)⟩,
     ⟨(some 20), none, .fldA 6 4 true (.t 19)⟩,
     ⟨(some 21), none, .arrA 4 1 false (.t 20) (.t 17)⟩,
     ⟨(some 22), none, .load 1 false (.t 21)⟩,
     ⟨(some 23), none, .mov (.t 0)⟩,
     ⟨(some 24), none, .mov (.t 1)⟩,
     ⟨(some 25), none, .nilchk (.t 23)⟩,
     ⟨(some 26), none, .fldA 1 17 true (.t 25)⟩,
     ⟨(some 27), none, .fldA 10 4 true (.t 26)⟩,
     ⟨(some 28), none, .arrA 4 1 false (.t 27) (.t 24)⟩,
     ⟨(some 29), none, .load 1 false (.t 28)⟩,
     ⟨(some 30), none, .build [(.sl []), (.int .i64 0), (.int .i64 0), (.int .i64 0)] [(0, 1, (.t 14)), (1, 1, (.t 15)), (2, 1, (.t 22)), (3, 1, (.t 29))]⟩,
     ⟨(some 8), none, .alloc 4 (.agg [(.sl []), (.int .i64 0), (.int .i64 0), (.int .i64 0)])⟩,
     ⟨none, none, .store 4 (.t 8) (.t 30)⟩]))
  (.seq (.seq (.keep [0, 3, 8, 9] (.ops false [⟨(some 9), none, .mov (.c (.int .i64 0))⟩]))
    (.block 0 (.loop (.seq (.seq (.keep [0, 3, 8, 9, 34] (.ops false [⟨(some 31), none, .mov (.t 9)⟩,
           ⟨(some 32), none, .mov (.t 3)⟩,
           ⟨(some 33), none, .len false (.t 32)⟩,
           ⟨(some 34), none, .bin .lss (.t 31) (.t 33)⟩]))
        (.cond (.t 34) .skip
         (.exit 0)))
       (.seq (.block 1 (.keep [0, 3, 8, 9] (.ops true [⟨(some 37), none, .fldA 0 1 false (.t 8)⟩,
            ⟨(some 38), none, .load 1 false (.t 37)⟩,
            ⟨(some 39), none, .mov (.t 3)⟩,
            ⟨(some 40), none, .mov (.t 9)⟩,
            ⟨(some 41), none, .idxA 1 (.t 39) (.t 40)⟩,
            ⟨(some 42), none, .load 1 false (.t 41)⟩,
            ⟨(some 43), none, .mov (.t 3)⟩,
            ⟨(some 44), none, .mov (.t 9)⟩,
            ⟨(some 45), none, .bin .add (.t 44) (.c (.int .i64 1))⟩,
            ⟨(some 46), none, .idxA 1 (.t 43) (.t 45)⟩,
            ⟨(some 47), none, .load 1 false (.t 46)⟩,
            ⟨(some 48), none, .idxA 1 (.t 38) (.t 42)⟩,
            ⟨none, none, .store 1 (.t 48) (.t 47)⟩])))
        (.keep [0, 3, 8, 9] (.ops false [⟨(some 35), none, .mov (.t 9)⟩,
           ⟨(some 36), none, .bin .add (.t 35) (.c (.int .i64 2))⟩,
           ⟨(some 9), none, .mov (.t 36)⟩])))))))
   (.gh (.keep [] (.ops true [⟨(some 49), none, .mov (.t 0)⟩,
      ⟨(some 50), none, .mov (.t 0)⟩,
      ⟨(some 51), none, .nilchk (.t 50)⟩,
      ⟨(some 52), none, .fldA 18 1 false (.t 51)⟩,
      ⟨(some 53), none, .load 1 false (.t 52)⟩,
      ⟨(some 54), none, .load 4 true (.t 8)⟩,
      ⟨(some 55), none, .new (.bsl 4) [(.t 54)]⟩,
      ⟨(some 56), none, .eff (.app 4 48) [(.t 53), (.t 55)]⟩,
      ⟨(some 57), none, .nilchk (.t 49)⟩,
      ⟨(some 58), none, .fldA 18 1 false (.t 57)⟩,
      ⟨none, none, .store 1 (.t 58) (.t 56)⟩])))))
def factor_maker_row.res : List RX := []
theorem factor_maker_row.m : mK pg Try.f58.ntmps factor_maker_row.k (Try.f58.body.getD .skip) = true := by kernel_rfl
theorem factor_maker_row.mr : mRes pg Try.f58.results.toList factor_maker_row.res = true := by kernel_rfl
theorem factor_maker_row.ofG {args : List V} {H : Hp} {n : Nat} {Q : V → Hp → Nat → Prop} (hn : args.length = 4) (hW : W pg factor_maker_row.k (doneG factor_maker_row.res (fun r H' n' => n ≤ n' ∧ Q r H' n')) (startG args H n)) : ∃ r H' n', Q r H' n' ∧ RetG pg n_factor_maker_row args H n r H' n' :=
  RetG_of (fn := Try.f58) Try.func58 rfl (by kernel_rfl) factor_maker_row.m factor_maker_row.mr (by rw [hn]; exact of_decide_eq_true (by kernel_rfl)) hW
end Go.Gim

import Derived.Test.YtoehjhcfilonoaaGN
/- Functions' code as data (written by wip/tools/gen.py), and the step to their contracts. -/
set_option maxRecDepth 100000
namespace Go.Gim
open Go.Proofs
def gimballaw16_FactorRows.k : K :=
  (.seq (.keep [1, 2] (.ops false [⟨(some 2), none, .boxP (.t 0)⟩,
     ⟨(some 4), none, .mov (.c (.bool false))⟩]))
  (.seq (.keep [1, 2, 5] (.ops false [⟨(some 13), none, .callG n_gimballaw16_awake []⟩,
      ⟨(some 5), none, .mov (.t 13)⟩]))
   (.seq (.keep [1, 2, 5, 6, 7] (.ops false [⟨(some 15), none, .load 17 true (.t 2)⟩,
       ⟨(some 16), none, .mov (.t 1)⟩,
       ⟨(some 17), none, .callG n_factor_Rows [(.t 15), (.t 16)]⟩,
       ⟨(some 14), none, .mov (.t 17)⟩,
       ⟨(some 18), none, .ext (.t 14) 0⟩,
       ⟨(some 19), none, .ext (.t 14) 1⟩,
       ⟨(some 6), none, .mov (.t 18)⟩,
       ⟨(some 7), none, .mov (.t 19)⟩]))
    (.seq (.keep [1, 5, 6, 7, 8, 9] (.ops false [⟨(some 21), none, .load 17 true (.t 2)⟩,
        ⟨(some 22), none, .mov (.t 1)⟩,
        ⟨(some 23), none, .callG n_gimbalref16_Rows [(.t 21), (.t 22)]⟩,
        ⟨(some 20), none, .mov (.t 23)⟩,
        ⟨(some 24), none, .ext (.t 20) 0⟩,
        ⟨(some 25), none, .ext (.t 20) 1⟩,
        ⟨(some 8), none, .mov (.t 24)⟩,
        ⟨(some 9), none, .mov (.t 25)⟩]))
     (.seq (.seq (.keep [1, 5, 6, 8, 35] (.ops false [⟨(some 26), none, .mov (.t 7)⟩,
          ⟨(some 27), none, .mov (.t 9)⟩,
          ⟨(some 28), none, .bin .neq (.t 26) (.t 27)⟩,
          ⟨(some 29), none, .mov (.t 28)⟩,
          ⟨(some 30), (some (29, false)), .mov (.t 6)⟩,
          ⟨(some 31), (some (29, false)), .len false (.t 30)⟩,
          ⟨(some 32), (some (29, false)), .mov (.t 8)⟩,
          ⟨(some 33), (some (29, false)), .len false (.t 32)⟩,
          ⟨(some 34), (some (29, false)), .bin .neq (.t 31) (.t 33)⟩,
          ⟨(some 35), none, .pick (.t 29) (.c (.bool true)) (.t 34)⟩]))
       (.cond (.t 35) (.seq (.keep [4] (.ops false [⟨(some 4), none, .mov (.c (.bool false))⟩]))
         .ret)
        .skip))
      (.seq (.seq (.keep [1, 5, 6, 8, 10] (.ops false [⟨(some 10), none, .mov (.c (.int .i64 0))⟩]))
        (.block 0 (.loop (.seq (.seq (.keep [1, 5, 6, 8, 10, 39] (.ops false [⟨(some 36), none, .mov (.t 10)⟩,
               ⟨(some 37), none, .mov (.t 6)⟩,
               ⟨(some 38), none, .len false (.t 37)⟩,
               ⟨(some 39), none, .bin .lss (.t 36) (.t 38)⟩]))
            (.cond (.t 39) .skip
             (.exit 0)))
           (.seq (.block 1 (.seq (.keep [1, 5, 6, 8, 10, 11] (.ops true [⟨(some 42), none, .mov (.t 6)⟩,
                 ⟨(some 43), none, .mov (.t 10)⟩,
                 ⟨(some 44), none, .idxA 4 (.t 42) (.t 43)⟩,
                 ⟨(some 45), none, .load 4 true (.t 44)⟩,
                 ⟨(some 46), none, .mov (.t 8)⟩,
                 ⟨(some 47), none, .mov (.t 10)⟩,
                 ⟨(some 48), none, .idxA 4 (.t 46) (.t 47)⟩,
                 ⟨(some 49), none, .load 4 true (.t 48)⟩,
                 ⟨(some 50), none, .call n_gimbalref16_Same [(.t 45), (.t 49)]⟩,
                 ⟨(some 11), none, .mov (.t 50)⟩]))
              (.seq (.keep [1, 5, 6, 8, 10, 11, 12] (.ops false [⟨(some 51), none, .mov (.t 6)⟩,
                  ⟨(some 52), none, .mov (.t 10)⟩,
                  ⟨(some 53), none, .idxA 4 (.t 51) (.t 52)⟩,
                  ⟨(some 54), none, .load 4 true (.t 53)⟩,
                  ⟨(some 55), none, .mov (.t 1)⟩,
                  ⟨(some 56), none, .len false (.t 55)⟩,
                  ⟨(some 57), none, .bin .mul (.c (.int .i64 2)) (.t 56)⟩,
                  ⟨(some 58), none, .bin .add (.t 57) (.c (.int .i64 1))⟩,
                  ⟨(some 59), none, .callG n_factor_Right [(.t 54), (.t 58)]⟩,
                  ⟨(some 12), none, .mov (.t 59)⟩]))
               (.seq (.keep [1, 5, 6, 8, 10, 65] (.ops false [⟨(some 60), none, .mov (.t 11)⟩,
                   ⟨(some 61), none, .un .not (.t 60)⟩,
                   ⟨(some 62), none, .mov (.t 61)⟩,
                   ⟨(some 63), (some (62, false)), .mov (.t 12)⟩,
                   ⟨(some 64), (some (62, false)), .un .not (.t 63)⟩,
                   ⟨(some 65), none, .pick (.t 62) (.c (.bool true)) (.t 64)⟩]))
                (.cond (.t 65) (.seq (.keep [4] (.ops false [⟨(some 4), none, .mov (.c (.bool false))⟩]))
                  .ret)
                 .skip)))))
            (.keep [1, 5, 6, 8, 10] (.ops false [⟨(some 40), none, .mov (.t 10)⟩,
               ⟨(some 41), none, .bin .add (.t 40) (.c (.int .i64 1))⟩,
               ⟨(some 10), none, .mov (.t 41)⟩])))))))
       (.seq (.keep [4] (.ops false [⟨(some 66), none, .mov (.t 5)⟩,
           ⟨(some 4), none, .mov (.t 66)⟩]))
        .ret)))))))
def gimballaw16_FactorRows.res : List RX := [(4, none)]
theorem gimballaw16_FactorRows.m : mK pg Try.f11.ntmps gimballaw16_FactorRows.k (Try.f11.body.getD .skip) = true := by kernel_rfl
theorem gimballaw16_FactorRows.mr : mRes pg Try.f11.results.toList gimballaw16_FactorRows.res = true := by kernel_rfl
theorem gimballaw16_FactorRows.of {args : List V} {r : V} (hn : args.length = 2) (hW : W pg gimballaw16_FactorRows.k (done gimballaw16_FactorRows.res r) (start args)) : Ret pg n_gimballaw16_FactorRows args r :=
  Ret_of (fn := Try.f11) Try.func11 rfl (by kernel_rfl) gimballaw16_FactorRows.m gimballaw16_FactorRows.mr (by rw [hn]; exact of_decide_eq_true (by kernel_rfl)) hW
def gimballaw16_awake.k : K :=
  (.seq (.keep [] (.ops false [⟨(some 0), none, .mov (.c (.bool false))⟩]))
  (.seq (.keep [1] (.ops false [⟨(some 14), none, .callG n_config_Default []⟩,
      ⟨(some 1), none, .alloc 17 (.agg [(.int .i64 0), (.int .i64 0), (.int .i64 0), (.int .i64 0), (.int .i64 0), (.int .i64 0), (.int .i64 0), (.int .i64 0), (.int .i64 0), (.int .i64 0), (.int .i64 0), (.int .i64 0), (.int .i64 0), (.int .i64 0), (.int .i64 0), (.int .i64 0), (.int .i64 0)])⟩,
      ⟨none, none, .store 17 (.t 1) (.t 14)⟩]))
   (.seq (.keep [1, 2, 3] (.ops false [⟨(some 16), none, .load 17 true (.t 1)⟩,
       ⟨(some 17), none, .build [(.bool false), (.bool false), (.bool false), (.int .i64 0), (.int .i64 0), (.int .i64 0), (.int .i64 0), (.int .i64 0), (.int .i64 0)] [(0, 1, (.c (.bool true))), (3, 1, (.c (.int .i64 7)))]⟩,
       ⟨(some 18), none, .new (.bsl 9) [(.t 17)]⟩,
       ⟨(some 19), none, .callG n_factor_Rows [(.t 16), (.t 18)]⟩,
       ⟨(some 15), none, .mov (.t 19)⟩,
       ⟨(some 20), none, .ext (.t 15) 0⟩,
       ⟨(some 21), none, .ext (.t 15) 1⟩,
       ⟨(some 2), none, .mov (.t 20)⟩,
       ⟨(some 3), none, .mov (.t 21)⟩]))
    (.seq (.keep [1, 2, 3, 4, 5] (.ops false [⟨(some 23), none, .load 17 true (.t 1)⟩,
        ⟨(some 24), none, .build [(.bool false), (.bool false), (.bool false), (.int .i64 0), (.int .i64 0), (.int .i64 0), (.int .i64 0), (.int .i64 0), (.int .i64 0)] []⟩,
        ⟨(some 25), none, .build [(.bool false), (.bool false), (.bool false), (.int .i64 0), (.int .i64 0), (.int .i64 0), (.int .i64 0), (.int .i64 0), (.int .i64 0)] [(8, 1, (.c (.int .i64 50))), (7, 1, (.c (.int .i64 3))), (6, 1, (.c (.int .i64 (-2)))), (2, 1, (.c (.bool true))), (5, 1, (.c (.int .i64 9)))]⟩,
        ⟨(some 26), none, .new (.bsl 9) [(.t 24), (.t 25)]⟩,
        ⟨(some 27), none, .callG n_factor_Rows [(.t 23), (.t 26)]⟩,
        ⟨(some 22), none, .mov (.t 27)⟩,
        ⟨(some 28), none, .ext (.t 22) 0⟩,
        ⟨(some 29), none, .ext (.t 22) 1⟩,
        ⟨(some 4), none, .mov (.t 28)⟩,
        ⟨(some 5), none, .mov (.t 29)⟩]))
     (.seq (.keep [2, 3, 4, 5, 7] (.ops false [⟨(some 31), none, .load 17 true (.t 1)⟩,
         ⟨(some 32), none, .callG n_factor_Rows [(.t 31), (.c .nil)]⟩,
         ⟨(some 30), none, .mov (.t 32)⟩,
         ⟨(some 33), none, .ext (.t 30) 0⟩,
         ⟨(some 34), none, .ext (.t 30) 1⟩,
         ⟨(some 6), none, .mov (.t 33)⟩,
         ⟨(some 7), none, .mov (.t 34)⟩]))
      (.seq (.seq (.keep [2, 4, 7, 50] (.ops false [⟨(some 35), none, .mov (.t 3)⟩,
           ⟨(some 36), none, .bin .neq (.t 35) (.c (.int .i64 0))⟩,
           ⟨(some 37), none, .mov (.t 36)⟩,
           ⟨(some 38), (some (37, false)), .mov (.t 5)⟩,
           ⟨(some 39), (some (37, false)), .bin .neq (.t 38) (.c (.int .i64 0))⟩,
           ⟨(some 40), none, .pick (.t 37) (.c (.bool true)) (.t 39)⟩,
           ⟨(some 41), none, .mov (.t 40)⟩,
           ⟨(some 42), (some (41, false)), .mov (.t 2)⟩,
           ⟨(some 43), (some (41, false)), .len false (.t 42)⟩,
           ⟨(some 44), (some (41, false)), .bin .neq (.t 43) (.c (.int .i64 2))⟩,
           ⟨(some 45), none, .pick (.t 41) (.c (.bool true)) (.t 44)⟩,
           ⟨(some 46), none, .mov (.t 45)⟩,
           ⟨(some 47), (some (46, false)), .mov (.t 4)⟩,
           ⟨(some 48), (some (46, false)), .len false (.t 47)⟩,
           ⟨(some 49), (some (46, false)), .bin .neq (.t 48) (.c (.int .i64 4))⟩,
           ⟨(some 50), none, .pick (.t 46) (.c (.bool true)) (.t 49)⟩]))
        (.cond (.t 50) (.seq (.keep [0] (.ops false [⟨(some 0), none, .mov (.c (.bool false))⟩]))
          .ret)
         .skip))
       (.seq (.keep [2, 4, 7, 8] (.ops false [⟨(some 51), none, .mov (.t 2)⟩,
           ⟨(some 52), none, .idxA 4 (.t 51) (.c (.int .i64 0))⟩,
           ⟨(some 53), none, .load 4 true (.t 52)⟩,
           ⟨(some 54), none, .new (.bsl 1) [(.c (.int .i64 1)), (.c (.int .i64 0)), (.c (.int .i64 0))]⟩,
           ⟨(some 55), none, .build [(.sl []), (.int .i64 0), (.int .i64 0), (.int .i64 0)] [(0, 1, (.t 54)), (1, 1, (.c (.int .i64 7))), (2, 1, (.c (.int .i64 1000))), (3, 1, (.c (.int .i64 1)))]⟩,
           ⟨(some 56), none, .callG n_gimbalref16_Same [(.t 53), (.t 55)]⟩,
           ⟨(some 8), none, .mov (.t 56)⟩]))
        (.seq (.keep [2, 4, 7, 8, 9] (.ops false [⟨(some 57), none, .mov (.t 2)⟩,
            ⟨(some 58), none, .idxA 4 (.t 57) (.c (.int .i64 1))⟩,
            ⟨(some 59), none, .load 4 true (.t 58)⟩,
            ⟨(some 60), none, .new (.bsl 1) [(.c (.int .i64 0)), (.c (.int .i64 0)), (.c (.int .i64 1))]⟩,
            ⟨(some 61), none, .build [(.sl []), (.int .i64 0), (.int .i64 0), (.int .i64 0)] [(0, 1, (.t 60)), (2, 1, (.c (.int .i64 100))), (3, 1, (.c (.int .i64 8)))]⟩,
            ⟨(some 62), none, .callG n_gimbalref16_Same [(.t 59), (.t 61)]⟩,
            ⟨(some 9), none, .mov (.t 62)⟩]))
         (.seq (.keep [2, 4, 7, 8, 9, 10] (.ops false [⟨(some 63), none, .mov (.t 4)⟩,
             ⟨(some 64), none, .idxA 4 (.t 63) (.c (.int .i64 0))⟩,
             ⟨(some 65), none, .load 4 true (.t 64)⟩,
             ⟨(some 66), none, .new (.bsl 1) [(.c (.int .i64 (-100))), (.c (.int .i64 (-50))), (.c (.int .i64 100)), (.c (.int .i64 0)), (.c (.int .i64 0))]⟩,
             ⟨(some 67), none, .build [(.sl []), (.int .i64 0), (.int .i64 0), (.int .i64 0)] [(0, 1, (.t 66)), (1, 1, (.c (.int .i64 300))), (2, 1, (.c (.int .i64 2000))), (3, 1, (.c (.int .i64 4)))]⟩,
             ⟨(some 68), none, .callG n_gimbalref16_Same [(.t 65), (.t 67)]⟩,
             ⟨(some 10), none, .mov (.t 68)⟩]))
          (.seq (.keep [2, 4, 7, 8, 9, 10, 11] (.ops false [⟨(some 69), none, .mov (.t 4)⟩,
              ⟨(some 70), none, .idxA 4 (.t 69) (.c (.int .i64 1))⟩,
              ⟨(some 71), none, .load 4 true (.t 70)⟩,
              ⟨(some 72), none, .new (.bsl 1) [(.c (.int .i64 0)), (.c (.int .i64 (-1))), (.c (.int .i64 0)), (.c (.int .i64 1)), (.c (.int .i64 0))]⟩,
              ⟨(some 73), none, .build [(.sl []), (.int .i64 0), (.int .i64 0), (.int .i64 0)] [(0, 1, (.t 72)), (1, 1, (.c (.int .i64 (-2)))), (2, 1, (.c (.int .i64 2000))), (3, 1, (.c (.int .i64 4)))]⟩,
              ⟨(some 74), none, .callG n_gimbalref16_Same [(.t 71), (.t 73)]⟩,
              ⟨(some 11), none, .mov (.t 74)⟩]))
           (.seq (.keep [2, 7, 8, 9, 10, 11, 12] (.ops false [⟨(some 75), none, .mov (.t 4)⟩,
               ⟨(some 76), none, .idxA 4 (.t 75) (.c (.int .i64 2))⟩,
               ⟨(some 77), none, .load 4 true (.t 76)⟩,
               ⟨(some 78), none, .new (.bsl 1) [(.c (.int .i64 0)), (.c (.int .i64 0)), (.c (.int .i64 1)), (.c (.int .i64 0)), (.c (.int .i64 1))]⟩,
               ⟨(some 79), none, .build [(.sl []), (.int .i64 0), (.int .i64 0), (.int .i64 0)] [(0, 1, (.t 78)), (1, 1, (.c (.int .i64 9))), (2, 1, (.c (.int .i64 500))), (3, 1, (.c (.int .i64 2)))]⟩,
               ⟨(some 80), none, .callG n_gimbalref16_Same [(.t 77), (.t 79)]⟩,
               ⟨(some 12), none, .mov (.t 80)⟩]))
            (.seq (.keep [7, 8, 9, 10, 11, 12, 13] (.ops false [⟨(some 81), none, .mov (.t 2)⟩,
                ⟨(some 82), none, .idxA 4 (.t 81) (.c (.int .i64 0))⟩,
                ⟨(some 83), none, .load 4 true (.t 82)⟩,
                ⟨(some 84), none, .new (.bsl 1) [(.c (.int .i64 9)), (.c (.int .i64 0)), (.c (.int .i64 0))]⟩,
                ⟨(some 85), none, .callG n_factor_Cost [(.t 83), (.t 84)]⟩,
                ⟨(some 13), none, .mov (.t 85)⟩]))
             (.seq (.keep [0] (.ops false [⟨(some 86), none, .mov (.t 8)⟩,
                 ⟨(some 87), none, .mov (.t 86)⟩,
                 ⟨(some 88), (some (87, true)), .mov (.t 9)⟩,
                 ⟨(some 89), none, .pick (.t 87) (.t 88) (.c (.bool false))⟩,
                 ⟨(some 90), none, .mov (.t 89)⟩,
                 ⟨(some 91), (some (90, true)), .mov (.t 10)⟩,
                 ⟨(some 92), none, .pick (.t 90) (.t 91) (.c (.bool false))⟩,
                 ⟨(some 93), none, .mov (.t 92)⟩,
                 ⟨(some 94), (some (93, true)), .mov (.t 11)⟩,
                 ⟨(some 95), none, .pick (.t 93) (.t 94) (.c (.bool false))⟩,
                 ⟨(some 96), none, .mov (.t 95)⟩,
                 ⟨(some 97), (some (96, true)), .mov (.t 12)⟩,
                 ⟨(some 98), none, .pick (.t 96) (.t 97) (.c (.bool false))⟩,
                 ⟨(some 99), none, .mov (.t 98)⟩,
                 ⟨(some 100), (some (99, true)), .mov (.t 7)⟩,
                 ⟨(some 101), (some (99, true)), .bin .eql (.t 100) (.c (.int .i64 160))⟩,
                 ⟨(some 102), none, .pick (.t 99) (.t 101) (.c (.bool false))⟩,
                 ⟨(some 103), none, .mov (.t 102)⟩,
                 ⟨(some 104), (some (103, true)), .mov (.t 13)⟩,
                 ⟨(some 105), (some (103, true)), .bin .eql (.t 104) (.c (.int .i64 4))⟩,
                 ⟨(some 106), none, .pick (.t 103) (.t 105) (.c (.bool false))⟩,
                 ⟨(some 0), none, .mov (.t 106)⟩]))
              .ret)))))))))))))
def gimballaw16_awake.res : List RX := [(0, none)]
theorem gimballaw16_awake.m : mK pg Try.f26.ntmps gimballaw16_awake.k (Try.f26.body.getD .skip) = true := by kernel_rfl
theorem gimballaw16_awake.mr : mRes pg Try.f26.results.toList gimballaw16_awake.res = true := by kernel_rfl
theorem gimballaw16_awake.of {args : List V} {r : V} (hn : args.length = 0) (hW : W pg gimballaw16_awake.k (done gimballaw16_awake.res r) (start args)) : Ret pg n_gimballaw16_awake args r :=
  Ret_of (fn := Try.f26) Try.func26 rfl (by kernel_rfl) gimballaw16_awake.m gimballaw16_awake.mr (by rw [hn]; exact of_decide_eq_true (by kernel_rfl)) hW
end Go.Gim

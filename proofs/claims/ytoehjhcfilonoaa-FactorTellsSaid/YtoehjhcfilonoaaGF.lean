import Derived.Test.YtoehjhcfilonoaaGN
/- Functions' code as data (written by wip/tools/gen.py), and the step to their contracts. -/
set_option maxRecDepth 100000
namespace Go.Gim
open Go.Proofs
def gimballaw16_FactorTells.k : K :=
  (.seq (.keep [1, 2] (.ops false [⟨(some 2), none, .boxP (.t 0)⟩,
     ⟨(some 4), none, .mov (.c (.bool false))⟩]))
  (.seq (.keep [1, 2, 5] (.ops false [⟨(some 13), none, .callG n_gimballaw16_awake []⟩,
      ⟨(some 5), none, .mov (.t 13)⟩]))
   (.seq (.keep [1, 2, 5, 6] (.ops false [⟨(some 14), none, .load 4 true (.t 2)⟩,
       ⟨(some 15), none, .mov (.t 1)⟩,
       ⟨(some 16), none, .len false (.t 15)⟩,
       ⟨(some 17), none, .callG n_gimbalref16_Right [(.t 14), (.t 16)]⟩,
       ⟨(some 6), none, .mov (.t 17)⟩]))
    (.seq (.keep [1, 2, 5, 6, 7] (.ops false [⟨(some 18), none, .mov (.t 1)⟩,
        ⟨(some 19), none, .callG n_gimbalref16_State [(.t 18)]⟩,
        ⟨(some 7), none, .mov (.t 19)⟩]))
     (.seq (.seq (.keep [1, 2, 5, 25] (.ops false [⟨(some 20), none, .mov (.t 6)⟩,
          ⟨(some 21), none, .un .not (.t 20)⟩,
          ⟨(some 22), none, .mov (.t 21)⟩,
          ⟨(some 23), (some (22, false)), .mov (.t 7)⟩,
          ⟨(some 24), (some (22, false)), .un .not (.t 23)⟩,
          ⟨(some 25), none, .pick (.t 22) (.c (.bool true)) (.t 24)⟩]))
       (.cond (.t 25) (.seq (.keep [4] (.ops false [⟨(some 26), none, .mov (.t 5)⟩,
            ⟨(some 4), none, .mov (.t 26)⟩]))
         .ret)
        .skip))
      (.seq (.keep [1, 2, 5, 8] (.ops false [⟨(some 27), none, .load 4 true (.t 2)⟩,
          ⟨(some 28), none, .mov (.t 1)⟩,
          ⟨(some 29), none, .callG n_factor_Residual [(.t 27), (.t 28)]⟩,
          ⟨(some 8), none, .mov (.t 29)⟩]))
       (.seq (.keep [1, 2, 5, 8, 9] (.ops false [⟨(some 30), none, .load 4 true (.t 2)⟩,
           ⟨(some 31), none, .mov (.t 1)⟩,
           ⟨(some 32), none, .callG n_factor_Cost [(.t 30), (.t 31)]⟩,
           ⟨(some 33), none, .callG n_long_Of [(.t 32)]⟩,
           ⟨(some 34), none, .callG n_long_Int_String [(.t 33)]⟩,
           ⟨(some 9), none, .mov (.t 34)⟩]))
        (.seq (.keep [1, 2, 5, 8, 9, 10] (.ops false [⟨(some 35), none, .load 4 true (.t 2)⟩,
            ⟨(some 36), none, .mov (.t 1)⟩,
            ⟨(some 37), none, .callG n_factor_Steep [(.t 35), (.t 36)]⟩,
            ⟨(some 10), none, .mov (.t 37)⟩]))
         (.seq (.keep [1, 2, 5, 8, 9, 10, 11] (.ops false [⟨(some 38), none, .load 4 true (.t 2)⟩,
             ⟨(some 39), none, .mov (.t 1)⟩,
             ⟨(some 40), none, .callG n_gimbalref16_Steep [(.t 38), (.t 39)]⟩,
             ⟨(some 11), none, .mov (.t 40)⟩]))
          (.seq (.seq (.keep [5, 10, 11, 60] (.ops false [⟨(some 41), none, .mov (.t 8)⟩,
               ⟨(some 42), none, .load 4 true (.t 2)⟩,
               ⟨(some 43), none, .mov (.t 1)⟩,
               ⟨(some 44), none, .callG n_gimbalref16_Residual [(.t 42), (.t 43)]⟩,
               ⟨(some 45), none, .bin .neq (.t 41) (.t 44)⟩,
               ⟨(some 46), none, .mov (.t 45)⟩,
               ⟨(some 47), (some (46, false)), .mov (.t 9)⟩,
               ⟨(some 48), (some (46, false)), .load 4 true (.t 2)⟩,
               ⟨(some 49), (some (46, false)), .mov (.t 1)⟩,
               ⟨(some 50), (some (46, false)), .callG n_gimbalref16_Cost [(.t 48), (.t 49)]⟩,
               ⟨(some 51), (some (46, false)), .callG n_gimbalref01_Int_String [(.t 50)]⟩,
               ⟨(some 52), (some (46, false)), .bin .neq (.t 47) (.t 51)⟩,
               ⟨(some 53), none, .pick (.t 46) (.c (.bool true)) (.t 52)⟩,
               ⟨(some 54), none, .mov (.t 53)⟩,
               ⟨(some 55), (some (54, false)), .mov (.t 10)⟩,
               ⟨(some 56), (some (54, false)), .len false (.t 55)⟩,
               ⟨(some 57), (some (54, false)), .mov (.t 11)⟩,
               ⟨(some 58), (some (54, false)), .len false (.t 57)⟩,
               ⟨(some 59), (some (54, false)), .bin .neq (.t 56) (.t 58)⟩,
               ⟨(some 60), none, .pick (.t 54) (.c (.bool true)) (.t 59)⟩]))
            (.cond (.t 60) (.seq (.keep [4] (.ops false [⟨(some 4), none, .mov (.c (.bool false))⟩]))
              .ret)
             .skip))
           (.seq (.seq (.keep [5, 10, 11, 12] (.ops false [⟨(some 12), none, .mov (.c (.int .i64 0))⟩]))
             (.block 0 (.loop (.seq (.seq (.keep [5, 10, 11, 12, 64] (.ops false [⟨(some 61), none, .mov (.t 12)⟩,
                    ⟨(some 62), none, .mov (.t 10)⟩,
                    ⟨(some 63), none, .len false (.t 62)⟩,
                    ⟨(some 64), none, .bin .lss (.t 61) (.t 63)⟩]))
                 (.cond (.t 64) .skip
                  (.exit 0)))
                (.seq (.block 1 (.seq (.keep [5, 10, 11, 12, 75] (.ops true [⟨(some 67), none, .mov (.t 10)⟩,
                      ⟨(some 68), none, .mov (.t 12)⟩,
                      ⟨(some 69), none, .idxA 1 (.t 67) (.t 68)⟩,
                      ⟨(some 70), none, .load 1 false (.t 69)⟩,
                      ⟨(some 71), none, .mov (.t 11)⟩,
                      ⟨(some 72), none, .mov (.t 12)⟩,
                      ⟨(some 73), none, .idxA 1 (.t 71) (.t 72)⟩,
                      ⟨(some 74), none, .load 1 false (.t 73)⟩,
                      ⟨(some 75), none, .bin .neq (.t 70) (.t 74)⟩]))
                   (.cond (.t 75) (.seq (.keep [4] (.ops false [⟨(some 4), none, .mov (.c (.bool false))⟩]))
                     .ret)
                    .skip)))
                 (.keep [5, 10, 11, 12] (.ops false [⟨(some 65), none, .mov (.t 12)⟩,
                    ⟨(some 66), none, .bin .add (.t 65) (.c (.int .i64 1))⟩,
                    ⟨(some 12), none, .mov (.t 66)⟩])))))))
            (.seq (.keep [4] (.ops false [⟨(some 76), none, .mov (.t 5)⟩,
                ⟨(some 4), none, .mov (.t 76)⟩]))
             .ret))))))))))))
def gimballaw16_FactorTells.res : List RX := [(4, none)]
theorem gimballaw16_FactorTells.m : mK pg Try.f13.ntmps gimballaw16_FactorTells.k (Try.f13.body.getD .skip) = true := by kernel_rfl
theorem gimballaw16_FactorTells.mr : mRes pg Try.f13.results.toList gimballaw16_FactorTells.res = true := by kernel_rfl
theorem gimballaw16_FactorTells.of {args : List V} {r : V} (hn : args.length = 2) (hW : W pg gimballaw16_FactorTells.k (done gimballaw16_FactorTells.res r) (start args)) : Ret pg n_gimballaw16_FactorTells args r :=
  Ret_of (fn := Try.f13) Try.func13 rfl (by kernel_rfl) gimballaw16_FactorTells.m gimballaw16_FactorTells.mr (by rw [hn]; exact of_decide_eq_true (by kernel_rfl)) hW
def gimballaw16_awake.k : K :=
  (.seq (.keep [] (.ops false [⟨(some 0), none, .mov (.c (.bool false))⟩]))
  (.seq (.keep [1] (.ops false [⟨(some 14), none, .callG n_config_Default []⟩,
      ⟨(some 1), none, .alloc 17 (.agg [(.int .i64 0), (.int .i64 0), (.int .i64 0), (.int .i64 0), (.int .i64 0), (.int .i64 0), (.int .i64 0), (.int .i64 0), (.int .i64 0), (.int .i64 0), (.int .i64 0), (.int .i64 0), (.int .i64 0), (.int .i64 0), (.int .i64 0), (.int .i64 0), (.int .i64 0)])⟩,
      ⟨none, none, .store 17 (.t 1) (.t 14)⟩]))
   (.seq (.keep [1, 2, 3] (.ops false [⟨(some 16), none, .load 17 true (.t 1)⟩,
       ⟨(some 17), none, .build [(.bool false), (.bool false), (.bool false), (.int .i64 0), (.int .i64 0), (.int .i64 0), (.int .i64 0), (.int .i64 0), (.int .i64 0)] [(0, 1, (.c (.bool true))), (3, 1, (.c (.int .i64 7)))]⟩,
       ⟨(some 18), none, .new (.bsl 9) [(.t 17)]⟩,
       ⟨(some 19), none, .callG n_factor_Rows [(.t 16), (.t 18)]⟩,
       ⟨(some 15), none, .mov (.t 19)⟩,
       ⟨(some 20), none, .ext (.t 15) 0⟩,
       ⟨(some 21), none, .ext (.t 15) 1⟩,
       ⟨(some 2), none, .mov (.t 20)⟩,
       ⟨(some 3), none, .mov (.t 21)⟩]))
    (.seq (.keep [1, 2, 3, 4, 5] (.ops false [⟨(some 23), none, .load 17 true (.t 1)⟩,
        ⟨(some 24), none, .build [(.bool false), (.bool false), (.bool false), (.int .i64 0), (.int .i64 0), (.int .i64 0), (.int .i64 0), (.int .i64 0), (.int .i64 0)] []⟩,
        ⟨(some 25), none, .build [(.bool false), (.bool false), (.bool false), (.int .i64 0), (.int .i64 0), (.int .i64 0), (.int .i64 0), (.int .i64 0), (.int .i64 0)] [(8, 1, (.c (.int .i64 50))), (7, 1, (.c (.int .i64 3))), (6, 1, (.c (.int .i64 (-2)))), (2, 1, (.c (.bool true))), (5, 1, (.c (.int .i64 9)))]⟩,
        ⟨(some 26), none, .new (.bsl 9) [(.t 24), (.t 25)]⟩,
        ⟨(some 27), none, .callG n_factor_Rows [(.t 23), (.t 26)]⟩,
        ⟨(some 22), none, .mov (.t 27)⟩,
        ⟨(some 28), none, .ext (.t 22) 0⟩,
        ⟨(some 29), none, .ext (.t 22) 1⟩,
        ⟨(some 4), none, .mov (.t 28)⟩,
        ⟨(some 5), none, .mov (.t 29)⟩]))
     (.seq (.keep [2, 3, 4, 5, 7] (.ops false [⟨(some 31), none, .load 17 true (.t 1)⟩,
         ⟨(some 32), none, .callG n_factor_Rows [(.t 31), (.c .nil)]⟩,
         ⟨(some 30), none, .mov (.t 32)⟩,
         ⟨(some 33), none, .ext (.t 30) 0⟩,
         ⟨(some 34), none, .ext (.t 30) 1⟩,
         ⟨(some 6), none, .mov (.t 33)⟩,
         ⟨(some 7), none, .mov (.t 34)⟩]))
      (.seq (.seq (.keep [2, 4, 7, 50] (.ops false [⟨(some 35), none, .mov (.t 3)⟩,
           ⟨(some 36), none, .bin .neq (.t 35) (.c (.int .i64 0))⟩,
           ⟨(some 37), none, .mov (.t 36)⟩,
           ⟨(some 38), (some (37, false)), .mov (.t 5)⟩,
           ⟨(some 39), (some (37, false)), .bin .neq (.t 38) (.c (.int .i64 0))⟩,
           ⟨(some 40), none, .pick (.t 37) (.c (.bool true)) (.t 39)⟩,
           ⟨(some 41), none, .mov (.t 40)⟩,
           ⟨(some 42), (some (41, false)), .mov (.t 2)⟩,
           ⟨(some 43), (some (41, false)), .len false (.t 42)⟩,
           ⟨(some 44), (some (41, false)), .bin .neq (.t 43) (.c (.int .i64 2))⟩,
           ⟨(some 45), none, .pick (.t 41) (.c (.bool true)) (.t 44)⟩,
           ⟨(some 46), none, .mov (.t 45)⟩,
           ⟨(some 47), (some (46, false)), .mov (.t 4)⟩,
           ⟨(some 48), (some (46, false)), .len false (.t 47)⟩,
           ⟨(some 49), (some (46, false)), .bin .neq (.t 48) (.c (.int .i64 4))⟩,
           ⟨(some 50), none, .pick (.t 46) (.c (.bool true)) (.t 49)⟩]))
        (.cond (.t 50) (.seq (.keep [0] (.ops false [⟨(some 0), none, .mov (.c (.bool false))⟩]))
          .ret)
         .skip))
       (.seq (.keep [2, 4, 7, 8] (.ops false [⟨(some 51), none, .mov (.t 2)⟩,
           ⟨(some 52), none, .idxA 4 (.t 51) (.c (.int .i64 0))⟩,
           ⟨(some 53), none, .load 4 true (.t 52)⟩,
           ⟨(some 54), none, .new (.bsl 1) [(.c (.int .i64 1)), (.c (.int .i64 0)), (.c (.int .i64 0))]⟩,
           ⟨(some 55), none, .build [(.sl []), (.int .i64 0), (.int .i64 0), (.int .i64 0)] [(0, 1, (.t 54)), (1, 1, (.c (.int .i64 7))), (2, 1, (.c (.int .i64 1000))), (3, 1, (.c (.int .i64 1)))]⟩,
           ⟨(some 56), none, .callG n_gimbalref16_Same [(.t 53), (.t 55)]⟩,
           ⟨(some 8), none, .mov (.t 56)⟩]))
        (.seq (.keep [2, 4, 7, 8, 9] (.ops false [⟨(some 57), none, .mov (.t 2)⟩,
            ⟨(some 58), none, .idxA 4 (.t 57) (.c (.int .i64 1))⟩,
            ⟨(some 59), none, .load 4 true (.t 58)⟩,
            ⟨(some 60), none, .new (.bsl 1) [(.c (.int .i64 0)), (.c (.int .i64 0)), (.c (.int .i64 1))]⟩,
            ⟨(some 61), none, .build [(.sl []), (.int .i64 0), (.int .i64 0), (.int .i64 0)] [(0, 1, (.t 60)), (2, 1, (.c (.int .i64 100))), (3, 1, (.c (.int .i64 8)))]⟩,
            ⟨(some 62), none, .callG n_gimbalref16_Same [(.t 59), (.t 61)]⟩,
            ⟨(some 9), none, .mov (.t 62)⟩]))
         (.seq (.keep [2, 4, 7, 8, 9, 10] (.ops false [⟨(some 63), none, .mov (.t 4)⟩,
             ⟨(some 64), none, .idxA 4 (.t 63) (.c (.int .i64 0))⟩,
             ⟨(some 65), none, .load 4 true (.t 64)⟩,
             ⟨(some 66), none, .new (.bsl 1) [(.c (.int .i64 (-100))), (.c (.int .i64 (-50))), (.c (.int .i64 100)), (.c (.int .i64 0)), (.c (.int .i64 0))]⟩,
             ⟨(some 67), none, .build [(.sl []), (.int .i64 0), (.int .i64 0), (.int .i64 0)] [(0, 1, (.t 66)), (1, 1, (.c (.int .i64 300))), (2, 1, (.c (.int .i64 2000))), (3, 1, (.c (.int .i64 4)))]⟩,
             ⟨(some 68), none, .callG n_gimbalref16_Same [(.t 65), (.t 67)]⟩,
             ⟨(some 10), none, .mov (.t 68)⟩]))
          (.seq (.keep [2, 4, 7, 8, 9, 10, 11] (.ops false [⟨(some 69), none, .mov (.t 4)⟩,
              ⟨(some 70), none, .idxA 4 (.t 69) (.c (.int .i64 1))⟩,
              ⟨(some 71), none, .load 4 true (.t 70)⟩,
              ⟨(some 72), none, .new (.bsl 1) [(.c (.int .i64 0)), (.c (.int .i64 (-1))), (.c (.int .i64 0)), (.c (.int .i64 1)), (.c (.int .i64 0))]⟩,
              ⟨(some 73), none, .build [(.sl []), (.int .i64 0), (.int .i64 0), (.int .i64 0)] [(0, 1, (.t 72)), (1, 1, (.c (.int .i64 (-2)))), (2, 1, (.c (.int .i64 2000))), (3, 1, (.c (.int .i64 4)))]⟩,
              ⟨(some 74), none, .callG n_gimbalref16_Same [(.t 71), (.t 73)]⟩,
              ⟨(some 11), none, .mov (.t 74)⟩]))
           (.seq (.keep [2, 7, 8, 9, 10, 11, 12] (.ops false [⟨(some 75), none, .mov (.t 4)⟩,
               ⟨(some 76), none, .idxA 4 (.t 75) (.c (.int .i64 2))⟩,
               ⟨(some 77), none, .load 4 true (.t 76)⟩,
               ⟨(some 78), none, .new (.bsl 1) [(.c (.int .i64 0)), (.c (.int .i64 0)), (.c (.int .i64 1)), (.c (.int .i64 0)), (.c (.int .i64 1))]⟩,
               ⟨(some 79), none, .build [(.sl []), (.int .i64 0), (.int .i64 0), (.int .i64 0)] [(0, 1, (.t 78)), (1, 1, (.c (.int .i64 9))), (2, 1, (.c (.int .i64 500))), (3, 1, (.c (.int .i64 2)))]⟩,
               ⟨(some 80), none, .callG n_gimbalref16_Same [(.t 77), (.t 79)]⟩,
               ⟨(some 12), none, .mov (.t 80)⟩]))
            (.seq (.keep [7, 8, 9, 10, 11, 12, 13] (.ops false [⟨(some 81), none, .mov (.t 2)⟩,
                ⟨(some 82), none, .idxA 4 (.t 81) (.c (.int .i64 0))⟩,
                ⟨(some 83), none, .load 4 true (.t 82)⟩,
                ⟨(some 84), none, .new (.bsl 1) [(.c (.int .i64 9)), (.c (.int .i64 0)), (.c (.int .i64 0))]⟩,
                ⟨(some 85), none, .callG n_factor_Cost [(.t 83), (.t 84)]⟩,
                ⟨(some 13), none, .mov (.t 85)⟩]))
             (.seq (.keep [0] (.ops false [⟨(some 86), none, .mov (.t 8)⟩,
                 ⟨(some 87), none, .mov (.t 86)⟩,
                 ⟨(some 88), (some (87, true)), .mov (.t 9)⟩,
                 ⟨(some 89), none, .pick (.t 87) (.t 88) (.c (.bool false))⟩,
                 ⟨(some 90), none, .mov (.t 89)⟩,
                 ⟨(some 91), (some (90, true)), .mov (.t 10)⟩,
                 ⟨(some 92), none, .pick (.t 90) (.t 91) (.c (.bool false))⟩,
                 ⟨(some 93), none, .mov (.t 92)⟩,
                 ⟨(some 94), (some (93, true)), .mov (.t 11)⟩,
                 ⟨(some 95), none, .pick (.t 93) (.t 94) (.c (.bool false))⟩,
                 ⟨(some 96), none, .mov (.t 95)⟩,
                 ⟨(some 97), (some (96, true)), .mov (.t 12)⟩,
                 ⟨(some 98), none, .pick (.t 96) (.t 97) (.c (.bool false))⟩,
                 ⟨(some 99), none, .mov (.t 98)⟩,
                 ⟨(some 100), (some (99, true)), .mov (.t 7)⟩,
                 ⟨(some 101), (some (99, true)), .bin .eql (.t 100) (.c (.int .i64 160))⟩,
                 ⟨(some 102), none, .pick (.t 99) (.t 101) (.c (.bool false))⟩,
                 ⟨(some 103), none, .mov (.t 102)⟩,
                 ⟨(some 104), (some (103, true)), .mov (.t 13)⟩,
                 ⟨(some 105), (some (103, true)), .bin .eql (.t 104) (.c (.int .i64 4))⟩,
                 ⟨(some 106), none, .pick (.t 103) (.t 105) (.c (.bool false))⟩,
                 ⟨(some 0), none, .mov (.t 106)⟩]))
              .ret)))))))))))))
def gimballaw16_awake.res : List RX := [(0, none)]
theorem gimballaw16_awake.m : mK pg Try.f26.ntmps gimballaw16_awake.k (Try.f26.body.getD .skip) = true := by kernel_rfl
theorem gimballaw16_awake.mr : mRes pg Try.f26.results.toList gimballaw16_awake.res = true := by kernel_rfl
theorem gimballaw16_awake.of {args : List V} {r : V} (hn : args.length = 0) (hW : W pg gimballaw16_awake.k (done gimballaw16_awake.res r) (start args)) : Ret pg n_gimballaw16_awake args r :=
  Ret_of (fn := Try.f26) Try.func26 rfl (by kernel_rfl) gimballaw16_awake.m gimballaw16_awake.mr (by rw [hn]; exact of_decide_eq_true (by kernel_rfl)) hW
end Go.Gim

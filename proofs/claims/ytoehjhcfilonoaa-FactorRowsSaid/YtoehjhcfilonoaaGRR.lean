import Derived.Test.YtoehjhcfilonoaaGN
/- Functions' code as data (written by wip/tools/gen.py), and the step to their contracts. -/
set_option maxRecDepth 100000
namespace Go.Gim
open Go.Proofs
def gimbalref16_Rows.k : K :=
  (.seq (.keep [1, 2] (.ops false [⟨(some 2), none, .boxP (.t 0)⟩,
     ⟨(some 4), none, .mov (.c .nil)⟩,
     ⟨(some 5), none, .mov (.c (.int .i64 0))⟩]))
  (.seq (.keep [1, 2, 6] (.ops false [⟨(some 11), none, .load 17 true (.t 2)⟩,
      ⟨(some 12), none, .callG n_gimbalref13_Check [(.t 11)]⟩,
      ⟨(some 6), none, .mov (.t 12)⟩]))
   (.seq (.seq (.keep [1, 2, 14] (.ops false [⟨(some 13), none, .mov (.t 6)⟩,
        ⟨(some 14), none, .bin .neq (.t 13) (.c (.str ⟨#[]⟩))⟩]))
     (.cond (.t 14) (.seq (.keep [4, 5] (.ops false [⟨(some 4), none, .mov (.c .nil)⟩,
          ⟨(some 5), none, .mov (.c (.int .i64 130))⟩]))
       .ret)
      .skip))
    (.seq (.seq (.keep [1, 2, 22] (.ops false [⟨(some 15), none, .mov (.t 1)⟩,
         ⟨(some 16), none, .len false (.t 15)⟩,
         ⟨(some 17), none, .bin .lss (.t 16) (.c (.int .i64 1))⟩,
         ⟨(some 18), none, .mov (.t 17)⟩,
         ⟨(some 19), (some (18, false)), .mov (.t 1)⟩,
         ⟨(some 20), (some (18, false)), .len false (.t 19)⟩,
         ⟨(some 21), (some (18, false)), .bin .gtr (.t 20) (.c (.int .i64 5))⟩,
         ⟨(some 22), none, .pick (.t 18) (.c (.bool true)) (.t 21)⟩]))
      (.cond (.t 22) (.seq (.keep [4, 5] (.ops false [⟨(some 4), none, .mov (.c .nil)⟩,
           ⟨(some 5), none, .mov (.c (.int .i64 160))⟩]))
        .ret)
       .skip))
     (.seq (.keep [1, 2, 7] (.ops false [⟨(some 23), none, .mov (.t 1)⟩,
         ⟨(some 24), none, .len false (.t 23)⟩,
         ⟨(some 25), none, .bin .mul (.c (.int .i64 2)) (.t 24)⟩,
         ⟨(some 26), none, .bin .add (.t 25) (.c (.int .i64 1))⟩,
         ⟨(some 7), none, .mov (.t 26)⟩]))
      (.seq (.keep [1, 2, 7, 8] (.ops false [⟨(some 8), none, .mov (.c .nil)⟩]))
       (.seq (.seq (.keep [1, 2, 7, 8, 9] (.ops false [⟨(some 9), none, .mov (.c (.int .i64 0))⟩]))
         (.block 0 (.loop (.seq (.seq (.keep [1, 2, 7, 8, 9, 30] (.ops false [⟨(some 27), none, .mov (.t 9)⟩,
                ⟨(some 28), none, .mov (.t 1)⟩,
                ⟨(some 29), none, .len false (.t 28)⟩,
                ⟨(some 30), none, .bin .lss (.t 27) (.t 29)⟩]))
             (.cond (.t 30) .skip
              (.exit 0)))
            (.seq (.block 1 (.seq (.keep [1, 2, 7, 8, 9, 10] (.ops false [⟨(some 33), none, .mov (.t 1)⟩,
                  ⟨(some 34), none, .mov (.t 9)⟩,
                  ⟨(some 35), none, .idxA 9 (.t 33) (.t 34)⟩,
                  ⟨(some 36), none, .load 9 true (.t 35)⟩,
                  ⟨(some 10), none, .alloc 9 (.agg [(.bool false), (.bool false), (.bool false), (.int .i64 0), (.int .i64 0), (.int .i64 0), (.int .i64 0), (.int .i64 0), (.int .i64 0)])⟩,
                  ⟨none, none, .store 9 (.t 10) (.t 36)⟩]))
               (.seq (.seq (.keep [1, 2, 7, 8, 9, 10, 64] (.ops false [⟨(some 37), none, .fldA 3 1 false (.t 10)⟩,
                    ⟨(some 38), none, .load 1 false (.t 37)⟩,
                    ⟨(some 39), none, .callG n_gimbalref16_out [(.t 38), (.c (.int .i64 (-100000))), (.c (.int .i64 100000))]⟩,
                    ⟨(some 40), none, .mov (.t 39)⟩,
                    ⟨(some 41), (some (40, false)), .fldA 4 1 false (.t 10)⟩,
                    ⟨(some 42), (some (40, false)), .load 1 false (.t 41)⟩,
                    ⟨(some 43), (some (40, false)), .callG n_gimbalref16_out [(.t 42), (.c (.int .i64 (-100000))), (.c (.int .i64 100000))]⟩,
                    ⟨(some 44), none, .pick (.t 40) (.c (.bool true)) (.t 43)⟩,
                    ⟨(some 45), none, .mov (.t 44)⟩,
                    ⟨(some 46), (some (45, false)), .fldA 5 1 false (.t 10)⟩,
                    ⟨(some 47), (some (45, false)), .load 1 false (.t 46)⟩,
                    ⟨(some 48), (some (45, false)), .callG n_gimbalref16_out [(.t 47), (.c (.int .i64 (-100000))), (.c (.int .i64 100000))]⟩,
                    ⟨(some 49), none, .pick (.t 45) (.c (.bool true)) (.t 48)⟩,
                    ⟨(some 50), none, .mov (.t 49)⟩,
                    ⟨(some 51), (some (50, false)), .fldA 6 1 false (.t 10)⟩,
                    ⟨(some 52), (some (50, false)), .load 1 false (.t 51)⟩,
                    ⟨(some 53), (some (50, false)), .callG n_gimbalref16_out [(.t 52), (.c (.int .i64 (-100000))), (.c (.int .i64 100000))]⟩,
                    ⟨(some 54), none, .pick (.t 50) (.c (.bool true)) (.t 53)⟩,
                    ⟨(some 55), none, .mov (.t 54)⟩,
                    ⟨(some 56), (some (55, false)), .fldA 7 1 false (.t 10)⟩,
                    ⟨(some 57), (some (55, false)), .load 1 false (.t 56)⟩,
                    ⟨(some 58), (some (55, false)), .callG n_gimbalref16_out [(.t 57), (.c (.int .i64 (-100000))), (.c (.int .i64 100000))]⟩,
                    ⟨(some 59), none, .pick (.t 55) (.c (.bool true)) (.t 58)⟩,
                    ⟨(some 60), none, .mov (.t 59)⟩,
                    ⟨(some 61), (some (60, false)), .fldA 8 1 false (.t 10)⟩,
                    ⟨(some 62), (some (60, false)), .load 1 false (.t 61)⟩,
                    ⟨(some 63), (some (60, false)), .bin .gtr (.t 62) (.c (.int .i64 1000))⟩,
                    ⟨(some 64), none, .pick (.t 60) (.c (.bool true)) (.t 63)⟩]))
                 (.cond (.t 64) (.seq (.keep [4, 5] (.ops false [⟨(some 4), none, .mov (.c .nil)⟩,
                      ⟨(some 5), none, .mov (.c (.int .i64 160))⟩]))
                   .ret)
                  .skip))
                (.seq (.seq (.keep [1, 2, 7, 8, 9, 10, 71] (.ops false [⟨(some 65), none, .mov (.t 9)⟩,
                     ⟨(some 66), none, .bin .gtr (.t 65) (.c (.int .i64 0))⟩,
                     ⟨(some 67), none, .mov (.t 66)⟩,
                     ⟨(some 68), (some (67, true)), .fldA 8 1 false (.t 10)⟩,
                     ⟨(some 69), (some (67, true)), .load 1 false (.t 68)⟩,
                     ⟨(some 70), (some (67, true)), .bin .gtr (.t 69) (.c (.int .i64 0))⟩,
                     ⟨(some 71), none, .pick (.t 67) (.t 70) (.c (.bool false))⟩]))
                  (.cond (.t 71) (.seq (.gh (.keep [1, 2, 7, 8, 9, 10] (.ops false [⟨(some 72), none, .mov (.t 8)⟩,
                       ⟨(some 73), none, .load 17 true (.t 2)⟩,
                       ⟨(some 74), none, .mov (.t 7)⟩,
                       ⟨(some 75), none, .fldA 0 1 false (.t 2)⟩,
                       ⟨(some 76), none, .load 1 false (.t 75)⟩,
                       ⟨(some 77), none, .fldA 7 1 false (.t 10)⟩,
                       ⟨(some 78), none, .load 1 false (.t 77)⟩,
                       ⟨(some 79), none, .bin .mul (.t 76) (.t 78)⟩,
                       ⟨(some 80), none, .mov (.t 9)⟩,
                       ⟨(some 81), none, .bin .mul (.c (.int .i64 2)) (.t 80)⟩,
                       ⟨(some 82), none, .mov (.t 9)⟩,
                       ⟨(some 83), none, .bin .mul (.c (.int .i64 2)) (.t 82)⟩,
                       ⟨(some 84), none, .bin .sub (.t 83) (.c (.int .i64 2))⟩,
                       ⟨(some 85), none, .mov (.t 9)⟩,
                       ⟨(some 86), none, .bin .mul (.c (.int .i64 2)) (.t 85)⟩,
                       ⟨(some 87), none, .bin .sub (.t 86) (.c (.int .i64 1))⟩,
                       ⟨(some 88), none, .build [(.int .i64 0), (.int .i64 0), (.int .i64 0)] [(0, 1, (.t 81)), (1, 1, (.t 84)), (2, 1, (.t 87))]⟩,
                       ⟨(some 89), none, .fldA 0 1 false (.t 2)⟩,
                       ⟨(some 90), none, .load 1 false (.t 89)⟩,
                       ⟨(some 91), none, .fldA 0 1 false (.t 2)⟩,
                       ⟨(some 92), none, .load 1 false (.t 91)⟩,
                       ⟨(some 93), none, .un .neg (.t 92)⟩,
                       ⟨(some 94), none, .fldA 8 1 false (.t 10)⟩,
                       ⟨(some 95), none, .load 1 false (.t 94)⟩,
                       ⟨(some 96), none, .un .neg (.t 95)⟩,
                       ⟨(some 97), none, .build [(.int .i64 0), (.int .i64 0), (.int .i64 0)] [(0, 1, (.t 90)), (1, 1, (.t 93)), (2, 1, (.t 96))]⟩,
                       ⟨(some 98), none, .callG n_gimbalref16_row [(.t 73), (.t 74), (.c (.int .i64 0)), (.t 79), (.t 88), (.t 97)]⟩,
                       ⟨(some 99), none, .new (.bsl 4) [(.t 98)]⟩,
                       ⟨(some 100), none, .eff (.app 4 48) [(.t 72), (.t 99)]⟩,
                       ⟨(some 8), none, .mov (.t 100)⟩])))
                    (.gh (.keep [1, 2, 7, 8, 9, 10] (.ops false [⟨(some 101), none, .mov (.t 8)⟩,
                       ⟨(some 102), none, .load 17 true (.t 2)⟩,
                       ⟨(some 103), none, .mov (.t 7)⟩,
                       ⟨(some 104), none, .fldA 6 1 false (.t 10)⟩,
                       ⟨(some 105), none, .load 1 false (.t 104)⟩,
                       ⟨(some 106), none, .mov (.t 9)⟩,
                       ⟨(some 107), none, .bin .mul (.c (.int .i64 2)) (.t 106)⟩,
                       ⟨(some 108), none, .bin .add (.t 107) (.c (.int .i64 1))⟩,
                       ⟨(some 109), none, .mov (.t 9)⟩,
                       ⟨(some 110), none, .bin .mul (.c (.int .i64 2)) (.t 109)⟩,
                       ⟨(some 111), none, .bin .sub (.t 110) (.c (.int .i64 1))⟩,
                       ⟨(some 112), none, .build [(.int .i64 0), (.int .i64 0), (.int .i64 0)] [(0, 1, (.t 108)), (1, 1, (.t 111)), (2, 1, (.c (.int .i64 0)))]⟩,
                       ⟨(some 113), none, .build [(.int .i64 0), (.int .i64 0), (.int .i64 0)] [(0, 1, (.c (.int .i64 1))), (1, 1, (.c (.int .i64 (-1)))), (2, 1, (.c (.int .i64 0)))]⟩,
                       ⟨(some 114), none, .callG n_gimbalref16_row [(.t 102), (.t 103), (.c (.int .i64 0)), (.t 105), (.t 112), (.t 113)]⟩,
                       ⟨(some 115), none, .new (.bsl 4) [(.t 114)]⟩,
                       ⟨(some 116), none, .eff (.app 4 48) [(.t 101), (.t 115)]⟩,
                       ⟨(some 8), none, .mov (.t 116)⟩]))))
                   .skip))
                 (.seq (.seq (.keep [1, 2, 7, 8, 9, 10, 118] (.ops false [⟨(some 117), none, .fldA 0 1 false (.t 10)⟩,
                      ⟨(some 118), none, .load 1 false (.t 117)⟩]))
                   (.cond (.t 118) (.gh (.keep [1, 2, 7, 8, 9, 10] (.ops false [⟨(some 119), none, .mov (.t 8)⟩,
                       ⟨(some 120), none, .load 17 true (.t 2)⟩,
                       ⟨(some 121), none, .mov (.t 7)⟩,
                       ⟨(some 122), none, .fldA 3 1 false (.t 10)⟩,
                       ⟨(some 123), none, .load 1 false (.t 122)⟩,
                       ⟨(some 124), none, .mov (.t 9)⟩,
                       ⟨(some 125), none, .bin .mul (.c (.int .i64 2)) (.t 124)⟩,
                       ⟨(some 126), none, .build [(.int .i64 0), (.int .i64 0), (.int .i64 0)] [(0, 1, (.t 125)), (1, 1, (.c (.int .i64 0))), (2, 1, (.c (.int .i64 0)))]⟩,
                       ⟨(some 127), none, .build [(.int .i64 0), (.int .i64 0), (.int .i64 0)] [(0, 1, (.c (.int .i64 1))), (1, 1, (.c (.int .i64 0))), (2, 1, (.c (.int .i64 0)))]⟩,
                       ⟨(some 128), none, .callG n_gimbalref16_row [(.t 120), (.t 121), (.c (.int .i64 1)), (.t 123), (.t 126), (.t 127)]⟩,
                       ⟨(some 129), none, .new (.bsl 4) [(.t 128)]⟩,
                       ⟨(some 130), none, .eff (.app 4 48) [(.t 119), (.t 129)]⟩,
                       ⟨(some 8), none, .mov (.t 130)⟩])))
                    .skip))
                  (.seq (.seq (.keep [1, 2, 7, 8, 9, 10, 132] (.ops false [⟨(some 131), none, .fldA 1 1 false (.t 10)⟩,
                       ⟨(some 132), none, .load 1 false (.t 131)⟩]))
                    (.cond (.t 132) (.gh (.keep [1, 2, 7, 8, 9, 10] (.ops false [⟨(some 133), none, .mov (.t 8)⟩,
                        ⟨(some 134), none, .load 17 true (.t 2)⟩,
                        ⟨(some 135), none, .mov (.t 7)⟩,
                        ⟨(some 136), none, .fldA 4 1 false (.t 10)⟩,
                        ⟨(some 137), none, .load 1 false (.t 136)⟩,
                        ⟨(some 138), none, .mov (.t 9)⟩,
                        ⟨(some 139), none, .bin .mul (.c (.int .i64 2)) (.t 138)⟩,
                        ⟨(some 140), none, .bin .add (.t 139) (.c (.int .i64 1))⟩,
                        ⟨(some 141), none, .build [(.int .i64 0), (.int .i64 0), (.int .i64 0)] [(0, 1, (.t 140)), (1, 1, (.c (.int .i64 0))), (2, 1, (.c (.int .i64 0)))]⟩,
                        ⟨(some 142), none, .build [(.int .i64 0), (.int .i64 0), (.int .i64 0)] [(0, 1, (.c (.int .i64 1))), (1, 1, (.c (.int .i64 0))), (2, 1, (.c (.int .i64 0)))]⟩,
                        ⟨(some 143), none, .callG n_gimbalref16_row [(.t 134), (.t 135), (.c (.int .i64 1)), (.t 137), (.t 141), (.t 142)]⟩,
                        ⟨(some 144), none, .new (.bsl 4) [(.t 143)]⟩,
                        ⟨(some 145), none, .eff (.app 4 48) [(.t 133), (.t 144)]⟩,
                        ⟨(some 8), none, .mov (.t 145)⟩])))
                     .skip))
                   (.seq (.keep [1, 2, 7, 8, 9, 10, 147] (.ops false [⟨(some 146), none, .fldA 2 1 false (.t 10)⟩,
                       ⟨(some 147), none, .load 1 false (.t 146)⟩]))
                    (.cond (.t 147) (.gh (.keep [1, 2, 7, 8, 9] (.ops false [⟨(some 148), none, .mov (.t 8)⟩,
                        ⟨(some 149), none, .load 17 true (.t 2)⟩,
                        ⟨(some 150), none, .mov (.t 7)⟩,
                        ⟨(some 151), none, .fldA 5 1 false (.t 10)⟩,
                        ⟨(some 152), none, .load 1 false (.t 151)⟩,
                        ⟨(some 153), none, .mov (.t 9)⟩,
                        ⟨(some 154), none, .bin .mul (.c (.int .i64 2)) (.t 153)⟩,
                        ⟨(some 155), none, .mov (.t 7)⟩,
                        ⟨(some 156), none, .bin .sub (.t 155) (.c (.int .i64 1))⟩,
                        ⟨(some 157), none, .build [(.int .i64 0), (.int .i64 0), (.int .i64 0)] [(0, 1, (.t 154)), (1, 1, (.t 156)), (2, 1, (.c (.int .i64 0)))]⟩,
                        ⟨(some 158), none, .build [(.int .i64 0), (.int .i64 0), (.int .i64 0)] [(0, 1, (.c (.int .i64 1))), (1, 1, (.c (.int .i64 1))), (2, 1, (.c (.int .i64 0)))]⟩,
                        ⟨(some 159), none, .callG n_gimbalref16_row [(.t 149), (.t 150), (.c (.int .i64 2)), (.t 152), (.t 157), (.t 158)]⟩,
                        ⟨(some 160), none, .new (.bsl 4) [(.t 159)]⟩,
                        ⟨(some 161), none, .eff (.app 4 48) [(.t 148), (.t 160)]⟩,
                        ⟨(some 8), none, .mov (.t 161)⟩])))
                     .skip))))))))
             (.keep [1, 2, 7, 8, 9] (.ops false [⟨(some 31), none, .mov (.t 9)⟩,
                ⟨(some 32), none, .bin .add (.t 31) (.c (.int .i64 1))⟩,
                ⟨(some 9), none, .mov (.t 32)⟩])))))))
        (.seq (.gh (.keep [4, 5] (.ops false [⟨(some 162), none, .mov (.t 8)⟩,
            ⟨(some 163), none, .load 17 true (.t 2)⟩,
            ⟨(some 164), none, .mov (.t 7)⟩,
            ⟨(some 165), none, .mov (.t 7)⟩,
            ⟨(some 166), none, .bin .sub (.t 165) (.c (.int .i64 1))⟩,
            ⟨(some 167), none, .build [(.int .i64 0), (.int .i64 0), (.int .i64 0)] [(0, 1, (.t 166)), (1, 1, (.c (.int .i64 0))), (2, 1, (.c (.int .i64 0)))]⟩,
            ⟨(some 168), none, .build [(.int .i64 0), (.int .i64 0), (.int .i64 0)] [(0, 1, (.c (.int .i64 1))), (1, 1, (.c (.int .i64 0))), (2, 1, (.c (.int .i64 0)))]⟩,
            ⟨(some 169), none, .callG n_gimbalref16_row [(.t 163), (.t 164), (.c (.int .i64 3)), (.c (.int .i64 0)), (.t 167), (.t 168)]⟩,
            ⟨(some 170), none, .new (.bsl 4) [(.t 169)]⟩,
            ⟨(some 171), none, .eff (.app 4 48) [(.t 162), (.t 170)]⟩,
            ⟨(some 4), none, .mov (.t 171)⟩,
            ⟨(some 5), none, .mov (.c (.int .i64 0))⟩])))
         .ret))))))))
def gimbalref16_Rows.res : List RX := [(4, none), (5, none)]
theorem gimbalref16_Rows.m : mK pg Try.f34.ntmps gimbalref16_Rows.k (Try.f34.body.getD .skip) = true := by kernel_rfl
theorem gimbalref16_Rows.mr : mRes pg Try.f34.results.toList gimbalref16_Rows.res = true := by kernel_rfl
theorem gimbalref16_Rows.of {args : List V} {r : V} (hn : args.length = 2) (hW : W pg gimbalref16_Rows.k (done gimbalref16_Rows.res r) (start args)) : Ret pg n_gimbalref16_Rows args r :=
  Ret_of (fn := Try.f34) Try.func34 rfl (by kernel_rfl) gimbalref16_Rows.m gimbalref16_Rows.mr (by rw [hn]; exact of_decide_eq_true (by kernel_rfl)) hW
def gimbalref16_Same.k : K :=
  (.seq (.keep [2, 3] (.ops false [⟨(some 2), none, .boxP (.t 0)⟩,
     ⟨(some 3), none, .boxP (.t 1)⟩,
     ⟨(some 4), none, .mov (.c (.bool false))⟩]))
  (.seq (.seq (.keep [2, 3, 33] (.ops false [⟨(some 6), none, .fldA 0 1 false (.t 2)⟩,
       ⟨(some 7), none, .load 1 false (.t 6)⟩,
       ⟨(some 8), none, .len false (.t 7)⟩,
       ⟨(some 9), none, .fldA 0 1 false (.t 3)⟩,
       ⟨(some 10), none, .load 1 false (.t 9)⟩,
       ⟨(some 11), none, .len false (.t 10)⟩,
       ⟨(some 12), none, .bin .neq (.t 8) (.t 11)⟩,
       ⟨(some 13), none, .mov (.t 12)⟩,
       ⟨(some 14), (some (13, false)), .fldA 1 1 false (.t 2)⟩,
       ⟨(some 15), (some (13, false)), .load 1 false (.t 14)⟩,
       ⟨(some 16), (some (13, false)), .fldA 1 1 false (.t 3)⟩,
       ⟨(some 17), (some (13, false)), .load 1 false (.t 16)⟩,
       ⟨(some 18), (some (13, false)), .bin .neq (.t 15) (.t 17)⟩,
       ⟨(some 19), none, .pick (.t 13) (.c (.bool true)) (.t 18)⟩,
       ⟨(some 20), none, .mov (.t 19)⟩,
       ⟨(some 21), (some (20, false)), .fldA 2 1 false (.t 2)⟩,
       ⟨(some 22), (some (20, false)), .load 1 false (.t 21)⟩,
       ⟨(some 23), (some (20, false)), .fldA 2 1 false (.t 3)⟩,
       ⟨(some 24), (some (20, false)), .load 1 false (.t 23)⟩,
       ⟨(some 25), (some (20, false)), .bin .neq (.t 22) (.t 24)⟩,
       ⟨(some 26), none, .pick (.t 20) (.c (.bool true)) (.t 25)⟩,
       ⟨(some 27), none, .mov (.t 26)⟩,
       ⟨(some 28), (some (27, false)), .fldA 3 1 false (.t 2)⟩,
       ⟨(some 29), (some (27, false)), .load 1 false (.t 28)⟩,
       ⟨(some 30), (some (27, false)), .fldA 3 1 false (.t 3)⟩,
       ⟨(some 31), (some (27, false)), .load 1 false (.t 30)⟩,
       ⟨(some 32), (some (27, false)), .bin .neq (.t 29) (.t 31)⟩,
       ⟨(some 33), none, .pick (.t 27) (.c (.bool true)) (.t 32)⟩]))
    (.cond (.t 33) (.seq (.keep [4] (.ops false [⟨(some 4), none, .mov (.c (.bool false))⟩]))
      .ret)
     .skip))
   (.seq (.seq (.keep [2, 3, 5] (.ops false [⟨(some 5), none, .mov (.c (.int .i64 0))⟩]))
     (.block 0 (.loop (.seq (.seq (.keep [2, 3, 5, 38] (.ops false [⟨(some 34), none, .mov (.t 5)⟩,
            ⟨(some 35), none, .fldA 0 1 false (.t 2)⟩,
            ⟨(some 36), none, .load 1 false (.t 35)⟩,
            ⟨(some 37), none, .len false (.t 36)⟩,
            ⟨(some 38), none, .bin .lss (.t 34) (.t 37)⟩]))
         (.cond (.t 38) .skip
          (.exit 0)))
        (.seq (.block 1 (.seq (.keep [2, 3, 5, 51] (.ops true [⟨(some 41), none, .fldA 0 1 false (.t 2)⟩,
              ⟨(some 42), none, .load 1 false (.t 41)⟩,
              ⟨(some 43), none, .mov (.t 5)⟩,
              ⟨(some 44), none, .idxA 1 (.t 42) (.t 43)⟩,
              ⟨(some 45), none, .load 1 false (.t 44)⟩,
              ⟨(some 46), none, .fldA 0 1 false (.t 3)⟩,
              ⟨(some 47), none, .load 1 false (.t 46)⟩,
              ⟨(some 48), none, .mov (.t 5)⟩,
              ⟨(some 49), none, .idxA 1 (.t 47) (.t 48)⟩,
              ⟨(some 50), none, .load 1 false (.t 49)⟩,
              ⟨(some 51), none, .bin .neq (.t 45) (.t 50)⟩]))
           (.cond (.t 51) (.seq (.keep [4] (.ops false [⟨(some 4), none, .mov (.c (.bool false))⟩]))
             .ret)
            .skip)))
         (.keep [2, 3, 5] (.ops false [⟨(some 39), none, .mov (.t 5)⟩,
            ⟨(some 40), none, .bin .add (.t 39) (.c (.int .i64 1))⟩,
            ⟨(some 5), none, .mov (.t 40)⟩])))))))
    (.seq (.keep [4] (.ops false [⟨(some 4), none, .mov (.c (.bool true))⟩]))
     .ret))))
def gimbalref16_Same.res : List RX := [(4, none)]
theorem gimbalref16_Same.m : mK pg Try.f35.ntmps gimbalref16_Same.k (Try.f35.body.getD .skip) = true := by kernel_rfl
theorem gimbalref16_Same.mr : mRes pg Try.f35.results.toList gimbalref16_Same.res = true := by kernel_rfl
theorem gimbalref16_Same.of {args : List V} {r : V} (hn : args.length = 2) (hW : W pg gimbalref16_Same.k (done gimbalref16_Same.res r) (start args)) : Ret pg n_gimbalref16_Same args r :=
  Ret_of (fn := Try.f35) Try.func35 rfl (by kernel_rfl) gimbalref16_Same.m gimbalref16_Same.mr (by rw [hn]; exact of_decide_eq_true (by kernel_rfl)) hW
def gimbalref16_out.k : K :=
  (.seq (.keep [0, 1, 2] (.ops false [⟨(some 6), none, .mov (.c (.bool false))⟩]))
  (.seq (.keep [6] (.ops false [⟨(some 7), none, .mov (.t 0)⟩,
      ⟨(some 8), none, .mov (.t 1)⟩,
      ⟨(some 9), none, .bin .lss (.t 7) (.t 8)⟩,
      ⟨(some 10), none, .mov (.t 9)⟩,
      ⟨(some 11), (some (10, false)), .mov (.t 0)⟩,
      ⟨(some 12), (some (10, false)), .mov (.t 2)⟩,
      ⟨(some 13), (some (10, false)), .bin .gtr (.t 11) (.t 12)⟩,
      ⟨(some 14), none, .pick (.t 10) (.c (.bool true)) (.t 13)⟩,
      ⟨(some 6), none, .mov (.t 14)⟩]))
   .ret))
def gimbalref16_out.res : List RX := [(6, none)]
theorem gimbalref16_out.m : mK pg Try.f59.ntmps gimbalref16_out.k (Try.f59.body.getD .skip) = true := by kernel_rfl
theorem gimbalref16_out.mr : mRes pg Try.f59.results.toList gimbalref16_out.res = true := by kernel_rfl
theorem gimbalref16_out.of {args : List V} {r : V} (hn : args.length = 3) (hW : W pg gimbalref16_out.k (done gimbalref16_out.res r) (start args)) : Ret pg n_gimbalref16_out args r :=
  Ret_of (fn := Try.f59) Try.func59 rfl (by kernel_rfl) gimbalref16_out.m gimbalref16_out.mr (by rw [hn]; exact of_decide_eq_true (by kernel_rfl)) hW
def gimbalref16_row.k : K :=
  (.seq (.keep [1, 2, 3, 6, 10, 11, 12] (.ops false [⟨(some 6), none, .boxP (.t 0)⟩,
     ⟨(some 10), none, .boxP (.t 4)⟩,
     ⟨(some 11), none, .boxP (.t 5)⟩,
     ⟨(some 12), none, .alloc 4 (.agg [(.sl []), (.int .i64 0), (.int .i64 0), (.int .i64 0)])⟩]))
  (.seq (.keep [10, 11, 12, 13] (.ops true [⟨(some 15), none, .mov (.t 1)⟩,
      ⟨(some 16), none, .new (.mks 1 8 (.int .i64 0)) [(.t 15), (.t 15)]⟩,
      ⟨(some 17), none, .mov (.t 3)⟩,
      ⟨(some 18), none, .mov (.t 2)⟩,
      ⟨(some 19), none, .fldA 6 4 true (.t 6)⟩,
      ⟨(some 20), none, .red (.aptr 4 1 false) [(.t 19), (.t 18)]⟩,
      ⟨(some 21), none, .load 1 false (.t 20)⟩,
      ⟨(some 22), none, .mov (.t 2)⟩,
      ⟨(some 23), none, .fldA 10 4 true (.t 6)⟩,
      ⟨(some 24), none, .red (.aptr 4 1 false) [(.t 23), (.t 22)]⟩,
      ⟨(some 25), none, .load 1 false (.t 24)⟩,
      ⟨(some 26), none, .build [(.sl []), (.int .i64 0), (.int .i64 0), (.int .i64 0)] [(0, 1, (.t 16)), (1, 1, (.t 17)), (2, 1, (.t 21)), (3, 1, (.t 25))]⟩,
      ⟨(some 13), none, .alloc 4 (.agg [(.sl []), (.int .i64 0), (.int .i64 0), (.int .i64 0)])⟩,
      ⟨none, none, .store 4 (.t 13) (.t 26)⟩]))
   (.seq (.seq (.keep [10, 11, 12, 13, 14] (.ops false [⟨(some 14), none, .mov (.c (.int .i64 0))⟩]))
     (.block 0 (.loop (.seq (.seq (.keep [10, 11, 12, 13, 14, 28] (.ops false [⟨(some 27), none, .mov (.t 14)⟩,
            ⟨(some 28), none, .bin .lss (.t 27) (.c (.int .i64 3))⟩]))
         (.cond (.t 28) .skip
          (.exit 0)))
        (.seq (.block 1 (.seq (.keep [10, 11, 12, 13, 14, 34] (.ops false [⟨(some 31), none, .mov (.t 14)⟩,
              ⟨(some 32), none, .red (.aptr 3 1 false) [(.t 11), (.t 31)]⟩,
              ⟨(some 33), none, .load 1 false (.t 32)⟩,
              ⟨(some 34), none, .bin .neq (.t 33) (.c (.int .i64 0))⟩]))
           (.cond (.t 34) (.keep [10, 11, 12, 13, 14] (.ops true [⟨(some 35), none, .fldA 0 1 false (.t 13)⟩,
               ⟨(some 36), none, .load 1 false (.t 35)⟩,
               ⟨(some 37), none, .mov (.t 14)⟩,
               ⟨(some 38), none, .red (.aptr 3 1 false) [(.t 10), (.t 37)]⟩,
               ⟨(some 39), none, .load 1 false (.t 38)⟩,
               ⟨(some 40), none, .mov (.t 14)⟩,
               ⟨(some 41), none, .red (.aptr 3 1 false) [(.t 11), (.t 40)]⟩,
               ⟨(some 42), none, .load 1 false (.t 41)⟩,
               ⟨(some 43), none, .idxA 1 (.t 36) (.t 39)⟩,
               ⟨none, none, .store 1 (.t 43) (.t 42)⟩]))
            .skip)))
         (.keep [10, 11, 12, 13, 14] (.ops false [⟨(some 29), none, .mov (.t 14)⟩,
            ⟨(some 30), none, .bin .add (.t 29) (.c (.int .i64 1))⟩,
            ⟨(some 14), none, .mov (.t 30)⟩])))))))
    (.seq (.keep [12] (.ops false [⟨(some 44), none, .load 4 true (.t 13)⟩,
        ⟨none, none, .store 4 (.t 12) (.t 44)⟩]))
     .ret))))
def gimbalref16_row.res : List RX := [(12, some (4, true))]
theorem gimbalref16_row.m : mK pg Try.f61.ntmps gimbalref16_row.k (Try.f61.body.getD .skip) = true := by kernel_rfl
theorem gimbalref16_row.mr : mRes pg Try.f61.results.toList gimbalref16_row.res = true := by kernel_rfl
theorem gimbalref16_row.of {args : List V} {r : V} (hn : args.length = 6) (hW : W pg gimbalref16_row.k (done gimbalref16_row.res r) (start args)) : Ret pg n_gimbalref16_row args r :=
  Ret_of (fn := Try.f61) Try.func61 rfl (by kernel_rfl) gimbalref16_row.m gimbalref16_row.mr (by rw [hn]; exact of_decide_eq_true (by kernel_rfl)) hW
end Go.Gim

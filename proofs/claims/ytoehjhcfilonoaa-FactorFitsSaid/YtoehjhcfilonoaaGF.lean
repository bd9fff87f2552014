import Derived.Test.YtoehjhcfilonoaaGN
/- Functions' code as data (written by wip/tools/gen.py), and the step to their contracts. -/
set_option maxRecDepth 100000
namespace Go.Gim
open Go.Proofs
def gimballaw16_FactorFits.k : K :=
  (.seq (.keep [1, 2, 3, 4] (.ops false [⟨(some 4), none, .boxP (.t 0)⟩,
     ⟨(some 8), none, .mov (.c (.bool false))⟩]))
  (.seq (.keep [1, 2, 3, 4, 9] (.ops false [⟨(some 23), none, .callG n_gimballaw16_awake []⟩,
      ⟨(some 9), none, .mov (.t 23)⟩]))
   (.seq (.keep [1, 2, 3, 4, 9, 10] (.ops false [⟨(some 25), none, .load 17 true (.t 4)⟩,
       ⟨(some 26), none, .callG n_config_Check [(.t 25)]⟩,
       ⟨(some 24), none, .mov (.t 26)⟩,
       ⟨(some 27), none, .ext (.t 24) 0⟩,
       ⟨(some 28), none, .ext (.t 24) 1⟩,
       ⟨(some 10), none, .mov (.t 27)⟩,
       ⟨(some 11), none, .mov (.t 28)⟩]))
    (.seq (.seq (.keep [1, 2, 3, 4, 9, 47] (.ops false [⟨(some 29), none, .mov (.t 10)⟩,
         ⟨(some 30), none, .bin .neq (.t 29) (.c (.str ⟨#[]⟩))⟩,
         ⟨(some 31), none, .mov (.t 30)⟩,
         ⟨(some 32), (some (31, false)), .mov (.t 1)⟩,
         ⟨(some 33), (some (31, false)), .len false (.t 32)⟩,
         ⟨(some 34), (some (31, false)), .bin .lss (.t 33) (.c (.int .i64 1))⟩,
         ⟨(some 35), none, .pick (.t 31) (.c (.bool true)) (.t 34)⟩,
         ⟨(some 36), none, .mov (.t 35)⟩,
         ⟨(some 37), (some (36, false)), .mov (.t 1)⟩,
         ⟨(some 38), (some (36, false)), .len false (.t 37)⟩,
         ⟨(some 39), (some (36, false)), .bin .gtr (.t 38) (.c (.int .i64 5))⟩,
         ⟨(some 40), none, .pick (.t 36) (.c (.bool true)) (.t 39)⟩,
         ⟨(some 41), none, .mov (.t 40)⟩,
         ⟨(some 42), (some (41, false)), .mov (.t 2)⟩,
         ⟨(some 43), (some (41, false)), .len false (.t 42)⟩,
         ⟨(some 44), (some (41, false)), .mov (.t 1)⟩,
         ⟨(some 45), (some (41, false)), .len false (.t 44)⟩,
         ⟨(some 46), (some (41, false)), .bin .neq (.t 43) (.t 45)⟩,
         ⟨(some 47), none, .pick (.t 41) (.c (.bool true)) (.t 46)⟩]))
      (.cond (.t 47) (.seq (.keep [8] (.ops false [⟨(some 48), none, .mov (.t 9)⟩,
           ⟨(some 8), none, .mov (.t 48)⟩]))
        .ret)
       .skip))
     (.seq (.keep [1, 2, 3, 4, 9, 12] (.ops false [⟨(some 12), none, .mov (.c .nil)⟩]))
      (.seq (.keep [1, 2, 3, 4, 9, 12, 13] (.ops false [⟨(some 13), none, .mov (.c .nil)⟩]))
       (.seq (.seq (.keep [1, 2, 3, 4, 9, 12, 13, 14] (.ops false [⟨(some 14), none, .mov (.c (.int .i64 0))⟩]))
         (.block 0 (.loop (.seq (.seq (.keep [1, 2, 3, 4, 9, 12, 13, 14, 52] (.ops false [⟨(some 49), none, .mov (.t 14)⟩,
                ⟨(some 50), none, .mov (.t 1)⟩,
                ⟨(some 51), none, .len false (.t 50)⟩,
                ⟨(some 52), none, .bin .lss (.t 49) (.t 51)⟩]))
             (.cond (.t 52) .skip
              (.exit 0)))
            (.seq (.block 1 (.seq (.seq (.keep [1, 2, 3, 4, 9, 12, 13, 14, 80] (.ops false [⟨(some 55), none, .mov (.t 1)⟩,
                   ⟨(some 56), none, .mov (.t 14)⟩,
                   ⟨(some 57), none, .idxA 1 (.t 55) (.t 56)⟩,
                   ⟨(some 58), none, .load 1 false (.t 57)⟩,
                   ⟨(some 59), none, .bin .lss (.t 58) (.c (.int .i64 (-300)))⟩,
                   ⟨(some 60), none, .mov (.t 59)⟩,
                   ⟨(some 61), (some (60, false)), .mov (.t 1)⟩,
                   ⟨(some 62), (some (60, false)), .mov (.t 14)⟩,
                   ⟨(some 63), (some (60, false)), .idxA 1 (.t 61) (.t 62)⟩,
                   ⟨(some 64), (some (60, false)), .load 1 false (.t 63)⟩,
                   ⟨(some 65), (some (60, false)), .bin .gtr (.t 64) (.c (.int .i64 300))⟩,
                   ⟨(some 66), none, .pick (.t 60) (.c (.bool true)) (.t 65)⟩,
                   ⟨(some 67), none, .mov (.t 66)⟩,
                   ⟨(some 68), (some (67, false)), .mov (.t 2)⟩,
                   ⟨(some 69), (some (67, false)), .mov (.t 14)⟩,
                   ⟨(some 70), (some (67, false)), .idxA 1 (.t 68) (.t 69)⟩,
                   ⟨(some 71), (some (67, false)), .load 1 false (.t 70)⟩,
                   ⟨(some 72), (some (67, false)), .bin .lss (.t 71) (.c (.int .i64 (-300)))⟩,
                   ⟨(some 73), none, .pick (.t 67) (.c (.bool true)) (.t 72)⟩,
                   ⟨(some 74), none, .mov (.t 73)⟩,
                   ⟨(some 75), (some (74, false)), .mov (.t 2)⟩,
                   ⟨(some 76), (some (74, false)), .mov (.t 14)⟩,
                   ⟨(some 77), (some (74, false)), .idxA 1 (.t 75) (.t 76)⟩,
                   ⟨(some 78), (some (74, false)), .load 1 false (.t 77)⟩,
                   ⟨(some 79), (some (74, false)), .bin .gtr (.t 78) (.c (.int .i64 300))⟩,
                   ⟨(some 80), none, .pick (.t 74) (.c (.bool true)) (.t 79)⟩]))
                (.cond (.t 80) (.seq (.keep [8] (.ops false [⟨(some 81), none, .mov (.t 9)⟩,
                     ⟨(some 8), none, .mov (.t 81)⟩]))
                  .ret)
                 .skip))
               (.seq (.keep [1, 2, 3, 4, 9, 12, 13, 14, 15] (.ops true [⟨(some 82), none, .mov (.t 1)⟩,
                   ⟨(some 83), none, .mov (.t 14)⟩,
                   ⟨(some 84), none, .idxA 1 (.t 82) (.t 83)⟩,
                   ⟨(some 85), none, .load 1 false (.t 84)⟩,
                   ⟨(some 86), none, .mov (.t 2)⟩,
                   ⟨(some 87), none, .mov (.t 14)⟩,
                   ⟨(some 88), none, .idxA 1 (.t 86) (.t 87)⟩,
                   ⟨(some 89), none, .load 1 false (.t 88)⟩,
                   ⟨(some 90), none, .mov (.t 1)⟩,
                   ⟨(some 91), none, .mov (.t 14)⟩,
                   ⟨(some 92), none, .idxA 1 (.t 90) (.t 91)⟩,
                   ⟨(some 93), none, .load 1 false (.t 92)⟩,
                   ⟨(some 94), none, .build [(.bool false), (.bool false), (.bool false), (.int .i64 0), (.int .i64 0), (.int .i64 0), (.int .i64 0), (.int .i64 0), (.int .i64 0)] [(0, 1, (.c (.bool true))), (3, 1, (.t 85)), (1, 1, (.c (.bool true))), (4, 1, (.t 89)), (2, 1, (.c (.bool true))), (5, 1, (.t 93))]⟩,
                   ⟨(some 15), none, .alloc 9 (.agg [(.bool false), (.bool false), (.bool false), (.int .i64 0), (.int .i64 0), (.int .i64 0), (.int .i64 0), (.int .i64 0), (.int .i64 0)])⟩,
                   ⟨none, none, .store 9 (.t 15) (.t 94)⟩]))
                (.seq (.seq (.keep [1, 2, 3, 4, 9, 12, 13, 14, 15, 96] (.ops false [⟨(some 95), none, .mov (.t 14)⟩,
                     ⟨(some 96), none, .bin .gtr (.t 95) (.c (.int .i64 0))⟩]))
                  (.cond (.t 96) (.seq (.keep [1, 2, 3, 4, 9, 12, 13, 14, 15] (.ops false [⟨(some 97), none, .fldA 0 1 false (.t 4)⟩,
                       ⟨(some 98), none, .load 1 false (.t 97)⟩,
                       ⟨(some 99), none, .fldA 8 1 false (.t 15)⟩,
                       ⟨none, none, .store 1 (.t 99) (.t 98)⟩]))
                    (.seq (.keep [1, 2, 3, 4, 9, 12, 13, 14, 15] (.ops true [⟨(some 100), none, .mov (.t 1)⟩,
                        ⟨(some 101), none, .mov (.t 14)⟩,
                        ⟨(some 102), none, .idxA 1 (.t 100) (.t 101)⟩,
                        ⟨(some 103), none, .load 1 false (.t 102)⟩,
                        ⟨(some 104), none, .mov (.t 1)⟩,
                        ⟨(some 105), none, .mov (.t 14)⟩,
                        ⟨(some 106), none, .bin .sub (.t 105) (.c (.int .i64 1))⟩,
                        ⟨(some 107), none, .idxA 1 (.t 104) (.t 106)⟩,
                        ⟨(some 108), none, .load 1 false (.t 107)⟩,
                        ⟨(some 109), none, .bin .sub (.t 103) (.t 108)⟩,
                        ⟨(some 110), none, .mov (.t 2)⟩,
                        ⟨(some 111), none, .mov (.t 14)⟩,
                        ⟨(some 112), none, .bin .sub (.t 111) (.c (.int .i64 1))⟩,
                        ⟨(some 113), none, .idxA 1 (.t 110) (.t 112)⟩,
                        ⟨(some 114), none, .load 1 false (.t 113)⟩,
                        ⟨(some 115), none, .bin .sub (.t 109) (.t 114)⟩,
                        ⟨(some 116), none, .fldA 7 1 false (.t 15)⟩,
                        ⟨none, none, .store 1 (.t 116) (.t 115)⟩]))
                     (.keep [1, 2, 3, 4, 9, 12, 13, 14, 15] (.ops true [⟨(some 117), none, .mov (.t 2)⟩,
                        ⟨(some 118), none, .mov (.t 14)⟩,
                        ⟨(some 119), none, .idxA 1 (.t 117) (.t 118)⟩,
                        ⟨(some 120), none, .load 1 false (.t 119)⟩,
                        ⟨(some 121), none, .mov (.t 2)⟩,
                        ⟨(some 122), none, .mov (.t 14)⟩,
                        ⟨(some 123), none, .bin .sub (.t 122) (.c (.int .i64 1))⟩,
                        ⟨(some 124), none, .idxA 1 (.t 121) (.t 123)⟩,
                        ⟨(some 125), none, .load 1 false (.t 124)⟩,
                        ⟨(some 126), none, .bin .sub (.t 120) (.t 125)⟩,
                        ⟨(some 127), none, .fldA 6 1 false (.t 15)⟩,
                        ⟨none, none, .store 1 (.t 127) (.t 126)⟩]))))
                   .skip))
                 (.seq (.keep [1, 2, 3, 4, 9, 12, 13, 14] (.ops false [⟨(some 128), none, .mov (.t 12)⟩,
                     ⟨(some 129), none, .load 9 true (.t 15)⟩,
                     ⟨(some 130), none, .new (.bsl 9) [(.t 129)]⟩,
                     ⟨(some 131), none, .eff (.app 9 56) [(.t 128), (.t 130)]⟩,
                     ⟨(some 12), none, .mov (.t 131)⟩]))
                  (.keep [1, 2, 3, 4, 9, 12, 13, 14] (.ops true [⟨(some 132), none, .mov (.t 13)⟩,
                     ⟨(some 133), none, .mov (.t 1)⟩,
                     ⟨(some 134), none, .mov (.t 14)⟩,
                     ⟨(some 135), none, .idxA 1 (.t 133) (.t 134)⟩,
                     ⟨(some 136), none, .load 1 false (.t 135)⟩,
                     ⟨(some 137), none, .mov (.t 2)⟩,
                     ⟨(some 138), none, .mov (.t 14)⟩,
                     ⟨(some 139), none, .idxA 1 (.t 137) (.t 138)⟩,
                     ⟨(some 140), none, .load 1 false (.t 139)⟩,
                     ⟨(some 141), none, .new (.bsl 1) [(.t 136), (.t 140)]⟩,
                     ⟨(some 142), none, .eff (.app 1 8) [(.t 132), (.t 141)]⟩,
                     ⟨(some 13), none, .mov (.t 142)⟩])))))))
             (.keep [1, 2, 3, 4, 9, 12, 13, 14] (.ops false [⟨(some 53), none, .mov (.t 14)⟩,
                ⟨(some 54), none, .bin .add (.t 53) (.c (.int .i64 1))⟩,
                ⟨(some 14), none, .mov (.t 54)⟩])))))))
        (.seq (.keep [3, 4, 9, 12, 13] (.ops false [⟨(some 143), none, .mov (.t 13)⟩,
            ⟨(some 144), none, .new (.bsl 1) [(.c (.int .i64 0))]⟩,
            ⟨(some 145), none, .eff (.app 1 8) [(.t 143), (.t 144)]⟩,
            ⟨(some 13), none, .mov (.t 145)⟩]))
         (.seq (.keep [3, 9, 13, 16, 17] (.ops false [⟨(some 147), none, .load 17 true (.t 4)⟩,
             ⟨(some 148), none, .mov (.t 12)⟩,
             ⟨(some 149), none, .callG n_factor_Rows [(.t 147), (.t 148)]⟩,
             ⟨(some 146), none, .mov (.t 149)⟩,
             ⟨(some 150), none, .ext (.t 146) 0⟩,
             ⟨(some 151), none, .ext (.t 146) 1⟩,
             ⟨(some 16), none, .mov (.t 150)⟩,
             ⟨(some 17), none, .mov (.t 151)⟩]))
          (.seq (.seq (.keep [3, 9, 13, 16, 153] (.ops false [⟨(some 152), none, .mov (.t 17)⟩,
               ⟨(some 153), none, .bin .neq (.t 152) (.c (.int .i64 0))⟩]))
            (.cond (.t 153) (.seq (.keep [8] (.ops false [⟨(some 8), none, .mov (.c (.bool false))⟩]))
              .ret)
             .skip))
           (.seq (.keep [3, 9, 13, 16, 18] (.ops false [⟨(some 154), none, .mov (.t 3)⟩,
               ⟨(some 155), none, .callG n_gimbalref16_State [(.t 154)]⟩,
               ⟨(some 18), none, .mov (.t 155)⟩]))
            (.seq (.seq (.keep [3, 9, 13, 16, 18, 19] (.ops false [⟨(some 19), none, .mov (.c (.int .i64 0))⟩]))
              (.block 2 (.loop (.seq (.seq (.keep [3, 9, 13, 16, 18, 19, 159] (.ops false [⟨(some 156), none, .mov (.t 19)⟩,
                     ⟨(some 157), none, .mov (.t 16)⟩,
                     ⟨(some 158), none, .len false (.t 157)⟩,
                     ⟨(some 159), none, .bin .lss (.t 156) (.t 158)⟩]))
                  (.cond (.t 159) .skip
                   (.exit 2)))
                 (.seq (.block 3 (.seq (.keep [3, 9, 13, 16, 18, 19, 20] (.ops false [⟨(some 162), none, .mov (.t 16)⟩,
                       ⟨(some 163), none, .mov (.t 19)⟩,
                       ⟨(some 164), none, .idxA 4 (.t 162) (.t 163)⟩,
                       ⟨(some 165), none, .load 4 true (.t 164)⟩,
                       ⟨(some 166), none, .mov (.t 13)⟩,
                       ⟨(some 167), none, .callG n_factor_Residual [(.t 165), (.t 166)]⟩,
                       ⟨(some 20), none, .mov (.t 167)⟩]))
                    (.seq (.seq (.keep [3, 9, 13, 16, 18, 19, 169] (.ops false [⟨(some 168), none, .mov (.t 20)⟩,
                         ⟨(some 169), none, .bin .neq (.t 168) (.c (.int .i64 0))⟩]))
                      (.cond (.t 169) (.seq (.keep [8] (.ops false [⟨(some 8), none, .mov (.c (.bool false))⟩]))
                        .ret)
                       .skip))
                     (.seq (.seq (.keep [3, 9, 13, 16, 18, 19, 178] (.ops false [⟨(some 170), none, .mov (.t 18)⟩,
                          ⟨(some 171), none, .un .not (.t 170)⟩,
                          ⟨(some 172), none, .mov (.t 171)⟩,
                          ⟨(some 173), (some (172, false)), .mov (.t 3)⟩,
                          ⟨(some 174), (some (172, false)), .len false (.t 173)⟩,
                          ⟨(some 175), (some (172, false)), .mov (.t 13)⟩,
                          ⟨(some 176), (some (172, false)), .len false (.t 175)⟩,
                          ⟨(some 177), (some (172, false)), .bin .neq (.t 174) (.t 176)⟩,
                          ⟨(some 178), none, .pick (.t 172) (.c (.bool true)) (.t 177)⟩]))
                       (.cond (.t 178) (.exit 3)
                        .skip))
                      (.seq (.keep [3, 9, 13, 16, 18, 19, 21] (.ops false [⟨(some 179), none, .mov (.t 16)⟩,
                          ⟨(some 180), none, .mov (.t 19)⟩,
                          ⟨(some 181), none, .idxA 4 (.t 179) (.t 180)⟩,
                          ⟨(some 182), none, .load 4 true (.t 181)⟩,
                          ⟨(some 183), none, .mov (.t 3)⟩,
                          ⟨(some 184), none, .callG n_factor_Cost [(.t 182), (.t 183)]⟩,
                          ⟨(some 21), none, .mov (.t 184)⟩]))
                       (.seq (.keep [3, 9, 13, 16, 18, 19, 21, 22] (.ops false [⟨(some 185), none, .mov (.t 16)⟩,
                           ⟨(some 186), none, .mov (.t 19)⟩,
                           ⟨(some 187), none, .idxA 4 (.t 185) (.t 186)⟩,
                           ⟨(some 188), none, .load 4 true (.t 187)⟩,
                           ⟨(some 189), none, .mov (.t 3)⟩,
                           ⟨(some 190), none, .callG n_factor_Residual [(.t 188), (.t 189)]⟩,
                           ⟨(some 22), none, .mov (.t 190)⟩]))
                        (.seq (.keep [3, 9, 13, 16, 18, 19, 199] (.ops false [⟨(some 191), none, .mov (.t 21)⟩,
                            ⟨(some 192), none, .bin .lss (.t 191) (.c (.int .i64 0))⟩,
                            ⟨(some 193), none, .mov (.t 192)⟩,
                            ⟨(some 194), (some (193, false)), .mov (.t 21)⟩,
                            ⟨(some 195), (some (193, false)), .bin .eql (.t 194) (.c (.int .i64 0))⟩,
                            ⟨(some 196), (some (193, false)), .mov (.t 22)⟩,
                            ⟨(some 197), (some (193, false)), .bin .eql (.t 196) (.c (.int .i64 0))⟩,
                            ⟨(some 198), (some (193, false)), .eqB true (.t 195) (.t 197)⟩,
                            ⟨(some 199), none, .pick (.t 193) (.c (.bool true)) (.t 198)⟩]))
                         (.cond (.t 199) (.seq (.keep [8] (.ops false [⟨(some 8), none, .mov (.c (.bool false))⟩]))
                           .ret)
                          .skip))))))))
                  (.keep [3, 9, 13, 16, 18, 19] (.ops false [⟨(some 160), none, .mov (.t 19)⟩,
                     ⟨(some 161), none, .bin .add (.t 160) (.c (.int .i64 1))⟩,
                     ⟨(some 19), none, .mov (.t 161)⟩])))))))
             (.seq (.keep [8] (.ops false [⟨(some 200), none, .mov (.t 9)⟩,
                 ⟨(some 8), none, .mov (.t 200)⟩]))
              .ret)))))))))))))
def gimballaw16_FactorFits.res : List RX := [(8, none)]
theorem gimballaw16_FactorFits.m : mK pg Try.f9.ntmps gimballaw16_FactorFits.k (Try.f9.body.getD .skip) = true := by kernel_rfl
theorem gimballaw16_FactorFits.mr : mRes pg Try.f9.results.toList gimballaw16_FactorFits.res = true := by kernel_rfl
theorem gimballaw16_FactorFits.of {args : List V} {r : V} (hn : args.length = 4) (hW : W pg gimballaw16_FactorFits.k (done gimballaw16_FactorFits.res r) (start args)) : Ret pg n_gimballaw16_FactorFits args r :=
  Ret_of (fn := Try.f9) Try.func9 rfl (by kernel_rfl) gimballaw16_FactorFits.m gimballaw16_FactorFits.mr (by rw [hn]; exact of_decide_eq_true (by kernel_rfl)) hW
def gimballaw16_awake.k : K :=
  (.seq (.keep [] (.ops false [⟨(some 0), none, .mov (.c (.bool false))⟩]))
  (.seq (.keep [1] (.ops false [⟨(some 14), none, .callG n_config_Default []⟩,
      ⟨(some 1), none, .alloc 17 (.agg [(.int .i64 0), (.int .i64 0), (.int .i64 0), (.int .i64 0), (.int .i64 0), (.int .i64 0), (.int .i64 0), (.int .i64 0), (.int .i64 0), (.int .i64 0), (.int .i64 0), (.int .i64 0), (.int .i64 0), (.int .i64 0), (.int .i64 0), (.int .i64 0), (.int .i64 0)])⟩,
      ⟨none, none, .store 17 (.t 1) (.t 14)⟩]))
   (.seq (.keep [1, 2, 3] (.ops false [⟨(some 16), none, .load 17 true (.t 1)⟩,
       ⟨(some 17), none, .build [(.bool false), (.bool false), (.bool false), (.int .i64 0), (.int .i64 0), (.int .i64 0), (.int .i64 0), (.int .i64 0), (.int .i64 0)] [(0, 1, (.c (.bool true))), (3, 1, (.c (.int .i64 7)))]⟩,
       ⟨(some 18), none, .new (.bsl 9) [(.t 17)]⟩,
       ⟨(some 19), none, .callG n_factor_Rows [(.t 16), (.t 18)]⟩,
       ⟨(some 15), none, .mov (.t 19)⟩,
       ⟨(some 20), none, .ext (.t 15) 0⟩,
       ⟨(some 21), none, .ext (.t 15) 1⟩,
       ⟨(some 2), none, .mov (.t 20)⟩,
       ⟨(some 3), none, .mov (.t 21)⟩]))
    (.seq (.keep [1, 2, 3, 4, 5] (.ops false [⟨(some 23), none, .load 17 true (.t 1)⟩,
        ⟨(some 24), none, .build [(.bool false), (.bool false), (.bool false), (.int .i64 0), (.int .i64 0), (.int .i64 0), (.int .i64 0), (.int .i64 0), (.int .i64 0)] []⟩,
        ⟨(some 25), none, .build [(.bool false), (.bool false), (.bool false), (.int .i64 0), (.int .i64 0), (.int .i64 0), (.int .i64 0), (.int .i64 0), (.int .i64 0)] [(8, 1, (.c (.int .i64 50))), (7, 1, (.c (.int .i64 3))), (6, 1, (.c (.int .i64 (-2)))), (2, 1, (.c (.bool true))), (5, 1, (.c (.int .i64 9)))]⟩,
        ⟨(some 26), none, .new (.bsl 9) [(.t 24), (.t 25)]⟩,
        ⟨(some 27), none, .callG n_factor_Rows [(.t 23), (.t 26)]⟩,
        ⟨(some 22), none, .mov (.t 27)⟩,
        ⟨(some 28), none, .ext (.t 22) 0⟩,
        ⟨(some 29), none, .ext (.t 22) 1⟩,
        ⟨(some 4), none, .mov (.t 28)⟩,
        ⟨(some 5), none, .mov (.t 29)⟩]))
     (.seq (.keep [2, 3, 4, 5, 7] (.ops false [⟨(some 31), none, .load 17 true (.t 1)⟩,
         ⟨(some 32), none, .callG n_factor_Rows [(.t 31), (.c .nil)]⟩,
         ⟨(some 30), none, .mov (.t 32)⟩,
         ⟨(some 33), none, .ext (.t 30) 0⟩,
         ⟨(some 34), none, .ext (.t 30) 1⟩,
         ⟨(some 6), none, .mov (.t 33)⟩,
         ⟨(some 7), none, .mov (.t 34)⟩]))
      (.seq (.seq (.keep [2, 4, 7, 50] (.ops false [⟨(some 35), none, .mov (.t 3)⟩,
           ⟨(some 36), none, .bin .neq (.t 35) (.c (.int .i64 0))⟩,
           ⟨(some 37), none, .mov (.t 36)⟩,
           ⟨(some 38), (some (37, false)), .mov (.t 5)⟩,
           ⟨(some 39), (some (37, false)), .bin .neq (.t 38) (.c (.int .i64 0))⟩,
           ⟨(some 40), none, .pick (.t 37) (.c (.bool true)) (.t 39)⟩,
           ⟨(some 41), none, .mov (.t 40)⟩,
           ⟨(some 42), (some (41, false)), .mov (.t 2)⟩,
           ⟨(some 43), (some (41, false)), .len false (.t 42)⟩,
           ⟨(some 44), (some (41, false)), .bin .neq (.t 43) (.c (.int .i64 2))⟩,
           ⟨(some 45), none, .pick (.t 41) (.c (.bool true)) (.t 44)⟩,
           ⟨(some 46), none, .mov (.t 45)⟩,
           ⟨(some 47), (some (46, false)), .mov (.t 4)⟩,
           ⟨(some 48), (some (46, false)), .len false (.t 47)⟩,
           ⟨(some 49), (some (46, false)), .bin .neq (.t 48) (.c (.int .i64 4))⟩,
           ⟨(some 50), none, .pick (.t 46) (.c (.bool true)) (.t 49)⟩]))
        (.cond (.t 50) (.seq (.keep [0] (.ops false [⟨(some 0), none, .mov (.c (.bool false))⟩]))
          .ret)
         .skip))
       (.seq (.keep [2, 4, 7, 8] (.ops false [⟨(some 51), none, .mov (.t 2)⟩,
           ⟨(some 52), none, .idxA 4 (.t 51) (.c (.int .i64 0))⟩,
           ⟨(some 53), none, .load 4 true (.t 52)⟩,
           ⟨(some 54), none, .new (.bsl 1) [(.c (.int .i64 1)), (.c (.int .i64 0)), (.c (.int .i64 0))]⟩,
           ⟨(some 55), none, .build [(.sl []), (.int .i64 0), (.int .i64 0), (.int .i64 0)] [(0, 1, (.t 54)), (1, 1, (.c (.int .i64 7))), (2, 1, (.c (.int .i64 1000))), (3, 1, (.c (.int .i64 1)))]⟩,
           ⟨(some 56), none, .callG n_gimbalref16_Same [(.t 53), (.t 55)]⟩,
           ⟨(some 8), none, .mov (.t 56)⟩]))
        (.seq (.keep [2, 4, 7, 8, 9] (.ops false [⟨(some 57), none, .mov (.t 2)⟩,
            ⟨(some 58), none, .idxA 4 (.t 57) (.c (.int .i64 1))⟩,
            ⟨(some 59), none, .load 4 true (.t 58)⟩,
            ⟨(some 60), none, .new (.bsl 1) [(.c (.int .i64 0)), (.c (.int .i64 0)), (.c (.int .i64 1))]⟩,
            ⟨(some 61), none, .build [(.sl []), (.int .i64 0), (.int .i64 0), (.int .i64 0)] [(0, 1, (.t 60)), (2, 1, (.c (.int .i64 100))), (3, 1, (.c (.int .i64 8)))]⟩,
            ⟨(some 62), none, .callG n_gimbalref16_Same [(.t 59), (.t 61)]⟩,
            ⟨(some 9), none, .mov (.t 62)⟩]))
         (.seq (.keep [2, 4, 7, 8, 9, 10] (.ops false [⟨(some 63), none, .mov (.t 4)⟩,
             ⟨(some 64), none, .idxA 4 (.t 63) (.c (.int .i64 0))⟩,
             ⟨(some 65), none, .load 4 true (.t 64)⟩,
             ⟨(some 66), none, .new (.bsl 1) [(.c (.int .i64 (-100))), (.c (.int .i64 (-50))), (.c (.int .i64 100)), (.c (.int .i64 0)), (.c (.int .i64 0))]⟩,
             ⟨(some 67), none, .build [(.sl []), (.int .i64 0), (.int .i64 0), (.int .i64 0)] [(0, 1, (.t 66)), (1, 1, (.c (.int .i64 300))), (2, 1, (.c (.int .i64 2000))), (3, 1, (.c (.int .i64 4)))]⟩,
             ⟨(some 68), none, .callG n_gimbalref16_Same [(.t 65), (.t 67)]⟩,
             ⟨(some 10), none, .mov (.t 68)⟩]))
          (.seq (.keep [2, 4, 7, 8, 9, 10, 11] (.ops false [⟨(some 69), none, .mov (.t 4)⟩,
              ⟨(some 70), none, .idxA 4 (.t 69) (.c (.int .i64 1))⟩,
              ⟨(some 71), none, .load 4 true (.t 70)⟩,
              ⟨(some 72), none, .new (.bsl 1) [(.c (.int .i64 0)), (.c (.int .i64 (-1))), (.c (.int .i64 0)), (.c (.int .i64 1)), (.c (.int .i64 0))]⟩,
              ⟨(some 73), none, .build [(.sl []), (.int .i64 0), (.int .i64 0), (.int .i64 0)] [(0, 1, (.t 72)), (1, 1, (.c (.int .i64 (-2)))), (2, 1, (.c (.int .i64 2000))), (3, 1, (.c (.int .i64 4)))]⟩,
              ⟨(some 74), none, .callG n_gimbalref16_Same [(.t 71), (.t 73)]⟩,
              ⟨(some 11), none, .mov (.t 74)⟩]))
           (.seq (.keep [2, 7, 8, 9, 10, 11, 12] (.ops false [⟨(some 75), none, .mov (.t 4)⟩,
               ⟨(some 76), none, .idxA 4 (.t 75) (.c (.int .i64 2))⟩,
               ⟨(some 77), none, .load 4 true (.t 76)⟩,
               ⟨(some 78), none, .new (.bsl 1) [(.c (.int .i64 0)), (.c (.int .i64 0)), (.c (.int .i64 1)), (.c (.int .i64 0)), (.c (.int .i64 1))]⟩,
               ⟨(some 79), none, .build [(.sl []), (.int .i64 0), (.int .i64 0), (.int .i64 0)] [(0, 1, (.t 78)), (1, 1, (.c (.int .i64 9))), (2, 1, (.c (.int .i64 500))), (3, 1, (.c (.int .i64 2)))]⟩,
               ⟨(some 80), none, .callG n_gimbalref16_Same [(.t 77), (.t 79)]⟩,
               ⟨(some 12), none, .mov (.t 80)⟩]))
            (.seq (.keep [7, 8, 9, 10, 11, 12, 13] (.ops false [⟨(some 81), none, .mov (.t 2)⟩,
                ⟨(some 82), none, .idxA 4 (.t 81) (.c (.int .i64 0))⟩,
                ⟨(some 83), none, .load 4 true (.t 82)⟩,
                ⟨(some 84), none, .new (.bsl 1) [(.c (.int .i64 9)), (.c (.int .i64 0)), (.c (.int .i64 0))]⟩,
                ⟨(some 85), none, .callG n_factor_Cost [(.t 83), (.t 84)]⟩,
                ⟨(some 13), none, .mov (.t 85)⟩]))
             (.seq (.keep [0] (.ops false [⟨(some 86), none, .mov (.t 8)⟩,
                 ⟨(some 87), none, .mov (.t 86)⟩,
                 ⟨(some 88), (some (87, true)), .mov (.t 9)⟩,
                 ⟨(some 89), none, .pick (.t 87) (.t 88) (.c (.bool false))⟩,
                 ⟨(some 90), none, .mov (.t 89)⟩,
                 ⟨(some 91), (some (90, true)), .mov (.t 10)⟩,
                 ⟨(some 92), none, .pick (.t 90) (.t 91) (.c (.bool false))⟩,
                 ⟨(some 93), none, .mov (.t 92)⟩,
                 ⟨(some 94), (some (93, true)), .mov (.t 11)⟩,
                 ⟨(some 95), none, .pick (.t 93) (.t 94) (.c (.bool false))⟩,
                 ⟨(some 96), none, .mov (.t 95)⟩,
                 ⟨(some 97), (some (96, true)), .mov (.t 12)⟩,
                 ⟨(some 98), none, .pick (.t 96) (.t 97) (.c (.bool false))⟩,
                 ⟨(some 99), none, .mov (.t 98)⟩,
                 ⟨(some 100), (some (99, true)), .mov (.t 7)⟩,
                 ⟨(some 101), (some (99, true)), .bin .eql (.t 100) (.c (.int .i64 160))⟩,
                 ⟨(some 102), none, .pick (.t 99) (.t 101) (.c (.bool false))⟩,
                 ⟨(some 103), none, .mov (.t 102)⟩,
                 ⟨(some 104), (some (103, true)), .mov (.t 13)⟩,
                 ⟨(some 105), (some (103, true)), .bin .eql (.t 104) (.c (.int .i64 4))⟩,
                 ⟨(some 106), none, .pick (.t 103) (.t 105) (.c (.bool false))⟩,
                 ⟨(some 0), none, .mov (.t 106)⟩]))
              .ret)))))))))))))
def gimballaw16_awake.res : List RX := [(0, none)]
theorem gimballaw16_awake.m : mK pg Try.f26.ntmps gimballaw16_awake.k (Try.f26.body.getD .skip) = true := by kernel_rfl
theorem gimballaw16_awake.mr : mRes pg Try.f26.results.toList gimballaw16_awake.res = true := by kernel_rfl
theorem gimballaw16_awake.of {args : List V} {r : V} (hn : args.length = 0) (hW : W pg gimballaw16_awake.k (done gimballaw16_awake.res r) (start args)) : Ret pg n_gimballaw16_awake args r :=
  Ret_of (fn := Try.f26) Try.func26 rfl (by kernel_rfl) gimballaw16_awake.m gimballaw16_awake.mr (by rw [hn]; exact of_decide_eq_true (by kernel_rfl)) hW
end Go.Gim

import Derived.Test.YtfonkhgndfjbfaaGN
/- Functions' code as data (written by wip/tools/gen.py), and the step to their contracts. -/
set_option maxRecDepth 100000
namespace Go.Gim
open Go.Proofs
def gimballaw18_CostAdds.k : K :=
  (.seq (.keep [0, 1, 2, 3] (.ops false [⟨(some 8), none, .mov (.c (.bool false))⟩]))
  (.seq (.keep [0, 1, 2, 3, 9] (.ops false [⟨(some 24), none, .callG n_gimballaw18_awake []⟩,
      ⟨(some 9), none, .mov (.t 24)⟩]))
   (.seq (.keep [0, 1, 2, 3, 9, 10, 12] (.ops false [⟨(some 26), none, .mov (.t 0)⟩,
       ⟨(some 27), none, .mov (.t 1)⟩,
       ⟨(some 28), none, .mov (.t 3)⟩,
       ⟨(some 29), none, .callG n_gimballaw18_read [(.t 26), (.t 27), (.c .nil), (.c .nil), (.c (.int .i64 1)), (.t 28)]⟩,
       ⟨(some 25), none, .mov (.t 29)⟩,
       ⟨(some 30), none, .ext (.t 25) 0⟩,
       ⟨(some 31), none, .ext (.t 25) 1⟩,
       ⟨(some 32), none, .ext (.t 25) 2⟩,
       ⟨(some 10), none, .alloc 8 (.agg [(.int .i64 0), .nil, .nil, .nil, (.bool false), (.sl []), (.bool false), (.sl [])])⟩,
       ⟨(some 11), none, .alloc 8 (.agg [(.int .i64 0), .nil, .nil, .nil, (.bool false), (.sl []), (.bool false), (.sl [])])⟩,
       ⟨none, none, .store 8 (.t 10) (.t 30)⟩,
       ⟨none, none, .store 8 (.t 11) (.t 31)⟩,
       ⟨(some 12), none, .mov (.t 32)⟩]))
    (.seq (.keep [0, 1, 2, 3, 9, 10, 12, 13, 15] (.ops false [⟨(some 34), none, .mov (.t 0)⟩,
        ⟨(some 35), none, .mov (.t 2)⟩,
        ⟨(some 36), none, .mov (.t 3)⟩,
        ⟨(some 37), none, .callG n_gimballaw18_read [(.t 34), (.t 35), (.c .nil), (.c .nil), (.c (.int .i64 1)), (.t 36)]⟩,
        ⟨(some 33), none, .mov (.t 37)⟩,
        ⟨(some 38), none, .ext (.t 33) 0⟩,
        ⟨(some 39), none, .ext (.t 33) 1⟩,
        ⟨(some 40), none, .ext (.t 33) 2⟩,
        ⟨(some 13), none, .alloc 8 (.agg [(.int .i64 0), .nil, .nil, .nil, (.bool false), (.sl []), (.bool false), (.sl [])])⟩,
        ⟨(some 14), none, .alloc 8 (.agg [(.int .i64 0), .nil, .nil, .nil, (.bool false), (.sl []), (.bool false), (.sl [])])⟩,
        ⟨none, none, .store 8 (.t 13) (.t 38)⟩,
        ⟨none, none, .store 8 (.t 14) (.t 39)⟩,
        ⟨(some 15), none, .mov (.t 40)⟩]))
     (.seq (.seq (.keep [0, 1, 2, 3, 9, 10, 13, 46] (.ops false [⟨(some 41), none, .mov (.t 12)⟩,
          ⟨(some 42), none, .un .not (.t 41)⟩,
          ⟨(some 43), none, .mov (.t 42)⟩,
          ⟨(some 44), (some (43, false)), .mov (.t 15)⟩,
          ⟨(some 45), (some (43, false)), .un .not (.t 44)⟩,
          ⟨(some 46), none, .pick (.t 43) (.c (.bool true)) (.t 45)⟩]))
       (.cond (.t 46) (.seq (.keep [8] (.ops false [⟨(some 47), none, .mov (.t 9)⟩,
            ⟨(some 8), none, .mov (.t 47)⟩]))
         .ret)
        .skip))
      (.seq (.gh (.keep [0, 1, 2, 3, 9, 10, 13, 16, 18] (.ops false [⟨(some 49), none, .mov (.t 0)⟩,
          ⟨(some 50), none, .new (.bsl 4) []⟩,
          ⟨(some 51), none, .mov (.t 1)⟩,
          ⟨(some 52), none, .eff (.app 4 48) [(.t 50), (.t 51)]⟩,
          ⟨(some 53), none, .mov (.t 2)⟩,
          ⟨(some 54), none, .eff (.app 4 48) [(.t 52), (.t 53)]⟩,
          ⟨(some 55), none, .mov (.t 3)⟩,
          ⟨(some 56), none, .callG n_gimballaw18_read [(.t 49), (.t 54), (.c .nil), (.c .nil), (.c (.int .i64 1)), (.t 55)]⟩,
          ⟨(some 48), none, .mov (.t 56)⟩,
          ⟨(some 57), none, .ext (.t 48) 0⟩,
          ⟨(some 58), none, .ext (.t 48) 1⟩,
          ⟨(some 59), none, .ext (.t 48) 2⟩,
          ⟨(some 16), none, .alloc 8 (.agg [(.int .i64 0), .nil, .nil, .nil, (.bool false), (.sl []), (.bool false), (.sl [])])⟩,
          ⟨(some 17), none, .alloc 8 (.agg [(.int .i64 0), .nil, .nil, .nil, (.bool false), (.sl []), (.bool false), (.sl [])])⟩,
          ⟨none, none, .store 8 (.t 16) (.t 57)⟩,
          ⟨none, none, .store 8 (.t 17) (.t 58)⟩,
          ⟨(some 18), none, .mov (.t 59)⟩])))
       (.seq (.seq (.keep [0, 1, 2, 3, 9, 10, 13, 16, 61] (.ops false [⟨(some 60), none, .mov (.t 18)⟩,
            ⟨(some 61), none, .un .not (.t 60)⟩]))
         (.cond (.t 61) (.seq (.keep [8] (.ops false [⟨(some 62), none, .mov (.t 9)⟩,
              ⟨(some 63), none, .mov (.t 62)⟩,
              ⟨(some 64), (some (63, true)), .mov (.t 1)⟩,
              ⟨(some 65), (some (63, true)), .len false (.t 64)⟩,
              ⟨(some 66), (some (63, true)), .mov (.t 2)⟩,
              ⟨(some 67), (some (63, true)), .len false (.t 66)⟩,
              ⟨(some 68), (some (63, true)), .bin .add (.t 65) (.t 67)⟩,
              ⟨(some 69), (some (63, true)), .bin .gtr (.t 68) (.c (.int .i64 60))⟩,
              ⟨(some 70), none, .pick (.t 63) (.t 69) (.c (.bool false))⟩,
              ⟨(some 8), none, .mov (.t 70)⟩]))
           .ret)
          .skip))
        (.seq (.keep [0, 3, 9, 10, 13, 16, 19] (.ops true [⟨(some 71), none, .load 8 true (.t 10)⟩,
            ⟨(some 72), none, .mov (.t 3)⟩,
            ⟨(some 73), none, .call n_cost_Value [(.t 71), (.t 72)]⟩,
            ⟨(some 74), none, .load 8 true (.t 13)⟩,
            ⟨(some 75), none, .mov (.t 3)⟩,
            ⟨(some 76), none, .call n_cost_Value [(.t 74), (.t 75)]⟩,
            ⟨(some 77), none, .call n_long_Int_Add [(.t 73), (.t 76)]⟩,
            ⟨(some 78), none, .load 8 true (.t 16)⟩,
            ⟨(some 79), none, .mov (.t 3)⟩,
            ⟨(some 80), none, .call n_cost_Value [(.t 78), (.t 79)]⟩,
            ⟨(some 81), none, .call n_long_Int_Cmp [(.t 77), (.t 80)]⟩,
            ⟨(some 19), none, .mov (.t 81)⟩]))
         (.seq (.keep [0, 3, 9, 13, 16, 19, 20] (.ops false [⟨(some 82), none, .load 8 true (.t 10)⟩,
             ⟨(some 83), none, .mov (.t 3)⟩,
             ⟨(some 84), none, .callG n_cost_Steep [(.t 82), (.t 83)]⟩,
             ⟨(some 20), none, .mov (.t 84)⟩]))
          (.seq (.keep [0, 3, 9, 16, 19, 20, 21] (.ops false [⟨(some 85), none, .load 8 true (.t 13)⟩,
              ⟨(some 86), none, .mov (.t 3)⟩,
              ⟨(some 87), none, .callG n_cost_Steep [(.t 85), (.t 86)]⟩,
              ⟨(some 21), none, .mov (.t 87)⟩]))
           (.seq (.seq (.keep [0, 3, 9, 16, 19, 20, 21, 97] (.ops false [⟨(some 88), none, .mov (.t 20)⟩,
                ⟨(some 89), none, .len false (.t 88)⟩,
                ⟨(some 90), none, .mov (.t 0)⟩,
                ⟨(some 91), none, .bin .neq (.t 89) (.t 90)⟩,
                ⟨(some 92), none, .mov (.t 91)⟩,
                ⟨(some 93), (some (92, false)), .mov (.t 21)⟩,
                ⟨(some 94), (some (92, false)), .len false (.t 93)⟩,
                ⟨(some 95), (some (92, false)), .mov (.t 0)⟩,
                ⟨(some 96), (some (92, false)), .bin .neq (.t 94) (.t 95)⟩,
                ⟨(some 97), none, .pick (.t 92) (.c (.bool true)) (.t 96)⟩]))
             (.cond (.t 97) (.seq (.keep [8] (.ops false [⟨(some 8), none, .mov (.c (.bool false))⟩]))
               .ret)
              .skip))
            (.seq (.keep [0, 3, 9, 16, 19, 20, 21, 22] (.ops false [⟨(some 98), none, .mov (.t 20)⟩,
                ⟨(some 99), none, .red (.slc 2 false true true) [(.t 98), (.c (.int .i64 0)), (.c (.int .i64 0))]⟩,
                ⟨(some 100), none, .mov (.t 20)⟩,
                ⟨(some 101), none, .eff (.app 2 32) [(.t 99), (.t 100)]⟩,
                ⟨(some 22), none, .mov (.t 101)⟩]))
             (.seq (.seq (.keep [0, 3, 9, 16, 19, 20, 21, 22, 23] (.ops false [⟨(some 23), none, .mov (.c (.int .i64 0))⟩]))
               (.block 0 (.loop (.seq (.seq (.keep [0, 3, 9, 16, 19, 20, 21, 22, 23, 104] (.ops false [⟨(some 102), none, .mov (.t 23)⟩,
                      ⟨(some 103), none, .mov (.t 0)⟩,
                      ⟨(some 104), none, .bin .lss (.t 102) (.t 103)⟩]))
                   (.cond (.t 104) .skip
                    (.exit 0)))
                  (.seq (.block 1 (.keep [0, 3, 9, 16, 19, 20, 21, 22, 23] (.ops true [⟨(some 107), none, .mov (.t 22)⟩,
                       ⟨(some 108), none, .mov (.t 23)⟩,
                       ⟨(some 109), none, .mov (.t 20)⟩,
                       ⟨(some 110), none, .mov (.t 23)⟩,
                       ⟨(some 111), none, .idxA 2 (.t 109) (.t 110)⟩,
                       ⟨(some 112), none, .load 2 true (.t 111)⟩,
                       ⟨(some 113), none, .mov (.t 21)⟩,
                       ⟨(some 114), none, .mov (.t 23)⟩,
                       ⟨(some 115), none, .idxA 2 (.t 113) (.t 114)⟩,
                       ⟨(some 116), none, .load 2 true (.t 115)⟩,
                       ⟨(some 117), none, .call n_long_Int_Add [(.t 112), (.t 116)]⟩,
                       ⟨(some 118), none, .idxA 2 (.t 107) (.t 108)⟩,
                       ⟨none, none, .store 2 (.t 118) (.t 117)⟩])))
                   (.keep [0, 3, 9, 16, 19, 20, 21, 22, 23] (.ops false [⟨(some 105), none, .mov (.t 23)⟩,
                      ⟨(some 106), none, .bin .add (.t 105) (.c (.int .i64 1))⟩,
                      ⟨(some 23), none, .mov (.t 106)⟩])))))))
              (.seq (.keep [8] (.ops true [⟨(some 119), none, .mov (.t 9)⟩,
                  ⟨(some 120), none, .mov (.t 119)⟩,
                  ⟨(some 121), (some (120, true)), .mov (.t 19)⟩,
                  ⟨(some 122), (some (120, true)), .bin .eql (.t 121) (.c (.int .i64 0))⟩,
                  ⟨(some 123), none, .pick (.t 120) (.t 122) (.c (.bool false))⟩,
                  ⟨(some 124), none, .mov (.t 123)⟩,
                  ⟨(some 125), (some (124, true)), .mov (.t 22)⟩,
                  ⟨(some 126), (some (124, true)), .call n_gimballaw18_text [(.t 125)]⟩,
                  ⟨(some 127), (some (124, true)), .load 8 true (.t 16)⟩,
                  ⟨(some 128), (some (124, true)), .mov (.t 3)⟩,
                  ⟨(some 129), (some (124, true)), .call n_cost_Steep [(.t 127), (.t 128)]⟩,
                  ⟨(some 130), (some (124, true)), .call n_gimballaw18_text [(.t 129)]⟩,
                  ⟨(some 131), (some (124, true)), .bin .eql (.t 126) (.t 130)⟩,
                  ⟨(some 132), none, .pick (.t 124) (.t 131) (.c (.bool false))⟩,
                  ⟨(some 8), none, .mov (.t 132)⟩]))
               .ret))))))))))))))
def gimballaw18_CostAdds.res : List RX := [(8, none)]
theorem gimballaw18_CostAdds.m : mK pg Try.f10.ntmps gimballaw18_CostAdds.k (Try.f10.body.getD .skip) = true := by kernel_rfl
theorem gimballaw18_CostAdds.mr : mRes pg Try.f10.results.toList gimballaw18_CostAdds.res = true := by kernel_rfl
theorem gimballaw18_CostAdds.of {args : List V} {r : V} (hn : args.length = 4) (hW : W pg gimballaw18_CostAdds.k (done gimballaw18_CostAdds.res r) (start args)) : Ret pg n_gimballaw18_CostAdds args r :=
  Ret_of (fn := Try.f10) Try.func10 rfl (by kernel_rfl) gimballaw18_CostAdds.m gimballaw18_CostAdds.mr (by rw [hn]; exact of_decide_eq_true (by kernel_rfl)) hW
def gimballaw18_awake.k : K :=
  (.seq (.keep [] (.ops false [⟨(some 0), none, .mov (.c (.bool false))⟩]))
  (.seq (.keep [1] (.ops false [⟨(some 18), none, .new (.bsl 1) [(.c (.int .i64 1))]⟩,
      ⟨(some 19), none, .build [(.sl []), (.int .i64 0), (.int .i64 0), (.int .i64 0)] [(0, 1, (.t 18)), (2, 1, (.c (.int .i64 5))), (3, 1, (.c (.int .i64 3)))]⟩,
      ⟨(some 20), none, .new (.bsl 4) [(.t 19)]⟩,
      ⟨(some 1), none, .mov (.t 20)⟩]))
   (.seq (.keep [1, 2, 4] (.ops false [⟨(some 22), none, .mov (.t 1)⟩,
       ⟨(some 23), none, .new (.bsl 1) [(.c (.int .i64 4))]⟩,
       ⟨(some 24), none, .callG n_gimballaw18_read [(.c (.int .i64 1)), (.t 22), (.c .nil), (.c .nil), (.c (.int .i64 1)), (.t 23)]⟩,
       ⟨(some 21), none, .mov (.t 24)⟩,
       ⟨(some 25), none, .ext (.t 21) 0⟩,
       ⟨(some 26), none, .ext (.t 21) 1⟩,
       ⟨(some 27), none, .ext (.t 21) 2⟩,
       ⟨(some 2), none, .alloc 8 (.agg [(.int .i64 0), .nil, .nil, .nil, (.bool false), (.sl []), (.bool false), (.sl [])])⟩,
       ⟨(some 3), none, .alloc 8 (.agg [(.int .i64 0), .nil, .nil, .nil, (.bool false), (.sl []), (.bool false), (.sl [])])⟩,
       ⟨none, none, .store 8 (.t 2) (.t 25)⟩,
       ⟨none, none, .store 8 (.t 3) (.t 26)⟩,
       ⟨(some 4), none, .mov (.t 27)⟩]))
    (.seq (.keep [2, 4, 5, 7] (.ops false [⟨(some 29), none, .mov (.t 1)⟩,
        ⟨(some 30), none, .new (.bsl 1) [(.c (.int .i64 7))]⟩,
        ⟨(some 31), none, .new (.bsl 1) [(.t 30)]⟩,
        ⟨(some 32), none, .new (.bsl 1) [(.c (.int .i64 4))]⟩,
        ⟨(some 33), none, .callG n_gimballaw18_read [(.c (.int .i64 1)), (.t 29), (.t 31), (.c .nil), (.c (.int .i64 2)), (.t 32)]⟩,
        ⟨(some 28), none, .mov (.t 33)⟩,
        ⟨(some 34), none, .ext (.t 28) 0⟩,
        ⟨(some 35), none, .ext (.t 28) 1⟩,
        ⟨(some 36), none, .ext (.t 28) 2⟩,
        ⟨(some 5), none, .alloc 8 (.agg [(.int .i64 0), .nil, .nil, .nil, (.bool false), (.sl []), (.bool false), (.sl [])])⟩,
        ⟨(some 6), none, .alloc 8 (.agg [(.int .i64 0), .nil, .nil, .nil, (.bool false), (.sl []), (.bool false), (.sl [])])⟩,
        ⟨none, none, .store 8 (.t 5) (.t 34)⟩,
        ⟨none, none, .store 8 (.t 6) (.t 35)⟩,
        ⟨(some 7), none, .mov (.t 36)⟩]))
     (.seq (.seq (.keep [2, 5, 42] (.ops false [⟨(some 37), none, .mov (.t 4)⟩,
          ⟨(some 38), none, .un .not (.t 37)⟩,
          ⟨(some 39), none, .mov (.t 38)⟩,
          ⟨(some 40), (some (39, false)), .mov (.t 7)⟩,
          ⟨(some 41), (some (39, false)), .un .not (.t 40)⟩,
          ⟨(some 42), none, .pick (.t 39) (.c (.bool true)) (.t 41)⟩]))
       (.cond (.t 42) (.seq (.keep [0] (.ops false [⟨(some 0), none, .mov (.c (.bool false))⟩]))
         .ret)
        .skip))
      (.seq (.keep [2, 5, 8] (.ops false [⟨(some 43), none, .load 8 true (.t 2)⟩,
          ⟨(some 44), none, .new (.bsl 1) [(.c (.int .i64 4))]⟩,
          ⟨(some 45), none, .callG n_cost_Value [(.t 43), (.t 44)]⟩,
          ⟨(some 46), none, .callG n_long_Int_String [(.t 45)]⟩,
          ⟨(some 8), none, .mov (.t 46)⟩]))
       (.seq (.keep [2, 5, 8, 9] (.ops false [⟨(some 47), none, .load 8 true (.t 2)⟩,
           ⟨(some 48), none, .new (.bsl 1) [(.c (.int .i64 10))]⟩,
           ⟨(some 49), none, .callG n_cost_Value [(.t 47), (.t 48)]⟩,
           ⟨(some 50), none, .callG n_long_Int_String [(.t 49)]⟩,
           ⟨(some 9), none, .mov (.t 50)⟩]))
        (.seq (.keep [2, 5, 8, 9, 10] (.ops false [⟨(some 51), none, .load 8 true (.t 2)⟩,
            ⟨(some 52), none, .new (.bsl 1) [(.c (.int .i64 4))]⟩,
            ⟨(some 53), none, .callG n_cost_Steep [(.t 51), (.t 52)]⟩,
            ⟨(some 54), none, .callG n_gimballaw18_text [(.t 53)]⟩,
            ⟨(some 10), none, .mov (.t 54)⟩]))
         (.seq (.keep [2, 5, 8, 9, 10, 11] (.ops false [⟨(some 55), none, .load 8 true (.t 2)⟩,
             ⟨(some 56), none, .new (.bsl 1) [(.c (.int .i64 10))]⟩,
             ⟨(some 57), none, .callG n_cost_Steep [(.t 55), (.t 56)]⟩,
             ⟨(some 58), none, .callG n_gimballaw18_text [(.t 57)]⟩,
             ⟨(some 11), none, .mov (.t 58)⟩]))
          (.seq (.keep [2, 5, 8, 9, 10, 11, 12] (.ops false [⟨(some 59), none, .load 8 true (.t 2)⟩,
              ⟨(some 60), none, .new (.bsl 1) [(.c (.int .i64 4))]⟩,
              ⟨(some 61), none, .callG n_cost_Flat [(.t 59), (.t 60), (.c (.int .i64 11))]⟩,
              ⟨(some 12), none, .mov (.t 61)⟩]))
           (.seq (.keep [5, 8, 9, 10, 11, 12, 13] (.ops false [⟨(some 62), none, .load 8 true (.t 2)⟩,
               ⟨(some 63), none, .new (.bsl 1) [(.c (.int .i64 4))]⟩,
               ⟨(some 64), none, .callG n_cost_Flat [(.t 62), (.t 63), (.c (.int .i64 12))]⟩,
               ⟨(some 13), none, .mov (.t 64)⟩]))
            (.seq (.keep [5, 8, 9, 10, 11, 12, 13, 14] (.ops false [⟨(some 65), none, .load 8 true (.t 5)⟩,
                ⟨(some 66), none, .new (.bsl 1) [(.c (.int .i64 4))]⟩,
                ⟨(some 67), none, .callG n_cost_Value [(.t 65), (.t 66)]⟩,
                ⟨(some 68), none, .callG n_long_Int_String [(.t 67)]⟩,
                ⟨(some 14), none, .mov (.t 68)⟩]))
             (.seq (.keep [8, 9, 10, 11, 12, 13, 14, 15] (.ops false [⟨(some 69), none, .load 8 true (.t 5)⟩,
                 ⟨(some 70), none, .new (.bsl 1) [(.c (.int .i64 4))]⟩,
                 ⟨(some 71), none, .callG n_cost_Steep [(.t 69), (.t 70)]⟩,
                 ⟨(some 72), none, .callG n_gimballaw18_text [(.t 71)]⟩,
                 ⟨(some 15), none, .mov (.t 72)⟩]))
              (.seq (.keep [8, 9, 10, 11, 12, 13, 14, 15, 16] (.ops false [⟨(some 73), none, .new (.bsl 1) [(.c (.int .i64 1000000)), (.c (.int .i64 (-1000000)))]⟩,
                  ⟨(some 74), none, .callG n_cost_State [(.t 73)]⟩,
                  ⟨(some 16), none, .mov (.t 74)⟩]))
               (.seq (.keep [8, 9, 10, 11, 12, 13, 14, 15, 16, 17] (.ops false [⟨(some 75), none, .new (.bsl 1) [(.c (.int .i64 1000001))]⟩,
                   ⟨(some 76), none, .callG n_cost_State [(.t 75)]⟩,
                   ⟨(some 17), none, .mov (.t 76)⟩]))
                (.seq (.keep [0] (.ops false [⟨(some 77), none, .mov (.t 8)⟩,
                    ⟨(some 78), none, .bin .eql (.t 77) (.c (.str ⟨#[52, 56]⟩))⟩,
                    ⟨(some 79), none, .mov (.t 78)⟩,
                    ⟨(some 80), (some (79, true)), .mov (.t 9)⟩,
                    ⟨(some 81), (some (79, true)), .bin .eql (.t 80) (.c (.str ⟨#[50, 50, 53]⟩))⟩,
                    ⟨(some 82), none, .pick (.t 79) (.t 81) (.c (.bool false))⟩,
                    ⟨(some 83), none, .mov (.t 82)⟩,
                    ⟨(some 84), (some (83, true)), .mov (.t 10)⟩,
                    ⟨(some 85), (some (83, true)), .bin .eql (.t 84) (.c (.str ⟨#[49, 50, 32]⟩))⟩,
                    ⟨(some 86), none, .pick (.t 83) (.t 85) (.c (.bool false))⟩,
                    ⟨(some 87), none, .mov (.t 86)⟩,
                    ⟨(some 88), (some (87, true)), .mov (.t 11)⟩,
                    ⟨(some 89), (some (87, true)), .bin .eql (.t 88) (.c (.str ⟨#[49, 53, 32]⟩))⟩,
                    ⟨(some 90), none, .pick (.t 87) (.t 89) (.c (.bool false))⟩,
                    ⟨(some 91), none, .mov (.t 90)⟩,
                    ⟨(some 92), (some (91, true)), .mov (.t 12)⟩,
                    ⟨(some 93), (some (91, true)), .un .not (.t 92)⟩,
                    ⟨(some 94), none, .pick (.t 91) (.t 93) (.c (.bool false))⟩,
                    ⟨(some 95), none, .mov (.t 94)⟩,
                    ⟨(some 96), (some (95, true)), .mov (.t 13)⟩,
                    ⟨(some 97), none, .pick (.t 95) (.t 96) (.c (.bool false))⟩,
                    ⟨(some 98), none, .mov (.t 97)⟩,
                    ⟨(some 99), (some (98, true)), .mov (.t 14)⟩,
                    ⟨(some 100), (some (98, true)), .bin .eql (.t 99) (.c (.str ⟨#[50, 48, 56]⟩))⟩,
                    ⟨(some 101), none, .pick (.t 98) (.t 100) (.c (.bool false))⟩,
                    ⟨(some 102), none, .mov (.t 101)⟩,
                    ⟨(some 103), (some (102, true)), .mov (.t 15)⟩,
                    ⟨(some 104), (some (102, true)), .bin .eql (.t 103) (.c (.str ⟨#[53, 50, 32]⟩))⟩,
                    ⟨(some 105), none, .pick (.t 102) (.t 104) (.c (.bool false))⟩,
                    ⟨(some 106), none, .mov (.t 105)⟩,
                    ⟨(some 107), (some (106, true)), .mov (.t 16)⟩,
                    ⟨(some 108), none, .pick (.t 106) (.t 107) (.c (.bool false))⟩,
                    ⟨(some 109), none, .mov (.t 108)⟩,
                    ⟨(some 110), (some (109, true)), .mov (.t 17)⟩,
                    ⟨(some 111), (some (109, true)), .un .not (.t 110)⟩,
                    ⟨(some 112), none, .pick (.t 109) (.t 111) (.c (.bool false))⟩,
                    ⟨(some 0), none, .mov (.t 112)⟩]))
                 .ret))))))))))))))))
def gimballaw18_awake.res : List RX := [(0, none)]
theorem gimballaw18_awake.m : mK pg Try.f34.ntmps gimballaw18_awake.k (Try.f34.body.getD .skip) = true := by kernel_rfl
theorem gimballaw18_awake.mr : mRes pg Try.f34.results.toList gimballaw18_awake.res = true := by kernel_rfl
theorem gimballaw18_awake.of {args : List V} {r : V} (hn : args.length = 0) (hW : W pg gimballaw18_awake.k (done gimballaw18_awake.res r) (start args)) : Ret pg n_gimballaw18_awake args r :=
  Ret_of (fn := Try.f34) Try.func34 rfl (by kernel_rfl) gimballaw18_awake.m gimballaw18_awake.mr (by rw [hn]; exact of_decide_eq_true (by kernel_rfl)) hW
def gimballaw18_read.k : K :=
  (.seq (.keep [0, 1, 2, 3, 4, 5, 12, 13] (.ops false [⟨(some 12), none, .alloc 8 (.agg [(.int .i64 0), .nil, .nil, .nil, (.bool false), (.sl []), (.bool false), (.sl [])])⟩,
     ⟨(some 13), none, .alloc 8 (.agg [(.int .i64 0), .nil, .nil, .nil, (.bool false), (.sl []), (.bool false), (.sl [])])⟩,
     ⟨(some 14), none, .mov (.c (.bool false))⟩]))
  (.seq (.keep [0, 1, 2, 3, 4, 5, 12, 13, 15] (.ops false [⟨(some 26), none, .mov (.t 5)⟩,
      ⟨(some 27), none, .callG n_gimbalref16_State [(.t 26)]⟩,
      ⟨(some 15), none, .mov (.t 27)⟩]))
   (.seq (.keep [0, 1, 2, 3, 4, 5, 12, 13, 15, 16, 17] (.ops false [⟨(some 29), none, .mov (.t 0)⟩,
       ⟨(some 30), none, .mov (.t 1)⟩,
       ⟨(some 31), none, .callG n_graph_New [(.t 29), (.t 30)]⟩,
       ⟨(some 28), none, .mov (.t 31)⟩,
       ⟨(some 32), none, .ext (.t 28) 0⟩,
       ⟨(some 33), none, .ext (.t 28) 1⟩,
       ⟨(some 16), none, .alloc 8 (.agg [(.int .i64 0), .nil, .nil, .nil, (.bool false), (.sl []), (.bool false), (.sl [])])⟩,
       ⟨none, none, .store 8 (.t 16) (.t 32)⟩,
       ⟨(some 17), none, .mov (.t 33)⟩]))
    (.seq (.keep [0, 2, 3, 4, 5, 12, 13, 15, 16, 17, 18] (.ops false [⟨(some 35), none, .mov (.t 0)⟩,
        ⟨(some 36), none, .mov (.t 1)⟩,
        ⟨(some 37), none, .callG n_gimbalref17_New [(.t 35), (.t 36)]⟩,
        ⟨(some 34), none, .mov (.t 37)⟩,
        ⟨(some 38), none, .ext (.t 34) 0⟩,
        ⟨(some 39), none, .ext (.t 34) 1⟩,
        ⟨(some 18), none, .alloc 8 (.agg [(.int .i64 0), .nil, .nil, .nil, (.bool false), (.sl []), (.bool false), (.sl [])])⟩,
        ⟨none, none, .store 8 (.t 18) (.t 38)⟩,
        ⟨(some 19), none, .mov (.t 39)⟩]))
     (.seq (.seq (.keep [0, 2, 3, 4, 12, 13, 16, 18, 55] (.ops false [⟨(some 40), none, .mov (.t 17)⟩,
          ⟨(some 41), none, .bin .neq (.t 40) (.c (.int .i64 0))⟩,
          ⟨(some 42), none, .mov (.t 41)⟩,
          ⟨(some 43), (some (42, false)), .mov (.t 4)⟩,
          ⟨(some 44), (some (42, false)), .bin .leq (.t 43) (.c (.int .i64 0))⟩,
          ⟨(some 45), none, .pick (.t 42) (.c (.bool true)) (.t 44)⟩,
          ⟨(some 46), none, .mov (.t 45)⟩,
          ⟨(some 47), (some (46, false)), .mov (.t 5)⟩,
          ⟨(some 48), (some (46, false)), .len false (.t 47)⟩,
          ⟨(some 49), (some (46, false)), .mov (.t 0)⟩,
          ⟨(some 50), (some (46, false)), .bin .neq (.t 48) (.t 49)⟩,
          ⟨(some 51), none, .pick (.t 46) (.c (.bool true)) (.t 50)⟩,
          ⟨(some 52), none, .mov (.t 51)⟩,
          ⟨(some 53), (some (52, false)), .mov (.t 15)⟩,
          ⟨(some 54), (some (52, false)), .un .not (.t 53)⟩,
          ⟨(some 55), none, .pick (.t 52) (.c (.bool true)) (.t 54)⟩]))
       (.cond (.t 55) (.seq (.keep [12, 13, 14] (.ops true [⟨(some 56), none, .loadN 8 true (.t 16) [12]⟩,
            ⟨(some 57), none, .loadN 8 true (.t 18) [12]⟩,
            ⟨none, none, .store 8 (.t 12) (.t 56)⟩,
            ⟨none, none, .store 8 (.t 13) (.t 57)⟩,
            ⟨(some 14), none, .mov (.c (.bool false))⟩]))
         .ret)
        .skip))
      (.seq (.keep [0, 3, 4, 12, 13, 16, 18, 20] (.ops false [⟨(some 58), none, .mov (.t 2)⟩,
          ⟨(some 59), none, .mov (.t 0)⟩,
          ⟨(some 60), none, .callG n_gimballaw18_mirror [(.t 58), (.t 59)]⟩,
          ⟨(some 20), none, .mov (.t 60)⟩]))
       (.seq (.keep [3, 4, 12, 13, 16, 18, 20, 21] (.ops false [⟨(some 61), none, .mov (.t 0)⟩,
           ⟨(some 62), none, .new (.mks 1 8 (.int .i64 0)) [(.t 61), (.t 61)]⟩,
           ⟨(some 21), none, .mov (.t 62)⟩]))
        (.seq (.keep [4, 12, 13, 16, 18, 20, 21] (.ops false [⟨(some 63), none, .mov (.t 21)⟩,
            ⟨(some 64), none, .mov (.t 3)⟩,
            ⟨(some 65), none, .eff (.cpy 1) [(.t 63), (.t 64)]⟩]))
         (.seq (.keep [4, 12, 13, 16, 18, 20, 21, 22, 23] (.ops false [⟨(some 67), none, .mov (.t 20)⟩,
             ⟨(some 68), none, .mov (.t 21)⟩,
             ⟨(some 69), none, .callG n_quad_Of [(.t 67), (.t 68), (.c (.int .i64 0))]⟩,
             ⟨(some 66), none, .mov (.t 69)⟩,
             ⟨(some 70), none, .ext (.t 66) 0⟩,
             ⟨(some 71), none, .ext (.t 66) 1⟩,
             ⟨(some 22), none, .alloc 4 (.agg [.nil, .nil, (.bool false), (.sl [])])⟩,
             ⟨none, none, .store 4 (.t 22) (.t 70)⟩,
             ⟨(some 23), none, .mov (.t 71)⟩]))
          (.seq (.keep [4, 12, 13, 18, 20, 21, 23, 24, 25] (.ops true [⟨(some 73), none, .load 8 true (.t 16)⟩,
              ⟨(some 74), none, .load 4 true (.t 22)⟩,
              ⟨(some 75), none, .mov (.t 4)⟩,
              ⟨(some 76), none, .call n_long_Of [(.t 75)]⟩,
              ⟨(some 77), none, .call n_graph_Graph_With [(.t 73), (.t 74), (.t 76)]⟩,
              ⟨(some 72), none, .mov (.t 77)⟩,
              ⟨(some 78), none, .ext (.t 72) 0⟩,
              ⟨(some 79), none, .ext (.t 72) 1⟩,
              ⟨(some 24), none, .alloc 8 (.agg [(.int .i64 0), .nil, .nil, .nil, (.bool false), (.sl []), (.bool false), (.sl [])])⟩,
              ⟨none, none, .store 8 (.t 24) (.t 78)⟩,
              ⟨(some 25), none, .mov (.t 79)⟩]))
           (.seq (.keep [4, 12, 13, 18, 23, 24, 25] (.ops false [⟨(some 80), none, .mov (.t 20)⟩,
               ⟨(some 81), none, .mov (.t 21)⟩,
               ⟨(some 82), none, .callG n_gimbalref08_Of [(.t 80), (.t 81), (.c (.int .i64 0))]⟩,
               ⟨(some 83), none, .fldA 2 4 true (.t 18)⟩,
               ⟨none, none, .store 4 (.t 83) (.t 82)⟩]))
            (.seq (.keep [12, 13, 18, 23, 24, 25] (.ops false [⟨(some 84), none, .mov (.t 4)⟩,
                ⟨(some 85), none, .callG n_gimbalref01_Of [(.t 84)]⟩,
                ⟨(some 86), none, .fldA 6 2 true (.t 18)⟩,
                ⟨none, none, .store 2 (.t 86) (.t 85)⟩]))
             (.seq (.keep [12, 13, 14] (.ops true [⟨(some 87), none, .loadN 8 true (.t 24) [12]⟩,
                 ⟨(some 88), none, .loadN 8 true (.t 18) [12]⟩,
                 ⟨(some 89), none, .mov (.t 23)⟩,
                 ⟨(some 90), none, .bin .eql (.t 89) (.c (.int .i64 0))⟩,
                 ⟨(some 91), none, .mov (.t 90)⟩,
                 ⟨(some 92), (some (91, true)), .mov (.t 25)⟩,
                 ⟨(some 93), (some (91, true)), .bin .eql (.t 92) (.c (.int .i64 0))⟩,
                 ⟨(some 94), none, .pick (.t 91) (.t 93) (.c (.bool false))⟩,
                 ⟨none, none, .store 8 (.t 12) (.t 87)⟩,
                 ⟨none, none, .store 8 (.t 13) (.t 88)⟩,
                 ⟨(some 14), none, .mov (.t 94)⟩]))
              .ret)))))))))))))
def gimballaw18_read.res : List RX := [(12, some (8, true)), (13, some (8, true)), (14, none)]
theorem gimballaw18_read.m : mK pg Try.f35.ntmps gimballaw18_read.k (Try.f35.body.getD .skip) = true := by kernel_rfl
theorem gimballaw18_read.mr : mRes pg Try.f35.results.toList gimballaw18_read.res = true := by kernel_rfl
theorem gimballaw18_read.of {args : List V} {r : V} (hn : args.length = 6) (hW : W pg gimballaw18_read.k (done gimballaw18_read.res r) (start args)) : Ret pg n_gimballaw18_read args r :=
  Ret_of (fn := Try.f35) Try.func35 rfl (by kernel_rfl) gimballaw18_read.m gimballaw18_read.mr (by rw [hn]; exact of_decide_eq_true (by kernel_rfl)) hW
def gimballaw18_text.k : K :=
  (.seq (.keep [0] (.ops false [⟨(some 2), none, .mov (.c (.str ⟨#[]⟩))⟩]))
  (.seq (.keep [0, 3] (.ops false [⟨(some 3), none, .mov (.c (.str ⟨#[]⟩))⟩]))
   (.seq (.seq (.keep [0, 3, 4] (.ops false [⟨(some 4), none, .mov (.c (.int .i64 0))⟩]))
     (.block 0 (.loop (.seq (.seq (.keep [0, 3, 4, 8] (.ops false [⟨(some 5), none, .mov (.t 4)⟩,
            ⟨(some 6), none, .mov (.t 0)⟩,
            ⟨(some 7), none, .len false (.t 6)⟩,
            ⟨(some 8), none, .bin .lss (.t 5) (.t 7)⟩]))
         (.cond (.t 8) .skip
          (.exit 0)))
        (.seq (.block 1 (.keep [0, 3, 4] (.ops false [⟨(some 11), none, .mov (.t 3)⟩,
             ⟨(some 12), none, .mov (.t 0)⟩,
             ⟨(some 13), none, .mov (.t 4)⟩,
             ⟨(some 14), none, .idxA 2 (.t 12) (.t 13)⟩,
             ⟨(some 15), none, .load 2 true (.t 14)⟩,
             ⟨(some 16), none, .callG n_long_Int_String [(.t 15)]⟩,
             ⟨(some 17), none, .bin .add (.t 11) (.t 16)⟩,
             ⟨(some 18), none, .bin .add (.t 17) (.c (.str ⟨#[32]⟩))⟩,
             ⟨(some 3), none, .mov (.t 18)⟩])))
         (.keep [0, 3, 4] (.ops false [⟨(some 9), none, .mov (.t 4)⟩,
            ⟨(some 10), none, .bin .add (.t 9) (.c (.int .i64 1))⟩,
            ⟨(some 4), none, .mov (.t 10)⟩])))))))
    (.seq (.keep [2] (.ops false [⟨(some 19), none, .mov (.t 3)⟩,
        ⟨(some 2), none, .mov (.t 19)⟩]))
     .ret))))
def gimballaw18_text.res : List RX := [(2, none)]
theorem gimballaw18_text.m : mK pg Try.f40.ntmps gimballaw18_text.k (Try.f40.body.getD .skip) = true := by kernel_rfl
theorem gimballaw18_text.mr : mRes pg Try.f40.results.toList gimballaw18_text.res = true := by kernel_rfl
theorem gimballaw18_text.of {args : List V} {r : V} (hn : args.length = 1) (hW : W pg gimballaw18_text.k (done gimballaw18_text.res r) (start args)) : Ret pg n_gimballaw18_text args r :=
  Ret_of (fn := Try.f40) Try.func40 rfl (by kernel_rfl) gimballaw18_text.m gimballaw18_text.mr (by rw [hn]; exact of_decide_eq_true (by kernel_rfl)) hW
def gimballaw18_mirror.k : K :=
  (.seq (.keep [0, 1] (.ops false [⟨(some 4), none, .mov (.c .nil)⟩]))
  (.seq (.keep [0, 1, 5] (.ops false [⟨(some 5), none, .mov (.c .nil)⟩]))
   (.seq (.seq (.keep [0, 1, 5, 6] (.ops false [⟨(some 6), none, .mov (.c (.int .i64 0))⟩]))
     (.block 0 (.loop (.seq (.seq (.keep [0, 1, 5, 6, 11] (.ops false [⟨(some 9), none, .mov (.t 6)⟩,
            ⟨(some 10), none, .mov (.t 1)⟩,
            ⟨(some 11), none, .bin .lss (.t 9) (.t 10)⟩]))
         (.cond (.t 11) .skip
          (.exit 0)))
        (.seq (.block 1 (.gh (.keep [0, 1, 5, 6] (.ops false [⟨(some 14), none, .mov (.t 5)⟩,
             ⟨(some 15), none, .mov (.t 1)⟩,
             ⟨(some 16), none, .new (.mks 1 8 (.int .i64 0)) [(.t 15), (.t 15)]⟩,
             ⟨(some 17), none, .new (.bsl 1) [(.t 16)]⟩,
             ⟨(some 18), none, .eff (.app 1 24) [(.t 14), (.t 17)]⟩,
             ⟨(some 5), none, .mov (.t 18)⟩]))))
         (.keep [0, 1, 5, 6] (.ops false [⟨(some 12), none, .mov (.t 6)⟩,
            ⟨(some 13), none, .bin .add (.t 12) (.c (.int .i64 1))⟩,
            ⟨(some 6), none, .mov (.t 13)⟩])))))))
    (.seq (.seq (.keep [0, 1, 5, 7] (.ops false [⟨(some 7), none, .mov (.c (.int .i64 0))⟩]))
      (.block 2 (.loop (.seq (.seq (.keep [0, 1, 5, 7, 27] (.ops false [⟨(some 19), none, .mov (.t 7)⟩,
             ⟨(some 20), none, .mov (.t 1)⟩,
             ⟨(some 21), none, .bin .lss (.t 19) (.t 20)⟩,
             ⟨(some 22), none, .mov (.t 21)⟩,
             ⟨(some 23), (some (22, true)), .mov (.t 7)⟩,
             ⟨(some 24), (some (22, true)), .mov (.t 0)⟩,
             ⟨(some 25), (some (22, true)), .len false (.t 24)⟩,
             ⟨(some 26), (some (22, true)), .bin .lss (.t 23) (.t 25)⟩,
             ⟨(some 27), none, .pick (.t 22) (.t 26) (.c (.bool false))⟩]))
          (.cond (.t 27) .skip
           (.exit 2)))
         (.seq (.block 3 (.seq (.keep [0, 1, 5, 7, 8] (.ops false [⟨(some 8), none, .mov (.c (.int .i64 0))⟩]))
            (.block 4 (.loop (.seq (.seq (.keep [0, 1, 5, 7, 8, 41] (.ops false [⟨(some 30), none, .mov (.t 8)⟩,
                   ⟨(some 31), none, .mov (.t 7)⟩,
                   ⟨(some 32), none, .bin .leq (.t 30) (.t 31)⟩,
                   ⟨(some 33), none, .mov (.t 32)⟩,
                   ⟨(some 34), (some (33, true)), .mov (.t 8)⟩,
                   ⟨(some 35), (some (33, true)), .mov (.t 0)⟩,
                   ⟨(some 36), (some (33, true)), .mov (.t 7)⟩,
                   ⟨(some 37), (some (33, true)), .idxA 1 (.t 35) (.t 36)⟩,
                   ⟨(some 38), (some (33, true)), .load 1 false (.t 37)⟩,
                   ⟨(some 39), (some (33, true)), .len false (.t 38)⟩,
                   ⟨(some 40), (some (33, true)), .bin .lss (.t 34) (.t 39)⟩,
                   ⟨(some 41), none, .pick (.t 33) (.t 40) (.c (.bool false))⟩]))
                (.cond (.t 41) .skip
                 (.exit 4)))
               (.seq (.block 5 (.seq (.keep [0, 1, 5, 7, 8] (.ops true [⟨(some 44), none, .mov (.t 5)⟩,
                     ⟨(some 45), none, .mov (.t 7)⟩,
                     ⟨(some 46), none, .idxA 1 (.t 44) (.t 45)⟩,
                     ⟨(some 47), none, .load 1 false (.t 46)⟩,
                     ⟨(some 48), none, .mov (.t 8)⟩,
                     ⟨(some 49), none, .mov (.t 0)⟩,
                     ⟨(some 50), none, .mov (.t 7)⟩,
                     ⟨(some 51), none, .idxA 1 (.t 49) (.t 50)⟩,
                     ⟨(some 52), none, .load 1 false (.t 51)⟩,
                     ⟨(some 53), none, .mov (.t 8)⟩,
                     ⟨(some 54), none, .idxA 1 (.t 52) (.t 53)⟩,
                     ⟨(some 55), none, .load 1 false (.t 54)⟩,
                     ⟨(some 56), none, .idxA 1 (.t 47) (.t 48)⟩,
                     ⟨none, none, .store 1 (.t 56) (.t 55)⟩]))
                  (.keep [0, 1, 5, 7, 8] (.ops true [⟨(some 57), none, .mov (.t 5)⟩,
                     ⟨(some 58), none, .mov (.t 8)⟩,
                     ⟨(some 59), none, .idxA 1 (.t 57) (.t 58)⟩,
                     ⟨(some 60), none, .load 1 false (.t 59)⟩,
                     ⟨(some 61), none, .mov (.t 7)⟩,
                     ⟨(some 62), none, .mov (.t 0)⟩,
                     ⟨(some 63), none, .mov (.t 7)⟩,
                     ⟨(some 64), none, .idxA 1 (.t 62) (.t 63)⟩,
                     ⟨(some 65), none, .load 1 false (.t 64)⟩,
                     ⟨(some 66), none, .mov (.t 8)⟩,
                     ⟨(some 67), none, .idxA 1 (.t 65) (.t 66)⟩,
                     ⟨(some 68), none, .load 1 false (.t 67)⟩,
                     ⟨(some 69), none, .idxA 1 (.t 60) (.t 61)⟩,
                     ⟨none, none, .store 1 (.t 69) (.t 68)⟩]))))
                (.keep [0, 1, 5, 7, 8] (.ops false [⟨(some 42), none, .mov (.t 8)⟩,
                   ⟨(some 43), none, .bin .add (.t 42) (.c (.int .i64 1))⟩,
                   ⟨(some 8), none, .mov (.t 43)⟩]))))))))
          (.keep [0, 1, 5, 7] (.ops false [⟨(some 28), none, .mov (.t 7)⟩,
             ⟨(some 29), none, .bin .add (.t 28) (.c (.int .i64 1))⟩,
             ⟨(some 7), none, .mov (.t 29)⟩])))))))
     (.seq (.keep [4] (.ops false [⟨(some 70), none, .mov (.t 5)⟩,
         ⟨(some 4), none, .mov (.t 70)⟩]))
      .ret)))))
def gimballaw18_mirror.res : List RX := [(4, none)]
theorem gimballaw18_mirror.m : mK pg Try.f42.ntmps gimballaw18_mirror.k (Try.f42.body.getD .skip) = true := by kernel_rfl
theorem gimballaw18_mirror.mr : mRes pg Try.f42.results.toList gimballaw18_mirror.res = true := by kernel_rfl
theorem gimballaw18_mirror.of {args : List V} {r : V} (hn : args.length = 2) (hW : W pg gimballaw18_mirror.k (done gimballaw18_mirror.res r) (start args)) : Ret pg n_gimballaw18_mirror args r :=
  Ret_of (fn := Try.f42) Try.func42 rfl (by kernel_rfl) gimballaw18_mirror.m gimballaw18_mirror.mr (by rw [hn]; exact of_decide_eq_true (by kernel_rfl)) hW
end Go.Gim

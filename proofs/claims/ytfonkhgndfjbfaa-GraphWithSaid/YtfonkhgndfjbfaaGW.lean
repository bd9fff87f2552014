import Derived.Test.YtfonkhgndfjbfaaGN
/- Functions' code as data (written by wip/tools/gen.py), and the step to their contracts. -/
set_option maxRecDepth 100000
namespace Go.Gim
open Go.Proofs
def gimballaw17_GraphWith.k : K :=
  (.seq (.keep [0, 1, 2] (.ops false [⟨(some 6), none, .mov (.c (.bool false))⟩]))
  (.seq (.keep [0, 1, 2, 7] (.ops false [⟨(some 16), none, .callG n_gimballaw17_awake []⟩,
      ⟨(some 7), none, .mov (.t 16)⟩]))
   (.seq (.keep [0, 1, 2, 7, 8, 9] (.ops false [⟨(some 18), none, .mov (.t 0)⟩,
       ⟨(some 19), none, .callG n_graph_New [(.t 18), (.c .nil)]⟩,
       ⟨(some 17), none, .mov (.t 19)⟩,
       ⟨(some 20), none, .ext (.t 17) 0⟩,
       ⟨(some 21), none, .ext (.t 17) 1⟩,
       ⟨(some 8), none, .alloc 8 (.agg [(.int .i64 0), .nil, .nil, .nil, (.bool false), (.sl []), (.bool false), (.sl [])])⟩,
       ⟨none, none, .store 8 (.t 8) (.t 20)⟩,
       ⟨(some 9), none, .mov (.t 21)⟩]))
    (.seq (.seq (.keep [0, 1, 2, 7, 8, 31] (.ops false [⟨(some 22), none, .mov (.t 9)⟩,
         ⟨(some 23), none, .bin .neq (.t 22) (.c (.int .i64 0))⟩,
         ⟨(some 24), none, .mov (.t 23)⟩,
         ⟨(some 25), (some (24, false)), .mov (.t 1)⟩,
         ⟨(some 26), (some (24, false)), .bin .lss (.t 25) (.c (.int .i64 0))⟩,
         ⟨(some 27), none, .pick (.t 24) (.c (.bool true)) (.t 26)⟩,
         ⟨(some 28), none, .mov (.t 27)⟩,
         ⟨(some 29), (some (28, false)), .mov (.t 1)⟩,
         ⟨(some 30), (some (28, false)), .bin .gtr (.t 29) (.c (.int .i64 12))⟩,
         ⟨(some 31), none, .pick (.t 28) (.c (.bool true)) (.t 30)⟩]))
      (.cond (.t 31) (.seq (.keep [6] (.ops false [⟨(some 32), none, .mov (.t 7)⟩,
           ⟨(some 6), none, .mov (.t 32)⟩]))
        .ret)
       .skip))
     (.seq (.keep [0, 1, 2, 7, 8, 10, 11] (.ops true [⟨(some 34), none, .mov (.t 1)⟩,
         ⟨(some 35), none, .call n_gimballaw17_mirror [(.c .nil), (.t 34)]⟩,
         ⟨(some 36), none, .mov (.t 1)⟩,
         ⟨(some 37), none, .red (.mkz 8 .i64) [(.t 36), (.t 36)]⟩,
         ⟨(some 38), none, .call n_quad_Of [(.t 35), (.t 37), (.c (.int .i64 5))]⟩,
         ⟨(some 33), none, .mov (.t 38)⟩,
         ⟨(some 39), none, .ext (.t 33) 0⟩,
         ⟨(some 40), none, .ext (.t 33) 1⟩,
         ⟨(some 10), none, .alloc 4 (.agg [.nil, .nil, (.bool false), (.sl [])])⟩,
         ⟨none, none, .store 4 (.t 10) (.t 39)⟩,
         ⟨(some 11), none, .mov (.t 40)⟩]))
      (.seq (.seq (.keep [0, 1, 2, 7, 8, 10, 42] (.ops false [⟨(some 41), none, .mov (.t 11)⟩,
           ⟨(some 42), none, .bin .neq (.t 41) (.c (.int .i64 0))⟩]))
        (.cond (.t 42) (.seq (.keep [6] (.ops false [⟨(some 6), none, .mov (.c (.bool false))⟩]))
          .ret)
         .skip))
       (.seq (.keep [0, 1, 2, 7, 12, 13] (.ops true [⟨(some 44), none, .load 8 true (.t 8)⟩,
           ⟨(some 45), none, .load 4 true (.t 10)⟩,
           ⟨(some 46), none, .mov (.t 2)⟩,
           ⟨(some 47), none, .call n_long_Of [(.t 46)]⟩,
           ⟨(some 48), none, .call n_graph_Graph_With [(.t 44), (.t 45), (.t 47)]⟩,
           ⟨(some 43), none, .mov (.t 48)⟩,
           ⟨(some 49), none, .ext (.t 43) 0⟩,
           ⟨(some 50), none, .ext (.t 43) 1⟩,
           ⟨(some 12), none, .alloc 8 (.agg [(.int .i64 0), .nil, .nil, .nil, (.bool false), (.sl []), (.bool false), (.sl [])])⟩,
           ⟨none, none, .store 8 (.t 12) (.t 49)⟩,
           ⟨(some 13), none, .mov (.t 50)⟩]))
        (.seq (.seq (.keep [0, 2, 7, 12, 13, 57] (.ops false [⟨(some 51), none, .mov (.t 1)⟩,
             ⟨(some 52), none, .mov (.t 0)⟩,
             ⟨(some 53), none, .bin .neq (.t 51) (.t 52)⟩,
             ⟨(some 54), none, .mov (.t 53)⟩,
             ⟨(some 55), (some (54, false)), .mov (.t 2)⟩,
             ⟨(some 56), (some (54, false)), .bin .leq (.t 55) (.c (.int .i64 0))⟩,
             ⟨(some 57), none, .pick (.t 54) (.c (.bool true)) (.t 56)⟩]))
          (.cond (.t 57) (.seq (.keep [6] (.ops false [⟨(some 58), none, .mov (.t 7)⟩,
               ⟨(some 59), none, .mov (.t 58)⟩,
               ⟨(some 60), (some (59, true)), .mov (.t 13)⟩,
               ⟨(some 61), (some (59, true)), .bin .eql (.t 60) (.c (.int .i64 1))⟩,
               ⟨(some 62), none, .pick (.t 59) (.t 61) (.c (.bool false))⟩,
               ⟨(some 63), none, .mov (.t 62)⟩,
               ⟨(some 64), (some (63, true)), .fldA 0 1 false (.t 12)⟩,
               ⟨(some 65), (some (63, true)), .load 1 false (.t 64)⟩,
               ⟨(some 66), (some (63, true)), .bin .eql (.t 65) (.c (.int .i64 0))⟩,
               ⟨(some 67), none, .pick (.t 63) (.t 66) (.c (.bool false))⟩,
               ⟨(some 6), none, .mov (.t 67)⟩]))
            .ret)
           .skip))
         (.seq (.keep [0, 7, 12, 13, 14] (.ops true [⟨(some 68), none, .fldA 6 2 true (.t 12)⟩,
             ⟨(some 69), none, .load 2 true (.t 68)⟩,
             ⟨(some 70), none, .mov (.t 2)⟩,
             ⟨(some 71), none, .call n_long_Of [(.t 70)]⟩,
             ⟨(some 72), none, .call n_long_Int_Cmp [(.t 69), (.t 71)]⟩,
             ⟨(some 14), none, .mov (.t 72)⟩]))
          (.seq (.keep [0, 7, 12, 13, 14, 15] (.ops true [⟨(some 73), none, .fldA 2 4 true (.t 12)⟩,
              ⟨(some 74), none, .fldA 2 2 true (.t 73)⟩,
              ⟨(some 75), none, .load 2 true (.t 74)⟩,
              ⟨(some 76), none, .call n_long_Of [(.c (.int .i64 5))]⟩,
              ⟨(some 77), none, .call n_long_Int_Cmp [(.t 75), (.t 76)]⟩,
              ⟨(some 15), none, .mov (.t 77)⟩]))
           (.seq (.keep [6] (.ops false [⟨(some 78), none, .mov (.t 7)⟩,
               ⟨(some 79), none, .mov (.t 78)⟩,
               ⟨(some 80), (some (79, true)), .mov (.t 13)⟩,
               ⟨(some 81), (some (79, true)), .bin .eql (.t 80) (.c (.int .i64 0))⟩,
               ⟨(some 82), none, .pick (.t 79) (.t 81) (.c (.bool false))⟩,
               ⟨(some 83), none, .mov (.t 82)⟩,
               ⟨(some 84), (some (83, true)), .fldA 0 1 false (.t 12)⟩,
               ⟨(some 85), (some (83, true)), .load 1 false (.t 84)⟩,
               ⟨(some 86), (some (83, true)), .mov (.t 0)⟩,
               ⟨(some 87), (some (83, true)), .bin .eql (.t 85) (.t 86)⟩,
               ⟨(some 88), none, .pick (.t 83) (.t 87) (.c (.bool false))⟩,
               ⟨(some 89), none, .mov (.t 88)⟩,
               ⟨(some 90), (some (89, true)), .mov (.t 14)⟩,
               ⟨(some 91), (some (89, true)), .bin .eql (.t 90) (.c (.int .i64 0))⟩,
               ⟨(some 92), none, .pick (.t 89) (.t 91) (.c (.bool false))⟩,
               ⟨(some 93), none, .mov (.t 92)⟩,
               ⟨(some 94), (some (93, true)), .mov (.t 15)⟩,
               ⟨(some 95), (some (93, true)), .bin .eql (.t 94) (.c (.int .i64 0))⟩,
               ⟨(some 96), none, .pick (.t 93) (.t 95) (.c (.bool false))⟩,
               ⟨(some 6), none, .mov (.t 96)⟩]))
            .ret)))))))))))
def gimballaw17_GraphWith.res : List RX := [(6, none)]
theorem gimballaw17_GraphWith.m : mK pg Try.f5.ntmps gimballaw17_GraphWith.k (Try.f5.body.getD .skip) = true := by kernel_rfl
theorem gimballaw17_GraphWith.mr : mRes pg Try.f5.results.toList gimballaw17_GraphWith.res = true := by kernel_rfl
theorem gimballaw17_GraphWith.of {args : List V} {r : V} (hn : args.length = 3) (hW : W pg gimballaw17_GraphWith.k (done gimballaw17_GraphWith.res r) (start args)) : Ret pg n_gimballaw17_GraphWith args r :=
  Ret_of (fn := Try.f5) Try.func5 rfl (by kernel_rfl) gimballaw17_GraphWith.m gimballaw17_GraphWith.mr (by rw [hn]; exact of_decide_eq_true (by kernel_rfl)) hW
def gimballaw17_awake.k : K :=
  (.seq (.keep [] (.ops false [⟨(some 0), none, .mov (.c (.bool false))⟩]))
  (.seq (.keep [1] (.ops false [⟨(some 19), none, .new (.bsl 1) [(.c (.int .i64 1))]⟩,
      ⟨(some 20), none, .build [(.sl []), (.int .i64 0), (.int .i64 0), (.int .i64 0)] [(0, 1, (.t 19)), (2, 1, (.c (.int .i64 5))), (3, 1, (.c (.int .i64 3)))]⟩,
      ⟨(some 1), none, .alloc 4 (.agg [(.sl []), (.int .i64 0), (.int .i64 0), (.int .i64 0)])⟩,
      ⟨none, none, .store 4 (.t 1) (.t 20)⟩]))
   (.seq (.keep [1, 2, 3] (.ops false [⟨(some 22), none, .load 4 true (.t 1)⟩,
       ⟨(some 23), none, .new (.bsl 4) [(.t 22)]⟩,
       ⟨(some 24), none, .callG n_graph_New [(.c (.int .i64 1)), (.t 23)]⟩,
       ⟨(some 21), none, .mov (.t 24)⟩,
       ⟨(some 25), none, .ext (.t 21) 0⟩,
       ⟨(some 26), none, .ext (.t 21) 1⟩,
       ⟨(some 2), none, .alloc 8 (.agg [(.int .i64 0), .nil, .nil, .nil, (.bool false), (.sl []), (.bool false), (.sl [])])⟩,
       ⟨none, none, .store 8 (.t 2) (.t 25)⟩,
       ⟨(some 3), none, .mov (.t 26)⟩]))
    (.seq (.keep [1, 2, 3, 5] (.ops false [⟨(some 28), none, .callG n_graph_New [(.c (.int .i64 0)), (.c .nil)]⟩,
        ⟨(some 27), none, .mov (.t 28)⟩,
        ⟨(some 29), none, .ext (.t 27) 0⟩,
        ⟨(some 30), none, .ext (.t 27) 1⟩,
        ⟨(some 4), none, .alloc 8 (.agg [(.int .i64 0), .nil, .nil, .nil, (.bool false), (.sl []), (.bool false), (.sl [])])⟩,
        ⟨none, none, .store 8 (.t 4) (.t 29)⟩,
        ⟨(some 5), none, .mov (.t 30)⟩]))
     (.seq (.keep [1, 2, 3, 5, 7] (.ops false [⟨(some 32), none, .new (.mks 4 48 (.agg [(.sl []), (.int .i64 0), (.int .i64 0), (.int .i64 0)])) [(.c (.int .i64 61)), (.c (.int .i64 61))]⟩,
         ⟨(some 33), none, .callG n_graph_New [(.c (.int .i64 1)), (.t 32)]⟩,
         ⟨(some 31), none, .mov (.t 33)⟩,
         ⟨(some 34), none, .ext (.t 31) 0⟩,
         ⟨(some 35), none, .ext (.t 31) 1⟩,
         ⟨(some 6), none, .alloc 8 (.agg [(.int .i64 0), .nil, .nil, .nil, (.bool false), (.sl []), (.bool false), (.sl [])])⟩,
         ⟨none, none, .store 8 (.t 6) (.t 34)⟩,
         ⟨(some 7), none, .mov (.t 35)⟩]))
      (.seq (.keep [1, 2, 3, 5, 7, 9] (.ops false [⟨(some 37), none, .new (.bsl 1) [(.c (.int .i64 1)), (.c (.int .i64 2))]⟩,
          ⟨(some 38), none, .build [(.sl []), (.int .i64 0), (.int .i64 0), (.int .i64 0)] [(0, 1, (.t 37)), (2, 1, (.c (.int .i64 5))), (3, 1, (.c (.int .i64 3)))]⟩,
          ⟨(some 39), none, .new (.bsl 4) [(.t 38)]⟩,
          ⟨(some 40), none, .callG n_graph_New [(.c (.int .i64 1)), (.t 39)]⟩,
          ⟨(some 36), none, .mov (.t 40)⟩,
          ⟨(some 41), none, .ext (.t 36) 0⟩,
          ⟨(some 42), none, .ext (.t 36) 1⟩,
          ⟨(some 8), none, .alloc 8 (.agg [(.int .i64 0), .nil, .nil, .nil, (.bool false), (.sl []), (.bool false), (.sl [])])⟩,
          ⟨none, none, .store 8 (.t 8) (.t 41)⟩,
          ⟨(some 9), none, .mov (.t 42)⟩]))
       (.seq (.seq (.keep [1, 2, 5, 7, 9, 50] (.ops false [⟨(some 43), none, .mov (.t 3)⟩,
            ⟨(some 44), none, .bin .neq (.t 43) (.c (.int .i64 0))⟩,
            ⟨(some 45), none, .mov (.t 44)⟩,
            ⟨(some 46), (some (45, false)), .fldA 1 1 false (.t 2)⟩,
            ⟨(some 47), (some (45, false)), .load 1 false (.t 46)⟩,
            ⟨(some 48), (some (45, false)), .len false (.t 47)⟩,
            ⟨(some 49), (some (45, false)), .bin .neq (.t 48) (.c (.int .i64 1))⟩,
            ⟨(some 50), none, .pick (.t 45) (.c (.bool true)) (.t 49)⟩]))
         (.cond (.t 50) (.seq (.keep [0] (.ops false [⟨(some 0), none, .mov (.c (.bool false))⟩]))
           .ret)
          .skip))
        (.seq (.keep [1, 2, 5, 7, 9, 10] (.ops false [⟨(some 51), none, .load 8 true (.t 2)⟩,
            ⟨(some 52), none, .load 4 true (.t 1)⟩,
            ⟨(some 53), none, .new (.bsl 1) [(.c (.int .i64 4))]⟩,
            ⟨(some 54), none, .callG n_graph_Graph_Share [(.t 51), (.t 52), (.t 53)]⟩,
            ⟨(some 10), none, .mov (.t 54)⟩]))
         (.seq (.keep [1, 2, 5, 7, 9, 10, 11] (.ops false [⟨(some 55), none, .load 8 true (.t 2)⟩,
             ⟨(some 56), none, .load 4 true (.t 1)⟩,
             ⟨(some 57), none, .new (.bsl 1) [(.c (.int .i64 10))]⟩,
             ⟨(some 58), none, .callG n_graph_Graph_Share [(.t 55), (.t 56), (.t 57)]⟩,
             ⟨(some 11), none, .mov (.t 58)⟩]))
          (.seq (.keep [1, 2, 5, 7, 9, 10, 11, 12] (.ops false [⟨(some 59), none, .load 8 true (.t 2)⟩,
              ⟨(some 60), none, .load 4 true (.t 1)⟩,
              ⟨(some 61), none, .new (.bsl 1) [(.c (.int .i64 1000000))]⟩,
              ⟨(some 62), none, .callG n_graph_Graph_Share [(.t 59), (.t 60), (.t 61)]⟩,
              ⟨(some 12), none, .mov (.t 62)⟩]))
           (.seq (.keep [1, 2, 5, 7, 9, 10, 11, 12, 13] (.ops false [⟨(some 63), none, .load 8 true (.t 2)⟩,
               ⟨(some 64), none, .new (.bsl 1) [(.c (.int .i64 4))]⟩,
               ⟨(some 65), none, .callG n_graph_Graph_Curve [(.t 63), (.t 64)]⟩,
               ⟨(some 66), none, .callG n_gimballaw17_whole [(.t 65)]⟩,
               ⟨(some 13), none, .mov (.t 66)⟩]))
            (.seq (.keep [1, 5, 7, 9, 10, 11, 12, 13, 14] (.ops false [⟨(some 67), none, .load 8 true (.t 2)⟩,
                ⟨(some 68), none, .new (.bsl 1) [(.c (.int .i64 10))]⟩,
                ⟨(some 69), none, .callG n_graph_Graph_Curve [(.t 67), (.t 68)]⟩,
                ⟨(some 70), none, .callG n_gimballaw17_whole [(.t 69)]⟩,
                ⟨(some 14), none, .mov (.t 70)⟩]))
             (.seq (.keep [5, 7, 9, 10, 11, 12, 13, 14, 15, 17] (.ops false [⟨(some 72), none, .load 4 true (.t 1)⟩,
                 ⟨(some 73), none, .new (.bsl 4) [(.t 72)]⟩,
                 ⟨(some 74), none, .new (.bsl 1) [(.c (.int .i64 7))]⟩,
                 ⟨(some 75), none, .new (.bsl 1) [(.t 74)]⟩,
                 ⟨(some 76), none, .new (.bsl 1) [(.c (.int .i64 4))]⟩,
                 ⟨(some 77), none, .callG n_gimballaw17_read [(.c (.int .i64 1)), (.t 73), (.t 75), (.c (.int .i64 2)), (.t 76)]⟩,
                 ⟨(some 71), none, .mov (.t 77)⟩,
                 ⟨(some 78), none, .ext (.t 71) 0⟩,
                 ⟨(some 79), none, .ext (.t 71) 1⟩,
                 ⟨(some 80), none, .ext (.t 71) 2⟩,
                 ⟨(some 15), none, .alloc 8 (.agg [(.int .i64 0), .nil, .nil, .nil, (.bool false), (.sl []), (.bool false), (.sl [])])⟩,
                 ⟨(some 16), none, .alloc 8 (.agg [(.int .i64 0), .nil, .nil, .nil, (.bool false), (.sl []), (.bool false), (.sl [])])⟩,
                 ⟨none, none, .store 8 (.t 15) (.t 78)⟩,
                 ⟨none, none, .store 8 (.t 16) (.t 79)⟩,
                 ⟨(some 17), none, .mov (.t 80)⟩]))
              (.seq (.seq (.keep [5, 7, 9, 10, 11, 12, 13, 14, 15, 82] (.ops false [⟨(some 81), none, .mov (.t 17)⟩,
                   ⟨(some 82), none, .un .not (.t 81)⟩]))
                (.cond (.t 82) (.seq (.keep [0] (.ops false [⟨(some 0), none, .mov (.c (.bool false))⟩]))
                  .ret)
                 .skip))
               (.seq (.keep [5, 7, 9, 10, 11, 12, 13, 14, 18] (.ops false [⟨(some 83), none, .load 8 true (.t 15)⟩,
                   ⟨(some 84), none, .new (.bsl 1) [(.c (.int .i64 4))]⟩,
                   ⟨(some 85), none, .callG n_graph_Graph_Curve [(.t 83), (.t 84)]⟩,
                   ⟨(some 86), none, .callG n_gimballaw17_whole [(.t 85)]⟩,
                   ⟨(some 18), none, .mov (.t 86)⟩]))
                (.seq (.keep [0] (.ops false [⟨(some 87), none, .mov (.t 5)⟩,
                    ⟨(some 88), none, .bin .eql (.t 87) (.c (.int .i64 1))⟩,
                    ⟨(some 89), none, .mov (.t 88)⟩,
                    ⟨(some 90), (some (89, true)), .mov (.t 7)⟩,
                    ⟨(some 91), (some (89, true)), .bin .eql (.t 90) (.c (.int .i64 3))⟩,
                    ⟨(some 92), none, .pick (.t 89) (.t 91) (.c (.bool false))⟩,
                    ⟨(some 93), none, .mov (.t 92)⟩,
                    ⟨(some 94), (some (93, true)), .mov (.t 9)⟩,
                    ⟨(some 95), (some (93, true)), .bin .eql (.t 94) (.c (.int .i64 160))⟩,
                    ⟨(some 96), none, .pick (.t 93) (.t 95) (.c (.bool false))⟩,
                    ⟨(some 97), none, .mov (.t 96)⟩,
                    ⟨(some 98), (some (97, true)), .mov (.t 10)⟩,
                    ⟨(some 99), (some (97, true)), .bin .eql (.t 98) (.c (.int .i64 1024))⟩,
                    ⟨(some 100), none, .pick (.t 97) (.t 99) (.c (.bool false))⟩,
                    ⟨(some 101), none, .mov (.t 100)⟩,
                    ⟨(some 102), (some (101, true)), .mov (.t 11)⟩,
                    ⟨(some 103), (some (101, true)), .bin .eql (.t 102) (.c (.int .i64 512))⟩,
                    ⟨(some 104), none, .pick (.t 101) (.t 103) (.c (.bool false))⟩,
                    ⟨(some 105), none, .mov (.t 104)⟩,
                    ⟨(some 106), (some (105, true)), .mov (.t 12)⟩,
                    ⟨(some 107), (some (105, true)), .bin .eql (.t 106) (.c (.int .i64 1))⟩,
                    ⟨(some 108), none, .pick (.t 105) (.t 107) (.c (.bool false))⟩,
                    ⟨(some 109), none, .mov (.t 108)⟩,
                    ⟨(some 110), (some (109, true)), .mov (.t 13)⟩,
                    ⟨(some 111), (some (109, true)), .bin .eql (.t 110) (.c (.str ⟨#[51, 48, 55, 50, 32, 59]⟩))⟩,
                    ⟨(some 112), none, .pick (.t 109) (.t 111) (.c (.bool false))⟩,
                    ⟨(some 113), none, .mov (.t 112)⟩,
                    ⟨(some 114), (some (113, true)), .mov (.t 14)⟩,
                    ⟨(some 115), (some (113, true)), .bin .eql (.t 114) (.c (.str ⟨#[49, 53, 51, 54, 32, 59]⟩))⟩,
                    ⟨(some 116), none, .pick (.t 113) (.t 115) (.c (.bool false))⟩,
                    ⟨(some 117), none, .mov (.t 116)⟩,
                    ⟨(some 118), (some (117, true)), .mov (.t 18)⟩,
                    ⟨(some 119), (some (117, true)), .bin .eql (.t 118) (.c (.str ⟨#[49, 51, 51, 49, 50, 32, 59]⟩))⟩,
                    ⟨(some 120), none, .pick (.t 117) (.t 119) (.c (.bool false))⟩,
                    ⟨(some 0), none, .mov (.t 120)⟩]))
                 .ret))))))))))))))))
def gimballaw17_awake.res : List RX := [(0, none)]
theorem gimballaw17_awake.m : mK pg Try.f13.ntmps gimballaw17_awake.k (Try.f13.body.getD .skip) = true := by kernel_rfl
theorem gimballaw17_awake.mr : mRes pg Try.f13.results.toList gimballaw17_awake.res = true := by kernel_rfl
theorem gimballaw17_awake.of {args : List V} {r : V} (hn : args.length = 0) (hW : W pg gimballaw17_awake.k (done gimballaw17_awake.res r) (start args)) : Ret pg n_gimballaw17_awake args r :=
  Ret_of (fn := Try.f13) Try.func13 rfl (by kernel_rfl) gimballaw17_awake.m gimballaw17_awake.mr (by rw [hn]; exact of_decide_eq_true (by kernel_rfl)) hW
def gimballaw17_read.k : K :=
  (.seq (.keep [0, 1, 2, 3, 4, 10, 11] (.ops false [⟨(some 10), none, .alloc 8 (.agg [(.int .i64 0), .nil, .nil, .nil, (.bool false), (.sl []), (.bool false), (.sl [])])⟩,
     ⟨(some 11), none, .alloc 8 (.agg [(.int .i64 0), .nil, .nil, .nil, (.bool false), (.sl []), (.bool false), (.sl [])])⟩,
     ⟨(some 12), none, .mov (.c (.bool false))⟩]))
  (.seq (.keep [0, 1, 2, 3, 4, 10, 11, 13] (.ops false [⟨(some 23), none, .mov (.t 4)⟩,
      ⟨(some 24), none, .callG n_gimbalref16_State [(.t 23)]⟩,
      ⟨(some 13), none, .mov (.t 24)⟩]))
   (.seq (.keep [0, 1, 2, 3, 4, 10, 11, 13, 14, 15] (.ops false [⟨(some 26), none, .mov (.t 0)⟩,
       ⟨(some 27), none, .mov (.t 1)⟩,
       ⟨(some 28), none, .callG n_graph_New [(.t 26), (.t 27)]⟩,
       ⟨(some 25), none, .mov (.t 28)⟩,
       ⟨(some 29), none, .ext (.t 25) 0⟩,
       ⟨(some 30), none, .ext (.t 25) 1⟩,
       ⟨(some 14), none, .alloc 8 (.agg [(.int .i64 0), .nil, .nil, .nil, (.bool false), (.sl []), (.bool false), (.sl [])])⟩,
       ⟨none, none, .store 8 (.t 14) (.t 29)⟩,
       ⟨(some 15), none, .mov (.t 30)⟩]))
    (.seq (.keep [0, 2, 3, 4, 10, 11, 13, 14, 15, 16] (.ops false [⟨(some 32), none, .mov (.t 0)⟩,
        ⟨(some 33), none, .mov (.t 1)⟩,
        ⟨(some 34), none, .callG n_gimbalref17_New [(.t 32), (.t 33)]⟩,
        ⟨(some 31), none, .mov (.t 34)⟩,
        ⟨(some 35), none, .ext (.t 31) 0⟩,
        ⟨(some 36), none, .ext (.t 31) 1⟩,
        ⟨(some 16), none, .alloc 8 (.agg [(.int .i64 0), .nil, .nil, .nil, (.bool false), (.sl []), (.bool false), (.sl [])])⟩,
        ⟨none, none, .store 8 (.t 16) (.t 35)⟩,
        ⟨(some 17), none, .mov (.t 36)⟩]))
     (.seq (.seq (.keep [0, 2, 3, 10, 11, 14, 16, 52] (.ops false [⟨(some 37), none, .mov (.t 15)⟩,
          ⟨(some 38), none, .bin .neq (.t 37) (.c (.int .i64 0))⟩,
          ⟨(some 39), none, .mov (.t 38)⟩,
          ⟨(some 40), (some (39, false)), .mov (.t 3)⟩,
          ⟨(some 41), (some (39, false)), .bin .leq (.t 40) (.c (.int .i64 0))⟩,
          ⟨(some 42), none, .pick (.t 39) (.c (.bool true)) (.t 41)⟩,
          ⟨(some 43), none, .mov (.t 42)⟩,
          ⟨(some 44), (some (43, false)), .mov (.t 4)⟩,
          ⟨(some 45), (some (43, false)), .len false (.t 44)⟩,
          ⟨(some 46), (some (43, false)), .mov (.t 0)⟩,
          ⟨(some 47), (some (43, false)), .bin .neq (.t 45) (.t 46)⟩,
          ⟨(some 48), none, .pick (.t 43) (.c (.bool true)) (.t 47)⟩,
          ⟨(some 49), none, .mov (.t 48)⟩,
          ⟨(some 50), (some (49, false)), .mov (.t 13)⟩,
          ⟨(some 51), (some (49, false)), .un .not (.t 50)⟩,
          ⟨(some 52), none, .pick (.t 49) (.c (.bool true)) (.t 51)⟩]))
       (.cond (.t 52) (.seq (.keep [10, 11, 12] (.ops true [⟨(some 53), none, .loadN 8 true (.t 14) [10]⟩,
            ⟨(some 54), none, .loadN 8 true (.t 16) [10]⟩,
            ⟨none, none, .store 8 (.t 10) (.t 53)⟩,
            ⟨none, none, .store 8 (.t 11) (.t 54)⟩,
            ⟨(some 12), none, .mov (.c (.bool false))⟩]))
         .ret)
        .skip))
      (.seq (.keep [0, 3, 10, 11, 14, 16, 18] (.ops false [⟨(some 55), none, .mov (.t 2)⟩,
          ⟨(some 56), none, .mov (.t 0)⟩,
          ⟨(some 57), none, .callG n_gimballaw17_mirror [(.t 55), (.t 56)]⟩,
          ⟨(some 18), none, .mov (.t 57)⟩]))
       (.seq (.keep [0, 3, 10, 11, 14, 16, 18, 19, 20] (.ops false [⟨(some 59), none, .mov (.t 18)⟩,
           ⟨(some 60), none, .mov (.t 0)⟩,
           ⟨(some 61), none, .new (.mks 1 8 (.int .i64 0)) [(.t 60), (.t 60)]⟩,
           ⟨(some 62), none, .callG n_quad_Of [(.t 59), (.t 61), (.c (.int .i64 0))]⟩,
           ⟨(some 58), none, .mov (.t 62)⟩,
           ⟨(some 63), none, .ext (.t 58) 0⟩,
           ⟨(some 64), none, .ext (.t 58) 1⟩,
           ⟨(some 19), none, .alloc 4 (.agg [.nil, .nil, (.bool false), (.sl [])])⟩,
           ⟨none, none, .store 4 (.t 19) (.t 63)⟩,
           ⟨(some 20), none, .mov (.t 64)⟩]))
        (.seq (.keep [0, 3, 10, 11, 16, 18, 20, 21, 22] (.ops true [⟨(some 66), none, .load 8 true (.t 14)⟩,
            ⟨(some 67), none, .load 4 true (.t 19)⟩,
            ⟨(some 68), none, .mov (.t 3)⟩,
            ⟨(some 69), none, .call n_long_Of [(.t 68)]⟩,
            ⟨(some 70), none, .call n_graph_Graph_With [(.t 66), (.t 67), (.t 69)]⟩,
            ⟨(some 65), none, .mov (.t 70)⟩,
            ⟨(some 71), none, .ext (.t 65) 0⟩,
            ⟨(some 72), none, .ext (.t 65) 1⟩,
            ⟨(some 21), none, .alloc 8 (.agg [(.int .i64 0), .nil, .nil, .nil, (.bool false), (.sl []), (.bool false), (.sl [])])⟩,
            ⟨none, none, .store 8 (.t 21) (.t 71)⟩,
            ⟨(some 22), none, .mov (.t 72)⟩]))
         (.seq (.keep [3, 10, 11, 16, 20, 21, 22] (.ops false [⟨(some 73), none, .mov (.t 18)⟩,
             ⟨(some 74), none, .mov (.t 0)⟩,
             ⟨(some 75), none, .new (.mks 1 8 (.int .i64 0)) [(.t 74), (.t 74)]⟩,
             ⟨(some 76), none, .callG n_gimbalref08_Of [(.t 73), (.t 75), (.c (.int .i64 0))]⟩,
             ⟨(some 77), none, .fldA 2 4 true (.t 16)⟩,
             ⟨none, none, .store 4 (.t 77) (.t 76)⟩]))
          (.seq (.keep [10, 11, 16, 20, 21, 22] (.ops false [⟨(some 78), none, .mov (.t 3)⟩,
              ⟨(some 79), none, .callG n_gimbalref01_Of [(.t 78)]⟩,
              ⟨(some 80), none, .fldA 6 2 true (.t 16)⟩,
              ⟨none, none, .store 2 (.t 80) (.t 79)⟩]))
           (.seq (.keep [10, 11, 12] (.ops true [⟨(some 81), none, .loadN 8 true (.t 21) [10]⟩,
               ⟨(some 82), none, .loadN 8 true (.t 16) [10]⟩,
               ⟨(some 83), none, .mov (.t 20)⟩,
               ⟨(some 84), none, .bin .eql (.t 83) (.c (.int .i64 0))⟩,
               ⟨(some 85), none, .mov (.t 84)⟩,
               ⟨(some 86), (some (85, true)), .mov (.t 22)⟩,
               ⟨(some 87), (some (85, true)), .bin .eql (.t 86) (.c (.int .i64 0))⟩,
               ⟨(some 88), none, .pick (.t 85) (.t 87) (.c (.bool false))⟩,
               ⟨none, none, .store 8 (.t 10) (.t 81)⟩,
               ⟨none, none, .store 8 (.t 11) (.t 82)⟩,
               ⟨(some 12), none, .mov (.t 88)⟩]))
            .ret)))))))))))
def gimballaw17_read.res : List RX := [(10, some (8, true)), (11, some (8, true)), (12, none)]
theorem gimballaw17_read.m : mK pg Try.f20.ntmps gimballaw17_read.k (Try.f20.body.getD .skip) = true := by kernel_rfl
theorem gimballaw17_read.mr : mRes pg Try.f20.results.toList gimballaw17_read.res = true := by kernel_rfl
theorem gimballaw17_read.of {args : List V} {r : V} (hn : args.length = 5) (hW : W pg gimballaw17_read.k (done gimballaw17_read.res r) (start args)) : Ret pg n_gimballaw17_read args r :=
  Ret_of (fn := Try.f20) Try.func20 rfl (by kernel_rfl) gimballaw17_read.m gimballaw17_read.mr (by rw [hn]; exact of_decide_eq_true (by kernel_rfl)) hW
def gimballaw17_whole.k : K :=
  (.seq (.keep [0] (.ops false [⟨(some 2), none, .mov (.c (.str ⟨#[]⟩))⟩]))
  (.seq (.keep [0, 3] (.ops false [⟨(some 3), none, .mov (.c (.str ⟨#[]⟩))⟩]))
   (.seq (.seq (.keep [0, 3, 4] (.ops false [⟨(some 4), none, .mov (.c (.int .i64 0))⟩]))
     (.block 0 (.loop (.seq (.seq (.keep [0, 3, 4, 9] (.ops false [⟨(some 6), none, .mov (.t 4)⟩,
            ⟨(some 7), none, .mov (.t 0)⟩,
            ⟨(some 8), none, .len false (.t 7)⟩,
            ⟨(some 9), none, .bin .lss (.t 6) (.t 8)⟩]))
         (.cond (.t 9) .skip
          (.exit 0)))
        (.seq (.block 1 (.seq (.seq (.keep [0, 3, 4, 5] (.ops false [⟨(some 5), none, .mov (.c (.int .i64 0))⟩]))
            (.block 2 (.loop (.seq (.seq (.keep [0, 3, 4, 5, 18] (.ops false [⟨(some 12), none, .mov (.t 5)⟩,
                   ⟨(some 13), none, .mov (.t 0)⟩,
                   ⟨(some 14), none, .mov (.t 4)⟩,
                   ⟨(some 15), none, .idxA 1 (.t 13) (.t 14)⟩,
                   ⟨(some 16), none, .load 1 false (.t 15)⟩,
                   ⟨(some 17), none, .len false (.t 16)⟩,
                   ⟨(some 18), none, .bin .lss (.t 12) (.t 17)⟩]))
                (.cond (.t 18) .skip
                 (.exit 2)))
               (.seq (.block 3 (.keep [0, 3, 4, 5] (.ops false [⟨(some 21), none, .mov (.t 3)⟩,
                    ⟨(some 22), none, .mov (.t 0)⟩,
                    ⟨(some 23), none, .mov (.t 4)⟩,
                    ⟨(some 24), none, .idxA 1 (.t 22) (.t 23)⟩,
                    ⟨(some 25), none, .load 1 false (.t 24)⟩,
                    ⟨(some 26), none, .mov (.t 5)⟩,
                    ⟨(some 27), none, .idxA 2 (.t 25) (.t 26)⟩,
                    ⟨(some 28), none, .load 2 true (.t 27)⟩,
                    ⟨(some 29), none, .callG n_long_Int_String [(.t 28)]⟩,
                    ⟨(some 30), none, .bin .add (.t 21) (.t 29)⟩,
                    ⟨(some 31), none, .bin .add (.t 30) (.c (.str ⟨#[32]⟩))⟩,
                    ⟨(some 3), none, .mov (.t 31)⟩])))
                (.keep [0, 3, 4, 5] (.ops false [⟨(some 19), none, .mov (.t 5)⟩,
                   ⟨(some 20), none, .bin .add (.t 19) (.c (.int .i64 1))⟩,
                   ⟨(some 5), none, .mov (.t 20)⟩])))))))
           (.keep [0, 3, 4] (.ops false [⟨(some 32), none, .mov (.t 3)⟩,
              ⟨(some 33), none, .bin .add (.t 32) (.c (.str ⟨#[59]⟩))⟩,
              ⟨(some 3), none, .mov (.t 33)⟩]))))
         (.keep [0, 3, 4] (.ops false [⟨(some 10), none, .mov (.t 4)⟩,
            ⟨(some 11), none, .bin .add (.t 10) (.c (.int .i64 1))⟩,
            ⟨(some 4), none, .mov (.t 11)⟩])))))))
    (.seq (.keep [2] (.ops false [⟨(some 34), none, .mov (.t 3)⟩,
        ⟨(some 2), none, .mov (.t 34)⟩]))
     .ret))))
def gimballaw17_whole.res : List RX := [(2, none)]
theorem gimballaw17_whole.m : mK pg Try.f23.ntmps gimballaw17_whole.k (Try.f23.body.getD .skip) = true := by kernel_rfl
theorem gimballaw17_whole.mr : mRes pg Try.f23.results.toList gimballaw17_whole.res = true := by kernel_rfl
theorem gimballaw17_whole.of {args : List V} {r : V} (hn : args.length = 1) (hW : W pg gimballaw17_whole.k (done gimballaw17_whole.res r) (start args)) : Ret pg n_gimballaw17_whole args r :=
  Ret_of (fn := Try.f23) Try.func23 rfl (by kernel_rfl) gimballaw17_whole.m gimballaw17_whole.mr (by rw [hn]; exact of_decide_eq_true (by kernel_rfl)) hW
def gimballaw17_mirror.k : K :=
  (.seq (.keep [0, 1] (.ops false [⟨(some 4), none, .mov (.c .nil)⟩]))
  (.seq (.keep [0, 1, 5] (.ops false [⟨(some 5), none, .mov (.c .nil)⟩]))
   (.seq (.seq (.keep [0, 1, 5, 6] (.ops false [⟨(some 6), none, .mov (.c (.int .i64 0))⟩]))
     (.block 0 (.loop (.seq (.seq (.keep [0, 1, 5, 6, 11] (.ops false [⟨(some 9), none, .mov (.t 6)⟩,
            ⟨(some 10), none, .mov (.t 1)⟩,
            ⟨(some 11), none, .bin .lss (.t 9) (.t 10)⟩]))
         (.cond (.t 11) .skip
          (.exit 0)))
        (.seq (.block 1 (.gh (.keep [0, 1, 5, 6] (.ops false [⟨(some 14), none, .mov (.t 5)⟩,
             ⟨(some 15), none, .mov (.t 1)⟩,
             ⟨(some 16), none, .new (.mks 1 8 (.int .i64 0)) [(.t 15), (.t 15)]⟩,
             ⟨(some 17), none, .new (.bsl 1) [(.t 16)]⟩,
             ⟨(some 18), none, .eff (.app 1 24) [(.t 14), (.t 17)]⟩,
             ⟨(some 5), none, .mov (.t 18)⟩]))))
         (.keep [0, 1, 5, 6] (.ops false [⟨(some 12), none, .mov (.t 6)⟩,
            ⟨(some 13), none, .bin .add (.t 12) (.c (.int .i64 1))⟩,
            ⟨(some 6), none, .mov (.t 13)⟩])))))))
    (.seq (.seq (.keep [0, 1, 5, 7] (.ops false [⟨(some 7), none, .mov (.c (.int .i64 0))⟩]))
      (.block 2 (.loop (.seq (.seq (.keep [0, 1, 5, 7, 27] (.ops false [⟨(some 19), none, .mov (.t 7)⟩,
             ⟨(some 20), none, .mov (.t 1)⟩,
             ⟨(some 21), none, .bin .lss (.t 19) (.t 20)⟩,
             ⟨(some 22), none, .mov (.t 21)⟩,
             ⟨(some 23), (some (22, true)), .mov (.t 7)⟩,
             ⟨(some 24), (some (22, true)), .mov (.t 0)⟩,
             ⟨(some 25), (some (22, true)), .len false (.t 24)⟩,
             ⟨(some 26), (some (22, true)), .bin .lss (.t 23) (.t 25)⟩,
             ⟨(some 27), none, .pick (.t 22) (.t 26) (.c (.bool false))⟩]))
          (.cond (.t 27) .skip
           (.exit 2)))
         (.seq (.block 3 (.seq (.keep [0, 1, 5, 7, 8] (.ops false [⟨(some 8), none, .mov (.c (.int .i64 0))⟩]))
            (.block 4 (.loop (.seq (.seq (.keep [0, 1, 5, 7, 8, 41] (.ops false [⟨(some 30), none, .mov (.t 8)⟩,
                   ⟨(some 31), none, .mov (.t 7)⟩,
                   ⟨(some 32), none, .bin .leq (.t 30) (.t 31)⟩,
                   ⟨(some 33), none, .mov (.t 32)⟩,
                   ⟨(some 34), (some (33, true)), .mov (.t 8)⟩,
                   ⟨(some 35), (some (33, true)), .mov (.t 0)⟩,
                   ⟨(some 36), (some (33, true)), .mov (.t 7)⟩,
                   ⟨(some 37), (some (33, true)), .idxA 1 (.t 35) (.t 36)⟩,
                   ⟨(some 38), (some (33, true)), .load 1 false (.t 37)⟩,
                   ⟨(some 39), (some (33, true)), .len false (.t 38)⟩,
                   ⟨(some 40), (some (33, true)), .bin .lss (.t 34) (.t 39)⟩,
                   ⟨(some 41), none, .pick (.t 33) (.t 40) (.c (.bool false))⟩]))
                (.cond (.t 41) .skip
                 (.exit 4)))
               (.seq (.block 5 (.seq (.keep [0, 1, 5, 7, 8] (.ops true [⟨(some 44), none, .mov (.t 5)⟩,
                     ⟨(some 45), none, .mov (.t 7)⟩,
                     ⟨(some 46), none, .idxA 1 (.t 44) (.t 45)⟩,
                     ⟨(some 47), none, .load 1 false (.t 46)⟩,
                     ⟨(some 48), none, .mov (.t 8)⟩,
                     ⟨(some 49), none, .mov (.t 0)⟩,
                     ⟨(some 50), none, .mov (.t 7)⟩,
                     ⟨(some 51), none, .idxA 1 (.t 49) (.t 50)⟩,
                     ⟨(some 52), none, .load 1 false (.t 51)⟩,
                     ⟨(some 53), none, .mov (.t 8)⟩,
                     ⟨(some 54), none, .idxA 1 (.t 52) (.t 53)⟩,
                     ⟨(some 55), none, .load 1 false (.t 54)⟩,
                     ⟨(some 56), none, .idxA 1 (.t 47) (.t 48)⟩,
                     ⟨none, none, .store 1 (.t 56) (.t 55)⟩]))
                  (.keep [0, 1, 5, 7, 8] (.ops true [⟨(some 57), none, .mov (.t 5)⟩,
                     ⟨(some 58), none, .mov (.t 8)⟩,
                     ⟨(some 59), none, .idxA 1 (.t 57) (.t 58)⟩,
                     ⟨(some 60), none, .load 1 false (.t 59)⟩,
                     ⟨(some 61), none, .mov (.t 7)⟩,
                     ⟨(some 62), none, .mov (.t 0)⟩,
                     ⟨(some 63), none, .mov (.t 7)⟩,
                     ⟨(some 64), none, .idxA 1 (.t 62) (.t 63)⟩,
                     ⟨(some 65), none, .load 1 false (.t 64)⟩,
                     ⟨(some 66), none, .mov (.t 8)⟩,
                     ⟨(some 67), none, .idxA 1 (.t 65) (.t 66)⟩,
                     ⟨(some 68), none, .load 1 false (.t 67)⟩,
                     ⟨(some 69), none, .idxA 1 (.t 60) (.t 61)⟩,
                     ⟨none, none, .store 1 (.t 69) (.t 68)⟩]))))
                (.keep [0, 1, 5, 7, 8] (.ops false [⟨(some 42), none, .mov (.t 8)⟩,
                   ⟨(some 43), none, .bin .add (.t 42) (.c (.int .i64 1))⟩,
                   ⟨(some 8), none, .mov (.t 43)⟩]))))))))
          (.keep [0, 1, 5, 7] (.ops false [⟨(some 28), none, .mov (.t 7)⟩,
             ⟨(some 29), none, .bin .add (.t 28) (.c (.int .i64 1))⟩,
             ⟨(some 7), none, .mov (.t 29)⟩])))))))
     (.seq (.keep [4] (.ops false [⟨(some 70), none, .mov (.t 5)⟩,
         ⟨(some 4), none, .mov (.t 70)⟩]))
      .ret)))))
def gimballaw17_mirror.res : List RX := [(4, none)]
theorem gimballaw17_mirror.m : mK pg Try.f28.ntmps gimballaw17_mirror.k (Try.f28.body.getD .skip) = true := by kernel_rfl
theorem gimballaw17_mirror.mr : mRes pg Try.f28.results.toList gimballaw17_mirror.res = true := by kernel_rfl
theorem gimballaw17_mirror.of {args : List V} {r : V} (hn : args.length = 2) (hW : W pg gimballaw17_mirror.k (done gimballaw17_mirror.res r) (start args)) : Ret pg n_gimballaw17_mirror args r :=
  Ret_of (fn := Try.f28) Try.func28 rfl (by kernel_rfl) gimballaw17_mirror.m gimballaw17_mirror.mr (by rw [hn]; exact of_decide_eq_true (by kernel_rfl)) hW
end Go.Gim

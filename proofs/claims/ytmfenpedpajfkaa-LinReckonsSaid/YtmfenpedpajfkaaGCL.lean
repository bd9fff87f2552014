import Derived.Test.YtmfenpedpajfkaaGN
/- Functions' code as data (written by wip/tools/gen.py), and the step to their contracts. -/
set_option maxRecDepth 100000
namespace Go.Gim
open Go.Proofs
def gimballaw07_LinReckons.k : K :=
  (.seq (.keep [0, 1, 2] (.ops false [⟨(some 6), none, .mov (.c (.bool false))⟩]))
  (.seq (.keep [0, 1, 2, 7] (.ops false [⟨(some 21), none, .callG n_gimballaw07_awake []⟩,
      ⟨(some 7), none, .mov (.t 21)⟩]))
   (.seq (.keep [1, 2, 7, 8, 9, 10] (.ops false [⟨(some 23), none, .mov (.t 0)⟩,
       ⟨(some 24), none, .callG n_gimballaw07_read [(.t 23), (.c (.int .i64 5))]⟩,
       ⟨(some 22), none, .mov (.t 24)⟩,
       ⟨(some 25), none, .ext (.t 22) 0⟩,
       ⟨(some 26), none, .ext (.t 22) 1⟩,
       ⟨(some 27), none, .ext (.t 22) 2⟩,
       ⟨(some 8), none, .mov (.t 25)⟩,
       ⟨(some 9), none, .mov (.t 26)⟩,
       ⟨(some 10), none, .mov (.t 27)⟩]))
    (.seq (.keep [2, 7, 8, 9, 10, 11, 12, 13] (.ops false [⟨(some 29), none, .mov (.t 1)⟩,
        ⟨(some 30), none, .callG n_gimballaw07_read [(.t 29), (.c (.int .i64 5))]⟩,
        ⟨(some 28), none, .mov (.t 30)⟩,
        ⟨(some 31), none, .ext (.t 28) 0⟩,
        ⟨(some 32), none, .ext (.t 28) 1⟩,
        ⟨(some 33), none, .ext (.t 28) 2⟩,
        ⟨(some 11), none, .mov (.t 31)⟩,
        ⟨(some 12), none, .mov (.t 32)⟩,
        ⟨(some 13), none, .mov (.t 33)⟩]))
     (.seq (.seq (.keep [2, 7, 8, 9, 11, 12, 46] (.ops false [⟨(some 34), none, .mov (.t 10)⟩,
          ⟨(some 35), none, .un .not (.t 34)⟩,
          ⟨(some 36), none, .mov (.t 35)⟩,
          ⟨(some 37), (some (36, false)), .mov (.t 13)⟩,
          ⟨(some 38), (some (36, false)), .un .not (.t 37)⟩,
          ⟨(some 39), none, .pick (.t 36) (.c (.bool true)) (.t 38)⟩,
          ⟨(some 40), none, .mov (.t 39)⟩,
          ⟨(some 41), (some (40, false)), .mov (.t 8)⟩,
          ⟨(some 42), (some (40, false)), .len false (.t 41)⟩,
          ⟨(some 43), (some (40, false)), .mov (.t 11)⟩,
          ⟨(some 44), (some (40, false)), .len false (.t 43)⟩,
          ⟨(some 45), (some (40, false)), .bin .neq (.t 42) (.t 44)⟩,
          ⟨(some 46), none, .pick (.t 40) (.c (.bool true)) (.t 45)⟩]))
       (.cond (.t 46) (.seq (.keep [6] (.ops false [⟨(some 47), none, .mov (.t 7)⟩,
            ⟨(some 6), none, .mov (.t 47)⟩]))
         .ret)
        .skip))
      (.seq (.keep [7, 8, 9, 11, 12, 14, 15] (.ops false [⟨(some 49), none, .mov (.t 2)⟩,
          ⟨(some 50), none, .mov (.t 8)⟩,
          ⟨(some 51), none, .len false (.t 50)⟩,
          ⟨(some 52), none, .callG n_gimballaw07_list [(.t 49), (.t 51)]⟩,
          ⟨(some 48), none, .mov (.t 52)⟩,
          ⟨(some 53), none, .ext (.t 48) 0⟩,
          ⟨(some 54), none, .ext (.t 48) 1⟩,
          ⟨(some 14), none, .mov (.t 53)⟩,
          ⟨(some 15), none, .mov (.t 54)⟩]))
       (.seq (.keep [7, 8, 9, 12, 14, 15, 16] (.ops false [⟨(some 55), none, .mov (.t 8)⟩,
           ⟨(some 56), none, .mov (.t 11)⟩,
           ⟨(some 57), none, .callG n_lin_Mat_Mul [(.t 55), (.t 56)]⟩,
           ⟨(some 58), none, .callG n_gimballaw07_whole [(.t 57)]⟩,
           ⟨(some 16), none, .mov (.t 58)⟩]))
        (.seq (.keep [7, 8, 9, 12, 14, 15, 16, 17] (.ops false [⟨(some 59), none, .mov (.t 8)⟩,
            ⟨(some 60), none, .callG n_lin_Mat_Turned [(.t 59)]⟩,
            ⟨(some 61), none, .callG n_gimballaw07_whole [(.t 60)]⟩,
            ⟨(some 17), none, .mov (.t 61)⟩]))
         (.seq (.keep [7, 8, 9, 12, 14, 15, 16, 17, 18] (.ops false [⟨(some 62), none, .mov (.t 8)⟩,
             ⟨(some 63), none, .mov (.t 14)⟩,
             ⟨(some 64), none, .callG n_lin_Mat_Apply [(.t 62), (.t 63)]⟩,
             ⟨(some 65), none, .callG n_gimballaw07_text [(.t 64)]⟩,
             ⟨(some 18), none, .mov (.t 65)⟩]))
          (.seq (.keep [7, 8, 9, 12, 15, 16, 17, 18, 19] (.ops false [⟨(some 66), none, .mov (.t 8)⟩,
              ⟨(some 67), none, .mov (.t 14)⟩,
              ⟨(some 68), none, .callG n_lin_Mat_Quad [(.t 66), (.t 67)]⟩,
              ⟨(some 69), none, .callG n_long_Int_String [(.t 68)]⟩,
              ⟨(some 19), none, .mov (.t 69)⟩]))
           (.seq (.keep [7, 9, 12, 15, 16, 17, 18, 19, 20] (.ops false [⟨(some 70), none, .mov (.t 8)⟩,
               ⟨(some 71), none, .callG n_lin_Mat_Definite [(.t 70)]⟩,
               ⟨(some 20), none, .mov (.t 71)⟩]))
            (.seq (.keep [6] (.ops false [⟨(some 72), none, .mov (.t 7)⟩,
                ⟨(some 73), none, .mov (.t 72)⟩,
                ⟨(some 74), (some (73, true)), .mov (.t 16)⟩,
                ⟨(some 75), (some (73, true)), .mov (.t 9)⟩,
                ⟨(some 76), (some (73, true)), .mov (.t 12)⟩,
                ⟨(some 77), (some (73, true)), .callG n_gimbalref07_Mat_Mul [(.t 75), (.t 76)]⟩,
                ⟨(some 78), (some (73, true)), .callG n_gimballaw07_wholes [(.t 77)]⟩,
                ⟨(some 79), (some (73, true)), .bin .eql (.t 74) (.t 78)⟩,
                ⟨(some 80), none, .pick (.t 73) (.t 79) (.c (.bool false))⟩,
                ⟨(some 81), none, .mov (.t 80)⟩,
                ⟨(some 82), (some (81, true)), .mov (.t 17)⟩,
                ⟨(some 83), (some (81, true)), .mov (.t 9)⟩,
                ⟨(some 84), (some (81, true)), .callG n_gimbalref07_Mat_Turned [(.t 83)]⟩,
                ⟨(some 85), (some (81, true)), .callG n_gimballaw07_wholes [(.t 84)]⟩,
                ⟨(some 86), (some (81, true)), .bin .eql (.t 82) (.t 85)⟩,
                ⟨(some 87), none, .pick (.t 81) (.t 86) (.c (.bool false))⟩,
                ⟨(some 88), none, .mov (.t 87)⟩,
                ⟨(some 89), (some (88, true)), .mov (.t 18)⟩,
                ⟨(some 90), (some (88, true)), .mov (.t 9)⟩,
                ⟨(some 91), (some (88, true)), .mov (.t 15)⟩,
                ⟨(some 92), (some (88, true)), .callG n_gimbalref07_Mat_Apply [(.t 90), (.t 91)]⟩,
                ⟨(some 93), (some (88, true)), .callG n_gimballaw07_texts [(.t 92)]⟩,
                ⟨(some 94), (some (88, true)), .bin .eql (.t 89) (.t 93)⟩,
                ⟨(some 95), none, .pick (.t 88) (.t 94) (.c (.bool false))⟩,
                ⟨(some 96), none, .mov (.t 95)⟩,
                ⟨(some 97), (some (96, true)), .mov (.t 19)⟩,
                ⟨(some 98), (some (96, true)), .mov (.t 9)⟩,
                ⟨(some 99), (some (96, true)), .mov (.t 15)⟩,
                ⟨(some 100), (some (96, true)), .callG n_gimbalref07_Mat_Quad [(.t 98), (.t 99)]⟩,
                ⟨(some 101), (some (96, true)), .callG n_gimbalref01_Int_String [(.t 100)]⟩,
                ⟨(some 102), (some (96, true)), .bin .eql (.t 97) (.t 101)⟩,
                ⟨(some 103), none, .pick (.t 96) (.t 102) (.c (.bool false))⟩,
                ⟨(some 104), none, .mov (.t 103)⟩,
                ⟨(some 105), (some (104, true)), .mov (.t 20)⟩,
                ⟨(some 106), (some (104, true)), .mov (.t 9)⟩,
                ⟨(some 107), (some (104, true)), .callG n_gimbalref07_Mat_Definite [(.t 106)]⟩,
                ⟨(some 108), (some (104, true)), .eqB false (.t 105) (.t 107)⟩,
                ⟨(some 109), none, .pick (.t 104) (.t 108) (.c (.bool false))⟩,
                ⟨(some 6), none, .mov (.t 109)⟩]))
             .ret))))))))))))
def gimballaw07_LinReckons.res : List RX := [(6, none)]
theorem gimballaw07_LinReckons.m : mK pg Try.f7.ntmps gimballaw07_LinReckons.k (Try.f7.body.getD .skip) = true := by kernel_rfl
theorem gimballaw07_LinReckons.mr : mRes pg Try.f7.results.toList gimballaw07_LinReckons.res = true := by kernel_rfl
theorem gimballaw07_LinReckons.of {args : List V} {r : V} (hn : args.length = 3) (hW : W pg gimballaw07_LinReckons.k (done gimballaw07_LinReckons.res r) (start args)) : Ret pg n_gimballaw07_LinReckons args r :=
  Ret_of (fn := Try.f7) Try.func7 rfl (by kernel_rfl) gimballaw07_LinReckons.m gimballaw07_LinReckons.mr (by rw [hn]; exact of_decide_eq_true (by kernel_rfl)) hW
def gimballaw07_awake.k : K :=
  (.seq (.keep [] (.ops false [⟨(some 0), none, .mov (.c (.bool false))⟩]))
  (.seq (.keep [1, 2] (.ops false [⟨(some 27), none, .new (.bsl 1) [(.c (.int .i64 2)), (.c (.int .i64 1))]⟩,
      ⟨(some 28), none, .new (.bsl 1) [(.c (.int .i64 1)), (.c (.int .i64 3))]⟩,
      ⟨(some 29), none, .new (.bsl 1) [(.t 27), (.t 28)]⟩,
      ⟨(some 30), none, .callG n_lin_Of [(.t 29)]⟩,
      ⟨(some 26), none, .mov (.t 30)⟩,
      ⟨(some 31), none, .ext (.t 26) 0⟩,
      ⟨(some 32), none, .ext (.t 26) 1⟩,
      ⟨(some 1), none, .mov (.t 31)⟩,
      ⟨(some 2), none, .mov (.t 32)⟩]))
   (.seq (.keep [1, 2, 3, 4] (.ops false [⟨(some 34), none, .new (.bsl 1) [(.c (.int .i64 1)), (.c (.int .i64 2))]⟩,
       ⟨(some 35), none, .new (.bsl 1) [(.c (.int .i64 2)), (.c (.int .i64 4))]⟩,
       ⟨(some 36), none, .new (.bsl 1) [(.t 34), (.t 35)]⟩,
       ⟨(some 37), none, .callG n_lin_Of [(.t 36)]⟩,
       ⟨(some 33), none, .mov (.t 37)⟩,
       ⟨(some 38), none, .ext (.t 33) 0⟩,
       ⟨(some 39), none, .ext (.t 33) 1⟩,
       ⟨(some 3), none, .mov (.t 38)⟩,
       ⟨(some 4), none, .mov (.t 39)⟩]))
    (.seq (.keep [1, 2, 3, 4, 5] (.ops false [⟨(some 41), none, .new (.bsl 1) [(.c (.int .i64 1)), (.c (.int .i64 2))]⟩,
        ⟨(some 42), none, .new (.bsl 1) [(.c (.int .i64 2)), (.c (.int .i64 1))]⟩,
        ⟨(some 43), none, .new (.bsl 1) [(.t 41), (.t 42)]⟩,
        ⟨(some 44), none, .callG n_lin_Of [(.t 43)]⟩,
        ⟨(some 40), none, .mov (.t 44)⟩,
        ⟨(some 45), none, .ext (.t 40) 0⟩,
        ⟨(some 46), none, .ext (.t 40) 1⟩,
        ⟨(some 5), none, .mov (.t 45)⟩,
        ⟨(some 6), none, .mov (.t 46)⟩]))
     (.seq (.keep [1, 2, 3, 4, 5, 7] (.ops false [⟨(some 48), none, .new (.bsl 1) [(.c (.int .i64 1)), (.c (.int .i64 0))]⟩,
         ⟨(some 49), none, .new (.bsl 1) [(.c (.int .i64 1)), (.c (.int .i64 1))]⟩,
         ⟨(some 50), none, .new (.bsl 1) [(.t 48), (.t 49)]⟩,
         ⟨(some 51), none, .callG n_lin_Of [(.t 50)]⟩,
         ⟨(some 47), none, .mov (.t 51)⟩,
         ⟨(some 52), none, .ext (.t 47) 0⟩,
         ⟨(some 53), none, .ext (.t 47) 1⟩,
         ⟨(some 7), none, .mov (.t 52)⟩,
         ⟨(some 8), none, .mov (.t 53)⟩]))
      (.seq (.seq (.keep [1, 3, 5, 7, 79] (.ops false [⟨(some 54), none, .mov (.t 2)⟩,
           ⟨(some 55), none, .bin .neq (.t 54) (.c (.int .i64 0))⟩,
           ⟨(some 56), none, .mov (.t 55)⟩,
           ⟨(some 57), (some (56, false)), .mov (.t 4)⟩,
           ⟨(some 58), (some (56, false)), .bin .neq (.t 57) (.c (.int .i64 0))⟩,
           ⟨(some 59), none, .pick (.t 56) (.c (.bool true)) (.t 58)⟩,
           ⟨(some 60), none, .mov (.t 59)⟩,
           ⟨(some 61), (some (60, false)), .mov (.t 1)⟩,
           ⟨(some 62), (some (60, false)), .len false (.t 61)⟩,
           ⟨(some 63), (some (60, false)), .bin .neq (.t 62) (.c (.int .i64 2))⟩,
           ⟨(some 64), none, .pick (.t 60) (.c (.bool true)) (.t 63)⟩,
           ⟨(some 65), none, .mov (.t 64)⟩,
           ⟨(some 66), (some (65, false)), .mov (.t 3)⟩,
           ⟨(some 67), (some (65, false)), .len false (.t 66)⟩,
           ⟨(some 68), (some (65, false)), .bin .neq (.t 67) (.c (.int .i64 2))⟩,
           ⟨(some 69), none, .pick (.t 65) (.c (.bool true)) (.t 68)⟩,
           ⟨(some 70), none, .mov (.t 69)⟩,
           ⟨(some 71), (some (70, false)), .mov (.t 5)⟩,
           ⟨(some 72), (some (70, false)), .len false (.t 71)⟩,
           ⟨(some 73), (some (70, false)), .bin .neq (.t 72) (.c (.int .i64 2))⟩,
           ⟨(some 74), none, .pick (.t 70) (.c (.bool true)) (.t 73)⟩,
           ⟨(some 75), none, .mov (.t 74)⟩,
           ⟨(some 76), (some (75, false)), .mov (.t 7)⟩,
           ⟨(some 77), (some (75, false)), .len false (.t 76)⟩,
           ⟨(some 78), (some (75, false)), .bin .neq (.t 77) (.c (.int .i64 2))⟩,
           ⟨(some 79), none, .pick (.t 75) (.c (.bool true)) (.t 78)⟩]))
        (.cond (.t 79) (.seq (.keep [0] (.ops false [⟨(some 0), none, .mov (.c (.bool false))⟩]))
          .ret)
         .skip))
       (.seq (.keep [1, 3, 5, 7, 9] (.ops false [⟨(some 81), none, .new (.bsl 1) [(.c (.int .i64 1)), (.c (.int .i64 2))]⟩,
           ⟨(some 82), none, .callG n_gimballaw07_list [(.t 81), (.c (.int .i64 2))]⟩,
           ⟨(some 80), none, .mov (.t 82)⟩,
           ⟨(some 83), none, .ext (.t 80) 0⟩,
           ⟨(some 84), none, .ext (.t 80) 1⟩,
           ⟨(some 9), none, .mov (.t 83)⟩,
           ⟨(some 10), none, .mov (.t 84)⟩]))
        (.seq (.keep [1, 3, 5, 7, 9, 11] (.ops false [⟨(some 86), none, .new (.bsl 1) [(.c (.int .i64 1)), (.c (.int .i64 (-1)))]⟩,
            ⟨(some 87), none, .callG n_gimballaw07_list [(.t 86), (.c (.int .i64 2))]⟩,
            ⟨(some 85), none, .mov (.t 87)⟩,
            ⟨(some 88), none, .ext (.t 85) 0⟩,
            ⟨(some 89), none, .ext (.t 85) 1⟩,
            ⟨(some 11), none, .mov (.t 88)⟩,
            ⟨(some 12), none, .mov (.t 89)⟩]))
         (.seq (.keep [1, 3, 5, 7, 9, 11, 13] (.ops false [⟨(some 90), none, .mov (.t 1)⟩,
             ⟨(some 91), none, .callG n_lin_Mat_Det [(.t 90)]⟩,
             ⟨(some 92), none, .callG n_long_Int_String [(.t 91)]⟩,
             ⟨(some 13), none, .mov (.t 92)⟩]))
          (.seq (.keep [1, 3, 5, 7, 9, 11, 13, 14] (.ops false [⟨(some 93), none, .mov (.t 3)⟩,
              ⟨(some 94), none, .callG n_lin_Mat_Det [(.t 93)]⟩,
              ⟨(some 95), none, .callG n_long_Int_String [(.t 94)]⟩,
              ⟨(some 14), none, .mov (.t 95)⟩]))
           (.seq (.keep [1, 3, 5, 7, 9, 11, 13, 14, 15, 16, 17] (.ops false [⟨(some 97), none, .mov (.t 1)⟩,
               ⟨(some 98), none, .mov (.t 9)⟩,
               ⟨(some 99), none, .callG n_lin_Mat_Solve [(.t 97), (.t 98)]⟩,
               ⟨(some 96), none, .mov (.t 99)⟩,
               ⟨(some 100), none, .ext (.t 96) 0⟩,
               ⟨(some 101), none, .ext (.t 96) 1⟩,
               ⟨(some 102), none, .ext (.t 96) 2⟩,
               ⟨(some 16), none, .alloc 2 (.agg [(.bool false), (.sl [])])⟩,
               ⟨(some 15), none, .mov (.t 100)⟩,
               ⟨none, none, .store 2 (.t 16) (.t 101)⟩,
               ⟨(some 17), none, .mov (.t 102)⟩]))
            (.seq (.keep [1, 5, 7, 11, 13, 14, 15, 16, 17, 20] (.ops false [⟨(some 104), none, .mov (.t 3)⟩,
                ⟨(some 105), none, .mov (.t 9)⟩,
                ⟨(some 106), none, .callG n_lin_Mat_Solve [(.t 104), (.t 105)]⟩,
                ⟨(some 103), none, .mov (.t 106)⟩,
                ⟨(some 107), none, .ext (.t 103) 0⟩,
                ⟨(some 108), none, .ext (.t 103) 1⟩,
                ⟨(some 109), none, .ext (.t 103) 2⟩,
                ⟨(some 19), none, .alloc 2 (.agg [(.bool false), (.sl [])])⟩,
                ⟨(some 18), none, .mov (.t 107)⟩,
                ⟨none, none, .store 2 (.t 19) (.t 108)⟩,
                ⟨(some 20), none, .mov (.t 109)⟩]))
             (.seq (.keep [1, 5, 7, 11, 13, 14, 15, 17, 20, 21] (.ops false [⟨(some 110), none, .load 2 true (.t 16)⟩,
                 ⟨(some 111), none, .callG n_long_Int_String [(.t 110)]⟩,
                 ⟨(some 21), none, .mov (.t 111)⟩]))
              (.seq (.keep [1, 5, 7, 11, 13, 14, 15, 17, 20, 21, 22] (.ops false [⟨(some 112), none, .mov (.t 1)⟩,
                  ⟨(some 113), none, .callG n_lin_Mat_Definite [(.t 112)]⟩,
                  ⟨(some 22), none, .mov (.t 113)⟩]))
               (.seq (.keep [1, 7, 11, 13, 14, 15, 17, 20, 21, 22, 23] (.ops false [⟨(some 114), none, .mov (.t 5)⟩,
                   ⟨(some 115), none, .callG n_lin_Mat_Definite [(.t 114)]⟩,
                   ⟨(some 23), none, .mov (.t 115)⟩]))
                (.seq (.keep [1, 11, 13, 14, 15, 17, 20, 21, 22, 23, 24] (.ops false [⟨(some 116), none, .mov (.t 7)⟩,
                    ⟨(some 117), none, .callG n_lin_Mat_Definite [(.t 116)]⟩,
                    ⟨(some 24), none, .mov (.t 117)⟩]))
                 (.seq (.keep [13, 14, 15, 17, 20, 21, 22, 23, 24, 25] (.ops false [⟨(some 118), none, .mov (.t 1)⟩,
                     ⟨(some 119), none, .mov (.t 11)⟩,
                     ⟨(some 120), none, .callG n_lin_Mat_Quad [(.t 118), (.t 119)]⟩,
                     ⟨(some 121), none, .callG n_long_Int_String [(.t 120)]⟩,
                     ⟨(some 25), none, .mov (.t 121)⟩]))
                  (.seq (.keep [0] (.ops false [⟨(some 122), none, .mov (.t 13)⟩,
                      ⟨(some 123), none, .bin .eql (.t 122) (.c (.str ⟨#[53]⟩))⟩,
                      ⟨(some 124), none, .mov (.t 123)⟩,
                      ⟨(some 125), (some (124, true)), .mov (.t 14)⟩,
                      ⟨(some 126), (some (124, true)), .bin .eql (.t 125) (.c (.str ⟨#[48]⟩))⟩,
                      ⟨(some 127), none, .pick (.t 124) (.t 126) (.c (.bool false))⟩,
                      ⟨(some 128), none, .mov (.t 127)⟩,
                      ⟨(some 129), (some (128, true)), .mov (.t 15)⟩,
                      ⟨(some 130), (some (128, true)), .callG n_gimballaw07_text [(.t 129)]⟩,
                      ⟨(some 131), (some (128, true)), .bin .eql (.t 130) (.c (.str ⟨#[49, 32, 51, 32]⟩))⟩,
                      ⟨(some 132), none, .pick (.t 128) (.t 131) (.c (.bool false))⟩,
                      ⟨(some 133), none, .mov (.t 132)⟩,
                      ⟨(some 134), (some (133, true)), .mov (.t 21)⟩,
                      ⟨(some 135), (some (133, true)), .bin .eql (.t 134) (.c (.str ⟨#[53]⟩))⟩,
                      ⟨(some 136), none, .pick (.t 133) (.t 135) (.c (.bool false))⟩,
                      ⟨(some 137), none, .mov (.t 136)⟩,
                      ⟨(some 138), (some (137, true)), .mov (.t 17)⟩,
                      ⟨(some 139), (some (137, true)), .bin .eql (.t 138) (.c (.int .i64 0))⟩,
                      ⟨(some 140), none, .pick (.t 137) (.t 139) (.c (.bool false))⟩,
                      ⟨(some 141), none, .mov (.t 140)⟩,
                      ⟨(some 142), (some (141, true)), .mov (.t 20)⟩,
                      ⟨(some 143), (some (141, true)), .bin .eql (.t 142) (.c (.int .i64 11))⟩,
                      ⟨(some 144), none, .pick (.t 141) (.t 143) (.c (.bool false))⟩,
                      ⟨(some 145), none, .mov (.t 144)⟩,
                      ⟨(some 146), (some (145, true)), .mov (.t 22)⟩,
                      ⟨(some 147), none, .pick (.t 145) (.t 146) (.c (.bool false))⟩,
                      ⟨(some 148), none, .mov (.t 147)⟩,
                      ⟨(some 149), (some (148, true)), .mov (.t 23)⟩,
                      ⟨(some 150), (some (148, true)), .un .not (.t 149)⟩,
                      ⟨(some 151), none, .pick (.t 148) (.t 150) (.c (.bool false))⟩,
                      ⟨(some 152), none, .mov (.t 151)⟩,
                      ⟨(some 153), (some (152, true)), .mov (.t 24)⟩,
                      ⟨(some 154), (some (152, true)), .un .not (.t 153)⟩,
                      ⟨(some 155), none, .pick (.t 152) (.t 154) (.c (.bool false))⟩,
                      ⟨(some 156), none, .mov (.t 155)⟩,
                      ⟨(some 157), (some (156, true)), .mov (.t 25)⟩,
                      ⟨(some 158), (some (156, true)), .bin .eql (.t 157) (.c (.str ⟨#[51]⟩))⟩,
                      ⟨(some 159), none, .pick (.t 156) (.t 158) (.c (.bool false))⟩,
                      ⟨(some 0), none, .mov (.t 159)⟩]))
                   .ret))))))))))))))))))
def gimballaw07_awake.res : List RX := [(0, none)]
theorem gimballaw07_awake.m : mK pg Try.f17.ntmps gimballaw07_awake.k (Try.f17.body.getD .skip) = true := by kernel_rfl
theorem gimballaw07_awake.mr : mRes pg Try.f17.results.toList gimballaw07_awake.res = true := by kernel_rfl
theorem gimballaw07_awake.of {args : List V} {r : V} (hn : args.length = 0) (hW : W pg gimballaw07_awake.k (done gimballaw07_awake.res r) (start args)) : Ret pg n_gimballaw07_awake args r :=
  Ret_of (fn := Try.f17) Try.func17 rfl (by kernel_rfl) gimballaw07_awake.m gimballaw07_awake.mr (by rw [hn]; exact of_decide_eq_true (by kernel_rfl)) hW
def gimballaw07_square.k : K :=
  (.seq (.keep [0, 1] (.ops false [⟨(some 4), none, .mov (.c (.bool false))⟩]))
  (.seq (.seq (.keep [0, 9] (.ops false [⟨(some 6), none, .mov (.t 0)⟩,
       ⟨(some 7), none, .len false (.t 6)⟩,
       ⟨(some 8), none, .mov (.t 1)⟩,
       ⟨(some 9), none, .bin .gtr (.t 7) (.t 8)⟩]))
    (.cond (.t 9) (.seq (.keep [4] (.ops false [⟨(some 4), none, .mov (.c (.bool false))⟩]))
      .ret)
     .skip))
   (.seq (.seq (.keep [0, 5] (.ops false [⟨(some 5), none, .mov (.c (.int .i64 0))⟩]))
     (.block 0 (.loop (.seq (.seq (.keep [0, 5, 13] (.ops false [⟨(some 10), none, .mov (.t 5)⟩,
            ⟨(some 11), none, .mov (.t 0)⟩,
            ⟨(some 12), none, .len false (.t 11)⟩,
            ⟨(some 13), none, .bin .lss (.t 10) (.t 12)⟩]))
         (.cond (.t 13) .skip
          (.exit 0)))
        (.seq (.block 1 (.seq (.keep [0, 5, 23] (.ops false [⟨(some 16), none, .mov (.t 0)⟩,
              ⟨(some 17), none, .mov (.t 5)⟩,
              ⟨(some 18), none, .idxA 1 (.t 16) (.t 17)⟩,
              ⟨(some 19), none, .load 1 false (.t 18)⟩,
              ⟨(some 20), none, .len false (.t 19)⟩,
              ⟨(some 21), none, .mov (.t 0)⟩,
              ⟨(some 22), none, .len false (.t 21)⟩,
              ⟨(some 23), none, .bin .neq (.t 20) (.t 22)⟩]))
           (.cond (.t 23) (.seq (.keep [4] (.ops false [⟨(some 4), none, .mov (.c (.bool false))⟩]))
             .ret)
            .skip)))
         (.keep [0, 5] (.ops false [⟨(some 14), none, .mov (.t 5)⟩,
            ⟨(some 15), none, .bin .add (.t 14) (.c (.int .i64 1))⟩,
            ⟨(some 5), none, .mov (.t 15)⟩])))))))
    (.seq (.keep [4] (.ops false [⟨(some 4), none, .mov (.c (.bool true))⟩]))
     .ret))))
def gimballaw07_square.res : List RX := [(4, none)]
theorem gimballaw07_square.m : mK pg Try.f19.ntmps gimballaw07_square.k (Try.f19.body.getD .skip) = true := by kernel_rfl
theorem gimballaw07_square.mr : mRes pg Try.f19.results.toList gimballaw07_square.res = true := by kernel_rfl
theorem gimballaw07_square.of {args : List V} {r : V} (hn : args.length = 2) (hW : W pg gimballaw07_square.k (done gimballaw07_square.res r) (start args)) : Ret pg n_gimballaw07_square args r :=
  Ret_of (fn := Try.f19) Try.func19 rfl (by kernel_rfl) gimballaw07_square.m gimballaw07_square.mr (by rw [hn]; exact of_decide_eq_true (by kernel_rfl)) hW
def gimballaw07_whole.k : K :=
  (.seq (.keep [0] (.ops false [⟨(some 2), none, .mov (.c (.str ⟨#[]⟩))⟩]))
  (.seq (.keep [0, 3] (.ops false [⟨(some 3), none, .mov (.c (.str ⟨#[]⟩))⟩]))
   (.seq (.seq (.keep [0, 3, 4] (.ops false [⟨(some 4), none, .mov (.c (.int .i64 0))⟩]))
     (.block 0 (.loop (.seq (.seq (.keep [0, 3, 4, 8] (.ops false [⟨(some 5), none, .mov (.t 4)⟩,
            ⟨(some 6), none, .mov (.t 0)⟩,
            ⟨(some 7), none, .len false (.t 6)⟩,
            ⟨(some 8), none, .bin .lss (.t 5) (.t 7)⟩]))
         (.cond (.t 8) .skip
          (.exit 0)))
        (.seq (.block 1 (.keep [0, 3, 4] (.ops false [⟨(some 11), none, .mov (.t 3)⟩,
             ⟨(some 12), none, .mov (.t 0)⟩,
             ⟨(some 13), none, .mov (.t 4)⟩,
             ⟨(some 14), none, .idxA 1 (.t 12) (.t 13)⟩,
             ⟨(some 15), none, .load 1 false (.t 14)⟩,
             ⟨(some 16), none, .callG n_gimballaw07_text [(.t 15)]⟩,
             ⟨(some 17), none, .bin .add (.t 11) (.t 16)⟩,
             ⟨(some 18), none, .bin .add (.t 17) (.c (.str ⟨#[59]⟩))⟩,
             ⟨(some 3), none, .mov (.t 18)⟩])))
         (.keep [0, 3, 4] (.ops false [⟨(some 9), none, .mov (.t 4)⟩,
            ⟨(some 10), none, .bin .add (.t 9) (.c (.int .i64 1))⟩,
            ⟨(some 4), none, .mov (.t 10)⟩])))))))
    (.seq (.keep [2] (.ops false [⟨(some 19), none, .mov (.t 3)⟩,
        ⟨(some 2), none, .mov (.t 19)⟩]))
     .ret))))
def gimballaw07_whole.res : List RX := [(2, none)]
theorem gimballaw07_whole.m : mK pg Try.f20.ntmps gimballaw07_whole.k (Try.f20.body.getD .skip) = true := by kernel_rfl
theorem gimballaw07_whole.mr : mRes pg Try.f20.results.toList gimballaw07_whole.res = true := by kernel_rfl
theorem gimballaw07_whole.of {args : List V} {r : V} (hn : args.length = 1) (hW : W pg gimballaw07_whole.k (done gimballaw07_whole.res r) (start args)) : Ret pg n_gimballaw07_whole args r :=
  Ret_of (fn := Try.f20) Try.func20 rfl (by kernel_rfl) gimballaw07_whole.m gimballaw07_whole.mr (by rw [hn]; exact of_decide_eq_true (by kernel_rfl)) hW
def gimballaw07_wholes.k : K :=
  (.seq (.keep [0] (.ops false [⟨(some 2), none, .mov (.c (.str ⟨#[]⟩))⟩]))
  (.seq (.keep [0, 3] (.ops false [⟨(some 3), none, .mov (.c (.str ⟨#[]⟩))⟩]))
   (.seq (.seq (.keep [0, 3, 4] (.ops false [⟨(some 4), none, .mov (.c (.int .i64 0))⟩]))
     (.block 0 (.loop (.seq (.seq (.keep [0, 3, 4, 8] (.ops false [⟨(some 5), none, .mov (.t 4)⟩,
            ⟨(some 6), none, .mov (.t 0)⟩,
            ⟨(some 7), none, .len false (.t 6)⟩,
            ⟨(some 8), none, .bin .lss (.t 5) (.t 7)⟩]))
         (.cond (.t 8) .skip
          (.exit 0)))
        (.seq (.block 1 (.keep [0, 3, 4] (.ops false [⟨(some 11), none, .mov (.t 3)⟩,
             ⟨(some 12), none, .mov (.t 0)⟩,
             ⟨(some 13), none, .mov (.t 4)⟩,
             ⟨(some 14), none, .idxA 1 (.t 12) (.t 13)⟩,
             ⟨(some 15), none, .load 1 false (.t 14)⟩,
             ⟨(some 16), none, .callG n_gimballaw07_texts [(.t 15)]⟩,
             ⟨(some 17), none, .bin .add (.t 11) (.t 16)⟩,
             ⟨(some 18), none, .bin .add (.t 17) (.c (.str ⟨#[59]⟩))⟩,
             ⟨(some 3), none, .mov (.t 18)⟩])))
         (.keep [0, 3, 4] (.ops false [⟨(some 9), none, .mov (.t 4)⟩,
            ⟨(some 10), none, .bin .add (.t 9) (.c (.int .i64 1))⟩,
            ⟨(some 4), none, .mov (.t 10)⟩])))))))
    (.seq (.keep [2] (.ops false [⟨(some 19), none, .mov (.t 3)⟩,
        ⟨(some 2), none, .mov (.t 19)⟩]))
     .ret))))
def gimballaw07_wholes.res : List RX := [(2, none)]
theorem gimballaw07_wholes.m : mK pg Try.f21.ntmps gimballaw07_wholes.k (Try.f21.body.getD .skip) = true := by kernel_rfl
theorem gimballaw07_wholes.mr : mRes pg Try.f21.results.toList gimballaw07_wholes.res = true := by kernel_rfl
theorem gimballaw07_wholes.of {args : List V} {r : V} (hn : args.length = 1) (hW : W pg gimballaw07_wholes.k (done gimballaw07_wholes.res r) (start args)) : Ret pg n_gimballaw07_wholes args r :=
  Ret_of (fn := Try.f21) Try.func21 rfl (by kernel_rfl) gimballaw07_wholes.m gimballaw07_wholes.mr (by rw [hn]; exact of_decide_eq_true (by kernel_rfl)) hW
def gimballaw07_read.k : K :=
  (.seq (.keep [0, 1] (.ops false [⟨(some 4), none, .mov (.c .nil)⟩,
     ⟨(some 5), none, .mov (.c .nil)⟩,
     ⟨(some 6), none, .mov (.c (.bool false))⟩]))
  (.seq (.keep [0, 7] (.ops false [⟨(some 10), none, .mov (.t 0)⟩,
      ⟨(some 11), none, .mov (.t 1)⟩,
      ⟨(some 12), none, .callG n_gimballaw07_square [(.t 10), (.t 11)]⟩,
      ⟨(some 7), none, .mov (.t 12)⟩]))
   (.seq (.seq (.keep [0, 14] (.ops false [⟨(some 13), none, .mov (.t 7)⟩,
        ⟨(some 14), none, .un .not (.t 13)⟩]))
     (.cond (.t 14) (.seq (.keep [4, 5, 6] (.ops false [⟨(some 4), none, .mov (.c .nil)⟩,
          ⟨(some 5), none, .mov (.c .nil)⟩,
          ⟨(some 6), none, .mov (.c (.bool false))⟩]))
       .ret)
      .skip))
    (.seq (.keep [0, 8, 9] (.ops false [⟨(some 16), none, .mov (.t 0)⟩,
        ⟨(some 17), none, .callG n_lin_Of [(.t 16)]⟩,
        ⟨(some 15), none, .mov (.t 17)⟩,
        ⟨(some 18), none, .ext (.t 15) 0⟩,
        ⟨(some 19), none, .ext (.t 15) 1⟩,
        ⟨(some 8), none, .mov (.t 18)⟩,
        ⟨(some 9), none, .mov (.t 19)⟩]))
     (.seq (.keep [4, 5, 6] (.ops false [⟨(some 20), none, .mov (.t 8)⟩,
         ⟨(some 21), none, .mov (.t 0)⟩,
         ⟨(some 22), none, .callG n_gimbalref07_Of [(.t 21)]⟩,
         ⟨(some 23), none, .mov (.t 9)⟩,
         ⟨(some 24), none, .bin .eql (.t 23) (.c (.int .i64 0))⟩,
         ⟨(some 4), none, .mov (.t 20)⟩,
         ⟨(some 5), none, .mov (.t 22)⟩,
         ⟨(some 6), none, .mov (.t 24)⟩]))
      .ret)))))
def gimballaw07_read.res : List RX := [(4, none), (5, none), (6, none)]
theorem gimballaw07_read.m : mK pg Try.f23.ntmps gimballaw07_read.k (Try.f23.body.getD .skip) = true := by kernel_rfl
theorem gimballaw07_read.mr : mRes pg Try.f23.results.toList gimballaw07_read.res = true := by kernel_rfl
theorem gimballaw07_read.of {args : List V} {r : V} (hn : args.length = 2) (hW : W pg gimballaw07_read.k (done gimballaw07_read.res r) (start args)) : Ret pg n_gimballaw07_read args r :=
  Ret_of (fn := Try.f23) Try.func23 rfl (by kernel_rfl) gimballaw07_read.m gimballaw07_read.mr (by rw [hn]; exact of_decide_eq_true (by kernel_rfl)) hW
def gimballaw07_list.k : K :=
  (.seq (.keep [0, 1] (.ops false [⟨(some 4), none, .mov (.c .nil)⟩,
     ⟨(some 5), none, .mov (.c .nil)⟩]))
  (.seq (.keep [0, 1, 6] (.ops false [⟨(some 6), none, .mov (.c .nil)⟩]))
   (.seq (.keep [0, 1, 6, 7] (.ops false [⟨(some 7), none, .mov (.c .nil)⟩]))
    (.seq (.seq (.keep [0, 1, 6, 7, 8] (.ops false [⟨(some 8), none, .mov (.c (.int .i64 0))⟩]))
      (.block 0 (.loop (.seq (.seq (.keep [0, 1, 6, 7, 8, 12] (.ops false [⟨(some 10), none, .mov (.t 8)⟩,
             ⟨(some 11), none, .mov (.t 1)⟩,
             ⟨(some 12), none, .bin .lss (.t 10) (.t 11)⟩]))
          (.cond (.t 12) .skip
           (.exit 0)))
         (.seq (.block 1 (.seq (.keep [0, 1, 6, 7, 8, 9] (.ops false [⟨(some 9), none, .mov (.c (.int .i64 0))⟩]))
            (.seq (.seq (.keep [0, 1, 6, 7, 8, 9, 18] (.ops false [⟨(some 15), none, .mov (.t 8)⟩,
                 ⟨(some 16), none, .mov (.t 0)⟩,
                 ⟨(some 17), none, .len false (.t 16)⟩,
                 ⟨(some 18), none, .bin .lss (.t 15) (.t 17)⟩]))
              (.cond (.t 18) (.keep [0, 1, 6, 7, 8, 9] (.ops false [⟨(some 19), none, .mov (.t 0)⟩,
                  ⟨(some 20), none, .mov (.t 8)⟩,
                  ⟨(some 21), none, .idxA 1 (.t 19) (.t 20)⟩,
                  ⟨(some 22), none, .load 1 false (.t 21)⟩,
                  ⟨(some 9), none, .mov (.t 22)⟩]))
               .skip))
             (.seq (.keep [0, 1, 6, 7, 8, 9] (.ops false [⟨(some 23), none, .mov (.t 6)⟩,
                 ⟨(some 24), none, .mov (.t 9)⟩,
                 ⟨(some 25), none, .callG n_long_Of [(.t 24)]⟩,
                 ⟨(some 26), none, .new (.bsl 2) [(.t 25)]⟩,
                 ⟨(some 27), none, .eff (.app 2 32) [(.t 23), (.t 26)]⟩,
                 ⟨(some 6), none, .mov (.t 27)⟩]))
              (.keep [0, 1, 6, 7, 8] (.ops false [⟨(some 28), none, .mov (.t 7)⟩,
                 ⟨(some 29), none, .mov (.t 9)⟩,
                 ⟨(some 30), none, .callG n_gimbalref01_Of [(.t 29)]⟩,
                 ⟨(some 31), none, .new (.bsl 2) [(.t 30)]⟩,
                 ⟨(some 32), none, .eff (.app 2 32) [(.t 28), (.t 31)]⟩,
                 ⟨(some 7), none, .mov (.t 32)⟩]))))))
          (.keep [0, 1, 6, 7, 8] (.ops false [⟨(some 13), none, .mov (.t 8)⟩,
             ⟨(some 14), none, .bin .add (.t 13) (.c (.int .i64 1))⟩,
             ⟨(some 8), none, .mov (.t 14)⟩])))))))
     (.seq (.keep [4, 5] (.ops false [⟨(some 33), none, .mov (.t 6)⟩,
         ⟨(some 34), none, .mov (.t 7)⟩,
         ⟨(some 4), none, .mov (.t 33)⟩,
         ⟨(some 5), none, .mov (.t 34)⟩]))
      .ret)))))
def gimballaw07_list.res : List RX := [(4, none), (5, none)]
theorem gimballaw07_list.m : mK pg Try.f24.ntmps gimballaw07_list.k (Try.f24.body.getD .skip) = true := by kernel_rfl
theorem gimballaw07_list.mr : mRes pg Try.f24.results.toList gimballaw07_list.res = true := by kernel_rfl
theorem gimballaw07_list.of {args : List V} {r : V} (hn : args.length = 2) (hW : W pg gimballaw07_list.k (done gimballaw07_list.res r) (start args)) : Ret pg n_gimballaw07_list args r :=
  Ret_of (fn := Try.f24) Try.func24 rfl (by kernel_rfl) gimballaw07_list.m gimballaw07_list.mr (by rw [hn]; exact of_decide_eq_true (by kernel_rfl)) hW
def gimballaw07_text.k : K :=
  (.seq (.keep [0] (.ops false [⟨(some 2), none, .mov (.c (.str ⟨#[]⟩))⟩]))
  (.seq (.keep [0, 3] (.ops false [⟨(some 3), none, .mov (.c (.str ⟨#[]⟩))⟩]))
   (.seq (.seq (.keep [0, 3, 4] (.ops false [⟨(some 4), none, .mov (.c (.int .i64 0))⟩]))
     (.block 0 (.loop (.seq (.seq (.keep [0, 3, 4, 8] (.ops false [⟨(some 5), none, .mov (.t 4)⟩,
            ⟨(some 6), none, .mov (.t 0)⟩,
            ⟨(some 7), none, .len false (.t 6)⟩,
            ⟨(some 8), none, .bin .lss (.t 5) (.t 7)⟩]))
         (.cond (.t 8) .skip
          (.exit 0)))
        (.seq (.block 1 (.keep [0, 3, 4] (.ops false [⟨(some 11), none, .mov (.t 3)⟩,
             ⟨(some 12), none, .mov (.t 0)⟩,
             ⟨(some 13), none, .mov (.t 4)⟩,
             ⟨(some 14), none, .idxA 2 (.t 12) (.t 13)⟩,
             ⟨(some 15), none, .load 2 true (.t 14)⟩,
             ⟨(some 16), none, .callG n_long_Int_String [(.t 15)]⟩,
             ⟨(some 17), none, .bin .add (.t 11) (.t 16)⟩,
             ⟨(some 18), none, .bin .add (.t 17) (.c (.str ⟨#[32]⟩))⟩,
             ⟨(some 3), none, .mov (.t 18)⟩])))
         (.keep [0, 3, 4] (.ops false [⟨(some 9), none, .mov (.t 4)⟩,
            ⟨(some 10), none, .bin .add (.t 9) (.c (.int .i64 1))⟩,
            ⟨(some 4), none, .mov (.t 10)⟩])))))))
    (.seq (.keep [2] (.ops false [⟨(some 19), none, .mov (.t 3)⟩,
        ⟨(some 2), none, .mov (.t 19)⟩]))
     .ret))))
def gimballaw07_text.res : List RX := [(2, none)]
theorem gimballaw07_text.m : mK pg Try.f31.ntmps gimballaw07_text.k (Try.f31.body.getD .skip) = true := by kernel_rfl
theorem gimballaw07_text.mr : mRes pg Try.f31.results.toList gimballaw07_text.res = true := by kernel_rfl
theorem gimballaw07_text.of {args : List V} {r : V} (hn : args.length = 1) (hW : W pg gimballaw07_text.k (done gimballaw07_text.res r) (start args)) : Ret pg n_gimballaw07_text args r :=
  Ret_of (fn := Try.f31) Try.func31 rfl (by kernel_rfl) gimballaw07_text.m gimballaw07_text.mr (by rw [hn]; exact of_decide_eq_true (by kernel_rfl)) hW
def gimballaw07_texts.k : K :=
  (.seq (.keep [0] (.ops false [⟨(some 2), none, .mov (.c (.str ⟨#[]⟩))⟩]))
  (.seq (.keep [0, 3] (.ops false [⟨(some 3), none, .mov (.c (.str ⟨#[]⟩))⟩]))
   (.seq (.seq (.keep [0, 3, 4] (.ops false [⟨(some 4), none, .mov (.c (.int .i64 0))⟩]))
     (.block 0 (.loop (.seq (.seq (.keep [0, 3, 4, 8] (.ops false [⟨(some 5), none, .mov (.t 4)⟩,
            ⟨(some 6), none, .mov (.t 0)⟩,
            ⟨(some 7), none, .len false (.t 6)⟩,
            ⟨(some 8), none, .bin .lss (.t 5) (.t 7)⟩]))
         (.cond (.t 8) .skip
          (.exit 0)))
        (.seq (.block 1 (.keep [0, 3, 4] (.ops false [⟨(some 11), none, .mov (.t 3)⟩,
             ⟨(some 12), none, .mov (.t 0)⟩,
             ⟨(some 13), none, .mov (.t 4)⟩,
             ⟨(some 14), none, .idxA 2 (.t 12) (.t 13)⟩,
             ⟨(some 15), none, .load 2 true (.t 14)⟩,
             ⟨(some 16), none, .callG n_gimbalref01_Int_String [(.t 15)]⟩,
             ⟨(some 17), none, .bin .add (.t 11) (.t 16)⟩,
             ⟨(some 18), none, .bin .add (.t 17) (.c (.str ⟨#[32]⟩))⟩,
             ⟨(some 3), none, .mov (.t 18)⟩])))
         (.keep [0, 3, 4] (.ops false [⟨(some 9), none, .mov (.t 4)⟩,
            ⟨(some 10), none, .bin .add (.t 9) (.c (.int .i64 1))⟩,
            ⟨(some 4), none, .mov (.t 10)⟩])))))))
    (.seq (.keep [2] (.ops false [⟨(some 19), none, .mov (.t 3)⟩,
        ⟨(some 2), none, .mov (.t 19)⟩]))
     .ret))))
def gimballaw07_texts.res : List RX := [(2, none)]
theorem gimballaw07_texts.m : mK pg Try.f32.ntmps gimballaw07_texts.k (Try.f32.body.getD .skip) = true := by kernel_rfl
theorem gimballaw07_texts.mr : mRes pg Try.f32.results.toList gimballaw07_texts.res = true := by kernel_rfl
theorem gimballaw07_texts.of {args : List V} {r : V} (hn : args.length = 1) (hW : W pg gimballaw07_texts.k (done gimballaw07_texts.res r) (start args)) : Ret pg n_gimballaw07_texts args r :=
  Ret_of (fn := Try.f32) Try.func32 rfl (by kernel_rfl) gimballaw07_texts.m gimballaw07_texts.mr (by rw [hn]; exact of_decide_eq_true (by kernel_rfl)) hW
end Go.Gim

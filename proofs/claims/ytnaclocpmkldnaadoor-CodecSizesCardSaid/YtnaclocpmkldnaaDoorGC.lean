/- Functions' code as data (written by wip/tools/gen.py), and the step to their contracts. -/
import Derived.Test.YtnaclocpmkldnaaDoorGN
set_option maxRecDepth 100000
namespace Go.Gim
open Go.Proofs
/-- gimbal/codec.Encode -/
def codec_Encode.k : K :=
  (.seq (.keep [1] (.ops false [⟨(some 1), none, .boxP (.t 0)⟩,
     ⟨(some 2), none, .mov (.c (.int .u8 0))⟩,
     ⟨(some 3), none, .mov (.c (.str ⟨#[]⟩))⟩,
     ⟨(some 4), none, .mov (.c (.int .i64 0))⟩]))
  (.seq (.seq (.keep [1, 5] (.ops false [⟨(some 9), none, .load 4 true (.t 1)⟩,
       ⟨(some 10), none, .callG n_codec_right [(.t 9)]⟩,
       ⟨(some 5), none, .mov (.t 10)⟩]))
    (.seq (.keep [1, 5, 12] (.ops false [⟨(some 11), none, .mov (.t 5)⟩,
        ⟨(some 12), none, .bin .neq (.t 11) (.c (.int .i64 0))⟩]))
     (.cond (.t 12) (.seq (.keep [2, 3, 4] (.ops false [⟨(some 13), none, .mov (.t 5)⟩,
          ⟨(some 2), none, .mov (.c (.int .u8 0))⟩,
          ⟨(some 3), none, .mov (.c (.str ⟨#[]⟩))⟩,
          ⟨(some 4), none, .mov (.t 13)⟩]))
       .ret)
      .skip)))
   (.seq (.keep [1, 6] (.ops true [⟨(some 14), none, .red (.faP 1 1 false) [(.t 1)]⟩,
       ⟨(some 15), none, .red (.ldP 1 false) [(.t 14)]⟩,
       ⟨(some 16), none, .callG n_codec_bytes [(.c .nil), (.t 15), (.c (.int .i64 4))]⟩,
       ⟨(some 17), none, .red (.faP 2 1 false) [(.t 1)]⟩,
       ⟨(some 18), none, .red (.ldP 1 false) [(.t 17)]⟩,
       ⟨(some 19), none, .callG n_codec_bytes [(.t 16), (.t 18), (.c (.int .i64 2))]⟩,
       ⟨(some 6), none, .mov (.t 19)⟩]))
    (.seq (.seq (.keep [1, 6, 21, 22, 23] (.ops false [⟨(some 20), none, .fldA 3 1 false (.t 1)⟩,
         ⟨(some 21), none, .load 1 false (.t 20)⟩,
         ⟨(some 22), none, .len false (.t 21)⟩,
         ⟨(some 23), none, .mov (.c (.int .i64 0))⟩]))
      (.block 0 (.loop (.seq (.keep [1, 6, 21, 22, 23, 24] (.ops false [⟨(some 24), none, .bin .lss (.t 23) (.t 22)⟩]))
         (.seq (.cond (.t 24) .skip
           (.exit 0))
          (.seq (.block 1 (.seq (.keep [1, 6, 8, 21, 22, 23] (.ops false [⟨(some 25), none, .idxA 1 (.t 21) (.t 23)⟩,
                ⟨(some 26), none, .load 1 false (.t 25)⟩,
                ⟨(some 8), none, .mov (.t 26)⟩]))
             (.keep [1, 6, 21, 22, 23] (.ops false [⟨(some 27), none, .mov (.t 6)⟩,
                ⟨(some 28), none, .mov (.t 8)⟩,
                ⟨(some 29), none, .callG n_codec_bytes [(.t 27), (.t 28), (.c (.int .i64 4))]⟩,
                ⟨(some 6), none, .mov (.t 29)⟩]))))
           (.keep [1, 6, 21, 22, 23] (.ops false [⟨(some 30), none, .bin .add (.t 23) (.c (.int .i64 1))⟩,
              ⟨(some 23), none, .mov (.t 30)⟩]))))))))
     (.seq (.keep [2, 3, 4] (.ops true [⟨(some 31), none, .red (.faP 0 1 false) [(.t 1)]⟩,
         ⟨(some 32), none, .red (.ldP 1 false) [(.t 31)]⟩,
         ⟨(some 33), none, .conv .u8 (.t 32)⟩,
         ⟨(some 34), none, .mov (.t 6)⟩,
         ⟨(some 35), none, .eff .b2sO [(.t 34)]⟩,
         ⟨(some 2), none, .mov (.t 33)⟩,
         ⟨(some 3), none, .mov (.t 35)⟩,
         ⟨(some 4), none, .mov (.c (.int .i64 0))⟩]))
      .ret)))))
def codec_Encode.res : List RX := [(2, none), (3, none), (4, none)]
theorem codec_Encode.m : mK pg Tryd.f14.ntmps codec_Encode.k (Tryd.f14.body.getD .skip) = true := by kernel_rfl
theorem codec_Encode.mr : mRes pg Tryd.f14.results.toList codec_Encode.res = true := by kernel_rfl
theorem codec_Encode.of {args : List V} {r : V} (hn : args.length = 1) (hW : W pg codec_Encode.k (done codec_Encode.res r) (start args)) : Ret pg n_codec_Encode args r :=
  Ret_of (fn := Tryd.f14) Tryd.func14 rfl (by kernel_rfl) codec_Encode.m codec_Encode.mr (by rw [hn]; exact of_decide_eq_true (by kernel_rfl)) hW
theorem codec_Encode.ofG {args : List V} {H : Hp} {n : Nat} {Q : V → Hp → Nat → Prop} (hn : args.length = 1) (hW : W pg codec_Encode.k (doneG codec_Encode.res (fun r H' n' => n ≤ n' ∧ Q r H' n')) (startG args H n)) : ∃ r H' n', Q r H' n' ∧ RetG pg n_codec_Encode args H n r H' n' :=
  RetG_of (fn := Tryd.f14) Tryd.func14 rfl (by kernel_rfl) codec_Encode.m codec_Encode.mr (by rw [hn]; exact of_decide_eq_true (by kernel_rfl)) hW

/-- gimbal/codec.Count -/
def codec_Count.k : K :=
  (.seq (.keep [0] (.ops false [⟨(some 2), none, .mov (.c (.int .i64 0))⟩]))
  (.seq (.seq (.keep [0, 8] (.ops false [⟨(some 3), none, .mov (.t 0)⟩,
       ⟨(some 4), none, .bin .lss (.t 3) (.c (.int .i64 0))⟩,
       ⟨(some 5), none, .mov (.t 4)⟩,
       ⟨(some 6), (some (5, false)), .mov (.t 0)⟩,
       ⟨(some 7), (some (5, false)), .bin .geq (.t 6) (.c (.int .i64 5))⟩,
       ⟨(some 8), none, .pick (.t 5) (.c (.bool true)) (.t 7)⟩]))
    (.cond (.t 8) (.seq (.keep [2] (.ops false [⟨(some 2), none, .mov (.c (.int .i64 0))⟩]))
      .ret)
     .skip))
   (.seq (.keep [2] (.ops false [⟨(some 9), none, .mov (.t 0)⟩,
       ⟨(some 10), none, .red (.aptr 5 1 false) [(.g 0), (.t 9)]⟩,
       ⟨(some 11), none, .load 1 false (.t 10)⟩,
       ⟨(some 2), none, .mov (.t 11)⟩]))
    .ret)))
def codec_Count.res : List RX := [(2, none)]
theorem codec_Count.m : mK pg Tryd.f16.ntmps codec_Count.k (Tryd.f16.body.getD .skip) = true := by kernel_rfl
theorem codec_Count.mr : mRes pg Tryd.f16.results.toList codec_Count.res = true := by kernel_rfl
theorem codec_Count.of {args : List V} {r : V} (hn : args.length = 1) (hW : W pg codec_Count.k (done codec_Count.res r) (start args)) : Ret pg n_codec_Count args r :=
  Ret_of (fn := Tryd.f16) Tryd.func16 rfl (by kernel_rfl) codec_Count.m codec_Count.mr (by rw [hn]; exact of_decide_eq_true (by kernel_rfl)) hW
theorem codec_Count.ofG {args : List V} {H : Hp} {n : Nat} {Q : V → Hp → Nat → Prop} (hn : args.length = 1) (hW : W pg codec_Count.k (doneG codec_Count.res (fun r H' n' => n ≤ n' ∧ Q r H' n')) (startG args H n)) : ∃ r H' n', Q r H' n' ∧ RetG pg n_codec_Count args H n r H' n' :=
  RetG_of (fn := Tryd.f16) Tryd.func16 rfl (by kernel_rfl) codec_Count.m codec_Count.mr (by rw [hn]; exact of_decide_eq_true (by kernel_rfl)) hW

/-- gimbal/codec.Decode -/
def codec_Decode.k : K :=
  (.seq (.keep [0, 1, 4] (.ops false [⟨(some 4), none, .alloc 4 (.agg [(.int .i64 0), (.int .i64 0), (.int .i64 0), .nil])⟩,
     ⟨(some 5), none, .mov (.c (.int .i64 0))⟩]))
  (.seq (.keep [1, 4, 6] (.ops false [⟨(some 10), none, .mov (.t 0)⟩,
      ⟨(some 11), none, .conv .i64 (.t 10)⟩,
      ⟨(some 12), none, .build [(.int .i64 0), (.int .i64 0), (.int .i64 0), .nil] [(0, 1, (.t 11))]⟩,
      ⟨(some 6), none, .alloc 4 (.agg [(.int .i64 0), (.int .i64 0), (.int .i64 0), .nil])⟩,
      ⟨none, none, .store 4 (.t 6) (.t 12)⟩]))
   (.seq (.keep [1, 4, 6, 7] (.ops false [⟨(some 13), none, .fldA 0 1 false (.t 6)⟩,
       ⟨(some 14), none, .load 1 false (.t 13)⟩,
       ⟨(some 15), none, .callG n_codec_Count [(.t 14)]⟩,
       ⟨(some 7), none, .mov (.t 15)⟩]))
    (.seq (.block 0 (.seq (.keep [1, 4, 6, 7, 16] (.ops false [⟨(some 17), none, .mov (.t 7)⟩,
          ⟨(some 18), none, .bin .eql (.t 17) (.c (.int .i64 0))⟩,
          ⟨(some 16), none, .mov (.t 18)⟩]))
       (.cond (.t 16) (.seq (.keep [4, 5] (.ops false [⟨(some 19), none, .build [(.int .i64 0), (.int .i64 0), (.int .i64 0), .nil] []⟩,
            ⟨none, none, .store 4 (.t 4) (.t 19)⟩,
            ⟨(some 5), none, .mov (.c (.int .i64 120))⟩]))
         .ret)
        (.seq (.keep [1, 4, 6, 20] (.ops false [⟨(some 21), none, .mov (.t 1)⟩,
            ⟨(some 22), none, .len true (.t 21)⟩,
            ⟨(some 23), none, .mov (.t 7)⟩,
            ⟨(some 24), none, .bin .mul (.c (.int .i64 4)) (.t 23)⟩,
            ⟨(some 25), none, .bin .add (.c (.int .i64 6)) (.t 24)⟩,
            ⟨(some 26), none, .bin .neq (.t 22) (.t 25)⟩,
            ⟨(some 20), none, .mov (.t 26)⟩]))
         (.cond (.t 20) (.seq (.keep [4, 5] (.ops false [⟨(some 27), none, .build [(.int .i64 0), (.int .i64 0), (.int .i64 0), .nil] []⟩,
              ⟨none, none, .store 4 (.t 4) (.t 27)⟩,
              ⟨(some 5), none, .mov (.c (.int .i64 121))⟩]))
           .ret)
          .skip)))))
     (.seq (.keep [1, 4, 6] (.ops true [⟨(some 28), none, .mov (.t 1)⟩,
         ⟨(some 29), none, .red (.slc 0 false true false) [(.t 28), (.c (.int .i64 4))]⟩,
         ⟨(some 30), none, .call n_codec_number [(.t 29)]⟩,
         ⟨(some 31), none, .mov (.t 1)⟩,
         ⟨(some 32), none, .red (.slc 0 true true false) [(.t 31), (.c (.int .i64 4)), (.c (.int .i64 6))]⟩,
         ⟨(some 33), none, .call n_codec_number [(.t 32)]⟩,
         ⟨(some 34), none, .fldA 1 1 false (.t 6)⟩,
         ⟨none, none, .store 1 (.t 34) (.t 30)⟩,
         ⟨(some 35), none, .fldA 2 1 false (.t 6)⟩,
         ⟨none, none, .store 1 (.t 35) (.t 33)⟩]))
      (.seq (.seq (.keep [4, 6, 8] (.ops false [⟨(some 36), none, .mov (.t 1)⟩,
           ⟨(some 37), none, .red (.slc 0 true false false) [(.t 36), (.c (.int .i64 6))]⟩,
           ⟨(some 8), none, .mov (.t 37)⟩]))
        (.block 1 (.loop (.seq (.seq (.keep [4, 6, 8, 39] (.ops false [⟨(some 38), none, .mov (.t 8)⟩,
               ⟨(some 39), none, .bin .neq (.t 38) (.c (.str ⟨#[]⟩))⟩]))
            (.cond (.t 39) .skip
             (.exit 1)))
           (.seq (.block 2 (.keep [4, 6, 8] (.ops true [⟨(some 42), none, .fldA 3 1 false (.t 6)⟩,
                ⟨(some 43), none, .load 1 false (.t 42)⟩,
                ⟨(some 44), none, .mov (.t 8)⟩,
                ⟨(some 45), none, .red (.slc 0 false true false) [(.t 44), (.c (.int .i64 4))]⟩,
                ⟨(some 46), none, .call n_codec_number [(.t 45)]⟩,
                ⟨(some 47), none, .conv .i32 (.t 46)⟩,
                ⟨(some 48), none, .conv .i64 (.t 47)⟩,
                ⟨(some 49), none, .new (.bsl 1) [(.t 48)]⟩,
                ⟨(some 50), none, .eff (.app 1 8) [(.t 43), (.t 49)]⟩,
                ⟨(some 51), none, .fldA 3 1 false (.t 6)⟩,
                ⟨none, none, .store 1 (.t 51) (.t 50)⟩])))
            (.keep [4, 6, 8] (.ops false [⟨(some 40), none, .mov (.t 8)⟩,
               ⟨(some 41), none, .red (.slc 0 true false false) [(.t 40), (.c (.int .i64 4))]⟩,
               ⟨(some 8), none, .mov (.t 41)⟩])))))))
       (.seq (.seq (.keep [4, 6, 9] (.ops false [⟨(some 52), none, .load 4 true (.t 6)⟩,
            ⟨(some 53), none, .callG n_codec_right [(.t 52)]⟩,
            ⟨(some 9), none, .mov (.t 53)⟩]))
         (.seq (.keep [4, 6, 9, 55] (.ops false [⟨(some 54), none, .mov (.t 9)⟩,
             ⟨(some 55), none, .bin .neq (.t 54) (.c (.int .i64 0))⟩]))
          (.cond (.t 55) (.seq (.keep [4, 5] (.ops false [⟨(some 56), none, .build [(.int .i64 0), (.int .i64 0), (.int .i64 0), .nil] []⟩,
               ⟨(some 57), none, .mov (.t 9)⟩,
               ⟨none, none, .store 4 (.t 4) (.t 56)⟩,
               ⟨(some 5), none, .mov (.t 57)⟩]))
            .ret)
           .skip)))
        (.seq (.keep [4, 5] (.ops false [⟨(some 58), none, .load 4 true (.t 6)⟩,
            ⟨none, none, .store 4 (.t 4) (.t 58)⟩,
            ⟨(some 5), none, .mov (.c (.int .i64 0))⟩]))
         .ret))))))))
def codec_Decode.res : List RX := [(4, some (4, true)), (5, none)]
theorem codec_Decode.m : mK pg Tryd.f18.ntmps codec_Decode.k (Tryd.f18.body.getD .skip) = true := by kernel_rfl
theorem codec_Decode.mr : mRes pg Tryd.f18.results.toList codec_Decode.res = true := by kernel_rfl
theorem codec_Decode.of {args : List V} {r : V} (hn : args.length = 2) (hW : W pg codec_Decode.k (done codec_Decode.res r) (start args)) : Ret pg n_codec_Decode args r :=
  Ret_of (fn := Tryd.f18) Tryd.func18 rfl (by kernel_rfl) codec_Decode.m codec_Decode.mr (by rw [hn]; exact of_decide_eq_true (by kernel_rfl)) hW
theorem codec_Decode.ofG {args : List V} {H : Hp} {n : Nat} {Q : V → Hp → Nat → Prop} (hn : args.length = 2) (hW : W pg codec_Decode.k (doneG codec_Decode.res (fun r H' n' => n ≤ n' ∧ Q r H' n')) (startG args H n)) : ∃ r H' n', Q r H' n' ∧ RetG pg n_codec_Decode args H n r H' n' :=
  RetG_of (fn := Tryd.f18) Tryd.func18 rfl (by kernel_rfl) codec_Decode.m codec_Decode.mr (by rw [hn]; exact of_decide_eq_true (by kernel_rfl)) hW

/-- gimbal/codec.right -/
def codec_right.k : K :=
  (.seq (.keep [1] (.ops false [⟨(some 1), none, .boxP (.t 0)⟩,
     ⟨(some 2), none, .mov (.c (.int .i64 0))⟩]))
  (.seq (.block 0 (.seq (.keep [1, 5] (.ops false [⟨(some 6), none, .fldA 0 1 false (.t 1)⟩,
        ⟨(some 7), none, .load 1 false (.t 6)⟩,
        ⟨(some 8), none, .callG n_codec_Count [(.t 7)]⟩,
        ⟨(some 9), none, .bin .eql (.t 8) (.c (.int .i64 0))⟩,
        ⟨(some 5), none, .mov (.t 9)⟩]))
     (.cond (.t 5) (.seq (.keep [2] (.ops false [⟨(some 2), none, .mov (.c (.int .i64 120))⟩]))
       .ret)
      (.seq (.keep [1, 10] (.ops true [⟨(some 11), none, .fldA 3 1 false (.t 1)⟩,
          ⟨(some 12), none, .load 1 false (.t 11)⟩,
          ⟨(some 13), none, .len false (.t 12)⟩,
          ⟨(some 14), none, .fldA 0 1 false (.t 1)⟩,
          ⟨(some 15), none, .load 1 false (.t 14)⟩,
          ⟨(some 16), none, .call n_codec_Count [(.t 15)]⟩,
          ⟨(some 17), none, .bin .neq (.t 13) (.t 16)⟩,
          ⟨(some 10), none, .mov (.t 17)⟩]))
       (.cond (.t 10) (.seq (.keep [2] (.ops false [⟨(some 2), none, .mov (.c (.int .i64 121))⟩]))
         .ret)
        (.seq (.keep [1, 18] (.ops false [⟨(some 19), none, .fldA 1 1 false (.t 1)⟩,
            ⟨(some 20), none, .load 1 false (.t 19)⟩,
            ⟨(some 21), none, .bin .lss (.t 20) (.c (.int .i64 0))⟩,
            ⟨(some 22), none, .mov (.t 21)⟩,
            ⟨(some 23), (some (22, false)), .fldA 1 1 false (.t 1)⟩,
            ⟨(some 24), (some (22, false)), .load 1 false (.t 23)⟩,
            ⟨(some 25), (some (22, false)), .bin .geq (.t 24) (.c (.int .i64 4294967296))⟩,
            ⟨(some 26), none, .pick (.t 22) (.c (.bool true)) (.t 25)⟩,
            ⟨(some 27), none, .mov (.t 26)⟩,
            ⟨(some 28), (some (27, false)), .fldA 2 1 false (.t 1)⟩,
            ⟨(some 29), (some (27, false)), .load 1 false (.t 28)⟩,
            ⟨(some 30), (some (27, false)), .bin .lss (.t 29) (.c (.int .i64 0))⟩,
            ⟨(some 31), none, .pick (.t 27) (.c (.bool true)) (.t 30)⟩,
            ⟨(some 32), none, .mov (.t 31)⟩,
            ⟨(some 33), (some (32, false)), .fldA 2 1 false (.t 1)⟩,
            ⟨(some 34), (some (32, false)), .load 1 false (.t 33)⟩,
            ⟨(some 35), (some (32, false)), .bin .geq (.t 34) (.c (.int .i64 65536))⟩,
            ⟨(some 36), none, .pick (.t 32) (.c (.bool true)) (.t 35)⟩,
            ⟨(some 18), none, .mov (.t 36)⟩]))
         (.cond (.t 18) (.seq (.keep [2] (.ops false [⟨(some 2), none, .mov (.c (.int .i64 122))⟩]))
           .ret)
          .skip)))))))
   (.seq (.seq (.keep [38, 39, 40] (.ops false [⟨(some 37), none, .fldA 3 1 false (.t 1)⟩,
        ⟨(some 38), none, .load 1 false (.t 37)⟩,
        ⟨(some 39), none, .len false (.t 38)⟩,
        ⟨(some 40), none, .mov (.c (.int .i64 0))⟩]))
     (.block 1 (.loop (.seq (.keep [38, 39, 40, 41] (.ops false [⟨(some 41), none, .bin .lss (.t 40) (.t 39)⟩]))
        (.seq (.cond (.t 41) .skip
          (.exit 1))
         (.seq (.block 2 (.seq (.keep [4, 38, 39, 40] (.ops false [⟨(some 42), none, .idxA 1 (.t 38) (.t 40)⟩,
               ⟨(some 43), none, .load 1 false (.t 42)⟩,
               ⟨(some 4), none, .mov (.t 43)⟩]))
            (.seq (.keep [38, 39, 40, 49] (.ops false [⟨(some 44), none, .mov (.t 4)⟩,
                ⟨(some 45), none, .bin .lss (.t 44) (.c (.int .i64 (-2147483647)))⟩,
                ⟨(some 46), none, .mov (.t 45)⟩,
                ⟨(some 47), (some (46, false)), .mov (.t 4)⟩,
                ⟨(some 48), (some (46, false)), .bin .gtr (.t 47) (.c (.int .i64 2147483647))⟩,
                ⟨(some 49), none, .pick (.t 46) (.c (.bool true)) (.t 48)⟩]))
             (.cond (.t 49) (.seq (.keep [2] (.ops false [⟨(some 2), none, .mov (.c (.int .i64 122))⟩]))
               .ret)
              .skip))))
          (.keep [38, 39, 40] (.ops false [⟨(some 50), none, .bin .add (.t 40) (.c (.int .i64 1))⟩,
             ⟨(some 40), none, .mov (.t 50)⟩]))))))))
    (.seq (.keep [2] (.ops false [⟨(some 2), none, .mov (.c (.int .i64 0))⟩]))
     .ret))))
def codec_right.res : List RX := [(2, none)]
theorem codec_right.m : mK pg Tryd.f35.ntmps codec_right.k (Tryd.f35.body.getD .skip) = true := by kernel_rfl
theorem codec_right.mr : mRes pg Tryd.f35.results.toList codec_right.res = true := by kernel_rfl
theorem codec_right.of {args : List V} {r : V} (hn : args.length = 1) (hW : W pg codec_right.k (done codec_right.res r) (start args)) : Ret pg n_codec_right args r :=
  Ret_of (fn := Tryd.f35) Tryd.func35 rfl (by kernel_rfl) codec_right.m codec_right.mr (by rw [hn]; exact of_decide_eq_true (by kernel_rfl)) hW
theorem codec_right.ofG {args : List V} {H : Hp} {n : Nat} {Q : V → Hp → Nat → Prop} (hn : args.length = 1) (hW : W pg codec_right.k (doneG codec_right.res (fun r H' n' => n ≤ n' ∧ Q r H' n')) (startG args H n)) : ∃ r H' n', Q r H' n' ∧ RetG pg n_codec_right args H n r H' n' :=
  RetG_of (fn := Tryd.f35) Tryd.func35 rfl (by kernel_rfl) codec_right.m codec_right.mr (by rw [hn]; exact of_decide_eq_true (by kernel_rfl)) hW

/-- gimbal/codec.bytes -/
def codec_bytes.k : K :=
  (.seq (.keep [0, 1, 2] (.ops false [⟨(some 6), none, .mov (.c .nil)⟩]))
  (.seq (.seq (.keep [0, 1, 7] (.ops false [⟨(some 8), none, .mov (.t 2)⟩,
       ⟨(some 9), none, .bin .sub (.t 8) (.c (.int .i64 1))⟩,
       ⟨(some 7), none, .mov (.t 9)⟩]))
    (.block 0 (.loop (.seq (.seq (.keep [0, 1, 7, 11] (.ops false [⟨(some 10), none, .mov (.t 7)⟩,
           ⟨(some 11), none, .bin .geq (.t 10) (.c (.int .i64 0))⟩]))
        (.cond (.t 11) .skip
         (.exit 0)))
       (.seq (.block 1 (.keep [0, 1, 7] (.ops false [⟨(some 14), none, .mov (.t 0)⟩,
            ⟨(some 15), none, .mov (.t 1)⟩,
            ⟨(some 16), none, .mov (.t 7)⟩,
            ⟨(some 17), none, .bin .mul (.c (.int .i64 8)) (.t 16)⟩,
            ⟨(some 18), none, .bin .shr (.t 15) (.t 17)⟩,
            ⟨(some 19), none, .conv .u8 (.t 18)⟩,
            ⟨(some 20), none, .new (.bsl 1) [(.t 19)]⟩,
            ⟨(some 21), none, .eff (.app 1 1) [(.t 14), (.t 20)]⟩,
            ⟨(some 0), none, .mov (.t 21)⟩])))
        (.keep [0, 1, 7] (.ops false [⟨(some 12), none, .mov (.t 7)⟩,
           ⟨(some 13), none, .bin .sub (.t 12) (.c (.int .i64 1))⟩,
           ⟨(some 7), none, .mov (.t 13)⟩])))))))
   (.seq (.keep [6] (.ops false [⟨(some 22), none, .mov (.t 0)⟩,
       ⟨(some 6), none, .mov (.t 22)⟩]))
    .ret)))
def codec_bytes.res : List RX := [(6, none)]
theorem codec_bytes.m : mK pg Tryd.f36.ntmps codec_bytes.k (Tryd.f36.body.getD .skip) = true := by kernel_rfl
theorem codec_bytes.mr : mRes pg Tryd.f36.results.toList codec_bytes.res = true := by kernel_rfl
theorem codec_bytes.of {args : List V} {r : V} (hn : args.length = 3) (hW : W pg codec_bytes.k (done codec_bytes.res r) (start args)) : Ret pg n_codec_bytes args r :=
  Ret_of (fn := Tryd.f36) Tryd.func36 rfl (by kernel_rfl) codec_bytes.m codec_bytes.mr (by rw [hn]; exact of_decide_eq_true (by kernel_rfl)) hW
theorem codec_bytes.ofG {args : List V} {H : Hp} {n : Nat} {Q : V → Hp → Nat → Prop} (hn : args.length = 3) (hW : W pg codec_bytes.k (doneG codec_bytes.res (fun r H' n' => n ≤ n' ∧ Q r H' n')) (startG args H n)) : ∃ r H' n', Q r H' n' ∧ RetG pg n_codec_bytes args H n r H' n' :=
  RetG_of (fn := Tryd.f36) Tryd.func36 rfl (by kernel_rfl) codec_bytes.m codec_bytes.mr (by rw [hn]; exact of_decide_eq_true (by kernel_rfl)) hW

/-- gimbal/codec.number -/
def codec_number.k : K :=
  (.seq (.keep [0] (.ops false [⟨(some 2), none, .mov (.c (.int .i64 0))⟩]))
  (.seq (.keep [0, 3] (.ops false [⟨(some 3), none, .mov (.c (.int .i64 0))⟩]))
   (.seq (.seq (.keep [3, 7, 8, 9] (.ops false [⟨(some 6), none, .mov (.t 0)⟩,
        ⟨(some 7), none, .red .s2b [(.t 6)]⟩,
        ⟨(some 8), none, .len false (.t 7)⟩,
        ⟨(some 9), none, .mov (.c (.int .i64 0))⟩]))
     (.block 0 (.loop (.seq (.keep [3, 7, 8, 9, 10] (.ops false [⟨(some 10), none, .bin .lss (.t 9) (.t 8)⟩]))
        (.seq (.cond (.t 10) .skip
          (.exit 0))
         (.seq (.block 1 (.seq (.keep [3, 5, 7, 8, 9] (.ops false [⟨(some 11), none, .idxA 1 (.t 7) (.t 9)⟩,
               ⟨(some 12), none, .load 1 false (.t 11)⟩,
               ⟨(some 5), none, .mov (.t 12)⟩]))
            (.keep [3, 7, 8, 9] (.ops false [⟨(some 13), none, .mov (.t 3)⟩,
               ⟨(some 14), none, .bin .shl (.t 13) (.c (.int .u64 8))⟩,
               ⟨(some 15), none, .mov (.t 5)⟩,
               ⟨(some 16), none, .conv .i64 (.t 15)⟩,
               ⟨(some 17), none, .bin .or (.t 14) (.t 16)⟩,
               ⟨(some 3), none, .mov (.t 17)⟩]))))
          (.keep [3, 7, 8, 9] (.ops false [⟨(some 18), none, .bin .add (.t 9) (.c (.int .i64 1))⟩,
             ⟨(some 9), none, .mov (.t 18)⟩]))))))))
    (.seq (.keep [2] (.ops false [⟨(some 19), none, .mov (.t 3)⟩,
        ⟨(some 2), none, .mov (.t 19)⟩]))
     .ret))))
def codec_number.res : List RX := [(2, none)]
theorem codec_number.m : mK pg Tryd.f39.ntmps codec_number.k (Tryd.f39.body.getD .skip) = true := by kernel_rfl
theorem codec_number.mr : mRes pg Tryd.f39.results.toList codec_number.res = true := by kernel_rfl
theorem codec_number.of {args : List V} {r : V} (hn : args.length = 1) (hW : W pg codec_number.k (done codec_number.res r) (start args)) : Ret pg n_codec_number args r :=
  Ret_of (fn := Tryd.f39) Tryd.func39 rfl (by kernel_rfl) codec_number.m codec_number.mr (by rw [hn]; exact of_decide_eq_true (by kernel_rfl)) hW
theorem codec_number.ofG {args : List V} {H : Hp} {n : Nat} {Q : V → Hp → Nat → Prop} (hn : args.length = 1) (hW : W pg codec_number.k (doneG codec_number.res (fun r H' n' => n ≤ n' ∧ Q r H' n')) (startG args H n)) : ∃ r H' n', Q r H' n' ∧ RetG pg n_codec_number args H n r H' n' :=
  RetG_of (fn := Tryd.f39) Tryd.func39 rfl (by kernel_rfl) codec_number.m codec_number.mr (by rw [hn]; exact of_decide_eq_true (by kernel_rfl)) hW

/-- gimbal/gimbalref12.Encode -/
def gimbalref12_Encode.k : K :=
  (.seq (.keep [1] (.ops false [⟨(some 1), none, .boxP (.t 0)⟩,
     ⟨(some 2), none, .mov (.c (.int .u8 0))⟩,
     ⟨(some 3), none, .mov (.c (.str ⟨#[]⟩))⟩,
     ⟨(some 4), none, .mov (.c (.int .i64 0))⟩]))
  (.seq (.keep [1, 5] (.ops false [⟨(some 9), none, .load 4 true (.t 1)⟩,
      ⟨(some 10), none, .callG n_gimbalref12_Right [(.t 9)]⟩,
      ⟨(some 5), none, .mov (.t 10)⟩]))
   (.seq (.seq (.keep [1, 5, 12] (.ops false [⟨(some 11), none, .mov (.t 5)⟩,
        ⟨(some 12), none, .bin .neq (.t 11) (.c (.int .i64 0))⟩]))
     (.cond (.t 12) (.seq (.keep [2, 3, 4] (.ops false [⟨(some 13), none, .mov (.t 5)⟩,
          ⟨(some 2), none, .mov (.c (.int .u8 0))⟩,
          ⟨(some 3), none, .mov (.c (.str ⟨#[]⟩))⟩,
          ⟨(some 4), none, .mov (.t 13)⟩]))
       .ret)
      .skip))
    (.seq (.keep [1, 6] (.ops true [⟨(some 14), none, .fldA 1 1 false (.t 1)⟩,
        ⟨(some 15), none, .load 1 false (.t 14)⟩,
        ⟨(some 16), none, .call n_gimbalref12_four [(.t 15)]⟩,
        ⟨(some 17), none, .fldA 2 1 false (.t 1)⟩,
        ⟨(some 18), none, .load 1 false (.t 17)⟩,
        ⟨(some 19), none, .call n_gimbalref12_four [(.t 18)]⟩,
        ⟨(some 20), none, .red (.slc 0 true false false) [(.t 19), (.c (.int .i64 2))]⟩,
        ⟨(some 21), none, .bin .add (.t 16) (.t 20)⟩,
        ⟨(some 6), none, .mov (.t 21)⟩]))
     (.seq (.seq (.keep [1, 6, 7] (.ops false [⟨(some 7), none, .mov (.c (.int .i64 0))⟩]))
       (.block 0 (.loop (.seq (.seq (.keep [1, 6, 7, 26] (.ops false [⟨(some 22), none, .mov (.t 7)⟩,
              ⟨(some 23), none, .fldA 3 1 false (.t 1)⟩,
              ⟨(some 24), none, .load 1 false (.t 23)⟩,
              ⟨(some 25), none, .len false (.t 24)⟩,
              ⟨(some 26), none, .bin .lss (.t 22) (.t 25)⟩]))
           (.cond (.t 26) .skip
            (.exit 0)))
          (.seq (.block 1 (.seq (.keep [1, 6, 7, 8] (.ops false [⟨(some 29), none, .fldA 3 1 false (.t 1)⟩,
                ⟨(some 30), none, .load 1 false (.t 29)⟩,
                ⟨(some 31), none, .mov (.t 7)⟩,
                ⟨(some 32), none, .idxA 1 (.t 30) (.t 31)⟩,
                ⟨(some 33), none, .load 1 false (.t 32)⟩,
                ⟨(some 8), none, .mov (.t 33)⟩]))
             (.seq (.seq (.keep [1, 6, 7, 8, 35] (.ops false [⟨(some 34), none, .mov (.t 8)⟩,
                  ⟨(some 35), none, .bin .lss (.t 34) (.c (.int .i64 0))⟩]))
               (.cond (.t 35) (.keep [1, 6, 7, 8] (.ops false [⟨(some 36), none, .mov (.t 8)⟩,
                   ⟨(some 37), none, .bin .add (.t 36) (.c (.int .i64 4294967296))⟩,
                   ⟨(some 8), none, .mov (.t 37)⟩]))
                .skip))
              (.keep [1, 6, 7] (.ops false [⟨(some 38), none, .mov (.t 6)⟩,
                 ⟨(some 39), none, .mov (.t 8)⟩,
                 ⟨(some 40), none, .callG n_gimbalref12_four [(.t 39)]⟩,
                 ⟨(some 41), none, .bin .add (.t 38) (.t 40)⟩,
                 ⟨(some 6), none, .mov (.t 41)⟩])))))
           (.keep [1, 6, 7] (.ops false [⟨(some 27), none, .mov (.t 7)⟩,
              ⟨(some 28), none, .bin .add (.t 27) (.c (.int .i64 1))⟩,
              ⟨(some 7), none, .mov (.t 28)⟩])))))))
      (.seq (.keep [2, 3, 4] (.ops false [⟨(some 42), none, .fldA 0 1 false (.t 1)⟩,
          ⟨(some 43), none, .load 1 false (.t 42)⟩,
          ⟨(some 44), none, .conv .u8 (.t 43)⟩,
          ⟨(some 45), none, .mov (.t 6)⟩,
          ⟨(some 2), none, .mov (.t 44)⟩,
          ⟨(some 3), none, .mov (.t 45)⟩,
          ⟨(some 4), none, .mov (.c (.int .i64 0))⟩]))
       .ret))))))
def gimbalref12_Encode.res : List RX := [(2, none), (3, none), (4, none)]
theorem gimbalref12_Encode.m : mK pg Tryd.f15.ntmps gimbalref12_Encode.k (Tryd.f15.body.getD .skip) = true := by kernel_rfl
theorem gimbalref12_Encode.mr : mRes pg Tryd.f15.results.toList gimbalref12_Encode.res = true := by kernel_rfl
theorem gimbalref12_Encode.of {args : List V} {r : V} (hn : args.length = 1) (hW : W pg gimbalref12_Encode.k (done gimbalref12_Encode.res r) (start args)) : Ret pg n_gimbalref12_Encode args r :=
  Ret_of (fn := Tryd.f15) Tryd.func15 rfl (by kernel_rfl) gimbalref12_Encode.m gimbalref12_Encode.mr (by rw [hn]; exact of_decide_eq_true (by kernel_rfl)) hW
theorem gimbalref12_Encode.ofG {args : List V} {H : Hp} {n : Nat} {Q : V → Hp → Nat → Prop} (hn : args.length = 1) (hW : W pg gimbalref12_Encode.k (doneG gimbalref12_Encode.res (fun r H' n' => n ≤ n' ∧ Q r H' n')) (startG args H n)) : ∃ r H' n', Q r H' n' ∧ RetG pg n_gimbalref12_Encode args H n r H' n' :=
  RetG_of (fn := Tryd.f15) Tryd.func15 rfl (by kernel_rfl) gimbalref12_Encode.m gimbalref12_Encode.mr (by rw [hn]; exact of_decide_eq_true (by kernel_rfl)) hW

/-- gimbal/gimbalref12.Count -/
def gimbalref12_Count.k : K :=
  (.seq (.keep [0] (.ops false [⟨(some 2), none, .mov (.c (.int .i64 0))⟩]))
  (.seq (.seq (.keep [3] (.ops false [⟨(some 3), none, .mov (.t 0)⟩]))
    (.block 0 (.seq (.seq (.keep [3, 4] (.ops false [⟨(some 5), none, .bin .eql (.t 3) (.c (.int .i64 1))⟩,
          ⟨(some 4), none, .mov (.t 5)⟩]))
       (.cond (.t 4) .skip
        (.keep [3, 4] (.ops false [⟨(some 6), none, .bin .eql (.t 3) (.c (.int .i64 2))⟩,
           ⟨(some 4), none, .mov (.t 6)⟩]))))
      (.cond (.t 4) (.seq (.keep [2] (.ops false [⟨(some 2), none, .mov (.c (.int .i64 6))⟩]))
        .ret)
       (.seq (.keep [3, 7] (.ops false [⟨(some 8), none, .bin .eql (.t 3) (.c (.int .i64 3))⟩,
           ⟨(some 7), none, .mov (.t 8)⟩]))
        (.cond (.t 7) (.seq (.keep [2] (.ops false [⟨(some 2), none, .mov (.c (.int .i64 1))⟩]))
          .ret)
         (.seq (.keep [9] (.ops false [⟨(some 10), none, .bin .eql (.t 3) (.c (.int .i64 4))⟩,
             ⟨(some 9), none, .mov (.t 10)⟩]))
          (.cond (.t 9) (.seq (.keep [2] (.ops false [⟨(some 2), none, .mov (.c (.int .i64 3))⟩]))
            .ret)
           .skip))))))))
   (.seq (.keep [2] (.ops false [⟨(some 2), none, .mov (.c (.int .i64 0))⟩]))
    .ret)))
def gimbalref12_Count.res : List RX := [(2, none)]
theorem gimbalref12_Count.m : mK pg Tryd.f17.ntmps gimbalref12_Count.k (Tryd.f17.body.getD .skip) = true := by kernel_rfl
theorem gimbalref12_Count.mr : mRes pg Tryd.f17.results.toList gimbalref12_Count.res = true := by kernel_rfl
theorem gimbalref12_Count.of {args : List V} {r : V} (hn : args.length = 1) (hW : W pg gimbalref12_Count.k (done gimbalref12_Count.res r) (start args)) : Ret pg n_gimbalref12_Count args r :=
  Ret_of (fn := Tryd.f17) Tryd.func17 rfl (by kernel_rfl) gimbalref12_Count.m gimbalref12_Count.mr (by rw [hn]; exact of_decide_eq_true (by kernel_rfl)) hW
theorem gimbalref12_Count.ofG {args : List V} {H : Hp} {n : Nat} {Q : V → Hp → Nat → Prop} (hn : args.length = 1) (hW : W pg gimbalref12_Count.k (doneG gimbalref12_Count.res (fun r H' n' => n ≤ n' ∧ Q r H' n')) (startG args H n)) : ∃ r H' n', Q r H' n' ∧ RetG pg n_gimbalref12_Count args H n r H' n' :=
  RetG_of (fn := Tryd.f17) Tryd.func17 rfl (by kernel_rfl) gimbalref12_Count.m gimbalref12_Count.mr (by rw [hn]; exact of_decide_eq_true (by kernel_rfl)) hW

/-- gimbal/gimbalref12.Decode -/
def gimbalref12_Decode.k : K :=
  (.seq (.keep [0, 1, 4] (.ops false [⟨(some 4), none, .alloc 4 (.agg [(.int .i64 0), (.int .i64 0), (.int .i64 0), .nil])⟩,
     ⟨(some 5), none, .mov (.c (.int .i64 0))⟩]))
  (.seq (.keep [0, 1, 4, 6] (.ops false [⟨(some 10), none, .mov (.t 0)⟩,
      ⟨(some 11), none, .conv .i64 (.t 10)⟩,
      ⟨(some 12), none, .callG n_gimbalref12_Count [(.t 11)]⟩,
      ⟨(some 6), none, .mov (.t 12)⟩]))
   (.seq (.seq (.keep [0, 1, 4, 6, 14] (.ops false [⟨(some 13), none, .mov (.t 6)⟩,
        ⟨(some 14), none, .bin .eql (.t 13) (.c (.int .i64 0))⟩]))
     (.cond (.t 14) (.seq (.keep [4, 5] (.ops false [⟨(some 15), none, .build [(.int .i64 0), (.int .i64 0), (.int .i64 0), .nil] []⟩,
          ⟨none, none, .store 4 (.t 4) (.t 15)⟩,
          ⟨(some 5), none, .mov (.c (.int .i64 120))⟩]))
       .ret)
      .skip))
    (.seq (.seq (.keep [0, 1, 4, 6, 21] (.ops false [⟨(some 16), none, .mov (.t 1)⟩,
         ⟨(some 17), none, .len true (.t 16)⟩,
         ⟨(some 18), none, .mov (.t 6)⟩,
         ⟨(some 19), none, .bin .mul (.c (.int .i64 4)) (.t 18)⟩,
         ⟨(some 20), none, .bin .add (.c (.int .i64 6)) (.t 19)⟩,
         ⟨(some 21), none, .bin .neq (.t 17) (.t 20)⟩]))
      (.cond (.t 21) (.seq (.keep [4, 5] (.ops false [⟨(some 22), none, .build [(.int .i64 0), (.int .i64 0), (.int .i64 0), .nil] []⟩,
           ⟨none, none, .store 4 (.t 4) (.t 22)⟩,
           ⟨(some 5), none, .mov (.c (.int .i64 121))⟩]))
        .ret)
       .skip))
     (.seq (.keep [1, 4, 6, 7] (.ops true [⟨(some 23), none, .mov (.t 0)⟩,
         ⟨(some 24), none, .conv .i64 (.t 23)⟩,
         ⟨(some 25), none, .mov (.t 1)⟩,
         ⟨(some 26), none, .red (.slc 0 false true false) [(.t 25), (.c (.int .i64 4))]⟩,
         ⟨(some 27), none, .call n_gimbalref12_number [(.t 26)]⟩,
         ⟨(some 28), none, .mov (.t 1)⟩,
         ⟨(some 29), none, .red (.slc 0 true true false) [(.t 28), (.c (.int .i64 4)), (.c (.int .i64 6))]⟩,
         ⟨(some 30), none, .call n_gimbalref12_number [(.t 29)]⟩,
         ⟨(some 31), none, .build [(.int .i64 0), (.int .i64 0), (.int .i64 0), .nil] [(0, 1, (.t 24)), (1, 1, (.t 27)), (2, 1, (.t 30))]⟩,
         ⟨(some 7), none, .alloc 4 (.agg [(.int .i64 0), (.int .i64 0), (.int .i64 0), .nil])⟩,
         ⟨none, none, .store 4 (.t 7) (.t 31)⟩]))
      (.seq (.seq (.keep [1, 4, 6, 7, 8] (.ops false [⟨(some 8), none, .mov (.c (.int .i64 0))⟩]))
        (.block 0 (.loop (.seq (.seq (.keep [1, 4, 6, 7, 8, 34] (.ops false [⟨(some 32), none, .mov (.t 8)⟩,
               ⟨(some 33), none, .mov (.t 6)⟩,
               ⟨(some 34), none, .bin .lss (.t 32) (.t 33)⟩]))
            (.cond (.t 34) .skip
             (.exit 0)))
           (.seq (.block 1 (.seq (.keep [1, 4, 6, 7, 8, 9] (.ops false [⟨(some 37), none, .mov (.t 1)⟩,
                 ⟨(some 38), none, .mov (.t 8)⟩,
                 ⟨(some 39), none, .bin .mul (.c (.int .i64 4)) (.t 38)⟩,
                 ⟨(some 40), none, .bin .add (.c (.int .i64 6)) (.t 39)⟩,
                 ⟨(some 41), none, .mov (.t 8)⟩,
                 ⟨(some 42), none, .bin .mul (.c (.int .i64 4)) (.t 41)⟩,
                 ⟨(some 43), none, .bin .add (.c (.int .i64 10)) (.t 42)⟩,
                 ⟨(some 44), none, .red (.slc 0 true true false) [(.t 37), (.t 40), (.t 43)]⟩,
                 ⟨(some 45), none, .callG n_gimbalref12_number [(.t 44)]⟩,
                 ⟨(some 9), none, .mov (.t 45)⟩]))
              (.seq (.seq (.keep [1, 4, 6, 7, 8, 9, 47] (.ops false [⟨(some 46), none, .mov (.t 9)⟩,
                   ⟨(some 47), none, .bin .geq (.t 46) (.c (.int .i64 2147483648))⟩]))
                (.cond (.t 47) (.keep [1, 4, 6, 7, 8, 9] (.ops false [⟨(some 48), none, .mov (.t 9)⟩,
                    ⟨(some 49), none, .bin .sub (.t 48) (.c (.int .i64 4294967296))⟩,
                    ⟨(some 9), none, .mov (.t 49)⟩]))
                 .skip))
               (.seq (.seq (.keep [1, 4, 6, 7, 8, 9, 51] (.ops false [⟨(some 50), none, .mov (.t 9)⟩,
                    ⟨(some 51), none, .bin .eql (.t 50) (.c (.int .i64 (-2147483648)))⟩]))
                 (.cond (.t 51) (.seq (.keep [4, 5] (.ops false [⟨(some 52), none, .build [(.int .i64 0), (.int .i64 0), (.int .i64 0), .nil] []⟩,
                      ⟨none, none, .store 4 (.t 4) (.t 52)⟩,
                      ⟨(some 5), none, .mov (.c (.int .i64 122))⟩]))
                   .ret)
                  .skip))
                (.keep [1, 4, 6, 7, 8] (.ops false [⟨(some 53), none, .fldA 3 1 false (.t 7)⟩,
                   ⟨(some 54), none, .load 1 false (.t 53)⟩,
                   ⟨(some 55), none, .mov (.t 9)⟩,
                   ⟨(some 56), none, .new (.bsl 1) [(.t 55)]⟩,
                   ⟨(some 57), none, .eff (.app 1 8) [(.t 54), (.t 56)]⟩,
                   ⟨(some 58), none, .fldA 3 1 false (.t 7)⟩,
                   ⟨none, none, .store 1 (.t 58) (.t 57)⟩]))))))
            (.keep [1, 4, 6, 7, 8] (.ops false [⟨(some 35), none, .mov (.t 8)⟩,
               ⟨(some 36), none, .bin .add (.t 35) (.c (.int .i64 1))⟩,
               ⟨(some 8), none, .mov (.t 36)⟩])))))))
       (.seq (.keep [4, 5] (.ops false [⟨(some 59), none, .load 4 true (.t 7)⟩,
           ⟨none, none, .store 4 (.t 4) (.t 59)⟩,
           ⟨(some 5), none, .mov (.c (.int .i64 0))⟩]))
        .ret)))))))
def gimbalref12_Decode.res : List RX := [(4, some (4, true)), (5, none)]
theorem gimbalref12_Decode.m : mK pg Tryd.f19.ntmps gimbalref12_Decode.k (Tryd.f19.body.getD .skip) = true := by kernel_rfl
theorem gimbalref12_Decode.mr : mRes pg Tryd.f19.results.toList gimbalref12_Decode.res = true := by kernel_rfl
theorem gimbalref12_Decode.of {args : List V} {r : V} (hn : args.length = 2) (hW : W pg gimbalref12_Decode.k (done gimbalref12_Decode.res r) (start args)) : Ret pg n_gimbalref12_Decode args r :=
  Ret_of (fn := Tryd.f19) Tryd.func19 rfl (by kernel_rfl) gimbalref12_Decode.m gimbalref12_Decode.mr (by rw [hn]; exact of_decide_eq_true (by kernel_rfl)) hW
theorem gimbalref12_Decode.ofG {args : List V} {H : Hp} {n : Nat} {Q : V → Hp → Nat → Prop} (hn : args.length = 2) (hW : W pg gimbalref12_Decode.k (doneG gimbalref12_Decode.res (fun r H' n' => n ≤ n' ∧ Q r H' n')) (startG args H n)) : ∃ r H' n', Q r H' n' ∧ RetG pg n_gimbalref12_Decode args H n r H' n' :=
  RetG_of (fn := Tryd.f19) Tryd.func19 rfl (by kernel_rfl) gimbalref12_Decode.m gimbalref12_Decode.mr (by rw [hn]; exact of_decide_eq_true (by kernel_rfl)) hW

/-- gimbal/gimbalref12.Same -/
def gimbalref12_Same.k : K :=
  (.seq (.keep [2, 3] (.ops false [⟨(some 2), none, .boxP (.t 0)⟩,
     ⟨(some 3), none, .boxP (.t 1)⟩,
     ⟨(some 4), none, .mov (.c (.bool false))⟩]))
  (.seq (.seq (.keep [2, 3, 33] (.ops false [⟨(some 6), none, .fldA 0 1 false (.t 2)⟩,
       ⟨(some 7), none, .load 1 false (.t 6)⟩,
       ⟨(some 8), none, .fldA 0 1 false (.t 3)⟩,
       ⟨(some 9), none, .load 1 false (.t 8)⟩,
       ⟨(some 10), none, .bin .neq (.t 7) (.t 9)⟩,
       ⟨(some 11), none, .mov (.t 10)⟩,
       ⟨(some 12), (some (11, false)), .fldA 1 1 false (.t 2)⟩,
       ⟨(some 13), (some (11, false)), .load 1 false (.t 12)⟩,
       ⟨(some 14), (some (11, false)), .fldA 1 1 false (.t 3)⟩,
       ⟨(some 15), (some (11, false)), .load 1 false (.t 14)⟩,
       ⟨(some 16), (some (11, false)), .bin .neq (.t 13) (.t 15)⟩,
       ⟨(some 17), none, .pick (.t 11) (.c (.bool true)) (.t 16)⟩,
       ⟨(some 18), none, .mov (.t 17)⟩,
       ⟨(some 19), (some (18, false)), .fldA 2 1 false (.t 2)⟩,
       ⟨(some 20), (some (18, false)), .load 1 false (.t 19)⟩,
       ⟨(some 21), (some (18, false)), .fldA 2 1 false (.t 3)⟩,
       ⟨(some 22), (some (18, false)), .load 1 false (.t 21)⟩,
       ⟨(some 23), (some (18, false)), .bin .neq (.t 20) (.t 22)⟩,
       ⟨(some 24), none, .pick (.t 18) (.c (.bool true)) (.t 23)⟩,
       ⟨(some 25), none, .mov (.t 24)⟩,
       ⟨(some 26), (some (25, false)), .fldA 3 1 false (.t 2)⟩,
       ⟨(some 27), (some (25, false)), .load 1 false (.t 26)⟩,
       ⟨(some 28), (some (25, false)), .len false (.t 27)⟩,
       ⟨(some 29), (some (25, false)), .fldA 3 1 false (.t 3)⟩,
       ⟨(some 30), (some (25, false)), .load 1 false (.t 29)⟩,
       ⟨(some 31), (some (25, false)), .len false (.t 30)⟩,
       ⟨(some 32), (some (25, false)), .bin .neq (.t 28) (.t 31)⟩,
       ⟨(some 33), none, .pick (.t 25) (.c (.bool true)) (.t 32)⟩]))
    (.cond (.t 33) (.seq (.keep [4] (.ops false [⟨(some 4), none, .mov (.c (.bool false))⟩]))
      .ret)
     .skip))
   (.seq (.seq (.keep [2, 3, 5] (.ops false [⟨(some 5), none, .mov (.c (.int .i64 0))⟩]))
     (.block 0 (.loop (.seq (.seq (.keep [2, 3, 5, 38] (.ops false [⟨(some 34), none, .mov (.t 5)⟩,
            ⟨(some 35), none, .fldA 3 1 false (.t 2)⟩,
            ⟨(some 36), none, .load 1 false (.t 35)⟩,
            ⟨(some 37), none, .len false (.t 36)⟩,
            ⟨(some 38), none, .bin .lss (.t 34) (.t 37)⟩]))
         (.cond (.t 38) .skip
          (.exit 0)))
        (.seq (.block 1 (.seq (.keep [2, 3, 5, 51] (.ops true [⟨(some 41), none, .fldA 3 1 false (.t 2)⟩,
              ⟨(some 42), none, .load 1 false (.t 41)⟩,
              ⟨(some 43), none, .mov (.t 5)⟩,
              ⟨(some 44), none, .idxA 1 (.t 42) (.t 43)⟩,
              ⟨(some 45), none, .load 1 false (.t 44)⟩,
              ⟨(some 46), none, .fldA 3 1 false (.t 3)⟩,
              ⟨(some 47), none, .load 1 false (.t 46)⟩,
              ⟨(some 48), none, .mov (.t 5)⟩,
              ⟨(some 49), none, .idxA 1 (.t 47) (.t 48)⟩,
              ⟨(some 50), none, .load 1 false (.t 49)⟩,
              ⟨(some 51), none, .bin .neq (.t 45) (.t 50)⟩]))
           (.cond (.t 51) (.seq (.keep [4] (.ops false [⟨(some 4), none, .mov (.c (.bool false))⟩]))
             .ret)
            .skip)))
         (.keep [2, 3, 5] (.ops false [⟨(some 39), none, .mov (.t 5)⟩,
            ⟨(some 40), none, .bin .add (.t 39) (.c (.int .i64 1))⟩,
            ⟨(some 5), none, .mov (.t 40)⟩])))))))
    (.seq (.keep [4] (.ops false [⟨(some 4), none, .mov (.c (.bool true))⟩]))
     .ret))))
def gimbalref12_Same.res : List RX := [(4, none)]
theorem gimbalref12_Same.m : mK pg Tryd.f20.ntmps gimbalref12_Same.k (Tryd.f20.body.getD .skip) = true := by kernel_rfl
theorem gimbalref12_Same.mr : mRes pg Tryd.f20.results.toList gimbalref12_Same.res = true := by kernel_rfl
theorem gimbalref12_Same.of {args : List V} {r : V} (hn : args.length = 2) (hW : W pg gimbalref12_Same.k (done gimbalref12_Same.res r) (start args)) : Ret pg n_gimbalref12_Same args r :=
  Ret_of (fn := Tryd.f20) Tryd.func20 rfl (by kernel_rfl) gimbalref12_Same.m gimbalref12_Same.mr (by rw [hn]; exact of_decide_eq_true (by kernel_rfl)) hW
theorem gimbalref12_Same.ofG {args : List V} {H : Hp} {n : Nat} {Q : V → Hp → Nat → Prop} (hn : args.length = 2) (hW : W pg gimbalref12_Same.k (doneG gimbalref12_Same.res (fun r H' n' => n ≤ n' ∧ Q r H' n')) (startG args H n)) : ∃ r H' n', Q r H' n' ∧ RetG pg n_gimbalref12_Same args H n r H' n' :=
  RetG_of (fn := Tryd.f20) Tryd.func20 rfl (by kernel_rfl) gimbalref12_Same.m gimbalref12_Same.mr (by rw [hn]; exact of_decide_eq_true (by kernel_rfl)) hW

/-- gimbal/gimbalref12.Right -/
def gimbalref12_Right.k : K :=
  (.seq (.keep [1] (.ops false [⟨(some 1), none, .boxP (.t 0)⟩,
     ⟨(some 2), none, .mov (.c (.int .i64 0))⟩]))
  (.seq (.keep [1, 3] (.ops false [⟨(some 5), none, .fldA 0 1 false (.t 1)⟩,
      ⟨(some 6), none, .load 1 false (.t 5)⟩,
      ⟨(some 7), none, .callG n_gimbalref12_Count [(.t 6)]⟩,
      ⟨(some 3), none, .mov (.t 7)⟩]))
   (.seq (.seq (.keep [1, 3, 9] (.ops false [⟨(some 8), none, .mov (.t 3)⟩,
        ⟨(some 9), none, .bin .eql (.t 8) (.c (.int .i64 0))⟩]))
     (.cond (.t 9) (.seq (.keep [2] (.ops false [⟨(some 2), none, .mov (.c (.int .i64 120))⟩]))
       .ret)
      .skip))
    (.seq (.seq (.keep [1, 3, 14] (.ops false [⟨(some 10), none, .fldA 3 1 false (.t 1)⟩,
         ⟨(some 11), none, .load 1 false (.t 10)⟩,
         ⟨(some 12), none, .len false (.t 11)⟩,
         ⟨(some 13), none, .mov (.t 3)⟩,
         ⟨(some 14), none, .bin .neq (.t 12) (.t 13)⟩]))
      (.cond (.t 14) (.seq (.keep [2] (.ops false [⟨(some 2), none, .mov (.c (.int .i64 121))⟩]))
        .ret)
       .skip))
     (.seq (.seq (.keep [1, 3, 32] (.ops false [⟨(some 15), none, .fldA 1 1 false (.t 1)⟩,
          ⟨(some 16), none, .load 1 false (.t 15)⟩,
          ⟨(some 17), none, .bin .lss (.t 16) (.c (.int .i64 0))⟩,
          ⟨(some 18), none, .mov (.t 17)⟩,
          ⟨(some 19), (some (18, false)), .fldA 1 1 false (.t 1)⟩,
          ⟨(some 20), (some (18, false)), .load 1 false (.t 19)⟩,
          ⟨(some 21), (some (18, false)), .bin .gtr (.t 20) (.c (.int .i64 4294967295))⟩,
          ⟨(some 22), none, .pick (.t 18) (.c (.bool true)) (.t 21)⟩,
          ⟨(some 23), none, .mov (.t 22)⟩,
          ⟨(some 24), (some (23, false)), .fldA 2 1 false (.t 1)⟩,
          ⟨(some 25), (some (23, false)), .load 1 false (.t 24)⟩,
          ⟨(some 26), (some (23, false)), .bin .lss (.t 25) (.c (.int .i64 0))⟩,
          ⟨(some 27), none, .pick (.t 23) (.c (.bool true)) (.t 26)⟩,
          ⟨(some 28), none, .mov (.t 27)⟩,
          ⟨(some 29), (some (28, false)), .fldA 2 1 false (.t 1)⟩,
          ⟨(some 30), (some (28, false)), .load 1 false (.t 29)⟩,
          ⟨(some 31), (some (28, false)), .bin .gtr (.t 30) (.c (.int .i64 65535))⟩,
          ⟨(some 32), none, .pick (.t 28) (.c (.bool true)) (.t 31)⟩]))
       (.cond (.t 32) (.seq (.keep [2] (.ops false [⟨(some 2), none, .mov (.c (.int .i64 122))⟩]))
         .ret)
        .skip))
      (.seq (.seq (.keep [1, 3, 4] (.ops false [⟨(some 4), none, .mov (.c (.int .i64 0))⟩]))
        (.block 0 (.loop (.seq (.seq (.keep [1, 3, 4, 35] (.ops false [⟨(some 33), none, .mov (.t 4)⟩,
               ⟨(some 34), none, .mov (.t 3)⟩,
               ⟨(some 35), none, .bin .lss (.t 33) (.t 34)⟩]))
            (.cond (.t 35) .skip
             (.exit 0)))
           (.seq (.block 1 (.seq (.keep [1, 3, 4, 51] (.ops false [⟨(some 38), none, .fldA 3 1 false (.t 1)⟩,
                 ⟨(some 39), none, .load 1 false (.t 38)⟩,
                 ⟨(some 40), none, .mov (.t 4)⟩,
                 ⟨(some 41), none, .idxA 1 (.t 39) (.t 40)⟩,
                 ⟨(some 42), none, .load 1 false (.t 41)⟩,
                 ⟨(some 43), none, .bin .lss (.t 42) (.c (.int .i64 (-2147483647)))⟩,
                 ⟨(some 44), none, .mov (.t 43)⟩,
                 ⟨(some 45), (some (44, false)), .fldA 3 1 false (.t 1)⟩,
                 ⟨(some 46), (some (44, false)), .load 1 false (.t 45)⟩,
                 ⟨(some 47), (some (44, false)), .mov (.t 4)⟩,
                 ⟨(some 48), (some (44, false)), .idxA 1 (.t 46) (.t 47)⟩,
                 ⟨(some 49), (some (44, false)), .load 1 false (.t 48)⟩,
                 ⟨(some 50), (some (44, false)), .bin .gtr (.t 49) (.c (.int .i64 2147483647))⟩,
                 ⟨(some 51), none, .pick (.t 44) (.c (.bool true)) (.t 50)⟩]))
              (.cond (.t 51) (.seq (.keep [2] (.ops false [⟨(some 2), none, .mov (.c (.int .i64 122))⟩]))
                .ret)
               .skip)))
            (.keep [1, 3, 4] (.ops false [⟨(some 36), none, .mov (.t 4)⟩,
               ⟨(some 37), none, .bin .add (.t 36) (.c (.int .i64 1))⟩,
               ⟨(some 4), none, .mov (.t 37)⟩])))))))
       (.seq (.keep [2] (.ops false [⟨(some 2), none, .mov (.c (.int .i64 0))⟩]))
        .ret)))))))
def gimbalref12_Right.res : List RX := [(2, none)]
theorem gimbalref12_Right.m : mK pg Tryd.f37.ntmps gimbalref12_Right.k (Tryd.f37.body.getD .skip) = true := by kernel_rfl
theorem gimbalref12_Right.mr : mRes pg Tryd.f37.results.toList gimbalref12_Right.res = true := by kernel_rfl
theorem gimbalref12_Right.of {args : List V} {r : V} (hn : args.length = 1) (hW : W pg gimbalref12_Right.k (done gimbalref12_Right.res r) (start args)) : Ret pg n_gimbalref12_Right args r :=
  Ret_of (fn := Tryd.f37) Tryd.func37 rfl (by kernel_rfl) gimbalref12_Right.m gimbalref12_Right.mr (by rw [hn]; exact of_decide_eq_true (by kernel_rfl)) hW
theorem gimbalref12_Right.ofG {args : List V} {H : Hp} {n : Nat} {Q : V → Hp → Nat → Prop} (hn : args.length = 1) (hW : W pg gimbalref12_Right.k (doneG gimbalref12_Right.res (fun r H' n' => n ≤ n' ∧ Q r H' n')) (startG args H n)) : ∃ r H' n', Q r H' n' ∧ RetG pg n_gimbalref12_Right args H n r H' n' :=
  RetG_of (fn := Tryd.f37) Tryd.func37 rfl (by kernel_rfl) gimbalref12_Right.m gimbalref12_Right.mr (by rw [hn]; exact of_decide_eq_true (by kernel_rfl)) hW

/-- gimbal/gimbalref12.four -/
def gimbalref12_four.k : K :=
  (.seq (.keep [0] (.ops false [⟨(some 2), none, .mov (.c (.str ⟨#[]⟩))⟩]))
  (.seq (.keep [2] (.ops false [⟨(some 3), none, .mov (.t 0)⟩,
      ⟨(some 4), none, .bin .quo (.t 3) (.c (.int .i64 16777216))⟩,
      ⟨(some 5), none, .conv .u8 (.t 4)⟩,
      ⟨(some 6), none, .mov (.t 0)⟩,
      ⟨(some 7), none, .bin .quo (.t 6) (.c (.int .i64 65536))⟩,
      ⟨(some 8), none, .bin .rem (.t 7) (.c (.int .i64 256))⟩,
      ⟨(some 9), none, .conv .u8 (.t 8)⟩,
      ⟨(some 10), none, .mov (.t 0)⟩,
      ⟨(some 11), none, .bin .quo (.t 10) (.c (.int .i64 256))⟩,
      ⟨(some 12), none, .bin .rem (.t 11) (.c (.int .i64 256))⟩,
      ⟨(some 13), none, .conv .u8 (.t 12)⟩,
      ⟨(some 14), none, .mov (.t 0)⟩,
      ⟨(some 15), none, .bin .rem (.t 14) (.c (.int .i64 256))⟩,
      ⟨(some 16), none, .conv .u8 (.t 15)⟩,
      ⟨(some 17), none, .new (.bsl 1) [(.t 5), (.t 9), (.t 13), (.t 16)]⟩,
      ⟨(some 18), none, .eff .b2sO [(.t 17)]⟩,
      ⟨(some 2), none, .mov (.t 18)⟩]))
   .ret))
def gimbalref12_four.res : List RX := [(2, none)]
theorem gimbalref12_four.m : mK pg Tryd.f38.ntmps gimbalref12_four.k (Tryd.f38.body.getD .skip) = true := by kernel_rfl
theorem gimbalref12_four.mr : mRes pg Tryd.f38.results.toList gimbalref12_four.res = true := by kernel_rfl
theorem gimbalref12_four.of {args : List V} {r : V} (hn : args.length = 1) (hW : W pg gimbalref12_four.k (done gimbalref12_four.res r) (start args)) : Ret pg n_gimbalref12_four args r :=
  Ret_of (fn := Tryd.f38) Tryd.func38 rfl (by kernel_rfl) gimbalref12_four.m gimbalref12_four.mr (by rw [hn]; exact of_decide_eq_true (by kernel_rfl)) hW
theorem gimbalref12_four.ofG {args : List V} {H : Hp} {n : Nat} {Q : V → Hp → Nat → Prop} (hn : args.length = 1) (hW : W pg gimbalref12_four.k (doneG gimbalref12_four.res (fun r H' n' => n ≤ n' ∧ Q r H' n')) (startG args H n)) : ∃ r H' n', Q r H' n' ∧ RetG pg n_gimbalref12_four args H n r H' n' :=
  RetG_of (fn := Tryd.f38) Tryd.func38 rfl (by kernel_rfl) gimbalref12_four.m gimbalref12_four.mr (by rw [hn]; exact of_decide_eq_true (by kernel_rfl)) hW

/-- gimbal/gimbalref12.number -/
def gimbalref12_number.k : K :=
  (.seq (.keep [0] (.ops false [⟨(some 2), none, .mov (.c (.int .i64 0))⟩]))
  (.seq (.keep [0, 3] (.ops false [⟨(some 3), none, .mov (.c (.int .i64 0))⟩]))
   (.seq (.seq (.keep [0, 3, 4] (.ops false [⟨(some 4), none, .mov (.c (.int .i64 0))⟩]))
     (.block 0 (.loop (.seq (.seq (.keep [0, 3, 4, 8] (.ops false [⟨(some 5), none, .mov (.t 4)⟩,
            ⟨(some 6), none, .mov (.t 0)⟩,
            ⟨(some 7), none, .len true (.t 6)⟩,
            ⟨(some 8), none, .bin .lss (.t 5) (.t 7)⟩]))
         (.cond (.t 8) .skip
          (.exit 0)))
        (.seq (.block 1 (.keep [0, 3, 4] (.ops false [⟨(some 11), none, .mov (.t 3)⟩,
             ⟨(some 12), none, .bin .mul (.c (.int .i64 256)) (.t 11)⟩,
             ⟨(some 13), none, .mov (.t 0)⟩,
             ⟨(some 14), none, .mov (.t 4)⟩,
             ⟨(some 15), none, .red .idxS [(.t 13), (.t 14)]⟩,
             ⟨(some 16), none, .conv .i64 (.t 15)⟩,
             ⟨(some 17), none, .bin .add (.t 12) (.t 16)⟩,
             ⟨(some 3), none, .mov (.t 17)⟩])))
         (.keep [0, 3, 4] (.ops false [⟨(some 9), none, .mov (.t 4)⟩,
            ⟨(some 10), none, .bin .add (.t 9) (.c (.int .i64 1))⟩,
            ⟨(some 4), none, .mov (.t 10)⟩])))))))
    (.seq (.keep [2] (.ops false [⟨(some 18), none, .mov (.t 3)⟩,
        ⟨(some 2), none, .mov (.t 18)⟩]))
     .ret))))
def gimbalref12_number.res : List RX := [(2, none)]
theorem gimbalref12_number.m : mK pg Tryd.f40.ntmps gimbalref12_number.k (Tryd.f40.body.getD .skip) = true := by kernel_rfl
theorem gimbalref12_number.mr : mRes pg Tryd.f40.results.toList gimbalref12_number.res = true := by kernel_rfl
theorem gimbalref12_number.of {args : List V} {r : V} (hn : args.length = 1) (hW : W pg gimbalref12_number.k (done gimbalref12_number.res r) (start args)) : Ret pg n_gimbalref12_number args r :=
  Ret_of (fn := Tryd.f40) Tryd.func40 rfl (by kernel_rfl) gimbalref12_number.m gimbalref12_number.mr (by rw [hn]; exact of_decide_eq_true (by kernel_rfl)) hW
theorem gimbalref12_number.ofG {args : List V} {H : Hp} {n : Nat} {Q : V → Hp → Nat → Prop} (hn : args.length = 1) (hW : W pg gimbalref12_number.k (doneG gimbalref12_number.res (fun r H' n' => n ≤ n' ∧ Q r H' n')) (startG args H n)) : ∃ r H' n', Q r H' n' ∧ RetG pg n_gimbalref12_number args H n r H' n' :=
  RetG_of (fn := Tryd.f40) Tryd.func40 rfl (by kernel_rfl) gimbalref12_number.m gimbalref12_number.mr (by rw [hn]; exact of_decide_eq_true (by kernel_rfl)) hW

/-- gimbal/gimballaw12.CodecWrites -/
def gimballaw12_CodecWrites.k : K :=
  (.seq (.keep [1] (.ops false [⟨(some 1), none, .boxP (.t 0)⟩,
     ⟨(some 2), none, .mov (.c (.bool false))⟩]))
  (.seq (.keep [1, 3] (.ops false [⟨(some 11), none, .callG n_gimballaw12_awake []⟩,
      ⟨(some 3), none, .mov (.t 11)⟩]))
   (.seq (.keep [1, 3, 4, 5, 6] (.ops false [⟨(some 13), none, .load 4 true (.t 1)⟩,
       ⟨(some 14), none, .callG n_codec_Encode [(.t 13)]⟩,
       ⟨(some 12), none, .mov (.t 14)⟩,
       ⟨(some 15), none, .ext (.t 12) 0⟩,
       ⟨(some 16), none, .ext (.t 12) 1⟩,
       ⟨(some 17), none, .ext (.t 12) 2⟩,
       ⟨(some 4), none, .mov (.t 15)⟩,
       ⟨(some 5), none, .mov (.t 16)⟩,
       ⟨(some 6), none, .mov (.t 17)⟩]))
    (.seq (.keep [1, 3, 4, 5, 6, 7, 8, 9] (.ops false [⟨(some 19), none, .load 4 true (.t 1)⟩,
        ⟨(some 20), none, .callG n_gimbalref12_Encode [(.t 19)]⟩,
        ⟨(some 18), none, .mov (.t 20)⟩,
        ⟨(some 21), none, .ext (.t 18) 0⟩,
        ⟨(some 22), none, .ext (.t 18) 1⟩,
        ⟨(some 23), none, .ext (.t 18) 2⟩,
        ⟨(some 7), none, .mov (.t 21)⟩,
        ⟨(some 8), none, .mov (.t 22)⟩,
        ⟨(some 9), none, .mov (.t 23)⟩]))
     (.seq (.keep [1, 3, 4, 5, 6, 7, 8, 9, 10] (.ops false [⟨(some 24), none, .fldA 0 1 false (.t 1)⟩,
         ⟨(some 25), none, .load 1 false (.t 24)⟩,
         ⟨(some 26), none, .callG n_codec_Count [(.t 25)]⟩,
         ⟨(some 10), none, .mov (.t 26)⟩]))
      (.seq (.keep [2] (.ops false [⟨(some 27), none, .mov (.t 3)⟩,
          ⟨(some 28), none, .mov (.t 27)⟩,
          ⟨(some 29), (some (28, true)), .mov (.t 4)⟩,
          ⟨(some 30), (some (28, true)), .mov (.t 7)⟩,
          ⟨(some 31), (some (28, true)), .bin .eql (.t 29) (.t 30)⟩,
          ⟨(some 32), none, .pick (.t 28) (.t 31) (.c (.bool false))⟩,
          ⟨(some 33), none, .mov (.t 32)⟩,
          ⟨(some 34), (some (33, true)), .mov (.t 5)⟩,
          ⟨(some 35), (some (33, true)), .mov (.t 8)⟩,
          ⟨(some 36), (some (33, true)), .bin .eql (.t 34) (.t 35)⟩,
          ⟨(some 37), none, .pick (.t 33) (.t 36) (.c (.bool false))⟩,
          ⟨(some 38), none, .mov (.t 37)⟩,
          ⟨(some 39), (some (38, true)), .mov (.t 6)⟩,
          ⟨(some 40), (some (38, true)), .mov (.t 9)⟩,
          ⟨(some 41), (some (38, true)), .bin .eql (.t 39) (.t 40)⟩,
          ⟨(some 42), none, .pick (.t 38) (.t 41) (.c (.bool false))⟩,
          ⟨(some 43), none, .mov (.t 42)⟩,
          ⟨(some 44), (some (43, true)), .mov (.t 10)⟩,
          ⟨(some 45), (some (43, true)), .fldA 0 1 false (.t 1)⟩,
          ⟨(some 46), (some (43, true)), .load 1 false (.t 45)⟩,
          ⟨(some 47), (some (43, true)), .callG n_gimbalref12_Count [(.t 46)]⟩,
          ⟨(some 48), (some (43, true)), .bin .eql (.t 44) (.t 47)⟩,
          ⟨(some 49), none, .pick (.t 43) (.t 48) (.c (.bool false))⟩,
          ⟨(some 2), none, .mov (.t 49)⟩]))
       .ret))))))
def gimballaw12_CodecWrites.res : List RX := [(2, none)]
theorem gimballaw12_CodecWrites.m : mK pg Tryd.f3.ntmps gimballaw12_CodecWrites.k (Tryd.f3.body.getD .skip) = true := by kernel_rfl
theorem gimballaw12_CodecWrites.mr : mRes pg Tryd.f3.results.toList gimballaw12_CodecWrites.res = true := by kernel_rfl
theorem gimballaw12_CodecWrites.of {args : List V} {r : V} (hn : args.length = 1) (hW : W pg gimballaw12_CodecWrites.k (done gimballaw12_CodecWrites.res r) (start args)) : Ret pg n_gimballaw12_CodecWrites args r :=
  Ret_of (fn := Tryd.f3) Tryd.func3 rfl (by kernel_rfl) gimballaw12_CodecWrites.m gimballaw12_CodecWrites.mr (by rw [hn]; exact of_decide_eq_true (by kernel_rfl)) hW
theorem gimballaw12_CodecWrites.ofG {args : List V} {H : Hp} {n : Nat} {Q : V → Hp → Nat → Prop} (hn : args.length = 1) (hW : W pg gimballaw12_CodecWrites.k (doneG gimballaw12_CodecWrites.res (fun r H' n' => n ≤ n' ∧ Q r H' n')) (startG args H n)) : ∃ r H' n', Q r H' n' ∧ RetG pg n_gimballaw12_CodecWrites args H n r H' n' :=
  RetG_of (fn := Tryd.f3) Tryd.func3 rfl (by kernel_rfl) gimballaw12_CodecWrites.m gimballaw12_CodecWrites.mr (by rw [hn]; exact of_decide_eq_true (by kernel_rfl)) hW

/-- gimbal/gimballaw12.CodecReads -/
def gimballaw12_CodecReads.k : K :=
  (.seq (.keep [0, 1] (.ops false [⟨(some 4), none, .mov (.c (.bool false))⟩]))
  (.seq (.keep [0, 1, 5] (.ops false [⟨(some 10), none, .callG n_gimballaw12_awake []⟩,
      ⟨(some 5), none, .mov (.t 10)⟩]))
   (.seq (.keep [0, 1, 5, 6, 7] (.ops false [⟨(some 12), none, .mov (.t 0)⟩,
       ⟨(some 13), none, .mov (.t 1)⟩,
       ⟨(some 14), none, .callG n_codec_Decode [(.t 12), (.t 13)]⟩,
       ⟨(some 11), none, .mov (.t 14)⟩,
       ⟨(some 15), none, .ext (.t 11) 0⟩,
       ⟨(some 16), none, .ext (.t 11) 1⟩,
       ⟨(some 6), none, .alloc 4 (.agg [(.int .i64 0), (.int .i64 0), (.int .i64 0), .nil])⟩,
       ⟨none, none, .store 4 (.t 6) (.t 15)⟩,
       ⟨(some 7), none, .mov (.t 16)⟩]))
    (.seq (.keep [5, 6, 7, 8, 9] (.ops false [⟨(some 18), none, .mov (.t 0)⟩,
        ⟨(some 19), none, .mov (.t 1)⟩,
        ⟨(some 20), none, .callG n_gimbalref12_Decode [(.t 18), (.t 19)]⟩,
        ⟨(some 17), none, .mov (.t 20)⟩,
        ⟨(some 21), none, .ext (.t 17) 0⟩,
        ⟨(some 22), none, .ext (.t 17) 1⟩,
        ⟨(some 8), none, .alloc 4 (.agg [(.int .i64 0), (.int .i64 0), (.int .i64 0), .nil])⟩,
        ⟨none, none, .store 4 (.t 8) (.t 21)⟩,
        ⟨(some 9), none, .mov (.t 22)⟩]))
     (.seq (.keep [4] (.ops false [⟨(some 23), none, .mov (.t 5)⟩,
         ⟨(some 24), none, .mov (.t 23)⟩,
         ⟨(some 25), (some (24, true)), .mov (.t 7)⟩,
         ⟨(some 26), (some (24, true)), .mov (.t 9)⟩,
         ⟨(some 27), (some (24, true)), .bin .eql (.t 25) (.t 26)⟩,
         ⟨(some 28), none, .pick (.t 24) (.t 27) (.c (.bool false))⟩,
         ⟨(some 29), none, .mov (.t 28)⟩,
         ⟨(some 30), (some (29, true)), .load 4 true (.t 6)⟩,
         ⟨(some 31), (some (29, true)), .load 4 true (.t 8)⟩,
         ⟨(some 32), (some (29, true)), .callG n_gimbalref12_Same [(.t 30), (.t 31)]⟩,
         ⟨(some 33), none, .pick (.t 29) (.t 32) (.c (.bool false))⟩,
         ⟨(some 4), none, .mov (.t 33)⟩]))
      .ret)))))
def gimballaw12_CodecReads.res : List RX := [(4, none)]
theorem gimballaw12_CodecReads.m : mK pg Tryd.f4.ntmps gimballaw12_CodecReads.k (Tryd.f4.body.getD .skip) = true := by kernel_rfl
theorem gimballaw12_CodecReads.mr : mRes pg Tryd.f4.results.toList gimballaw12_CodecReads.res = true := by kernel_rfl
theorem gimballaw12_CodecReads.of {args : List V} {r : V} (hn : args.length = 2) (hW : W pg gimballaw12_CodecReads.k (done gimballaw12_CodecReads.res r) (start args)) : Ret pg n_gimballaw12_CodecReads args r :=
  Ret_of (fn := Tryd.f4) Tryd.func4 rfl (by kernel_rfl) gimballaw12_CodecReads.m gimballaw12_CodecReads.mr (by rw [hn]; exact of_decide_eq_true (by kernel_rfl)) hW
theorem gimballaw12_CodecReads.ofG {args : List V} {H : Hp} {n : Nat} {Q : V → Hp → Nat → Prop} (hn : args.length = 2) (hW : W pg gimballaw12_CodecReads.k (doneG gimballaw12_CodecReads.res (fun r H' n' => n ≤ n' ∧ Q r H' n')) (startG args H n)) : ∃ r H' n', Q r H' n' ∧ RetG pg n_gimballaw12_CodecReads args H n r H' n' :=
  RetG_of (fn := Tryd.f4) Tryd.func4 rfl (by kernel_rfl) gimballaw12_CodecReads.m gimballaw12_CodecReads.mr (by rw [hn]; exact of_decide_eq_true (by kernel_rfl)) hW

/-- gimbal/gimballaw12.CodecBack -/
def gimballaw12_CodecBack.k : K :=
  (.seq (.keep [1] (.ops false [⟨(some 1), none, .boxP (.t 0)⟩,
     ⟨(some 2), none, .mov (.c (.bool false))⟩]))
  (.seq (.keep [1, 3] (.ops false [⟨(some 9), none, .callG n_gimballaw12_awake []⟩,
      ⟨(some 3), none, .mov (.t 9)⟩]))
   (.seq (.keep [1, 3, 4, 5, 6] (.ops false [⟨(some 11), none, .load 4 true (.t 1)⟩,
       ⟨(some 12), none, .callG n_codec_Encode [(.t 11)]⟩,
       ⟨(some 10), none, .mov (.t 12)⟩,
       ⟨(some 13), none, .ext (.t 10) 0⟩,
       ⟨(some 14), none, .ext (.t 10) 1⟩,
       ⟨(some 15), none, .ext (.t 10) 2⟩,
       ⟨(some 4), none, .mov (.t 13)⟩,
       ⟨(some 5), none, .mov (.t 14)⟩,
       ⟨(some 6), none, .mov (.t 15)⟩]))
    (.seq (.seq (.keep [1, 3, 4, 5, 17] (.ops false [⟨(some 16), none, .mov (.t 6)⟩,
         ⟨(some 17), none, .bin .neq (.t 16) (.c (.int .i64 0))⟩]))
      (.cond (.t 17) (.seq (.keep [2] (.ops false [⟨(some 18), none, .mov (.t 3)⟩,
           ⟨(some 19), none, .mov (.t 18)⟩,
           ⟨(some 20), (some (19, true)), .mov (.t 4)⟩,
           ⟨(some 21), (some (19, true)), .bin .eql (.t 20) (.c (.int .u8 0))⟩,
           ⟨(some 22), none, .pick (.t 19) (.t 21) (.c (.bool false))⟩,
           ⟨(some 23), none, .mov (.t 22)⟩,
           ⟨(some 24), (some (23, true)), .mov (.t 5)⟩,
           ⟨(some 25), (some (23, true)), .bin .eql (.t 24) (.c (.str ⟨#[]⟩))⟩,
           ⟨(some 26), none, .pick (.t 23) (.t 25) (.c (.bool false))⟩,
           ⟨(some 2), none, .mov (.t 26)⟩]))
        .ret)
       .skip))
     (.seq (.keep [1, 3, 5, 7, 8] (.ops false [⟨(some 28), none, .mov (.t 4)⟩,
         ⟨(some 29), none, .mov (.t 5)⟩,
         ⟨(some 30), none, .callG n_codec_Decode [(.t 28), (.t 29)]⟩,
         ⟨(some 27), none, .mov (.t 30)⟩,
         ⟨(some 31), none, .ext (.t 27) 0⟩,
         ⟨(some 32), none, .ext (.t 27) 1⟩,
         ⟨(some 7), none, .alloc 4 (.agg [(.int .i64 0), (.int .i64 0), (.int .i64 0), .nil])⟩,
         ⟨none, none, .store 4 (.t 7) (.t 31)⟩,
         ⟨(some 8), none, .mov (.t 32)⟩]))
      (.seq (.keep [2] (.ops false [⟨(some 33), none, .mov (.t 3)⟩,
          ⟨(some 34), none, .mov (.t 33)⟩,
          ⟨(some 35), (some (34, true)), .mov (.t 8)⟩,
          ⟨(some 36), (some (34, true)), .bin .eql (.t 35) (.c (.int .i64 0))⟩,
          ⟨(some 37), none, .pick (.t 34) (.t 36) (.c (.bool false))⟩,
          ⟨(some 38), none, .mov (.t 37)⟩,
          ⟨(some 39), (some (38, true)), .load 4 true (.t 1)⟩,
          ⟨(some 40), (some (38, true)), .load 4 true (.t 7)⟩,
          ⟨(some 41), (some (38, true)), .callG n_gimbalref12_Same [(.t 39), (.t 40)]⟩,
          ⟨(some 42), none, .pick (.t 38) (.t 41) (.c (.bool false))⟩,
          ⟨(some 43), none, .mov (.t 42)⟩,
          ⟨(some 44), (some (43, true)), .mov (.t 5)⟩,
          ⟨(some 45), (some (43, true)), .len true (.t 44)⟩,
          ⟨(some 46), (some (43, true)), .bin .leq (.t 45) (.c (.int .i64 64))⟩,
          ⟨(some 47), none, .pick (.t 43) (.t 46) (.c (.bool false))⟩,
          ⟨(some 2), none, .mov (.t 47)⟩]))
       .ret))))))
def gimballaw12_CodecBack.res : List RX := [(2, none)]
theorem gimballaw12_CodecBack.m : mK pg Tryd.f5.ntmps gimballaw12_CodecBack.k (Tryd.f5.body.getD .skip) = true := by kernel_rfl
theorem gimballaw12_CodecBack.mr : mRes pg Tryd.f5.results.toList gimballaw12_CodecBack.res = true := by kernel_rfl
theorem gimballaw12_CodecBack.of {args : List V} {r : V} (hn : args.length = 1) (hW : W pg gimballaw12_CodecBack.k (done gimballaw12_CodecBack.res r) (start args)) : Ret pg n_gimballaw12_CodecBack args r :=
  Ret_of (fn := Tryd.f5) Tryd.func5 rfl (by kernel_rfl) gimballaw12_CodecBack.m gimballaw12_CodecBack.mr (by rw [hn]; exact of_decide_eq_true (by kernel_rfl)) hW
theorem gimballaw12_CodecBack.ofG {args : List V} {H : Hp} {n : Nat} {Q : V → Hp → Nat → Prop} (hn : args.length = 1) (hW : W pg gimballaw12_CodecBack.k (doneG gimballaw12_CodecBack.res (fun r H' n' => n ≤ n' ∧ Q r H' n')) (startG args H n)) : ∃ r H' n', Q r H' n' ∧ RetG pg n_gimballaw12_CodecBack args H n r H' n' :=
  RetG_of (fn := Tryd.f5) Tryd.func5 rfl (by kernel_rfl) gimballaw12_CodecBack.m gimballaw12_CodecBack.mr (by rw [hn]; exact of_decide_eq_true (by kernel_rfl)) hW

/-- gimbal/gimballaw12.CodecOnly -/
def gimballaw12_CodecOnly.k : K :=
  (.seq (.keep [0, 1, 2] (.ops false [⟨(some 6), none, .mov (.c (.bool false))⟩]))
  (.seq (.keep [0, 1, 2, 7] (.ops false [⟨(some 16), none, .callG n_gimballaw12_awake []⟩,
      ⟨(some 7), none, .mov (.t 16)⟩]))
   (.seq (.keep [0, 1, 2, 7, 8, 9] (.ops false [⟨(some 18), none, .mov (.t 0)⟩,
       ⟨(some 19), none, .mov (.t 1)⟩,
       ⟨(some 20), none, .callG n_codec_Decode [(.t 18), (.t 19)]⟩,
       ⟨(some 17), none, .mov (.t 20)⟩,
       ⟨(some 21), none, .ext (.t 17) 0⟩,
       ⟨(some 22), none, .ext (.t 17) 1⟩,
       ⟨(some 8), none, .alloc 4 (.agg [(.int .i64 0), (.int .i64 0), (.int .i64 0), .nil])⟩,
       ⟨none, none, .store 4 (.t 8) (.t 21)⟩,
       ⟨(some 9), none, .mov (.t 22)⟩]))
    (.seq (.keep [0, 1, 2, 7, 8, 9, 10, 11] (.ops false [⟨(some 24), none, .mov (.t 0)⟩,
        ⟨(some 25), none, .mov (.t 2)⟩,
        ⟨(some 26), none, .callG n_codec_Decode [(.t 24), (.t 25)]⟩,
        ⟨(some 23), none, .mov (.t 26)⟩,
        ⟨(some 27), none, .ext (.t 23) 0⟩,
        ⟨(some 28), none, .ext (.t 23) 1⟩,
        ⟨(some 10), none, .alloc 4 (.agg [(.int .i64 0), (.int .i64 0), (.int .i64 0), .nil])⟩,
        ⟨none, none, .store 4 (.t 10) (.t 27)⟩,
        ⟨(some 11), none, .mov (.t 28)⟩]))
     (.seq (.seq (.keep [0, 1, 2, 7, 8, 10, 11, 30] (.ops false [⟨(some 29), none, .mov (.t 9)⟩,
          ⟨(some 30), none, .bin .neq (.t 29) (.c (.int .i64 0))⟩]))
       (.cond (.t 30) (.seq (.keep [6] (.ops false [⟨(some 31), none, .mov (.t 7)⟩,
            ⟨(some 32), none, .mov (.t 31)⟩,
            ⟨(some 33), (some (32, true)), .fldA 0 1 false (.t 8)⟩,
            ⟨(some 34), (some (32, true)), .load 1 false (.t 33)⟩,
            ⟨(some 35), (some (32, true)), .bin .eql (.t 34) (.c (.int .i64 0))⟩,
            ⟨(some 36), none, .pick (.t 32) (.t 35) (.c (.bool false))⟩,
            ⟨(some 37), none, .mov (.t 36)⟩,
            ⟨(some 38), (some (37, true)), .fldA 3 1 false (.t 8)⟩,
            ⟨(some 39), (some (37, true)), .load 1 false (.t 38)⟩,
            ⟨(some 40), (some (37, true)), .len false (.t 39)⟩,
            ⟨(some 41), (some (37, true)), .bin .eql (.t 40) (.c (.int .i64 0))⟩,
            ⟨(some 42), none, .pick (.t 37) (.t 41) (.c (.bool false))⟩,
            ⟨(some 6), none, .mov (.t 42)⟩]))
         .ret)
        .skip))
      (.seq (.keep [0, 1, 2, 7, 8, 10, 11, 12, 13, 14] (.ops false [⟨(some 44), none, .load 4 true (.t 8)⟩,
          ⟨(some 45), none, .callG n_codec_Encode [(.t 44)]⟩,
          ⟨(some 43), none, .mov (.t 45)⟩,
          ⟨(some 46), none, .ext (.t 43) 0⟩,
          ⟨(some 47), none, .ext (.t 43) 1⟩,
          ⟨(some 48), none, .ext (.t 43) 2⟩,
          ⟨(some 12), none, .mov (.t 46)⟩,
          ⟨(some 13), none, .mov (.t 47)⟩,
          ⟨(some 14), none, .mov (.t 48)⟩]))
       (.seq (.keep [0, 1, 2, 7, 11, 12, 13, 14, 15] (.ops false [⟨(some 49), none, .load 4 true (.t 8)⟩,
           ⟨(some 50), none, .load 4 true (.t 10)⟩,
           ⟨(some 51), none, .callG n_gimbalref12_Same [(.t 49), (.t 50)]⟩,
           ⟨(some 15), none, .mov (.t 51)⟩]))
        (.seq (.keep [6] (.ops false [⟨(some 52), none, .mov (.t 7)⟩,
            ⟨(some 53), none, .mov (.t 52)⟩,
            ⟨(some 54), (some (53, true)), .mov (.t 14)⟩,
            ⟨(some 55), (some (53, true)), .bin .eql (.t 54) (.c (.int .i64 0))⟩,
            ⟨(some 56), none, .pick (.t 53) (.t 55) (.c (.bool false))⟩,
            ⟨(some 57), none, .mov (.t 56)⟩,
            ⟨(some 58), (some (57, true)), .mov (.t 12)⟩,
            ⟨(some 59), (some (57, true)), .mov (.t 0)⟩,
            ⟨(some 60), (some (57, true)), .bin .eql (.t 58) (.t 59)⟩,
            ⟨(some 61), none, .pick (.t 57) (.t 60) (.c (.bool false))⟩,
            ⟨(some 62), none, .mov (.t 61)⟩,
            ⟨(some 63), (some (62, true)), .mov (.t 13)⟩,
            ⟨(some 64), (some (62, true)), .mov (.t 1)⟩,
            ⟨(some 65), (some (62, true)), .bin .eql (.t 63) (.t 64)⟩,
            ⟨(some 66), none, .pick (.t 62) (.t 65) (.c (.bool false))⟩,
            ⟨(some 67), none, .mov (.t 66)⟩,
            ⟨(some 68), (some (67, true)), .mov (.t 11)⟩,
            ⟨(some 69), (some (67, true)), .bin .neq (.t 68) (.c (.int .i64 0))⟩,
            ⟨(some 70), (some (67, true)), .mov (.t 69)⟩,
            ⟨(some 71), (some (70, false)), .mov (.t 15)⟩,
            ⟨(some 72), (some (70, false)), .mov (.t 1)⟩,
            ⟨(some 73), (some (70, false)), .mov (.t 2)⟩,
            ⟨(some 74), (some (70, false)), .bin .eql (.t 72) (.t 73)⟩,
            ⟨(some 75), (some (70, false)), .eqB false (.t 71) (.t 74)⟩,
            ⟨(some 76), (some (67, true)), .pick (.t 70) (.c (.bool true)) (.t 75)⟩,
            ⟨(some 77), none, .pick (.t 67) (.t 76) (.c (.bool false))⟩,
            ⟨(some 6), none, .mov (.t 77)⟩]))
         .ret))))))))
def gimballaw12_CodecOnly.res : List RX := [(6, none)]
theorem gimballaw12_CodecOnly.m : mK pg Tryd.f6.ntmps gimballaw12_CodecOnly.k (Tryd.f6.body.getD .skip) = true := by kernel_rfl
theorem gimballaw12_CodecOnly.mr : mRes pg Tryd.f6.results.toList gimballaw12_CodecOnly.res = true := by kernel_rfl
theorem gimballaw12_CodecOnly.of {args : List V} {r : V} (hn : args.length = 3) (hW : W pg gimballaw12_CodecOnly.k (done gimballaw12_CodecOnly.res r) (start args)) : Ret pg n_gimballaw12_CodecOnly args r :=
  Ret_of (fn := Tryd.f6) Tryd.func6 rfl (by kernel_rfl) gimballaw12_CodecOnly.m gimballaw12_CodecOnly.mr (by rw [hn]; exact of_decide_eq_true (by kernel_rfl)) hW
theorem gimballaw12_CodecOnly.ofG {args : List V} {H : Hp} {n : Nat} {Q : V → Hp → Nat → Prop} (hn : args.length = 3) (hW : W pg gimballaw12_CodecOnly.k (doneG gimballaw12_CodecOnly.res (fun r H' n' => n ≤ n' ∧ Q r H' n')) (startG args H n)) : ∃ r H' n', Q r H' n' ∧ RetG pg n_gimballaw12_CodecOnly args H n r H' n' :=
  RetG_of (fn := Tryd.f6) Tryd.func6 rfl (by kernel_rfl) gimballaw12_CodecOnly.m gimballaw12_CodecOnly.mr (by rw [hn]; exact of_decide_eq_true (by kernel_rfl)) hW

/-- gimbal/gimballaw12.CodecSizes -/
def gimballaw12_CodecSizes.k : K :=
  (.seq (.keep [0, 3] (.ops false [⟨(some 3), none, .boxP (.t 1)⟩,
     ⟨(some 4), none, .mov (.c (.bool false))⟩]))
  (.seq (.keep [0, 3, 5] (.ops false [⟨(some 11), none, .callG n_gimballaw12_awake []⟩,
      ⟨(some 5), none, .mov (.t 11)⟩]))
   (.seq (.keep [0, 3, 5, 6] (.ops false [⟨(some 12), none, .mov (.t 0)⟩,
       ⟨(some 13), none, .callG n_codec_Count [(.t 12)]⟩,
       ⟨(some 6), none, .mov (.t 13)⟩]))
    (.seq (.keep [0, 3, 5, 6, 8, 9] (.ops false [⟨(some 15), none, .load 4 true (.t 3)⟩,
        ⟨(some 16), none, .callG n_codec_Encode [(.t 15)]⟩,
        ⟨(some 14), none, .mov (.t 16)⟩,
        ⟨(some 17), none, .ext (.t 14) 0⟩,
        ⟨(some 18), none, .ext (.t 14) 1⟩,
        ⟨(some 19), none, .ext (.t 14) 2⟩,
        ⟨(some 7), none, .mov (.t 17)⟩,
        ⟨(some 8), none, .mov (.t 18)⟩,
        ⟨(some 9), none, .mov (.t 19)⟩]))
     (.seq (.keep [0, 5, 6, 8, 9, 10] (.ops false [⟨(some 20), none, .fldA 0 1 false (.t 3)⟩,
         ⟨(some 21), none, .load 1 false (.t 20)⟩,
         ⟨(some 22), none, .callG n_codec_Count [(.t 21)]⟩,
         ⟨(some 10), none, .mov (.t 22)⟩]))
      (.seq (.keep [4] (.ops false [⟨(some 23), none, .mov (.t 5)⟩,
          ⟨(some 24), none, .mov (.t 23)⟩,
          ⟨(some 25), (some (24, true)), .mov (.t 6)⟩,
          ⟨(some 26), (some (24, true)), .bin .gtr (.t 25) (.c (.int .i64 0))⟩,
          ⟨(some 27), (some (24, true)), .mov (.t 0)⟩,
          ⟨(some 28), (some (24, true)), .bin .geq (.t 27) (.c (.int .i64 1))⟩,
          ⟨(some 29), (some (24, true)), .mov (.t 28)⟩,
          ⟨(some 30), (some (29, true)), .mov (.t 0)⟩,
          ⟨(some 31), (some (29, true)), .bin .leq (.t 30) (.c (.int .i64 4))⟩,
          ⟨(some 32), (some (24, true)), .pick (.t 29) (.t 31) (.c (.bool false))⟩,
          ⟨(some 33), (some (24, true)), .eqB false (.t 26) (.t 32)⟩,
          ⟨(some 34), none, .pick (.t 24) (.t 33) (.c (.bool false))⟩,
          ⟨(some 35), none, .mov (.t 34)⟩,
          ⟨(some 36), (some (35, true)), .mov (.t 6)⟩,
          ⟨(some 37), (some (35, true)), .bin .leq (.t 36) (.c (.int .i64 6))⟩,
          ⟨(some 38), none, .pick (.t 35) (.t 37) (.c (.bool false))⟩,
          ⟨(some 39), none, .mov (.t 38)⟩,
          ⟨(some 40), (some (39, true)), .mov (.t 6)⟩,
          ⟨(some 41), (some (39, true)), .bin .geq (.t 40) (.c (.int .i64 0))⟩,
          ⟨(some 42), none, .pick (.t 39) (.t 41) (.c (.bool false))⟩,
          ⟨(some 43), none, .mov (.t 42)⟩,
          ⟨(some 44), (some (43, true)), .mov (.t 9)⟩,
          ⟨(some 45), (some (43, true)), .bin .neq (.t 44) (.c (.int .i64 0))⟩,
          ⟨(some 46), (some (43, true)), .mov (.t 45)⟩,
          ⟨(some 47), (some (46, false)), .mov (.t 8)⟩,
          ⟨(some 48), (some (46, false)), .len true (.t 47)⟩,
          ⟨(some 49), (some (46, false)), .mov (.t 10)⟩,
          ⟨(some 50), (some (46, false)), .bin .mul (.c (.int .i64 4)) (.t 49)⟩,
          ⟨(some 51), (some (46, false)), .bin .add (.c (.int .i64 6)) (.t 50)⟩,
          ⟨(some 52), (some (46, false)), .bin .eql (.t 48) (.t 51)⟩,
          ⟨(some 53), (some (43, true)), .pick (.t 46) (.c (.bool true)) (.t 52)⟩,
          ⟨(some 54), none, .pick (.t 43) (.t 53) (.c (.bool false))⟩,
          ⟨(some 4), none, .mov (.t 54)⟩]))
       .ret))))))
def gimballaw12_CodecSizes.res : List RX := [(4, none)]
theorem gimballaw12_CodecSizes.m : mK pg Tryd.f7.ntmps gimballaw12_CodecSizes.k (Tryd.f7.body.getD .skip) = true := by kernel_rfl
theorem gimballaw12_CodecSizes.mr : mRes pg Tryd.f7.results.toList gimballaw12_CodecSizes.res = true := by kernel_rfl
theorem gimballaw12_CodecSizes.of {args : List V} {r : V} (hn : args.length = 2) (hW : W pg gimballaw12_CodecSizes.k (done gimballaw12_CodecSizes.res r) (start args)) : Ret pg n_gimballaw12_CodecSizes args r :=
  Ret_of (fn := Tryd.f7) Tryd.func7 rfl (by kernel_rfl) gimballaw12_CodecSizes.m gimballaw12_CodecSizes.mr (by rw [hn]; exact of_decide_eq_true (by kernel_rfl)) hW
theorem gimballaw12_CodecSizes.ofG {args : List V} {H : Hp} {n : Nat} {Q : V → Hp → Nat → Prop} (hn : args.length = 2) (hW : W pg gimballaw12_CodecSizes.k (doneG gimballaw12_CodecSizes.res (fun r H' n' => n ≤ n' ∧ Q r H' n')) (startG args H n)) : ∃ r H' n', Q r H' n' ∧ RetG pg n_gimballaw12_CodecSizes args H n r H' n' :=
  RetG_of (fn := Tryd.f7) Tryd.func7 rfl (by kernel_rfl) gimballaw12_CodecSizes.m gimballaw12_CodecSizes.mr (by rw [hn]; exact of_decide_eq_true (by kernel_rfl)) hW

/-- gimbal/gimballaw12.awake -/
def gimballaw12_awake.k : K :=
  (.seq (.keep [] (.ops false [⟨(some 0), none, .mov (.c (.bool false))⟩]))
  (.seq (.keep [1] (.ops false [⟨(some 24), none, .new (.bsl 1) [(.c (.int .i64 (-1)))]⟩,
      ⟨(some 25), none, .build [(.int .i64 0), (.int .i64 0), (.int .i64 0), .nil] [(0, 1, (.c (.int .i64 3))), (1, 1, (.c (.int .i64 258))), (2, 1, (.c (.int .i64 3))), (3, 1, (.t 24))]⟩,
      ⟨(some 1), none, .alloc 4 (.agg [(.int .i64 0), (.int .i64 0), (.int .i64 0), .nil])⟩,
      ⟨none, none, .store 4 (.t 1) (.t 25)⟩]))
   (.seq (.keep [1, 2, 3, 4] (.ops false [⟨(some 27), none, .load 4 true (.t 1)⟩,
       ⟨(some 28), none, .callG n_codec_Encode [(.t 27)]⟩,
       ⟨(some 26), none, .mov (.t 28)⟩,
       ⟨(some 29), none, .ext (.t 26) 0⟩,
       ⟨(some 30), none, .ext (.t 26) 1⟩,
       ⟨(some 31), none, .ext (.t 26) 2⟩,
       ⟨(some 2), none, .mov (.t 29)⟩,
       ⟨(some 3), none, .mov (.t 30)⟩,
       ⟨(some 4), none, .mov (.t 31)⟩]))
    (.seq (.keep [1, 2, 3, 4, 5, 6] (.ops false [⟨(some 33), none, .callG n_codec_Decode [(.c (.int .u8 3)), (.c (.str ⟨#[0, 0, 1, 2, 0, 3, 255, 255, 255, 255]⟩))]⟩,
        ⟨(some 32), none, .mov (.t 33)⟩,
        ⟨(some 34), none, .ext (.t 32) 0⟩,
        ⟨(some 35), none, .ext (.t 32) 1⟩,
        ⟨(some 5), none, .alloc 4 (.agg [(.int .i64 0), (.int .i64 0), (.int .i64 0), .nil])⟩,
        ⟨none, none, .store 4 (.t 5) (.t 34)⟩,
        ⟨(some 6), none, .mov (.t 35)⟩]))
     (.seq (.keep [1, 2, 3, 4, 5, 6, 8] (.ops false [⟨(some 37), none, .mov (.t 3)⟩,
         ⟨(some 38), none, .callG n_codec_Decode [(.c (.int .u8 5)), (.t 37)]⟩,
         ⟨(some 36), none, .mov (.t 38)⟩,
         ⟨(some 39), none, .ext (.t 36) 0⟩,
         ⟨(some 40), none, .ext (.t 36) 1⟩,
         ⟨(some 7), none, .alloc 4 (.agg [(.int .i64 0), (.int .i64 0), (.int .i64 0), .nil])⟩,
         ⟨none, none, .store 4 (.t 7) (.t 39)⟩,
         ⟨(some 8), none, .mov (.t 40)⟩]))
      (.seq (.keep [1, 2, 3, 4, 5, 6, 8, 10] (.ops false [⟨(some 42), none, .callG n_codec_Decode [(.c (.int .u8 3)), (.c (.str ⟨#[49, 50, 51, 52, 53, 54, 55, 56, 57]⟩))]⟩,
          ⟨(some 41), none, .mov (.t 42)⟩,
          ⟨(some 43), none, .ext (.t 41) 0⟩,
          ⟨(some 44), none, .ext (.t 41) 1⟩,
          ⟨(some 9), none, .alloc 4 (.agg [(.int .i64 0), (.int .i64 0), (.int .i64 0), .nil])⟩,
          ⟨none, none, .store 4 (.t 9) (.t 43)⟩,
          ⟨(some 10), none, .mov (.t 44)⟩]))
       (.seq (.keep [1, 2, 3, 4, 5, 6, 8, 10, 12] (.ops false [⟨(some 46), none, .callG n_codec_Decode [(.c (.int .u8 3)), (.c (.str ⟨#[0, 0, 0, 0, 0, 0, 128, 0, 0, 0]⟩))]⟩,
           ⟨(some 45), none, .mov (.t 46)⟩,
           ⟨(some 47), none, .ext (.t 45) 0⟩,
           ⟨(some 48), none, .ext (.t 45) 1⟩,
           ⟨(some 11), none, .alloc 4 (.agg [(.int .i64 0), (.int .i64 0), (.int .i64 0), .nil])⟩,
           ⟨none, none, .store 4 (.t 11) (.t 47)⟩,
           ⟨(some 12), none, .mov (.t 48)⟩]))
        (.seq (.keep [1, 2, 3, 4, 5, 6, 8, 10, 12, 15] (.ops false [⟨(some 50), none, .build [(.int .i64 0), (.int .i64 0), (.int .i64 0), .nil] [(0, 1, (.c (.int .i64 3)))]⟩,
            ⟨(some 51), none, .callG n_codec_Encode [(.t 50)]⟩,
            ⟨(some 49), none, .mov (.t 51)⟩,
            ⟨(some 52), none, .ext (.t 49) 0⟩,
            ⟨(some 53), none, .ext (.t 49) 1⟩,
            ⟨(some 54), none, .ext (.t 49) 2⟩,
            ⟨(some 13), none, .mov (.t 52)⟩,
            ⟨(some 14), none, .mov (.t 53)⟩,
            ⟨(some 15), none, .mov (.t 54)⟩]))
         (.seq (.keep [1, 2, 3, 4, 5, 6, 8, 10, 12, 15, 18] (.ops false [⟨(some 56), none, .new (.bsl 1) [(.c (.int .i64 2147483648))]⟩,
             ⟨(some 57), none, .build [(.int .i64 0), (.int .i64 0), (.int .i64 0), .nil] [(0, 1, (.c (.int .i64 3))), (3, 1, (.t 56))]⟩,
             ⟨(some 58), none, .callG n_codec_Encode [(.t 57)]⟩,
             ⟨(some 55), none, .mov (.t 58)⟩,
             ⟨(some 59), none, .ext (.t 55) 0⟩,
             ⟨(some 60), none, .ext (.t 55) 1⟩,
             ⟨(some 61), none, .ext (.t 55) 2⟩,
             ⟨(some 16), none, .mov (.t 59)⟩,
             ⟨(some 17), none, .mov (.t 60)⟩,
             ⟨(some 18), none, .mov (.t 61)⟩]))
          (.seq (.keep [1, 2, 3, 4, 5, 6, 8, 10, 12, 15, 18, 21] (.ops false [⟨(some 63), none, .new (.bsl 1) [(.c (.int .i64 0))]⟩,
              ⟨(some 64), none, .build [(.int .i64 0), (.int .i64 0), (.int .i64 0), .nil] [(0, 1, (.c (.int .i64 3))), (1, 1, (.c (.int .i64 4294967296))), (3, 1, (.t 63))]⟩,
              ⟨(some 65), none, .callG n_codec_Encode [(.t 64)]⟩,
              ⟨(some 62), none, .mov (.t 65)⟩,
              ⟨(some 66), none, .ext (.t 62) 0⟩,
              ⟨(some 67), none, .ext (.t 62) 1⟩,
              ⟨(some 68), none, .ext (.t 62) 2⟩,
              ⟨(some 19), none, .mov (.t 66)⟩,
              ⟨(some 20), none, .mov (.t 67)⟩,
              ⟨(some 21), none, .mov (.t 68)⟩]))
           (.seq (.keep [1, 2, 3, 4, 5, 6, 8, 10, 12, 15, 18, 21, 22] (.ops false [⟨(some 69), none, .callG n_codec_Count [(.c (.int .i64 1))]⟩,
               ⟨(some 22), none, .mov (.t 69)⟩]))
            (.seq (.keep [1, 2, 3, 4, 5, 6, 8, 10, 12, 15, 18, 21, 22, 23] (.ops false [⟨(some 70), none, .callG n_codec_Count [(.c (.int .i64 9))]⟩,
                ⟨(some 23), none, .mov (.t 70)⟩]))
             (.seq (.keep [0] (.ops false [⟨(some 71), none, .mov (.t 2)⟩,
                 ⟨(some 72), none, .bin .eql (.t 71) (.c (.int .u8 3))⟩,
                 ⟨(some 73), none, .mov (.t 72)⟩,
                 ⟨(some 74), (some (73, true)), .mov (.t 3)⟩,
                 ⟨(some 75), (some (73, true)), .bin .eql (.t 74) (.c (.str ⟨#[0, 0, 1, 2, 0, 3, 255, 255, 255, 255]⟩))⟩,
                 ⟨(some 76), none, .pick (.t 73) (.t 75) (.c (.bool false))⟩,
                 ⟨(some 77), none, .mov (.t 76)⟩,
                 ⟨(some 78), (some (77, true)), .mov (.t 4)⟩,
                 ⟨(some 79), (some (77, true)), .bin .eql (.t 78) (.c (.int .i64 0))⟩,
                 ⟨(some 80), none, .pick (.t 77) (.t 79) (.c (.bool false))⟩,
                 ⟨(some 81), none, .mov (.t 80)⟩,
                 ⟨(some 82), (some (81, true)), .load 4 true (.t 1)⟩,
                 ⟨(some 83), (some (81, true)), .load 4 true (.t 5)⟩,
                 ⟨(some 84), (some (81, true)), .callG n_gimbalref12_Same [(.t 82), (.t 83)]⟩,
                 ⟨(some 85), none, .pick (.t 81) (.t 84) (.c (.bool false))⟩,
                 ⟨(some 86), none, .mov (.t 85)⟩,
                 ⟨(some 87), (some (86, true)), .mov (.t 6)⟩,
                 ⟨(some 88), (some (86, true)), .bin .eql (.t 87) (.c (.int .i64 0))⟩,
                 ⟨(some 89), none, .pick (.t 86) (.t 88) (.c (.bool false))⟩,
                 ⟨(some 90), none, .mov (.t 89)⟩,
                 ⟨(some 91), (some (90, true)), .mov (.t 8)⟩,
                 ⟨(some 92), (some (90, true)), .bin .eql (.t 91) (.c (.int .i64 120))⟩,
                 ⟨(some 93), none, .pick (.t 90) (.t 92) (.c (.bool false))⟩,
                 ⟨(some 94), none, .mov (.t 93)⟩,
                 ⟨(some 95), (some (94, true)), .mov (.t 10)⟩,
                 ⟨(some 96), (some (94, true)), .bin .eql (.t 95) (.c (.int .i64 121))⟩,
                 ⟨(some 97), none, .pick (.t 94) (.t 96) (.c (.bool false))⟩,
                 ⟨(some 98), none, .mov (.t 97)⟩,
                 ⟨(some 99), (some (98, true)), .mov (.t 12)⟩,
                 ⟨(some 100), (some (98, true)), .bin .eql (.t 99) (.c (.int .i64 122))⟩,
                 ⟨(some 101), none, .pick (.t 98) (.t 100) (.c (.bool false))⟩,
                 ⟨(some 102), none, .mov (.t 101)⟩,
                 ⟨(some 103), (some (102, true)), .mov (.t 15)⟩,
                 ⟨(some 104), (some (102, true)), .bin .eql (.t 103) (.c (.int .i64 121))⟩,
                 ⟨(some 105), none, .pick (.t 102) (.t 104) (.c (.bool false))⟩,
                 ⟨(some 106), none, .mov (.t 105)⟩,
                 ⟨(some 107), (some (106, true)), .mov (.t 18)⟩,
                 ⟨(some 108), (some (106, true)), .bin .eql (.t 107) (.c (.int .i64 122))⟩,
                 ⟨(some 109), none, .pick (.t 106) (.t 108) (.c (.bool false))⟩,
                 ⟨(some 110), none, .mov (.t 109)⟩,
                 ⟨(some 111), (some (110, true)), .mov (.t 21)⟩,
                 ⟨(some 112), (some (110, true)), .bin .eql (.t 111) (.c (.int .i64 122))⟩,
                 ⟨(some 113), none, .pick (.t 110) (.t 112) (.c (.bool false))⟩,
                 ⟨(some 114), none, .mov (.t 113)⟩,
                 ⟨(some 115), (some (114, true)), .mov (.t 22)⟩,
                 ⟨(some 116), (some (114, true)), .bin .eql (.t 115) (.c (.int .i64 6))⟩,
                 ⟨(some 117), none, .pick (.t 114) (.t 116) (.c (.bool false))⟩,
                 ⟨(some 118), none, .mov (.t 117)⟩,
                 ⟨(some 119), (some (118, true)), .mov (.t 23)⟩,
                 ⟨(some 120), (some (118, true)), .bin .eql (.t 119) (.c (.int .i64 0))⟩,
                 ⟨(some 121), none, .pick (.t 118) (.t 120) (.c (.bool false))⟩,
                 ⟨(some 0), none, .mov (.t 121)⟩]))
              .ret)))))))))))))
def gimballaw12_awake.res : List RX := [(0, none)]
theorem gimballaw12_awake.m : mK pg Tryd.f13.ntmps gimballaw12_awake.k (Tryd.f13.body.getD .skip) = true := by kernel_rfl
theorem gimballaw12_awake.mr : mRes pg Tryd.f13.results.toList gimballaw12_awake.res = true := by kernel_rfl
theorem gimballaw12_awake.of {args : List V} {r : V} (hn : args.length = 0) (hW : W pg gimballaw12_awake.k (done gimballaw12_awake.res r) (start args)) : Ret pg n_gimballaw12_awake args r :=
  Ret_of (fn := Tryd.f13) Tryd.func13 rfl (by kernel_rfl) gimballaw12_awake.m gimballaw12_awake.mr (by rw [hn]; exact of_decide_eq_true (by kernel_rfl)) hW
theorem gimballaw12_awake.ofG {args : List V} {H : Hp} {n : Nat} {Q : V → Hp → Nat → Prop} (hn : args.length = 0) (hW : W pg gimballaw12_awake.k (doneG gimballaw12_awake.res (fun r H' n' => n ≤ n' ∧ Q r H' n')) (startG args H n)) : ∃ r H' n', Q r H' n' ∧ RetG pg n_gimballaw12_awake args H n r H' n' :=
  RetG_of (fn := Tryd.f13) Tryd.func13 rfl (by kernel_rfl) gimballaw12_awake.m gimballaw12_awake.mr (by rw [hn]; exact of_decide_eq_true (by kernel_rfl)) hW

end Go.Gim

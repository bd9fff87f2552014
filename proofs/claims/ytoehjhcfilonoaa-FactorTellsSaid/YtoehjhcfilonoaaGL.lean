import Derived.Test.YtoehjhcfilonoaaGN
/- Functions' code as data (written by wip/tools/gen.py), and the step to their contracts. -/
set_option maxRecDepth 100000
namespace Go.Gim
open Go.Proofs
def long_Of.k : K :=
  (.seq (.keep [0, 2] (.ops false [⟨(some 2), none, .alloc 2 (.agg [(.bool false), .nil])⟩]))
  (.seq (.keep [0, 2, 3] (.ops false [⟨(some 4), none, .mov (.t 0)⟩,
      ⟨(some 5), none, .conv .u64 (.t 4)⟩,
      ⟨(some 3), none, .mov (.t 5)⟩]))
   (.seq (.seq (.keep [0, 2, 3, 7] (.ops false [⟨(some 6), none, .mov (.t 0)⟩,
        ⟨(some 7), none, .bin .lss (.t 6) (.c (.int .i64 0))⟩]))
     (.cond (.t 7) (.keep [0, 2, 3] (.ops false [⟨(some 8), none, .mov (.t 3)⟩,
         ⟨(some 9), none, .un .neg (.t 8)⟩,
         ⟨(some 3), none, .mov (.t 9)⟩]))
      .skip))
    (.seq (.keep [2] (.ops false [⟨(some 10), none, .mov (.t 0)⟩,
        ⟨(some 11), none, .bin .lss (.t 10) (.c (.int .i64 0))⟩,
        ⟨(some 12), none, .mov (.t 3)⟩,
        ⟨(some 13), none, .conv .u32 (.t 12)⟩,
        ⟨(some 14), none, .mov (.t 3)⟩,
        ⟨(some 15), none, .bin .shr (.t 14) (.c (.int .u64 32))⟩,
        ⟨(some 16), none, .conv .u32 (.t 15)⟩,
        ⟨(some 17), none, .new (.bsl 1) [(.t 13), (.t 16)]⟩,
        ⟨(some 18), none, .callG n_long_made [(.t 11), (.t 17)]⟩,
        ⟨none, none, .store 2 (.t 2) (.t 18)⟩]))
     .ret))))
def long_Of.res : List RX := [(2, some (2, true))]
theorem long_Of.m : mK pg Try.f21.ntmps long_Of.k (Try.f21.body.getD .skip) = true := by kernel_rfl
theorem long_Of.mr : mRes pg Try.f21.results.toList long_Of.res = true := by kernel_rfl
theorem long_Of.of {args : List V} {r : V} (hn : args.length = 1) (hW : W pg long_Of.k (done long_Of.res r) (start args)) : Ret pg n_long_Of args r :=
  Ret_of (fn := Try.f21) Try.func21 rfl (by kernel_rfl) long_Of.m long_Of.mr (by rw [hn]; exact of_decide_eq_true (by kernel_rfl)) hW
def long_made.k : K :=
  (.seq (.keep [0, 1, 4] (.ops false [⟨(some 4), none, .alloc 2 (.agg [(.bool false), .nil])⟩]))
  (.seq (.keep [0, 1, 4, 5] (.ops false [⟨(some 6), none, .mov (.t 1)⟩,
      ⟨(some 7), none, .len false (.t 6)⟩,
      ⟨(some 5), none, .mov (.t 7)⟩]))
   (.seq (.block 0 (.loop (.seq (.seq (.keep [0, 1, 4, 5, 17] (.ops false [⟨(some 8), none, .mov (.t 5)⟩,
           ⟨(some 9), none, .bin .gtr (.t 8) (.c (.int .i64 0))⟩,
           ⟨(some 10), none, .mov (.t 9)⟩,
           ⟨(some 11), (some (10, true)), .mov (.t 1)⟩,
           ⟨(some 12), (some (10, true)), .mov (.t 5)⟩,
           ⟨(some 13), (some (10, true)), .bin .sub (.t 12) (.c (.int .i64 1))⟩,
           ⟨(some 14), (some (10, true)), .idxA 1 (.t 11) (.t 13)⟩,
           ⟨(some 15), (some (10, true)), .load 1 false (.t 14)⟩,
           ⟨(some 16), (some (10, true)), .bin .eql (.t 15) (.c (.int .u32 0))⟩,
           ⟨(some 17), none, .pick (.t 10) (.t 16) (.c (.bool false))⟩]))
        (.cond (.t 17) .skip
         (.exit 0)))
       (.keep [0, 1, 4, 5] (.block 1 (.keep [0, 1, 4, 5] (.ops false [⟨(some 18), none, .mov (.t 5)⟩,
            ⟨(some 19), none, .bin .sub (.t 18) (.c (.int .i64 1))⟩,
            ⟨(some 5), none, .mov (.t 19)⟩])))))))
    (.seq (.keep [4] (.ops false [⟨(some 20), none, .mov (.t 0)⟩,
        ⟨(some 21), none, .mov (.t 20)⟩,
        ⟨(some 22), (some (21, true)), .mov (.t 5)⟩,
        ⟨(some 23), (some (21, true)), .bin .gtr (.t 22) (.c (.int .i64 0))⟩,
        ⟨(some 24), none, .pick (.t 21) (.t 23) (.c (.bool false))⟩,
        ⟨(some 25), none, .mov (.t 1)⟩,
        ⟨(some 26), none, .mov (.t 5)⟩,
        ⟨(some 27), none, .mov (.t 5)⟩,
        ⟨(some 28), none, .red (.slc 1 false true true) [(.t 25), (.t 26), (.t 27)]⟩,
        ⟨(some 29), none, .build [(.bool false), .nil] [(0, 1, (.t 24)), (1, 1, (.t 28))]⟩,
        ⟨none, none, .store 2 (.t 4) (.t 29)⟩]))
     .ret))))
def long_made.res : List RX := [(4, some (2, true))]
theorem long_made.m : mK pg Try.f46.ntmps long_made.k (Try.f46.body.getD .skip) = true := by kernel_rfl
theorem long_made.mr : mRes pg Try.f46.results.toList long_made.res = true := by kernel_rfl
theorem long_made.of {args : List V} {r : V} (hn : args.length = 2) (hW : W pg long_made.k (done long_made.res r) (start args)) : Ret pg n_long_made args r :=
  Ret_of (fn := Try.f46) Try.func46 rfl (by kernel_rfl) long_made.m long_made.mr (by rw [hn]; exact of_decide_eq_true (by kernel_rfl)) hW
def long_by.k : K :=
  (.seq (.keep [0, 1] (.ops false [⟨(some 4), none, .mov (.c .nil)⟩,
     ⟨(some 5), none, .mov (.c (.int .u32 0))⟩]))
  (.seq (.keep [0, 1, 6] (.ops false [⟨(some 9), none, .mov (.t 0)⟩,
      ⟨(some 10), none, .len false (.t 9)⟩,
      ⟨(some 11), none, .new (.mks 1 4 (.int .u32 0)) [(.t 10), (.t 10)]⟩,
      ⟨(some 6), none, .mov (.t 11)⟩]))
   (.seq (.keep [0, 1, 6, 7] (.ops false [⟨(some 7), none, .mov (.c (.int .u64 0))⟩]))
    (.seq (.seq (.keep [0, 1, 6, 7, 8] (.ops false [⟨(some 12), none, .mov (.t 0)⟩,
         ⟨(some 13), none, .len false (.t 12)⟩,
         ⟨(some 14), none, .bin .sub (.t 13) (.c (.int .i64 1))⟩,
         ⟨(some 8), none, .mov (.t 14)⟩]))
      (.block 0 (.loop (.seq (.seq (.keep [0, 1, 6, 7, 8, 16] (.ops false [⟨(some 15), none, .mov (.t 8)⟩,
             ⟨(some 16), none, .bin .geq (.t 15) (.c (.int .i64 0))⟩]))
          (.cond (.t 16) .skip
           (.exit 0)))
         (.seq (.block 1 (.seq (.keep [0, 1, 6, 7, 8] (.ops false [⟨(some 19), none, .mov (.t 7)⟩,
               ⟨(some 20), none, .bin .shl (.t 19) (.c (.int .u64 32))⟩,
               ⟨(some 21), none, .mov (.t 0)⟩,
               ⟨(some 22), none, .mov (.t 8)⟩,
               ⟨(some 23), none, .idxA 1 (.t 21) (.t 22)⟩,
               ⟨(some 24), none, .load 1 false (.t 23)⟩,
               ⟨(some 25), none, .conv .u64 (.t 24)⟩,
               ⟨(some 26), none, .bin .or (.t 20) (.t 25)⟩,
               ⟨(some 7), none, .mov (.t 26)⟩]))
            (.seq (.keep [0, 1, 6, 7, 8] (.ops false [⟨(some 27), none, .mov (.t 6)⟩,
                ⟨(some 28), none, .mov (.t 8)⟩,
                ⟨(some 29), none, .mov (.t 7)⟩,
                ⟨(some 30), none, .mov (.t 1)⟩,
                ⟨(some 31), none, .conv .u64 (.t 30)⟩,
                ⟨(some 32), none, .bin .quo (.t 29) (.t 31)⟩,
                ⟨(some 33), none, .conv .u32 (.t 32)⟩,
                ⟨(some 34), none, .idxA 1 (.t 27) (.t 28)⟩,
                ⟨none, none, .store 1 (.t 34) (.t 33)⟩]))
             (.keep [0, 1, 6, 7, 8] (.ops false [⟨(some 35), none, .mov (.t 7)⟩,
                ⟨(some 36), none, .mov (.t 1)⟩,
                ⟨(some 37), none, .conv .u64 (.t 36)⟩,
                ⟨(some 38), none, .bin .rem (.t 35) (.t 37)⟩,
                ⟨(some 7), none, .mov (.t 38)⟩])))))
          (.keep [0, 1, 6, 7, 8] (.ops false [⟨(some 17), none, .mov (.t 8)⟩,
             ⟨(some 18), none, .bin .sub (.t 17) (.c (.int .i64 1))⟩,
             ⟨(some 8), none, .mov (.t 18)⟩])))))))
     (.seq (.keep [4, 5] (.ops false [⟨(some 39), none, .mov (.t 6)⟩,
         ⟨(some 40), none, .mov (.t 7)⟩,
         ⟨(some 41), none, .conv .u32 (.t 40)⟩,
         ⟨(some 4), none, .mov (.t 39)⟩,
         ⟨(some 5), none, .mov (.t 41)⟩]))
      .ret)))))
def long_by.res : List RX := [(4, none), (5, none)]
theorem long_by.m : mK pg Try.f47.ntmps long_by.k (Try.f47.body.getD .skip) = true := by kernel_rfl
theorem long_by.mr : mRes pg Try.f47.results.toList long_by.res = true := by kernel_rfl
theorem long_by.of {args : List V} {r : V} (hn : args.length = 2) (hW : W pg long_by.k (done long_by.res r) (start args)) : Ret pg n_long_by args r :=
  Ret_of (fn := Try.f47) Try.func47 rfl (by kernel_rfl) long_by.m long_by.mr (by rw [hn]; exact of_decide_eq_true (by kernel_rfl)) hW
def long_Int_String.k : K :=
  (.seq (.keep [1] (.ops false [⟨(some 1), none, .boxP (.t 0)⟩,
     ⟨(some 2), none, .mov (.c (.str ⟨#[]⟩))⟩]))
  (.seq (.seq (.keep [1, 10] (.ops false [⟨(some 7), none, .fldA 1 1 false (.t 1)⟩,
       ⟨(some 8), none, .load 1 false (.t 7)⟩,
       ⟨(some 9), none, .len false (.t 8)⟩,
       ⟨(some 10), none, .bin .eql (.t 9) (.c (.int .i64 0))⟩]))
    (.cond (.t 10) (.seq (.keep [2] (.ops false [⟨(some 2), none, .mov (.c (.str ⟨#[48]⟩))⟩]))
      .ret)
     .skip))
   (.seq (.keep [1, 3] (.ops false [⟨(some 3), none, .mov (.c .nil)⟩]))
    (.seq (.seq (.keep [1, 3, 4] (.ops false [⟨(some 11), none, .fldA 1 1 false (.t 1)⟩,
         ⟨(some 12), none, .load 1 false (.t 11)⟩,
         ⟨(some 4), none, .mov (.t 12)⟩]))
      (.block 0 (.loop (.seq (.seq (.keep [1, 3, 4, 15] (.ops false [⟨(some 13), none, .mov (.t 4)⟩,
             ⟨(some 14), none, .len false (.t 13)⟩,
             ⟨(some 15), none, .bin .gtr (.t 14) (.c (.int .i64 0))⟩]))
          (.cond (.t 15) .skip
           (.exit 0)))
         (.keep [1, 3, 4] (.block 1 (.seq (.keep [1, 3, 5, 6] (.ops false [⟨(some 17), none, .mov (.t 4)⟩,
               ⟨(some 18), none, .callG n_long_by [(.t 17), (.c (.int .u32 1000000000))]⟩,
               ⟨(some 16), none, .mov (.t 18)⟩,
               ⟨(some 19), none, .ext (.t 16) 0⟩,
               ⟨(some 20), none, .ext (.t 16) 1⟩,
               ⟨(some 5), none, .mov (.t 19)⟩,
               ⟨(some 6), none, .mov (.t 20)⟩]))
            (.seq (.keep [1, 3, 4, 6] (.ops false [⟨(some 21), none, .mov (.t 5)⟩,
                ⟨(some 22), none, .callG n_long_made [(.c (.bool false)), (.t 21)]⟩,
                ⟨(some 23), none, .fld 1 1 false (.t 22)⟩,
                ⟨(some 4), none, .mov (.t 23)⟩]))
             (.seq (.keep [1, 3, 4, 6, 24] (.ops false [⟨(some 24), none, .mov (.c (.int .i64 0))⟩]))
              (.block 2 (.loop (.seq (.keep [1, 3, 4, 6, 24, 25] (.ops false [⟨(some 25), none, .bin .lss (.t 24) (.c (.int .i64 9))⟩]))
                 (.seq (.cond (.t 25) .skip
                   (.exit 2))
                  (.seq (.block 3 (.seq (.seq (.keep [1, 3, 4, 6, 24, 32] (.ops false [⟨(some 26), none, .mov (.t 6)⟩,
                         ⟨(some 27), none, .bin .gtr (.t 26) (.c (.int .u32 0))⟩,
                         ⟨(some 28), none, .mov (.t 27)⟩,
                         ⟨(some 29), (some (28, false)), .mov (.t 4)⟩,
                         ⟨(some 30), (some (28, false)), .len false (.t 29)⟩,
                         ⟨(some 31), (some (28, false)), .bin .gtr (.t 30) (.c (.int .i64 0))⟩,
                         ⟨(some 32), none, .pick (.t 28) (.c (.bool true)) (.t 31)⟩]))
                      (.cond (.t 32) (.keep [1, 3, 4, 6, 24] (.ops false [⟨(some 33), none, .mov (.t 3)⟩,
                          ⟨(some 34), none, .mov (.t 6)⟩,
                          ⟨(some 35), none, .bin .rem (.t 34) (.c (.int .u32 10))⟩,
                          ⟨(some 36), none, .bin .add (.c (.int .u32 48)) (.t 35)⟩,
                          ⟨(some 37), none, .conv .u8 (.t 36)⟩,
                          ⟨(some 38), none, .new (.bsl 1) [(.t 37)]⟩,
                          ⟨(some 39), none, .eff (.app 1 1) [(.t 33), (.t 38)]⟩,
                          ⟨(some 3), none, .mov (.t 39)⟩]))
                       .skip))
                     (.keep [1, 3, 4, 6, 24] (.ops false [⟨(some 40), none, .mov (.t 6)⟩,
                        ⟨(some 41), none, .bin .quo (.t 40) (.c (.int .u32 10))⟩,
                        ⟨(some 6), none, .mov (.t 41)⟩]))))
                   (.keep [1, 3, 4, 6, 24] (.ops false [⟨(some 42), none, .bin .add (.t 24) (.c (.int .i64 1))⟩,
                      ⟨(some 24), none, .mov (.t 42)⟩]))))))))))))))))
     (.seq (.seq (.keep [3, 44] (.ops false [⟨(some 43), none, .fldA 0 1 false (.t 1)⟩,
          ⟨(some 44), none, .load 1 false (.t 43)⟩]))
       (.cond (.t 44) (.keep [3] (.ops false [⟨(some 45), none, .mov (.t 3)⟩,
           ⟨(some 46), none, .new (.bsl 1) [(.c (.int .u8 45))]⟩,
           ⟨(some 47), none, .eff (.app 1 1) [(.t 45), (.t 46)]⟩,
           ⟨(some 3), none, .mov (.t 47)⟩]))
        .skip))
      (.seq (.keep [3] (.ops false [⟨(some 48), none, .mov (.t 3)⟩,
          ⟨(some 49), none, .callG n_slices_Reverse_Lbyte_byte [(.t 48)]⟩]))
       (.seq (.keep [2] (.ops false [⟨(some 50), none, .mov (.t 3)⟩,
           ⟨(some 51), none, .eff .b2sO [(.t 50)]⟩,
           ⟨(some 2), none, .mov (.t 51)⟩]))
        .ret)))))))
def long_Int_String.res : List RX := [(2, none)]
theorem long_Int_String.m : mK pg Try.f22.ntmps long_Int_String.k (Try.f22.body.getD .skip) = true := by kernel_rfl
theorem long_Int_String.mr : mRes pg Try.f22.results.toList long_Int_String.res = true := by kernel_rfl
theorem long_Int_String.of {args : List V} {r : V} (hn : args.length = 1) (hW : W pg long_Int_String.k (done long_Int_String.res r) (start args)) : Ret pg n_long_Int_String args r :=
  Ret_of (fn := Try.f22) Try.func22 rfl (by kernel_rfl) long_Int_String.m long_Int_String.mr (by rw [hn]; exact of_decide_eq_true (by kernel_rfl)) hW
def slices_Reverse_Lbyte_byte.k : K :=
  (.seq (.keep [0, 2, 3] (.ops false [⟨(some 4), none, .mov (.t 0)⟩,
     ⟨(some 5), none, .len false (.t 4)⟩,
     ⟨(some 6), none, .bin .sub (.t 5) (.c (.int .i64 1))⟩,
     ⟨(some 2), none, .mov (.c (.int .i64 0))⟩,
     ⟨(some 3), none, .mov (.t 6)⟩]))
  (.block 0 (.loop (.seq (.seq (.keep [0, 2, 3, 9] (.ops false [⟨(some 7), none, .mov (.t 2)⟩,
         ⟨(some 8), none, .mov (.t 3)⟩,
         ⟨(some 9), none, .bin .lss (.t 7) (.t 8)⟩]))
      (.cond (.t 9) .skip
       (.exit 0)))
     (.seq (.block 1 (.keep [0, 2, 3] (.ops true [⟨(some 14), none, .mov (.t 0)⟩,
          ⟨(some 15), none, .mov (.t 2)⟩,
          ⟨(some 16), none, .mov (.t 0)⟩,
          ⟨(some 17), none, .mov (.t 3)⟩,
          ⟨(some 18), none, .mov (.t 0)⟩,
          ⟨(some 19), none, .mov (.t 3)⟩,
          ⟨(some 20), none, .idxA 1 (.t 18) (.t 19)⟩,
          ⟨(some 21), none, .load 1 false (.t 20)⟩,
          ⟨(some 22), none, .mov (.t 0)⟩,
          ⟨(some 23), none, .mov (.t 2)⟩,
          ⟨(some 24), none, .idxA 1 (.t 22) (.t 23)⟩,
          ⟨(some 25), none, .load 1 false (.t 24)⟩,
          ⟨(some 26), none, .idxA 1 (.t 14) (.t 15)⟩,
          ⟨none, none, .store 1 (.t 26) (.t 21)⟩,
          ⟨(some 27), none, .idxA 1 (.t 16) (.t 17)⟩,
          ⟨none, none, .store 1 (.t 27) (.t 25)⟩])))
      (.keep [0, 2, 3] (.ops false [⟨(some 10), none, .mov (.t 2)⟩,
         ⟨(some 11), none, .bin .add (.t 10) (.c (.int .i64 1))⟩,
         ⟨(some 12), none, .mov (.t 3)⟩,
         ⟨(some 13), none, .bin .sub (.t 12) (.c (.int .i64 1))⟩,
         ⟨(some 2), none, .mov (.t 11)⟩,
         ⟨(some 3), none, .mov (.t 13)⟩])))))))
def slices_Reverse_Lbyte_byte.res : List RX := []
theorem slices_Reverse_Lbyte_byte.m : mK pg Try.f48.ntmps slices_Reverse_Lbyte_byte.k (Try.f48.body.getD .skip) = true := by kernel_rfl
theorem slices_Reverse_Lbyte_byte.mr : mRes pg Try.f48.results.toList slices_Reverse_Lbyte_byte.res = true := by kernel_rfl
theorem slices_Reverse_Lbyte_byte.ofG {args : List V} {H : Hp} {n : Nat} {Q : V → Hp → Nat → Prop} (hn : args.length = 1) (hW : W pg slices_Reverse_Lbyte_byte.k (doneG slices_Reverse_Lbyte_byte.res (fun r H' n' => n ≤ n' ∧ Q r H' n')) (startG args H n)) : ∃ r H' n', Q r H' n' ∧ RetG pg n_slices_Reverse_Lbyte_byte args H n r H' n' :=
  RetG_of (fn := Try.f48) Try.func48 rfl (by kernel_rfl) slices_Reverse_Lbyte_byte.m slices_Reverse_Lbyte_byte.mr (by rw [hn]; exact of_decide_eq_true (by kernel_rfl)) hW
end Go.Gim

/- Functions' code as data (written by wip/tools/gen.py), and the step to their contracts. -/
import Derived.Test.YtoehjhcfilonoaaGN
set_option maxRecDepth 100000
namespace Go.Gim
open Go.Proofs
/-- gimbal/huber.Bound -/
def huber_Bound.k : K :=
  (.seq (.keep [0, 1, 2] (.ops false [⟨(some 6), none, .mov (.c (.int .i64 0))⟩,
     ⟨(some 7), none, .mov (.c (.int .i64 0))⟩,
     ⟨(some 8), none, .mov (.c (.int .i64 0))⟩]))
  (.seq (.seq (.keep [0, 1, 2, 28] (.ops false [⟨(some 10), none, .mov (.t 0)⟩,
       ⟨(some 11), none, .mov (.t 0)⟩,
       ⟨(some 12), none, .un .neg (.t 11)⟩,
       ⟨(some 13), none, .mov (.t 1)⟩,
       ⟨(some 14), none, .mov (.t 1)⟩,
       ⟨(some 15), none, .un .neg (.t 14)⟩,
       ⟨(some 16), none, .mov (.t 2)⟩,
       ⟨(some 17), none, .mm true (.t 10) [(.t 12), (.t 13), (.t 15), (.t 16)]⟩,
       ⟨(some 18), none, .bin .gtr (.t 17) (.c (.int .i64 32768))⟩,
       ⟨(some 19), none, .mov (.t 18)⟩,
       ⟨(some 20), (some (19, false)), .mov (.t 0)⟩,
       ⟨(some 21), (some (19, false)), .mov (.t 1)⟩,
       ⟨(some 22), (some (19, false)), .mm false (.t 20) [(.t 21)]⟩,
       ⟨(some 23), (some (19, false)), .bin .lss (.t 22) (.c (.int .i64 (-32768)))⟩,
       ⟨(some 24), none, .pick (.t 19) (.c (.bool true)) (.t 23)⟩,
       ⟨(some 25), none, .mov (.t 24)⟩,
       ⟨(some 26), (some (25, false)), .mov (.t 2)⟩,
       ⟨(some 27), (some (25, false)), .bin .lss (.t 26) (.c (.int .i64 0))⟩,
       ⟨(some 28), none, .pick (.t 25) (.c (.bool true)) (.t 27)⟩]))
    (.cond (.t 28) (.seq (.keep [6, 7, 8] (.ops false [⟨(some 6), none, .mov (.c (.int .i64 0))⟩,
         ⟨(some 7), none, .mov (.c (.int .i64 0))⟩,
         ⟨(some 8), none, .mov (.c (.int .i64 90))⟩]))
      .ret)
     .skip))
   (.seq (.keep [0, 1, 2, 6, 7] (.ops false [⟨(some 30), none, .mov (.t 1)⟩,
       ⟨(some 31), none, .mov (.t 2)⟩,
       ⟨(some 32), none, .callG n_huber_Weight [(.t 30), (.t 31)]⟩,
       ⟨(some 29), none, .mov (.t 32)⟩,
       ⟨(some 33), none, .ext (.t 29) 0⟩,
       ⟨(some 34), none, .ext (.t 29) 1⟩,
       ⟨(some 6), none, .mov (.t 33)⟩,
       ⟨(some 7), none, .mov (.t 34)⟩]))
    (.seq (.seq (.keep [0, 2, 6, 7, 9] (.ops false [⟨(some 35), none, .mov (.t 1)⟩,
         ⟨(some 36), none, .mov (.t 1)⟩,
         ⟨(some 37), none, .un .neg (.t 36)⟩,
         ⟨(some 38), none, .mm true (.t 35) [(.t 37)]⟩,
         ⟨(some 9), none, .mov (.t 38)⟩]))
      (.seq (.keep [0, 2, 6, 7, 9, 41] (.ops false [⟨(some 39), none, .mov (.t 9)⟩,
          ⟨(some 40), none, .mov (.t 2)⟩,
          ⟨(some 41), none, .bin .gtr (.t 39) (.t 40)⟩]))
       (.cond (.t 41) (.seq (.keep [6, 7, 8] (.ops false [⟨(some 42), none, .mov (.t 6)⟩,
            ⟨(some 43), none, .mov (.t 0)⟩,
            ⟨(some 44), none, .bin .mul (.t 42) (.t 43)⟩,
            ⟨(some 45), none, .mov (.t 0)⟩,
            ⟨(some 46), none, .bin .mul (.t 44) (.t 45)⟩,
            ⟨(some 47), none, .mov (.t 9)⟩,
            ⟨(some 48), none, .mov (.t 2)⟩,
            ⟨(some 49), none, .mov (.t 9)⟩,
            ⟨(some 50), none, .bin .mul (.t 48) (.t 49)⟩,
            ⟨(some 51), none, .mov (.t 2)⟩,
            ⟨(some 52), none, .mov (.t 2)⟩,
            ⟨(some 53), none, .bin .mul (.t 51) (.t 52)⟩,
            ⟨(some 54), none, .bin .sub (.t 50) (.t 53)⟩,
            ⟨(some 55), none, .bin .mul (.t 47) (.t 54)⟩,
            ⟨(some 56), none, .bin .add (.t 46) (.t 55)⟩,
            ⟨(some 57), none, .mov (.t 7)⟩,
            ⟨(some 6), none, .mov (.t 56)⟩,
            ⟨(some 7), none, .mov (.t 57)⟩,
            ⟨(some 8), none, .mov (.c (.int .i64 0))⟩]))
         .ret)
        .skip)))
     (.seq (.keep [6, 7, 8] (.ops false [⟨(some 58), none, .mov (.t 6)⟩,
         ⟨(some 59), none, .mov (.t 0)⟩,
         ⟨(some 60), none, .bin .mul (.t 58) (.t 59)⟩,
         ⟨(some 61), none, .mov (.t 0)⟩,
         ⟨(some 62), none, .bin .mul (.t 60) (.t 61)⟩,
         ⟨(some 63), none, .mov (.t 7)⟩,
         ⟨(some 6), none, .mov (.t 62)⟩,
         ⟨(some 7), none, .mov (.t 63)⟩,
         ⟨(some 8), none, .mov (.c (.int .i64 0))⟩]))
      .ret)))))
def huber_Bound.res : List RX := [(6, none), (7, none), (8, none)]
theorem huber_Bound.m : mK pg Try.f16.ntmps huber_Bound.k (Try.f16.body.getD .skip) = true := by kernel_rfl
theorem huber_Bound.mr : mRes pg Try.f16.results.toList huber_Bound.res = true := by kernel_rfl
theorem huber_Bound.of {args : List V} {r : V} (hn : args.length = 3) (hW : W pg huber_Bound.k (done huber_Bound.res r) (start args)) : Ret pg n_huber_Bound args r :=
  Ret_of (fn := Try.f16) Try.func16 rfl (by kernel_rfl) huber_Bound.m huber_Bound.mr (by rw [hn]; exact of_decide_eq_true (by kernel_rfl)) hW
theorem huber_Bound.ofG {args : List V} {H : Hp} {n : Nat} {Q : V → Hp → Nat → Prop} (hn : args.length = 3) (hW : W pg huber_Bound.k (doneG huber_Bound.res (fun r H' n' => n ≤ n' ∧ Q r H' n')) (startG args H n)) : ∃ r H' n', Q r H' n' ∧ RetG pg n_huber_Bound args H n r H' n' :=
  RetG_of (fn := Try.f16) Try.func16 rfl (by kernel_rfl) huber_Bound.m huber_Bound.mr (by rw [hn]; exact of_decide_eq_true (by kernel_rfl)) hW

/-- gimbal/huber.Rho -/
def huber_Rho.k : K :=
  (.seq (.keep [0, 1] (.ops false [⟨(some 4), none, .mov (.c (.int .i64 0))⟩]))
  (.seq (.keep [0, 1, 5] (.ops false [⟨(some 7), none, .mov (.t 0)⟩,
      ⟨(some 8), none, .mov (.t 1)⟩,
      ⟨(some 9), none, .callG n_huber_cut [(.t 7), (.t 8)]⟩,
      ⟨(some 6), none, .mov (.t 9)⟩,
      ⟨(some 10), none, .ext (.t 6) 0⟩,
      ⟨(some 11), none, .ext (.t 6) 1⟩,
      ⟨(some 12), none, .ext (.t 6) 2⟩,
      ⟨(some 0), none, .mov (.t 10)⟩,
      ⟨(some 5), none, .mov (.t 11)⟩,
      ⟨(some 1), none, .mov (.t 12)⟩]))
   (.seq (.keep [4] (.ops false [⟨(some 13), none, .mov (.t 5)⟩,
       ⟨(some 14), none, .mov (.t 1)⟩,
       ⟨(some 15), none, .callG n_huber_of [(.t 13), (.t 14)]⟩,
       ⟨(some 16), none, .fld 0 1 false (.t 15)⟩,
       ⟨(some 17), none, .mov (.t 0)⟩,
       ⟨(some 18), none, .mov (.t 1)⟩,
       ⟨(some 19), none, .callGV (.t 16) [(.t 17), (.t 18)]⟩,
       ⟨(some 4), none, .mov (.t 19)⟩]))
    .ret)))
def huber_Rho.res : List RX := [(4, none)]
theorem huber_Rho.m : mK pg Try.f18.ntmps huber_Rho.k (Try.f18.body.getD .skip) = true := by kernel_rfl
theorem huber_Rho.mr : mRes pg Try.f18.results.toList huber_Rho.res = true := by kernel_rfl
theorem huber_Rho.of {args : List V} {r : V} (hn : args.length = 2) (hW : W pg huber_Rho.k (done huber_Rho.res r) (start args)) : Ret pg n_huber_Rho args r :=
  Ret_of (fn := Try.f18) Try.func18 rfl (by kernel_rfl) huber_Rho.m huber_Rho.mr (by rw [hn]; exact of_decide_eq_true (by kernel_rfl)) hW
theorem huber_Rho.ofG {args : List V} {H : Hp} {n : Nat} {Q : V → Hp → Nat → Prop} (hn : args.length = 2) (hW : W pg huber_Rho.k (doneG huber_Rho.res (fun r H' n' => n ≤ n' ∧ Q r H' n')) (startG args H n)) : ∃ r H' n', Q r H' n' ∧ RetG pg n_huber_Rho args H n r H' n' :=
  RetG_of (fn := Try.f18) Try.func18 rfl (by kernel_rfl) huber_Rho.m huber_Rho.mr (by rw [hn]; exact of_decide_eq_true (by kernel_rfl)) hW

/-- gimbal/huber.Weight -/
def huber_Weight.k : K :=
  (.seq (.keep [0, 1] (.ops false [⟨(some 4), none, .mov (.c (.int .i64 0))⟩,
     ⟨(some 5), none, .mov (.c (.int .i64 0))⟩]))
  (.seq (.keep [1, 7] (.ops false [⟨(some 9), none, .mov (.t 0)⟩,
      ⟨(some 10), none, .mov (.t 1)⟩,
      ⟨(some 11), none, .callG n_huber_cut [(.t 9), (.t 10)]⟩,
      ⟨(some 8), none, .mov (.t 11)⟩,
      ⟨(some 12), none, .ext (.t 8) 0⟩,
      ⟨(some 13), none, .ext (.t 8) 1⟩,
      ⟨(some 14), none, .ext (.t 8) 2⟩,
      ⟨(some 6), none, .mov (.t 12)⟩,
      ⟨(some 7), none, .mov (.t 13)⟩,
      ⟨(some 1), none, .mov (.t 14)⟩]))
   (.seq (.seq (.keep [1, 7, 17] (.ops false [⟨(some 15), none, .mov (.t 7)⟩,
        ⟨(some 16), none, .mov (.t 1)⟩,
        ⟨(some 17), none, .bin .leq (.t 15) (.t 16)⟩]))
     (.cond (.t 17) (.seq (.keep [4, 5] (.ops false [⟨(some 4), none, .mov (.c (.int .i64 1))⟩,
          ⟨(some 5), none, .mov (.c (.int .i64 1))⟩]))
       .ret)
      .skip))
    (.seq (.keep [4, 5] (.ops false [⟨(some 18), none, .mov (.t 1)⟩,
        ⟨(some 19), none, .mov (.t 7)⟩,
        ⟨(some 4), none, .mov (.t 18)⟩,
        ⟨(some 5), none, .mov (.t 19)⟩]))
     .ret))))
def huber_Weight.res : List RX := [(4, none), (5, none)]
theorem huber_Weight.m : mK pg Try.f19.ntmps huber_Weight.k (Try.f19.body.getD .skip) = true := by kernel_rfl
theorem huber_Weight.mr : mRes pg Try.f19.results.toList huber_Weight.res = true := by kernel_rfl
theorem huber_Weight.of {args : List V} {r : V} (hn : args.length = 2) (hW : W pg huber_Weight.k (done huber_Weight.res r) (start args)) : Ret pg n_huber_Weight args r :=
  Ret_of (fn := Try.f19) Try.func19 rfl (by kernel_rfl) huber_Weight.m huber_Weight.mr (by rw [hn]; exact of_decide_eq_true (by kernel_rfl)) hW
theorem huber_Weight.ofG {args : List V} {H : Hp} {n : Nat} {Q : V → Hp → Nat → Prop} (hn : args.length = 2) (hW : W pg huber_Weight.k (doneG huber_Weight.res (fun r H' n' => n ≤ n' ∧ Q r H' n')) (startG args H n)) : ∃ r H' n', Q r H' n' ∧ RetG pg n_huber_Weight args H n r H' n' :=
  RetG_of (fn := Try.f19) Try.func19 rfl (by kernel_rfl) huber_Weight.m huber_Weight.mr (by rw [hn]; exact of_decide_eq_true (by kernel_rfl)) hW

/-- gimbal/huber.Slope -/
def huber_Slope.k : K :=
  (.seq (.keep [0, 1] (.ops false [⟨(some 4), none, .mov (.c (.int .i64 0))⟩]))
  (.seq (.keep [0, 1, 5] (.ops false [⟨(some 7), none, .mov (.t 0)⟩,
      ⟨(some 8), none, .mov (.t 1)⟩,
      ⟨(some 9), none, .callG n_huber_cut [(.t 7), (.t 8)]⟩,
      ⟨(some 6), none, .mov (.t 9)⟩,
      ⟨(some 10), none, .ext (.t 6) 0⟩,
      ⟨(some 11), none, .ext (.t 6) 1⟩,
      ⟨(some 12), none, .ext (.t 6) 2⟩,
      ⟨(some 0), none, .mov (.t 10)⟩,
      ⟨(some 5), none, .mov (.t 11)⟩,
      ⟨(some 1), none, .mov (.t 12)⟩]))
   (.seq (.keep [4] (.ops false [⟨(some 13), none, .mov (.t 5)⟩,
       ⟨(some 14), none, .mov (.t 1)⟩,
       ⟨(some 15), none, .callG n_huber_of [(.t 13), (.t 14)]⟩,
       ⟨(some 16), none, .fld 1 1 false (.t 15)⟩,
       ⟨(some 17), none, .mov (.t 0)⟩,
       ⟨(some 18), none, .mov (.t 1)⟩,
       ⟨(some 19), none, .callGV (.t 16) [(.t 17), (.t 18)]⟩,
       ⟨(some 4), none, .mov (.t 19)⟩]))
    .ret)))
def huber_Slope.res : List RX := [(4, none)]
theorem huber_Slope.m : mK pg Try.f20.ntmps huber_Slope.k (Try.f20.body.getD .skip) = true := by kernel_rfl
theorem huber_Slope.mr : mRes pg Try.f20.results.toList huber_Slope.res = true := by kernel_rfl
theorem huber_Slope.of {args : List V} {r : V} (hn : args.length = 2) (hW : W pg huber_Slope.k (done huber_Slope.res r) (start args)) : Ret pg n_huber_Slope args r :=
  Ret_of (fn := Try.f20) Try.func20 rfl (by kernel_rfl) huber_Slope.m huber_Slope.mr (by rw [hn]; exact of_decide_eq_true (by kernel_rfl)) hW
theorem huber_Slope.ofG {args : List V} {H : Hp} {n : Nat} {Q : V → Hp → Nat → Prop} (hn : args.length = 2) (hW : W pg huber_Slope.k (doneG huber_Slope.res (fun r H' n' => n ≤ n' ∧ Q r H' n')) (startG args H n)) : ∃ r H' n', Q r H' n' ∧ RetG pg n_huber_Slope args H n r H' n' :=
  RetG_of (fn := Try.f20) Try.func20 rfl (by kernel_rfl) huber_Slope.m huber_Slope.mr (by rw [hn]; exact of_decide_eq_true (by kernel_rfl)) hW

/-- gimbal/huber.cut -/
def huber_cut.k : K :=
  (.seq (.keep [0, 1] (.ops false [⟨(some 4), none, .mov (.c (.int .i64 0))⟩,
     ⟨(some 5), none, .mov (.c (.int .i64 0))⟩,
     ⟨(some 6), none, .mov (.c (.int .i64 0))⟩]))
  (.seq (.keep [1, 4] (.ops false [⟨(some 7), none, .mov (.t 0)⟩,
      ⟨(some 8), none, .mm false (.t 7) [(.c (.int .i64 2147483647))]⟩,
      ⟨(some 9), none, .mm true (.c (.int .i64 (-2147483647))) [(.t 8)]⟩,
      ⟨(some 4), none, .mov (.t 9)⟩]))
   (.seq (.keep [4, 5, 6] (.ops false [⟨(some 10), none, .mov (.t 4)⟩,
       ⟨(some 11), none, .mov (.t 4)⟩,
       ⟨(some 12), none, .mov (.t 4)⟩,
       ⟨(some 13), none, .un .neg (.t 12)⟩,
       ⟨(some 14), none, .mm true (.t 11) [(.t 13)]⟩,
       ⟨(some 15), none, .mov (.t 1)⟩,
       ⟨(some 16), none, .mm false (.t 15) [(.c (.int .i64 2147483647))]⟩,
       ⟨(some 17), none, .mm true (.c (.int .i64 0)) [(.t 16)]⟩,
       ⟨(some 4), none, .mov (.t 10)⟩,
       ⟨(some 5), none, .mov (.t 14)⟩,
       ⟨(some 6), none, .mov (.t 17)⟩]))
    .ret)))
def huber_cut.res : List RX := [(4, none), (5, none), (6, none)]
theorem huber_cut.m : mK pg Try.f44.ntmps huber_cut.k (Try.f44.body.getD .skip) = true := by kernel_rfl
theorem huber_cut.mr : mRes pg Try.f44.results.toList huber_cut.res = true := by kernel_rfl
theorem huber_cut.of {args : List V} {r : V} (hn : args.length = 2) (hW : W pg huber_cut.k (done huber_cut.res r) (start args)) : Ret pg n_huber_cut args r :=
  Ret_of (fn := Try.f44) Try.func44 rfl (by kernel_rfl) huber_cut.m huber_cut.mr (by rw [hn]; exact of_decide_eq_true (by kernel_rfl)) hW
theorem huber_cut.ofG {args : List V} {H : Hp} {n : Nat} {Q : V → Hp → Nat → Prop} (hn : args.length = 2) (hW : W pg huber_cut.k (doneG huber_cut.res (fun r H' n' => n ≤ n' ∧ Q r H' n')) (startG args H n)) : ∃ r H' n', Q r H' n' ∧ RetG pg n_huber_cut args H n r H' n' :=
  RetG_of (fn := Try.f44) Try.func44 rfl (by kernel_rfl) huber_cut.m huber_cut.mr (by rw [hn]; exact of_decide_eq_true (by kernel_rfl)) hW

/-- gimbal/huber.of -/
def huber_of.k : K :=
  (.seq (.keep [0, 1, 4] (.ops false [⟨(some 4), none, .alloc 2 (.agg [.nilfn, .nilfn])⟩]))
  (.seq (.seq (.keep [4, 7] (.ops false [⟨(some 5), none, .mov (.t 0)⟩,
       ⟨(some 6), none, .mov (.t 1)⟩,
       ⟨(some 7), none, .bin .leq (.t 5) (.t 6)⟩]))
    (.cond (.t 7) (.seq (.keep [4] (.ops false [⟨(some 8), none, .build [.nilfn, .nilfn] [(0, 1, (.c (.fn n_huber_of_1 []))), (1, 1, (.c (.fn n_huber_of_2 [])))]⟩,
         ⟨none, none, .store 2 (.t 4) (.t 8)⟩]))
      .ret)
     .skip))
   (.seq (.keep [4] (.ops false [⟨(some 9), none, .build [.nilfn, .nilfn] [(0, 1, (.c (.fn n_huber_of_3 []))), (1, 1, (.c (.fn n_huber_of_4 [])))]⟩,
       ⟨none, none, .store 2 (.t 4) (.t 9)⟩]))
    .ret)))
def huber_of.res : List RX := [(4, some (2, true))]
theorem huber_of.m : mK pg Try.f45.ntmps huber_of.k (Try.f45.body.getD .skip) = true := by kernel_rfl
theorem huber_of.mr : mRes pg Try.f45.results.toList huber_of.res = true := by kernel_rfl
theorem huber_of.of {args : List V} {r : V} (hn : args.length = 2) (hW : W pg huber_of.k (done huber_of.res r) (start args)) : Ret pg n_huber_of args r :=
  Ret_of (fn := Try.f45) Try.func45 rfl (by kernel_rfl) huber_of.m huber_of.mr (by rw [hn]; exact of_decide_eq_true (by kernel_rfl)) hW
theorem huber_of.ofG {args : List V} {H : Hp} {n : Nat} {Q : V → Hp → Nat → Prop} (hn : args.length = 2) (hW : W pg huber_of.k (doneG huber_of.res (fun r H' n' => n ≤ n' ∧ Q r H' n')) (startG args H n)) : ∃ r H' n', Q r H' n' ∧ RetG pg n_huber_of args H n r H' n' :=
  RetG_of (fn := Try.f45) Try.func45 rfl (by kernel_rfl) huber_of.m huber_of.mr (by rw [hn]; exact of_decide_eq_true (by kernel_rfl)) hW

/-- gimbal/huber.of$1 -/
def huber_of_1.k : K :=
  (.seq (.keep [0] (.ops false [⟨(some 4), none, .mov (.c (.int .i64 0))⟩]))
  (.seq (.keep [4] (.ops false [⟨(some 5), none, .mov (.t 0)⟩,
      ⟨(some 6), none, .mov (.t 0)⟩,
      ⟨(some 7), none, .bin .mul (.t 5) (.t 6)⟩,
      ⟨(some 4), none, .mov (.t 7)⟩]))
   .ret))
def huber_of_1.res : List RX := [(4, none)]
theorem huber_of_1.m : mK pg Try.f71.ntmps huber_of_1.k (Try.f71.body.getD .skip) = true := by kernel_rfl
theorem huber_of_1.mr : mRes pg Try.f71.results.toList huber_of_1.res = true := by kernel_rfl
theorem huber_of_1.of {args : List V} {r : V} (hn : args.length = 2) (hW : W pg huber_of_1.k (done huber_of_1.res r) (start args)) : Ret pg n_huber_of_1 args r :=
  Ret_of (fn := Try.f71) Try.func71 rfl (by kernel_rfl) huber_of_1.m huber_of_1.mr (by rw [hn]; exact of_decide_eq_true (by kernel_rfl)) hW
theorem huber_of_1.ofG {args : List V} {H : Hp} {n : Nat} {Q : V → Hp → Nat → Prop} (hn : args.length = 2) (hW : W pg huber_of_1.k (doneG huber_of_1.res (fun r H' n' => n ≤ n' ∧ Q r H' n')) (startG args H n)) : ∃ r H' n', Q r H' n' ∧ RetG pg n_huber_of_1 args H n r H' n' :=
  RetG_of (fn := Try.f71) Try.func71 rfl (by kernel_rfl) huber_of_1.m huber_of_1.mr (by rw [hn]; exact of_decide_eq_true (by kernel_rfl)) hW

/-- gimbal/huber.of$2 -/
def huber_of_2.k : K :=
  (.seq (.keep [0] (.ops false [⟨(some 4), none, .mov (.c (.int .i64 0))⟩]))
  (.seq (.keep [4] (.ops false [⟨(some 5), none, .mov (.t 0)⟩,
      ⟨(some 4), none, .mov (.t 5)⟩]))
   .ret))
def huber_of_2.res : List RX := [(4, none)]
theorem huber_of_2.m : mK pg Try.f72.ntmps huber_of_2.k (Try.f72.body.getD .skip) = true := by kernel_rfl
theorem huber_of_2.mr : mRes pg Try.f72.results.toList huber_of_2.res = true := by kernel_rfl
theorem huber_of_2.of {args : List V} {r : V} (hn : args.length = 2) (hW : W pg huber_of_2.k (done huber_of_2.res r) (start args)) : Ret pg n_huber_of_2 args r :=
  Ret_of (fn := Try.f72) Try.func72 rfl (by kernel_rfl) huber_of_2.m huber_of_2.mr (by rw [hn]; exact of_decide_eq_true (by kernel_rfl)) hW
theorem huber_of_2.ofG {args : List V} {H : Hp} {n : Nat} {Q : V → Hp → Nat → Prop} (hn : args.length = 2) (hW : W pg huber_of_2.k (doneG huber_of_2.res (fun r H' n' => n ≤ n' ∧ Q r H' n')) (startG args H n)) : ∃ r H' n', Q r H' n' ∧ RetG pg n_huber_of_2 args H n r H' n' :=
  RetG_of (fn := Try.f72) Try.func72 rfl (by kernel_rfl) huber_of_2.m huber_of_2.mr (by rw [hn]; exact of_decide_eq_true (by kernel_rfl)) hW

/-- gimbal/huber.of$3 -/
def huber_of_3.k : K :=
  (.seq (.keep [0, 1] (.ops false [⟨(some 4), none, .mov (.c (.int .i64 0))⟩]))
  (.seq (.keep [4] (.ops false [⟨(some 5), none, .mov (.t 1)⟩,
      ⟨(some 6), none, .bin .mul (.c (.int .i64 2)) (.t 5)⟩,
      ⟨(some 7), none, .mov (.t 0)⟩,
      ⟨(some 8), none, .mov (.t 0)⟩,
      ⟨(some 9), none, .un .neg (.t 8)⟩,
      ⟨(some 10), none, .mm true (.t 7) [(.t 9)]⟩,
      ⟨(some 11), none, .bin .mul (.t 6) (.t 10)⟩,
      ⟨(some 12), none, .mov (.t 1)⟩,
      ⟨(some 13), none, .mov (.t 1)⟩,
      ⟨(some 14), none, .bin .mul (.t 12) (.t 13)⟩,
      ⟨(some 15), none, .bin .sub (.t 11) (.t 14)⟩,
      ⟨(some 4), none, .mov (.t 15)⟩]))
   .ret))
def huber_of_3.res : List RX := [(4, none)]
theorem huber_of_3.m : mK pg Try.f73.ntmps huber_of_3.k (Try.f73.body.getD .skip) = true := by kernel_rfl
theorem huber_of_3.mr : mRes pg Try.f73.results.toList huber_of_3.res = true := by kernel_rfl
theorem huber_of_3.of {args : List V} {r : V} (hn : args.length = 2) (hW : W pg huber_of_3.k (done huber_of_3.res r) (start args)) : Ret pg n_huber_of_3 args r :=
  Ret_of (fn := Try.f73) Try.func73 rfl (by kernel_rfl) huber_of_3.m huber_of_3.mr (by rw [hn]; exact of_decide_eq_true (by kernel_rfl)) hW
theorem huber_of_3.ofG {args : List V} {H : Hp} {n : Nat} {Q : V → Hp → Nat → Prop} (hn : args.length = 2) (hW : W pg huber_of_3.k (doneG huber_of_3.res (fun r H' n' => n ≤ n' ∧ Q r H' n')) (startG args H n)) : ∃ r H' n', Q r H' n' ∧ RetG pg n_huber_of_3 args H n r H' n' :=
  RetG_of (fn := Try.f73) Try.func73 rfl (by kernel_rfl) huber_of_3.m huber_of_3.mr (by rw [hn]; exact of_decide_eq_true (by kernel_rfl)) hW

/-- gimbal/huber.of$4 -/
def huber_of_4.k : K :=
  (.seq (.keep [0, 1] (.ops false [⟨(some 4), none, .mov (.c (.int .i64 0))⟩]))
  (.seq (.keep [4] (.ops false [⟨(some 5), none, .mov (.t 1)⟩,
      ⟨(some 6), none, .un .neg (.t 5)⟩,
      ⟨(some 7), none, .mov (.t 0)⟩,
      ⟨(some 8), none, .mov (.t 1)⟩,
      ⟨(some 9), none, .mm false (.t 7) [(.t 8)]⟩,
      ⟨(some 10), none, .mm true (.t 6) [(.t 9)]⟩,
      ⟨(some 4), none, .mov (.t 10)⟩]))
   .ret))
def huber_of_4.res : List RX := [(4, none)]
theorem huber_of_4.m : mK pg Try.f74.ntmps huber_of_4.k (Try.f74.body.getD .skip) = true := by kernel_rfl
theorem huber_of_4.mr : mRes pg Try.f74.results.toList huber_of_4.res = true := by kernel_rfl
theorem huber_of_4.of {args : List V} {r : V} (hn : args.length = 2) (hW : W pg huber_of_4.k (done huber_of_4.res r) (start args)) : Ret pg n_huber_of_4 args r :=
  Ret_of (fn := Try.f74) Try.func74 rfl (by kernel_rfl) huber_of_4.m huber_of_4.mr (by rw [hn]; exact of_decide_eq_true (by kernel_rfl)) hW
theorem huber_of_4.ofG {args : List V} {H : Hp} {n : Nat} {Q : V → Hp → Nat → Prop} (hn : args.length = 2) (hW : W pg huber_of_4.k (doneG huber_of_4.res (fun r H' n' => n ≤ n' ∧ Q r H' n')) (startG args H n)) : ∃ r H' n', Q r H' n' ∧ RetG pg n_huber_of_4 args H n r H' n' :=
  RetG_of (fn := Try.f74) Try.func74 rfl (by kernel_rfl) huber_of_4.m huber_of_4.mr (by rw [hn]; exact of_decide_eq_true (by kernel_rfl)) hW

/-- gimbal/gimbalref09.Bound -/
def gimbalref09_Bound.k : K :=
  (.seq (.keep [0, 1, 2] (.ops false [⟨(some 6), none, .mov (.c (.int .i64 0))⟩,
     ⟨(some 7), none, .mov (.c (.int .i64 0))⟩,
     ⟨(some 8), none, .mov (.c (.int .i64 0))⟩]))
  (.seq (.seq (.keep [0, 1, 2, 33] (.ops false [⟨(some 12), none, .mov (.t 0)⟩,
       ⟨(some 13), none, .bin .lss (.t 12) (.c (.int .i64 (-32768)))⟩,
       ⟨(some 14), none, .mov (.t 13)⟩,
       ⟨(some 15), (some (14, false)), .mov (.t 0)⟩,
       ⟨(some 16), (some (14, false)), .bin .gtr (.t 15) (.c (.int .i64 32768))⟩,
       ⟨(some 17), none, .pick (.t 14) (.c (.bool true)) (.t 16)⟩,
       ⟨(some 18), none, .mov (.t 17)⟩,
       ⟨(some 19), (some (18, false)), .mov (.t 1)⟩,
       ⟨(some 20), (some (18, false)), .bin .lss (.t 19) (.c (.int .i64 (-32768)))⟩,
       ⟨(some 21), none, .pick (.t 18) (.c (.bool true)) (.t 20)⟩,
       ⟨(some 22), none, .mov (.t 21)⟩,
       ⟨(some 23), (some (22, false)), .mov (.t 1)⟩,
       ⟨(some 24), (some (22, false)), .bin .gtr (.t 23) (.c (.int .i64 32768))⟩,
       ⟨(some 25), none, .pick (.t 22) (.c (.bool true)) (.t 24)⟩,
       ⟨(some 26), none, .mov (.t 25)⟩,
       ⟨(some 27), (some (26, false)), .mov (.t 2)⟩,
       ⟨(some 28), (some (26, false)), .bin .lss (.t 27) (.c (.int .i64 0))⟩,
       ⟨(some 29), none, .pick (.t 26) (.c (.bool true)) (.t 28)⟩,
       ⟨(some 30), none, .mov (.t 29)⟩,
       ⟨(some 31), (some (30, false)), .mov (.t 2)⟩,
       ⟨(some 32), (some (30, false)), .bin .gtr (.t 31) (.c (.int .i64 32768))⟩,
       ⟨(some 33), none, .pick (.t 30) (.c (.bool true)) (.t 32)⟩]))
    (.cond (.t 33) (.seq (.keep [6, 7, 8] (.ops false [⟨(some 6), none, .mov (.c (.int .i64 0))⟩,
         ⟨(some 7), none, .mov (.c (.int .i64 0))⟩,
         ⟨(some 8), none, .mov (.c (.int .i64 90))⟩]))
      .ret)
     .skip))
   (.seq (.keep [0, 1, 2, 9, 10] (.ops false [⟨(some 35), none, .mov (.t 1)⟩,
       ⟨(some 36), none, .mov (.t 2)⟩,
       ⟨(some 37), none, .callG n_gimbalref09_Weight [(.t 35), (.t 36)]⟩,
       ⟨(some 34), none, .mov (.t 37)⟩,
       ⟨(some 38), none, .ext (.t 34) 0⟩,
       ⟨(some 39), none, .ext (.t 34) 1⟩,
       ⟨(some 9), none, .mov (.t 38)⟩,
       ⟨(some 10), none, .mov (.t 39)⟩]))
    (.seq (.seq (.keep [0, 1, 2, 9, 10, 56] (.ops false [⟨(some 40), none, .mov (.t 10)⟩,
         ⟨(some 41), none, .bin .eql (.t 40) (.c (.int .i64 1))⟩,
         ⟨(some 42), none, .mov (.t 41)⟩,
         ⟨(some 43), (some (42, true)), .mov (.t 9)⟩,
         ⟨(some 44), (some (42, true)), .bin .eql (.t 43) (.c (.int .i64 1))⟩,
         ⟨(some 45), none, .pick (.t 42) (.t 44) (.c (.bool false))⟩,
         ⟨(some 46), none, .mov (.t 45)⟩,
         ⟨(some 47), (some (46, true)), .mov (.t 1)⟩,
         ⟨(some 48), (some (46, true)), .mov (.t 2)⟩,
         ⟨(some 49), (some (46, true)), .bin .leq (.t 47) (.t 48)⟩,
         ⟨(some 50), none, .pick (.t 46) (.t 49) (.c (.bool false))⟩,
         ⟨(some 51), none, .mov (.t 50)⟩,
         ⟨(some 52), (some (51, true)), .mov (.t 1)⟩,
         ⟨(some 53), (some (51, true)), .un .neg (.t 52)⟩,
         ⟨(some 54), (some (51, true)), .mov (.t 2)⟩,
         ⟨(some 55), (some (51, true)), .bin .leq (.t 53) (.t 54)⟩,
         ⟨(some 56), none, .pick (.t 51) (.t 55) (.c (.bool false))⟩]))
      (.cond (.t 56) (.seq (.keep [6, 7, 8] (.ops false [⟨(some 57), none, .mov (.t 0)⟩,
           ⟨(some 58), none, .mov (.t 0)⟩,
           ⟨(some 59), none, .bin .mul (.t 57) (.t 58)⟩,
           ⟨(some 6), none, .mov (.t 59)⟩,
           ⟨(some 7), none, .mov (.c (.int .i64 1))⟩,
           ⟨(some 8), none, .mov (.c (.int .i64 0))⟩]))
        .ret)
       .skip))
     (.seq (.keep [0, 2, 9, 10, 11] (.ops false [⟨(some 60), none, .mov (.t 1)⟩,
         ⟨(some 11), none, .mov (.t 60)⟩]))
      (.seq (.seq (.keep [0, 2, 9, 10, 11, 62] (.ops false [⟨(some 61), none, .mov (.t 11)⟩,
           ⟨(some 62), none, .bin .lss (.t 61) (.c (.int .i64 0))⟩]))
        (.cond (.t 62) (.keep [0, 2, 9, 10, 11] (.ops false [⟨(some 63), none, .mov (.t 11)⟩,
            ⟨(some 64), none, .un .neg (.t 63)⟩,
            ⟨(some 11), none, .mov (.t 64)⟩]))
         .skip))
       (.seq (.keep [6, 7, 8] (.ops false [⟨(some 65), none, .mov (.t 9)⟩,
           ⟨(some 66), none, .mov (.t 0)⟩,
           ⟨(some 67), none, .bin .mul (.t 65) (.t 66)⟩,
           ⟨(some 68), none, .mov (.t 0)⟩,
           ⟨(some 69), none, .bin .mul (.t 67) (.t 68)⟩,
           ⟨(some 70), none, .mov (.t 11)⟩,
           ⟨(some 71), none, .mov (.t 2)⟩,
           ⟨(some 72), none, .mov (.t 11)⟩,
           ⟨(some 73), none, .bin .mul (.t 71) (.t 72)⟩,
           ⟨(some 74), none, .mov (.t 2)⟩,
           ⟨(some 75), none, .mov (.t 2)⟩,
           ⟨(some 76), none, .bin .mul (.t 74) (.t 75)⟩,
           ⟨(some 77), none, .bin .sub (.t 73) (.t 76)⟩,
           ⟨(some 78), none, .bin .mul (.t 70) (.t 77)⟩,
           ⟨(some 79), none, .bin .add (.t 69) (.t 78)⟩,
           ⟨(some 80), none, .mov (.t 10)⟩,
           ⟨(some 6), none, .mov (.t 79)⟩,
           ⟨(some 7), none, .mov (.t 80)⟩,
           ⟨(some 8), none, .mov (.c (.int .i64 0))⟩]))
        .ret)))))))
def gimbalref09_Bound.res : List RX := [(6, none), (7, none), (8, none)]
theorem gimbalref09_Bound.m : mK pg Try.f17.ntmps gimbalref09_Bound.k (Try.f17.body.getD .skip) = true := by kernel_rfl
theorem gimbalref09_Bound.mr : mRes pg Try.f17.results.toList gimbalref09_Bound.res = true := by kernel_rfl
theorem gimbalref09_Bound.of {args : List V} {r : V} (hn : args.length = 3) (hW : W pg gimbalref09_Bound.k (done gimbalref09_Bound.res r) (start args)) : Ret pg n_gimbalref09_Bound args r :=
  Ret_of (fn := Try.f17) Try.func17 rfl (by kernel_rfl) gimbalref09_Bound.m gimbalref09_Bound.mr (by rw [hn]; exact of_decide_eq_true (by kernel_rfl)) hW
theorem gimbalref09_Bound.ofG {args : List V} {H : Hp} {n : Nat} {Q : V → Hp → Nat → Prop} (hn : args.length = 3) (hW : W pg gimbalref09_Bound.k (doneG gimbalref09_Bound.res (fun r H' n' => n ≤ n' ∧ Q r H' n')) (startG args H n)) : ∃ r H' n', Q r H' n' ∧ RetG pg n_gimbalref09_Bound args H n r H' n' :=
  RetG_of (fn := Try.f17) Try.func17 rfl (by kernel_rfl) gimbalref09_Bound.m gimbalref09_Bound.mr (by rw [hn]; exact of_decide_eq_true (by kernel_rfl)) hW

/-- gimbal/gimbalref09.Weight -/
def gimbalref09_Weight.k : K :=
  (.seq (.keep [0, 1] (.ops false [⟨(some 4), none, .mov (.c (.int .i64 0))⟩,
     ⟨(some 5), none, .mov (.c (.int .i64 0))⟩]))
  (.seq (.keep [6, 8] (.ops false [⟨(some 10), none, .mov (.t 0)⟩,
      ⟨(some 11), none, .mov (.t 1)⟩,
      ⟨(some 12), none, .callG n_gimbalref09_cut [(.t 10), (.t 11)]⟩,
      ⟨(some 9), none, .mov (.t 12)⟩,
      ⟨(some 13), none, .ext (.t 9) 0⟩,
      ⟨(some 14), none, .ext (.t 9) 1⟩,
      ⟨(some 15), none, .ext (.t 9) 2⟩,
      ⟨(some 6), none, .mov (.t 13)⟩,
      ⟨(some 7), none, .mov (.t 14)⟩,
      ⟨(some 8), none, .mov (.t 15)⟩]))
   (.seq (.seq (.keep [6, 8, 18] (.ops false [⟨(some 16), none, .mov (.t 6)⟩,
        ⟨(some 17), none, .mov (.t 8)⟩,
        ⟨(some 18), none, .bin .leq (.t 16) (.t 17)⟩]))
     (.cond (.t 18) (.seq (.keep [4, 5] (.ops false [⟨(some 4), none, .mov (.c (.int .i64 1))⟩,
          ⟨(some 5), none, .mov (.c (.int .i64 1))⟩]))
       .ret)
      .skip))
    (.seq (.keep [4, 5] (.ops false [⟨(some 19), none, .mov (.t 8)⟩,
        ⟨(some 20), none, .mov (.t 6)⟩,
        ⟨(some 4), none, .mov (.t 19)⟩,
        ⟨(some 5), none, .mov (.t 20)⟩]))
     .ret))))
def gimbalref09_Weight.res : List RX := [(4, none), (5, none)]
theorem gimbalref09_Weight.m : mK pg Try.f23.ntmps gimbalref09_Weight.k (Try.f23.body.getD .skip) = true := by kernel_rfl
theorem gimbalref09_Weight.mr : mRes pg Try.f23.results.toList gimbalref09_Weight.res = true := by kernel_rfl
theorem gimbalref09_Weight.of {args : List V} {r : V} (hn : args.length = 2) (hW : W pg gimbalref09_Weight.k (done gimbalref09_Weight.res r) (start args)) : Ret pg n_gimbalref09_Weight args r :=
  Ret_of (fn := Try.f23) Try.func23 rfl (by kernel_rfl) gimbalref09_Weight.m gimbalref09_Weight.mr (by rw [hn]; exact of_decide_eq_true (by kernel_rfl)) hW
theorem gimbalref09_Weight.ofG {args : List V} {H : Hp} {n : Nat} {Q : V → Hp → Nat → Prop} (hn : args.length = 2) (hW : W pg gimbalref09_Weight.k (doneG gimbalref09_Weight.res (fun r H' n' => n ≤ n' ∧ Q r H' n')) (startG args H n)) : ∃ r H' n', Q r H' n' ∧ RetG pg n_gimbalref09_Weight args H n r H' n' :=
  RetG_of (fn := Try.f23) Try.func23 rfl (by kernel_rfl) gimbalref09_Weight.m gimbalref09_Weight.mr (by rw [hn]; exact of_decide_eq_true (by kernel_rfl)) hW

/-- gimbal/gimbalref09.Rho -/
def gimbalref09_Rho.k : K :=
  (.seq (.keep [0, 1] (.ops false [⟨(some 4), none, .mov (.c (.str ⟨#[]⟩))⟩]))
  (.seq (.keep [5, 7] (.ops false [⟨(some 11), none, .mov (.t 0)⟩,
      ⟨(some 12), none, .mov (.t 1)⟩,
      ⟨(some 13), none, .callG n_gimbalref09_cut [(.t 11), (.t 12)]⟩,
      ⟨(some 10), none, .mov (.t 13)⟩,
      ⟨(some 14), none, .ext (.t 10) 0⟩,
      ⟨(some 15), none, .ext (.t 10) 1⟩,
      ⟨(some 16), none, .ext (.t 10) 2⟩,
      ⟨(some 5), none, .mov (.t 14)⟩,
      ⟨(some 6), none, .mov (.t 15)⟩,
      ⟨(some 7), none, .mov (.t 16)⟩]))
   (.seq (.keep [5, 7, 8] (.ops false [⟨(some 17), none, .mov (.t 5)⟩,
       ⟨(some 18), none, .callG n_gimbalref01_Of [(.t 17)]⟩,
       ⟨(some 8), none, .alloc 2 (.agg [(.bool false), .nil])⟩,
       ⟨none, none, .store 2 (.t 8) (.t 18)⟩]))
    (.seq (.seq (.keep [7, 8, 21] (.ops false [⟨(some 19), none, .mov (.t 5)⟩,
         ⟨(some 20), none, .mov (.t 7)⟩,
         ⟨(some 21), none, .bin .leq (.t 19) (.t 20)⟩]))
      (.cond (.t 21) (.seq (.keep [4] (.ops false [⟨(some 22), none, .load 2 true (.t 8)⟩,
           ⟨(some 23), none, .load 2 true (.t 8)⟩,
           ⟨(some 24), none, .callG n_gimbalref01_Int_Mul [(.t 22), (.t 23)]⟩,
           ⟨(some 25), none, .callG n_gimbalref01_Int_String [(.t 24)]⟩,
           ⟨(some 4), none, .mov (.t 25)⟩]))
        .ret)
       .skip))
     (.seq (.keep [8, 9] (.ops false [⟨(some 26), none, .mov (.t 7)⟩,
         ⟨(some 27), none, .callG n_gimbalref01_Of [(.t 26)]⟩,
         ⟨(some 9), none, .alloc 2 (.agg [(.bool false), .nil])⟩,
         ⟨none, none, .store 2 (.t 9) (.t 27)⟩]))
      (.seq (.keep [4] (.ops true [⟨(some 28), none, .load 2 true (.t 9)⟩,
          ⟨(some 29), none, .load 2 true (.t 8)⟩,
          ⟨(some 30), none, .call n_gimbalref01_Int_Mul [(.t 28), (.t 29)]⟩,
          ⟨(some 31), none, .load 2 true (.t 9)⟩,
          ⟨(some 32), none, .load 2 true (.t 8)⟩,
          ⟨(some 33), none, .call n_gimbalref01_Int_Mul [(.t 31), (.t 32)]⟩,
          ⟨(some 34), none, .call n_gimbalref01_Int_Add [(.t 30), (.t 33)]⟩,
          ⟨(some 35), none, .load 2 true (.t 9)⟩,
          ⟨(some 36), none, .load 2 true (.t 9)⟩,
          ⟨(some 37), none, .call n_gimbalref01_Int_Mul [(.t 35), (.t 36)]⟩,
          ⟨(some 38), none, .call n_gimbalref01_Int_Sub [(.t 34), (.t 37)]⟩,
          ⟨(some 39), none, .call n_gimbalref01_Int_String [(.t 38)]⟩,
          ⟨(some 4), none, .mov (.t 39)⟩]))
       .ret))))))
def gimbalref09_Rho.res : List RX := [(4, none)]
theorem gimbalref09_Rho.m : mK pg Try.f24.ntmps gimbalref09_Rho.k (Try.f24.body.getD .skip) = true := by kernel_rfl
theorem gimbalref09_Rho.mr : mRes pg Try.f24.results.toList gimbalref09_Rho.res = true := by kernel_rfl
theorem gimbalref09_Rho.of {args : List V} {r : V} (hn : args.length = 2) (hW : W pg gimbalref09_Rho.k (done gimbalref09_Rho.res r) (start args)) : Ret pg n_gimbalref09_Rho args r :=
  Ret_of (fn := Try.f24) Try.func24 rfl (by kernel_rfl) gimbalref09_Rho.m gimbalref09_Rho.mr (by rw [hn]; exact of_decide_eq_true (by kernel_rfl)) hW
theorem gimbalref09_Rho.ofG {args : List V} {H : Hp} {n : Nat} {Q : V → Hp → Nat → Prop} (hn : args.length = 2) (hW : W pg gimbalref09_Rho.k (doneG gimbalref09_Rho.res (fun r H' n' => n ≤ n' ∧ Q r H' n')) (startG args H n)) : ∃ r H' n', Q r H' n' ∧ RetG pg n_gimbalref09_Rho args H n r H' n' :=
  RetG_of (fn := Try.f24) Try.func24 rfl (by kernel_rfl) gimbalref09_Rho.m gimbalref09_Rho.mr (by rw [hn]; exact of_decide_eq_true (by kernel_rfl)) hW

/-- gimbal/gimbalref09.Slope -/
def gimbalref09_Slope.k : K :=
  (.seq (.keep [0, 1] (.ops false [⟨(some 4), none, .mov (.c (.int .i64 0))⟩]))
  (.seq (.keep [5, 6, 7] (.ops false [⟨(some 9), none, .mov (.t 0)⟩,
      ⟨(some 10), none, .mov (.t 1)⟩,
      ⟨(some 11), none, .callG n_gimbalref09_cut [(.t 9), (.t 10)]⟩,
      ⟨(some 8), none, .mov (.t 11)⟩,
      ⟨(some 12), none, .ext (.t 8) 0⟩,
      ⟨(some 13), none, .ext (.t 8) 1⟩,
      ⟨(some 14), none, .ext (.t 8) 2⟩,
      ⟨(some 5), none, .mov (.t 12)⟩,
      ⟨(some 6), none, .mov (.t 13)⟩,
      ⟨(some 7), none, .mov (.t 14)⟩]))
   (.seq (.seq (.keep [5, 6, 7, 17] (.ops false [⟨(some 15), none, .mov (.t 5)⟩,
        ⟨(some 16), none, .mov (.t 7)⟩,
        ⟨(some 17), none, .bin .gtr (.t 15) (.t 16)⟩]))
     (.cond (.t 17) (.keep [5, 6] (.ops false [⟨(some 18), none, .mov (.t 7)⟩,
         ⟨(some 5), none, .mov (.t 18)⟩]))
      .skip))
    (.seq (.seq (.keep [5, 19] (.ops false [⟨(some 19), none, .mov (.t 6)⟩]))
      (.cond (.t 19) (.seq (.keep [4] (.ops false [⟨(some 20), none, .mov (.t 5)⟩,
           ⟨(some 21), none, .un .neg (.t 20)⟩,
           ⟨(some 4), none, .mov (.t 21)⟩]))
        .ret)
       .skip))
     (.seq (.keep [4] (.ops false [⟨(some 22), none, .mov (.t 5)⟩,
         ⟨(some 4), none, .mov (.t 22)⟩]))
      .ret)))))
def gimbalref09_Slope.res : List RX := [(4, none)]
theorem gimbalref09_Slope.m : mK pg Try.f25.ntmps gimbalref09_Slope.k (Try.f25.body.getD .skip) = true := by kernel_rfl
theorem gimbalref09_Slope.mr : mRes pg Try.f25.results.toList gimbalref09_Slope.res = true := by kernel_rfl
theorem gimbalref09_Slope.of {args : List V} {r : V} (hn : args.length = 2) (hW : W pg gimbalref09_Slope.k (done gimbalref09_Slope.res r) (start args)) : Ret pg n_gimbalref09_Slope args r :=
  Ret_of (fn := Try.f25) Try.func25 rfl (by kernel_rfl) gimbalref09_Slope.m gimbalref09_Slope.mr (by rw [hn]; exact of_decide_eq_true (by kernel_rfl)) hW
theorem gimbalref09_Slope.ofG {args : List V} {H : Hp} {n : Nat} {Q : V → Hp → Nat → Prop} (hn : args.length = 2) (hW : W pg gimbalref09_Slope.k (doneG gimbalref09_Slope.res (fun r H' n' => n ≤ n' ∧ Q r H' n')) (startG args H n)) : ∃ r H' n', Q r H' n' ∧ RetG pg n_gimbalref09_Slope args H n r H' n' :=
  RetG_of (fn := Try.f25) Try.func25 rfl (by kernel_rfl) gimbalref09_Slope.m gimbalref09_Slope.mr (by rw [hn]; exact of_decide_eq_true (by kernel_rfl)) hW

/-- gimbal/gimbalref09.cut -/
def gimbalref09_cut.k : K :=
  (.seq (.keep [0, 1] (.ops false [⟨(some 4), none, .mov (.c (.int .i64 0))⟩,
     ⟨(some 5), none, .mov (.c (.bool false))⟩,
     ⟨(some 6), none, .mov (.c (.int .i64 0))⟩]))
  (.seq (.seq (.keep [0, 1, 8] (.ops false [⟨(some 7), none, .mov (.t 0)⟩,
       ⟨(some 8), none, .bin .lss (.t 7) (.c (.int .i64 (-2147483647)))⟩]))
    (.cond (.t 8) (.keep [0, 1] (.ops false [⟨(some 0), none, .mov (.c (.int .i64 (-2147483647)))⟩]))
     .skip))
   (.seq (.seq (.keep [0, 1, 10] (.ops false [⟨(some 9), none, .mov (.t 0)⟩,
        ⟨(some 10), none, .bin .gtr (.t 9) (.c (.int .i64 2147483647))⟩]))
     (.cond (.t 10) (.keep [0, 1] (.ops false [⟨(some 0), none, .mov (.c (.int .i64 2147483647))⟩]))
      .skip))
    (.seq (.seq (.keep [0, 1, 12] (.ops false [⟨(some 11), none, .mov (.t 1)⟩,
         ⟨(some 12), none, .bin .lss (.t 11) (.c (.int .i64 0))⟩]))
      (.cond (.t 12) (.keep [0, 1] (.ops false [⟨(some 1), none, .mov (.c (.int .i64 0))⟩]))
       .skip))
     (.seq (.seq (.keep [0, 1, 14] (.ops false [⟨(some 13), none, .mov (.t 1)⟩,
          ⟨(some 14), none, .bin .gtr (.t 13) (.c (.int .i64 2147483647))⟩]))
       (.cond (.t 14) (.keep [0, 1] (.ops false [⟨(some 1), none, .mov (.c (.int .i64 2147483647))⟩]))
        .skip))
      (.seq (.seq (.keep [0, 1, 16] (.ops false [⟨(some 15), none, .mov (.t 0)⟩,
           ⟨(some 16), none, .bin .lss (.t 15) (.c (.int .i64 0))⟩]))
        (.cond (.t 16) (.seq (.keep [4, 5, 6] (.ops false [⟨(some 17), none, .mov (.t 0)⟩,
             ⟨(some 18), none, .un .neg (.t 17)⟩,
             ⟨(some 19), none, .mov (.t 1)⟩,
             ⟨(some 4), none, .mov (.t 18)⟩,
             ⟨(some 5), none, .mov (.c (.bool true))⟩,
             ⟨(some 6), none, .mov (.t 19)⟩]))
          .ret)
         .skip))
       (.seq (.keep [4, 5, 6] (.ops false [⟨(some 20), none, .mov (.t 0)⟩,
           ⟨(some 21), none, .mov (.t 1)⟩,
           ⟨(some 4), none, .mov (.t 20)⟩,
           ⟨(some 5), none, .mov (.c (.bool false))⟩,
           ⟨(some 6), none, .mov (.t 21)⟩]))
        .ret)))))))
def gimbalref09_cut.res : List RX := [(4, none), (5, none), (6, none)]
theorem gimbalref09_cut.m : mK pg Try.f49.ntmps gimbalref09_cut.k (Try.f49.body.getD .skip) = true := by kernel_rfl
theorem gimbalref09_cut.mr : mRes pg Try.f49.results.toList gimbalref09_cut.res = true := by kernel_rfl
theorem gimbalref09_cut.of {args : List V} {r : V} (hn : args.length = 2) (hW : W pg gimbalref09_cut.k (done gimbalref09_cut.res r) (start args)) : Ret pg n_gimbalref09_cut args r :=
  Ret_of (fn := Try.f49) Try.func49 rfl (by kernel_rfl) gimbalref09_cut.m gimbalref09_cut.mr (by rw [hn]; exact of_decide_eq_true (by kernel_rfl)) hW
theorem gimbalref09_cut.ofG {args : List V} {H : Hp} {n : Nat} {Q : V → Hp → Nat → Prop} (hn : args.length = 2) (hW : W pg gimbalref09_cut.k (doneG gimbalref09_cut.res (fun r H' n' => n ≤ n' ∧ Q r H' n')) (startG args H n)) : ∃ r H' n', Q r H' n' ∧ RetG pg n_gimbalref09_cut args H n r H' n' :=
  RetG_of (fn := Try.f49) Try.func49 rfl (by kernel_rfl) gimbalref09_cut.m gimbalref09_cut.mr (by rw [hn]; exact of_decide_eq_true (by kernel_rfl)) hW

/-- gimbal/gimballaw09.awake -/
def gimballaw09_awake.k : K :=
  (.seq (.keep [] (.ops false [⟨(some 0), none, .mov (.c (.bool false))⟩]))
  (.seq (.keep [1] (.ops false [⟨(some 11), none, .callG n_huber_Rho [(.c (.int .i64 3)), (.c (.int .i64 5))]⟩,
      ⟨(some 1), none, .mov (.t 11)⟩]))
   (.seq (.keep [1, 2] (.ops false [⟨(some 12), none, .callG n_huber_Rho [(.c (.int .i64 (-7))), (.c (.int .i64 5))]⟩,
       ⟨(some 2), none, .mov (.t 12)⟩]))
    (.seq (.keep [1, 2, 3] (.ops false [⟨(some 13), none, .callG n_huber_Rho [(.c (.int .i64 7)), (.c (.int .i64 0))]⟩,
        ⟨(some 3), none, .mov (.t 13)⟩]))
     (.seq (.keep [1, 2, 3, 4] (.ops false [⟨(some 14), none, .callG n_huber_Slope [(.c (.int .i64 3)), (.c (.int .i64 5))]⟩,
         ⟨(some 4), none, .mov (.t 14)⟩]))
      (.seq (.keep [1, 2, 3, 4, 5] (.ops false [⟨(some 15), none, .callG n_huber_Slope [(.c (.int .i64 (-7))), (.c (.int .i64 5))]⟩,
          ⟨(some 5), none, .mov (.t 15)⟩]))
       (.seq (.keep [1, 2, 3, 4, 5, 6, 7] (.ops false [⟨(some 17), none, .callG n_huber_Weight [(.c (.int .i64 (-7))), (.c (.int .i64 5))]⟩,
           ⟨(some 16), none, .mov (.t 17)⟩,
           ⟨(some 18), none, .ext (.t 16) 0⟩,
           ⟨(some 19), none, .ext (.t 16) 1⟩,
           ⟨(some 6), none, .mov (.t 18)⟩,
           ⟨(some 7), none, .mov (.t 19)⟩]))
        (.seq (.keep [1, 2, 3, 4, 5, 6, 7, 8, 9, 10] (.ops false [⟨(some 21), none, .callG n_huber_Bound [(.c (.int .i64 2)), (.c (.int .i64 7)), (.c (.int .i64 5))]⟩,
            ⟨(some 20), none, .mov (.t 21)⟩,
            ⟨(some 22), none, .ext (.t 20) 0⟩,
            ⟨(some 23), none, .ext (.t 20) 1⟩,
            ⟨(some 24), none, .ext (.t 20) 2⟩,
            ⟨(some 8), none, .mov (.t 22)⟩,
            ⟨(some 9), none, .mov (.t 23)⟩,
            ⟨(some 10), none, .mov (.t 24)⟩]))
         (.seq (.keep [0] (.ops false [⟨(some 25), none, .mov (.t 1)⟩,
             ⟨(some 26), none, .bin .eql (.t 25) (.c (.int .i64 9))⟩,
             ⟨(some 27), none, .mov (.t 26)⟩,
             ⟨(some 28), (some (27, true)), .mov (.t 2)⟩,
             ⟨(some 29), (some (27, true)), .bin .eql (.t 28) (.c (.int .i64 45))⟩,
             ⟨(some 30), none, .pick (.t 27) (.t 29) (.c (.bool false))⟩,
             ⟨(some 31), none, .mov (.t 30)⟩,
             ⟨(some 32), (some (31, true)), .mov (.t 3)⟩,
             ⟨(some 33), (some (31, true)), .bin .eql (.t 32) (.c (.int .i64 0))⟩,
             ⟨(some 34), none, .pick (.t 31) (.t 33) (.c (.bool false))⟩,
             ⟨(some 35), none, .mov (.t 34)⟩,
             ⟨(some 36), (some (35, true)), .mov (.t 4)⟩,
             ⟨(some 37), (some (35, true)), .bin .eql (.t 36) (.c (.int .i64 3))⟩,
             ⟨(some 38), none, .pick (.t 35) (.t 37) (.c (.bool false))⟩,
             ⟨(some 39), none, .mov (.t 38)⟩,
             ⟨(some 40), (some (39, true)), .mov (.t 5)⟩,
             ⟨(some 41), (some (39, true)), .bin .eql (.t 40) (.c (.int .i64 (-5)))⟩,
             ⟨(some 42), none, .pick (.t 39) (.t 41) (.c (.bool false))⟩,
             ⟨(some 43), none, .mov (.t 42)⟩,
             ⟨(some 44), (some (43, true)), .mov (.t 6)⟩,
             ⟨(some 45), (some (43, true)), .bin .eql (.t 44) (.c (.int .i64 5))⟩,
             ⟨(some 46), none, .pick (.t 43) (.t 45) (.c (.bool false))⟩,
             ⟨(some 47), none, .mov (.t 46)⟩,
             ⟨(some 48), (some (47, true)), .mov (.t 7)⟩,
             ⟨(some 49), (some (47, true)), .bin .eql (.t 48) (.c (.int .i64 7))⟩,
             ⟨(some 50), none, .pick (.t 47) (.t 49) (.c (.bool false))⟩,
             ⟨(some 51), none, .mov (.t 50)⟩,
             ⟨(some 52), (some (51, true)), .mov (.t 8)⟩,
             ⟨(some 53), (some (51, true)), .bin .eql (.t 52) (.c (.int .i64 90))⟩,
             ⟨(some 54), none, .pick (.t 51) (.t 53) (.c (.bool false))⟩,
             ⟨(some 55), none, .mov (.t 54)⟩,
             ⟨(some 56), (some (55, true)), .mov (.t 9)⟩,
             ⟨(some 57), (some (55, true)), .bin .eql (.t 56) (.c (.int .i64 7))⟩,
             ⟨(some 58), none, .pick (.t 55) (.t 57) (.c (.bool false))⟩,
             ⟨(some 59), none, .mov (.t 58)⟩,
             ⟨(some 60), (some (59, true)), .mov (.t 10)⟩,
             ⟨(some 61), (some (59, true)), .bin .eql (.t 60) (.c (.int .i64 0))⟩,
             ⟨(some 62), none, .pick (.t 59) (.t 61) (.c (.bool false))⟩,
             ⟨(some 0), none, .mov (.t 62)⟩]))
          .ret)))))))))
def gimballaw09_awake.res : List RX := [(0, none)]
theorem gimballaw09_awake.m : mK pg Try.f15.ntmps gimballaw09_awake.k (Try.f15.body.getD .skip) = true := by kernel_rfl
theorem gimballaw09_awake.mr : mRes pg Try.f15.results.toList gimballaw09_awake.res = true := by kernel_rfl
theorem gimballaw09_awake.of {args : List V} {r : V} (hn : args.length = 0) (hW : W pg gimballaw09_awake.k (done gimballaw09_awake.res r) (start args)) : Ret pg n_gimballaw09_awake args r :=
  Ret_of (fn := Try.f15) Try.func15 rfl (by kernel_rfl) gimballaw09_awake.m gimballaw09_awake.mr (by rw [hn]; exact of_decide_eq_true (by kernel_rfl)) hW
theorem gimballaw09_awake.ofG {args : List V} {H : Hp} {n : Nat} {Q : V → Hp → Nat → Prop} (hn : args.length = 0) (hW : W pg gimballaw09_awake.k (doneG gimballaw09_awake.res (fun r H' n' => n ≤ n' ∧ Q r H' n')) (startG args H n)) : ∃ r H' n', Q r H' n' ∧ RetG pg n_gimballaw09_awake args H n r H' n' :=
  RetG_of (fn := Try.f15) Try.func15 rfl (by kernel_rfl) gimballaw09_awake.m gimballaw09_awake.mr (by rw [hn]; exact of_decide_eq_true (by kernel_rfl)) hW

/-- gimbal/gimballaw09.HuberBounds -/
def gimballaw09_HuberBounds.k : K :=
  (.seq (.keep [0, 1, 2] (.ops false [⟨(some 6), none, .mov (.c (.bool false))⟩]))
  (.seq (.keep [0, 1, 2, 7] (.ops false [⟨(some 14), none, .callG n_gimballaw09_awake []⟩,
      ⟨(some 7), none, .mov (.t 14)⟩]))
   (.seq (.keep [0, 1, 2, 7, 8, 9, 10] (.ops false [⟨(some 16), none, .mov (.t 0)⟩,
       ⟨(some 17), none, .mov (.t 1)⟩,
       ⟨(some 18), none, .mov (.t 2)⟩,
       ⟨(some 19), none, .callG n_huber_Bound [(.t 16), (.t 17), (.t 18)]⟩,
       ⟨(some 15), none, .mov (.t 19)⟩,
       ⟨(some 20), none, .ext (.t 15) 0⟩,
       ⟨(some 21), none, .ext (.t 15) 1⟩,
       ⟨(some 22), none, .ext (.t 15) 2⟩,
       ⟨(some 8), none, .mov (.t 20)⟩,
       ⟨(some 9), none, .mov (.t 21)⟩,
       ⟨(some 10), none, .mov (.t 22)⟩]))
    (.seq (.keep [7, 8, 9, 10, 11, 12, 13] (.ops false [⟨(some 24), none, .mov (.t 0)⟩,
        ⟨(some 25), none, .mov (.t 1)⟩,
        ⟨(some 26), none, .mov (.t 2)⟩,
        ⟨(some 27), none, .callG n_gimbalref09_Bound [(.t 24), (.t 25), (.t 26)]⟩,
        ⟨(some 23), none, .mov (.t 27)⟩,
        ⟨(some 28), none, .ext (.t 23) 0⟩,
        ⟨(some 29), none, .ext (.t 23) 1⟩,
        ⟨(some 30), none, .ext (.t 23) 2⟩,
        ⟨(some 11), none, .mov (.t 28)⟩,
        ⟨(some 12), none, .mov (.t 29)⟩,
        ⟨(some 13), none, .mov (.t 30)⟩]))
     (.seq (.keep [6] (.ops false [⟨(some 31), none, .mov (.t 7)⟩,
         ⟨(some 32), none, .mov (.t 31)⟩,
         ⟨(some 33), (some (32, true)), .mov (.t 8)⟩,
         ⟨(some 34), (some (32, true)), .mov (.t 11)⟩,
         ⟨(some 35), (some (32, true)), .bin .eql (.t 33) (.t 34)⟩,
         ⟨(some 36), none, .pick (.t 32) (.t 35) (.c (.bool false))⟩,
         ⟨(some 37), none, .mov (.t 36)⟩,
         ⟨(some 38), (some (37, true)), .mov (.t 9)⟩,
         ⟨(some 39), (some (37, true)), .mov (.t 12)⟩,
         ⟨(some 40), (some (37, true)), .bin .eql (.t 38) (.t 39)⟩,
         ⟨(some 41), none, .pick (.t 37) (.t 40) (.c (.bool false))⟩,
         ⟨(some 42), none, .mov (.t 41)⟩,
         ⟨(some 43), (some (42, true)), .mov (.t 10)⟩,
         ⟨(some 44), (some (42, true)), .mov (.t 13)⟩,
         ⟨(some 45), (some (42, true)), .bin .eql (.t 43) (.t 44)⟩,
         ⟨(some 46), none, .pick (.t 42) (.t 45) (.c (.bool false))⟩,
         ⟨(some 6), none, .mov (.t 46)⟩]))
      .ret)))))
def gimballaw09_HuberBounds.res : List RX := [(6, none)]
theorem gimballaw09_HuberBounds.m : mK pg Try.f3.ntmps gimballaw09_HuberBounds.k (Try.f3.body.getD .skip) = true := by kernel_rfl
theorem gimballaw09_HuberBounds.mr : mRes pg Try.f3.results.toList gimballaw09_HuberBounds.res = true := by kernel_rfl
theorem gimballaw09_HuberBounds.of {args : List V} {r : V} (hn : args.length = 3) (hW : W pg gimballaw09_HuberBounds.k (done gimballaw09_HuberBounds.res r) (start args)) : Ret pg n_gimballaw09_HuberBounds args r :=
  Ret_of (fn := Try.f3) Try.func3 rfl (by kernel_rfl) gimballaw09_HuberBounds.m gimballaw09_HuberBounds.mr (by rw [hn]; exact of_decide_eq_true (by kernel_rfl)) hW
theorem gimballaw09_HuberBounds.ofG {args : List V} {H : Hp} {n : Nat} {Q : V → Hp → Nat → Prop} (hn : args.length = 3) (hW : W pg gimballaw09_HuberBounds.k (doneG gimballaw09_HuberBounds.res (fun r H' n' => n ≤ n' ∧ Q r H' n')) (startG args H n)) : ∃ r H' n', Q r H' n' ∧ RetG pg n_gimballaw09_HuberBounds args H n r H' n' :=
  RetG_of (fn := Try.f3) Try.func3 rfl (by kernel_rfl) gimballaw09_HuberBounds.m gimballaw09_HuberBounds.mr (by rw [hn]; exact of_decide_eq_true (by kernel_rfl)) hW

/-- gimbal/gimballaw09.HuberAbove -/
def gimballaw09_HuberAbove.k : K :=
  (.seq (.keep [0, 1, 2] (.ops false [⟨(some 6), none, .mov (.c (.bool false))⟩]))
  (.seq (.keep [0, 1, 2, 7] (.ops false [⟨(some 19), none, .callG n_gimballaw09_awake []⟩,
      ⟨(some 7), none, .mov (.t 19)⟩]))
   (.seq (.keep [0, 1, 2, 7, 8, 9, 10] (.ops false [⟨(some 21), none, .mov (.t 0)⟩,
       ⟨(some 22), none, .mov (.t 1)⟩,
       ⟨(some 23), none, .mov (.t 2)⟩,
       ⟨(some 24), none, .callG n_huber_Bound [(.t 21), (.t 22), (.t 23)]⟩,
       ⟨(some 20), none, .mov (.t 24)⟩,
       ⟨(some 25), none, .ext (.t 20) 0⟩,
       ⟨(some 26), none, .ext (.t 20) 1⟩,
       ⟨(some 27), none, .ext (.t 20) 2⟩,
       ⟨(some 8), none, .mov (.t 25)⟩,
       ⟨(some 9), none, .mov (.t 26)⟩,
       ⟨(some 10), none, .mov (.t 27)⟩]))
    (.seq (.seq (.keep [0, 1, 2, 7, 8, 9, 29] (.ops false [⟨(some 28), none, .mov (.t 10)⟩,
         ⟨(some 29), none, .bin .neq (.t 28) (.c (.int .i64 0))⟩]))
      (.cond (.t 29) (.seq (.keep [6] (.ops false [⟨(some 30), none, .mov (.t 7)⟩,
           ⟨(some 6), none, .mov (.t 30)⟩]))
        .ret)
       .skip))
     (.seq (.keep [0, 1, 2, 7, 8, 9, 11, 12, 13] (.ops false [⟨(some 32), none, .mov (.t 1)⟩,
         ⟨(some 33), none, .mov (.t 1)⟩,
         ⟨(some 34), none, .mov (.t 2)⟩,
         ⟨(some 35), none, .callG n_huber_Bound [(.t 32), (.t 33), (.t 34)]⟩,
         ⟨(some 31), none, .mov (.t 35)⟩,
         ⟨(some 36), none, .ext (.t 31) 0⟩,
         ⟨(some 37), none, .ext (.t 31) 1⟩,
         ⟨(some 38), none, .ext (.t 31) 2⟩,
         ⟨(some 11), none, .mov (.t 36)⟩,
         ⟨(some 12), none, .mov (.t 37)⟩,
         ⟨(some 13), none, .mov (.t 38)⟩]))
      (.seq (.keep [1, 2, 7, 8, 9, 11, 12, 13, 14] (.ops false [⟨(some 39), none, .mov (.t 0)⟩,
          ⟨(some 40), none, .mov (.t 2)⟩,
          ⟨(some 41), none, .callG n_huber_Rho [(.t 39), (.t 40)]⟩,
          ⟨(some 14), none, .mov (.t 41)⟩]))
       (.seq (.keep [1, 2, 7, 8, 9, 11, 12, 13, 14, 15] (.ops false [⟨(some 42), none, .mov (.t 1)⟩,
           ⟨(some 43), none, .mov (.t 2)⟩,
           ⟨(some 44), none, .callG n_huber_Rho [(.t 42), (.t 43)]⟩,
           ⟨(some 15), none, .mov (.t 44)⟩]))
        (.seq (.keep [1, 2, 7, 8, 9, 11, 12, 13, 14, 15, 16, 17] (.ops false [⟨(some 46), none, .mov (.t 1)⟩,
            ⟨(some 47), none, .mov (.t 2)⟩,
            ⟨(some 48), none, .callG n_huber_Weight [(.t 46), (.t 47)]⟩,
            ⟨(some 45), none, .mov (.t 48)⟩,
            ⟨(some 49), none, .ext (.t 45) 0⟩,
            ⟨(some 50), none, .ext (.t 45) 1⟩,
            ⟨(some 16), none, .mov (.t 49)⟩,
            ⟨(some 17), none, .mov (.t 50)⟩]))
         (.seq (.keep [1, 7, 8, 9, 11, 12, 13, 14, 15, 16, 17, 18] (.ops false [⟨(some 51), none, .mov (.t 1)⟩,
             ⟨(some 52), none, .mov (.t 2)⟩,
             ⟨(some 53), none, .callG n_huber_Slope [(.t 51), (.t 52)]⟩,
             ⟨(some 18), none, .mov (.t 53)⟩]))
          (.seq (.keep [6] (.ops false [⟨(some 54), none, .mov (.t 7)⟩,
              ⟨(some 55), none, .mov (.t 54)⟩,
              ⟨(some 56), (some (55, true)), .mov (.t 13)⟩,
              ⟨(some 57), (some (55, true)), .bin .eql (.t 56) (.c (.int .i64 0))⟩,
              ⟨(some 58), none, .pick (.t 55) (.t 57) (.c (.bool false))⟩,
              ⟨(some 59), none, .mov (.t 58)⟩,
              ⟨(some 60), (some (59, true)), .mov (.t 9)⟩,
              ⟨(some 61), (some (59, true)), .bin .gtr (.t 60) (.c (.int .i64 0))⟩,
              ⟨(some 62), none, .pick (.t 59) (.t 61) (.c (.bool false))⟩,
              ⟨(some 63), none, .mov (.t 62)⟩,
              ⟨(some 64), (some (63, true)), .mov (.t 8)⟩,
              ⟨(some 65), (some (63, true)), .mov (.t 14)⟩,
              ⟨(some 66), (some (63, true)), .mov (.t 9)⟩,
              ⟨(some 67), (some (63, true)), .bin .mul (.t 65) (.t 66)⟩,
              ⟨(some 68), (some (63, true)), .bin .geq (.t 64) (.t 67)⟩,
              ⟨(some 69), none, .pick (.t 63) (.t 68) (.c (.bool false))⟩,
              ⟨(some 70), none, .mov (.t 69)⟩,
              ⟨(some 71), (some (70, true)), .mov (.t 11)⟩,
              ⟨(some 72), (some (70, true)), .mov (.t 15)⟩,
              ⟨(some 73), (some (70, true)), .mov (.t 12)⟩,
              ⟨(some 74), (some (70, true)), .bin .mul (.t 72) (.t 73)⟩,
              ⟨(some 75), (some (70, true)), .bin .eql (.t 71) (.t 74)⟩,
              ⟨(some 76), none, .pick (.t 70) (.t 75) (.c (.bool false))⟩,
              ⟨(some 77), none, .mov (.t 76)⟩,
              ⟨(some 78), (some (77, true)), .mov (.t 16)⟩,
              ⟨(some 79), (some (77, true)), .mov (.t 1)⟩,
              ⟨(some 80), (some (77, true)), .bin .mul (.t 78) (.t 79)⟩,
              ⟨(some 81), (some (77, true)), .mov (.t 18)⟩,
              ⟨(some 82), (some (77, true)), .mov (.t 17)⟩,
              ⟨(some 83), (some (77, true)), .bin .mul (.t 81) (.t 82)⟩,
              ⟨(some 84), (some (77, true)), .bin .eql (.t 80) (.t 83)⟩,
              ⟨(some 85), none, .pick (.t 77) (.t 84) (.c (.bool false))⟩,
              ⟨(some 6), none, .mov (.t 85)⟩]))
           .ret))))))))))
def gimballaw09_HuberAbove.res : List RX := [(6, none)]
theorem gimballaw09_HuberAbove.m : mK pg Try.f4.ntmps gimballaw09_HuberAbove.k (Try.f4.body.getD .skip) = true := by kernel_rfl
theorem gimballaw09_HuberAbove.mr : mRes pg Try.f4.results.toList gimballaw09_HuberAbove.res = true := by kernel_rfl
theorem gimballaw09_HuberAbove.of {args : List V} {r : V} (hn : args.length = 3) (hW : W pg gimballaw09_HuberAbove.k (done gimballaw09_HuberAbove.res r) (start args)) : Ret pg n_gimballaw09_HuberAbove args r :=
  Ret_of (fn := Try.f4) Try.func4 rfl (by kernel_rfl) gimballaw09_HuberAbove.m gimballaw09_HuberAbove.mr (by rw [hn]; exact of_decide_eq_true (by kernel_rfl)) hW
theorem gimballaw09_HuberAbove.ofG {args : List V} {H : Hp} {n : Nat} {Q : V → Hp → Nat → Prop} (hn : args.length = 3) (hW : W pg gimballaw09_HuberAbove.k (doneG gimballaw09_HuberAbove.res (fun r H' n' => n ≤ n' ∧ Q r H' n')) (startG args H n)) : ∃ r H' n', Q r H' n' ∧ RetG pg n_gimballaw09_HuberAbove args H n r H' n' :=
  RetG_of (fn := Try.f4) Try.func4 rfl (by kernel_rfl) gimballaw09_HuberAbove.m gimballaw09_HuberAbove.mr (by rw [hn]; exact of_decide_eq_true (by kernel_rfl)) hW

/-- gimbal/gimballaw09.HuberGrows -/
def gimballaw09_HuberGrows.k : K :=
  (.seq (.keep [0, 1, 2, 3] (.ops false [⟨(some 8), none, .mov (.c (.bool false))⟩]))
  (.seq (.keep [0, 1, 2, 3, 9] (.ops false [⟨(some 16), none, .callG n_gimballaw09_awake []⟩,
      ⟨(some 9), none, .mov (.t 16)⟩]))
   (.seq (.seq (.keep [0, 1, 2, 3, 9, 40] (.ops false [⟨(some 17), none, .mov (.t 0)⟩,
        ⟨(some 18), none, .bin .lss (.t 17) (.c (.int .i64 0))⟩,
        ⟨(some 19), none, .mov (.t 18)⟩,
        ⟨(some 20), (some (19, false)), .mov (.t 0)⟩,
        ⟨(some 21), (some (19, false)), .mov (.t 1)⟩,
        ⟨(some 22), (some (19, false)), .bin .gtr (.t 20) (.t 21)⟩,
        ⟨(some 23), none, .pick (.t 19) (.c (.bool true)) (.t 22)⟩,
        ⟨(some 24), none, .mov (.t 23)⟩,
        ⟨(some 25), (some (24, false)), .mov (.t 1)⟩,
        ⟨(some 26), (some (24, false)), .bin .gtr (.t 25) (.c (.int .i64 2147483647))⟩,
        ⟨(some 27), none, .pick (.t 24) (.c (.bool true)) (.t 26)⟩,
        ⟨(some 28), none, .mov (.t 27)⟩,
        ⟨(some 29), (some (28, false)), .mov (.t 2)⟩,
        ⟨(some 30), (some (28, false)), .bin .lss (.t 29) (.c (.int .i64 0))⟩,
        ⟨(some 31), none, .pick (.t 28) (.c (.bool true)) (.t 30)⟩,
        ⟨(some 32), none, .mov (.t 31)⟩,
        ⟨(some 33), (some (32, false)), .mov (.t 2)⟩,
        ⟨(some 34), (some (32, false)), .mov (.t 3)⟩,
        ⟨(some 35), (some (32, false)), .bin .gtr (.t 33) (.t 34)⟩,
        ⟨(some 36), none, .pick (.t 32) (.c (.bool true)) (.t 35)⟩,
        ⟨(some 37), none, .mov (.t 36)⟩,
        ⟨(some 38), (some (37, false)), .mov (.t 3)⟩,
        ⟨(some 39), (some (37, false)), .bin .gtr (.t 38) (.c (.int .i64 2147483647))⟩,
        ⟨(some 40), none, .pick (.t 37) (.c (.bool true)) (.t 39)⟩]))
     (.cond (.t 40) (.seq (.keep [8] (.ops false [⟨(some 41), none, .mov (.t 9)⟩,
          ⟨(some 8), none, .mov (.t 41)⟩]))
       .ret)
      .skip))
    (.seq (.keep [0, 1, 2, 3, 9, 10] (.ops false [⟨(some 42), none, .mov (.t 0)⟩,
        ⟨(some 43), none, .mov (.t 2)⟩,
        ⟨(some 44), none, .callG n_huber_Rho [(.t 42), (.t 43)]⟩,
        ⟨(some 10), none, .mov (.t 44)⟩]))
     (.seq (.keep [0, 1, 2, 3, 9, 10, 11] (.ops false [⟨(some 45), none, .mov (.t 0)⟩,
         ⟨(some 46), none, .un .neg (.t 45)⟩,
         ⟨(some 47), none, .mov (.t 2)⟩,
         ⟨(some 48), none, .callG n_huber_Rho [(.t 46), (.t 47)]⟩,
         ⟨(some 11), none, .mov (.t 48)⟩]))
      (.seq (.keep [0, 1, 2, 3, 9, 10, 11, 12] (.ops false [⟨(some 49), none, .mov (.t 1)⟩,
          ⟨(some 50), none, .mov (.t 2)⟩,
          ⟨(some 51), none, .callG n_huber_Rho [(.t 49), (.t 50)]⟩,
          ⟨(some 12), none, .mov (.t 51)⟩]))
       (.seq (.keep [0, 1, 2, 9, 10, 11, 12, 13] (.ops false [⟨(some 52), none, .mov (.t 0)⟩,
           ⟨(some 53), none, .mov (.t 3)⟩,
           ⟨(some 54), none, .callG n_huber_Rho [(.t 52), (.t 53)]⟩,
           ⟨(some 13), none, .mov (.t 54)⟩]))
        (.seq (.keep [0, 1, 2, 9, 10, 11, 12, 13, 14] (.ops false [⟨(some 55), none, .mov (.t 0)⟩,
            ⟨(some 56), none, .mov (.t 2)⟩,
            ⟨(some 57), none, .callG n_huber_Slope [(.t 55), (.t 56)]⟩,
            ⟨(some 14), none, .mov (.t 57)⟩]))
         (.seq (.keep [0, 9, 10, 11, 12, 13, 14, 15] (.ops false [⟨(some 58), none, .mov (.t 1)⟩,
             ⟨(some 59), none, .mov (.t 2)⟩,
             ⟨(some 60), none, .callG n_huber_Slope [(.t 58), (.t 59)]⟩,
             ⟨(some 15), none, .mov (.t 60)⟩]))
          (.seq (.keep [8] (.ops false [⟨(some 61), none, .mov (.t 9)⟩,
              ⟨(some 62), none, .mov (.t 61)⟩,
              ⟨(some 63), (some (62, true)), .mov (.t 10)⟩,
              ⟨(some 64), (some (62, true)), .mov (.t 11)⟩,
              ⟨(some 65), (some (62, true)), .bin .eql (.t 63) (.t 64)⟩,
              ⟨(some 66), none, .pick (.t 62) (.t 65) (.c (.bool false))⟩,
              ⟨(some 67), none, .mov (.t 66)⟩,
              ⟨(some 68), (some (67, true)), .mov (.t 10)⟩,
              ⟨(some 69), (some (67, true)), .bin .geq (.t 68) (.c (.int .i64 0))⟩,
              ⟨(some 70), none, .pick (.t 67) (.t 69) (.c (.bool false))⟩,
              ⟨(some 71), none, .mov (.t 70)⟩,
              ⟨(some 72), (some (71, true)), .mov (.t 10)⟩,
              ⟨(some 73), (some (71, true)), .mov (.t 0)⟩,
              ⟨(some 74), (some (71, true)), .mov (.t 0)⟩,
              ⟨(some 75), (some (71, true)), .bin .mul (.t 73) (.t 74)⟩,
              ⟨(some 76), (some (71, true)), .bin .leq (.t 72) (.t 75)⟩,
              ⟨(some 77), none, .pick (.t 71) (.t 76) (.c (.bool false))⟩,
              ⟨(some 78), none, .mov (.t 77)⟩,
              ⟨(some 79), (some (78, true)), .mov (.t 10)⟩,
              ⟨(some 80), (some (78, true)), .mov (.t 12)⟩,
              ⟨(some 81), (some (78, true)), .bin .leq (.t 79) (.t 80)⟩,
              ⟨(some 82), none, .pick (.t 78) (.t 81) (.c (.bool false))⟩,
              ⟨(some 83), none, .mov (.t 82)⟩,
              ⟨(some 84), (some (83, true)), .mov (.t 10)⟩,
              ⟨(some 85), (some (83, true)), .mov (.t 13)⟩,
              ⟨(some 86), (some (83, true)), .bin .leq (.t 84) (.t 85)⟩,
              ⟨(some 87), none, .pick (.t 83) (.t 86) (.c (.bool false))⟩,
              ⟨(some 88), none, .mov (.t 87)⟩,
              ⟨(some 89), (some (88, true)), .mov (.t 14)⟩,
              ⟨(some 90), (some (88, true)), .mov (.t 15)⟩,
              ⟨(some 91), (some (88, true)), .bin .leq (.t 89) (.t 90)⟩,
              ⟨(some 92), none, .pick (.t 88) (.t 91) (.c (.bool false))⟩,
              ⟨(some 93), none, .mov (.t 92)⟩,
              ⟨(some 94), (some (93, true)), .mov (.t 14)⟩,
              ⟨(some 95), (some (93, true)), .bin .geq (.t 94) (.c (.int .i64 0))⟩,
              ⟨(some 96), none, .pick (.t 93) (.t 95) (.c (.bool false))⟩,
              ⟨(some 8), none, .mov (.t 96)⟩]))
           .ret))))))))))
def gimballaw09_HuberGrows.res : List RX := [(8, none)]
theorem gimballaw09_HuberGrows.m : mK pg Try.f5.ntmps gimballaw09_HuberGrows.k (Try.f5.body.getD .skip) = true := by kernel_rfl
theorem gimballaw09_HuberGrows.mr : mRes pg Try.f5.results.toList gimballaw09_HuberGrows.res = true := by kernel_rfl
theorem gimballaw09_HuberGrows.of {args : List V} {r : V} (hn : args.length = 4) (hW : W pg gimballaw09_HuberGrows.k (done gimballaw09_HuberGrows.res r) (start args)) : Ret pg n_gimballaw09_HuberGrows args r :=
  Ret_of (fn := Try.f5) Try.func5 rfl (by kernel_rfl) gimballaw09_HuberGrows.m gimballaw09_HuberGrows.mr (by rw [hn]; exact of_decide_eq_true (by kernel_rfl)) hW
theorem gimballaw09_HuberGrows.ofG {args : List V} {H : Hp} {n : Nat} {Q : V → Hp → Nat → Prop} (hn : args.length = 4) (hW : W pg gimballaw09_HuberGrows.k (doneG gimballaw09_HuberGrows.res (fun r H' n' => n ≤ n' ∧ Q r H' n')) (startG args H n)) : ∃ r H' n', Q r H' n' ∧ RetG pg n_gimballaw09_HuberGrows args H n r H' n' :=
  RetG_of (fn := Try.f5) Try.func5 rfl (by kernel_rfl) gimballaw09_HuberGrows.m gimballaw09_HuberGrows.mr (by rw [hn]; exact of_decide_eq_true (by kernel_rfl)) hW

/-- gimbal/gimballaw09.HuberBends -/
def gimballaw09_HuberBends.k : K :=
  (.seq (.keep [0, 1, 2] (.ops false [⟨(some 6), none, .mov (.c (.bool false))⟩]))
  (.seq (.keep [0, 1, 2, 7] (.ops false [⟨(some 13), none, .callG n_gimballaw09_awake []⟩,
      ⟨(some 7), none, .mov (.t 13)⟩]))
   (.seq (.seq (.keep [0, 1, 2, 7, 42] (.ops false [⟨(some 14), none, .mov (.t 0)⟩,
        ⟨(some 15), none, .bin .lss (.t 14) (.c (.int .i64 (-1000000)))⟩,
        ⟨(some 16), none, .mov (.t 15)⟩,
        ⟨(some 17), (some (16, false)), .mov (.t 0)⟩,
        ⟨(some 18), (some (16, false)), .bin .gtr (.t 17) (.c (.int .i64 1000000))⟩,
        ⟨(some 19), none, .pick (.t 16) (.c (.bool true)) (.t 18)⟩,
        ⟨(some 20), none, .mov (.t 19)⟩,
        ⟨(some 21), (some (20, false)), .mov (.t 1)⟩,
        ⟨(some 22), (some (20, false)), .bin .lss (.t 21) (.c (.int .i64 (-1000000)))⟩,
        ⟨(some 23), none, .pick (.t 20) (.c (.bool true)) (.t 22)⟩,
        ⟨(some 24), none, .mov (.t 23)⟩,
        ⟨(some 25), (some (24, false)), .mov (.t 1)⟩,
        ⟨(some 26), (some (24, false)), .bin .gtr (.t 25) (.c (.int .i64 1000000))⟩,
        ⟨(some 27), none, .pick (.t 24) (.c (.bool true)) (.t 26)⟩,
        ⟨(some 28), none, .mov (.t 27)⟩,
        ⟨(some 29), (some (28, false)), .mov (.t 2)⟩,
        ⟨(some 30), (some (28, false)), .bin .lss (.t 29) (.c (.int .i64 0))⟩,
        ⟨(some 31), none, .pick (.t 28) (.c (.bool true)) (.t 30)⟩,
        ⟨(some 32), none, .mov (.t 31)⟩,
        ⟨(some 33), (some (32, false)), .mov (.t 2)⟩,
        ⟨(some 34), (some (32, false)), .bin .gtr (.t 33) (.c (.int .i64 1000000))⟩,
        ⟨(some 35), none, .pick (.t 32) (.c (.bool true)) (.t 34)⟩,
        ⟨(some 36), none, .mov (.t 35)⟩,
        ⟨(some 37), (some (36, false)), .mov (.t 0)⟩,
        ⟨(some 38), (some (36, false)), .mov (.t 1)⟩,
        ⟨(some 39), (some (36, false)), .bin .sub (.t 37) (.t 38)⟩,
        ⟨(some 40), (some (36, false)), .bin .rem (.t 39) (.c (.int .i64 2))⟩,
        ⟨(some 41), (some (36, false)), .bin .neq (.t 40) (.c (.int .i64 0))⟩,
        ⟨(some 42), none, .pick (.t 36) (.c (.bool true)) (.t 41)⟩]))
     (.cond (.t 42) (.seq (.keep [6] (.ops false [⟨(some 43), none, .mov (.t 7)⟩,
          ⟨(some 6), none, .mov (.t 43)⟩]))
       .ret)
      .skip))
    (.seq (.keep [0, 1, 2, 7, 8] (.ops false [⟨(some 44), none, .mov (.t 0)⟩,
        ⟨(some 45), none, .mov (.t 1)⟩,
        ⟨(some 46), none, .bin .add (.t 44) (.t 45)⟩,
        ⟨(some 47), none, .bin .quo (.t 46) (.c (.int .i64 2))⟩,
        ⟨(some 8), none, .mov (.t 47)⟩]))
     (.seq (.keep [0, 1, 2, 7, 8, 9] (.ops false [⟨(some 48), none, .mov (.t 0)⟩,
         ⟨(some 49), none, .mov (.t 2)⟩,
         ⟨(some 50), none, .callG n_huber_Rho [(.t 48), (.t 49)]⟩,
         ⟨(some 9), none, .mov (.t 50)⟩]))
      (.seq (.keep [0, 1, 2, 7, 8, 9, 10] (.ops false [⟨(some 51), none, .mov (.t 1)⟩,
          ⟨(some 52), none, .mov (.t 2)⟩,
          ⟨(some 53), none, .callG n_huber_Rho [(.t 51), (.t 52)]⟩,
          ⟨(some 10), none, .mov (.t 53)⟩]))
       (.seq (.keep [0, 1, 2, 7, 9, 10, 11] (.ops false [⟨(some 54), none, .mov (.t 8)⟩,
           ⟨(some 55), none, .mov (.t 2)⟩,
           ⟨(some 56), none, .callG n_huber_Rho [(.t 54), (.t 55)]⟩,
           ⟨(some 11), none, .mov (.t 56)⟩]))
        (.seq (.keep [7, 9, 10, 11, 12] (.ops false [⟨(some 57), none, .mov (.t 1)⟩,
            ⟨(some 58), none, .mov (.t 2)⟩,
            ⟨(some 59), none, .callG n_huber_Rho [(.t 57), (.t 58)]⟩,
            ⟨(some 60), none, .mov (.t 1)⟩,
            ⟨(some 61), none, .mov (.t 2)⟩,
            ⟨(some 62), none, .callG n_huber_Slope [(.t 60), (.t 61)]⟩,
            ⟨(some 63), none, .bin .mul (.c (.int .i64 2)) (.t 62)⟩,
            ⟨(some 64), none, .mov (.t 0)⟩,
            ⟨(some 65), none, .mov (.t 1)⟩,
            ⟨(some 66), none, .bin .sub (.t 64) (.t 65)⟩,
            ⟨(some 67), none, .bin .mul (.t 63) (.t 66)⟩,
            ⟨(some 68), none, .bin .add (.t 59) (.t 67)⟩,
            ⟨(some 12), none, .mov (.t 68)⟩]))
         (.seq (.keep [6] (.ops false [⟨(some 69), none, .mov (.t 7)⟩,
             ⟨(some 70), none, .mov (.t 69)⟩,
             ⟨(some 71), (some (70, true)), .mov (.t 11)⟩,
             ⟨(some 72), (some (70, true)), .bin .mul (.c (.int .i64 2)) (.t 71)⟩,
             ⟨(some 73), (some (70, true)), .mov (.t 9)⟩,
             ⟨(some 74), (some (70, true)), .mov (.t 10)⟩,
             ⟨(some 75), (some (70, true)), .bin .add (.t 73) (.t 74)⟩,
             ⟨(some 76), (some (70, true)), .bin .leq (.t 72) (.t 75)⟩,
             ⟨(some 77), none, .pick (.t 70) (.t 76) (.c (.bool false))⟩,
             ⟨(some 78), none, .mov (.t 77)⟩,
             ⟨(some 79), (some (78, true)), .mov (.t 9)⟩,
             ⟨(some 80), (some (78, true)), .mov (.t 12)⟩,
             ⟨(some 81), (some (78, true)), .bin .geq (.t 79) (.t 80)⟩,
             ⟨(some 82), none, .pick (.t 78) (.t 81) (.c (.bool false))⟩,
             ⟨(some 6), none, .mov (.t 82)⟩]))
          .ret)))))))))
def gimballaw09_HuberBends.res : List RX := [(6, none)]
theorem gimballaw09_HuberBends.m : mK pg Try.f6.ntmps gimballaw09_HuberBends.k (Try.f6.body.getD .skip) = true := by kernel_rfl
theorem gimballaw09_HuberBends.mr : mRes pg Try.f6.results.toList gimballaw09_HuberBends.res = true := by kernel_rfl
theorem gimballaw09_HuberBends.of {args : List V} {r : V} (hn : args.length = 3) (hW : W pg gimballaw09_HuberBends.k (done gimballaw09_HuberBends.res r) (start args)) : Ret pg n_gimballaw09_HuberBends args r :=
  Ret_of (fn := Try.f6) Try.func6 rfl (by kernel_rfl) gimballaw09_HuberBends.m gimballaw09_HuberBends.mr (by rw [hn]; exact of_decide_eq_true (by kernel_rfl)) hW
theorem gimballaw09_HuberBends.ofG {args : List V} {H : Hp} {n : Nat} {Q : V → Hp → Nat → Prop} (hn : args.length = 3) (hW : W pg gimballaw09_HuberBends.k (doneG gimballaw09_HuberBends.res (fun r H' n' => n ≤ n' ∧ Q r H' n')) (startG args H n)) : ∃ r H' n', Q r H' n' ∧ RetG pg n_gimballaw09_HuberBends args H n r H' n' :=
  RetG_of (fn := Try.f6) Try.func6 rfl (by kernel_rfl) gimballaw09_HuberBends.m gimballaw09_HuberBends.mr (by rw [hn]; exact of_decide_eq_true (by kernel_rfl)) hW

/-- gimbal/gimballaw09.HuberScale -/
def gimballaw09_HuberScale.k : K :=
  (.seq (.keep [0, 1, 2] (.ops false [⟨(some 6), none, .mov (.c (.bool false))⟩]))
  (.seq (.keep [0, 1, 2, 7] (.ops false [⟨(some 12), none, .callG n_gimballaw09_awake []⟩,
      ⟨(some 7), none, .mov (.t 12)⟩]))
   (.seq (.seq (.keep [0, 1, 2, 7, 34] (.ops false [⟨(some 13), none, .mov (.t 0)⟩,
        ⟨(some 14), none, .bin .lss (.t 13) (.c (.int .i64 (-1000000)))⟩,
        ⟨(some 15), none, .mov (.t 14)⟩,
        ⟨(some 16), (some (15, false)), .mov (.t 0)⟩,
        ⟨(some 17), (some (15, false)), .bin .gtr (.t 16) (.c (.int .i64 1000000))⟩,
        ⟨(some 18), none, .pick (.t 15) (.c (.bool true)) (.t 17)⟩,
        ⟨(some 19), none, .mov (.t 18)⟩,
        ⟨(some 20), (some (19, false)), .mov (.t 1)⟩,
        ⟨(some 21), (some (19, false)), .bin .lss (.t 20) (.c (.int .i64 0))⟩,
        ⟨(some 22), none, .pick (.t 19) (.c (.bool true)) (.t 21)⟩,
        ⟨(some 23), none, .mov (.t 22)⟩,
        ⟨(some 24), (some (23, false)), .mov (.t 1)⟩,
        ⟨(some 25), (some (23, false)), .bin .gtr (.t 24) (.c (.int .i64 1000000))⟩,
        ⟨(some 26), none, .pick (.t 23) (.c (.bool true)) (.t 25)⟩,
        ⟨(some 27), none, .mov (.t 26)⟩,
        ⟨(some 28), (some (27, false)), .mov (.t 2)⟩,
        ⟨(some 29), (some (27, false)), .bin .lss (.t 28) (.c (.int .i64 0))⟩,
        ⟨(some 30), none, .pick (.t 27) (.c (.bool true)) (.t 29)⟩,
        ⟨(some 31), none, .mov (.t 30)⟩,
        ⟨(some 32), (some (31, false)), .mov (.t 2)⟩,
        ⟨(some 33), (some (31, false)), .bin .gtr (.t 32) (.c (.int .i64 100))⟩,
        ⟨(some 34), none, .pick (.t 31) (.c (.bool true)) (.t 33)⟩]))
     (.cond (.t 34) (.seq (.keep [6] (.ops false [⟨(some 35), none, .mov (.t 7)⟩,
          ⟨(some 6), none, .mov (.t 35)⟩]))
       .ret)
      .skip))
    (.seq (.keep [0, 1, 2, 7, 8] (.ops false [⟨(some 36), none, .mov (.t 0)⟩,
        ⟨(some 37), none, .mov (.t 1)⟩,
        ⟨(some 38), none, .callG n_huber_Rho [(.t 36), (.t 37)]⟩,
        ⟨(some 8), none, .mov (.t 38)⟩]))
     (.seq (.keep [0, 1, 2, 7, 8, 9] (.ops false [⟨(some 39), none, .mov (.t 2)⟩,
         ⟨(some 40), none, .mov (.t 0)⟩,
         ⟨(some 41), none, .bin .mul (.t 39) (.t 40)⟩,
         ⟨(some 42), none, .mov (.t 2)⟩,
         ⟨(some 43), none, .mov (.t 1)⟩,
         ⟨(some 44), none, .bin .mul (.t 42) (.t 43)⟩,
         ⟨(some 45), none, .callG n_huber_Rho [(.t 41), (.t 44)]⟩,
         ⟨(some 9), none, .mov (.t 45)⟩]))
      (.seq (.keep [0, 1, 2, 7, 8, 9, 10] (.ops false [⟨(some 46), none, .mov (.t 0)⟩,
          ⟨(some 47), none, .mov (.t 1)⟩,
          ⟨(some 48), none, .callG n_huber_Slope [(.t 46), (.t 47)]⟩,
          ⟨(some 10), none, .mov (.t 48)⟩]))
       (.seq (.keep [2, 7, 8, 9, 10, 11] (.ops false [⟨(some 49), none, .mov (.t 2)⟩,
           ⟨(some 50), none, .mov (.t 0)⟩,
           ⟨(some 51), none, .bin .mul (.t 49) (.t 50)⟩,
           ⟨(some 52), none, .mov (.t 2)⟩,
           ⟨(some 53), none, .mov (.t 1)⟩,
           ⟨(some 54), none, .bin .mul (.t 52) (.t 53)⟩,
           ⟨(some 55), none, .callG n_huber_Slope [(.t 51), (.t 54)]⟩,
           ⟨(some 11), none, .mov (.t 55)⟩]))
        (.seq (.keep [6] (.ops false [⟨(some 56), none, .mov (.t 7)⟩,
            ⟨(some 57), none, .mov (.t 56)⟩,
            ⟨(some 58), (some (57, true)), .mov (.t 9)⟩,
            ⟨(some 59), (some (57, true)), .mov (.t 2)⟩,
            ⟨(some 60), (some (57, true)), .mov (.t 2)⟩,
            ⟨(some 61), (some (57, true)), .bin .mul (.t 59) (.t 60)⟩,
            ⟨(some 62), (some (57, true)), .mov (.t 8)⟩,
            ⟨(some 63), (some (57, true)), .bin .mul (.t 61) (.t 62)⟩,
            ⟨(some 64), (some (57, true)), .bin .eql (.t 58) (.t 63)⟩,
            ⟨(some 65), none, .pick (.t 57) (.t 64) (.c (.bool false))⟩,
            ⟨(some 66), none, .mov (.t 65)⟩,
            ⟨(some 67), (some (66, true)), .mov (.t 11)⟩,
            ⟨(some 68), (some (66, true)), .mov (.t 2)⟩,
            ⟨(some 69), (some (66, true)), .mov (.t 10)⟩,
            ⟨(some 70), (some (66, true)), .bin .mul (.t 68) (.t 69)⟩,
            ⟨(some 71), (some (66, true)), .bin .eql (.t 67) (.t 70)⟩,
            ⟨(some 72), none, .pick (.t 66) (.t 71) (.c (.bool false))⟩,
            ⟨(some 6), none, .mov (.t 72)⟩]))
         .ret))))))))
def gimballaw09_HuberScale.res : List RX := [(6, none)]
theorem gimballaw09_HuberScale.m : mK pg Try.f7.ntmps gimballaw09_HuberScale.k (Try.f7.body.getD .skip) = true := by kernel_rfl
theorem gimballaw09_HuberScale.mr : mRes pg Try.f7.results.toList gimballaw09_HuberScale.res = true := by kernel_rfl
theorem gimballaw09_HuberScale.of {args : List V} {r : V} (hn : args.length = 3) (hW : W pg gimballaw09_HuberScale.k (done gimballaw09_HuberScale.res r) (start args)) : Ret pg n_gimballaw09_HuberScale args r :=
  Ret_of (fn := Try.f7) Try.func7 rfl (by kernel_rfl) gimballaw09_HuberScale.m gimballaw09_HuberScale.mr (by rw [hn]; exact of_decide_eq_true (by kernel_rfl)) hW
theorem gimballaw09_HuberScale.ofG {args : List V} {H : Hp} {n : Nat} {Q : V → Hp → Nat → Prop} (hn : args.length = 3) (hW : W pg gimballaw09_HuberScale.k (doneG gimballaw09_HuberScale.res (fun r H' n' => n ≤ n' ∧ Q r H' n')) (startG args H n)) : ∃ r H' n', Q r H' n' ∧ RetG pg n_gimballaw09_HuberScale args H n r H' n' :=
  RetG_of (fn := Try.f7) Try.func7 rfl (by kernel_rfl) gimballaw09_HuberScale.m gimballaw09_HuberScale.mr (by rw [hn]; exact of_decide_eq_true (by kernel_rfl)) hW

/-- gimbal/gimballaw09.HuberTells -/
def gimballaw09_HuberTells.k : K :=
  (.seq (.keep [0, 1] (.ops false [⟨(some 4), none, .mov (.c (.bool false))⟩]))
  (.seq (.keep [0, 1, 5] (.ops false [⟨(some 12), none, .callG n_gimballaw09_awake []⟩,
      ⟨(some 5), none, .mov (.t 12)⟩]))
   (.seq (.keep [0, 1, 5, 6] (.ops false [⟨(some 13), none, .mov (.t 0)⟩,
       ⟨(some 14), none, .mov (.t 1)⟩,
       ⟨(some 15), none, .callG n_huber_Rho [(.t 13), (.t 14)]⟩,
       ⟨(some 16), none, .callG n_long_Of [(.t 15)]⟩,
       ⟨(some 17), none, .callG n_long_Int_String [(.t 16)]⟩,
       ⟨(some 6), none, .mov (.t 17)⟩]))
    (.seq (.keep [0, 1, 5, 6, 7] (.ops false [⟨(some 18), none, .mov (.t 0)⟩,
        ⟨(some 19), none, .mov (.t 1)⟩,
        ⟨(some 20), none, .callG n_huber_Slope [(.t 18), (.t 19)]⟩,
        ⟨(some 7), none, .mov (.t 20)⟩]))
     (.seq (.keep [0, 1, 5, 6, 7, 8, 9] (.ops false [⟨(some 22), none, .mov (.t 0)⟩,
         ⟨(some 23), none, .mov (.t 1)⟩,
         ⟨(some 24), none, .callG n_huber_Weight [(.t 22), (.t 23)]⟩,
         ⟨(some 21), none, .mov (.t 24)⟩,
         ⟨(some 25), none, .ext (.t 21) 0⟩,
         ⟨(some 26), none, .ext (.t 21) 1⟩,
         ⟨(some 8), none, .mov (.t 25)⟩,
         ⟨(some 9), none, .mov (.t 26)⟩]))
      (.seq (.keep [0, 1, 5, 6, 7, 8, 9, 10, 11] (.ops false [⟨(some 28), none, .mov (.t 0)⟩,
          ⟨(some 29), none, .mov (.t 1)⟩,
          ⟨(some 30), none, .callG n_gimbalref09_Weight [(.t 28), (.t 29)]⟩,
          ⟨(some 27), none, .mov (.t 30)⟩,
          ⟨(some 31), none, .ext (.t 27) 0⟩,
          ⟨(some 32), none, .ext (.t 27) 1⟩,
          ⟨(some 10), none, .mov (.t 31)⟩,
          ⟨(some 11), none, .mov (.t 32)⟩]))
       (.seq (.keep [4] (.ops false [⟨(some 33), none, .mov (.t 5)⟩,
           ⟨(some 34), none, .mov (.t 33)⟩,
           ⟨(some 35), (some (34, true)), .mov (.t 6)⟩,
           ⟨(some 36), (some (34, true)), .mov (.t 0)⟩,
           ⟨(some 37), (some (34, true)), .mov (.t 1)⟩,
           ⟨(some 38), (some (34, true)), .callG n_gimbalref09_Rho [(.t 36), (.t 37)]⟩,
           ⟨(some 39), (some (34, true)), .bin .eql (.t 35) (.t 38)⟩,
           ⟨(some 40), none, .pick (.t 34) (.t 39) (.c (.bool false))⟩,
           ⟨(some 41), none, .mov (.t 40)⟩,
           ⟨(some 42), (some (41, true)), .mov (.t 7)⟩,
           ⟨(some 43), (some (41, true)), .mov (.t 0)⟩,
           ⟨(some 44), (some (41, true)), .mov (.t 1)⟩,
           ⟨(some 45), (some (41, true)), .callG n_gimbalref09_Slope [(.t 43), (.t 44)]⟩,
           ⟨(some 46), (some (41, true)), .bin .eql (.t 42) (.t 45)⟩,
           ⟨(some 47), none, .pick (.t 41) (.t 46) (.c (.bool false))⟩,
           ⟨(some 48), none, .mov (.t 47)⟩,
           ⟨(some 49), (some (48, true)), .mov (.t 8)⟩,
           ⟨(some 50), (some (48, true)), .mov (.t 10)⟩,
           ⟨(some 51), (some (48, true)), .bin .eql (.t 49) (.t 50)⟩,
           ⟨(some 52), none, .pick (.t 48) (.t 51) (.c (.bool false))⟩,
           ⟨(some 53), none, .mov (.t 52)⟩,
           ⟨(some 54), (some (53, true)), .mov (.t 9)⟩,
           ⟨(some 55), (some (53, true)), .mov (.t 11)⟩,
           ⟨(some 56), (some (53, true)), .bin .eql (.t 54) (.t 55)⟩,
           ⟨(some 57), none, .pick (.t 53) (.t 56) (.c (.bool false))⟩,
           ⟨(some 4), none, .mov (.t 57)⟩]))
        .ret)))))))
def gimballaw09_HuberTells.res : List RX := [(4, none)]
theorem gimballaw09_HuberTells.m : mK pg Try.f8.ntmps gimballaw09_HuberTells.k (Try.f8.body.getD .skip) = true := by kernel_rfl
theorem gimballaw09_HuberTells.mr : mRes pg Try.f8.results.toList gimballaw09_HuberTells.res = true := by kernel_rfl
theorem gimballaw09_HuberTells.of {args : List V} {r : V} (hn : args.length = 2) (hW : W pg gimballaw09_HuberTells.k (done gimballaw09_HuberTells.res r) (start args)) : Ret pg n_gimballaw09_HuberTells args r :=
  Ret_of (fn := Try.f8) Try.func8 rfl (by kernel_rfl) gimballaw09_HuberTells.m gimballaw09_HuberTells.mr (by rw [hn]; exact of_decide_eq_true (by kernel_rfl)) hW
theorem gimballaw09_HuberTells.ofG {args : List V} {H : Hp} {n : Nat} {Q : V → Hp → Nat → Prop} (hn : args.length = 2) (hW : W pg gimballaw09_HuberTells.k (doneG gimballaw09_HuberTells.res (fun r H' n' => n ≤ n' ∧ Q r H' n')) (startG args H n)) : ∃ r H' n', Q r H' n' ∧ RetG pg n_gimballaw09_HuberTells args H n r H' n' :=
  RetG_of (fn := Try.f8) Try.func8 rfl (by kernel_rfl) gimballaw09_HuberTells.m gimballaw09_HuberTells.mr (by rw [hn]; exact of_decide_eq_true (by kernel_rfl)) hW

end Go.Gim

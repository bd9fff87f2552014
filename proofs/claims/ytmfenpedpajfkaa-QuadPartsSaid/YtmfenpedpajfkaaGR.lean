import Derived.Test.YtmfenpedpajfkaaGN
/- Functions' code as data (written by wip/tools/gen.py), and the step to their contracts. -/
set_option maxRecDepth 100000
namespace Go.Gim
open Go.Proofs
def gimbalref01_Of.k : K :=
 (.seq (.keep [0, 2] (.ops false [⟨(some 2), none, .alloc 2 (.agg [(.bool false), .nil])⟩]))
 (.seq (.keep [0, 2, 3] (.ops false [⟨(some 3), none, .mov (.c .nil)⟩]))
 (.seq (.keep [0, 2, 3, 4] (.ops false [⟨(some 6), none, .mov (.t 0)⟩,
 ⟨(some 7), none, .bin .lss (.t 6) (.c (.int .i64 0))⟩,
 ⟨(some 4), none, .mov (.t 7)⟩]))
 (.seq (.block 0 (.loop (.seq (.seq (.keep [0, 2, 3, 4, 9] (.ops false [⟨(some 8), none, .mov (.t 0)⟩,
 ⟨(some 9), none, .bin .neq (.t 8) (.c (.int .i64 0))⟩]))
 (.cond (.t 9) .skip
 (.exit 0)))
 (.keep [0, 2, 3, 4] (.block 1 (.seq (.keep [0, 2, 3, 4, 5] (.ops false [⟨(some 10), none, .mov (.t 0)⟩,
 ⟨(some 11), none, .bin .rem (.t 10) (.c (.int .i64 10))⟩,
 ⟨(some 5), none, .mov (.t 11)⟩]))
 (.seq (.seq (.keep [0, 2, 3, 4, 5, 13] (.ops false [⟨(some 12), none, .mov (.t 5)⟩,
 ⟨(some 13), none, .bin .lss (.t 12) (.c (.int .i64 0))⟩]))
 (.cond (.t 13) (.keep [0, 2, 3, 4, 5] (.ops false [⟨(some 14), none, .mov (.t 5)⟩,
 ⟨(some 15), none, .un .neg (.t 14)⟩,
 ⟨(some 5), none, .mov (.t 15)⟩]))
 .skip))
 (.seq (.keep [0, 2, 3, 4] (.ops false [⟨(some 16), none, .mov (.t 3)⟩,
 ⟨(some 17), none, .mov (.t 5)⟩,
 ⟨(some 18), none, .new (.bsl 1) [(.t 17)]⟩,
 ⟨(some 19), none, .eff (.app 1 8) [(.t 16), (.t 18)]⟩,
 ⟨(some 3), none, .mov (.t 19)⟩]))
 (.keep [0, 2, 3, 4] (.ops false [⟨(some 20), none, .mov (.t 0)⟩,
 ⟨(some 21), none, .bin .quo (.t 20) (.c (.int .i64 10))⟩,
 ⟨(some 0), none, .mov (.t 21)⟩]))))))))))
 (.seq (.keep [2] (.ops false [⟨(some 22), none, .mov (.t 4)⟩,
 ⟨(some 23), none, .mov (.t 3)⟩,
 ⟨(some 24), none, .callG n_gimbalref01_made [(.t 22), (.t 23)]⟩,
 ⟨none, none, .store 2 (.t 2) (.t 24)⟩]))
 .ret)))))
def gimbalref01_Of.res : List RX := [(2, some (2, true))]
theorem gimbalref01_Of.m : mK pg Try.f73.ntmps gimbalref01_Of.k (Try.f73.body.getD .skip) = true := by kernel_rfl
theorem gimbalref01_Of.mr : mRes pg Try.f73.results.toList gimbalref01_Of.res = true := by kernel_rfl
theorem gimbalref01_Of.of {args : List V} {r : V} (hn : args.length = 1) (hW : W pg gimbalref01_Of.k (done gimbalref01_Of.res r) (start args)) : Ret pg n_gimbalref01_Of args r :=
 Ret_of (fn := Try.f73) Try.func73 rfl (by kernel_rfl) gimbalref01_Of.m gimbalref01_Of.mr (by rw [hn]; exact of_decide_eq_true (by kernel_rfl)) hW
def gimbalref01_made.k : K :=
 (.seq (.keep [0, 1, 4] (.ops false [⟨(some 4), none, .alloc 2 (.agg [(.bool false), .nil])⟩]))
 (.seq (.keep [0, 1, 4, 5] (.ops false [⟨(some 6), none, .mov (.t 1)⟩,
 ⟨(some 7), none, .len false (.t 6)⟩,
 ⟨(some 5), none, .mov (.t 7)⟩]))
 (.seq (.block 0 (.loop (.seq (.seq (.keep [0, 1, 4, 5, 17] (.ops false [⟨(some 8), none, .mov (.t 5)⟩,
 ⟨(some 9), none, .bin .gtr (.t 8) (.c (.int .i64 0))⟩,
 ⟨(some 10), none, .mov (.t 9)⟩,
 ⟨(some 11), (some (10, true)), .mov (.t 1)⟩,
 ⟨(some 12), (some (10, true)), .mov (.t 5)⟩,
 ⟨(some 13), (some (10, true)), .bin .sub (.t 12) (.c (.int .i64 1))⟩,
 ⟨(some 14), (some (10, true)), .idxA 1 (.t 11) (.t 13)⟩,
 ⟨(some 15), (some (10, true)), .load 1 false (.t 14)⟩,
 ⟨(some 16), (some (10, true)), .bin .eql (.t 15) (.c (.int .i64 0))⟩,
 ⟨(some 17), none, .pick (.t 10) (.t 16) (.c (.bool false))⟩]))
 (.cond (.t 17) .skip
 (.exit 0)))
 (.keep [0, 1, 4, 5] (.block 1 (.keep [0, 1, 4, 5] (.ops false [⟨(some 18), none, .mov (.t 5)⟩,
 ⟨(some 19), none, .bin .sub (.t 18) (.c (.int .i64 1))⟩,
 ⟨(some 5), none, .mov (.t 19)⟩])))))))
 (.seq (.keep [4] (.ops false [⟨(some 20), none, .mov (.t 0)⟩,
 ⟨(some 21), none, .mov (.t 20)⟩,
 ⟨(some 22), (some (21, true)), .mov (.t 5)⟩,
 ⟨(some 23), (some (21, true)), .bin .gtr (.t 22) (.c (.int .i64 0))⟩,
 ⟨(some 24), none, .pick (.t 21) (.t 23) (.c (.bool false))⟩,
 ⟨(some 25), none, .mov (.t 1)⟩,
 ⟨(some 26), none, .mov (.t 5)⟩,
 ⟨(some 27), none, .red (.slc 1 false true false) [(.t 25), (.t 26)]⟩,
 ⟨(some 28), none, .build [(.bool false), .nil] [(0, 1, (.t 24)), (1, 1, (.t 27))]⟩,
 ⟨none, none, .store 2 (.t 4) (.t 28)⟩]))
 .ret))))
def gimbalref01_made.res : List RX := [(4, some (2, true))]
theorem gimbalref01_made.m : mK pg Try.f112.ntmps gimbalref01_made.k (Try.f112.body.getD .skip) = true := by kernel_rfl
theorem gimbalref01_made.mr : mRes pg Try.f112.results.toList gimbalref01_made.res = true := by kernel_rfl
theorem gimbalref01_made.of {args : List V} {r : V} (hn : args.length = 2) (hW : W pg gimbalref01_made.k (done gimbalref01_made.res r) (start args)) : Ret pg n_gimbalref01_made args r :=
 Ret_of (fn := Try.f112) Try.func112 rfl (by kernel_rfl) gimbalref01_made.m gimbalref01_made.mr (by rw [hn]; exact of_decide_eq_true (by kernel_rfl)) hW
def gimbalref01_plus.k : K :=
 (.seq (.keep [0, 1] (.ops false [⟨(some 4), none, .mov (.c .nil)⟩]))
 (.seq (.keep [0, 1, 5] (.ops false [⟨(some 5), none, .mov (.c .nil)⟩]))
 (.seq (.keep [0, 1, 5, 6] (.ops false [⟨(some 6), none, .mov (.c (.int .i64 0))⟩]))
 (.seq (.seq (.keep [0, 1, 5, 6, 7] (.ops false [⟨(some 7), none, .mov (.c (.int .i64 0))⟩]))
 (.block 0 (.loop (.seq (.seq (.keep [0, 1, 5, 6, 7, 22] (.ops false [⟨(some 9), none, .mov (.t 7)⟩,
 ⟨(some 10), none, .mov (.t 0)⟩,
 ⟨(some 11), none, .len false (.t 10)⟩,
 ⟨(some 12), none, .bin .lss (.t 9) (.t 11)⟩,
 ⟨(some 13), none, .mov (.t 12)⟩,
 ⟨(some 14), (some (13, false)), .mov (.t 7)⟩,
 ⟨(some 15), (some (13, false)), .mov (.t 1)⟩,
 ⟨(some 16), (some (13, false)), .len false (.t 15)⟩,
 ⟨(some 17), (some (13, false)), .bin .lss (.t 14) (.t 16)⟩,
 ⟨(some 18), none, .pick (.t 13) (.c (.bool true)) (.t 17)⟩,
 ⟨(some 19), none, .mov (.t 18)⟩,
 ⟨(some 20), (some (19, false)), .mov (.t 6)⟩,
 ⟨(some 21), (some (19, false)), .bin .gtr (.t 20) (.c (.int .i64 0))⟩,
 ⟨(some 22), none, .pick (.t 19) (.c (.bool true)) (.t 21)⟩]))
 (.cond (.t 22) .skip
 (.exit 0)))
 (.seq (.block 1 (.seq (.keep [0, 1, 5, 7, 8] (.ops false [⟨(some 25), none, .mov (.t 6)⟩,
 ⟨(some 8), none, .mov (.t 25)⟩]))
 (.seq (.seq (.keep [0, 1, 5, 7, 8, 29] (.ops false [⟨(some 26), none, .mov (.t 7)⟩,
 ⟨(some 27), none, .mov (.t 0)⟩,
 ⟨(some 28), none, .len false (.t 27)⟩,
 ⟨(some 29), none, .bin .lss (.t 26) (.t 28)⟩]))
 (.cond (.t 29) (.keep [0, 1, 5, 7, 8] (.ops false [⟨(some 30), none, .mov (.t 8)⟩,
 ⟨(some 31), none, .mov (.t 0)⟩,
 ⟨(some 32), none, .mov (.t 7)⟩,
 ⟨(some 33), none, .idxA 1 (.t 31) (.t 32)⟩,
 ⟨(some 34), none, .load 1 false (.t 33)⟩,
 ⟨(some 35), none, .bin .add (.t 30) (.t 34)⟩,
 ⟨(some 8), none, .mov (.t 35)⟩]))
 .skip))
 (.seq (.seq (.keep [0, 1, 5, 7, 8, 39] (.ops false [⟨(some 36), none, .mov (.t 7)⟩,
 ⟨(some 37), none, .mov (.t 1)⟩,
 ⟨(some 38), none, .len false (.t 37)⟩,
 ⟨(some 39), none, .bin .lss (.t 36) (.t 38)⟩]))
 (.cond (.t 39) (.keep [0, 1, 5, 7, 8] (.ops false [⟨(some 40), none, .mov (.t 8)⟩,
 ⟨(some 41), none, .mov (.t 1)⟩,
 ⟨(some 42), none, .mov (.t 7)⟩,
 ⟨(some 43), none, .idxA 1 (.t 41) (.t 42)⟩,
 ⟨(some 44), none, .load 1 false (.t 43)⟩,
 ⟨(some 45), none, .bin .add (.t 40) (.t 44)⟩,
 ⟨(some 8), none, .mov (.t 45)⟩]))
 .skip))
 (.seq (.keep [0, 1, 5, 7, 8] (.ops false [⟨(some 46), none, .mov (.t 5)⟩,
 ⟨(some 47), none, .mov (.t 8)⟩,
 ⟨(some 48), none, .bin .rem (.t 47) (.c (.int .i64 10))⟩,
 ⟨(some 49), none, .new (.bsl 1) [(.t 48)]⟩,
 ⟨(some 50), none, .eff (.app 1 8) [(.t 46), (.t 49)]⟩,
 ⟨(some 5), none, .mov (.t 50)⟩]))
 (.keep [0, 1, 5, 6, 7] (.ops false [⟨(some 51), none, .mov (.t 8)⟩,
 ⟨(some 52), none, .bin .quo (.t 51) (.c (.int .i64 10))⟩,
 ⟨(some 6), none, .mov (.t 52)⟩])))))))
 (.keep [0, 1, 5, 6, 7] (.ops false [⟨(some 23), none, .mov (.t 7)⟩,
 ⟨(some 24), none, .bin .add (.t 23) (.c (.int .i64 1))⟩,
 ⟨(some 7), none, .mov (.t 24)⟩])))))))
 (.seq (.keep [4] (.ops false [⟨(some 53), none, .mov (.t 5)⟩,
 ⟨(some 4), none, .mov (.t 53)⟩]))
 .ret)))))
def gimbalref01_plus.res : List RX := [(4, none)]
theorem gimbalref01_plus.m : mK pg Try.f116.ntmps gimbalref01_plus.k (Try.f116.body.getD .skip) = true := by kernel_rfl
theorem gimbalref01_plus.mr : mRes pg Try.f116.results.toList gimbalref01_plus.res = true := by kernel_rfl
theorem gimbalref01_plus.ofG {args : List V} {H : Hp} {n : Nat} {Q : V → Hp → Nat → Prop} (hn : args.length = 2) (hW : W pg gimbalref01_plus.k (doneG gimbalref01_plus.res (fun r H' n' => n ≤ n' ∧ Q r H' n')) (startG args H n)) : ∃ r H' n', Q r H' n' ∧ RetG pg n_gimbalref01_plus args H n r H' n' :=
 RetG_of (fn := Try.f116) Try.func116 rfl (by kernel_rfl) gimbalref01_plus.m gimbalref01_plus.mr (by rw [hn]; exact of_decide_eq_true (by kernel_rfl)) hW
def gimbalref01_size.k : K :=
 (.seq (.keep [0, 1] (.ops false [⟨(some 4), none, .mov (.c (.int .i64 0))⟩]))
 (.seq (.seq (.keep [0, 1, 10] (.ops false [⟨(some 6), none, .mov (.t 0)⟩,
 ⟨(some 7), none, .len false (.t 6)⟩,
 ⟨(some 8), none, .mov (.t 1)⟩,
 ⟨(some 9), none, .len false (.t 8)⟩,
 ⟨(some 10), none, .bin .neq (.t 7) (.t 9)⟩]))
 (.cond (.t 10) (.seq (.seq (.keep [15] (.ops false [⟨(some 11), none, .mov (.t 0)⟩,
 ⟨(some 12), none, .len false (.t 11)⟩,
 ⟨(some 13), none, .mov (.t 1)⟩,
 ⟨(some 14), none, .len false (.t 13)⟩,
 ⟨(some 15), none, .bin .lss (.t 12) (.t 14)⟩]))
 (.cond (.t 15) (.seq (.keep [4] (.ops false [⟨(some 4), none, .mov (.c (.int .i64 (-1)))⟩]))
 .ret)
 .skip))
 (.seq (.keep [4] (.ops false [⟨(some 4), none, .mov (.c (.int .i64 1))⟩]))
 .ret))
 .skip))
 (.seq (.seq (.keep [0, 1, 5] (.ops false [⟨(some 16), none, .mov (.t 0)⟩,
 ⟨(some 17), none, .len false (.t 16)⟩,
 ⟨(some 18), none, .bin .sub (.t 17) (.c (.int .i64 1))⟩,
 ⟨(some 5), none, .mov (.t 18)⟩]))
 (.block 0 (.loop (.seq (.seq (.keep [0, 1, 5, 20] (.ops false [⟨(some 19), none, .mov (.t 5)⟩,
 ⟨(some 20), none, .bin .geq (.t 19) (.c (.int .i64 0))⟩]))
 (.cond (.t 20) .skip
 (.exit 0)))
 (.seq (.block 1 (.seq (.seq (.keep [0, 1, 5, 31] (.ops true [⟨(some 23), none, .mov (.t 0)⟩,
 ⟨(some 24), none, .mov (.t 5)⟩,
 ⟨(some 25), none, .idxA 1 (.t 23) (.t 24)⟩,
 ⟨(some 26), none, .load 1 false (.t 25)⟩,
 ⟨(some 27), none, .mov (.t 1)⟩,
 ⟨(some 28), none, .mov (.t 5)⟩,
 ⟨(some 29), none, .idxA 1 (.t 27) (.t 28)⟩,
 ⟨(some 30), none, .load 1 false (.t 29)⟩,
 ⟨(some 31), none, .bin .lss (.t 26) (.t 30)⟩]))
 (.cond (.t 31) (.seq (.keep [4] (.ops false [⟨(some 4), none, .mov (.c (.int .i64 (-1)))⟩]))
 .ret)
 .skip))
 (.seq (.keep [0, 1, 5, 40] (.ops true [⟨(some 32), none, .mov (.t 0)⟩,
 ⟨(some 33), none, .mov (.t 5)⟩,
 ⟨(some 34), none, .idxA 1 (.t 32) (.t 33)⟩,
 ⟨(some 35), none, .load 1 false (.t 34)⟩,
 ⟨(some 36), none, .mov (.t 1)⟩,
 ⟨(some 37), none, .mov (.t 5)⟩,
 ⟨(some 38), none, .idxA 1 (.t 36) (.t 37)⟩,
 ⟨(some 39), none, .load 1 false (.t 38)⟩,
 ⟨(some 40), none, .bin .gtr (.t 35) (.t 39)⟩]))
 (.cond (.t 40) (.seq (.keep [4] (.ops false [⟨(some 4), none, .mov (.c (.int .i64 1))⟩]))
 .ret)
 .skip))))
 (.keep [0, 1, 5] (.ops false [⟨(some 21), none, .mov (.t 5)⟩,
 ⟨(some 22), none, .bin .sub (.t 21) (.c (.int .i64 1))⟩,
 ⟨(some 5), none, .mov (.t 22)⟩])))))))
 (.seq (.keep [4] (.ops false [⟨(some 4), none, .mov (.c (.int .i64 0))⟩]))
 .ret))))
def gimbalref01_size.res : List RX := [(4, none)]
theorem gimbalref01_size.m : mK pg Try.f117.ntmps gimbalref01_size.k (Try.f117.body.getD .skip) = true := by kernel_rfl
theorem gimbalref01_size.mr : mRes pg Try.f117.results.toList gimbalref01_size.res = true := by kernel_rfl
theorem gimbalref01_size.of {args : List V} {r : V} (hn : args.length = 2) (hW : W pg gimbalref01_size.k (done gimbalref01_size.res r) (start args)) : Ret pg n_gimbalref01_size args r :=
 Ret_of (fn := Try.f117) Try.func117 rfl (by kernel_rfl) gimbalref01_size.m gimbalref01_size.mr (by rw [hn]; exact of_decide_eq_true (by kernel_rfl)) hW
def gimbalref01_less.k : K :=
 (.seq (.keep [0, 1] (.ops false [⟨(some 4), none, .mov (.c .nil)⟩]))
 (.seq (.keep [0, 1, 5] (.ops false [⟨(some 5), none, .mov (.c .nil)⟩]))
 (.seq (.keep [0, 1, 5, 6] (.ops false [⟨(some 6), none, .mov (.c (.int .i64 0))⟩]))
 (.seq (.seq (.keep [0, 1, 5, 6, 7] (.ops false [⟨(some 7), none, .mov (.c (.int .i64 0))⟩]))
 (.block 0 (.loop (.seq (.seq (.keep [0, 1, 5, 6, 7, 12] (.ops false [⟨(some 9), none, .mov (.t 7)⟩,
 ⟨(some 10), none, .mov (.t 0)⟩,
 ⟨(some 11), none, .len false (.t 10)⟩,
 ⟨(some 12), none, .bin .lss (.t 9) (.t 11)⟩]))
 (.cond (.t 12) .skip
 (.exit 0)))
 (.seq (.block 1 (.seq (.keep [0, 1, 5, 7, 8] (.ops false [⟨(some 15), none, .mov (.t 0)⟩,
 ⟨(some 16), none, .mov (.t 7)⟩,
 ⟨(some 17), none, .idxA 1 (.t 15) (.t 16)⟩,
 ⟨(some 18), none, .load 1 false (.t 17)⟩,
 ⟨(some 19), none, .mov (.t 6)⟩,
 ⟨(some 20), none, .bin .sub (.t 18) (.t 19)⟩,
 ⟨(some 8), none, .mov (.t 20)⟩]))
 (.seq (.seq (.keep [0, 1, 5, 7, 8, 24] (.ops false [⟨(some 21), none, .mov (.t 7)⟩,
 ⟨(some 22), none, .mov (.t 1)⟩,
 ⟨(some 23), none, .len false (.t 22)⟩,
 ⟨(some 24), none, .bin .lss (.t 21) (.t 23)⟩]))
 (.cond (.t 24) (.keep [0, 1, 5, 7, 8] (.ops false [⟨(some 25), none, .mov (.t 8)⟩,
 ⟨(some 26), none, .mov (.t 1)⟩,
 ⟨(some 27), none, .mov (.t 7)⟩,
 ⟨(some 28), none, .idxA 1 (.t 26) (.t 27)⟩,
 ⟨(some 29), none, .load 1 false (.t 28)⟩,
 ⟨(some 30), none, .bin .sub (.t 25) (.t 29)⟩,
 ⟨(some 8), none, .mov (.t 30)⟩]))
 .skip))
 (.seq (.keep [0, 1, 5, 6, 7, 8] (.ops false [⟨(some 6), none, .mov (.c (.int .i64 0))⟩]))
 (.seq (.seq (.keep [0, 1, 5, 6, 7, 8, 32] (.ops false [⟨(some 31), none, .mov (.t 8)⟩,
 ⟨(some 32), none, .bin .lss (.t 31) (.c (.int .i64 0))⟩]))
 (.cond (.t 32) (.seq (.keep [0, 1, 5, 7, 8] (.ops false [⟨(some 33), none, .mov (.t 8)⟩,
 ⟨(some 34), none, .bin .add (.t 33) (.c (.int .i64 10))⟩,
 ⟨(some 8), none, .mov (.t 34)⟩]))
 (.keep [0, 1, 5, 6, 7, 8] (.ops false [⟨(some 6), none, .mov (.c (.int .i64 1))⟩])))
 .skip))
 (.keep [0, 1, 5, 6, 7] (.ops false [⟨(some 35), none, .mov (.t 5)⟩,
 ⟨(some 36), none, .mov (.t 8)⟩,
 ⟨(some 37), none, .new (.bsl 1) [(.t 36)]⟩,
 ⟨(some 38), none, .eff (.app 1 8) [(.t 35), (.t 37)]⟩,
 ⟨(some 5), none, .mov (.t 38)⟩])))))))
 (.keep [0, 1, 5, 6, 7] (.ops false [⟨(some 13), none, .mov (.t 7)⟩,
 ⟨(some 14), none, .bin .add (.t 13) (.c (.int .i64 1))⟩,
 ⟨(some 7), none, .mov (.t 14)⟩])))))))
 (.seq (.keep [4] (.ops false [⟨(some 39), none, .mov (.t 5)⟩,
 ⟨(some 4), none, .mov (.t 39)⟩]))
 .ret)))))
def gimbalref01_less.res : List RX := [(4, none)]
theorem gimbalref01_less.m : mK pg Try.f118.ntmps gimbalref01_less.k (Try.f118.body.getD .skip) = true := by kernel_rfl
theorem gimbalref01_less.mr : mRes pg Try.f118.results.toList gimbalref01_less.res = true := by kernel_rfl
theorem gimbalref01_less.of {args : List V} {r : V} (hn : args.length = 2) (hW : W pg gimbalref01_less.k (done gimbalref01_less.res r) (start args)) : Ret pg n_gimbalref01_less args r :=
 Ret_of (fn := Try.f118) Try.func118 rfl (by kernel_rfl) gimbalref01_less.m gimbalref01_less.mr (by rw [hn]; exact of_decide_eq_true (by kernel_rfl)) hW
def gimbalref01_Int_String.k : K :=
 (.seq (.keep [1] (.ops false [⟨(some 1), none, .boxP (.t 0)⟩,
 ⟨(some 2), none, .mov (.c (.str ⟨#[]⟩))⟩]))
 (.seq (.seq (.keep [1, 8] (.ops false [⟨(some 5), none, .fldA 1 1 false (.t 1)⟩,
 ⟨(some 6), none, .load 1 false (.t 5)⟩,
 ⟨(some 7), none, .len false (.t 6)⟩,
 ⟨(some 8), none, .bin .eql (.t 7) (.c (.int .i64 0))⟩]))
 (.cond (.t 8) (.seq (.keep [2] (.ops false [⟨(some 2), none, .mov (.c (.str ⟨#[48]⟩))⟩]))
 .ret)
 .skip))
 (.seq (.keep [1, 3] (.ops false [⟨(some 3), none, .mov (.c .nil)⟩]))
 (.seq (.seq (.keep [1, 3, 10] (.ops false [⟨(some 9), none, .fldA 0 1 false (.t 1)⟩,
 ⟨(some 10), none, .load 1 false (.t 9)⟩]))
 (.cond (.t 10) (.keep [1, 3] (.ops false [⟨(some 11), none, .mov (.t 3)⟩,
 ⟨(some 12), none, .new (.bsl 1) [(.c (.int .u8 45))]⟩,
 ⟨(some 13), none, .eff (.app 1 1) [(.t 11), (.t 12)]⟩,
 ⟨(some 3), none, .mov (.t 13)⟩]))
 .skip))
 (.seq (.seq (.keep [1, 3, 4] (.ops false [⟨(some 14), none, .fldA 1 1 false (.t 1)⟩,
 ⟨(some 15), none, .load 1 false (.t 14)⟩,
 ⟨(some 16), none, .len false (.t 15)⟩,
 ⟨(some 17), none, .bin .sub (.t 16) (.c (.int .i64 1))⟩,
 ⟨(some 4), none, .mov (.t 17)⟩]))
 (.block 0 (.loop (.seq (.seq (.keep [1, 3, 4, 19] (.ops false [⟨(some 18), none, .mov (.t 4)⟩,
 ⟨(some 19), none, .bin .geq (.t 18) (.c (.int .i64 0))⟩]))
 (.cond (.t 19) .skip
 (.exit 0)))
 (.seq (.block 1 (.keep [1, 3, 4] (.ops false [⟨(some 22), none, .mov (.t 3)⟩,
 ⟨(some 23), none, .fldA 1 1 false (.t 1)⟩,
 ⟨(some 24), none, .load 1 false (.t 23)⟩,
 ⟨(some 25), none, .mov (.t 4)⟩,
 ⟨(some 26), none, .idxA 1 (.t 24) (.t 25)⟩,
 ⟨(some 27), none, .load 1 false (.t 26)⟩,
 ⟨(some 28), none, .bin .add (.c (.int .i64 48)) (.t 27)⟩,
 ⟨(some 29), none, .conv .u8 (.t 28)⟩,
 ⟨(some 30), none, .new (.bsl 1) [(.t 29)]⟩,
 ⟨(some 31), none, .eff (.app 1 1) [(.t 22), (.t 30)]⟩,
 ⟨(some 3), none, .mov (.t 31)⟩])))
 (.keep [1, 3, 4] (.ops false [⟨(some 20), none, .mov (.t 4)⟩,
 ⟨(some 21), none, .bin .sub (.t 20) (.c (.int .i64 1))⟩,
 ⟨(some 4), none, .mov (.t 21)⟩])))))))
 (.seq (.keep [2] (.ops false [⟨(some 32), none, .mov (.t 3)⟩,
 ⟨(some 33), none, .eff .b2sO [(.t 32)]⟩,
 ⟨(some 2), none, .mov (.t 33)⟩]))
 .ret))))))
def gimbalref01_Int_String.res : List RX := [(2, none)]
theorem gimbalref01_Int_String.m : mK pg Try.f29.ntmps gimbalref01_Int_String.k (Try.f29.body.getD .skip) = true := by kernel_rfl
theorem gimbalref01_Int_String.mr : mRes pg Try.f29.results.toList gimbalref01_Int_String.res = true := by kernel_rfl
theorem gimbalref01_Int_String.of {args : List V} {r : V} (hn : args.length = 1) (hW : W pg gimbalref01_Int_String.k (done gimbalref01_Int_String.res r) (start args)) : Ret pg n_gimbalref01_Int_String args r :=
 Ret_of (fn := Try.f29) Try.func29 rfl (by kernel_rfl) gimbalref01_Int_String.m gimbalref01_Int_String.mr (by rw [hn]; exact of_decide_eq_true (by kernel_rfl)) hW
def gimbalref01_Int_Sign.k : K :=
 (.seq (.keep [1] (.ops false [⟨(some 1), none, .boxP (.t 0)⟩,
 ⟨(some 2), none, .mov (.c (.int .i64 0))⟩]))
 (.seq (.seq (.keep [1, 6] (.ops false [⟨(some 3), none, .fldA 1 1 false (.t 1)⟩,
 ⟨(some 4), none, .load 1 false (.t 3)⟩,
 ⟨(some 5), none, .len false (.t 4)⟩,
 ⟨(some 6), none, .bin .eql (.t 5) (.c (.int .i64 0))⟩]))
 (.cond (.t 6) (.seq (.keep [2] (.ops false [⟨(some 2), none, .mov (.c (.int .i64 0))⟩]))
 .ret)
 .skip))
 (.seq (.seq (.keep [8] (.ops false [⟨(some 7), none, .fldA 0 1 false (.t 1)⟩,
 ⟨(some 8), none, .load 1 false (.t 7)⟩]))
 (.cond (.t 8) (.seq (.keep [2] (.ops false [⟨(some 2), none, .mov (.c (.int .i64 (-1)))⟩]))
 .ret)
 .skip))
 (.seq (.keep [2] (.ops false [⟨(some 2), none, .mov (.c (.int .i64 1))⟩]))
 .ret))))
def gimbalref01_Int_Sign.res : List RX := [(2, none)]
theorem gimbalref01_Int_Sign.m : mK pg Try.f30.ntmps gimbalref01_Int_Sign.k (Try.f30.body.getD .skip) = true := by kernel_rfl
theorem gimbalref01_Int_Sign.mr : mRes pg Try.f30.results.toList gimbalref01_Int_Sign.res = true := by kernel_rfl
theorem gimbalref01_Int_Sign.of {args : List V} {r : V} (hn : args.length = 1) (hW : W pg gimbalref01_Int_Sign.k (done gimbalref01_Int_Sign.res r) (start args)) : Ret pg n_gimbalref01_Int_Sign args r :=
 Ret_of (fn := Try.f30) Try.func30 rfl (by kernel_rfl) gimbalref01_Int_Sign.m gimbalref01_Int_Sign.mr (by rw [hn]; exact of_decide_eq_true (by kernel_rfl)) hW
def gimbalref01_Int_Mul.k : K :=
 (.seq (.keep [2, 3, 4] (.ops false [⟨(some 2), none, .boxP (.t 0)⟩,
 ⟨(some 3), none, .boxP (.t 1)⟩,
 ⟨(some 4), none, .alloc 2 (.agg [(.bool false), .nil])⟩]))
 (.seq (.keep [2, 3, 4, 5] (.ops false [⟨(some 10), none, .fldA 1 1 false (.t 2)⟩,
 ⟨(some 11), none, .load 1 false (.t 10)⟩,
 ⟨(some 12), none, .len false (.t 11)⟩,
 ⟨(some 13), none, .fldA 1 1 false (.t 3)⟩,
 ⟨(some 14), none, .load 1 false (.t 13)⟩,
 ⟨(some 15), none, .len false (.t 14)⟩,
 ⟨(some 16), none, .bin .add (.t 12) (.t 15)⟩,
 ⟨(some 17), none, .bin .add (.t 16) (.c (.int .i64 1))⟩,
 ⟨(some 18), none, .new (.mks 1 8 (.int .i64 0)) [(.t 17), (.t 17)]⟩,
 ⟨(some 5), none, .mov (.t 18)⟩]))
 (.seq (.seq (.keep [2, 3, 4, 5, 6] (.ops false [⟨(some 6), none, .mov (.c (.int .i64 0))⟩]))
 (.block 0 (.loop (.seq (.seq (.keep [2, 3, 4, 5, 6, 23] (.ops false [⟨(some 19), none, .mov (.t 6)⟩,
 ⟨(some 20), none, .fldA 1 1 false (.t 2)⟩,
 ⟨(some 21), none, .load 1 false (.t 20)⟩,
 ⟨(some 22), none, .len false (.t 21)⟩,
 ⟨(some 23), none, .bin .lss (.t 19) (.t 22)⟩]))
 (.cond (.t 23) .skip
 (.exit 0)))
 (.seq (.block 1 (.seq (.keep [2, 3, 4, 5, 6, 7] (.ops false [⟨(some 7), none, .mov (.c (.int .i64 0))⟩]))
 (.seq (.keep [2, 3, 4, 5, 6, 7, 8] (.ops false [⟨(some 8), none, .mov (.c (.int .i64 0))⟩]))
 (.block 2 (.loop (.seq (.seq (.keep [2, 3, 4, 5, 6, 7, 8, 34] (.ops false [⟨(some 26), none, .mov (.t 8)⟩,
 ⟨(some 27), none, .fldA 1 1 false (.t 3)⟩,
 ⟨(some 28), none, .load 1 false (.t 27)⟩,
 ⟨(some 29), none, .len false (.t 28)⟩,
 ⟨(some 30), none, .bin .lss (.t 26) (.t 29)⟩,
 ⟨(some 31), none, .mov (.t 30)⟩,
 ⟨(some 32), (some (31, false)), .mov (.t 7)⟩,
 ⟨(some 33), (some (31, false)), .bin .gtr (.t 32) (.c (.int .i64 0))⟩,
 ⟨(some 34), none, .pick (.t 31) (.c (.bool true)) (.t 33)⟩]))
 (.cond (.t 34) .skip
 (.exit 2)))
 (.seq (.block 3 (.seq (.keep [2, 3, 4, 5, 6, 8, 9] (.ops false [⟨(some 37), none, .mov (.t 5)⟩,
 ⟨(some 38), none, .mov (.t 6)⟩,
 ⟨(some 39), none, .mov (.t 8)⟩,
 ⟨(some 40), none, .bin .add (.t 38) (.t 39)⟩,
 ⟨(some 41), none, .idxA 1 (.t 37) (.t 40)⟩,
 ⟨(some 42), none, .load 1 false (.t 41)⟩,
 ⟨(some 43), none, .mov (.t 7)⟩,
 ⟨(some 44), none, .bin .add (.t 42) (.t 43)⟩,
 ⟨(some 9), none, .mov (.t 44)⟩]))
 (.seq (.seq (.keep [2, 3, 4, 5, 6, 8, 9, 49] (.ops false [⟨(some 45), none, .mov (.t 8)⟩,
 ⟨(some 46), none, .fldA 1 1 false (.t 3)⟩,
 ⟨(some 47), none, .load 1 false (.t 46)⟩,
 ⟨(some 48), none, .len false (.t 47)⟩,
 ⟨(some 49), none, .bin .lss (.t 45) (.t 48)⟩]))
 (.cond (.t 49) (.keep [2, 3, 4, 5, 6, 8, 9] (.ops true [⟨(some 50), none, .mov (.t 9)⟩,
 ⟨(some 51), none, .fldA 1 1 false (.t 2)⟩,
 ⟨(some 52), none, .load 1 false (.t 51)⟩,
 ⟨(some 53), none, .mov (.t 6)⟩,
 ⟨(some 54), none, .idxA 1 (.t 52) (.t 53)⟩,
 ⟨(some 55), none, .load 1 false (.t 54)⟩,
 ⟨(some 56), none, .fldA 1 1 false (.t 3)⟩,
 ⟨(some 57), none, .load 1 false (.t 56)⟩,
 ⟨(some 58), none, .mov (.t 8)⟩,
 ⟨(some 59), none, .idxA 1 (.t 57) (.t 58)⟩,
 ⟨(some 60), none, .load 1 false (.t 59)⟩,
 ⟨(some 61), none, .bin .mul (.t 55) (.t 60)⟩,
 ⟨(some 62), none, .bin .add (.t 50) (.t 61)⟩,
 ⟨(some 9), none, .mov (.t 62)⟩]))
 .skip))
 (.seq (.keep [2, 3, 4, 5, 6, 8, 9] (.ops false [⟨(some 63), none, .mov (.t 5)⟩,
 ⟨(some 64), none, .mov (.t 6)⟩,
 ⟨(some 65), none, .mov (.t 8)⟩,
 ⟨(some 66), none, .bin .add (.t 64) (.t 65)⟩,
 ⟨(some 67), none, .mov (.t 9)⟩,
 ⟨(some 68), none, .bin .rem (.t 67) (.c (.int .i64 10))⟩,
 ⟨(some 69), none, .idxA 1 (.t 63) (.t 66)⟩,
 ⟨none, none, .store 1 (.t 69) (.t 68)⟩]))
 (.keep [2, 3, 4, 5, 6, 7, 8] (.ops false [⟨(some 70), none, .mov (.t 9)⟩,
 ⟨(some 71), none, .bin .quo (.t 70) (.c (.int .i64 10))⟩,
 ⟨(some 7), none, .mov (.t 71)⟩]))))))
 (.keep [2, 3, 4, 5, 6, 7, 8] (.ops false [⟨(some 35), none, .mov (.t 8)⟩,
 ⟨(some 36), none, .bin .add (.t 35) (.c (.int .i64 1))⟩,
 ⟨(some 8), none, .mov (.t 36)⟩])))))))))
 (.keep [2, 3, 4, 5, 6] (.ops false [⟨(some 24), none, .mov (.t 6)⟩,
 ⟨(some 25), none, .bin .add (.t 24) (.c (.int .i64 1))⟩,
 ⟨(some 6), none, .mov (.t 25)⟩])))))))
 (.seq (.keep [4] (.ops false [⟨(some 72), none, .fldA 0 1 false (.t 2)⟩,
 ⟨(some 73), none, .load 1 false (.t 72)⟩,
 ⟨(some 74), none, .fldA 0 1 false (.t 3)⟩,
 ⟨(some 75), none, .load 1 false (.t 74)⟩,
 ⟨(some 76), none, .eqB true (.t 73) (.t 75)⟩,
 ⟨(some 77), none, .mov (.t 5)⟩,
 ⟨(some 78), none, .callG n_gimbalref01_made [(.t 76), (.t 77)]⟩,
 ⟨none, none, .store 2 (.t 4) (.t 78)⟩]))
 .ret))))
def gimbalref01_Int_Mul.res : List RX := [(4, some (2, true))]
theorem gimbalref01_Int_Mul.m : mK pg Try.f82.ntmps gimbalref01_Int_Mul.k (Try.f82.body.getD .skip) = true := by kernel_rfl
theorem gimbalref01_Int_Mul.mr : mRes pg Try.f82.results.toList gimbalref01_Int_Mul.res = true := by kernel_rfl
theorem gimbalref01_Int_Mul.of {args : List V} {r : V} (hn : args.length = 2) (hW : W pg gimbalref01_Int_Mul.k (done gimbalref01_Int_Mul.res r) (start args)) : Ret pg n_gimbalref01_Int_Mul args r :=
 Ret_of (fn := Try.f82) Try.func82 rfl (by kernel_rfl) gimbalref01_Int_Mul.m gimbalref01_Int_Mul.mr (by rw [hn]; exact of_decide_eq_true (by kernel_rfl)) hW
def gimbalref01_Int_Minus.k : K :=
 (.seq (.keep [1, 2] (.ops false [⟨(some 1), none, .boxP (.t 0)⟩,
 ⟨(some 2), none, .alloc 2 (.agg [(.bool false), .nil])⟩]))
 (.seq (.keep [2] (.ops false [⟨(some 3), none, .fldA 0 1 false (.t 1)⟩,
 ⟨(some 4), none, .load 1 false (.t 3)⟩,
 ⟨(some 5), none, .un .not (.t 4)⟩,
 ⟨(some 6), none, .fldA 1 1 false (.t 1)⟩,
 ⟨(some 7), none, .load 1 false (.t 6)⟩,
 ⟨(some 8), none, .callG n_gimbalref01_made [(.t 5), (.t 7)]⟩,
 ⟨none, none, .store 2 (.t 2) (.t 8)⟩]))
 .ret))
def gimbalref01_Int_Minus.res : List RX := [(2, some (2, true))]
theorem gimbalref01_Int_Minus.m : mK pg Try.f84.ntmps gimbalref01_Int_Minus.k (Try.f84.body.getD .skip) = true := by kernel_rfl
theorem gimbalref01_Int_Minus.mr : mRes pg Try.f84.results.toList gimbalref01_Int_Minus.res = true := by kernel_rfl
theorem gimbalref01_Int_Minus.of {args : List V} {r : V} (hn : args.length = 1) (hW : W pg gimbalref01_Int_Minus.k (done gimbalref01_Int_Minus.res r) (start args)) : Ret pg n_gimbalref01_Int_Minus args r :=
 Ret_of (fn := Try.f84) Try.func84 rfl (by kernel_rfl) gimbalref01_Int_Minus.m gimbalref01_Int_Minus.mr (by rw [hn]; exact of_decide_eq_true (by kernel_rfl)) hW
def gimbalref01_Int_Add.k : K :=
 (.seq (.keep [2, 3, 4] (.ops false [⟨(some 2), none, .boxP (.t 0)⟩,
 ⟨(some 3), none, .boxP (.t 1)⟩,
 ⟨(some 4), none, .alloc 2 (.agg [(.bool false), .nil])⟩]))
 (.seq (.seq (.keep [2, 3, 4, 10] (.ops false [⟨(some 6), none, .fldA 0 1 false (.t 2)⟩,
 ⟨(some 7), none, .load 1 false (.t 6)⟩,
 ⟨(some 8), none, .fldA 0 1 false (.t 3)⟩,
 ⟨(some 9), none, .load 1 false (.t 8)⟩,
 ⟨(some 10), none, .eqB false (.t 7) (.t 9)⟩]))
 (.cond (.t 10) (.seq (.keep [4] (.ops true [⟨(some 11), none, .fldA 0 1 false (.t 2)⟩,
 ⟨(some 12), none, .load 1 false (.t 11)⟩,
 ⟨(some 13), none, .fldA 1 1 false (.t 2)⟩,
 ⟨(some 14), none, .load 1 false (.t 13)⟩,
 ⟨(some 15), none, .fldA 1 1 false (.t 3)⟩,
 ⟨(some 16), none, .load 1 false (.t 15)⟩,
 ⟨(some 17), none, .call n_gimbalref01_plus [(.t 14), (.t 16)]⟩,
 ⟨(some 18), none, .call n_gimbalref01_made [(.t 12), (.t 17)]⟩,
 ⟨none, none, .store 2 (.t 4) (.t 18)⟩]))
 .ret)
 .skip))
 (.seq (.keep [2, 3, 4, 5] (.ops false [⟨(some 19), none, .fldA 1 1 false (.t 2)⟩,
 ⟨(some 20), none, .load 1 false (.t 19)⟩,
 ⟨(some 21), none, .fldA 1 1 false (.t 3)⟩,
 ⟨(some 22), none, .load 1 false (.t 21)⟩,
 ⟨(some 23), none, .callG n_gimbalref01_size [(.t 20), (.t 22)]⟩,
 ⟨(some 5), none, .mov (.t 23)⟩]))
 (.seq (.seq (.keep [2, 3, 4, 25] (.ops false [⟨(some 24), none, .mov (.t 5)⟩,
 ⟨(some 25), none, .bin .geq (.t 24) (.c (.int .i64 0))⟩]))
 (.cond (.t 25) (.seq (.keep [4] (.ops true [⟨(some 26), none, .fldA 0 1 false (.t 2)⟩,
 ⟨(some 27), none, .load 1 false (.t 26)⟩,
 ⟨(some 28), none, .fldA 1 1 false (.t 2)⟩,
 ⟨(some 29), none, .load 1 false (.t 28)⟩,
 ⟨(some 30), none, .fldA 1 1 false (.t 3)⟩,
 ⟨(some 31), none, .load 1 false (.t 30)⟩,
 ⟨(some 32), none, .call n_gimbalref01_less [(.t 29), (.t 31)]⟩,
 ⟨(some 33), none, .call n_gimbalref01_made [(.t 27), (.t 32)]⟩,
 ⟨none, none, .store 2 (.t 4) (.t 33)⟩]))
 .ret)
 .skip))
 (.seq (.keep [4] (.ops true [⟨(some 34), none, .fldA 0 1 false (.t 3)⟩,
 ⟨(some 35), none, .load 1 false (.t 34)⟩,
 ⟨(some 36), none, .fldA 1 1 false (.t 3)⟩,
 ⟨(some 37), none, .load 1 false (.t 36)⟩,
 ⟨(some 38), none, .fldA 1 1 false (.t 2)⟩,
 ⟨(some 39), none, .load 1 false (.t 38)⟩,
 ⟨(some 40), none, .call n_gimbalref01_less [(.t 37), (.t 39)]⟩,
 ⟨(some 41), none, .call n_gimbalref01_made [(.t 35), (.t 40)]⟩,
 ⟨none, none, .store 2 (.t 4) (.t 41)⟩]))
 .ret)))))
def gimbalref01_Int_Add.res : List RX := [(4, some (2, true))]
theorem gimbalref01_Int_Add.m : mK pg Try.f85.ntmps gimbalref01_Int_Add.k (Try.f85.body.getD .skip) = true := by kernel_rfl
theorem gimbalref01_Int_Add.mr : mRes pg Try.f85.results.toList gimbalref01_Int_Add.res = true := by kernel_rfl
theorem gimbalref01_Int_Add.of {args : List V} {r : V} (hn : args.length = 2) (hW : W pg gimbalref01_Int_Add.k (done gimbalref01_Int_Add.res r) (start args)) : Ret pg n_gimbalref01_Int_Add args r :=
 Ret_of (fn := Try.f85) Try.func85 rfl (by kernel_rfl) gimbalref01_Int_Add.m gimbalref01_Int_Add.mr (by rw [hn]; exact of_decide_eq_true (by kernel_rfl)) hW
def gimbalref01_Int_Cmp.k : K :=
 (.seq (.keep [2, 3] (.ops false [⟨(some 2), none, .boxP (.t 0)⟩,
 ⟨(some 3), none, .boxP (.t 1)⟩,
 ⟨(some 4), none, .mov (.c (.int .i64 0))⟩]))
 (.seq (.seq (.keep [2, 3, 10] (.ops false [⟨(some 6), none, .fldA 0 1 false (.t 2)⟩,
 ⟨(some 7), none, .load 1 false (.t 6)⟩,
 ⟨(some 8), none, .fldA 0 1 false (.t 3)⟩,
 ⟨(some 9), none, .load 1 false (.t 8)⟩,
 ⟨(some 10), none, .eqB true (.t 7) (.t 9)⟩]))
 (.cond (.t 10) (.seq (.seq (.keep [12] (.ops false [⟨(some 11), none, .fldA 0 1 false (.t 2)⟩,
 ⟨(some 12), none, .load 1 false (.t 11)⟩]))
 (.cond (.t 12) (.seq (.keep [4] (.ops false [⟨(some 4), none, .mov (.c (.int .i64 (-1)))⟩]))
 .ret)
 .skip))
 (.seq (.keep [4] (.ops false [⟨(some 4), none, .mov (.c (.int .i64 1))⟩]))
 .ret))
 .skip))
 (.seq (.keep [2, 5] (.ops false [⟨(some 13), none, .fldA 1 1 false (.t 2)⟩,
 ⟨(some 14), none, .load 1 false (.t 13)⟩,
 ⟨(some 15), none, .fldA 1 1 false (.t 3)⟩,
 ⟨(some 16), none, .load 1 false (.t 15)⟩,
 ⟨(some 17), none, .callG n_gimbalref01_size [(.t 14), (.t 16)]⟩,
 ⟨(some 5), none, .mov (.t 17)⟩]))
 (.seq (.seq (.keep [5, 19] (.ops false [⟨(some 18), none, .fldA 0 1 false (.t 2)⟩,
 ⟨(some 19), none, .load 1 false (.t 18)⟩]))
 (.cond (.t 19) (.seq (.keep [4] (.ops false [⟨(some 20), none, .mov (.t 5)⟩,
 ⟨(some 21), none, .un .neg (.t 20)⟩,
 ⟨(some 4), none, .mov (.t 21)⟩]))
 .ret)
 .skip))
 (.seq (.keep [4] (.ops false [⟨(some 22), none, .mov (.t 5)⟩,
 ⟨(some 4), none, .mov (.t 22)⟩]))
 .ret)))))
def gimbalref01_Int_Cmp.res : List RX := [(4, none)]
theorem gimbalref01_Int_Cmp.m : mK pg Try.f98.ntmps gimbalref01_Int_Cmp.k (Try.f98.body.getD .skip) = true := by kernel_rfl
theorem gimbalref01_Int_Cmp.mr : mRes pg Try.f98.results.toList gimbalref01_Int_Cmp.res = true := by kernel_rfl
theorem gimbalref01_Int_Cmp.of {args : List V} {r : V} (hn : args.length = 2) (hW : W pg gimbalref01_Int_Cmp.k (done gimbalref01_Int_Cmp.res r) (start args)) : Ret pg n_gimbalref01_Int_Cmp args r :=
 Ret_of (fn := Try.f98) Try.func98 rfl (by kernel_rfl) gimbalref01_Int_Cmp.m gimbalref01_Int_Cmp.mr (by rw [hn]; exact of_decide_eq_true (by kernel_rfl)) hW
def gimbalref01_Int_Sub.k : K :=
 (.seq (.keep [2, 3, 4] (.ops false [⟨(some 2), none, .boxP (.t 0)⟩,
 ⟨(some 3), none, .boxP (.t 1)⟩,
 ⟨(some 4), none, .alloc 2 (.agg [(.bool false), .nil])⟩]))
 (.seq (.keep [4] (.ops true [⟨(some 5), none, .load 2 true (.t 2)⟩,
 ⟨(some 6), none, .load 2 true (.t 3)⟩,
 ⟨(some 7), none, .call n_gimbalref01_Int_Minus [(.t 6)]⟩,
 ⟨(some 8), none, .call n_gimbalref01_Int_Add [(.t 5), (.t 7)]⟩,
 ⟨none, none, .store 2 (.t 4) (.t 8)⟩]))
 .ret))
def gimbalref01_Int_Sub.res : List RX := [(4, some (2, true))]
theorem gimbalref01_Int_Sub.m : mK pg Try.f106.ntmps gimbalref01_Int_Sub.k (Try.f106.body.getD .skip) = true := by kernel_rfl
theorem gimbalref01_Int_Sub.mr : mRes pg Try.f106.results.toList gimbalref01_Int_Sub.res = true := by kernel_rfl
theorem gimbalref01_Int_Sub.of {args : List V} {r : V} (hn : args.length = 2) (hW : W pg gimbalref01_Int_Sub.k (done gimbalref01_Int_Sub.res r) (start args)) : Ret pg n_gimbalref01_Int_Sub args r :=
 Ret_of (fn := Try.f106) Try.func106 rfl (by kernel_rfl) gimbalref01_Int_Sub.m gimbalref01_Int_Sub.mr (by rw [hn]; exact of_decide_eq_true (by kernel_rfl)) hW
end Go.Gim

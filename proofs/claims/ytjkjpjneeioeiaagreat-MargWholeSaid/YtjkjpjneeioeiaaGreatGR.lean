import Derived.Test.YtjkjpjneeioeiaaGreatGN
/- Functions' code as data (written by wip/tools/gen.py), and the step to their contracts. -/
set_option maxRecDepth 100000
namespace Go.Gim
open Go.Proofs
def gimbalref01_Of.k : K :=
 (.seq (.keep [0, 2] (.ops false [Ot 2 (.alloc 2 (.agg [(.bool false), .nil]))]))
 (.seq (.keep [0, 2, 3] (.ops false [Ot 3 (.mov (.c .nil))]))
 (.seq (.keep [0, 2, 3, 4] (.ops false [Ot 6 (.mov (.t 0)),
 Ot 7 (.bin .lss (.t 6) (.c (.int .i64 0))),
 Ot 4 (.mov (.t 7))]))
 (.seq (.block 0 (.loop (.seq (.seq (.keep [0, 2, 3, 4, 9] (.ops false [Ot 8 (.mov (.t 0)),
 Ot 9 (.bin .neq (.t 8) (.c (.int .i64 0)))]))
 (.cond (.t 9) .skip
 (.exit 0)))
 (.keep [0, 2, 3, 4] (.block 1 (.seq (.keep [0, 2, 3, 4, 5] (.ops false [Ot 10 (.mov (.t 0)),
 Ot 11 (.bin .rem (.t 10) (.c (.int .i64 10))),
 Ot 5 (.mov (.t 11))]))
 (.seq (.seq (.keep [0, 2, 3, 4, 5, 13] (.ops false [Ot 12 (.mov (.t 5)),
 Ot 13 (.bin .lss (.t 12) (.c (.int .i64 0)))]))
 (.cond (.t 13) (.keep [0, 2, 3, 4, 5] (.ops false [Ot 14 (.mov (.t 5)),
 Ot 15 (.un .neg (.t 14)),
 Ot 5 (.mov (.t 15))]))
 .skip))
 (.seq (.keep [0, 2, 3, 4] (.ops false [Ot 16 (.mov (.t 3)),
 Ot 17 (.mov (.t 5)),
 Ot 18 (.new (.bsl 1) [(.t 17)]),
 Ot 19 (.eff (.app 1 8) [(.t 16), (.t 18)]),
 Ot 3 (.mov (.t 19))]))
 (.keep [0, 2, 3, 4] (.ops false [Ot 20 (.mov (.t 0)),
 Ot 21 (.bin .quo (.t 20) (.c (.int .i64 10))),
 Ot 0 (.mov (.t 21))]))))))))))
 (.seq (.keep [2] (.ops false [Ot 22 (.mov (.t 4)),
 Ot 23 (.mov (.t 3)),
 Ot 24 (.callG za7 [(.t 22), (.t 23)]),
 ⟨none, none, .store 2 (.t 2) (.t 24)⟩]))
 .ret)))))
def gimbalref01_Of.res : List RX := [(2, some (2, true))]
theorem gimbalref01_Of.m : mK pg Tryz.f58.ntmps gimbalref01_Of.k (Tryz.f58.body.getD .skip) = true := by kernel_rfl
theorem gimbalref01_Of.mr : mRes pg Tryz.f58.results.toList gimbalref01_Of.res = true := by kernel_rfl
theorem gimbalref01_Of.of {args : List V} {r : V} (hn : args.length = 1) (hW : W pg gimbalref01_Of.k (done gimbalref01_Of.res r) (start args)) : Ret pg zax args r :=
 Ret_of (fn := Tryz.f58) Tryz.func58 rfl (by kernel_rfl) gimbalref01_Of.m gimbalref01_Of.mr (by rw [hn]; exact of_decide_eq_true (by kernel_rfl)) hW
def gimbalref01_size.k : K :=
 (.seq (.keep [0, 1] (.ops false [Ot 4 (.mov (.c (.int .i64 0)))]))
 (.seq (.seq (.keep [0, 1, 10] (.ops false [Ot 6 (.mov (.t 0)),
 Ot 7 (.len false (.t 6)),
 Ot 8 (.mov (.t 1)),
 Ot 9 (.len false (.t 8)),
 Ot 10 (.bin .neq (.t 7) (.t 9))]))
 (.cond (.t 10) (.seq (.seq (.keep [15] (.ops false [Ot 11 (.mov (.t 0)),
 Ot 12 (.len false (.t 11)),
 Ot 13 (.mov (.t 1)),
 Ot 14 (.len false (.t 13)),
 Ot 15 (.bin .lss (.t 12) (.t 14))]))
 (.cond (.t 15) (.seq (.keep [4] (.ops false [Ot 4 (.mov (.c (.int .i64 (-1))))]))
 .ret)
 .skip))
 (.seq (.keep [4] (.ops false [Ot 4 (.mov (.c (.int .i64 1)))]))
 .ret))
 .skip))
 (.seq (.seq (.keep [0, 1, 5] (.ops false [Ot 16 (.mov (.t 0)),
 Ot 17 (.len false (.t 16)),
 Ot 18 (.bin .sub (.t 17) (.c (.int .i64 1))),
 Ot 5 (.mov (.t 18))]))
 (.block 0 (.loop (.seq (.seq (.keep [0, 1, 5, 20] (.ops false [Ot 19 (.mov (.t 5)),
 Ot 20 (.bin .geq (.t 19) (.c (.int .i64 0)))]))
 (.cond (.t 20) .skip
 (.exit 0)))
 (.seq (.block 1 (.seq (.seq (.keep [0, 1, 5, 31] (.ops true [Ot 23 (.mov (.t 0)),
 Ot 24 (.mov (.t 5)),
 Ot 25 (.idxA 1 (.t 23) (.t 24)),
 Ot 26 (.load 1 false (.t 25)),
 Ot 27 (.mov (.t 1)),
 Ot 28 (.mov (.t 5)),
 Ot 29 (.idxA 1 (.t 27) (.t 28)),
 Ot 30 (.load 1 false (.t 29)),
 Ot 31 (.bin .lss (.t 26) (.t 30))]))
 (.cond (.t 31) (.seq (.keep [4] (.ops false [Ot 4 (.mov (.c (.int .i64 (-1))))]))
 .ret)
 .skip))
 (.seq (.keep [0, 1, 5, 40] (.ops true [Ot 32 (.mov (.t 0)),
 Ot 33 (.mov (.t 5)),
 Ot 34 (.idxA 1 (.t 32) (.t 33)),
 Ot 35 (.load 1 false (.t 34)),
 Ot 36 (.mov (.t 1)),
 Ot 37 (.mov (.t 5)),
 Ot 38 (.idxA 1 (.t 36) (.t 37)),
 Ot 39 (.load 1 false (.t 38)),
 Ot 40 (.bin .gtr (.t 35) (.t 39))]))
 (.cond (.t 40) (.seq (.keep [4] (.ops false [Ot 4 (.mov (.c (.int .i64 1)))]))
 .ret)
 .skip))))
 (.keep [0, 1, 5] (.ops false [Ot 21 (.mov (.t 5)),
 Ot 22 (.bin .sub (.t 21) (.c (.int .i64 1))),
 Ot 5 (.mov (.t 22))])))))))
 (.seq (.keep [4] (.ops false [Ot 4 (.mov (.c (.int .i64 0)))]))
 .ret))))
def gimbalref01_size.res : List RX := [(4, none)]
theorem gimbalref01_size.m : mK pg Tryz.f108.ntmps gimbalref01_size.k (Tryz.f108.body.getD .skip) = true := by kernel_rfl
theorem gimbalref01_size.mr : mRes pg Tryz.f108.results.toList gimbalref01_size.res = true := by kernel_rfl
theorem gimbalref01_size.of {args : List V} {r : V} (hn : args.length = 2) (hW : W pg gimbalref01_size.k (done gimbalref01_size.res r) (start args)) : Ret pg zda args r :=
 Ret_of (fn := Tryz.f108) Tryz.func108 rfl (by kernel_rfl) gimbalref01_size.m gimbalref01_size.mr (by rw [hn]; exact of_decide_eq_true (by kernel_rfl)) hW
def gimbalref01_made.k : K :=
 (.seq (.keep [0, 1, 4] (.ops false [Ot 4 (.alloc 2 (.agg [(.bool false), .nil]))]))
 (.seq (.keep [0, 1, 4, 5] (.ops false [Ot 6 (.mov (.t 1)),
 Ot 7 (.len false (.t 6)),
 Ot 5 (.mov (.t 7))]))
 (.seq (.block 0 (.loop (.seq (.seq (.keep [0, 1, 4, 5, 17] (.ops false [Ot 8 (.mov (.t 5)),
 Ot 9 (.bin .gtr (.t 8) (.c (.int .i64 0))),
 Ot 10 (.mov (.t 9)),
 ⟨(some 11), (some (10, true)), .mov (.t 1)⟩,
 ⟨(some 12), (some (10, true)), .mov (.t 5)⟩,
 ⟨(some 13), (some (10, true)), .bin .sub (.t 12) (.c (.int .i64 1))⟩,
 ⟨(some 14), (some (10, true)), .idxA 1 (.t 11) (.t 13)⟩,
 ⟨(some 15), (some (10, true)), .load 1 false (.t 14)⟩,
 ⟨(some 16), (some (10, true)), .bin .eql (.t 15) (.c (.int .i64 0))⟩,
 Ot 17 (.pick (.t 10) (.t 16) (.c (.bool false)))]))
 (.cond (.t 17) .skip
 (.exit 0)))
 (.keep [0, 1, 4, 5] (.block 1 (.keep [0, 1, 4, 5] (.ops false [Ot 18 (.mov (.t 5)),
 Ot 19 (.bin .sub (.t 18) (.c (.int .i64 1))),
 Ot 5 (.mov (.t 19))])))))))
 (.seq (.keep [4] (.ops false [Ot 20 (.mov (.t 0)),
 Ot 21 (.mov (.t 20)),
 ⟨(some 22), (some (21, true)), .mov (.t 5)⟩,
 ⟨(some 23), (some (21, true)), .bin .gtr (.t 22) (.c (.int .i64 0))⟩,
 Ot 24 (.pick (.t 21) (.t 23) (.c (.bool false))),
 Ot 25 (.mov (.t 1)),
 Ot 26 (.mov (.t 5)),
 Ot 27 (.red (.slc 1 false true false) [(.t 25), (.t 26)]),
 Ot 28 (.build [(.bool false), .nil] [(0, 1, (.t 24)), (1, 1, (.t 27))]),
 ⟨none, none, .store 2 (.t 4) (.t 28)⟩]))
 .ret))))
def gimbalref01_made.res : List RX := [(4, some (2, true))]
theorem gimbalref01_made.m : mK pg Tryz.f128.ntmps gimbalref01_made.k (Tryz.f128.body.getD .skip) = true := by kernel_rfl
theorem gimbalref01_made.mr : mRes pg Tryz.f128.results.toList gimbalref01_made.res = true := by kernel_rfl
theorem gimbalref01_made.of {args : List V} {r : V} (hn : args.length = 2) (hW : W pg gimbalref01_made.k (done gimbalref01_made.res r) (start args)) : Ret pg za7 args r :=
 Ret_of (fn := Tryz.f128) Tryz.func128 rfl (by kernel_rfl) gimbalref01_made.m gimbalref01_made.mr (by rw [hn]; exact of_decide_eq_true (by kernel_rfl)) hW
def gimbalref01_plus.k : K :=
 (.seq (.keep [0, 1] (.ops false [Ot 4 (.mov (.c .nil))]))
 (.seq (.keep [0, 1, 5] (.ops false [Ot 5 (.mov (.c .nil))]))
 (.seq (.keep [0, 1, 5, 6] (.ops false [Ot 6 (.mov (.c (.int .i64 0)))]))
 (.seq (.seq (.keep [0, 1, 5, 6, 7] (.ops false [Ot 7 (.mov (.c (.int .i64 0)))]))
 (.block 0 (.loop (.seq (.seq (.keep [0, 1, 5, 6, 7, 22] (.ops false [Ot 9 (.mov (.t 7)),
 Ot 10 (.mov (.t 0)),
 Ot 11 (.len false (.t 10)),
 Ot 12 (.bin .lss (.t 9) (.t 11)),
 Ot 13 (.mov (.t 12)),
 ⟨(some 14), (some (13, false)), .mov (.t 7)⟩,
 ⟨(some 15), (some (13, false)), .mov (.t 1)⟩,
 ⟨(some 16), (some (13, false)), .len false (.t 15)⟩,
 ⟨(some 17), (some (13, false)), .bin .lss (.t 14) (.t 16)⟩,
 Ot 18 (.pick (.t 13) (.c (.bool true)) (.t 17)),
 Ot 19 (.mov (.t 18)),
 ⟨(some 20), (some (19, false)), .mov (.t 6)⟩,
 ⟨(some 21), (some (19, false)), .bin .gtr (.t 20) (.c (.int .i64 0))⟩,
 Ot 22 (.pick (.t 19) (.c (.bool true)) (.t 21))]))
 (.cond (.t 22) .skip
 (.exit 0)))
 (.seq (.block 1 (.seq (.keep [0, 1, 5, 7, 8] (.ops false [Ot 25 (.mov (.t 6)),
 Ot 8 (.mov (.t 25))]))
 (.seq (.seq (.keep [0, 1, 5, 7, 8, 29] (.ops false [Ot 26 (.mov (.t 7)),
 Ot 27 (.mov (.t 0)),
 Ot 28 (.len false (.t 27)),
 Ot 29 (.bin .lss (.t 26) (.t 28))]))
 (.cond (.t 29) (.keep [0, 1, 5, 7, 8] (.ops false [Ot 30 (.mov (.t 8)),
 Ot 31 (.mov (.t 0)),
 Ot 32 (.mov (.t 7)),
 Ot 33 (.idxA 1 (.t 31) (.t 32)),
 Ot 34 (.load 1 false (.t 33)),
 Ot 35 (.bin .add (.t 30) (.t 34)),
 Ot 8 (.mov (.t 35))]))
 .skip))
 (.seq (.seq (.keep [0, 1, 5, 7, 8, 39] (.ops false [Ot 36 (.mov (.t 7)),
 Ot 37 (.mov (.t 1)),
 Ot 38 (.len false (.t 37)),
 Ot 39 (.bin .lss (.t 36) (.t 38))]))
 (.cond (.t 39) (.keep [0, 1, 5, 7, 8] (.ops false [Ot 40 (.mov (.t 8)),
 Ot 41 (.mov (.t 1)),
 Ot 42 (.mov (.t 7)),
 Ot 43 (.idxA 1 (.t 41) (.t 42)),
 Ot 44 (.load 1 false (.t 43)),
 Ot 45 (.bin .add (.t 40) (.t 44)),
 Ot 8 (.mov (.t 45))]))
 .skip))
 (.seq (.keep [0, 1, 5, 7, 8] (.ops false [Ot 46 (.mov (.t 5)),
 Ot 47 (.mov (.t 8)),
 Ot 48 (.bin .rem (.t 47) (.c (.int .i64 10))),
 Ot 49 (.new (.bsl 1) [(.t 48)]),
 Ot 50 (.eff (.app 1 8) [(.t 46), (.t 49)]),
 Ot 5 (.mov (.t 50))]))
 (.keep [0, 1, 5, 6, 7] (.ops false [Ot 51 (.mov (.t 8)),
 Ot 52 (.bin .quo (.t 51) (.c (.int .i64 10))),
 Ot 6 (.mov (.t 52))])))))))
 (.keep [0, 1, 5, 6, 7] (.ops false [Ot 23 (.mov (.t 7)),
 Ot 24 (.bin .add (.t 23) (.c (.int .i64 1))),
 Ot 7 (.mov (.t 24))])))))))
 (.seq (.keep [4] (.ops false [Ot 53 (.mov (.t 5)),
 Ot 4 (.mov (.t 53))]))
 .ret)))))
def gimbalref01_plus.res : List RX := [(4, none)]
theorem gimbalref01_plus.m : mK pg Tryz.f138.ntmps gimbalref01_plus.k (Tryz.f138.body.getD .skip) = true := by kernel_rfl
theorem gimbalref01_plus.mr : mRes pg Tryz.f138.results.toList gimbalref01_plus.res = true := by kernel_rfl
theorem gimbalref01_plus.ofG {args : List V} {H : Hp} {n : Nat} {Q : V → Hp → Nat → Prop} (hn : args.length = 2) (hW : W pg gimbalref01_plus.k (doneG gimbalref01_plus.res (fun r H' n' => n ≤ n' ∧ Q r H' n')) (zfp args H n)) : ∃ r H' n', Q r H' n' ∧ RetG pg zdb args H n r H' n' :=
 RetG_of (fn := Tryz.f138) Tryz.func138 rfl (by kernel_rfl) gimbalref01_plus.m gimbalref01_plus.mr (by rw [hn]; exact of_decide_eq_true (by kernel_rfl)) hW
def gimbalref01_less.k : K :=
 (.seq (.keep [0, 1] (.ops false [Ot 4 (.mov (.c .nil))]))
 (.seq (.keep [0, 1, 5] (.ops false [Ot 5 (.mov (.c .nil))]))
 (.seq (.keep [0, 1, 5, 6] (.ops false [Ot 6 (.mov (.c (.int .i64 0)))]))
 (.seq (.seq (.keep [0, 1, 5, 6, 7] (.ops false [Ot 7 (.mov (.c (.int .i64 0)))]))
 (.block 0 (.loop (.seq (.seq (.keep [0, 1, 5, 6, 7, 12] (.ops false [Ot 9 (.mov (.t 7)),
 Ot 10 (.mov (.t 0)),
 Ot 11 (.len false (.t 10)),
 Ot 12 (.bin .lss (.t 9) (.t 11))]))
 (.cond (.t 12) .skip
 (.exit 0)))
 (.seq (.block 1 (.seq (.keep [0, 1, 5, 7, 8] (.ops false [Ot 15 (.mov (.t 0)),
 Ot 16 (.mov (.t 7)),
 Ot 17 (.idxA 1 (.t 15) (.t 16)),
 Ot 18 (.load 1 false (.t 17)),
 Ot 19 (.mov (.t 6)),
 Ot 20 (.bin .sub (.t 18) (.t 19)),
 Ot 8 (.mov (.t 20))]))
 (.seq (.seq (.keep [0, 1, 5, 7, 8, 24] (.ops false [Ot 21 (.mov (.t 7)),
 Ot 22 (.mov (.t 1)),
 Ot 23 (.len false (.t 22)),
 Ot 24 (.bin .lss (.t 21) (.t 23))]))
 (.cond (.t 24) (.keep [0, 1, 5, 7, 8] (.ops false [Ot 25 (.mov (.t 8)),
 Ot 26 (.mov (.t 1)),
 Ot 27 (.mov (.t 7)),
 Ot 28 (.idxA 1 (.t 26) (.t 27)),
 Ot 29 (.load 1 false (.t 28)),
 Ot 30 (.bin .sub (.t 25) (.t 29)),
 Ot 8 (.mov (.t 30))]))
 .skip))
 (.seq (.keep [0, 1, 5, 6, 7, 8] (.ops false [Ot 6 (.mov (.c (.int .i64 0)))]))
 (.seq (.seq (.keep [0, 1, 5, 6, 7, 8, 32] (.ops false [Ot 31 (.mov (.t 8)),
 Ot 32 (.bin .lss (.t 31) (.c (.int .i64 0)))]))
 (.cond (.t 32) (.seq (.keep [0, 1, 5, 7, 8] (.ops false [Ot 33 (.mov (.t 8)),
 Ot 34 (.bin .add (.t 33) (.c (.int .i64 10))),
 Ot 8 (.mov (.t 34))]))
 (.keep [0, 1, 5, 6, 7, 8] (.ops false [Ot 6 (.mov (.c (.int .i64 1)))])))
 .skip))
 (.keep [0, 1, 5, 6, 7] (.ops false [Ot 35 (.mov (.t 5)),
 Ot 36 (.mov (.t 8)),
 Ot 37 (.new (.bsl 1) [(.t 36)]),
 Ot 38 (.eff (.app 1 8) [(.t 35), (.t 37)]),
 Ot 5 (.mov (.t 38))])))))))
 (.keep [0, 1, 5, 6, 7] (.ops false [Ot 13 (.mov (.t 7)),
 Ot 14 (.bin .add (.t 13) (.c (.int .i64 1))),
 Ot 7 (.mov (.t 14))])))))))
 (.seq (.keep [4] (.ops false [Ot 39 (.mov (.t 5)),
 Ot 4 (.mov (.t 39))]))
 .ret)))))
def gimbalref01_less.res : List RX := [(4, none)]
theorem gimbalref01_less.m : mK pg Tryz.f139.ntmps gimbalref01_less.k (Tryz.f139.body.getD .skip) = true := by kernel_rfl
theorem gimbalref01_less.mr : mRes pg Tryz.f139.results.toList gimbalref01_less.res = true := by kernel_rfl
theorem gimbalref01_less.of {args : List V} {r : V} (hn : args.length = 2) (hW : W pg gimbalref01_less.k (done gimbalref01_less.res r) (start args)) : Ret pg zdc args r :=
 Ret_of (fn := Tryz.f139) Tryz.func139 rfl (by kernel_rfl) gimbalref01_less.m gimbalref01_less.mr (by rw [hn]; exact of_decide_eq_true (by kernel_rfl)) hW
def gimbalref01_Int_Cmp.k : K :=
 (.seq (.keep [2, 3] (.ops false [Ot 2 (.boxP (.t 0)),
 Ot 3 (.boxP (.t 1)),
 Ot 4 (.mov (.c (.int .i64 0)))]))
 (.seq (.seq (.keep [2, 3, 10] (.ops false [Ot 6 (.fldA 0 1 false (.t 2)),
 Ot 7 (.load 1 false (.t 6)),
 Ot 8 (.fldA 0 1 false (.t 3)),
 Ot 9 (.load 1 false (.t 8)),
 Ot 10 (.eqB true (.t 7) (.t 9))]))
 (.cond (.t 10) (.seq (.seq (.keep [12] (.ops false [Ot 11 (.fldA 0 1 false (.t 2)),
 Ot 12 (.load 1 false (.t 11))]))
 (.cond (.t 12) (.seq (.keep [4] (.ops false [Ot 4 (.mov (.c (.int .i64 (-1))))]))
 .ret)
 .skip))
 (.seq (.keep [4] (.ops false [Ot 4 (.mov (.c (.int .i64 1)))]))
 .ret))
 .skip))
 (.seq (.keep [2, 5] (.ops false [Ot 13 (.fldA 1 1 false (.t 2)),
 Ot 14 (.load 1 false (.t 13)),
 Ot 15 (.fldA 1 1 false (.t 3)),
 Ot 16 (.load 1 false (.t 15)),
 Ot 17 (.callG zda [(.t 14), (.t 16)]),
 Ot 5 (.mov (.t 17))]))
 (.seq (.seq (.keep [5, 19] (.ops false [Ot 18 (.fldA 0 1 false (.t 2)),
 Ot 19 (.load 1 false (.t 18))]))
 (.cond (.t 19) (.seq (.keep [4] (.ops false [Ot 20 (.mov (.t 5)),
 Ot 21 (.un .neg (.t 20)),
 Ot 4 (.mov (.t 21))]))
 .ret)
 .skip))
 (.seq (.keep [4] (.ops false [Ot 22 (.mov (.t 5)),
 Ot 4 (.mov (.t 22))]))
 .ret)))))
def gimbalref01_Int_Cmp.res : List RX := [(4, none)]
theorem gimbalref01_Int_Cmp.m : mK pg Tryz.f40.ntmps gimbalref01_Int_Cmp.k (Tryz.f40.body.getD .skip) = true := by kernel_rfl
theorem gimbalref01_Int_Cmp.mr : mRes pg Tryz.f40.results.toList gimbalref01_Int_Cmp.res = true := by kernel_rfl
theorem gimbalref01_Int_Cmp.of {args : List V} {r : V} (hn : args.length = 2) (hW : W pg gimbalref01_Int_Cmp.k (done gimbalref01_Int_Cmp.res r) (start args)) : Ret pg zbo args r :=
 Ret_of (fn := Tryz.f40) Tryz.func40 rfl (by kernel_rfl) gimbalref01_Int_Cmp.m gimbalref01_Int_Cmp.mr (by rw [hn]; exact of_decide_eq_true (by kernel_rfl)) hW
def gimbalref01_Int_Mul.k : K :=
 (.seq (.keep [2, 3, 4] (.ops false [Ot 2 (.boxP (.t 0)),
 Ot 3 (.boxP (.t 1)),
 Ot 4 (.alloc 2 (.agg [(.bool false), .nil]))]))
 (.seq (.keep [2, 3, 4, 5] (.ops false [Ot 10 (.fldA 1 1 false (.t 2)),
 Ot 11 (.load 1 false (.t 10)),
 Ot 12 (.len false (.t 11)),
 Ot 13 (.fldA 1 1 false (.t 3)),
 Ot 14 (.load 1 false (.t 13)),
 Ot 15 (.len false (.t 14)),
 Ot 16 (.bin .add (.t 12) (.t 15)),
 Ot 17 (.bin .add (.t 16) (.c (.int .i64 1))),
 Ot 18 (.new (.mks 1 8 (.int .i64 0)) [(.t 17), (.t 17)]),
 Ot 5 (.mov (.t 18))]))
 (.seq (.seq (.keep [2, 3, 4, 5, 6] (.ops false [Ot 6 (.mov (.c (.int .i64 0)))]))
 (.block 0 (.loop (.seq (.seq (.keep [2, 3, 4, 5, 6, 23] (.ops false [Ot 19 (.mov (.t 6)),
 Ot 20 (.fldA 1 1 false (.t 2)),
 Ot 21 (.load 1 false (.t 20)),
 Ot 22 (.len false (.t 21)),
 Ot 23 (.bin .lss (.t 19) (.t 22))]))
 (.cond (.t 23) .skip
 (.exit 0)))
 (.seq (.block 1 (.seq (.keep [2, 3, 4, 5, 6, 7] (.ops false [Ot 7 (.mov (.c (.int .i64 0)))]))
 (.seq (.keep [2, 3, 4, 5, 6, 7, 8] (.ops false [Ot 8 (.mov (.c (.int .i64 0)))]))
 (.block 2 (.loop (.seq (.seq (.keep [2, 3, 4, 5, 6, 7, 8, 34] (.ops false [Ot 26 (.mov (.t 8)),
 Ot 27 (.fldA 1 1 false (.t 3)),
 Ot 28 (.load 1 false (.t 27)),
 Ot 29 (.len false (.t 28)),
 Ot 30 (.bin .lss (.t 26) (.t 29)),
 Ot 31 (.mov (.t 30)),
 ⟨(some 32), (some (31, false)), .mov (.t 7)⟩,
 ⟨(some 33), (some (31, false)), .bin .gtr (.t 32) (.c (.int .i64 0))⟩,
 Ot 34 (.pick (.t 31) (.c (.bool true)) (.t 33))]))
 (.cond (.t 34) .skip
 (.exit 2)))
 (.seq (.block 3 (.seq (.keep [2, 3, 4, 5, 6, 8, 9] (.ops false [Ot 37 (.mov (.t 5)),
 Ot 38 (.mov (.t 6)),
 Ot 39 (.mov (.t 8)),
 Ot 40 (.bin .add (.t 38) (.t 39)),
 Ot 41 (.idxA 1 (.t 37) (.t 40)),
 Ot 42 (.load 1 false (.t 41)),
 Ot 43 (.mov (.t 7)),
 Ot 44 (.bin .add (.t 42) (.t 43)),
 Ot 9 (.mov (.t 44))]))
 (.seq (.seq (.keep [2, 3, 4, 5, 6, 8, 9, 49] (.ops false [Ot 45 (.mov (.t 8)),
 Ot 46 (.fldA 1 1 false (.t 3)),
 Ot 47 (.load 1 false (.t 46)),
 Ot 48 (.len false (.t 47)),
 Ot 49 (.bin .lss (.t 45) (.t 48))]))
 (.cond (.t 49) (.keep [2, 3, 4, 5, 6, 8, 9] (.ops true [Ot 50 (.mov (.t 9)),
 Ot 51 (.fldA 1 1 false (.t 2)),
 Ot 52 (.load 1 false (.t 51)),
 Ot 53 (.mov (.t 6)),
 Ot 54 (.idxA 1 (.t 52) (.t 53)),
 Ot 55 (.load 1 false (.t 54)),
 Ot 56 (.fldA 1 1 false (.t 3)),
 Ot 57 (.load 1 false (.t 56)),
 Ot 58 (.mov (.t 8)),
 Ot 59 (.idxA 1 (.t 57) (.t 58)),
 Ot 60 (.load 1 false (.t 59)),
 Ot 61 (.bin .mul (.t 55) (.t 60)),
 Ot 62 (.bin .add (.t 50) (.t 61)),
 Ot 9 (.mov (.t 62))]))
 .skip))
 (.seq (.keep [2, 3, 4, 5, 6, 8, 9] (.ops false [Ot 63 (.mov (.t 5)),
 Ot 64 (.mov (.t 6)),
 Ot 65 (.mov (.t 8)),
 Ot 66 (.bin .add (.t 64) (.t 65)),
 Ot 67 (.mov (.t 9)),
 Ot 68 (.bin .rem (.t 67) (.c (.int .i64 10))),
 Ot 69 (.idxA 1 (.t 63) (.t 66)),
 ⟨none, none, .store 1 (.t 69) (.t 68)⟩]))
 (.keep [2, 3, 4, 5, 6, 7, 8] (.ops false [Ot 70 (.mov (.t 9)),
 Ot 71 (.bin .quo (.t 70) (.c (.int .i64 10))),
 Ot 7 (.mov (.t 71))]))))))
 (.keep [2, 3, 4, 5, 6, 7, 8] (.ops false [Ot 35 (.mov (.t 8)),
 Ot 36 (.bin .add (.t 35) (.c (.int .i64 1))),
 Ot 8 (.mov (.t 36))])))))))))
 (.keep [2, 3, 4, 5, 6] (.ops false [Ot 24 (.mov (.t 6)),
 Ot 25 (.bin .add (.t 24) (.c (.int .i64 1))),
 Ot 6 (.mov (.t 25))])))))))
 (.seq (.keep [4] (.ops false [Ot 72 (.fldA 0 1 false (.t 2)),
 Ot 73 (.load 1 false (.t 72)),
 Ot 74 (.fldA 0 1 false (.t 3)),
 Ot 75 (.load 1 false (.t 74)),
 Ot 76 (.eqB true (.t 73) (.t 75)),
 Ot 77 (.mov (.t 5)),
 Ot 78 (.callG za7 [(.t 76), (.t 77)]),
 ⟨none, none, .store 2 (.t 4) (.t 78)⟩]))
 .ret))))
def gimbalref01_Int_Mul.res : List RX := [(4, some (2, true))]
theorem gimbalref01_Int_Mul.m : mK pg Tryz.f65.ntmps gimbalref01_Int_Mul.k (Tryz.f65.body.getD .skip) = true := by kernel_rfl
theorem gimbalref01_Int_Mul.mr : mRes pg Tryz.f65.results.toList gimbalref01_Int_Mul.res = true := by kernel_rfl
theorem gimbalref01_Int_Mul.of {args : List V} {r : V} (hn : args.length = 2) (hW : W pg gimbalref01_Int_Mul.k (done gimbalref01_Int_Mul.res r) (start args)) : Ret pg zdm args r :=
 Ret_of (fn := Tryz.f65) Tryz.func65 rfl (by kernel_rfl) gimbalref01_Int_Mul.m gimbalref01_Int_Mul.mr (by rw [hn]; exact of_decide_eq_true (by kernel_rfl)) hW
def gimbalref01_Int_Add.k : K :=
 (.seq (.keep [2, 3, 4] (.ops false [Ot 2 (.boxP (.t 0)),
 Ot 3 (.boxP (.t 1)),
 Ot 4 (.alloc 2 (.agg [(.bool false), .nil]))]))
 (.seq (.seq (.keep [2, 3, 4, 10] (.ops false [Ot 6 (.fldA 0 1 false (.t 2)),
 Ot 7 (.load 1 false (.t 6)),
 Ot 8 (.fldA 0 1 false (.t 3)),
 Ot 9 (.load 1 false (.t 8)),
 Ot 10 (.eqB false (.t 7) (.t 9))]))
 (.cond (.t 10) (.seq (.keep [4] (.ops true [Ot 11 (.fldA 0 1 false (.t 2)),
 Ot 12 (.load 1 false (.t 11)),
 Ot 13 (.fldA 1 1 false (.t 2)),
 Ot 14 (.load 1 false (.t 13)),
 Ot 15 (.fldA 1 1 false (.t 3)),
 Ot 16 (.load 1 false (.t 15)),
 Ot 17 (.call zdb [(.t 14), (.t 16)]),
 Ot 18 (.call za7 [(.t 12), (.t 17)]),
 ⟨none, none, .store 2 (.t 4) (.t 18)⟩]))
 .ret)
 .skip))
 (.seq (.keep [2, 3, 4, 5] (.ops false [Ot 19 (.fldA 1 1 false (.t 2)),
 Ot 20 (.load 1 false (.t 19)),
 Ot 21 (.fldA 1 1 false (.t 3)),
 Ot 22 (.load 1 false (.t 21)),
 Ot 23 (.callG zda [(.t 20), (.t 22)]),
 Ot 5 (.mov (.t 23))]))
 (.seq (.seq (.keep [2, 3, 4, 25] (.ops false [Ot 24 (.mov (.t 5)),
 Ot 25 (.bin .geq (.t 24) (.c (.int .i64 0)))]))
 (.cond (.t 25) (.seq (.keep [4] (.ops true [Ot 26 (.fldA 0 1 false (.t 2)),
 Ot 27 (.load 1 false (.t 26)),
 Ot 28 (.fldA 1 1 false (.t 2)),
 Ot 29 (.load 1 false (.t 28)),
 Ot 30 (.fldA 1 1 false (.t 3)),
 Ot 31 (.load 1 false (.t 30)),
 Ot 32 (.call zdc [(.t 29), (.t 31)]),
 Ot 33 (.call za7 [(.t 27), (.t 32)]),
 ⟨none, none, .store 2 (.t 4) (.t 33)⟩]))
 .ret)
 .skip))
 (.seq (.keep [4] (.ops true [Ot 34 (.fldA 0 1 false (.t 3)),
 Ot 35 (.load 1 false (.t 34)),
 Ot 36 (.fldA 1 1 false (.t 3)),
 Ot 37 (.load 1 false (.t 36)),
 Ot 38 (.fldA 1 1 false (.t 2)),
 Ot 39 (.load 1 false (.t 38)),
 Ot 40 (.call zdc [(.t 37), (.t 39)]),
 Ot 41 (.call za7 [(.t 35), (.t 40)]),
 ⟨none, none, .store 2 (.t 4) (.t 41)⟩]))
 .ret)))))
def gimbalref01_Int_Add.res : List RX := [(4, some (2, true))]
theorem gimbalref01_Int_Add.m : mK pg Tryz.f75.ntmps gimbalref01_Int_Add.k (Tryz.f75.body.getD .skip) = true := by kernel_rfl
theorem gimbalref01_Int_Add.mr : mRes pg Tryz.f75.results.toList gimbalref01_Int_Add.res = true := by kernel_rfl
theorem gimbalref01_Int_Add.of {args : List V} {r : V} (hn : args.length = 2) (hW : W pg gimbalref01_Int_Add.k (done gimbalref01_Int_Add.res r) (start args)) : Ret pg zdn args r :=
 Ret_of (fn := Tryz.f75) Tryz.func75 rfl (by kernel_rfl) gimbalref01_Int_Add.m gimbalref01_Int_Add.mr (by rw [hn]; exact of_decide_eq_true (by kernel_rfl)) hW
def gimbalref01_Int_Minus.k : K :=
 (.seq (.keep [1, 2] (.ops false [Ot 1 (.boxP (.t 0)),
 Ot 2 (.alloc 2 (.agg [(.bool false), .nil]))]))
 (.seq (.keep [2] (.ops false [Ot 3 (.fldA 0 1 false (.t 1)),
 Ot 4 (.load 1 false (.t 3)),
 Ot 5 (.un .not (.t 4)),
 Ot 6 (.fldA 1 1 false (.t 1)),
 Ot 7 (.load 1 false (.t 6)),
 Ot 8 (.callG za7 [(.t 5), (.t 7)]),
 ⟨none, none, .store 2 (.t 2) (.t 8)⟩]))
 .ret))
def gimbalref01_Int_Minus.res : List RX := [(2, some (2, true))]
theorem gimbalref01_Int_Minus.m : mK pg Tryz.f109.ntmps gimbalref01_Int_Minus.k (Tryz.f109.body.getD .skip) = true := by kernel_rfl
theorem gimbalref01_Int_Minus.mr : mRes pg Tryz.f109.results.toList gimbalref01_Int_Minus.res = true := by kernel_rfl
theorem gimbalref01_Int_Minus.of {args : List V} {r : V} (hn : args.length = 1) (hW : W pg gimbalref01_Int_Minus.k (done gimbalref01_Int_Minus.res r) (start args)) : Ret pg zcx args r :=
 Ret_of (fn := Tryz.f109) Tryz.func109 rfl (by kernel_rfl) gimbalref01_Int_Minus.m gimbalref01_Int_Minus.mr (by rw [hn]; exact of_decide_eq_true (by kernel_rfl)) hW
def gimbalref01_Int_Small.k : K :=
 (.seq (.keep [1] (.ops false [Ot 1 (.boxP (.t 0)),
 Ot 2 (.mov (.c (.int .i64 0))),
 Ot 3 (.mov (.c (.bool false)))]))
 (.seq (.keep [1, 4] (.ops false [Ot 8 (.callG zax [(.c (.int .i64 (-9223372036854775808)))]),
 Ot 4 (.alloc 2 (.agg [(.bool false), .nil])),
 ⟨none, none, .store 2 (.t 4) (.t 8)⟩]))
 (.seq (.keep [1, 4, 5] (.ops false [Ot 9 (.callG zax [(.c (.int .i64 9223372036854775807))]),
 Ot 5 (.alloc 2 (.agg [(.bool false), .nil])),
 ⟨none, none, .store 2 (.t 5) (.t 9)⟩]))
 (.seq (.seq (.keep [1, 19] (.ops false [Ot 10 (.load 2 true (.t 1)),
 Ot 11 (.load 2 true (.t 4)),
 Ot 12 (.callG zbo [(.t 10), (.t 11)]),
 Ot 13 (.bin .lss (.t 12) (.c (.int .i64 0))),
 Ot 14 (.mov (.t 13)),
 ⟨(some 15), (some (14, false)), .load 2 true (.t 1)⟩,
 ⟨(some 16), (some (14, false)), .load 2 true (.t 5)⟩,
 ⟨(some 17), (some (14, false)), .callG zbo [(.t 15), (.t 16)]⟩,
 ⟨(some 18), (some (14, false)), .bin .gtr (.t 17) (.c (.int .i64 0))⟩,
 Ot 19 (.pick (.t 14) (.c (.bool true)) (.t 18))]))
 (.cond (.t 19) (.seq (.keep [2, 3] (.ops false [Ot 2 (.mov (.c (.int .i64 0))),
 Ot 3 (.mov (.c (.bool false)))]))
 .ret)
 .skip))
 (.seq (.keep [1, 6] (.ops false [Ot 6 (.mov (.c (.int .i64 0)))]))
 (.seq (.seq (.keep [1, 6, 7] (.ops false [Ot 20 (.fldA 1 1 false (.t 1)),
 Ot 21 (.load 1 false (.t 20)),
 Ot 22 (.len false (.t 21)),
 Ot 23 (.bin .sub (.t 22) (.c (.int .i64 1))),
 Ot 7 (.mov (.t 23))]))
 (.block 0 (.loop (.seq (.seq (.keep [1, 6, 7, 25] (.ops false [Ot 24 (.mov (.t 7)),
 Ot 25 (.bin .geq (.t 24) (.c (.int .i64 0)))]))
 (.cond (.t 25) .skip
 (.exit 0)))
 (.seq (.block 1 (.seq (.keep [1, 6, 7, 29] (.ops false [Ot 28 (.fldA 0 1 false (.t 1)),
 Ot 29 (.load 1 false (.t 28))]))
 (.cond (.t 29) (.keep [1, 6, 7] (.ops false [Ot 30 (.mov (.t 6)),
 Ot 31 (.bin .mul (.c (.int .i64 10)) (.t 30)),
 Ot 32 (.fldA 1 1 false (.t 1)),
 Ot 33 (.load 1 false (.t 32)),
 Ot 34 (.mov (.t 7)),
 Ot 35 (.idxA 1 (.t 33) (.t 34)),
 Ot 36 (.load 1 false (.t 35)),
 Ot 37 (.bin .sub (.t 31) (.t 36)),
 Ot 6 (.mov (.t 37))]))
 (.keep [1, 6, 7] (.ops false [Ot 38 (.mov (.t 6)),
 Ot 39 (.bin .mul (.c (.int .i64 10)) (.t 38)),
 Ot 40 (.fldA 1 1 false (.t 1)),
 Ot 41 (.load 1 false (.t 40)),
 Ot 42 (.mov (.t 7)),
 Ot 43 (.idxA 1 (.t 41) (.t 42)),
 Ot 44 (.load 1 false (.t 43)),
 Ot 45 (.bin .add (.t 39) (.t 44)),
 Ot 6 (.mov (.t 45))])))))
 (.keep [1, 6, 7] (.ops false [Ot 26 (.mov (.t 7)),
 Ot 27 (.bin .sub (.t 26) (.c (.int .i64 1))),
 Ot 7 (.mov (.t 27))])))))))
 (.seq (.keep [2, 3] (.ops false [Ot 46 (.mov (.t 6)),
 Ot 2 (.mov (.t 46)),
 Ot 3 (.mov (.c (.bool true)))]))
 .ret)))))))
def gimbalref01_Int_Small.res : List RX := [(2, none), (3, none)]
theorem gimbalref01_Int_Small.m : mK pg Tryz.f141.ntmps gimbalref01_Int_Small.k (Tryz.f141.body.getD .skip) = true := by kernel_rfl
theorem gimbalref01_Int_Small.mr : mRes pg Tryz.f141.results.toList gimbalref01_Int_Small.res = true := by kernel_rfl
theorem gimbalref01_Int_Small.of {args : List V} {r : V} (hn : args.length = 1) (hW : W pg gimbalref01_Int_Small.k (done gimbalref01_Int_Small.res r) (start args)) : Ret pg zcw args r :=
 Ret_of (fn := Tryz.f141) Tryz.func141 rfl (by kernel_rfl) gimbalref01_Int_Small.m gimbalref01_Int_Small.mr (by rw [hn]; exact of_decide_eq_true (by kernel_rfl)) hW
end Go.Gim

import Derived.Test.YtjkjpjneeioeiaaGreatGN
/- The table of math/bits: of each byte how many bits it has. -/
set_option maxRecDepth 100000
namespace Go.Gim
def len8S : ByteArray := ⟨#[0, 1, 2, 2, 3, 3, 3, 3, 4, 4, 4, 4, 4, 4, 4, 4, 5, 5, 5, 5, 5, 5, 5, 5, 5, 5, 5, 5, 5, 5, 5, 5, 6, 6, 6, 6, 6, 6, 6, 6, 6, 6, 6, 6, 6, 6, 6, 6, 6, 6, 6, 6, 6, 6, 6, 6, 6, 6, 6, 6, 6, 6, 6, 6, 7, 7, 7, 7, 7, 7, 7, 7, 7, 7, 7, 7, 7, 7, 7, 7, 7, 7, 7, 7, 7, 7, 7, 7, 7, 7, 7, 7, 7, 7, 7, 7, 7, 7, 7, 7, 7, 7, 7, 7, 7, 7, 7, 7, 7, 7, 7, 7, 7, 7, 7, 7, 7, 7, 7, 7, 7, 7, 7, 7, 7, 7, 7, 7, 8, 8, 8, 8, 8, 8, 8, 8, 8, 8, 8, 8, 8, 8, 8, 8, 8, 8, 8, 8, 8, 8, 8, 8, 8, 8, 8, 8, 8, 8, 8, 8, 8, 8, 8, 8, 8, 8, 8, 8, 8, 8, 8, 8, 8, 8, 8, 8, 8, 8, 8, 8, 8, 8, 8, 8, 8, 8, 8, 8, 8, 8, 8, 8, 8, 8, 8, 8, 8, 8, 8, 8, 8, 8, 8, 8, 8, 8, 8, 8, 8, 8, 8, 8, 8, 8, 8, 8, 8, 8, 8, 8, 8, 8, 8, 8, 8, 8, 8, 8, 8, 8, 8, 8, 8, 8, 8, 8, 8, 8, 8, 8, 8, 8, 8, 8, 8, 8, 8, 8, 8, 8, 8, 8, 8, 8, 8, 8]⟩
end Go.Gim
/- Functions' code as data (written by wip/tools/gen.py), and the step to their contracts. -/
set_option maxRecDepth 100000
namespace Go.Gim
open Go.Proofs
def math_bits_LeadingZeros32.k : K :=
 (.seq (.keep [0] (.ops false [Ot 2 (.mov (.c (.int .i64 0)))]))
 (.seq (.keep [2] (.ops false [Ot 3 (.mov (.t 0)),
 Ot 4 (.callG ze8 [(.t 3)]),
 Ot 5 (.bin .sub (.c (.int .i64 32)) (.t 4)),
 Ot 2 (.mov (.t 5))]))
 .ret))
def math_bits_LeadingZeros32.res : List RX := [(2, none)]
theorem math_bits_LeadingZeros32.m : mK pg Tryz.f169.ntmps math_bits_LeadingZeros32.k (Tryz.f169.body.getD .skip) = true := by kernel_rfl
theorem math_bits_LeadingZeros32.mr : mRes pg Tryz.f169.results.toList math_bits_LeadingZeros32.res = true := by kernel_rfl
theorem math_bits_LeadingZeros32.of {args : List V} {r : V} (hn : args.length = 1) (hW : W pg math_bits_LeadingZeros32.k (done math_bits_LeadingZeros32.res r) (start args)) : Ret pg zce args r :=
 Ret_of (fn := Tryz.f169) Tryz.func169 rfl (by kernel_rfl) math_bits_LeadingZeros32.m math_bits_LeadingZeros32.mr (by rw [hn]; exact of_decide_eq_true (by kernel_rfl)) hW
def math_bits_Len32.k : K :=
 (.seq (.keep [0, 2] (.ops false [Ot 2 (.mov (.c (.int .i64 0)))]))
 (.seq (.seq (.keep [0, 2, 4] (.ops false [Ot 3 (.mov (.t 0)),
 Ot 4 (.bin .geq (.t 3) (.c (.int .u32 65536)))]))
 (.cond (.t 4) (.seq (.keep [0] (.ops false [Ot 5 (.mov (.t 0)),
 Ot 6 (.bin .shr (.t 5) (.c (.int .u64 16))),
 Ot 0 (.mov (.t 6))]))
 (.keep [0, 2] (.ops false [Ot 2 (.mov (.c (.int .i64 16)))])))
 .skip))
 (.seq (.seq (.keep [0, 2, 8] (.ops false [Ot 7 (.mov (.t 0)),
 Ot 8 (.bin .geq (.t 7) (.c (.int .u32 256)))]))
 (.cond (.t 8) (.seq (.keep [0, 2] (.ops false [Ot 9 (.mov (.t 0)),
 Ot 10 (.bin .shr (.t 9) (.c (.int .u64 8))),
 Ot 0 (.mov (.t 10))]))
 (.keep [0, 2] (.ops false [Ot 11 (.mov (.t 2)),
 Ot 12 (.bin .add (.t 11) (.c (.int .i64 8))),
 Ot 2 (.mov (.t 12))])))
 .skip))
 (.seq (.keep [2] (.ops false [Ot 13 (.mov (.t 2)),
 Ot 14 (.mov (.t 0)),
 Ot 15 (.conv .u8 (.t 14)),
 Ot 16 (.red .idxS [(.c (.str len8S)), (.t 15)]),
 Ot 17 (.conv .i64 (.t 16)),
 Ot 18 (.bin .add (.t 13) (.t 17)),
 Ot 2 (.mov (.t 18))]))
 .ret))))
def math_bits_Len32.res : List RX := [(2, none)]
theorem math_bits_Len32.m : mK pg Tryz.f192.ntmps math_bits_Len32.k (Tryz.f192.body.getD .skip) = true := by kernel_rfl
theorem math_bits_Len32.mr : mRes pg Tryz.f192.results.toList math_bits_Len32.res = true := by kernel_rfl
theorem math_bits_Len32.of {args : List V} {r : V} (hn : args.length = 1) (hW : W pg math_bits_Len32.k (done math_bits_Len32.res r) (start args)) : Ret pg ze8 args r :=
 Ret_of (fn := Tryz.f192) Tryz.func192 rfl (by kernel_rfl) math_bits_Len32.m math_bits_Len32.mr (by rw [hn]; exact of_decide_eq_true (by kernel_rfl)) hW
end Go.Gim

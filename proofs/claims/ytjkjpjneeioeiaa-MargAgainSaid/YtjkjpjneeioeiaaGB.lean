import Derived.Test.YtjkjpjneeioeiaaGN
/- The table of math/bits: of each byte how many bits it has. -/
set_option maxRecDepth 100000
namespace Go.Gim
def len8S : ByteArray := ⟨#[0, 1, 2, 2, 3, 3, 3, 3, 4, 4, 4, 4, 4, 4, 4, 4, 5, 5, 5, 5, 5, 5, 5, 5, 5, 5, 5, 5, 5, 5, 5, 5, 6, 6, 6, 6, 6, 6, 6, 6, 6, 6, 6, 6, 6, 6, 6, 6, 6, 6, 6, 6, 6, 6, 6, 6, 6, 6, 6, 6, 6, 6, 6, 6, 7, 7, 7, 7, 7, 7, 7, 7, 7, 7, 7, 7, 7, 7, 7, 7, 7, 7, 7, 7, 7, 7, 7, 7, 7, 7, 7, 7, 7, 7, 7, 7, 7, 7, 7, 7, 7, 7, 7, 7, 7, 7, 7, 7, 7, 7, 7, 7, 7, 7, 7, 7, 7, 7, 7, 7, 7, 7, 7, 7, 7, 7, 7, 7, 8, 8, 8, 8, 8, 8, 8, 8, 8, 8, 8, 8, 8, 8, 8, 8, 8, 8, 8, 8, 8, 8, 8, 8, 8, 8, 8, 8, 8, 8, 8, 8, 8, 8, 8, 8, 8, 8, 8, 8, 8, 8, 8, 8, 8, 8, 8, 8, 8, 8, 8, 8, 8, 8, 8, 8, 8, 8, 8, 8, 8, 8, 8, 8, 8, 8, 8, 8, 8, 8, 8, 8, 8, 8, 8, 8, 8, 8, 8, 8, 8, 8, 8, 8, 8, 8, 8, 8, 8, 8, 8, 8, 8, 8, 8, 8, 8, 8, 8, 8, 8, 8, 8, 8, 8, 8, 8, 8, 8, 8, 8, 8, 8, 8, 8, 8, 8, 8, 8, 8, 8, 8, 8, 8, 8, 8, 8, 8]⟩
end Go.Gim
/- Functions' code as data (written by wip/tools/gen.py), and the step to their contracts. -/
set_option maxRecDepth 100000
namespace Go.Gim
open Go.Proofs
def math_bits_LeadingZeros32.k : K :=
 (.seq (.keep [0] (.ops false [⟨(some 2), none, .mov (.c (.int .i64 0))⟩]))
 (.seq (.keep [2] (.ops false [⟨(some 3), none, .mov (.t 0)⟩,
 ⟨(some 4), none, .callG n_math_bits_Len32 [(.t 3)]⟩,
 ⟨(some 5), none, .bin .sub (.c (.int .i64 32)) (.t 4)⟩,
 ⟨(some 2), none, .mov (.t 5)⟩]))
 .ret))
def math_bits_LeadingZeros32.res : List RX := [(2, none)]
theorem math_bits_LeadingZeros32.m : mK pg Try.f95.ntmps math_bits_LeadingZeros32.k (Try.f95.body.getD .skip) = true := by kernel_rfl
theorem math_bits_LeadingZeros32.mr : mRes pg Try.f95.results.toList math_bits_LeadingZeros32.res = true := by kernel_rfl
theorem math_bits_LeadingZeros32.of {args : List V} {r : V} (hn : args.length = 1) (hW : W pg math_bits_LeadingZeros32.k (done math_bits_LeadingZeros32.res r) (start args)) : Ret pg n_math_bits_LeadingZeros32 args r :=
 Ret_of (fn := Try.f95) Try.func95 rfl (by kernel_rfl) math_bits_LeadingZeros32.m math_bits_LeadingZeros32.mr (by rw [hn]; exact of_decide_eq_true (by kernel_rfl)) hW
def math_bits_Len32.k : K :=
 (.seq (.keep [0, 2] (.ops false [⟨(some 2), none, .mov (.c (.int .i64 0))⟩]))
 (.seq (.seq (.keep [0, 2, 4] (.ops false [⟨(some 3), none, .mov (.t 0)⟩,
 ⟨(some 4), none, .bin .geq (.t 3) (.c (.int .u32 65536))⟩]))
 (.cond (.t 4) (.seq (.keep [0] (.ops false [⟨(some 5), none, .mov (.t 0)⟩,
 ⟨(some 6), none, .bin .shr (.t 5) (.c (.int .u64 16))⟩,
 ⟨(some 0), none, .mov (.t 6)⟩]))
 (.keep [0, 2] (.ops false [⟨(some 2), none, .mov (.c (.int .i64 16))⟩])))
 .skip))
 (.seq (.seq (.keep [0, 2, 8] (.ops false [⟨(some 7), none, .mov (.t 0)⟩,
 ⟨(some 8), none, .bin .geq (.t 7) (.c (.int .u32 256))⟩]))
 (.cond (.t 8) (.seq (.keep [0, 2] (.ops false [⟨(some 9), none, .mov (.t 0)⟩,
 ⟨(some 10), none, .bin .shr (.t 9) (.c (.int .u64 8))⟩,
 ⟨(some 0), none, .mov (.t 10)⟩]))
 (.keep [0, 2] (.ops false [⟨(some 11), none, .mov (.t 2)⟩,
 ⟨(some 12), none, .bin .add (.t 11) (.c (.int .i64 8))⟩,
 ⟨(some 2), none, .mov (.t 12)⟩])))
 .skip))
 (.seq (.keep [2] (.ops false [⟨(some 13), none, .mov (.t 2)⟩,
 ⟨(some 14), none, .mov (.t 0)⟩,
 ⟨(some 15), none, .conv .u8 (.t 14)⟩,
 ⟨(some 16), none, .red .idxS [(.c (.str len8S)), (.t 15)]⟩,
 ⟨(some 17), none, .conv .i64 (.t 16)⟩,
 ⟨(some 18), none, .bin .add (.t 13) (.t 17)⟩,
 ⟨(some 2), none, .mov (.t 18)⟩]))
 .ret))))
def math_bits_Len32.res : List RX := [(2, none)]
theorem math_bits_Len32.m : mK pg Try.f98.ntmps math_bits_Len32.k (Try.f98.body.getD .skip) = true := by kernel_rfl
theorem math_bits_Len32.mr : mRes pg Try.f98.results.toList math_bits_Len32.res = true := by kernel_rfl
theorem math_bits_Len32.of {args : List V} {r : V} (hn : args.length = 1) (hW : W pg math_bits_Len32.k (done math_bits_Len32.res r) (start args)) : Ret pg n_math_bits_Len32 args r :=
 Ret_of (fn := Try.f98) Try.func98 rfl (by kernel_rfl) math_bits_Len32.m math_bits_Len32.mr (by rw [hn]; exact of_decide_eq_true (by kernel_rfl)) hW
end Go.Gim

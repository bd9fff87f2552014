import Derived.Test.YtjkjpjneeioeiaaGreatGN
/- The table of math/bits: of each byte how many bits it has. -/
set_option maxRecDepth 100000
namespace Go.Gim
def len8S : ByteArray := ⟨#[0, 1, 2, 2, 3, 3, 3, 3, 4, 4, 4, 4, 4, 4, 4, 4, 5, 5, 5, 5, 5, 5, 5, 5, 5, 5, 5, 5, 5, 5, 5, 5, 6, 6, 6, 6, 6, 6, 6, 6, 6, 6, 6, 6, 6, 6, 6, 6, 6, 6, 6, 6, 6, 6, 6, 6, 6, 6, 6, 6, 6, 6, 6, 6, 7, 7, 7, 7, 7, 7, 7, 7, 7, 7, 7, 7, 7, 7, 7, 7, 7, 7, 7, 7, 7, 7, 7, 7, 7, 7, 7, 7, 7, 7, 7, 7, 7, 7, 7, 7, 7, 7, 7, 7, 7, 7, 7, 7, 7, 7, 7, 7, 7, 7, 7, 7, 7, 7, 7, 7, 7, 7, 7, 7, 7, 7, 7, 7, 8, 8, 8, 8, 8, 8, 8, 8, 8, 8, 8, 8, 8, 8, 8, 8, 8, 8, 8, 8, 8, 8, 8, 8, 8, 8, 8, 8, 8, 8, 8, 8, 8, 8, 8, 8, 8, 8, 8, 8, 8, 8, 8, 8, 8, 8, 8, 8, 8, 8, 8, 8, 8, 8, 8, 8, 8, 8, 8, 8, 8, 8, 8, 8, 8, 8, 8, 8, 8, 8, 8, 8, 8, 8, 8, 8, 8, 8, 8, 8, 8, 8, 8, 8, 8, 8, 8, 8, 8, 8, 8, 8, 8, 8, 8, 8, 8, 8, 8, 8, 8, 8, 8, 8, 8, 8, 8, 8, 8, 8, 8, 8, 8, 8, 8, 8, 8, 8, 8, 8, 8, 8, 8, 8, 8, 8, 8, 8]⟩
end Go.Gim
/- Functions' code as data (written by wip/tools/gen.py), and the step to their contracts. -/
set_option maxRecDepth 100000
namespace Go.Gim
open Go.Proofs
def math_bits_LeadingZeros32.k : K :=
 (.seq (kp [0] [Oc 2 0])
 (.seq (kp [2] [Om 3 0,
 Ot 4 (.callG zf0 [.t 3]),
 Ot 5 (.bin .sub (ci 32) (.t 4)),
 Om 2 5])
 .ret))
def math_bits_LeadingZeros32.res : List RX := [(2, none)]
theorem math_bits_LeadingZeros32.of : OfT pg zc1 math_bits_LeadingZeros32.k math_bits_LeadingZeros32.res 1 := OfI Tryz.func169
def math_bits_Len32.k : K :=
 (.seq (kp [0,2] [Oc 2 0])
 (.seq (.seq (kp [0,2,4] [Om 3 0,
 Ot 4 (.bin .geq (.t 3) (.c (.int .u32 65536)))])
 (.cond (.t 4) (.seq (kp [0] [Om 5 0,
 Ot 6 (.bin .shr (.t 5) (.c (.int .u64 16))),
 Om 0 6])
 (kp [0,2] [Oc 2 16]))
 .skip))
 (.seq (.seq (kp [0,2,8] [Om 7 0,
 Ot 8 (.bin .geq (.t 7) (.c (.int .u32 256)))])
 (.cond (.t 8) (.seq (kp [0,2] [Om 9 0,
 Ot 10 (.bin .shr (.t 9) (.c (.int .u64 8))),
 Om 0 10])
 (kp [0,2] [Om 11 2,
 Ot 12 (.bin .add (.t 11) (ci 8)),
 Om 2 12]))
 .skip))
 (.seq (kp [2] [Om 13 2,
 Om 14 0,
 Ot 15 (.conv .u8 (.t 14)),
 Ot 16 (.red .idxS [(.c (.str len8S)),.t 15]),
 Ot 17 (.conv .i64 (.t 16)),
 Ot 18 (.bin .add (.t 13) (.t 17)),
 Om 2 18])
 .ret))))
def math_bits_Len32.res : List RX := [(2, none)]
theorem math_bits_Len32.of : OfT pg zf0 math_bits_Len32.k math_bits_Len32.res 1 := OfI Tryz.func192
end Go.Gim

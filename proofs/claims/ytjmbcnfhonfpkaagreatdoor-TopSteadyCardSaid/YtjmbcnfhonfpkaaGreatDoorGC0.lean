import Derived.Test.YtjmbcnfhonfpkaaGreatDoorGN
/- Functions' code as data (written by wip/tools/gen.py), and the step to their contracts. -/
set_option maxRecDepth 100000
namespace Go.Gim
open Go.Proofs
def config_Default.k : K :=
 (.seq (kp [0] [Ot 0 (.alloc 17 (.agg [(.int .i64 0),(.int .i64 0),(.int .i64 0),(.int .i64 0),(.int .i64 0),(.int .i64 0),(.int .i64 0),(.int .i64 0),(.int .i64 0),(.int .i64 0),(.int .i64 0),(.int .i64 0),(.int .i64 0),(.int .i64 0),(.int .i64 0),(.int .i64 0),(.int .i64 0)]))])
 (.seq (kp [0] [Ot 1 (.build [(.int .i64 0),(.int .i64 0),(.int .i64 0),(.int .i64 0)] [(0,1,(ci 2000)),(1,1,(ci 1000)),(2,1,(ci 500)),(3,1,(ci 100))]),
    Ot 2 (.build [(.int .i64 0),(.int .i64 0),(.int .i64 0),(.int .i64 0)] [(0,1,(ci 4)),(1,1,(ci 1)),(2,1,(ci 2)),(3,1,(ci 8))]),
    Ot 3 (.build [(.int .i64 0),(.int .i64 0),(.int .i64 0),(.int .i64 0),(.int .i64 0),(.int .i64 0),(.int .i64 0),(.int .i64 0),(.int .i64 0),(.int .i64 0),(.int .i64 0),(.int .i64 0),(.int .i64 0),(.int .i64 0),(.int .i64 0),(.int .i64 0),(.int .i64 0)] [(0,1,(ci 100)),(1,1,(ci 50)),(2,1,(ci 4)),(3,1,(ci 5)),(4,1,(ci 2097152)),(5,1,(ci 33554432)),(6,4,(.t 1)),(10,4,(.t 2)),(14,1,(ci 12)),(15,1,(ci 6)),(16,1,(ci 1000))]),
    Oy 17 0 3])
  .ret))
def config_Default.res : List RX := [(0, some (17, true))]
theorem config_Default.of : OfT pg zep config_Default.k config_Default.res 0 := OfI Tryz.func7
def config_fields.k : K :=
 (.seq (kp [0] [Ot 2 (.mov (.c .nilfn))])
 (.seq (kp [0,3] [Ot 3 (.mov (.c (.fn zfy [])))])
  (.seq (kp [0,3,4] [Ot 4 (.mov (.c (.fn zfx [])))])
   (.seq (kd [5] [Om 6 4,
      Om 7 0,
      Ot 8 (.nilchk (.t 7)),
      Oq 9 0 1 8,
      Ot 10 (.callV (.t 6) [.t 9]),
      ⟨(some 11), none,.build [(.str ⟨#[]⟩),.nil,(.int .i64 0),(.int .i64 0)] [(0,1,(.c (.str ⟨#[82,97,116,101]⟩))),(1,1,(.t 10)),(2,1,(ci 1)),(3,1,(ci 1000))]⟩,
      Om 12 4,
      Om 13 0,
      Ot 14 (.nilchk (.t 13)),
      Oq 15 1 1 14,
      Ot 16 (.callV (.t 12) [.t 15]),
      ⟨(some 17), none,.build [(.str ⟨#[]⟩),.nil,(.int .i64 0),(.int .i64 0)] [(0,1,(.c (.str ⟨#[83,116,101,112]⟩))),(1,1,(.t 16)),(2,1,(ci 1)),(3,1,(ci 1000))]⟩,
      Om 18 4,
      Om 19 0,
      Ot 20 (.nilchk (.t 19)),
      Oq 21 2 1 20,
      Ot 22 (.callV (.t 18) [.t 21]),
      ⟨(some 23), none,.build [(.str ⟨#[]⟩),.nil,(.int .i64 0),(.int .i64 0)] [(0,1,(.c (.str ⟨#[75,101,121,115]⟩))),(1,1,(.t 22)),(2,1,(ci 2)),(3,1,(ci 5))]⟩,
      Om 24 4,
      Om 25 0,
      Ot 26 (.nilchk (.t 25)),
      Oq 27 3 1 26,
      Ot 28 (.callV (.t 24) [.t 27]),
      ⟨(some 29), none,.build [(.str ⟨#[]⟩),.nil,(.int .i64 0),(.int .i64 0)] [(0,1,(.c (.str ⟨#[71,97,112]⟩))),(1,1,(.t 28)),(2,1,(ci 1)),(3,1,(ci 1000))]⟩,
      Om 30 4,
      Om 31 0,
      Ot 32 (.nilchk (.t 31)),
      Oq 33 4 1 32,
      Ot 34 (.callV (.t 30) [.t 33]),
      ⟨(some 35), none,.build [(.str ⟨#[]⟩),.nil,(.int .i64 0),(.int .i64 0)] [(0,1,(.c (.str ⟨#[84,117,114,110]⟩))),(1,1,(.t 34)),(2,1,(ci 1)),(3,1,(ci 4194304))]⟩,
      Om 36 4,
      Om 37 0,
      Ot 38 (.nilchk (.t 37)),
      Oq 39 5 1 38,
      Ot 40 (.callV (.t 36) [.t 39]),
      ⟨(some 41), none,.build [(.str ⟨#[]⟩),.nil,(.int .i64 0),(.int .i64 0)] [(0,1,(.c (.str ⟨#[80,117,108,108]⟩))),(1,1,(.t 40)),(2,1,(ci 1)),(3,1,(ci 67108864))]⟩,
      Om 42 3,
      Om 43 0,
      Ot 44 (.nilchk (.t 43)),
      Ot 45 (.fldA 6 4 true (.t 44)),
      Ot 46 (.callV (.t 42) [.t 45]),
      ⟨(some 47), none,.build [(.str ⟨#[]⟩),.nil,(.int .i64 0),(.int .i64 0)] [(0,1,(.c (.str ⟨#[75,110,101,101,115]⟩))),(1,1,(.t 46)),(2,1,(ci 1)),(3,1,(ci 32768))]⟩,
      Om 48 3,
      Om 49 0,
      Ot 50 (.nilchk (.t 49)),
      Ot 51 (.fldA 10 4 true (.t 50)),
      Ot 52 (.callV (.t 48) [.t 51]),
      ⟨(some 53), none,.build [(.str ⟨#[]⟩),.nil,(.int .i64 0),(.int .i64 0)] [(0,1,(.c (.str ⟨#[87,101,105,103,104,116,115]⟩))),(1,1,(.t 52)),(2,1,(ci 1)),(3,1,(ci 100))]⟩,
      Om 54 4,
      Om 55 0,
      Ot 56 (.nilchk (.t 55)),
      Oq 57 14 1 56,
      Ot 58 (.callV (.t 54) [.t 57]),
      ⟨(some 59), none,.build [(.str ⟨#[]⟩),.nil,(.int .i64 0),(.int .i64 0)] [(0,1,(.c (.str ⟨#[82,111,117,110,100,115]⟩))),(1,1,(.t 58)),(2,1,(ci 1)),(3,1,(ci 30))]⟩,
      Om 60 4,
      Om 61 0,
      Ot 62 (.nilchk (.t 61)),
      Oq 63 15 1 62,
      Ot 64 (.callV (.t 60) [.t 63]),
      ⟨(some 65), none,.build [(.str ⟨#[]⟩),.nil,(.int .i64 0),(.int .i64 0)] [(0,1,(.c (.str ⟨#[82,97,105,115,101,115]⟩))),(1,1,(.t 64)),(2,1,(ci 0)),(3,1,(ci 12))]⟩,
      Om 66 4,
      Om 67 0,
      Ot 68 (.nilchk (.t 67)),
      Oq 69 16 1 68,
      Ot 70 (.callV (.t 66) [.t 69]),
      ⟨(some 71), none,.build [(.str ⟨#[]⟩),.nil,(.int .i64 0),(.int .i64 0)] [(0,1,(.c (.str ⟨#[70,108,97,116]⟩))),(1,1,(.t 70)),(2,1,(ci 0)),(3,1,(ci 1000000000))]⟩,
      Ot 72 (.new (.bsl 4) [.t 11,.t 17,.t 23,.t 29,.t 35,.t 41,.t 47,.t 53,.t 59,.t 65,.t 71]),
      Ot 5 (.alloc 1 .nil),
      Oy 1 5 72])
    (.seq (kp [2] [Ot 73 (.mkFn zd8 [.t 5]),
       Om 2 73])
     .ret)))))
def config_fields.res : List RX := [(2, none)]
theorem config_fields.of : OfT pg n_config_fields config_fields.k config_fields.res 1 := OfI Tryz.func69
def config_fields_1.k : K :=
 (.seq (kp [0] [Ot 2 (.mov (.c .nil))])
 (.seq (kd [2] [Om 3 0,
    Ot 4 (.nilchk (.t 3)),
    Ot 5 (.red (.aptr 4 1 false) [.t 4,ci 0]),
    Om 6 0,
    Ot 7 (.nilchk (.t 6)),
    Ot 8 (.red (.aptr 4 1 false) [.t 7,ci 1]),
    Om 9 0,
    Ot 10 (.nilchk (.t 9)),
    Ot 11 (.red (.aptr 4 1 false) [.t 10,ci 2]),
    Om 12 0,
    Ot 13 (.nilchk (.t 12)),
    Ot 14 (.red (.aptr 4 1 false) [.t 13,ci 3]),
    Ot 15 (.new (.bsl 1) [.t 5,.t 8,.t 11,.t 14]),
    Om 2 15])
  .ret))
def config_fields_1.res : List RX := [(2, none)]
theorem config_fields_1.of : OfT pg zfy config_fields_1.k config_fields_1.res 1 := OfI Tryz.func113
def config_fields_2.k : K :=
 (.seq (kp [0] [Ot 2 (.mov (.c .nil))])
 (.seq (kp [2] [Om 3 0,
    Ot 4 (.new (.bsl 1) [.t 3]),
    Om 2 4])
  .ret))
def config_fields_2.res : List RX := [(2, none)]
theorem config_fields_2.of : OfT pg zfx config_fields_2.k config_fields_2.res 1 := OfI Tryz.func114
end Go.Gim

/-
  The code of some functions, without addresses.
-/
import Derived.Test.YtohcnohllbjlcaaDoorChecked
import Derived.Test.YtohcnohllbjlcaaDoorQJ6
import Derived.Test.YtohcnohllbjlcaaDoorQAid
set_option linter.unusedSimpArgs false
set_option linter.unusedVariables false
set_option maxHeartbeats 8000000
set_option maxRecDepth 20000
namespace Go.Proofs.YtohcnohllbjlcaaDoor
open Go.RowKit Go.Lamb
/-- lambentref01.Digits -/
def c26 : AC :=
  .seq (.reg [.o 2 (.mov (.k (.c (.str []))))])
  (.seq (.reg [.o 3 (.mov (.k (.c (.str []))))])
  (.seq (.block 0 (.loop (.seq (.seq (.reg [.m 4 0, .o 5 (.bin .gtr (.t 4) (.k (.c (.int .i64 0)))), .m 6 5, .z 7 (.mov (.t 3)) 6, .z 8 (.bin .eql (.t 7) (.k (.c (.str [])))) 6, .o 9 (.pick (.t 6) (.k (.c (.bool true))) (.t 8))])
  (.cond (.t 9)
  (.skip)
  (.exit 0)))
  (.block 1 (.seq (.reg [.m 10 0, .o 11 (.bin .rem (.t 10) (.k (.c (.int .i64 10)))), .o 12 (.bin .add (.k (.c (.int .i64 48))) (.t 11)), .o 13 (.conv .u8 (.t 12)), .o 14 (.bsl 1 [(.t 13)]), .o 15 (.b2s (.t 14)), .m 16 3, .o 17 (.bin .add (.t 15) (.t 16)), .m 3 17])
  (.reg [.m 18 0, .o 19 (.bin .quo (.t 18) (.k (.c (.int .i64 10)))), .m 0 19]))))))
  (.seq (.reg [.m 20 3, .m 2 20])
  (.ret))))
def r26 : List ResV := [.tmp 2]
theorem k26 : CodeIs Tryd.prog 26 1 Tryd.f26 c26 r26 := ⟨by kernel_rfl, Tryd.func26, rfl, by kernel_rfl, by kernel_rfl, by decide, enters_fn Tryd.func26 (by kernel_rfl) rfl⟩
/-- lambentref01.Text -/
def c12 : AC :=
  .seq (.reg [.o 1 (.box (.t 0)), .o 2 (.mov (.k (.c (.str []))))])
  (.seq (.seq (.reg [.f 3 0 1, .l 4 3])
  (.block 0 (.seq (.seq (.reg [.o 6 (.bin .eql (.t 4) (.k (.c (.int .i64 1)))), .m 5 6])
  (.cond (.t 5)
  (.skip)
  (.seq (.reg [.o 7 (.bin .eql (.t 4) (.k (.c (.int .i64 2)))), .m 5 7])
  (.cond (.t 5)
  (.skip)
  (.reg [.o 8 (.bin .eql (.t 4) (.k (.c (.int .i64 4)))), .m 5 8])))))
  (.cond (.t 5)
  (.seq (.reg [.f 9 1 1, .l 10 9, .m 2 10])
  (.ret))
  (.seq (.reg [.o 12 (.bin .eql (.t 4) (.k (.c (.int .i64 3)))), .m 11 12])
  (.cond (.t 11)
  (.seq (.reg [.f 13 2 1, .l 14 13, .o 15 (.mx (.t 14) (.k (.c (.int .i64 0)))), .k 16 26 [(.t 15)], .m 2 16])
  (.ret))
  (.seq (.reg [.o 18 (.bin .eql (.t 4) (.k (.c (.int .i64 5)))), .m 17 18])
  (.cond (.t 17)
  (.seq (.reg [.o 2 (.mov (.k (.c (.str [40]))))])
  (.ret))
  (.seq (.reg [.o 20 (.bin .eql (.t 4) (.k (.c (.int .i64 6)))), .m 19 20])
  (.cond (.t 19)
  (.seq (.reg [.o 2 (.mov (.k (.c (.str [41]))))])
  (.ret))
  (.seq (.reg [.o 22 (.bin .eql (.t 4) (.k (.c (.int .i64 7)))), .m 21 22])
  (.cond (.t 21)
  (.seq (.reg [.o 2 (.mov (.k (.c (.str [46]))))])
  (.ret))
  (.seq (.reg [.o 24 (.bin .eql (.t 4) (.k (.c (.int .i64 8)))), .m 23 24])
  (.cond (.t 23)
  (.seq (.reg [.o 2 (.mov (.k (.c (.str [92]))))])
  (.ret))
  (.skip)))))))))))))))
  (.seq (.reg [.o 2 (.mov (.k (.c (.str []))))])
  (.ret)))
def r12 : List ResV := [.tmp 2]
theorem k12 : CodeIs Tryd.prog 12 1 Tryd.f12 c12 r12 := ⟨by kernel_rfl, Tryd.func12, rfl, by kernel_rfl, by kernel_rfl, by decide, enters_fn Tryd.func12 (by kernel_rfl) rfl⟩
/-- lex.Text -/
def c11 : AC :=
  .seq (.reg [.o 1 (.box (.t 0)), .o 2 (.mov (.k (.c (.str []))))])
  (.seq (.seq (.reg [.f 3 0 1, .l 4 3])
  (.block 0 (.seq (.seq (.reg [.o 6 (.bin .eql (.t 4) (.k (.c (.int .i64 1)))), .m 5 6])
  (.cond (.t 5)
  (.skip)
  (.seq (.reg [.o 7 (.bin .eql (.t 4) (.k (.c (.int .i64 2)))), .m 5 7])
  (.cond (.t 5)
  (.skip)
  (.reg [.o 8 (.bin .eql (.t 4) (.k (.c (.int .i64 4)))), .m 5 8])))))
  (.cond (.t 5)
  (.seq (.reg [.f 9 1 1, .l 10 9, .m 2 10])
  (.ret))
  (.seq (.reg [.o 12 (.bin .eql (.t 4) (.k (.c (.int .i64 3)))), .m 11 12])
  (.cond (.t 11)
  (.seq (.reg [.f 13 2 1, .l 14 13, .o 15 (.mx (.t 14) (.k (.c (.int .i64 0)))), .k 16 25 [(.t 15)], .m 2 16])
  (.ret))
  (.seq (.reg [.o 18 (.bin .eql (.t 4) (.k (.c (.int .i64 5)))), .m 17 18])
  (.cond (.t 17)
  (.seq (.reg [.o 2 (.mov (.k (.c (.str [40]))))])
  (.ret))
  (.seq (.reg [.o 20 (.bin .eql (.t 4) (.k (.c (.int .i64 6)))), .m 19 20])
  (.cond (.t 19)
  (.seq (.reg [.o 2 (.mov (.k (.c (.str [41]))))])
  (.ret))
  (.seq (.reg [.o 22 (.bin .eql (.t 4) (.k (.c (.int .i64 7)))), .m 21 22])
  (.cond (.t 21)
  (.seq (.reg [.o 2 (.mov (.k (.c (.str [46]))))])
  (.ret))
  (.seq (.reg [.o 24 (.bin .eql (.t 4) (.k (.c (.int .i64 8)))), .m 23 24])
  (.cond (.t 23)
  (.seq (.reg [.o 2 (.mov (.k (.c (.str [92]))))])
  (.ret))
  (.skip)))))))))))))))
  (.seq (.reg [.o 2 (.mov (.k (.c (.str []))))])
  (.ret)))
def r11 : List ResV := [.tmp 2]
theorem k11 : CodeIs Tryd.prog 11 1 Tryd.f11 c11 r11 := ⟨by kernel_rfl, Tryd.func11, rfl, by kernel_rfl, by kernel_rfl, by decide, enters_fn Tryd.func11 (by kernel_rfl) rfl⟩
/-- lambentlaw01.LexWords -/
def c3 : AC :=
  .seq (.reg [.o 3 (.box (.t 1)), .o 4 (.mov (.k (.c (.bool false))))])
  (.seq (.reg [.k 6 4 [], .m 5 6])
  (.seq (.seq (.reg [.m 7 5, .o 8 (.un .not (.t 7))])
  (.cond (.t 8)
  (.seq (.reg [.o 4 (.mov (.k (.c (.bool false))))])
  (.ret))
  (.skip)))
  (.seq (.seq (.reg [.m 9 0, .o 10 (.lens (.t 9)), .o 11 (.bin .gtr (.t 10) (.k (.c (.int .i64 2048)))), .m 12 11, .z 13 (.fadd 1 (.t 3)) 12, .z 14 (.load1 (.t 13)) 12, .z 15 (.lens (.t 14)) 12, .z 16 (.bin .gtr (.t 15) (.k (.c (.int .i64 2048)))) 12, .o 17 (.pick (.t 12) (.k (.c (.bool true))) (.t 16))])
  (.cond (.t 17)
  (.seq (.reg [.m 18 5, .m 4 18])
  (.ret))
  (.skip)))
  (.seq (.dreg [.m 19 5, .m 20 19, .y 21 (.mov (.t 0)) 20, .y 22 (.call (.k (.fn 5 [])) [(.t 21)]) 20, .y 23 (.mov (.t 0)) 20, .y 24 (.call (.k (.fn 6 [])) [(.t 23)]) 20, .y 25 (.eqb false (.t 22) (.t 24)) 20, .o 26 (.pick (.t 20) (.t 25) (.k (.c (.bool false)))), .m 27 26, .y 28 (.mov (.t 0)) 27, .y 29 (.call (.k (.fn 7 [])) [(.t 28)]) 27, .y 30 (.mov (.t 0)) 27, .y 31 (.call (.k (.fn 8 [])) [(.t 30)]) 27, .y 32 (.eqb false (.t 29) (.t 31)) 27, .o 33 (.pick (.t 27) (.t 32) (.k (.c (.bool false)))), .m 34 33, .y 35 (.mov (.t 0)) 34, .y 36 (.call (.k (.fn 9 [])) [(.t 35)]) 34, .y 37 (.mov (.t 0)) 34, .y 38 (.call (.k (.fn 10 [])) [(.t 37)]) 34, .y 39 (.eqb false (.t 36) (.t 38)) 34, .o 40 (.pick (.t 34) (.t 39) (.k (.c (.bool false)))), .m 41 40, .y 42 (.loadn 4 (.t 3)) 41, .y 43 (.call (.k (.fn 11 [])) [(.t 42)]) 41, .y 44 (.loadn 4 (.t 3)) 41, .y 45 (.call (.k (.fn 12 [])) [(.t 44)]) 41, .y 46 (.bin .eql (.t 43) (.t 45)) 41, .o 47 (.pick (.t 41) (.t 46) (.k (.c (.bool false)))), .m 4 47]
    [.q (.m 19 5), .q (.m 20 19), .q (.y 21 (.mov (.t 0)) 20), ⟨.y 22 (.call (.k (.fn 5 [])) [(.t 21)]) 20, true, 0⟩, .q (.y 23 (.mov (.t 0)) 20), ⟨.y 24 (.call (.k (.fn 6 [])) [(.t 23)]) 20, true, 1⟩, ⟨.y 25 (.eqb false (.t 22) (.t 24)) 20, false, 2⟩, ⟨.o 26 (.pick (.t 20) (.t 25) (.k (.c (.bool false)))), false, 2⟩, ⟨.m 27 26, false, 2⟩, ⟨.y 28 (.mov (.t 0)) 27, false, 2⟩, ⟨.y 29 (.call (.k (.fn 7 [])) [(.t 28)]) 27, true, 2⟩, ⟨.y 30 (.mov (.t 0)) 27, false, 2⟩, ⟨.y 31 (.call (.k (.fn 8 [])) [(.t 30)]) 27, true, 3⟩, ⟨.y 32 (.eqb false (.t 29) (.t 31)) 27, false, 4⟩, ⟨.o 33 (.pick (.t 27) (.t 32) (.k (.c (.bool false)))), false, 4⟩, ⟨.m 34 33, false, 4⟩, ⟨.y 35 (.mov (.t 0)) 34, false, 4⟩, ⟨.y 36 (.call (.k (.fn 9 [])) [(.t 35)]) 34, true, 4⟩, ⟨.y 37 (.mov (.t 0)) 34, false, 4⟩, ⟨.y 38 (.call (.k (.fn 10 [])) [(.t 37)]) 34, true, 5⟩, ⟨.y 39 (.eqb false (.t 36) (.t 38)) 34, false, 6⟩, ⟨.o 40 (.pick (.t 34) (.t 39) (.k (.c (.bool false)))), false, 6⟩, ⟨.m 41 40, false, 6⟩, ⟨.y 42 (.loadn 4 (.t 3)) 41, false, 6⟩, ⟨.y 43 (.call (.k (.fn 11 [])) [(.t 42)]) 41, true, 6⟩, ⟨.y 44 (.loadn 4 (.t 3)) 41, false, 6⟩, ⟨.y 45 (.call (.k (.fn 12 [])) [(.t 44)]) 41, true, 7⟩, ⟨.y 46 (.bin .eql (.t 43) (.t 45)) 41, false, 8⟩, ⟨.o 47 (.pick (.t 41) (.t 46) (.k (.c (.bool false)))), false, 8⟩, ⟨.m 4 47, false, 8⟩])
  (.ret)))))
def r3 : List ResV := [.tmp 4]
theorem k3 : CodeIs Tryd.prog 3 2 Tryd.f3 c3 r3 := ⟨by kernel_rfl, Tryd.func3, rfl, by kernel_rfl, by kernel_rfl, by decide, enters_fn Tryd.func3 (by kernel_rfl) rfl⟩
end Go.Proofs.YtohcnohllbjlcaaDoor

/-
  The code of some functions, without addresses.
  The code of some functions, without addresses.
  The code of some functions, without addresses.
  The code of some functions, without addresses.
  Walks: operators are found by their names.
  Walks: which trees could have been read, which are the same, and how large they are.
  Walks: which trees could have been read, which are the same, and how large they are.
  Walks: which trees could have been read, by both.
-/
import Derived.Test.YtpgkhkojjklakaaGreatDoorChecked
import Derived.Test.YtpgkhkojjklakaaGreatDoorQJ8
import Derived.Test.YtpgkhkojjklakaaGreatDoorQLexC
import Derived.Test.YtpgkhkojjklakaaGreatDoorQRefH
import Derived.Test.YtpgkhkojjklakaaGreatDoorQRefI
set_option linter.unusedSimpArgs false
set_option linter.unusedVariables false
set_option maxHeartbeats 8000000
set_option maxRecDepth 20000
namespace Go.Proofs.YtpgkhkojjklakaaGreatDoor
open Go.RowKit Go.Lamb
/-- ops.row -/
def c35 : AC :=
  .seq (.reg [⟨some 6, .mov (.k (.csl [])), none⟩])
  (.seq (.reg [⟨some 7, .mov (.k (.csl [])), none⟩])
  (.seq (.seq (.reg [⟨some 10, .mov (.t 2), none⟩,
    ⟨some 11, .lenr (.t 10), none⟩,
    ⟨some 12, .mov (.k (.c (.int .i64 0))), none⟩])
  (.block 0 (.loop (.seq (.reg [⟨some 13, .bin .lss (.t 12) (.t 11), none⟩])
  (.seq (.cond (.t 13)
  (.skip)
  (.exit 0))
  (.seq (.block 1 (.seq (.reg [⟨some 14, .iadd 1 (.t 10) (.t 12), none⟩,
    ⟨some 15, .load1 (.t 14), none⟩,
    ⟨some 9, .mov (.t 15), none⟩])
  (.reg [⟨some 16, .mov (.t 7), none⟩,
    ⟨some 17, .mov (.t 9), none⟩,
    ⟨some 18, .mov (.t 0), none⟩,
    ⟨some 19, .mov (.t 1), none⟩,
    ⟨some 20, .build [.c (.str []), .c (.int .i64 0), .c (.int .i64 0)] [(0, 1, (.t 17)), (1, 1, (.t 18)), (2, 1, (.t 19))], none⟩,
    ⟨some 21, .bsl 3 [(.t 20)], none⟩,
    ⟨some 22, .app 59 3 32 (.t 16) (.t 21), none⟩,
    ⟨some 7, .mov (.t 22), none⟩])))
  (.reg [⟨some 23, .bin .add (.t 12) (.k (.c (.int .i64 1))), none⟩,
    ⟨some 12, .mov (.t 23), none⟩])))))))
  (.seq (.reg [⟨some 24, .mov (.t 7), none⟩,
    ⟨some 6, .mov (.t 24), none⟩])
  (.ret))))
def r35 : List ResV := [.tmp 6]
theorem tr35 : tr Tryz.prog Tryz.f35.ntmps (Tryz.f35.body.getD .skip) = some c35 := by kernel_rfl
theorem tre35 : trRes Tryz.prog Tryz.f35.results.toList = some r35 := by kernel_rfl
theorem en35 : Enters Tryz.prog 35 := enters_fn Tryz.func35 (by kernel_rfl) rfl
theorem go35 {w0 : World} {args : List V} {σ : H} {R : V → H → Prop} (ha : args.length = 3) (h : H.ok σ → (∀ x ∈ args, V.Sz x) → W Tryz.prog w0 σ.length (Fin r35 σ.length R) [.code c35] ⟨argEnv args, σ⟩) : DC Tryz.prog w0 35 args σ R :=
  DC.of_code (by kernel_rfl) Tryz.func35 rfl tr35 tre35 (by rw [ha]; exact by decide) en35 h
/-- slices.Concat[[]api.Op,api.Op] -/
def c34 : AC :=
  .seq (.reg [⟨some 2, .mov (.k (.csl [])), none⟩])
  (.seq (.reg [⟨some 3, .mov (.k (.c (.int .i64 0))), none⟩])
  (.seq (.seq (.reg [⟨some 9, .mov (.t 0), none⟩,
    ⟨some 10, .lenr (.t 9), none⟩,
    ⟨some 11, .mov (.k (.c (.int .i64 0))), none⟩])
  (.block 0 (.loop (.seq (.reg [⟨some 12, .bin .lss (.t 11) (.t 10), none⟩])
  (.seq (.cond (.t 12)
  (.skip)
  (.exit 0))
  (.seq (.block 1 (.seq (.reg [⟨some 13, .iadd 1 (.t 9) (.t 11), none⟩,
    ⟨some 14, .load1 (.t 13), none⟩,
    ⟨some 5, .mov (.t 14), none⟩])
  (.seq (.reg [⟨some 15, .mov (.t 3), none⟩,
    ⟨some 16, .mov (.t 5), none⟩,
    ⟨some 17, .lenr (.t 16), none⟩,
    ⟨some 18, .bin .add (.t 15) (.t 17), none⟩,
    ⟨some 3, .mov (.t 18), none⟩])
  (.seq (.reg [⟨some 19, .mov (.t 3), none⟩,
    ⟨some 20, .bin .lss (.t 19) (.k (.c (.int .i64 0))), none⟩])
  (.cond (.t 20)
  (.reg [⟨some 21, .bad, none⟩,
    ⟨none, .bad, none⟩])
  (.skip))))))
  (.reg [⟨some 22, .bin .add (.t 11) (.k (.c (.int .i64 1))), none⟩,
    ⟨some 11, .mov (.t 22), none⟩])))))))
  (.seq (.reg [⟨some 23, .mov (.t 3), none⟩,
    ⟨some 24, .call (.k (.fn 77 [])) [(.k (.csl [])), (.t 23)], none⟩,
    ⟨some 6, .mov (.t 24), none⟩])
  (.seq (.seq (.reg [⟨some 25, .mov (.t 0), none⟩,
    ⟨some 26, .lenr (.t 25), none⟩,
    ⟨some 27, .mov (.k (.c (.int .i64 0))), none⟩])
  (.block 2 (.loop (.seq (.reg [⟨some 28, .bin .lss (.t 27) (.t 26), none⟩])
  (.seq (.cond (.t 28)
  (.skip)
  (.exit 2))
  (.seq (.block 3 (.seq (.reg [⟨some 29, .iadd 1 (.t 25) (.t 27), none⟩,
    ⟨some 30, .load1 (.t 29), none⟩,
    ⟨some 8, .mov (.t 30), none⟩])
  (.reg [⟨some 31, .mov (.t 6), none⟩,
    ⟨some 32, .mov (.t 8), none⟩,
    ⟨some 33, .app 59 3 32 (.t 31) (.t 32), none⟩,
    ⟨some 6, .mov (.t 33), none⟩])))
  (.reg [⟨some 34, .bin .add (.t 27) (.k (.c (.int .i64 1))), none⟩,
    ⟨some 27, .mov (.t 34), none⟩])))))))
  (.seq (.reg [⟨some 35, .mov (.t 6), none⟩,
    ⟨some 2, .mov (.t 35), none⟩])
  (.ret))))))
def r34 : List ResV := [.tmp 2]
theorem tr34 : tr Tryz.prog Tryz.f34.ntmps (Tryz.f34.body.getD .skip) = some c34 := by kernel_rfl
theorem tre34 : trRes Tryz.prog Tryz.f34.results.toList = some r34 := by kernel_rfl
theorem en34 : Enters Tryz.prog 34 := enters_fn Tryz.func34 (by kernel_rfl) rfl
theorem go34 {w0 : World} {args : List V} {σ : H} {R : V → H → Prop} (ha : args.length = 1) (h : H.ok σ → (∀ x ∈ args, V.Sz x) → W Tryz.prog w0 σ.length (Fin r34 σ.length R) [.code c34] ⟨argEnv args, σ⟩) : DC Tryz.prog w0 34 args σ R :=
  DC.of_code (by kernel_rfl) Tryz.func34 rfl tr34 tre34 (by rw [ha]; exact by decide) en34 h
/-- ops.Default -/
def c14 : AC :=
  .seq (.reg [⟨some 0, .mov (.k (.csl [])), none⟩])
  (.seq (.reg [⟨some 1, .bsl 1 [(.k (.c (.str [58, 45])))], none⟩,
    ⟨some 2, .call (.k (.fn 35 [])) [(.k (.c (.int .i64 10))), (.k (.c (.int .i64 0))), (.t 1)], none⟩,
    ⟨some 3, .bsl 1 [(.k (.c (.str [59])))], none⟩,
    ⟨some 4, .call (.k (.fn 35 [])) [(.k (.c (.int .i64 20))), (.k (.c (.int .i64 2))), (.t 3)], none⟩,
    ⟨some 5, .bsl 1 [(.k (.c (.str [44])))], none⟩,
    ⟨some 6, .call (.k (.fn 35 [])) [(.k (.c (.int .i64 30))), (.k (.c (.int .i64 2))), (.t 5)], none⟩,
    ⟨some 7, .bsl 1 [(.k (.c (.str [61, 62])))], none⟩,
    ⟨some 8, .call (.k (.fn 35 [])) [(.k (.c (.int .i64 40))), (.k (.c (.int .i64 2))), (.t 7)], none⟩,
    ⟨some 9, .bsl 1 [(.k (.c (.str [61]))), (.k (.c (.str [105, 115]))), (.k (.c (.str [60]))), (.k (.c (.str [61, 60]))), (.k (.c (.str [62]))), (.k (.c (.str [62, 61])))], none⟩,
    ⟨some 10, .call (.k (.fn 35 [])) [(.k (.c (.int .i64 60))), (.k (.c (.int .i64 0))), (.t 9)], none⟩,
    ⟨some 11, .bsl 1 [(.k (.c (.str [43]))), (.k (.c (.str [45])))], none⟩,
    ⟨some 12, .call (.k (.fn 35 [])) [(.k (.c (.int .i64 80))), (.k (.c (.int .i64 1))), (.t 11)], none⟩,
    ⟨some 13, .bsl 1 [(.k (.c (.str [42]))), (.k (.c (.str [100, 105, 118]))), (.k (.c (.str [109, 111, 100])))], none⟩,
    ⟨some 14, .call (.k (.fn 35 [])) [(.k (.c (.int .i64 90))), (.k (.c (.int .i64 1))), (.t 13)], none⟩,
    ⟨some 15, .bsl 1 [(.t 2), (.t 4), (.t 6), (.t 8), (.t 10), (.t 12), (.t 14)], none⟩,
    ⟨some 16, .call (.k (.fn 34 [])) [(.t 15)], none⟩,
    ⟨some 0, .mov (.t 16), none⟩])
  (.ret))
def r14 : List ResV := [.tmp 0]
theorem tr14 : tr Tryz.prog Tryz.f14.ntmps (Tryz.f14.body.getD .skip) = some c14 := by kernel_rfl
theorem tre14 : trRes Tryz.prog Tryz.f14.results.toList = some r14 := by kernel_rfl
theorem en14 : Enters Tryz.prog 14 := enters_fn Tryz.func14 (by kernel_rfl) rfl
theorem go14 {w0 : World} {args : List V} {σ : H} {R : V → H → Prop} (ha : args.length = 0) (h : H.ok σ → (∀ x ∈ args, V.Sz x) → W Tryz.prog w0 σ.length (Fin r14 σ.length R) [.code c14] ⟨argEnv args, σ⟩) : DC Tryz.prog w0 14 args σ R :=
  DC.of_code (by kernel_rfl) Tryz.func14 rfl tr14 tre14 (by rw [ha]; exact by decide) en14 h
/-- lambentref03.Exact -/
def c17 : AC :=
  .seq (.reg [⟨some 2, .box (.t 0), none⟩,
    ⟨some 3, .box (.t 1), none⟩,
    ⟨some 4, .mov (.k (.c (.bool false))), none⟩])
  (.seq (.seq (.reg [⟨some 7, .fadd 0 (.t 2), none⟩,
    ⟨some 8, .load1 (.t 7), none⟩,
    ⟨some 9, .fadd 0 (.t 3), none⟩,
    ⟨some 10, .load1 (.t 9), none⟩,
    ⟨some 11, .bin .neq (.t 8) (.t 10), none⟩,
    ⟨some 12, .mov (.t 11), none⟩,
    ⟨some 13, .fadd 1 (.t 2), some (12, false)⟩,
    ⟨some 14, .load1 (.t 13), some (12, false)⟩,
    ⟨some 15, .fadd 1 (.t 3), some (12, false)⟩,
    ⟨some 16, .load1 (.t 15), some (12, false)⟩,
    ⟨some 17, .bin .neq (.t 14) (.t 16), some (12, false)⟩,
    ⟨some 18, .pick (.t 12) (.k (.c (.bool true))) (.t 17), none⟩,
    ⟨some 19, .mov (.t 18), none⟩,
    ⟨some 20, .fadd 2 (.t 2), some (19, false)⟩,
    ⟨some 21, .load1 (.t 20), some (19, false)⟩,
    ⟨some 22, .fadd 2 (.t 3), some (19, false)⟩,
    ⟨some 23, .load1 (.t 22), some (19, false)⟩,
    ⟨some 24, .bin .neq (.t 21) (.t 23), some (19, false)⟩,
    ⟨some 25, .pick (.t 19) (.k (.c (.bool true))) (.t 24), none⟩,
    ⟨some 26, .mov (.t 25), none⟩,
    ⟨some 27, .fadd 4 (.t 2), some (26, false)⟩,
    ⟨some 28, .load1 (.t 27), some (26, false)⟩,
    ⟨some 29, .fadd 4 (.t 3), some (26, false)⟩,
    ⟨some 30, .load1 (.t 29), some (26, false)⟩,
    ⟨some 31, .bin .neq (.t 28) (.t 30), some (26, false)⟩,
    ⟨some 32, .pick (.t 26) (.k (.c (.bool true))) (.t 31), none⟩,
    ⟨some 33, .mov (.t 32), none⟩,
    ⟨some 34, .fadd 3 (.t 2), some (33, false)⟩,
    ⟨some 35, .load1 (.t 34), some (33, false)⟩,
    ⟨some 36, .lenr (.t 35), some (33, false)⟩,
    ⟨some 37, .fadd 3 (.t 3), some (33, false)⟩,
    ⟨some 38, .load1 (.t 37), some (33, false)⟩,
    ⟨some 39, .lenr (.t 38), some (33, false)⟩,
    ⟨some 40, .bin .neq (.t 36) (.t 39), some (33, false)⟩,
    ⟨some 41, .pick (.t 33) (.k (.c (.bool true))) (.t 40), none⟩])
  (.cond (.t 41)
  (.seq (.reg [⟨some 4, .mov (.k (.c (.bool false))), none⟩])
  (.ret))
  (.skip)))
  (.seq (.seq (.reg [⟨some 5, .mov (.k (.c (.int .i64 0))), none⟩])
  (.block 0 (.loop (.seq (.seq (.reg [⟨some 42, .mov (.t 5), none⟩,
    ⟨some 43, .fadd 3 (.t 2), none⟩,
    ⟨some 44, .load1 (.t 43), none⟩,
    ⟨some 45, .lenr (.t 44), none⟩,
    ⟨some 46, .bin .lss (.t 42) (.t 45), none⟩])
  (.cond (.t 46)
  (.skip)
  (.exit 0)))
  (.seq (.block 1 (.seq (.dreg [⟨some 49, .fadd 3 (.t 2), none⟩,
    ⟨some 50, .load1 (.t 49), none⟩,
    ⟨some 51, .mov (.t 5), none⟩,
    ⟨some 52, .iadd 5 (.t 50) (.t 51), none⟩,
    ⟨some 53, .loadn 5 (.t 52), none⟩,
    ⟨some 54, .fadd 3 (.t 3), none⟩,
    ⟨some 55, .load1 (.t 54), none⟩,
    ⟨some 56, .mov (.t 5), none⟩,
    ⟨some 57, .iadd 5 (.t 55) (.t 56), none⟩,
    ⟨some 58, .loadn 5 (.t 57), none⟩,
    ⟨some 59, .call (.k (.fn 17 [])) [(.t 53), (.t 58)], none⟩,
    ⟨some 6, .mov (.t 59), none⟩]
    [⟨⟨some 49, .fadd 3 (.t 2), none⟩, false, 0⟩,
    ⟨⟨some 50, .load1 (.t 49), none⟩, false, 0⟩,
    ⟨⟨some 51, .mov (.t 5), none⟩, false, 0⟩,
    ⟨⟨some 52, .iadd 5 (.t 50) (.t 51), none⟩, false, 0⟩,
    ⟨⟨some 53, .loadn 5 (.t 52), none⟩, false, 0⟩,
    ⟨⟨some 54, .fadd 3 (.t 3), none⟩, false, 0⟩,
    ⟨⟨some 55, .load1 (.t 54), none⟩, false, 0⟩,
    ⟨⟨some 56, .mov (.t 5), none⟩, false, 0⟩,
    ⟨⟨some 57, .iadd 5 (.t 55) (.t 56), none⟩, false, 0⟩,
    ⟨⟨some 58, .loadn 5 (.t 57), none⟩, false, 0⟩,
    ⟨⟨some 59, .call (.k (.fn 17 [])) [(.t 53), (.t 58)], none⟩, true, 0⟩,
    ⟨⟨some 6, .mov (.t 59), none⟩, false, 1⟩])
  (.seq (.reg [⟨some 60, .mov (.t 6), none⟩,
    ⟨some 61, .un .not (.t 60), none⟩])
  (.cond (.t 61)
  (.seq (.reg [⟨some 4, .mov (.k (.c (.bool false))), none⟩])
  (.ret))
  (.skip)))))
  (.reg [⟨some 47, .mov (.t 5), none⟩,
    ⟨some 48, .bin .add (.t 47) (.k (.c (.int .i64 1))), none⟩,
    ⟨some 5, .mov (.t 48), none⟩]))))))
  (.seq (.reg [⟨some 4, .mov (.k (.c (.bool true))), none⟩])
  (.ret))))
def r17 : List ResV := [.tmp 4]
theorem tr17 : tr Tryz.prog Tryz.f17.ntmps (Tryz.f17.body.getD .skip) = some c17 := by kernel_rfl
theorem tre17 : trRes Tryz.prog Tryz.f17.results.toList = some r17 := by kernel_rfl
theorem en17 : Enters Tryz.prog 17 := enters_fn Tryz.func17 (by kernel_rfl) rfl
theorem go17 {w0 : World} {args : List V} {σ : H} {R : V → H → Prop} (ha : args.length = 2) (h : H.ok σ → (∀ x ∈ args, V.Sz x) → W Tryz.prog w0 σ.length (Fin r17 σ.length R) [.code c17] ⟨argEnv args, σ⟩) : DC Tryz.prog w0 17 args σ R :=
  DC.of_code (by kernel_rfl) Tryz.func17 rfl tr17 tre17 (by rw [ha]; exact by decide) en17 h
/-- lambentref03.left -/
def c39 : AC :=
  .seq (.reg [⟨some 2, .box (.t 0), none⟩,
    ⟨some 4, .mov (.k (.c (.int .i64 0))), none⟩])
  (.seq (.reg [⟨some 7, .mov (.t 1), none⟩,
    ⟨some 8, .bin .sub (.t 7) (.k (.c (.int .i64 1))), none⟩,
    ⟨some 5, .mov (.t 8), none⟩])
  (.seq (.seq (.reg [⟨some 6, .mov (.k (.c (.int .i64 0))), none⟩])
  (.block 0 (.loop (.seq (.seq (.reg [⟨some 9, .mov (.t 6), none⟩,
    ⟨some 10, .fadd 3 (.t 2), none⟩,
    ⟨some 11, .load1 (.t 10), none⟩,
    ⟨some 12, .lenr (.t 11), none⟩,
    ⟨some 13, .bin .lss (.t 9) (.t 12), none⟩,
    ⟨some 14, .mov (.t 13), none⟩,
    ⟨some 15, .mov (.t 5), some (14, true)⟩,
    ⟨some 16, .bin .geq (.t 15) (.k (.c (.int .i64 0))), some (14, true)⟩,
    ⟨some 17, .pick (.t 14) (.t 16) (.k (.c (.bool false))), none⟩])
  (.cond (.t 17)
  (.skip)
  (.exit 0)))
  (.seq (.block 1 (.reg [⟨some 20, .fadd 3 (.t 2), none⟩,
    ⟨some 21, .load1 (.t 20), none⟩,
    ⟨some 22, .mov (.t 6), none⟩,
    ⟨some 23, .iadd 5 (.t 21) (.t 22), none⟩,
    ⟨some 24, .loadn 5 (.t 23), none⟩,
    ⟨some 25, .mov (.t 5), none⟩,
    ⟨some 26, .call (.k (.fn 39 [])) [(.t 24), (.t 25)], none⟩,
    ⟨some 5, .mov (.t 26), none⟩]))
  (.reg [⟨some 18, .mov (.t 6), none⟩,
    ⟨some 19, .bin .add (.t 18) (.k (.c (.int .i64 1))), none⟩,
    ⟨some 6, .mov (.t 19), none⟩]))))))
  (.seq (.reg [⟨some 27, .mov (.t 5), none⟩,
    ⟨some 4, .mov (.t 27), none⟩])
  (.ret))))
def r39 : List ResV := [.tmp 4]
theorem tr39 : tr Tryz.prog Tryz.f39.ntmps (Tryz.f39.body.getD .skip) = some c39 := by kernel_rfl
theorem tre39 : trRes Tryz.prog Tryz.f39.results.toList = some r39 := by kernel_rfl
theorem en39 : Enters Tryz.prog 39 := enters_fn Tryz.func39 (by kernel_rfl) rfl
theorem go39 {w0 : World} {args : List V} {σ : H} {R : V → H → Prop} (ha : args.length = 2) (h : H.ok σ → (∀ x ∈ args, V.Sz x) → W Tryz.prog w0 σ.length (Fin r39 σ.length R) [.code c39] ⟨argEnv args, σ⟩) : DC Tryz.prog w0 39 args σ R :=
  DC.of_code (by kernel_rfl) Tryz.func39 rfl tr39 tre39 (by rw [ha]; exact by decide) en39 h
/-- lambentref03.Deep -/
def c19 : AC :=
  .seq (.reg [⟨some 2, .box (.t 0), none⟩,
    ⟨some 4, .mov (.k (.c (.bool false))), none⟩])
  (.seq (.reg [⟨some 6, .loadn 5 (.t 2), none⟩,
    ⟨some 7, .mov (.t 1), none⟩,
    ⟨some 8, .call (.k (.fn 39 [])) [(.t 6), (.t 7)], none⟩,
    ⟨some 5, .mov (.t 8), none⟩])
  (.seq (.reg [⟨some 9, .mov (.t 5), none⟩,
    ⟨some 10, .bin .lss (.t 9) (.k (.c (.int .i64 0))), none⟩,
    ⟨some 4, .mov (.t 10), none⟩])
  (.ret)))
def r19 : List ResV := [.tmp 4]
theorem tr19 : tr Tryz.prog Tryz.f19.ntmps (Tryz.f19.body.getD .skip) = some c19 := by kernel_rfl
theorem tre19 : trRes Tryz.prog Tryz.f19.results.toList = some r19 := by kernel_rfl
theorem en19 : Enters Tryz.prog 19 := enters_fn Tryz.func19 (by kernel_rfl) rfl
theorem go19 {w0 : World} {args : List V} {σ : H} {R : V → H → Prop} (ha : args.length = 2) (h : H.ok σ → (∀ x ∈ args, V.Sz x) → W Tryz.prog w0 σ.length (Fin r19 σ.length R) [.code c19] ⟨argEnv args, σ⟩) : DC Tryz.prog w0 19 args σ R :=
  DC.of_code (by kernel_rfl) Tryz.func19 rfl tr19 tre19 (by rw [ha]; exact by decide) en19 h
/-- lambentlaw03.tokens -/
def c24 : AC :=
  .seq (.reg [⟨some 2, .mov (.k (.csl [])), none⟩])
  (.seq (.reg [⟨some 7, .mov (.t 0), none⟩,
    ⟨some 8, .call (.k (.fn 13 [])) [(.t 7)], none⟩,
    ⟨some 6, .mov (.t 8), none⟩,
    ⟨some 9, .ext (.t 6) 0, none⟩,
    ⟨some 10, .ext (.t 6) 1, none⟩,
    ⟨some 11, .ext (.t 6) 2, none⟩,
    ⟨some 3, .mov (.t 9), none⟩,
    ⟨some 4, .mov (.t 10), none⟩,
    ⟨some 5, .mov (.t 11), none⟩])
  (.seq (.reg [⟨some 12, .mov (.t 3), none⟩,
    ⟨some 2, .mov (.t 12), none⟩])
  (.ret)))
def r24 : List ResV := [.tmp 2]
theorem tr24 : tr Tryz.prog Tryz.f24.ntmps (Tryz.f24.body.getD .skip) = some c24 := by kernel_rfl
theorem tre24 : trRes Tryz.prog Tryz.f24.results.toList = some r24 := by kernel_rfl
theorem en24 : Enters Tryz.prog 24 := enters_fn Tryz.func24 (by kernel_rfl) rfl
theorem go24 {w0 : World} {args : List V} {σ : H} {R : V → H → Prop} (ha : args.length = 1) (h : H.ok σ → (∀ x ∈ args, V.Sz x) → W Tryz.prog w0 σ.length (Fin r24 σ.length R) [.code c24] ⟨argEnv args, σ⟩) : DC Tryz.prog w0 24 args σ R :=
  DC.of_code (by kernel_rfl) Tryz.func24 rfl tr24 tre24 (by rw [ha]; exact by decide) en24 h
end Go.Proofs.YtpgkhkojjklakaaGreatDoor
namespace Go.Proofs.YtpgkhkojjklakaaGreatDoor
open Go.RowKit Go.Lamb
/-- lex.run -/
def c70 : AC :=
  .seq (.reg [⟨some 4, .mov (.k (.c (.int .i64 0))), none⟩])
  (.seq (.seq (.reg [⟨some 6, .mov (.t 0), none⟩,
    ⟨some 7, .lens (.t 6), none⟩,
    ⟨some 8, .mov (.k (.c (.int .i64 0))), none⟩])
  (.block 0 (.loop (.seq (.reg [⟨some 9, .bin .lss (.t 8) (.t 7), none⟩])
  (.seq (.cond (.t 9)
  (.skip)
  (.exit 0))
  (.seq (.block 1 (.seq (.reg [⟨some 10, .mov (.t 8), none⟩,
    ⟨some 5, .mov (.t 10), none⟩])
  (.seq (.reg [⟨some 11, .mov (.t 1), none⟩,
    ⟨some 12, .mov (.t 0), none⟩,
    ⟨some 13, .mov (.t 5), none⟩,
    ⟨some 14, .index (.t 12) (.t 13), none⟩,
    ⟨some 15, .call (.t 11) [(.t 14)], none⟩,
    ⟨some 16, .un .not (.t 15), none⟩])
  (.cond (.t 16)
  (.seq (.reg [⟨some 17, .mov (.t 5), none⟩,
    ⟨some 4, .mov (.t 17), none⟩])
  (.ret))
  (.skip)))))
  (.reg [⟨some 18, .bin .add (.t 8) (.k (.c (.int .i64 1))), none⟩,
    ⟨some 8, .mov (.t 18), none⟩])))))))
  (.seq (.reg [⟨some 19, .mov (.t 0), none⟩,
    ⟨some 20, .lens (.t 19), none⟩,
    ⟨some 4, .mov (.t 20), none⟩])
  (.ret)))
def r70 : List ResV := [.tmp 4]
theorem tr70 : tr Tryz.prog Tryz.f70.ntmps (Tryz.f70.body.getD .skip) = some c70 := by kernel_rfl
theorem tre70 : trRes Tryz.prog Tryz.f70.results.toList = some r70 := by kernel_rfl
theorem en70 : Enters Tryz.prog 70 := enters_fn Tryz.func70 (by kernel_rfl) rfl
theorem go70 {w0 : World} {args : List V} {σ : H} {R : V → H → Prop} (ha : args.length = 2) (h : H.ok σ → (∀ x ∈ args, V.Sz x) → W Tryz.prog w0 σ.length (Fin r70 σ.length R) [.code c70] ⟨argEnv args, σ⟩) : DC Tryz.prog w0 70 args σ R :=
  DC.of_code (by kernel_rfl) Tryz.func70 rfl tr70 tre70 (by rw [ha]; exact by decide) en70 h
/-- lex.IsName -/
def c41 : AC :=
  .seq (.reg [⟨some 2, .mov (.k (.c (.bool false))), none⟩])
  (.seq (.reg [⟨some 3, .mov (.t 0), none⟩,
    ⟨some 4, .call (.k (.fn 92 [])) [(.t 3)], none⟩,
    ⟨some 5, .mov (.t 4), none⟩,
    ⟨some 6, .mov (.t 0), some (5, true)⟩,
    ⟨some 7, .index (.t 6) (.k (.c (.int .i64 0))), some (5, true)⟩,
    ⟨some 8, .call (.k (.fn 72 [])) [(.t 7)], some (5, true)⟩,
    ⟨some 9, .pick (.t 5) (.t 8) (.k (.c (.bool false))), none⟩,
    ⟨some 10, .mov (.t 9), none⟩,
    ⟨some 11, .mov (.t 0), some (10, true)⟩,
    ⟨some 12, .call (.k (.fn 70 [])) [(.t 11), (.k (.fn 73 []))], some (10, true)⟩,
    ⟨some 13, .mov (.t 0), some (10, true)⟩,
    ⟨some 14, .lens (.t 13), some (10, true)⟩,
    ⟨some 15, .bin .eql (.t 12) (.t 14), some (10, true)⟩,
    ⟨some 16, .pick (.t 10) (.t 15) (.k (.c (.bool false))), none⟩,
    ⟨some 2, .mov (.t 16), none⟩])
  (.ret))
def r41 : List ResV := [.tmp 2]
theorem tr41 : tr Tryz.prog Tryz.f41.ntmps (Tryz.f41.body.getD .skip) = some c41 := by kernel_rfl
theorem tre41 : trRes Tryz.prog Tryz.f41.results.toList = some r41 := by kernel_rfl
theorem en41 : Enters Tryz.prog 41 := enters_fn Tryz.func41 (by kernel_rfl) rfl
theorem go41 {w0 : World} {args : List V} {σ : H} {R : V → H → Prop} (ha : args.length = 1) (h : H.ok σ → (∀ x ∈ args, V.Sz x) → W Tryz.prog w0 σ.length (Fin r41 σ.length R) [.code c41] ⟨argEnv args, σ⟩) : DC Tryz.prog w0 41 args σ R :=
  DC.of_code (by kernel_rfl) Tryz.func41 rfl tr41 tre41 (by rw [ha]; exact by decide) en41 h
/-- lex.IsVar -/
def c42 : AC :=
  .seq (.reg [⟨some 2, .mov (.k (.c (.bool false))), none⟩])
  (.seq (.reg [⟨some 3, .mov (.t 0), none⟩,
    ⟨some 4, .call (.k (.fn 92 [])) [(.t 3)], none⟩,
    ⟨some 5, .mov (.t 4), none⟩,
    ⟨some 6, .mov (.t 0), some (5, true)⟩,
    ⟨some 7, .index (.t 6) (.k (.c (.int .i64 0))), some (5, true)⟩,
    ⟨some 8, .call (.k (.fn 74 [])) [(.t 7)], some (5, true)⟩,
    ⟨some 9, .pick (.t 5) (.t 8) (.k (.c (.bool false))), none⟩,
    ⟨some 10, .mov (.t 9), none⟩,
    ⟨some 11, .mov (.t 0), some (10, true)⟩,
    ⟨some 12, .call (.k (.fn 70 [])) [(.t 11), (.k (.fn 73 []))], some (10, true)⟩,
    ⟨some 13, .mov (.t 0), some (10, true)⟩,
    ⟨some 14, .lens (.t 13), some (10, true)⟩,
    ⟨some 15, .bin .eql (.t 12) (.t 14), some (10, true)⟩,
    ⟨some 16, .pick (.t 10) (.t 15) (.k (.c (.bool false))), none⟩,
    ⟨some 2, .mov (.t 16), none⟩])
  (.ret))
def r42 : List ResV := [.tmp 2]
theorem tr42 : tr Tryz.prog Tryz.f42.ntmps (Tryz.f42.body.getD .skip) = some c42 := by kernel_rfl
theorem tre42 : trRes Tryz.prog Tryz.f42.results.toList = some r42 := by kernel_rfl
theorem en42 : Enters Tryz.prog 42 := enters_fn Tryz.func42 (by kernel_rfl) rfl
theorem go42 {w0 : World} {args : List V} {σ : H} {R : V → H → Prop} (ha : args.length = 1) (h : H.ok σ → (∀ x ∈ args, V.Sz x) → W Tryz.prog w0 σ.length (Fin r42 σ.length R) [.code c42] ⟨argEnv args, σ⟩) : DC Tryz.prog w0 42 args σ R :=
  DC.of_code (by kernel_rfl) Tryz.func42 rfl tr42 tre42 (by rw [ha]; exact by decide) en42 h
/-- lex.IsSym -/
def c43 : AC :=
  .seq (.reg [⟨some 2, .mov (.k (.c (.bool false))), none⟩])
  (.seq (.reg [⟨some 3, .mov (.t 0), none⟩,
    ⟨some 4, .call (.k (.fn 92 [])) [(.t 3)], none⟩,
    ⟨some 5, .mov (.t 4), none⟩,
    ⟨some 6, .mov (.t 0), some (5, true)⟩,
    ⟨some 7, .call (.k (.fn 70 [])) [(.t 6), (.k (.fn 75 []))], some (5, true)⟩,
    ⟨some 8, .mov (.t 0), some (5, true)⟩,
    ⟨some 9, .lens (.t 8), some (5, true)⟩,
    ⟨some 10, .bin .eql (.t 7) (.t 9), some (5, true)⟩,
    ⟨some 11, .mov (.t 10), some (5, true)⟩,
    ⟨some 12, .mov (.t 0), some (11, false)⟩,
    ⟨some 13, .lens (.t 12), some (11, false)⟩,
    ⟨some 14, .bin .eql (.t 13) (.k (.c (.int .i64 1))), some (11, false)⟩,
    ⟨some 15, .mov (.t 14), some (11, false)⟩,
    ⟨some 16, .mov (.t 0), some (15, true)⟩,
    ⟨some 17, .call (.k (.fn 93 [])) [(.k (.c (.str [44, 59, 33]))), (.t 16)], some (15, true)⟩,
    ⟨some 18, .pick (.t 15) (.t 17) (.k (.c (.bool false))), some (11, false)⟩,
    ⟨some 19, .pick (.t 11) (.k (.c (.bool true))) (.t 18), some (5, true)⟩,
    ⟨some 20, .pick (.t 5) (.t 19) (.k (.c (.bool false))), none⟩,
    ⟨some 2, .mov (.t 20), none⟩])
  (.ret))
def r43 : List ResV := [.tmp 2]
theorem tr43 : tr Tryz.prog Tryz.f43.ntmps (Tryz.f43.body.getD .skip) = some c43 := by kernel_rfl
theorem tre43 : trRes Tryz.prog Tryz.f43.results.toList = some r43 := by kernel_rfl
theorem en43 : Enters Tryz.prog 43 := enters_fn Tryz.func43 (by kernel_rfl) rfl
theorem go43 {w0 : World} {args : List V} {σ : H} {R : V → H → Prop} (ha : args.length = 1) (h : H.ok σ → (∀ x ∈ args, V.Sz x) → W Tryz.prog w0 σ.length (Fin r43 σ.length R) [.code c43] ⟨argEnv args, σ⟩) : DC Tryz.prog w0 43 args σ R :=
  DC.of_code (by kernel_rfl) Tryz.func43 rfl tr43 tre43 (by rw [ha]; exact by decide) en43 h
/-- read.Valid -/
def c20 : AC :=
  .seq (.reg [⟨some 2, .box (.t 0), none⟩,
    ⟨some 3, .box (.t 1), none⟩,
    ⟨some 4, .mov (.k (.c (.bool false))), none⟩])
  (.seq (.reg [⟨some 12, .load1 (.t 2), none⟩,
    ⟨some 13, .fadd 1 (.t 3), none⟩,
    ⟨some 14, .load1 (.t 13), none⟩,
    ⟨some 15, .call (.k (.fn 40 [])) [(.t 12), (.t 14)], none⟩,
    ⟨some 11, .mov (.t 15), none⟩,
    ⟨some 16, .ext (.t 11) 0, none⟩,
    ⟨some 17, .ext (.t 11) 1, none⟩,
    ⟨some 5, .box (.k (.agg [.c (.str []), .c (.int .i64 0), .c (.int .i64 0)])), none⟩,
    ⟨none, .store 3 (.t 5) (.t 16), none⟩,
    ⟨some 6, .mov (.t 17), none⟩])
  (.seq (.dreg [⟨some 18, .fadd 1 (.t 3), none⟩,
    ⟨some 19, .load1 (.t 18), none⟩,
    ⟨some 20, .call (.k (.fn 41 [])) [(.t 19)], none⟩,
    ⟨some 21, .fadd 1 (.t 3), none⟩,
    ⟨some 22, .load1 (.t 21), none⟩,
    ⟨some 23, .call (.k (.fn 42 [])) [(.t 22)], none⟩,
    ⟨some 7, .mov (.t 20), none⟩,
    ⟨some 8, .mov (.t 23), none⟩]
    [⟨⟨some 18, .fadd 1 (.t 3), none⟩, false, 0⟩,
    ⟨⟨some 19, .load1 (.t 18), none⟩, false, 0⟩,
    ⟨⟨some 20, .call (.k (.fn 41 [])) [(.t 19)], none⟩, true, 0⟩,
    ⟨⟨some 21, .fadd 1 (.t 3), none⟩, false, 0⟩,
    ⟨⟨some 22, .load1 (.t 21), none⟩, false, 0⟩,
    ⟨⟨some 23, .call (.k (.fn 42 [])) [(.t 22)], none⟩, true, 1⟩,
    ⟨⟨some 7, .mov (.t 20), none⟩, false, 2⟩,
    ⟨⟨some 8, .mov (.t 23), none⟩, false, 2⟩])
  (.seq (.reg [⟨some 9, .mov (.k (.c (.bool false))), none⟩])
  (.seq (.reg [⟨some 10, .mov (.k (.c (.int .i64 0))), none⟩])
  (.seq (.seq (.reg [⟨some 24, .fadd 0 (.t 3), none⟩,
    ⟨some 25, .load1 (.t 24), none⟩])
  (.block 0 (.seq (.reg [⟨some 27, .bin .eql (.t 25) (.k (.c (.int .i64 0))), none⟩,
    ⟨some 26, .mov (.t 27), none⟩])
  (.cond (.t 26)
  (.reg [⟨some 28, .mov (.t 7), none⟩,
    ⟨some 29, .mov (.t 28), none⟩,
    ⟨some 30, .fadd 1 (.t 3), some (29, false)⟩,
    ⟨some 31, .load1 (.t 30), some (29, false)⟩,
    ⟨some 32, .call (.k (.fn 43 [])) [(.t 31)], some (29, false)⟩,
    ⟨some 33, .pick (.t 29) (.k (.c (.bool true))) (.t 32), none⟩,
    ⟨some 9, .mov (.t 33), none⟩])
  (.seq (.reg [⟨some 35, .bin .eql (.t 25) (.k (.c (.int .i64 1))), none⟩,
    ⟨some 34, .mov (.t 35), none⟩])
  (.cond (.t 34)
  (.reg [⟨some 36, .mov (.t 8), none⟩,
    ⟨some 37, .mov (.t 36), none⟩,
    ⟨some 38, .mov (.t 6), some (37, true)⟩,
    ⟨some 39, .un .not (.t 38), some (37, true)⟩,
    ⟨some 40, .pick (.t 37) (.t 39) (.k (.c (.bool false))), none⟩,
    ⟨some 9, .mov (.t 40), none⟩])
  (.seq (.reg [⟨some 42, .bin .eql (.t 25) (.k (.c (.int .i64 2))), none⟩,
    ⟨some 41, .mov (.t 42), none⟩])
  (.cond (.t 41)
  (.reg [⟨some 43, .fadd 1 (.t 3), none⟩,
    ⟨some 44, .load1 (.t 43), none⟩,
    ⟨some 45, .bin .eql (.t 44) (.k (.c (.str []))), none⟩,
    ⟨some 46, .mov (.t 45), none⟩,
    ⟨some 47, .fadd 2 (.t 3), some (46, true)⟩,
    ⟨some 48, .load1 (.t 47), some (46, true)⟩,
    ⟨some 49, .bin .geq (.t 48) (.k (.c (.int .i64 0))), some (46, true)⟩,
    ⟨some 50, .pick (.t 46) (.t 49) (.k (.c (.bool false))), none⟩,
    ⟨some 9, .mov (.t 50), none⟩])
  (.seq (.reg [⟨some 52, .bin .eql (.t 25) (.k (.c (.int .i64 3))), none⟩,
    ⟨some 51, .mov (.t 52), none⟩])
  (.cond (.t 51)
  (.reg [⟨some 53, .fadd 1 (.t 3), none⟩,
    ⟨some 54, .load1 (.t 53), none⟩,
    ⟨some 55, .bin .eql (.t 54) (.k (.c (.str []))), none⟩,
    ⟨some 9, .mov (.t 55), none⟩,
    ⟨some 10, .mov (.k (.c (.int .i64 2))), none⟩])
  (.seq (.reg [⟨some 57, .bin .eql (.t 25) (.k (.c (.int .i64 4))), none⟩,
    ⟨some 56, .mov (.t 57), none⟩])
  (.cond (.t 56)
  (.reg [⟨some 58, .mov (.t 7), none⟩,
    ⟨some 59, .mov (.t 58), none⟩,
    ⟨some 60, .mov (.t 8), some (59, false)⟩,
    ⟨some 61, .pick (.t 59) (.k (.c (.bool true))) (.t 60), none⟩,
    ⟨some 62, .mov (.t 61), none⟩,
    ⟨some 63, .mov (.t 6), some (62, true)⟩,
    ⟨some 64, .un .not (.t 63), some (62, true)⟩,
    ⟨some 65, .pick (.t 62) (.t 64) (.k (.c (.bool false))), none⟩,
    ⟨some 9, .mov (.t 65), none⟩,
    ⟨some 10, .mov (.k (.c (.int .i64 1))), none⟩])
  (.skip)))))))))))))
  (.seq (.seq (.reg [⟨some 66, .mov (.t 9), none⟩,
    ⟨some 67, .un .not (.t 66), none⟩,
    ⟨some 68, .mov (.t 67), none⟩,
    ⟨some 69, .fadd 3 (.t 3), some (68, false)⟩,
    ⟨some 70, .load1 (.t 69), some (68, false)⟩,
    ⟨some 71, .lenr (.t 70), some (68, false)⟩,
    ⟨some 72, .mov (.t 10), some (68, false)⟩,
    ⟨some 73, .bin .neq (.t 71) (.t 72), some (68, false)⟩,
    ⟨some 74, .pick (.t 68) (.k (.c (.bool true))) (.t 73), none⟩,
    ⟨some 75, .mov (.t 74), none⟩,
    ⟨some 76, .fadd 0 (.t 3), some (75, false)⟩,
    ⟨some 77, .load1 (.t 76), some (75, false)⟩,
    ⟨some 78, .bin .neq (.t 77) (.k (.c (.int .i64 2))), some (75, false)⟩,
    ⟨some 79, .mov (.t 78), some (75, false)⟩,
    ⟨some 80, .fadd 2 (.t 3), some (79, true)⟩,
    ⟨some 81, .load1 (.t 80), some (79, true)⟩,
    ⟨some 82, .bin .neq (.t 81) (.k (.c (.int .i64 0))), some (79, true)⟩,
    ⟨some 83, .pick (.t 79) (.t 82) (.k (.c (.bool false))), some (75, false)⟩,
    ⟨some 84, .pick (.t 75) (.k (.c (.bool true))) (.t 83), none⟩])
  (.cond (.t 84)
  (.seq (.reg [⟨some 4, .mov (.k (.c (.bool false))), none⟩])
  (.ret))
  (.skip)))
  (.seq (.reg [⟨some 85, .fadd 3 (.t 3), none⟩,
    ⟨some 86, .load1 (.t 85), none⟩,
    ⟨some 87, .mkfn 45 [(.t 2)], none⟩,
    ⟨some 88, .call (.k (.fn 44 [])) [(.t 86), (.t 87)], none⟩,
    ⟨some 89, .un .not (.t 88), none⟩,
    ⟨some 4, .mov (.t 89), none⟩])
  (.ret))))))))
def r20 : List ResV := [.tmp 4]
theorem tr20 : tr Tryz.prog Tryz.f20.ntmps (Tryz.f20.body.getD .skip) = some c20 := by kernel_rfl
theorem tre20 : trRes Tryz.prog Tryz.f20.results.toList = some r20 := by kernel_rfl
theorem en20 : Enters Tryz.prog 20 := enters_fn Tryz.func20 (by kernel_rfl) rfl
theorem go20 {w0 : World} {args : List V} {σ : H} {R : V → H → Prop} (ha : args.length = 2) (h : H.ok σ → (∀ x ∈ args, V.Sz x) → W Tryz.prog w0 σ.length (Fin r20 σ.length R) [.code c20] ⟨argEnv args, σ⟩) : DC Tryz.prog w0 20 args σ R :=
  DC.of_code (by kernel_rfl) Tryz.func20 rfl tr20 tre20 (by rw [ha]; exact by decide) en20 h
/-- read.Valid$1 -/
def c45 : AC :=
  .seq (.reg [⟨some 2, .box (.t 0), none⟩,
    ⟨some 3, .mov (.k (.c (.bool false))), none⟩])
  (.seq (.reg [⟨some 4, .load1 (.t 1), none⟩,
    ⟨some 5, .loadn 5 (.t 2), none⟩,
    ⟨some 6, .call (.k (.fn 20 [])) [(.t 4), (.t 5)], none⟩,
    ⟨some 7, .un .not (.t 6), none⟩,
    ⟨some 3, .mov (.t 7), none⟩])
  (.ret))
def r45 : List ResV := [.tmp 3]
theorem tr45 : tr Tryz.prog Tryz.f45.ntmps (Tryz.f45.body.getD .skip) = some c45 := by kernel_rfl
theorem tre45 : trRes Tryz.prog Tryz.f45.results.toList = some r45 := by kernel_rfl
theorem en45 : Enters Tryz.prog 45 := enters_fn Tryz.func45 (by kernel_rfl) rfl
theorem go45 {w0 : World} {args : List V} {σ : H} {R : V → H → Prop} (ha : args.length = 2) (h : H.ok σ → (∀ x ∈ args, V.Sz x) → W Tryz.prog w0 σ.length (Fin r45 σ.length R) [.code c45] ⟨argEnv args, σ⟩) : DC Tryz.prog w0 45 args σ R :=
  DC.of_code (by kernel_rfl) Tryz.func45 rfl tr45 tre45 (by rw [ha]; exact by decide) en45 h
/-- read.Same -/
def c22 : AC :=
  .seq (.reg [⟨some 2, .box (.t 0), none⟩,
    ⟨some 3, .box (.t 1), none⟩,
    ⟨some 4, .mov (.k (.c (.bool false))), none⟩])
  (.seq (.reg [⟨some 5, .fadd 0 (.t 2), none⟩,
    ⟨some 6, .load1 (.t 5), none⟩,
    ⟨some 7, .fadd 0 (.t 3), none⟩,
    ⟨some 8, .load1 (.t 7), none⟩,
    ⟨some 9, .bin .eql (.t 6) (.t 8), none⟩,
    ⟨some 10, .mov (.t 9), none⟩,
    ⟨some 11, .fadd 1 (.t 2), some (10, true)⟩,
    ⟨some 12, .load1 (.t 11), some (10, true)⟩,
    ⟨some 13, .fadd 1 (.t 3), some (10, true)⟩,
    ⟨some 14, .load1 (.t 13), some (10, true)⟩,
    ⟨some 15, .bin .eql (.t 12) (.t 14), some (10, true)⟩,
    ⟨some 16, .pick (.t 10) (.t 15) (.k (.c (.bool false))), none⟩,
    ⟨some 17, .mov (.t 16), none⟩,
    ⟨some 18, .fadd 2 (.t 2), some (17, true)⟩,
    ⟨some 19, .load1 (.t 18), some (17, true)⟩,
    ⟨some 20, .fadd 2 (.t 3), some (17, true)⟩,
    ⟨some 21, .load1 (.t 20), some (17, true)⟩,
    ⟨some 22, .bin .eql (.t 19) (.t 21), some (17, true)⟩,
    ⟨some 23, .pick (.t 17) (.t 22) (.k (.c (.bool false))), none⟩,
    ⟨some 24, .mov (.t 23), none⟩,
    ⟨some 25, .fadd 3 (.t 2), some (24, true)⟩,
    ⟨some 26, .load1 (.t 25), some (24, true)⟩,
    ⟨some 27, .fadd 3 (.t 3), some (24, true)⟩,
    ⟨some 28, .load1 (.t 27), some (24, true)⟩,
    ⟨some 29, .call (.k (.fn 50 [])) [(.t 26), (.t 28), (.k (.fn 22 []))], some (24, true)⟩,
    ⟨some 30, .pick (.t 24) (.t 29) (.k (.c (.bool false))), none⟩,
    ⟨some 4, .mov (.t 30), none⟩])
  (.ret))
def r22 : List ResV := [.tmp 4]
theorem tr22 : tr Tryz.prog Tryz.f22.ntmps (Tryz.f22.body.getD .skip) = some c22 := by kernel_rfl
theorem tre22 : trRes Tryz.prog Tryz.f22.results.toList = some r22 := by kernel_rfl
theorem en22 : Enters Tryz.prog 22 := enters_fn Tryz.func22 (by kernel_rfl) rfl
theorem go22 {w0 : World} {args : List V} {σ : H} {R : V → H → Prop} (ha : args.length = 2) (h : H.ok σ → (∀ x ∈ args, V.Sz x) → W Tryz.prog w0 σ.length (Fin r22 σ.length R) [.code c22] ⟨argEnv args, σ⟩) : DC Tryz.prog w0 22 args σ R :=
  DC.of_code (by kernel_rfl) Tryz.func22 rfl tr22 tre22 (by rw [ha]; exact by decide) en22 h
/-- slices.ContainsFunc[[]api.Pre,api.Pre] -/
def c44 : AC :=
  .seq (.reg [⟨some 4, .mov (.k (.c (.bool false))), none⟩])
  (.seq (.reg [⟨some 5, .mov (.t 0), none⟩,
    ⟨some 6, .mov (.t 1), none⟩,
    ⟨some 7, .call (.k (.fn 94 [])) [(.t 5), (.t 6)], none⟩,
    ⟨some 8, .bin .geq (.t 7) (.k (.c (.int .i64 0))), none⟩,
    ⟨some 4, .mov (.t 8), none⟩])
  (.ret))
def r44 : List ResV := [.tmp 4]
theorem tr44 : tr Tryz.prog Tryz.f44.ntmps (Tryz.f44.body.getD .skip) = some c44 := by kernel_rfl
theorem tre44 : trRes Tryz.prog Tryz.f44.results.toList = some r44 := by kernel_rfl
theorem en44 : Enters Tryz.prog 44 := enters_fn Tryz.func44 (by kernel_rfl) rfl
theorem go44 {w0 : World} {args : List V} {σ : H} {R : V → H → Prop} (ha : args.length = 2) (h : H.ok σ → (∀ x ∈ args, V.Sz x) → W Tryz.prog w0 σ.length (Fin r44 σ.length R) [.code c44] ⟨argEnv args, σ⟩) : DC Tryz.prog w0 44 args σ R :=
  DC.of_code (by kernel_rfl) Tryz.func44 rfl tr44 tre44 (by rw [ha]; exact by decide) en44 h
/-- slices.EqualFunc[[]api.Pre,[]api.Pre,api.Pre,api.Pre] -/
def c50 : AC :=
  .seq (.reg [⟨some 6, .mov (.k (.c (.bool false))), none⟩])
  (.seq (.seq (.reg [⟨some 10, .mov (.t 0), none⟩,
    ⟨some 11, .lenr (.t 10), none⟩,
    ⟨some 12, .mov (.t 1), none⟩,
    ⟨some 13, .lenr (.t 12), none⟩,
    ⟨some 14, .bin .neq (.t 11) (.t 13), none⟩])
  (.cond (.t 14)
  (.seq (.reg [⟨some 6, .mov (.k (.c (.bool false))), none⟩])
  (.ret))
  (.skip)))
  (.seq (.seq (.reg [⟨some 15, .mov (.t 0), none⟩,
    ⟨some 16, .lenr (.t 15), none⟩,
    ⟨some 17, .mov (.k (.c (.int .i64 0))), none⟩])
  (.block 0 (.loop (.seq (.reg [⟨some 18, .bin .lss (.t 17) (.t 16), none⟩])
  (.seq (.cond (.t 18)
  (.skip)
  (.exit 0))
  (.seq (.block 1 (.seq (.reg [⟨some 19, .mov (.t 17), none⟩,
    ⟨some 20, .iadd 5 (.t 15) (.t 17), none⟩,
    ⟨some 21, .loadn 5 (.t 20), none⟩,
    ⟨some 8, .box (.k (.agg [.c (.int .i64 0), .c (.str []), .c (.int .i64 0), .csl [], .c (.int .i64 0)])), none⟩,
    ⟨some 7, .mov (.t 19), none⟩,
    ⟨none, .store 5 (.t 8) (.t 21), none⟩])
  (.seq (.reg [⟨some 22, .mov (.t 1), none⟩,
    ⟨some 23, .mov (.t 7), none⟩,
    ⟨some 24, .iadd 5 (.t 22) (.t 23), none⟩,
    ⟨some 25, .loadn 5 (.t 24), none⟩,
    ⟨some 9, .box (.k (.agg [.c (.int .i64 0), .c (.str []), .c (.int .i64 0), .csl [], .c (.int .i64 0)])), none⟩,
    ⟨none, .store 5 (.t 9) (.t 25), none⟩])
  (.seq (.reg [⟨some 26, .mov (.t 2), none⟩,
    ⟨some 27, .loadn 5 (.t 8), none⟩,
    ⟨some 28, .loadn 5 (.t 9), none⟩,
    ⟨some 29, .call (.t 26) [(.t 27), (.t 28)], none⟩,
    ⟨some 30, .un .not (.t 29), none⟩])
  (.cond (.t 30)
  (.seq (.reg [⟨some 6, .mov (.k (.c (.bool false))), none⟩])
  (.ret))
  (.skip))))))
  (.reg [⟨some 31, .bin .add (.t 17) (.k (.c (.int .i64 1))), none⟩,
    ⟨some 17, .mov (.t 31), none⟩])))))))
  (.seq (.reg [⟨some 6, .mov (.k (.c (.bool true))), none⟩])
  (.ret))))
def r50 : List ResV := [.tmp 6]
theorem tr50 : tr Tryz.prog Tryz.f50.ntmps (Tryz.f50.body.getD .skip) = some c50 := by kernel_rfl
theorem tre50 : trRes Tryz.prog Tryz.f50.results.toList = some r50 := by kernel_rfl
theorem en50 : Enters Tryz.prog 50 := enters_fn Tryz.func50 (by kernel_rfl) rfl
theorem go50 {w0 : World} {args : List V} {σ : H} {R : V → H → Prop} (ha : args.length = 3) (h : H.ok σ → (∀ x ∈ args, V.Sz x) → W Tryz.prog w0 σ.length (Fin r50 σ.length R) [.code c50] ⟨argEnv args, σ⟩) : DC Tryz.prog w0 50 args σ R :=
  DC.of_code (by kernel_rfl) Tryz.func50 rfl tr50 tre50 (by rw [ha]; exact by decide) en50 h
/-- slices.IndexFunc[[]api.Pre,api.Pre] -/
def c94 : AC :=
  .seq (.reg [⟨some 4, .mov (.k (.c (.int .i64 0))), none⟩])
  (.seq (.seq (.reg [⟨some 6, .mov (.t 0), none⟩,
    ⟨some 7, .lenr (.t 6), none⟩,
    ⟨some 8, .mov (.k (.c (.int .i64 0))), none⟩])
  (.block 0 (.loop (.seq (.reg [⟨some 9, .bin .lss (.t 8) (.t 7), none⟩])
  (.seq (.cond (.t 9)
  (.skip)
  (.exit 0))
  (.seq (.block 1 (.seq (.reg [⟨some 10, .mov (.t 8), none⟩,
    ⟨some 5, .mov (.t 10), none⟩])
  (.seq (.reg [⟨some 11, .mov (.t 1), none⟩,
    ⟨some 12, .mov (.t 0), none⟩,
    ⟨some 13, .mov (.t 5), none⟩,
    ⟨some 14, .iadd 5 (.t 12) (.t 13), none⟩,
    ⟨some 15, .loadn 5 (.t 14), none⟩,
    ⟨some 16, .call (.t 11) [(.t 15)], none⟩])
  (.cond (.t 16)
  (.seq (.reg [⟨some 17, .mov (.t 5), none⟩,
    ⟨some 4, .mov (.t 17), none⟩])
  (.ret))
  (.skip)))))
  (.reg [⟨some 18, .bin .add (.t 8) (.k (.c (.int .i64 1))), none⟩,
    ⟨some 8, .mov (.t 18), none⟩])))))))
  (.seq (.reg [⟨some 4, .mov (.k (.c (.int .i64 (-1)))), none⟩])
  (.ret)))
def r94 : List ResV := [.tmp 4]
theorem tr94 : tr Tryz.prog Tryz.f94.ntmps (Tryz.f94.body.getD .skip) = some c94 := by kernel_rfl
theorem tre94 : trRes Tryz.prog Tryz.f94.results.toList = some r94 := by kernel_rfl
theorem en94 : Enters Tryz.prog 94 := enters_fn Tryz.func94 (by kernel_rfl) rfl
theorem go94 {w0 : World} {args : List V} {σ : H} {R : V → H → Prop} (ha : args.length = 2) (h : H.ok σ → (∀ x ∈ args, V.Sz x) → W Tryz.prog w0 σ.length (Fin r94 σ.length R) [.code c94] ⟨argEnv args, σ⟩) : DC Tryz.prog w0 94 args σ R :=
  DC.of_code (by kernel_rfl) Tryz.func94 rfl tr94 tre94 (by rw [ha]; exact by decide) en94 h
/-- lambentref03.Valid -/
def c21 : AC :=
  .seq (.reg [⟨some 3, .box (.t 1), none⟩,
    ⟨some 4, .mov (.k (.c (.bool false))), none⟩])
  (.seq (.reg [⟨some 16, .mov (.t 0), none⟩,
    ⟨some 17, .fadd 1 (.t 3), none⟩,
    ⟨some 18, .load1 (.t 17), none⟩,
    ⟨some 19, .call (.k (.fn 46 [])) [(.t 16), (.t 18)], none⟩,
    ⟨some 15, .mov (.t 19), none⟩,
    ⟨some 20, .ext (.t 15) 0, none⟩,
    ⟨some 21, .ext (.t 15) 1, none⟩,
    ⟨some 5, .box (.k (.agg [.c (.str []), .c (.int .i64 0), .c (.int .i64 0)])), none⟩,
    ⟨none, .store 3 (.t 5) (.t 20), none⟩,
    ⟨some 6, .mov (.t 21), none⟩])
  (.seq (.reg [⟨some 7, .mov (.k (.c (.int .i64 0))), none⟩])
  (.seq (.reg [⟨some 8, .mov (.k (.c (.bool false))), none⟩])
  (.seq (.seq (.reg [⟨some 22, .fadd 0 (.t 3), none⟩,
    ⟨some 23, .load1 (.t 22), none⟩])
  (.block 0 (.seq (.reg [⟨some 25, .bin .eql (.t 23) (.k (.c (.int .i64 0))), none⟩,
    ⟨some 24, .mov (.t 25), none⟩])
  (.cond (.t 24)
  (.seq (.reg [⟨some 26, .fadd 1 (.t 3), none⟩,
    ⟨some 27, .load1 (.t 26), none⟩,
    ⟨some 28, .call (.k (.fn 47 [])) [(.t 27)], none⟩,
    ⟨some 9, .mov (.t 28), none⟩])
  (.seq (.reg [⟨some 29, .fadd 1 (.t 3), none⟩,
    ⟨some 30, .load1 (.t 29), none⟩,
    ⟨some 31, .call (.k (.fn 48 [])) [(.t 30)], none⟩,
    ⟨some 10, .mov (.t 31), none⟩])
  (.reg [⟨some 32, .mov (.t 9), none⟩,
    ⟨some 33, .mov (.t 32), none⟩,
    ⟨some 34, .mov (.t 10), some (33, false)⟩,
    ⟨some 35, .pick (.t 33) (.k (.c (.bool true))) (.t 34), none⟩,
    ⟨some 36, .mov (.t 35), none⟩,
    ⟨some 37, .fadd 2 (.t 3), some (36, true)⟩,
    ⟨some 38, .load1 (.t 37), some (36, true)⟩,
    ⟨some 39, .bin .eql (.t 38) (.k (.c (.int .i64 0))), some (36, true)⟩,
    ⟨some 40, .pick (.t 36) (.t 39) (.k (.c (.bool false))), none⟩,
    ⟨some 8, .mov (.t 40), none⟩])))
  (.seq (.reg [⟨some 42, .bin .eql (.t 23) (.k (.c (.int .i64 1))), none⟩,
    ⟨some 41, .mov (.t 42), none⟩])
  (.cond (.t 41)
  (.reg [⟨some 43, .fadd 1 (.t 3), none⟩,
    ⟨some 44, .load1 (.t 43), none⟩,
    ⟨some 45, .call (.k (.fn 49 [])) [(.t 44)], none⟩,
    ⟨some 46, .mov (.t 45), none⟩,
    ⟨some 47, .mov (.t 6), some (46, true)⟩,
    ⟨some 48, .un .not (.t 47), some (46, true)⟩,
    ⟨some 49, .pick (.t 46) (.t 48) (.k (.c (.bool false))), none⟩,
    ⟨some 50, .mov (.t 49), none⟩,
    ⟨some 51, .fadd 2 (.t 3), some (50, true)⟩,
    ⟨some 52, .load1 (.t 51), some (50, true)⟩,
    ⟨some 53, .bin .eql (.t 52) (.k (.c (.int .i64 0))), some (50, true)⟩,
    ⟨some 54, .pick (.t 50) (.t 53) (.k (.c (.bool false))), none⟩,
    ⟨some 8, .mov (.t 54), none⟩])
  (.seq (.reg [⟨some 56, .bin .eql (.t 23) (.k (.c (.int .i64 2))), none⟩,
    ⟨some 55, .mov (.t 56), none⟩])
  (.cond (.t 55)
  (.reg [⟨some 57, .fadd 1 (.t 3), none⟩,
    ⟨some 58, .load1 (.t 57), none⟩,
    ⟨some 59, .bin .eql (.t 58) (.k (.c (.str []))), none⟩,
    ⟨some 60, .mov (.t 59), none⟩,
    ⟨some 61, .fadd 2 (.t 3), some (60, true)⟩,
    ⟨some 62, .load1 (.t 61), some (60, true)⟩,
    ⟨some 63, .bin .geq (.t 62) (.k (.c (.int .i64 0))), some (60, true)⟩,
    ⟨some 64, .pick (.t 60) (.t 63) (.k (.c (.bool false))), none⟩,
    ⟨some 8, .mov (.t 64), none⟩])
  (.seq (.reg [⟨some 66, .bin .eql (.t 23) (.k (.c (.int .i64 3))), none⟩,
    ⟨some 65, .mov (.t 66), none⟩])
  (.cond (.t 65)
  (.seq (.reg [⟨some 67, .fadd 1 (.t 3), none⟩,
    ⟨some 68, .load1 (.t 67), none⟩,
    ⟨some 69, .bin .eql (.t 68) (.k (.c (.str []))), none⟩,
    ⟨some 70, .mov (.t 69), none⟩,
    ⟨some 71, .fadd 2 (.t 3), some (70, true)⟩,
    ⟨some 72, .load1 (.t 71), some (70, true)⟩,
    ⟨some 73, .bin .eql (.t 72) (.k (.c (.int .i64 0))), some (70, true)⟩,
    ⟨some 74, .pick (.t 70) (.t 73) (.k (.c (.bool false))), none⟩,
    ⟨some 8, .mov (.t 74), none⟩])
  (.reg [⟨some 7, .mov (.k (.c (.int .i64 2))), none⟩]))
  (.seq (.reg [⟨some 76, .bin .eql (.t 23) (.k (.c (.int .i64 4))), none⟩,
    ⟨some 75, .mov (.t 76), none⟩])
  (.cond (.t 75)
  (.seq (.reg [⟨some 77, .fadd 1 (.t 3), none⟩,
    ⟨some 78, .load1 (.t 77), none⟩,
    ⟨some 79, .call (.k (.fn 47 [])) [(.t 78)], none⟩,
    ⟨some 11, .mov (.t 79), none⟩])
  (.seq (.reg [⟨some 80, .fadd 1 (.t 3), none⟩,
    ⟨some 81, .load1 (.t 80), none⟩,
    ⟨some 82, .call (.k (.fn 49 [])) [(.t 81)], none⟩,
    ⟨some 12, .mov (.t 82), none⟩])
  (.seq (.reg [⟨some 83, .mov (.t 11), none⟩,
    ⟨some 84, .mov (.t 83), none⟩,
    ⟨some 85, .mov (.t 12), some (84, false)⟩,
    ⟨some 86, .pick (.t 84) (.k (.c (.bool true))) (.t 85), none⟩,
    ⟨some 87, .mov (.t 86), none⟩,
    ⟨some 88, .mov (.t 6), some (87, true)⟩,
    ⟨some 89, .un .not (.t 88), some (87, true)⟩,
    ⟨some 90, .pick (.t 87) (.t 89) (.k (.c (.bool false))), none⟩,
    ⟨some 91, .mov (.t 90), none⟩,
    ⟨some 92, .fadd 2 (.t 3), some (91, true)⟩,
    ⟨some 93, .load1 (.t 92), some (91, true)⟩,
    ⟨some 94, .bin .eql (.t 93) (.k (.c (.int .i64 0))), some (91, true)⟩,
    ⟨some 95, .pick (.t 91) (.t 94) (.k (.c (.bool false))), none⟩,
    ⟨some 8, .mov (.t 95), none⟩])
  (.reg [⟨some 7, .mov (.k (.c (.int .i64 1))), none⟩]))))
  (.skip)))))))))))))
  (.seq (.seq (.reg [⟨some 96, .mov (.t 8), none⟩,
    ⟨some 97, .un .not (.t 96), none⟩,
    ⟨some 98, .mov (.t 97), none⟩,
    ⟨some 99, .fadd 3 (.t 3), some (98, false)⟩,
    ⟨some 100, .load1 (.t 99), some (98, false)⟩,
    ⟨some 101, .lenr (.t 100), some (98, false)⟩,
    ⟨some 102, .mov (.t 7), some (98, false)⟩,
    ⟨some 103, .bin .neq (.t 101) (.t 102), some (98, false)⟩,
    ⟨some 104, .pick (.t 98) (.k (.c (.bool true))) (.t 103), none⟩])
  (.cond (.t 104)
  (.seq (.reg [⟨some 4, .mov (.k (.c (.bool false))), none⟩])
  (.ret))
  (.skip)))
  (.seq (.seq (.reg [⟨some 13, .mov (.k (.c (.int .i64 0))), none⟩])
  (.block 1 (.loop (.seq (.seq (.reg [⟨some 105, .mov (.t 13), none⟩,
    ⟨some 106, .mov (.t 7), none⟩,
    ⟨some 107, .bin .lss (.t 105) (.t 106), none⟩])
  (.cond (.t 107)
  (.skip)
  (.exit 1)))
  (.seq (.block 2 (.seq (.reg [⟨some 110, .mov (.t 0), none⟩,
    ⟨some 111, .fadd 3 (.t 3), none⟩,
    ⟨some 112, .load1 (.t 111), none⟩,
    ⟨some 113, .mov (.t 13), none⟩,
    ⟨some 114, .iadd 5 (.t 112) (.t 113), none⟩,
    ⟨some 115, .loadn 5 (.t 114), none⟩,
    ⟨some 116, .call (.k (.fn 21 [])) [(.t 110), (.t 115)], none⟩,
    ⟨some 14, .mov (.t 116), none⟩])
  (.seq (.reg [⟨some 117, .mov (.t 14), none⟩,
    ⟨some 118, .un .not (.t 117), none⟩])
  (.cond (.t 118)
  (.seq (.reg [⟨some 4, .mov (.k (.c (.bool false))), none⟩])
  (.ret))
  (.skip)))))
  (.reg [⟨some 108, .mov (.t 13), none⟩,
    ⟨some 109, .bin .add (.t 108) (.k (.c (.int .i64 1))), none⟩,
    ⟨some 13, .mov (.t 109), none⟩]))))))
  (.seq (.reg [⟨some 4, .mov (.k (.c (.bool true))), none⟩])
  (.ret))))))))
def r21 : List ResV := [.tmp 4]
theorem tr21 : tr Tryz.prog Tryz.f21.ntmps (Tryz.f21.body.getD .skip) = some c21 := by kernel_rfl
theorem tre21 : trRes Tryz.prog Tryz.f21.results.toList = some r21 := by kernel_rfl
theorem en21 : Enters Tryz.prog 21 := enters_fn Tryz.func21 (by kernel_rfl) rfl
theorem go21 {w0 : World} {args : List V} {σ : H} {R : V → H → Prop} (ha : args.length = 2) (h : H.ok σ → (∀ x ∈ args, V.Sz x) → W Tryz.prog w0 σ.length (Fin r21 σ.length R) [.code c21] ⟨argEnv args, σ⟩) : DC Tryz.prog w0 21 args σ R :=
  DC.of_code (by kernel_rfl) Tryz.func21 rfl tr21 tre21 (by rw [ha]; exact by decide) en21 h
/-- lambentref03.Same -/
def c23 : AC :=
  .seq (.reg [⟨some 2, .box (.t 0), none⟩,
    ⟨some 3, .box (.t 1), none⟩,
    ⟨some 4, .mov (.k (.c (.bool false))), none⟩])
  (.seq (.seq (.reg [⟨some 7, .fadd 0 (.t 2), none⟩,
    ⟨some 8, .load1 (.t 7), none⟩,
    ⟨some 9, .fadd 0 (.t 3), none⟩,
    ⟨some 10, .load1 (.t 9), none⟩,
    ⟨some 11, .bin .neq (.t 8) (.t 10), none⟩,
    ⟨some 12, .mov (.t 11), none⟩,
    ⟨some 13, .fadd 1 (.t 2), some (12, false)⟩,
    ⟨some 14, .load1 (.t 13), some (12, false)⟩,
    ⟨some 15, .fadd 1 (.t 3), some (12, false)⟩,
    ⟨some 16, .load1 (.t 15), some (12, false)⟩,
    ⟨some 17, .bin .neq (.t 14) (.t 16), some (12, false)⟩,
    ⟨some 18, .pick (.t 12) (.k (.c (.bool true))) (.t 17), none⟩,
    ⟨some 19, .mov (.t 18), none⟩,
    ⟨some 20, .fadd 2 (.t 2), some (19, false)⟩,
    ⟨some 21, .load1 (.t 20), some (19, false)⟩,
    ⟨some 22, .fadd 2 (.t 3), some (19, false)⟩,
    ⟨some 23, .load1 (.t 22), some (19, false)⟩,
    ⟨some 24, .bin .neq (.t 21) (.t 23), some (19, false)⟩,
    ⟨some 25, .pick (.t 19) (.k (.c (.bool true))) (.t 24), none⟩,
    ⟨some 26, .mov (.t 25), none⟩,
    ⟨some 27, .fadd 3 (.t 2), some (26, false)⟩,
    ⟨some 28, .load1 (.t 27), some (26, false)⟩,
    ⟨some 29, .lenr (.t 28), some (26, false)⟩,
    ⟨some 30, .fadd 3 (.t 3), some (26, false)⟩,
    ⟨some 31, .load1 (.t 30), some (26, false)⟩,
    ⟨some 32, .lenr (.t 31), some (26, false)⟩,
    ⟨some 33, .bin .neq (.t 29) (.t 32), some (26, false)⟩,
    ⟨some 34, .pick (.t 26) (.k (.c (.bool true))) (.t 33), none⟩])
  (.cond (.t 34)
  (.seq (.reg [⟨some 4, .mov (.k (.c (.bool false))), none⟩])
  (.ret))
  (.skip)))
  (.seq (.seq (.reg [⟨some 5, .mov (.k (.c (.int .i64 0))), none⟩])
  (.block 0 (.loop (.seq (.seq (.reg [⟨some 35, .mov (.t 5), none⟩,
    ⟨some 36, .fadd 3 (.t 2), none⟩,
    ⟨some 37, .load1 (.t 36), none⟩,
    ⟨some 38, .lenr (.t 37), none⟩,
    ⟨some 39, .bin .lss (.t 35) (.t 38), none⟩])
  (.cond (.t 39)
  (.skip)
  (.exit 0)))
  (.seq (.block 1 (.seq (.dreg [⟨some 42, .fadd 3 (.t 2), none⟩,
    ⟨some 43, .load1 (.t 42), none⟩,
    ⟨some 44, .mov (.t 5), none⟩,
    ⟨some 45, .iadd 5 (.t 43) (.t 44), none⟩,
    ⟨some 46, .loadn 5 (.t 45), none⟩,
    ⟨some 47, .fadd 3 (.t 3), none⟩,
    ⟨some 48, .load1 (.t 47), none⟩,
    ⟨some 49, .mov (.t 5), none⟩,
    ⟨some 50, .iadd 5 (.t 48) (.t 49), none⟩,
    ⟨some 51, .loadn 5 (.t 50), none⟩,
    ⟨some 52, .call (.k (.fn 23 [])) [(.t 46), (.t 51)], none⟩,
    ⟨some 6, .mov (.t 52), none⟩]
    [⟨⟨some 42, .fadd 3 (.t 2), none⟩, false, 0⟩,
    ⟨⟨some 43, .load1 (.t 42), none⟩, false, 0⟩,
    ⟨⟨some 44, .mov (.t 5), none⟩, false, 0⟩,
    ⟨⟨some 45, .iadd 5 (.t 43) (.t 44), none⟩, false, 0⟩,
    ⟨⟨some 46, .loadn 5 (.t 45), none⟩, false, 0⟩,
    ⟨⟨some 47, .fadd 3 (.t 3), none⟩, false, 0⟩,
    ⟨⟨some 48, .load1 (.t 47), none⟩, false, 0⟩,
    ⟨⟨some 49, .mov (.t 5), none⟩, false, 0⟩,
    ⟨⟨some 50, .iadd 5 (.t 48) (.t 49), none⟩, false, 0⟩,
    ⟨⟨some 51, .loadn 5 (.t 50), none⟩, false, 0⟩,
    ⟨⟨some 52, .call (.k (.fn 23 [])) [(.t 46), (.t 51)], none⟩, true, 0⟩,
    ⟨⟨some 6, .mov (.t 52), none⟩, false, 1⟩])
  (.seq (.reg [⟨some 53, .mov (.t 6), none⟩,
    ⟨some 54, .un .not (.t 53), none⟩])
  (.cond (.t 54)
  (.seq (.reg [⟨some 4, .mov (.k (.c (.bool false))), none⟩])
  (.ret))
  (.skip)))))
  (.reg [⟨some 40, .mov (.t 5), none⟩,
    ⟨some 41, .bin .add (.t 40) (.k (.c (.int .i64 1))), none⟩,
    ⟨some 5, .mov (.t 41), none⟩]))))))
  (.seq (.reg [⟨some 4, .mov (.k (.c (.bool true))), none⟩])
  (.ret))))
def r23 : List ResV := [.tmp 4]
theorem tr23 : tr Tryz.prog Tryz.f23.ntmps (Tryz.f23.body.getD .skip) = some c23 := by kernel_rfl
theorem tre23 : trRes Tryz.prog Tryz.f23.results.toList = some r23 := by kernel_rfl
theorem en23 : Enters Tryz.prog 23 := enters_fn Tryz.func23 (by kernel_rfl) rfl
theorem go23 {w0 : World} {args : List V} {σ : H} {R : V → H → Prop} (ha : args.length = 2) (h : H.ok σ → (∀ x ∈ args, V.Sz x) → W Tryz.prog w0 σ.length (Fin r23 σ.length R) [.code c23] ⟨argEnv args, σ⟩) : DC Tryz.prog w0 23 args σ R :=
  DC.of_code (by kernel_rfl) Tryz.func23 rfl tr23 tre23 (by rw [ha]; exact by decide) en23 h
/-- lambentlaw03.over -/
def c18 : AC :=
  .seq (.reg [⟨some 4, .mov (.k (.c (.bool false))), none⟩])
  (.seq (.seq (.reg [⟨some 7, .mov (.t 0), none⟩,
    ⟨some 8, .lenr (.t 7), none⟩,
    ⟨some 9, .bin .gtr (.t 8) (.k (.c (.int .i64 100))), none⟩,
    ⟨some 10, .mov (.t 9), none⟩,
    ⟨some 11, .mov (.t 1), some (10, false)⟩,
    ⟨some 12, .lenr (.t 11), some (10, false)⟩,
    ⟨some 13, .bin .gtr (.t 12) (.k (.c (.int .i64 400))), some (10, false)⟩,
    ⟨some 14, .pick (.t 10) (.k (.c (.bool true))) (.t 13), none⟩])
  (.cond (.t 14)
  (.seq (.reg [⟨some 4, .mov (.k (.c (.bool true))), none⟩])
  (.ret))
  (.skip)))
  (.seq (.seq (.reg [⟨some 5, .mov (.k (.c (.int .i64 0))), none⟩])
  (.block 0 (.loop (.seq (.seq (.reg [⟨some 15, .mov (.t 5), none⟩,
    ⟨some 16, .mov (.t 0), none⟩,
    ⟨some 17, .lenr (.t 16), none⟩,
    ⟨some 18, .bin .lss (.t 15) (.t 17), none⟩])
  (.cond (.t 18)
  (.skip)
  (.exit 0)))
  (.seq (.block 1 (.seq (.reg [⟨some 21, .mov (.t 0), none⟩,
    ⟨some 22, .mov (.t 5), none⟩,
    ⟨some 23, .iadd 3 (.t 21) (.t 22), none⟩,
    ⟨some 24, .fadd 0 (.t 23), none⟩,
    ⟨some 25, .load1 (.t 24), none⟩,
    ⟨some 26, .lens (.t 25), none⟩,
    ⟨some 27, .bin .gtr (.t 26) (.k (.c (.int .i64 100))), none⟩])
  (.cond (.t 27)
  (.seq (.reg [⟨some 4, .mov (.k (.c (.bool true))), none⟩])
  (.ret))
  (.skip))))
  (.reg [⟨some 19, .mov (.t 5), none⟩,
    ⟨some 20, .bin .add (.t 19) (.k (.c (.int .i64 1))), none⟩,
    ⟨some 5, .mov (.t 20), none⟩]))))))
  (.seq (.seq (.reg [⟨some 6, .mov (.k (.c (.int .i64 0))), none⟩])
  (.block 2 (.loop (.seq (.seq (.reg [⟨some 28, .mov (.t 6), none⟩,
    ⟨some 29, .mov (.t 1), none⟩,
    ⟨some 30, .lenr (.t 29), none⟩,
    ⟨some 31, .bin .lss (.t 28) (.t 30), none⟩])
  (.cond (.t 31)
  (.skip)
  (.exit 2)))
  (.seq (.block 3 (.seq (.reg [⟨some 34, .mov (.t 1), none⟩,
    ⟨some 35, .mov (.t 6), none⟩,
    ⟨some 36, .iadd 4 (.t 34) (.t 35), none⟩,
    ⟨some 37, .fadd 1 (.t 36), none⟩,
    ⟨some 38, .load1 (.t 37), none⟩,
    ⟨some 39, .lens (.t 38), none⟩,
    ⟨some 40, .bin .gtr (.t 39) (.k (.c (.int .i64 100))), none⟩])
  (.cond (.t 40)
  (.seq (.reg [⟨some 4, .mov (.k (.c (.bool true))), none⟩])
  (.ret))
  (.skip))))
  (.reg [⟨some 32, .mov (.t 6), none⟩,
    ⟨some 33, .bin .add (.t 32) (.k (.c (.int .i64 1))), none⟩,
    ⟨some 6, .mov (.t 33), none⟩]))))))
  (.seq (.reg [⟨some 4, .mov (.k (.c (.bool false))), none⟩])
  (.ret)))))
def r18 : List ResV := [.tmp 4]
theorem tr18 : tr Tryz.prog Tryz.f18.ntmps (Tryz.f18.body.getD .skip) = some c18 := by kernel_rfl
theorem tre18 : trRes Tryz.prog Tryz.f18.results.toList = some r18 := by kernel_rfl
theorem en18 : Enters Tryz.prog 18 := enters_fn Tryz.func18 (by kernel_rfl) rfl
theorem go18 {w0 : World} {args : List V} {σ : H} {R : V → H → Prop} (ha : args.length = 2) (h : H.ok σ → (∀ x ∈ args, V.Sz x) → W Tryz.prog w0 σ.length (Fin r18 σ.length R) [.code c18] ⟨argEnv args, σ⟩) : DC Tryz.prog w0 18 args σ R :=
  DC.of_code (by kernel_rfl) Tryz.func18 rfl tr18 tre18 (by rw [ha]; exact by decide) en18 h
/-- lambentlaw03.works -/
def c12 : AC :=
  .seq (.reg [⟨some 0, .mov (.k (.c (.bool false))), none⟩])
  (.seq (.reg [⟨some 20, .call (.k (.fn 14 [])) [], none⟩,
    ⟨some 1, .mov (.t 20), none⟩])
  (.seq (.reg [⟨some 22, .mov (.t 1), none⟩,
    ⟨some 23, .call (.k (.fn 24 [])) [(.k (.c (.str [112, 32, 88, 32, 58, 45, 32, 113, 32, 88, 44, 32, 114, 46])))], none⟩,
    ⟨some 24, .call (.k (.fn 15 [])) [(.t 22), (.t 23), (.k (.c (.int .i64 0)))], none⟩,
    ⟨some 21, .mov (.t 24), none⟩,
    ⟨some 25, .ext (.t 21) 0, none⟩,
    ⟨some 26, .ext (.t 21) 1, none⟩,
    ⟨some 27, .ext (.t 21) 2, none⟩,
    ⟨some 28, .ext (.t 21) 3, none⟩,
    ⟨some 2, .box (.k (.agg [.c (.int .i64 0), .c (.str []), .c (.int .i64 0), .csl [], .c (.int .i64 0)])), none⟩,
    ⟨none, .store 5 (.t 2) (.t 25), none⟩,
    ⟨some 3, .mov (.t 26), none⟩,
    ⟨some 4, .mov (.t 27), none⟩,
    ⟨some 5, .mov (.t 28), none⟩])
  (.seq (.reg [⟨some 30, .mov (.t 1), none⟩,
    ⟨some 31, .call (.k (.fn 24 [])) [(.k (.c (.str [97, 32, 61, 32, 98, 32, 61, 32, 99])))], none⟩,
    ⟨some 32, .call (.k (.fn 15 [])) [(.t 30), (.t 31), (.k (.c (.int .i64 0)))], none⟩,
    ⟨some 29, .mov (.t 32), none⟩,
    ⟨some 33, .ext (.t 29) 0, none⟩,
    ⟨some 34, .ext (.t 29) 1, none⟩,
    ⟨some 35, .ext (.t 29) 2, none⟩,
    ⟨some 36, .ext (.t 29) 3, none⟩,
    ⟨some 6, .box (.k (.agg [.c (.int .i64 0), .c (.str []), .c (.int .i64 0), .csl [], .c (.int .i64 0)])), none⟩,
    ⟨none, .store 5 (.t 6) (.t 33), none⟩,
    ⟨some 7, .mov (.t 34), none⟩,
    ⟨some 8, .mov (.t 35), none⟩,
    ⟨some 9, .mov (.t 36), none⟩])
  (.seq (.reg [⟨some 38, .mov (.t 1), none⟩,
    ⟨some 39, .call (.k (.fn 24 [])) [(.k (.c (.str [120, 92, 32, 102, 32, 120])))], none⟩,
    ⟨some 40, .call (.k (.fn 15 [])) [(.t 38), (.t 39), (.k (.c (.int .i64 0)))], none⟩,
    ⟨some 37, .mov (.t 40), none⟩,
    ⟨some 41, .ext (.t 37) 0, none⟩,
    ⟨some 42, .ext (.t 37) 1, none⟩,
    ⟨some 43, .ext (.t 37) 2, none⟩,
    ⟨some 44, .ext (.t 37) 3, none⟩,
    ⟨some 10, .box (.k (.agg [.c (.int .i64 0), .c (.str []), .c (.int .i64 0), .csl [], .c (.int .i64 0)])), none⟩,
    ⟨none, .store 5 (.t 10) (.t 41), none⟩,
    ⟨some 11, .mov (.t 42), none⟩,
    ⟨some 12, .mov (.t 43), none⟩,
    ⟨some 13, .mov (.t 44), none⟩])
  (.seq (.reg [⟨some 46, .mov (.t 1), none⟩,
    ⟨some 47, .call (.k (.fn 24 [])) [(.k (.c (.str [40, 43, 41, 32, 49])))], none⟩,
    ⟨some 48, .call (.k (.fn 15 [])) [(.t 46), (.t 47), (.k (.c (.int .i64 0)))], none⟩,
    ⟨some 45, .mov (.t 48), none⟩,
    ⟨some 49, .ext (.t 45) 0, none⟩,
    ⟨some 50, .ext (.t 45) 1, none⟩,
    ⟨some 51, .ext (.t 45) 2, none⟩,
    ⟨some 52, .ext (.t 45) 3, none⟩,
    ⟨some 14, .box (.k (.agg [.c (.int .i64 0), .c (.str []), .c (.int .i64 0), .csl [], .c (.int .i64 0)])), none⟩,
    ⟨none, .store 5 (.t 14) (.t 49), none⟩,
    ⟨some 15, .mov (.t 50), none⟩,
    ⟨some 16, .mov (.t 51), none⟩,
    ⟨some 17, .mov (.t 52), none⟩])
  (.seq (.seq (.reg [⟨some 53, .fadd 3 (.t 2), none⟩,
    ⟨some 54, .load1 (.t 53), none⟩,
    ⟨some 55, .lenr (.t 54), none⟩,
    ⟨some 56, .bin .neq (.t 55) (.k (.c (.int .i64 2))), none⟩,
    ⟨some 57, .mov (.t 56), none⟩,
    ⟨some 58, .fadd 3 (.t 2), some (57, false)⟩,
    ⟨some 59, .load1 (.t 58), some (57, false)⟩,
    ⟨some 60, .iadd 5 (.t 59) (.k (.c (.int .i64 0))), some (57, false)⟩,
    ⟨some 61, .fadd 3 (.t 60), some (57, false)⟩,
    ⟨some 62, .load1 (.t 61), some (57, false)⟩,
    ⟨some 63, .lenr (.t 62), some (57, false)⟩,
    ⟨some 64, .bin .neq (.t 63) (.k (.c (.int .i64 2))), some (57, false)⟩,
    ⟨some 65, .pick (.t 57) (.k (.c (.bool true))) (.t 64), none⟩,
    ⟨some 66, .mov (.t 65), none⟩,
    ⟨some 67, .fadd 3 (.t 10), some (66, false)⟩,
    ⟨some 68, .load1 (.t 67), some (66, false)⟩,
    ⟨some 69, .lenr (.t 68), some (66, false)⟩,
    ⟨some 70, .bin .neq (.t 69) (.k (.c (.int .i64 1))), some (66, false)⟩,
    ⟨some 71, .pick (.t 66) (.k (.c (.bool true))) (.t 70), none⟩,
    ⟨some 72, .mov (.t 71), none⟩,
    ⟨some 73, .fadd 3 (.t 14), some (72, false)⟩,
    ⟨some 74, .load1 (.t 73), some (72, false)⟩,
    ⟨some 75, .lenr (.t 74), some (72, false)⟩,
    ⟨some 76, .bin .neq (.t 75) (.k (.c (.int .i64 2))), some (72, false)⟩,
    ⟨some 77, .pick (.t 72) (.k (.c (.bool true))) (.t 76), none⟩])
  (.cond (.t 77)
  (.seq (.reg [⟨some 0, .mov (.k (.c (.bool false))), none⟩])
  (.ret))
  (.skip)))
  (.seq (.reg [⟨some 78, .mov (.t 1), none⟩,
    ⟨some 79, .loadn 5 (.t 2), none⟩,
    ⟨some 80, .call (.k (.fn 20 [])) [(.t 78), (.t 79)], none⟩,
    ⟨some 18, .mov (.t 80), none⟩])
  (.seq (.reg [⟨some 81, .loadn 5 (.t 2), none⟩,
    ⟨some 82, .loadn 5 (.t 2), none⟩,
    ⟨some 83, .call (.k (.fn 22 [])) [(.t 81), (.t 82)], none⟩,
    ⟨some 19, .mov (.t 83), none⟩])
  (.seq (.reg [⟨some 84, .fadd 0 (.t 2), none⟩,
    ⟨some 85, .load1 (.t 84), none⟩,
    ⟨some 86, .bin .eql (.t 85) (.k (.c (.int .i64 3))), none⟩,
    ⟨some 87, .mov (.t 86), none⟩,
    ⟨some 88, .fadd 3 (.t 2), some (87, true)⟩,
    ⟨some 89, .load1 (.t 88), some (87, true)⟩,
    ⟨some 90, .iadd 5 (.t 89) (.k (.c (.int .i64 0))), some (87, true)⟩,
    ⟨some 91, .fadd 3 (.t 90), some (87, true)⟩,
    ⟨some 92, .load1 (.t 91), some (87, true)⟩,
    ⟨some 93, .iadd 5 (.t 92) (.k (.c (.int .i64 0))), some (87, true)⟩,
    ⟨some 94, .fadd 1 (.t 93), some (87, true)⟩,
    ⟨some 95, .load1 (.t 94), some (87, true)⟩,
    ⟨some 96, .bin .eql (.t 95) (.k (.c (.str [58, 45]))), some (87, true)⟩,
    ⟨some 97, .pick (.t 87) (.t 96) (.k (.c (.bool false))), none⟩,
    ⟨some 98, .mov (.t 97), none⟩,
    ⟨some 99, .mov (.t 3), some (98, true)⟩,
    ⟨some 100, .bin .eql (.t 99) (.k (.c (.int .i64 7))), some (98, true)⟩,
    ⟨some 101, .pick (.t 98) (.t 100) (.k (.c (.bool false))), none⟩,
    ⟨some 102, .mov (.t 101), none⟩,
    ⟨some 103, .mov (.t 4), some (102, true)⟩,
    ⟨some 104, .bin .eql (.t 103) (.k (.c (.int .i64 0))), some (102, true)⟩,
    ⟨some 105, .pick (.t 102) (.t 104) (.k (.c (.bool false))), none⟩,
    ⟨some 106, .mov (.t 105), none⟩,
    ⟨some 107, .mov (.t 8), some (106, true)⟩,
    ⟨some 108, .bin .eql (.t 107) (.k (.c (.int .i64 32))), some (106, true)⟩,
    ⟨some 109, .pick (.t 106) (.t 108) (.k (.c (.bool false))), none⟩,
    ⟨some 110, .mov (.t 109), none⟩,
    ⟨some 111, .mov (.t 9), some (110, true)⟩,
    ⟨some 112, .bin .eql (.t 111) (.k (.c (.int .i64 6))), some (110, true)⟩,
    ⟨some 113, .pick (.t 110) (.t 112) (.k (.c (.bool false))), none⟩,
    ⟨some 114, .mov (.t 113), none⟩,
    ⟨some 115, .fadd 0 (.t 10), some (114, true)⟩,
    ⟨some 116, .load1 (.t 115), some (114, true)⟩,
    ⟨some 117, .bin .eql (.t 116) (.k (.c (.int .i64 4))), some (114, true)⟩,
    ⟨some 118, .pick (.t 114) (.t 117) (.k (.c (.bool false))), none⟩,
    ⟨some 119, .mov (.t 118), none⟩,
    ⟨some 120, .mov (.t 12), some (119, true)⟩,
    ⟨some 121, .bin .eql (.t 120) (.k (.c (.int .i64 0))), some (119, true)⟩,
    ⟨some 122, .pick (.t 119) (.t 121) (.k (.c (.bool false))), none⟩,
    ⟨some 123, .mov (.t 122), none⟩,
    ⟨some 124, .fadd 3 (.t 14), some (123, true)⟩,
    ⟨some 125, .load1 (.t 124), some (123, true)⟩,
    ⟨some 126, .iadd 5 (.t 125) (.k (.c (.int .i64 0))), some (123, true)⟩,
    ⟨some 127, .fadd 1 (.t 126), some (123, true)⟩,
    ⟨some 128, .load1 (.t 127), some (123, true)⟩,
    ⟨some 129, .bin .eql (.t 128) (.k (.c (.str [43]))), some (123, true)⟩,
    ⟨some 130, .pick (.t 123) (.t 129) (.k (.c (.bool false))), none⟩,
    ⟨some 131, .mov (.t 130), none⟩,
    ⟨some 132, .mov (.t 16), some (131, true)⟩,
    ⟨some 133, .bin .eql (.t 132) (.k (.c (.int .i64 0))), some (131, true)⟩,
    ⟨some 134, .pick (.t 131) (.t 133) (.k (.c (.bool false))), none⟩,
    ⟨some 135, .mov (.t 134), none⟩,
    ⟨some 136, .mov (.t 18), some (135, true)⟩,
    ⟨some 137, .pick (.t 135) (.t 136) (.k (.c (.bool false))), none⟩,
    ⟨some 138, .mov (.t 137), none⟩,
    ⟨some 139, .mov (.t 19), some (138, true)⟩,
    ⟨some 140, .pick (.t 138) (.t 139) (.k (.c (.bool false))), none⟩,
    ⟨some 0, .mov (.t 140), none⟩])
  (.ret))))))))))
def r12 : List ResV := [.tmp 0]
theorem tr12 : tr Tryz.prog Tryz.f12.ntmps (Tryz.f12.body.getD .skip) = some c12 := by kernel_rfl
theorem tre12 : trRes Tryz.prog Tryz.f12.results.toList = some r12 := by kernel_rfl
theorem en12 : Enters Tryz.prog 12 := enters_fn Tryz.func12 (by kernel_rfl) rfl
theorem go12 {w0 : World} {args : List V} {σ : H} {R : V → H → Prop} (ha : args.length = 0) (h : H.ok σ → (∀ x ∈ args, V.Sz x) → W Tryz.prog w0 σ.length (Fin r12 σ.length R) [.code c12] ⟨argEnv args, σ⟩) : DC Tryz.prog w0 12 args σ R :=
  DC.of_code (by kernel_rfl) Tryz.func12 rfl tr12 tre12 (by rw [ha]; exact by decide) en12 h
/-- lambentlaw03.ReadTexts -/
def c3 : AC :=
  .seq (.reg [⟨some 2, .mov (.k (.c (.bool false))), none⟩])
  (.seq (.reg [⟨some 17, .call (.k (.fn 12 [])) [], none⟩,
    ⟨some 3, .mov (.t 17), none⟩])
  (.seq (.seq (.reg [⟨some 18, .mov (.t 3), none⟩,
    ⟨some 19, .un .not (.t 18), none⟩])
  (.cond (.t 19)
  (.seq (.reg [⟨some 2, .mov (.k (.c (.bool false))), none⟩])
  (.ret))
  (.skip)))
  (.seq (.seq (.reg [⟨some 20, .mov (.t 0), none⟩,
    ⟨some 21, .lens (.t 20), none⟩,
    ⟨some 22, .bin .gtr (.t 21) (.k (.c (.int .i64 1000))), none⟩])
  (.cond (.t 22)
  (.seq (.reg [⟨some 23, .mov (.t 3), none⟩,
    ⟨some 2, .mov (.t 23), none⟩])
  (.ret))
  (.skip)))
  (.seq (.reg [⟨some 25, .mov (.t 0), none⟩,
    ⟨some 26, .call (.k (.fn 13 [])) [(.t 25)], none⟩,
    ⟨some 24, .mov (.t 26), none⟩,
    ⟨some 27, .ext (.t 24) 0, none⟩,
    ⟨some 28, .ext (.t 24) 1, none⟩,
    ⟨some 29, .ext (.t 24) 2, none⟩,
    ⟨some 4, .mov (.t 27), none⟩,
    ⟨some 5, .mov (.t 28), none⟩,
    ⟨some 6, .mov (.t 29), none⟩])
  (.seq (.seq (.reg [⟨some 30, .mov (.t 5), none⟩,
    ⟨some 31, .bin .neq (.t 30) (.k (.c (.int .i64 0))), none⟩])
  (.cond (.t 31)
  (.seq (.reg [⟨some 32, .mov (.t 3), none⟩,
    ⟨some 2, .mov (.t 32), none⟩])
  (.ret))
  (.skip)))
  (.seq (.reg [⟨some 33, .call (.k (.fn 14 [])) [], none⟩,
    ⟨some 7, .mov (.t 33), none⟩])
  (.seq (.reg [⟨some 35, .mov (.t 7), none⟩,
    ⟨some 36, .mov (.t 4), none⟩,
    ⟨some 37, .call (.k (.fn 15 [])) [(.t 35), (.t 36), (.k (.c (.int .i64 0)))], none⟩,
    ⟨some 34, .mov (.t 37), none⟩,
    ⟨some 38, .ext (.t 34) 0, none⟩,
    ⟨some 39, .ext (.t 34) 1, none⟩,
    ⟨some 40, .ext (.t 34) 2, none⟩,
    ⟨some 41, .ext (.t 34) 3, none⟩,
    ⟨some 8, .box (.k (.agg [.c (.int .i64 0), .c (.str []), .c (.int .i64 0), .csl [], .c (.int .i64 0)])), none⟩,
    ⟨none, .store 5 (.t 8) (.t 38), none⟩,
    ⟨some 9, .mov (.t 39), none⟩,
    ⟨some 10, .mov (.t 40), none⟩,
    ⟨some 11, .mov (.t 41), none⟩])
  (.seq (.reg [⟨some 43, .mov (.t 7), none⟩,
    ⟨some 44, .mov (.t 4), none⟩,
    ⟨some 45, .call (.k (.fn 16 [])) [(.t 43), (.t 44), (.k (.c (.int .i64 0)))], none⟩,
    ⟨some 42, .mov (.t 45), none⟩,
    ⟨some 46, .ext (.t 42) 0, none⟩,
    ⟨some 47, .ext (.t 42) 1, none⟩,
    ⟨some 48, .ext (.t 42) 2, none⟩,
    ⟨some 49, .ext (.t 42) 3, none⟩,
    ⟨some 12, .box (.k (.agg [.c (.int .i64 0), .c (.str []), .c (.int .i64 0), .csl [], .c (.int .i64 0)])), none⟩,
    ⟨none, .store 5 (.t 12) (.t 46), none⟩,
    ⟨some 13, .mov (.t 47), none⟩,
    ⟨some 14, .mov (.t 48), none⟩,
    ⟨some 15, .mov (.t 49), none⟩])
  (.seq (.reg [⟨some 50, .loadn 5 (.t 8), none⟩,
    ⟨some 51, .loadn 5 (.t 12), none⟩,
    ⟨some 52, .call (.k (.fn 17 [])) [(.t 50), (.t 51)], none⟩,
    ⟨some 16, .mov (.t 52), none⟩])
  (.seq (.reg [⟨some 53, .mov (.t 3), none⟩,
    ⟨some 54, .mov (.t 53), none⟩,
    ⟨some 55, .mov (.t 16), some (54, true)⟩,
    ⟨some 56, .pick (.t 54) (.t 55) (.k (.c (.bool false))), none⟩,
    ⟨some 57, .mov (.t 56), none⟩,
    ⟨some 58, .mov (.t 9), some (57, true)⟩,
    ⟨some 59, .mov (.t 13), some (57, true)⟩,
    ⟨some 60, .bin .eql (.t 58) (.t 59), some (57, true)⟩,
    ⟨some 61, .pick (.t 57) (.t 60) (.k (.c (.bool false))), none⟩,
    ⟨some 62, .mov (.t 61), none⟩,
    ⟨some 63, .mov (.t 10), some (62, true)⟩,
    ⟨some 64, .mov (.t 14), some (62, true)⟩,
    ⟨some 65, .bin .eql (.t 63) (.t 64), some (62, true)⟩,
    ⟨some 66, .pick (.t 62) (.t 65) (.k (.c (.bool false))), none⟩,
    ⟨some 67, .mov (.t 66), none⟩,
    ⟨some 68, .mov (.t 11), some (67, true)⟩,
    ⟨some 69, .mov (.t 15), some (67, true)⟩,
    ⟨some 70, .bin .eql (.t 68) (.t 69), some (67, true)⟩,
    ⟨some 71, .pick (.t 67) (.t 70) (.k (.c (.bool false))), none⟩,
    ⟨some 2, .mov (.t 71), none⟩])
  (.ret)))))))))))
def r3 : List ResV := [.tmp 2]
theorem tr3 : tr Tryz.prog Tryz.f3.ntmps (Tryz.f3.body.getD .skip) = some c3 := by kernel_rfl
theorem tre3 : trRes Tryz.prog Tryz.f3.results.toList = some r3 := by kernel_rfl
theorem en3 : Enters Tryz.prog 3 := enters_fn Tryz.func3 (by kernel_rfl) rfl
theorem go3 {w0 : World} {args : List V} {σ : H} {R : V → H → Prop} (ha : args.length = 1) (h : H.ok σ → (∀ x ∈ args, V.Sz x) → W Tryz.prog w0 σ.length (Fin r3 σ.length R) [.code c3] ⟨argEnv args, σ⟩) : DC Tryz.prog w0 3 args σ R :=
  DC.of_code (by kernel_rfl) Tryz.func3 rfl tr3 tre3 (by rw [ha]; exact by decide) en3 h
/-- lambentlaw03.ReadTrees -/
def c4 : AC :=
  .seq (.reg [⟨some 4, .box (.t 1), none⟩,
    ⟨some 5, .box (.t 2), none⟩,
    ⟨some 6, .mov (.k (.c (.bool false))), none⟩])
  (.seq (.reg [⟨some 13, .call (.k (.fn 12 [])) [], none⟩,
    ⟨some 7, .mov (.t 13), none⟩])
  (.seq (.seq (.reg [⟨some 14, .mov (.t 7), none⟩,
    ⟨some 15, .un .not (.t 14), none⟩])
  (.cond (.t 15)
  (.seq (.reg [⟨some 6, .mov (.k (.c (.bool false))), none⟩])
  (.ret))
  (.skip)))
  (.seq (.reg [⟨some 16, .mov (.t 0), none⟩,
    ⟨some 17, .call (.k (.fn 18 [])) [(.t 16), (.k (.csl []))], none⟩,
    ⟨some 8, .mov (.t 17), none⟩])
  (.seq (.reg [⟨some 18, .loadn 5 (.t 4), none⟩,
    ⟨some 19, .call (.k (.fn 19 [])) [(.t 18), (.k (.c (.int .i64 400)))], none⟩,
    ⟨some 9, .mov (.t 19), none⟩])
  (.seq (.reg [⟨some 20, .loadn 5 (.t 5), none⟩,
    ⟨some 21, .call (.k (.fn 19 [])) [(.t 20), (.k (.c (.int .i64 400)))], none⟩,
    ⟨some 10, .mov (.t 21), none⟩])
  (.seq (.seq (.reg [⟨some 22, .mov (.t 8), none⟩,
    ⟨some 23, .mov (.t 22), none⟩,
    ⟨some 24, .mov (.t 9), some (23, false)⟩,
    ⟨some 25, .pick (.t 23) (.k (.c (.bool true))) (.t 24), none⟩,
    ⟨some 26, .mov (.t 25), none⟩,
    ⟨some 27, .mov (.t 10), some (26, false)⟩,
    ⟨some 28, .pick (.t 26) (.k (.c (.bool true))) (.t 27), none⟩])
  (.cond (.t 28)
  (.seq (.reg [⟨some 29, .mov (.t 7), none⟩,
    ⟨some 6, .mov (.t 29), none⟩])
  (.ret))
  (.skip)))
  (.seq (.dreg [⟨some 30, .mov (.t 0), none⟩,
    ⟨some 31, .loadn 5 (.t 4), none⟩,
    ⟨some 32, .call (.k (.fn 20 [])) [(.t 30), (.t 31)], none⟩,
    ⟨some 33, .mov (.t 0), none⟩,
    ⟨some 34, .loadn 5 (.t 4), none⟩,
    ⟨some 35, .call (.k (.fn 21 [])) [(.t 33), (.t 34)], none⟩,
    ⟨some 36, .eqb false (.t 32) (.t 35), none⟩,
    ⟨some 11, .mov (.t 36), none⟩]
    [⟨⟨some 30, .mov (.t 0), none⟩, false, 0⟩,
    ⟨⟨some 31, .loadn 5 (.t 4), none⟩, false, 0⟩,
    ⟨⟨some 32, .call (.k (.fn 20 [])) [(.t 30), (.t 31)], none⟩, true, 0⟩,
    ⟨⟨some 33, .mov (.t 0), none⟩, false, 0⟩,
    ⟨⟨some 34, .loadn 5 (.t 4), none⟩, false, 0⟩,
    ⟨⟨some 35, .call (.k (.fn 21 [])) [(.t 33), (.t 34)], none⟩, true, 1⟩,
    ⟨⟨some 36, .eqb false (.t 32) (.t 35), none⟩, false, 2⟩,
    ⟨⟨some 11, .mov (.t 36), none⟩, false, 2⟩])
  (.seq (.dreg [⟨some 37, .loadn 5 (.t 4), none⟩,
    ⟨some 38, .loadn 5 (.t 5), none⟩,
    ⟨some 39, .call (.k (.fn 22 [])) [(.t 37), (.t 38)], none⟩,
    ⟨some 40, .loadn 5 (.t 4), none⟩,
    ⟨some 41, .loadn 5 (.t 5), none⟩,
    ⟨some 42, .call (.k (.fn 23 [])) [(.t 40), (.t 41)], none⟩,
    ⟨some 43, .eqb false (.t 39) (.t 42), none⟩,
    ⟨some 12, .mov (.t 43), none⟩]
    [⟨⟨some 37, .loadn 5 (.t 4), none⟩, false, 0⟩,
    ⟨⟨some 38, .loadn 5 (.t 5), none⟩, false, 0⟩,
    ⟨⟨some 39, .call (.k (.fn 22 [])) [(.t 37), (.t 38)], none⟩, true, 0⟩,
    ⟨⟨some 40, .loadn 5 (.t 4), none⟩, false, 0⟩,
    ⟨⟨some 41, .loadn 5 (.t 5), none⟩, false, 0⟩,
    ⟨⟨some 42, .call (.k (.fn 23 [])) [(.t 40), (.t 41)], none⟩, true, 1⟩,
    ⟨⟨some 43, .eqb false (.t 39) (.t 42), none⟩, false, 2⟩,
    ⟨⟨some 12, .mov (.t 43), none⟩, false, 2⟩])
  (.seq (.reg [⟨some 44, .mov (.t 7), none⟩,
    ⟨some 45, .mov (.t 44), none⟩,
    ⟨some 46, .mov (.t 11), some (45, true)⟩,
    ⟨some 47, .pick (.t 45) (.t 46) (.k (.c (.bool false))), none⟩,
    ⟨some 48, .mov (.t 47), none⟩,
    ⟨some 49, .mov (.t 12), some (48, true)⟩,
    ⟨some 50, .pick (.t 48) (.t 49) (.k (.c (.bool false))), none⟩,
    ⟨some 6, .mov (.t 50), none⟩])
  (.ret))))))))))
def r4 : List ResV := [.tmp 6]
theorem tr4 : tr Tryz.prog Tryz.f4.ntmps (Tryz.f4.body.getD .skip) = some c4 := by kernel_rfl
theorem tre4 : trRes Tryz.prog Tryz.f4.results.toList = some r4 := by kernel_rfl
theorem en4 : Enters Tryz.prog 4 := enters_fn Tryz.func4 (by kernel_rfl) rfl
theorem go4 {w0 : World} {args : List V} {σ : H} {R : V → H → Prop} (ha : args.length = 3) (h : H.ok σ → (∀ x ∈ args, V.Sz x) → W Tryz.prog w0 σ.length (Fin r4 σ.length R) [.code c4] ⟨argEnv args, σ⟩) : DC Tryz.prog w0 4 args σ R :=
  DC.of_code (by kernel_rfl) Tryz.func4 rfl tr4 tre4 (by rw [ha]; exact by decide) en4 h
/-- lambentlaw03.ReadParts -/
def c5 : AC :=
  .seq (.reg [⟨some 6, .mov (.k (.c (.bool false))), none⟩])
  (.seq (.reg [⟨some 25, .call (.k (.fn 12 [])) [], none⟩,
    ⟨some 7, .mov (.t 25), none⟩])
  (.seq (.seq (.reg [⟨some 26, .mov (.t 7), none⟩,
    ⟨some 27, .un .not (.t 26), none⟩])
  (.cond (.t 27)
  (.seq (.reg [⟨some 6, .mov (.k (.c (.bool false))), none⟩])
  (.ret))
  (.skip)))
  (.seq (.reg [⟨some 28, .mov (.t 0), none⟩,
    ⟨some 29, .mov (.t 1), none⟩,
    ⟨some 30, .call (.k (.fn 18 [])) [(.t 28), (.t 29)], none⟩,
    ⟨some 8, .mov (.t 30), none⟩])
  (.seq (.reg [⟨some 31, .mov (.t 2), none⟩,
    ⟨some 32, .call (.k (.fn 18 [])) [(.k (.csl [])), (.t 31)], none⟩,
    ⟨some 9, .mov (.t 32), none⟩])
  (.seq (.seq (.reg [⟨some 33, .mov (.t 8), none⟩,
    ⟨some 34, .mov (.t 33), none⟩,
    ⟨some 35, .mov (.t 9), some (34, false)⟩,
    ⟨some 36, .pick (.t 34) (.k (.c (.bool true))) (.t 35), none⟩])
  (.cond (.t 36)
  (.seq (.reg [⟨some 37, .mov (.t 7), none⟩,
    ⟨some 6, .mov (.t 37), none⟩])
  (.ret))
  (.skip)))
  (.seq (.reg [⟨some 39, .mov (.t 0), none⟩,
    ⟨some 40, .mov (.t 1), none⟩,
    ⟨some 41, .call (.k (.fn 15 [])) [(.t 39), (.t 40), (.k (.c (.int .i64 0)))], none⟩,
    ⟨some 38, .mov (.t 41), none⟩,
    ⟨some 42, .ext (.t 38) 0, none⟩,
    ⟨some 43, .ext (.t 38) 1, none⟩,
    ⟨some 44, .ext (.t 38) 2, none⟩,
    ⟨some 45, .ext (.t 38) 3, none⟩,
    ⟨some 10, .box (.k (.agg [.c (.int .i64 0), .c (.str []), .c (.int .i64 0), .csl [], .c (.int .i64 0)])), none⟩,
    ⟨none, .store 5 (.t 10) (.t 42), none⟩,
    ⟨some 11, .mov (.t 43), none⟩,
    ⟨some 12, .mov (.t 44), none⟩,
    ⟨some 13, .mov (.t 45), none⟩])
  (.seq (.seq (.reg [⟨some 46, .mov (.t 12), none⟩,
    ⟨some 47, .bin .neq (.t 46) (.k (.c (.int .i64 0))), none⟩])
  (.cond (.t 47)
  (.seq (.reg [⟨some 48, .mov (.t 7), none⟩,
    ⟨some 6, .mov (.t 48), none⟩])
  (.ret))
  (.skip)))
  (.seq (.seq (.reg [⟨some 49, .mov (.t 11), none⟩,
    ⟨some 50, .bin .lss (.t 49) (.k (.c (.int .i64 1))), none⟩,
    ⟨some 51, .mov (.t 50), none⟩,
    ⟨some 52, .mov (.t 11), some (51, false)⟩,
    ⟨some 53, .mov (.t 1), some (51, false)⟩,
    ⟨some 54, .lenr (.t 53), some (51, false)⟩,
    ⟨some 55, .bin .gtr (.t 52) (.t 54), some (51, false)⟩,
    ⟨some 56, .pick (.t 51) (.k (.c (.bool true))) (.t 55), none⟩])
  (.cond (.t 56)
  (.seq (.reg [⟨some 6, .mov (.k (.c (.bool false))), none⟩])
  (.ret))
  (.skip)))
  (.seq (.reg [⟨some 14, .mov (.k (.csl [])), none⟩])
  (.seq (.reg [⟨some 57, .mov (.t 14), none⟩,
    ⟨some 58, .mov (.t 2), none⟩,
    ⟨some 59, .app 53 4 40 (.t 57) (.t 58), none⟩,
    ⟨some 14, .mov (.t 59), none⟩])
  (.seq (.reg [⟨some 60, .mov (.t 14), none⟩,
    ⟨some 61, .mov (.t 1), none⟩,
    ⟨some 62, .mov (.t 11), none⟩,
    ⟨some 63, .slr 4 (.t 61) none (some (.t 62)) none, none⟩,
    ⟨some 64, .app 53 4 40 (.t 60) (.t 63), none⟩,
    ⟨some 14, .mov (.t 64), none⟩])
  (.seq (.reg [⟨some 66, .mov (.t 0), none⟩,
    ⟨some 67, .mov (.t 1), none⟩,
    ⟨some 68, .mov (.t 11), none⟩,
    ⟨some 69, .slr 4 (.t 67) none (some (.t 68)) none, none⟩,
    ⟨some 70, .call (.k (.fn 15 [])) [(.t 66), (.t 69), (.k (.c (.int .i64 0)))], none⟩,
    ⟨some 65, .mov (.t 70), none⟩,
    ⟨some 71, .ext (.t 65) 0, none⟩,
    ⟨some 72, .ext (.t 65) 1, none⟩,
    ⟨some 73, .ext (.t 65) 2, none⟩,
    ⟨some 74, .ext (.t 65) 3, none⟩,
    ⟨some 15, .box (.k (.agg [.c (.int .i64 0), .c (.str []), .c (.int .i64 0), .csl [], .c (.int .i64 0)])), none⟩,
    ⟨none, .store 5 (.t 15) (.t 71), none⟩,
    ⟨some 16, .mov (.t 72), none⟩,
    ⟨some 17, .mov (.t 73), none⟩,
    ⟨some 18, .mov (.t 74), none⟩])
  (.seq (.reg [⟨some 76, .mov (.t 0), none⟩,
    ⟨some 77, .mov (.t 14), none⟩,
    ⟨some 78, .mov (.t 2), none⟩,
    ⟨some 79, .lenr (.t 78), none⟩,
    ⟨some 80, .call (.k (.fn 15 [])) [(.t 76), (.t 77), (.t 79)], none⟩,
    ⟨some 75, .mov (.t 80), none⟩,
    ⟨some 81, .ext (.t 75) 0, none⟩,
    ⟨some 82, .ext (.t 75) 1, none⟩,
    ⟨some 83, .ext (.t 75) 2, none⟩,
    ⟨some 84, .ext (.t 75) 3, none⟩,
    ⟨some 19, .box (.k (.agg [.c (.int .i64 0), .c (.str []), .c (.int .i64 0), .csl [], .c (.int .i64 0)])), none⟩,
    ⟨none, .store 5 (.t 19) (.t 81), none⟩,
    ⟨some 20, .mov (.t 82), none⟩,
    ⟨some 21, .mov (.t 83), none⟩,
    ⟨some 22, .mov (.t 84), none⟩])
  (.seq (.reg [⟨some 85, .loadn 5 (.t 10), none⟩,
    ⟨some 86, .loadn 5 (.t 15), none⟩,
    ⟨some 87, .call (.k (.fn 17 [])) [(.t 85), (.t 86)], none⟩,
    ⟨some 23, .mov (.t 87), none⟩])
  (.seq (.reg [⟨some 88, .loadn 5 (.t 10), none⟩,
    ⟨some 89, .loadn 5 (.t 19), none⟩,
    ⟨some 90, .call (.k (.fn 17 [])) [(.t 88), (.t 89)], none⟩,
    ⟨some 24, .mov (.t 90), none⟩])
  (.seq (.reg [⟨some 91, .mov (.t 7), none⟩,
    ⟨some 92, .mov (.t 91), none⟩,
    ⟨some 93, .mov (.t 23), some (92, true)⟩,
    ⟨some 94, .pick (.t 92) (.t 93) (.k (.c (.bool false))), none⟩,
    ⟨some 95, .mov (.t 94), none⟩,
    ⟨some 96, .mov (.t 24), some (95, true)⟩,
    ⟨some 97, .pick (.t 95) (.t 96) (.k (.c (.bool false))), none⟩,
    ⟨some 98, .mov (.t 97), none⟩,
    ⟨some 99, .mov (.t 16), some (98, true)⟩,
    ⟨some 100, .mov (.t 11), some (98, true)⟩,
    ⟨some 101, .bin .eql (.t 99) (.t 100), some (98, true)⟩,
    ⟨some 102, .pick (.t 98) (.t 101) (.k (.c (.bool false))), none⟩,
    ⟨some 103, .mov (.t 102), none⟩,
    ⟨some 104, .mov (.t 20), some (103, true)⟩,
    ⟨some 105, .mov (.t 11), some (103, true)⟩,
    ⟨some 106, .mov (.t 2), some (103, true)⟩,
    ⟨some 107, .lenr (.t 106), some (103, true)⟩,
    ⟨some 108, .bin .add (.t 105) (.t 107), some (103, true)⟩,
    ⟨some 109, .bin .eql (.t 104) (.t 108), some (103, true)⟩,
    ⟨some 110, .pick (.t 103) (.t 109) (.k (.c (.bool false))), none⟩,
    ⟨some 111, .mov (.t 110), none⟩,
    ⟨some 112, .mov (.t 17), some (111, true)⟩,
    ⟨some 113, .bin .eql (.t 112) (.k (.c (.int .i64 0))), some (111, true)⟩,
    ⟨some 114, .pick (.t 111) (.t 113) (.k (.c (.bool false))), none⟩,
    ⟨some 115, .mov (.t 114), none⟩,
    ⟨some 116, .mov (.t 21), some (115, true)⟩,
    ⟨some 117, .bin .eql (.t 116) (.k (.c (.int .i64 0))), some (115, true)⟩,
    ⟨some 118, .pick (.t 115) (.t 117) (.k (.c (.bool false))), none⟩,
    ⟨some 6, .mov (.t 118), none⟩])
  (.ret)))))))))))))))))
def r5 : List ResV := [.tmp 6]
theorem tr5 : tr Tryz.prog Tryz.f5.ntmps (Tryz.f5.body.getD .skip) = some c5 := by kernel_rfl
theorem tre5 : trRes Tryz.prog Tryz.f5.results.toList = some r5 := by kernel_rfl
theorem en5 : Enters Tryz.prog 5 := enters_fn Tryz.func5 (by kernel_rfl) rfl
theorem go5 {w0 : World} {args : List V} {σ : H} {R : V → H → Prop} (ha : args.length = 3) (h : H.ok σ → (∀ x ∈ args, V.Sz x) → W Tryz.prog w0 σ.length (Fin r5 σ.length R) [.code c5] ⟨argEnv args, σ⟩) : DC Tryz.prog w0 5 args σ R :=
  DC.of_code (by kernel_rfl) Tryz.func5 rfl tr5 tre5 (by rw [ha]; exact by decide) en5 h
/-- lambentlaw03.ReadDeep -/
def c6 : AC :=
  .seq (.reg [⟨some 4, .mov (.k (.c (.bool false))), none⟩])
  (.seq (.reg [⟨some 12, .call (.k (.fn 12 [])) [], none⟩,
    ⟨some 5, .mov (.t 12), none⟩])
  (.seq (.seq (.reg [⟨some 13, .mov (.t 5), none⟩,
    ⟨some 14, .un .not (.t 13), none⟩])
  (.cond (.t 14)
  (.seq (.reg [⟨some 4, .mov (.k (.c (.bool false))), none⟩])
  (.ret))
  (.skip)))
  (.seq (.seq (.reg [⟨some 15, .mov (.t 0), none⟩,
    ⟨some 16, .bin .lss (.t 15) (.k (.c (.int .i64 0))), none⟩,
    ⟨some 17, .mov (.t 16), none⟩,
    ⟨some 18, .mov (.t 0), some (17, false)⟩,
    ⟨some 19, .bin .gtr (.t 18) (.k (.c (.int .i64 260))), some (17, false)⟩,
    ⟨some 20, .pick (.t 17) (.k (.c (.bool true))) (.t 19), none⟩])
  (.cond (.t 20)
  (.seq (.reg [⟨some 21, .mov (.t 5), none⟩,
    ⟨some 4, .mov (.t 21), none⟩])
  (.ret))
  (.skip)))
  (.seq (.reg [⟨some 6, .mov (.k (.c (.str [97]))), none⟩])
  (.seq (.seq (.reg [⟨some 7, .mov (.k (.c (.int .i64 0))), none⟩])
  (.block 0 (.loop (.seq (.seq (.reg [⟨some 22, .mov (.t 7), none⟩,
    ⟨some 23, .mov (.t 0), none⟩,
    ⟨some 24, .bin .lss (.t 22) (.t 23), none⟩])
  (.cond (.t 24)
  (.skip)
  (.exit 0)))
  (.seq (.block 1 (.seq (.reg [⟨some 27, .mov (.t 1), none⟩,
    ⟨some 28, .bin .rem (.t 27) (.k (.c (.int .i64 3))), none⟩])
  (.block 2 (.seq (.reg [⟨some 33, .bin .eql (.t 28) (.k (.c (.int .i64 1))), none⟩,
    ⟨some 32, .mov (.t 33), none⟩])
  (.cond (.t 32)
  (.reg [⟨some 34, .mov (.t 6), none⟩,
    ⟨some 35, .bin .add (.k (.c (.str [120, 92, 32]))) (.t 34), none⟩,
    ⟨some 6, .mov (.t 35), none⟩])
  (.seq (.reg [⟨some 37, .bin .eql (.t 28) (.k (.c (.int .i64 2))), none⟩,
    ⟨some 36, .mov (.t 37), none⟩])
  (.cond (.t 36)
  (.reg [⟨some 38, .mov (.t 6), none⟩,
    ⟨some 39, .bin .add (.k (.c (.str [97, 32, 44, 32]))) (.t 38), none⟩,
    ⟨some 6, .mov (.t 39), none⟩])
  (.reg [⟨some 29, .mov (.t 6), none⟩,
    ⟨some 30, .bin .add (.k (.c (.str [40]))) (.t 29), none⟩,
    ⟨some 31, .bin .add (.t 30) (.k (.c (.str [41]))), none⟩,
    ⟨some 6, .mov (.t 31), none⟩]))))))))
  (.reg [⟨some 25, .mov (.t 7), none⟩,
    ⟨some 26, .bin .add (.t 25) (.k (.c (.int .i64 1))), none⟩,
    ⟨some 7, .mov (.t 26), none⟩]))))))
  (.seq (.reg [⟨some 41, .call (.k (.fn 14 [])) [], none⟩,
    ⟨some 42, .mov (.t 6), none⟩,
    ⟨some 43, .call (.k (.fn 24 [])) [(.t 42)], none⟩,
    ⟨some 44, .call (.k (.fn 15 [])) [(.t 41), (.t 43), (.k (.c (.int .i64 0)))], none⟩,
    ⟨some 40, .mov (.t 44), none⟩,
    ⟨some 45, .ext (.t 40) 0, none⟩,
    ⟨some 46, .ext (.t 40) 1, none⟩,
    ⟨some 47, .ext (.t 40) 2, none⟩,
    ⟨some 48, .ext (.t 40) 3, none⟩,
    ⟨some 8, .box (.k (.agg [.c (.int .i64 0), .c (.str []), .c (.int .i64 0), .csl [], .c (.int .i64 0)])), none⟩,
    ⟨none, .store 5 (.t 8) (.t 45), none⟩,
    ⟨some 9, .mov (.t 46), none⟩,
    ⟨some 10, .mov (.t 47), none⟩,
    ⟨some 11, .mov (.t 48), none⟩])
  (.seq (.reg [⟨some 49, .mov (.t 5), none⟩,
    ⟨some 50, .mov (.t 49), none⟩,
    ⟨some 51, .mov (.t 0), some (50, true)⟩,
    ⟨some 52, .bin .leq (.t 51) (.k (.c (.int .i64 200))), some (50, true)⟩,
    ⟨some 53, .mov (.t 52), some (50, true)⟩,
    ⟨some 54, .mov (.t 10), some (53, true)⟩,
    ⟨some 55, .bin .eql (.t 54) (.k (.c (.int .i64 0))), some (53, true)⟩,
    ⟨some 56, .pick (.t 53) (.t 55) (.k (.c (.bool false))), some (50, true)⟩,
    ⟨some 57, .mov (.t 56), some (50, true)⟩,
    ⟨some 58, .mov (.t 0), some (57, false)⟩,
    ⟨some 59, .bin .gtr (.t 58) (.k (.c (.int .i64 200))), some (57, false)⟩,
    ⟨some 60, .mov (.t 59), some (57, false)⟩,
    ⟨some 61, .mov (.t 10), some (60, true)⟩,
    ⟨some 62, .bin .eql (.t 61) (.k (.c (.int .i64 31))), some (60, true)⟩,
    ⟨some 63, .pick (.t 60) (.t 62) (.k (.c (.bool false))), some (57, false)⟩,
    ⟨some 64, .pick (.t 57) (.k (.c (.bool true))) (.t 63), some (50, true)⟩,
    ⟨some 65, .pick (.t 50) (.t 64) (.k (.c (.bool false))), none⟩,
    ⟨some 4, .mov (.t 65), none⟩])
  (.ret))))))))
def r6 : List ResV := [.tmp 4]
theorem tr6 : tr Tryz.prog Tryz.f6.ntmps (Tryz.f6.body.getD .skip) = some c6 := by kernel_rfl
theorem tre6 : trRes Tryz.prog Tryz.f6.results.toList = some r6 := by kernel_rfl
theorem en6 : Enters Tryz.prog 6 := enters_fn Tryz.func6 (by kernel_rfl) rfl
theorem go6 {w0 : World} {args : List V} {σ : H} {R : V → H → Prop} (ha : args.length = 2) (h : H.ok σ → (∀ x ∈ args, V.Sz x) → W Tryz.prog w0 σ.length (Fin r6 σ.length R) [.code c6] ⟨argEnv args, σ⟩) : DC Tryz.prog w0 6 args σ R :=
  DC.of_code (by kernel_rfl) Tryz.func6 rfl tr6 tre6 (by rw [ha]; exact by decide) en6 h
end Go.Proofs.YtpgkhkojjklakaaGreatDoor
namespace Go.Proofs.YtpgkhkojjklakaaGreatDoor
open Go.RowKit Go.Lamb
/-- lambentref01.IsName -/
def c47 : AC :=
  .seq (.reg [⟨some 2, .mov (.k (.c (.bool false))), none⟩])
  (.seq (.seq (.reg [⟨some 5, .mov (.t 0), none⟩,
    ⟨some 6, .lens (.t 5), none⟩,
    ⟨some 7, .bin .lss (.t 6) (.k (.c (.int .i64 1))), none⟩,
    ⟨some 8, .mov (.t 7), none⟩,
    ⟨some 9, .mov (.t 0), some (8, false)⟩,
    ⟨some 10, .lens (.t 9), some (8, false)⟩,
    ⟨some 11, .bin .gtr (.t 10) (.k (.c (.int .i64 32))), some (8, false)⟩,
    ⟨some 12, .pick (.t 8) (.k (.c (.bool true))) (.t 11), none⟩,
    ⟨some 13, .mov (.t 12), none⟩,
    ⟨some 14, .mov (.t 0), some (13, false)⟩,
    ⟨some 15, .index (.t 14) (.k (.c (.int .i64 0))), some (13, false)⟩,
    ⟨some 16, .call (.k (.fn 95 [])) [(.t 15)], some (13, false)⟩,
    ⟨some 17, .un .not (.t 16), some (13, false)⟩,
    ⟨some 18, .pick (.t 13) (.k (.c (.bool true))) (.t 17), none⟩])
  (.cond (.t 18)
  (.seq (.reg [⟨some 2, .mov (.k (.c (.bool false))), none⟩])
  (.ret))
  (.skip)))
  (.seq (.seq (.reg [⟨some 3, .mov (.k (.c (.int .i64 0))), none⟩])
  (.block 0 (.loop (.seq (.seq (.reg [⟨some 19, .mov (.t 3), none⟩,
    ⟨some 20, .mov (.t 0), none⟩,
    ⟨some 21, .lens (.t 20), none⟩,
    ⟨some 22, .bin .lss (.t 19) (.t 21), none⟩])
  (.cond (.t 22)
  (.skip)
  (.exit 0)))
  (.seq (.block 1 (.seq (.reg [⟨some 25, .mov (.t 0), none⟩,
    ⟨some 26, .mov (.t 3), none⟩,
    ⟨some 27, .index (.t 25) (.t 26), none⟩,
    ⟨some 28, .call (.k (.fn 96 [])) [(.t 27)], none⟩,
    ⟨some 4, .mov (.t 28), none⟩])
  (.seq (.reg [⟨some 29, .mov (.t 4), none⟩,
    ⟨some 30, .un .not (.t 29), none⟩])
  (.cond (.t 30)
  (.seq (.reg [⟨some 2, .mov (.k (.c (.bool false))), none⟩])
  (.ret))
  (.skip)))))
  (.reg [⟨some 23, .mov (.t 3), none⟩,
    ⟨some 24, .bin .add (.t 23) (.k (.c (.int .i64 1))), none⟩,
    ⟨some 3, .mov (.t 24), none⟩]))))))
  (.seq (.reg [⟨some 2, .mov (.k (.c (.bool true))), none⟩])
  (.ret))))
def r47 : List ResV := [.tmp 2]
theorem tr47 : tr Tryz.prog Tryz.f47.ntmps (Tryz.f47.body.getD .skip) = some c47 := by kernel_rfl
theorem tre47 : trRes Tryz.prog Tryz.f47.results.toList = some r47 := by kernel_rfl
theorem en47 : Enters Tryz.prog 47 := enters_fn Tryz.func47 (by kernel_rfl) rfl
theorem go47 {w0 : World} {args : List V} {σ : H} {R : V → H → Prop} (ha : args.length = 1) (h : H.ok σ → (∀ x ∈ args, V.Sz x) → W Tryz.prog w0 σ.length (Fin r47 σ.length R) [.code c47] ⟨argEnv args, σ⟩) : DC Tryz.prog w0 47 args σ R :=
  DC.of_code (by kernel_rfl) Tryz.func47 rfl tr47 tre47 (by rw [ha]; exact by decide) en47 h
/-- lambentref01.IsVar -/
def c49 : AC :=
  .seq (.reg [⟨some 2, .mov (.k (.c (.bool false))), none⟩])
  (.seq (.seq (.reg [⟨some 5, .mov (.t 0), none⟩,
    ⟨some 6, .lens (.t 5), none⟩,
    ⟨some 7, .bin .lss (.t 6) (.k (.c (.int .i64 1))), none⟩,
    ⟨some 8, .mov (.t 7), none⟩,
    ⟨some 9, .mov (.t 0), some (8, false)⟩,
    ⟨some 10, .lens (.t 9), some (8, false)⟩,
    ⟨some 11, .bin .gtr (.t 10) (.k (.c (.int .i64 32))), some (8, false)⟩,
    ⟨some 12, .pick (.t 8) (.k (.c (.bool true))) (.t 11), none⟩,
    ⟨some 13, .mov (.t 12), none⟩,
    ⟨some 14, .mov (.t 0), some (13, false)⟩,
    ⟨some 15, .index (.t 14) (.k (.c (.int .i64 0))), some (13, false)⟩,
    ⟨some 16, .call (.k (.fn 98 [])) [(.t 15)], some (13, false)⟩,
    ⟨some 17, .un .not (.t 16), some (13, false)⟩,
    ⟨some 18, .pick (.t 13) (.k (.c (.bool true))) (.t 17), none⟩])
  (.cond (.t 18)
  (.seq (.reg [⟨some 2, .mov (.k (.c (.bool false))), none⟩])
  (.ret))
  (.skip)))
  (.seq (.seq (.reg [⟨some 3, .mov (.k (.c (.int .i64 0))), none⟩])
  (.block 0 (.loop (.seq (.seq (.reg [⟨some 19, .mov (.t 3), none⟩,
    ⟨some 20, .mov (.t 0), none⟩,
    ⟨some 21, .lens (.t 20), none⟩,
    ⟨some 22, .bin .lss (.t 19) (.t 21), none⟩])
  (.cond (.t 22)
  (.skip)
  (.exit 0)))
  (.seq (.block 1 (.seq (.reg [⟨some 25, .mov (.t 0), none⟩,
    ⟨some 26, .mov (.t 3), none⟩,
    ⟨some 27, .index (.t 25) (.t 26), none⟩,
    ⟨some 28, .call (.k (.fn 96 [])) [(.t 27)], none⟩,
    ⟨some 4, .mov (.t 28), none⟩])
  (.seq (.reg [⟨some 29, .mov (.t 4), none⟩,
    ⟨some 30, .un .not (.t 29), none⟩])
  (.cond (.t 30)
  (.seq (.reg [⟨some 2, .mov (.k (.c (.bool false))), none⟩])
  (.ret))
  (.skip)))))
  (.reg [⟨some 23, .mov (.t 3), none⟩,
    ⟨some 24, .bin .add (.t 23) (.k (.c (.int .i64 1))), none⟩,
    ⟨some 3, .mov (.t 24), none⟩]))))))
  (.seq (.reg [⟨some 2, .mov (.k (.c (.bool true))), none⟩])
  (.ret))))
def r49 : List ResV := [.tmp 2]
theorem tr49 : tr Tryz.prog Tryz.f49.ntmps (Tryz.f49.body.getD .skip) = some c49 := by kernel_rfl
theorem tre49 : trRes Tryz.prog Tryz.f49.results.toList = some r49 := by kernel_rfl
theorem en49 : Enters Tryz.prog 49 := enters_fn Tryz.func49 (by kernel_rfl) rfl
theorem go49 {w0 : World} {args : List V} {σ : H} {R : V → H → Prop} (ha : args.length = 1) (h : H.ok σ → (∀ x ∈ args, V.Sz x) → W Tryz.prog w0 σ.length (Fin r49 σ.length R) [.code c49] ⟨argEnv args, σ⟩) : DC Tryz.prog w0 49 args σ R :=
  DC.of_code (by kernel_rfl) Tryz.func49 rfl tr49 tre49 (by rw [ha]; exact by decide) en49 h
/-- lambentref01.IsSym -/
def c48 : AC :=
  .seq (.reg [⟨some 2, .mov (.k (.c (.bool false))), none⟩])
  (.seq (.seq (.reg [⟨some 5, .mov (.t 0), none⟩,
    ⟨some 6, .bin .eql (.t 5) (.k (.c (.str [44]))), none⟩,
    ⟨some 7, .mov (.t 6), none⟩,
    ⟨some 8, .mov (.t 0), some (7, false)⟩,
    ⟨some 9, .bin .eql (.t 8) (.k (.c (.str [59]))), some (7, false)⟩,
    ⟨some 10, .pick (.t 7) (.k (.c (.bool true))) (.t 9), none⟩,
    ⟨some 11, .mov (.t 10), none⟩,
    ⟨some 12, .mov (.t 0), some (11, false)⟩,
    ⟨some 13, .bin .eql (.t 12) (.k (.c (.str [33]))), some (11, false)⟩,
    ⟨some 14, .pick (.t 11) (.k (.c (.bool true))) (.t 13), none⟩])
  (.cond (.t 14)
  (.seq (.reg [⟨some 2, .mov (.k (.c (.bool true))), none⟩])
  (.ret))
  (.skip)))
  (.seq (.seq (.reg [⟨some 3, .mov (.k (.c (.int .i64 0))), none⟩])
  (.block 0 (.loop (.seq (.seq (.reg [⟨some 15, .mov (.t 3), none⟩,
    ⟨some 16, .mov (.t 0), none⟩,
    ⟨some 17, .lens (.t 16), none⟩,
    ⟨some 18, .bin .lss (.t 15) (.t 17), none⟩])
  (.cond (.t 18)
  (.skip)
  (.exit 0)))
  (.seq (.block 1 (.seq (.reg [⟨some 21, .mov (.t 0), none⟩,
    ⟨some 22, .mov (.t 3), none⟩,
    ⟨some 23, .index (.t 21) (.t 22), none⟩,
    ⟨some 24, .call (.k (.fn 97 [])) [(.t 23)], none⟩,
    ⟨some 4, .mov (.t 24), none⟩])
  (.seq (.reg [⟨some 25, .mov (.t 4), none⟩,
    ⟨some 26, .un .not (.t 25), none⟩])
  (.cond (.t 26)
  (.seq (.reg [⟨some 2, .mov (.k (.c (.bool false))), none⟩])
  (.ret))
  (.skip)))))
  (.reg [⟨some 19, .mov (.t 3), none⟩,
    ⟨some 20, .bin .add (.t 19) (.k (.c (.int .i64 1))), none⟩,
    ⟨some 3, .mov (.t 20), none⟩]))))))
  (.seq (.reg [⟨some 27, .mov (.t 0), none⟩,
    ⟨some 28, .lens (.t 27), none⟩,
    ⟨some 29, .bin .geq (.t 28) (.k (.c (.int .i64 1))), none⟩,
    ⟨some 30, .mov (.t 29), none⟩,
    ⟨some 31, .mov (.t 0), some (30, true)⟩,
    ⟨some 32, .lens (.t 31), some (30, true)⟩,
    ⟨some 33, .bin .leq (.t 32) (.k (.c (.int .i64 32))), some (30, true)⟩,
    ⟨some 34, .pick (.t 30) (.t 33) (.k (.c (.bool false))), none⟩,
    ⟨some 2, .mov (.t 34), none⟩])
  (.ret))))
def r48 : List ResV := [.tmp 2]
theorem tr48 : tr Tryz.prog Tryz.f48.ntmps (Tryz.f48.body.getD .skip) = some c48 := by kernel_rfl
theorem tre48 : trRes Tryz.prog Tryz.f48.results.toList = some r48 := by kernel_rfl
theorem en48 : Enters Tryz.prog 48 := enters_fn Tryz.func48 (by kernel_rfl) rfl
theorem go48 {w0 : World} {args : List V} {σ : H} {R : V → H → Prop} (ha : args.length = 1) (h : H.ok σ → (∀ x ∈ args, V.Sz x) → W Tryz.prog w0 σ.length (Fin r48 σ.length R) [.code c48] ⟨argEnv args, σ⟩) : DC Tryz.prog w0 48 args σ R :=
  DC.of_code (by kernel_rfl) Tryz.func48 rfl tr48 tre48 (by rw [ha]; exact by decide) en48 h
end Go.Proofs.YtpgkhkojjklakaaGreatDoor
namespace Go.Proofs.YtpgkhkojjklakaaGreatDoor
open Go.RowKit Go.Lamb
/-- ops.Find$1 -/
def c91 : AC :=
  .seq (.reg [⟨some 2, .box (.t 0), none⟩,
    ⟨some 3, .mov (.k (.c (.bool false))), none⟩])
  (.seq (.reg [⟨some 4, .fadd 0 (.t 2), none⟩,
    ⟨some 5, .load1 (.t 4), none⟩,
    ⟨some 6, .load1 (.t 1), none⟩,
    ⟨some 7, .bin .eql (.t 5) (.t 6), none⟩,
    ⟨some 3, .mov (.t 7), none⟩])
  (.ret))
def r91 : List ResV := [.tmp 3]
theorem tr91 : tr Tryz.prog Tryz.f91.ntmps (Tryz.f91.body.getD .skip) = some c91 := by kernel_rfl
theorem tre91 : trRes Tryz.prog Tryz.f91.results.toList = some r91 := by kernel_rfl
theorem en91 : Enters Tryz.prog 91 := enters_fn Tryz.func91 (by kernel_rfl) rfl
theorem go91 {w0 : World} {args : List V} {σ : H} {R : V → H → Prop} (ha : args.length = 2) (h : H.ok σ → (∀ x ∈ args, V.Sz x) → W Tryz.prog w0 σ.length (Fin r91 σ.length R) [.code c91] ⟨argEnv args, σ⟩) : DC Tryz.prog w0 91 args σ R :=
  DC.of_code (by kernel_rfl) Tryz.func91 rfl tr91 tre91 (by rw [ha]; exact by decide) en91 h
/-- slices.IndexFunc[[]api.Op,api.Op] -/
def c90 : AC :=
  .seq (.reg [⟨some 4, .mov (.k (.c (.int .i64 0))), none⟩])
  (.seq (.seq (.reg [⟨some 6, .mov (.t 0), none⟩,
    ⟨some 7, .lenr (.t 6), none⟩,
    ⟨some 8, .mov (.k (.c (.int .i64 0))), none⟩])
  (.block 0 (.loop (.seq (.reg [⟨some 9, .bin .lss (.t 8) (.t 7), none⟩])
  (.seq (.cond (.t 9)
  (.skip)
  (.exit 0))
  (.seq (.block 1 (.seq (.reg [⟨some 10, .mov (.t 8), none⟩,
    ⟨some 5, .mov (.t 10), none⟩])
  (.seq (.reg [⟨some 11, .mov (.t 1), none⟩,
    ⟨some 12, .mov (.t 0), none⟩,
    ⟨some 13, .mov (.t 5), none⟩,
    ⟨some 14, .iadd 3 (.t 12) (.t 13), none⟩,
    ⟨some 15, .loadn 3 (.t 14), none⟩,
    ⟨some 16, .call (.t 11) [(.t 15)], none⟩])
  (.cond (.t 16)
  (.seq (.reg [⟨some 17, .mov (.t 5), none⟩,
    ⟨some 4, .mov (.t 17), none⟩])
  (.ret))
  (.skip)))))
  (.reg [⟨some 18, .bin .add (.t 8) (.k (.c (.int .i64 1))), none⟩,
    ⟨some 8, .mov (.t 18), none⟩])))))))
  (.seq (.reg [⟨some 4, .mov (.k (.c (.int .i64 (-1)))), none⟩])
  (.ret)))
def r90 : List ResV := [.tmp 4]
theorem tr90 : tr Tryz.prog Tryz.f90.ntmps (Tryz.f90.body.getD .skip) = some c90 := by kernel_rfl
theorem tre90 : trRes Tryz.prog Tryz.f90.results.toList = some r90 := by kernel_rfl
theorem en90 : Enters Tryz.prog 90 := enters_fn Tryz.func90 (by kernel_rfl) rfl
theorem go90 {w0 : World} {args : List V} {σ : H} {R : V → H → Prop} (ha : args.length = 2) (h : H.ok σ → (∀ x ∈ args, V.Sz x) → W Tryz.prog w0 σ.length (Fin r90 σ.length R) [.code c90] ⟨argEnv args, σ⟩) : DC Tryz.prog w0 90 args σ R :=
  DC.of_code (by kernel_rfl) Tryz.func90 rfl tr90 tre90 (by rw [ha]; exact by decide) en90 h
/-- ops.Find -/
def c40 : AC :=
  .seq (.reg [⟨some 3, .box (.t 1), none⟩,
    ⟨some 4, .box (.k (.agg [.c (.str []), .c (.int .i64 0), .c (.int .i64 0)])), none⟩,
    ⟨some 5, .mov (.k (.c (.bool false))), none⟩])
  (.seq (.reg [⟨some 7, .mov (.t 0), none⟩,
    ⟨some 8, .mkfn 91 [(.t 3)], none⟩,
    ⟨some 9, .call (.k (.fn 90 [])) [(.t 7), (.t 8)], none⟩,
    ⟨some 6, .mov (.t 9), none⟩])
  (.seq (.seq (.reg [⟨some 10, .mov (.t 6), none⟩,
    ⟨some 11, .bin .lss (.t 10) (.k (.c (.int .i64 0))), none⟩])
  (.cond (.t 11)
  (.seq (.reg [⟨some 12, .build [.c (.str []), .c (.int .i64 0), .c (.int .i64 0)] [], none⟩,
    ⟨none, .store 3 (.t 4) (.t 12), none⟩,
    ⟨some 5, .mov (.k (.c (.bool false))), none⟩])
  (.ret))
  (.skip)))
  (.seq (.reg [⟨some 13, .mov (.t 0), none⟩,
    ⟨some 14, .mov (.t 6), none⟩,
    ⟨some 15, .iadd 3 (.t 13) (.t 14), none⟩,
    ⟨some 16, .loadn 3 (.t 15), none⟩,
    ⟨none, .store 3 (.t 4) (.t 16), none⟩,
    ⟨some 5, .mov (.k (.c (.bool true))), none⟩])
  (.ret))))
def r40 : List ResV := [.celln 3 4, .tmp 5]
theorem tr40 : tr Tryz.prog Tryz.f40.ntmps (Tryz.f40.body.getD .skip) = some c40 := by kernel_rfl
theorem tre40 : trRes Tryz.prog Tryz.f40.results.toList = some r40 := by kernel_rfl
theorem en40 : Enters Tryz.prog 40 := enters_fn Tryz.func40 (by kernel_rfl) rfl
theorem go40 {w0 : World} {args : List V} {σ : H} {R : V → H → Prop} (ha : args.length = 2) (h : H.ok σ → (∀ x ∈ args, V.Sz x) → W Tryz.prog w0 σ.length (Fin r40 σ.length R) [.code c40] ⟨argEnv args, σ⟩) : DC Tryz.prog w0 40 args σ R :=
  DC.of_code (by kernel_rfl) Tryz.func40 rfl tr40 tre40 (by rw [ha]; exact by decide) en40 h
/-- lambentref02.Find -/
def c46 : AC :=
  .seq (.reg [⟨some 4, .box (.k (.agg [.c (.str []), .c (.int .i64 0), .c (.int .i64 0)])), none⟩,
    ⟨some 5, .mov (.k (.c (.bool false))), none⟩])
  (.seq (.seq (.reg [⟨some 6, .mov (.k (.c (.int .i64 0))), none⟩])
  (.block 0 (.loop (.seq (.seq (.reg [⟨some 7, .mov (.t 6), none⟩,
    ⟨some 8, .mov (.t 0), none⟩,
    ⟨some 9, .lenr (.t 8), none⟩,
    ⟨some 10, .bin .lss (.t 7) (.t 9), none⟩])
  (.cond (.t 10)
  (.skip)
  (.exit 0)))
  (.seq (.block 1 (.seq (.reg [⟨some 13, .mov (.t 0), none⟩,
    ⟨some 14, .mov (.t 6), none⟩,
    ⟨some 15, .iadd 3 (.t 13) (.t 14), none⟩,
    ⟨some 16, .fadd 0 (.t 15), none⟩,
    ⟨some 17, .load1 (.t 16), none⟩,
    ⟨some 18, .mov (.t 1), none⟩,
    ⟨some 19, .bin .eql (.t 17) (.t 18), none⟩])
  (.cond (.t 19)
  (.seq (.reg [⟨some 20, .mov (.t 0), none⟩,
    ⟨some 21, .mov (.t 6), none⟩,
    ⟨some 22, .iadd 3 (.t 20) (.t 21), none⟩,
    ⟨some 23, .loadn 3 (.t 22), none⟩,
    ⟨none, .store 3 (.t 4) (.t 23), none⟩,
    ⟨some 5, .mov (.k (.c (.bool true))), none⟩])
  (.ret))
  (.skip))))
  (.reg [⟨some 11, .mov (.t 6), none⟩,
    ⟨some 12, .bin .add (.t 11) (.k (.c (.int .i64 1))), none⟩,
    ⟨some 6, .mov (.t 12), none⟩]))))))
  (.seq (.reg [⟨some 24, .build [.c (.str []), .c (.int .i64 0), .c (.int .i64 0)] [], none⟩,
    ⟨none, .store 3 (.t 4) (.t 24), none⟩,
    ⟨some 5, .mov (.k (.c (.bool false))), none⟩])
  (.ret)))
def r46 : List ResV := [.celln 3 4, .tmp 5]
theorem tr46 : tr Tryz.prog Tryz.f46.ntmps (Tryz.f46.body.getD .skip) = some c46 := by kernel_rfl
theorem tre46 : trRes Tryz.prog Tryz.f46.results.toList = some r46 := by kernel_rfl
theorem en46 : Enters Tryz.prog 46 := enters_fn Tryz.func46 (by kernel_rfl) rfl
theorem go46 {w0 : World} {args : List V} {σ : H} {R : V → H → Prop} (ha : args.length = 2) (h : H.ok σ → (∀ x ∈ args, V.Sz x) → W Tryz.prog w0 σ.length (Fin r46 σ.length R) [.code c46] ⟨argEnv args, σ⟩) : DC Tryz.prog w0 46 args σ R :=
  DC.of_code (by kernel_rfl) Tryz.func46 rfl tr46 tre46 (by rw [ha]; exact by decide) en46 h
/-- ops.Is -/
def c122 : AC :=
  .seq (.reg [⟨some 3, .box (.t 1), none⟩,
    ⟨some 4, .box (.k (.agg [.c (.str []), .c (.int .i64 0), .c (.int .i64 0)])), none⟩,
    ⟨some 5, .mov (.k (.c (.bool false))), none⟩])
  (.seq (.seq (.reg [⟨some 6, .fadd 0 (.t 3), none⟩,
    ⟨some 7, .load1 (.t 6), none⟩])
  (.block 0 (.seq (.seq (.reg [⟨some 9, .bin .eql (.t 7) (.k (.c (.int .i64 1))), none⟩,
    ⟨some 8, .mov (.t 9), none⟩])
  (.cond (.t 8)
  (.skip)
  (.reg [⟨some 10, .bin .eql (.t 7) (.k (.c (.int .i64 4))), none⟩,
    ⟨some 8, .mov (.t 10), none⟩])))
  (.cond (.t 8)
  (.seq (.reg [⟨some 11, .mov (.t 0), none⟩,
    ⟨some 12, .fadd 1 (.t 3), none⟩,
    ⟨some 13, .load1 (.t 12), none⟩,
    ⟨some 14, .call (.k (.fn 40 [])) [(.t 11), (.t 13)], none⟩,
    ⟨some 15, .ext (.t 14) 0, none⟩,
    ⟨some 16, .ext (.t 14) 1, none⟩,
    ⟨none, .store 3 (.t 4) (.t 15), none⟩,
    ⟨some 5, .mov (.t 16), none⟩])
  (.ret))
  (.skip)))))
  (.seq (.reg [⟨some 17, .build [.c (.str []), .c (.int .i64 0), .c (.int .i64 0)] [], none⟩,
    ⟨none, .store 3 (.t 4) (.t 17), none⟩,
    ⟨some 5, .mov (.k (.c (.bool false))), none⟩])
  (.ret)))
def r122 : List ResV := [.celln 3 4, .tmp 5]
theorem tr122 : tr Tryz.prog Tryz.f122.ntmps (Tryz.f122.body.getD .skip) = some c122 := by kernel_rfl
theorem tre122 : trRes Tryz.prog Tryz.f122.results.toList = some r122 := by kernel_rfl
theorem en122 : Enters Tryz.prog 122 := enters_fn Tryz.func122 (by kernel_rfl) rfl
theorem go122 {w0 : World} {args : List V} {σ : H} {R : V → H → Prop} (ha : args.length = 2) (h : H.ok σ → (∀ x ∈ args, V.Sz x) → W Tryz.prog w0 σ.length (Fin r122 σ.length R) [.code c122] ⟨argEnv args, σ⟩) : DC Tryz.prog w0 122 args σ R :=
  DC.of_code (by kernel_rfl) Tryz.func122 rfl tr122 tre122 (by rw [ha]; exact by decide) en122 h
/-- lambentref02.Is -/
def c87 : AC :=
  .seq (.reg [⟨some 3, .box (.t 1), none⟩,
    ⟨some 4, .box (.k (.agg [.c (.str []), .c (.int .i64 0), .c (.int .i64 0)])), none⟩,
    ⟨some 5, .mov (.k (.c (.bool false))), none⟩])
  (.seq (.seq (.reg [⟨some 6, .fadd 0 (.t 3), none⟩,
    ⟨some 7, .load1 (.t 6), none⟩,
    ⟨some 8, .bin .neq (.t 7) (.k (.c (.int .i64 1))), none⟩,
    ⟨some 9, .mov (.t 8), none⟩,
    ⟨some 10, .fadd 0 (.t 3), some (9, true)⟩,
    ⟨some 11, .load1 (.t 10), some (9, true)⟩,
    ⟨some 12, .bin .neq (.t 11) (.k (.c (.int .i64 4))), some (9, true)⟩,
    ⟨some 13, .pick (.t 9) (.t 12) (.k (.c (.bool false))), none⟩])
  (.cond (.t 13)
  (.seq (.reg [⟨some 14, .build [.c (.str []), .c (.int .i64 0), .c (.int .i64 0)] [], none⟩,
    ⟨none, .store 3 (.t 4) (.t 14), none⟩,
    ⟨some 5, .mov (.k (.c (.bool false))), none⟩])
  (.ret))
  (.skip)))
  (.seq (.reg [⟨some 15, .mov (.t 0), none⟩,
    ⟨some 16, .fadd 1 (.t 3), none⟩,
    ⟨some 17, .load1 (.t 16), none⟩,
    ⟨some 18, .call (.k (.fn 46 [])) [(.t 15), (.t 17)], none⟩,
    ⟨some 19, .ext (.t 18) 0, none⟩,
    ⟨some 20, .ext (.t 18) 1, none⟩,
    ⟨none, .store 3 (.t 4) (.t 19), none⟩,
    ⟨some 5, .mov (.t 20), none⟩])
  (.ret)))
def r87 : List ResV := [.celln 3 4, .tmp 5]
theorem tr87 : tr Tryz.prog Tryz.f87.ntmps (Tryz.f87.body.getD .skip) = some c87 := by kernel_rfl
theorem tre87 : trRes Tryz.prog Tryz.f87.results.toList = some r87 := by kernel_rfl
theorem en87 : Enters Tryz.prog 87 := enters_fn Tryz.func87 (by kernel_rfl) rfl
theorem go87 {w0 : World} {args : List V} {σ : H} {R : V → H → Prop} (ha : args.length = 2) (h : H.ok σ → (∀ x ∈ args, V.Sz x) → W Tryz.prog w0 σ.length (Fin r87 σ.length R) [.code c87] ⟨argEnv args, σ⟩) : DC Tryz.prog w0 87 args σ R :=
  DC.of_code (by kernel_rfl) Tryz.func87 rfl tr87 tre87 (by rw [ha]; exact by decide) en87 h
/-- ops.beside -/
def c123 : AC :=
  .seq (.reg [⟨some 3, .box (.t 0), none⟩,
    ⟨some 4, .box (.t 1), none⟩,
    ⟨some 6, .mov (.k (.c (.bool false))), none⟩])
  (.seq (.reg [⟨some 7, .fadd 1 (.t 4), none⟩,
    ⟨some 8, .load1 (.t 7), none⟩,
    ⟨some 9, .fadd 1 (.t 3), none⟩,
    ⟨some 10, .load1 (.t 9), none⟩,
    ⟨some 11, .bin .gtr (.t 8) (.t 10), none⟩,
    ⟨some 12, .mov (.t 11), none⟩,
    ⟨some 13, .fadd 1 (.t 4), some (12, false)⟩,
    ⟨some 14, .load1 (.t 13), some (12, false)⟩,
    ⟨some 15, .fadd 1 (.t 3), some (12, false)⟩,
    ⟨some 16, .load1 (.t 15), some (12, false)⟩,
    ⟨some 17, .bin .eql (.t 14) (.t 16), some (12, false)⟩,
    ⟨some 18, .mov (.t 17), some (12, false)⟩,
    ⟨some 19, .fadd 2 (.t 3), some (18, true)⟩,
    ⟨some 20, .load1 (.t 19), some (18, true)⟩,
    ⟨some 21, .mov (.t 2), some (18, true)⟩,
    ⟨some 22, .bin .eql (.t 20) (.t 21), some (18, true)⟩,
    ⟨some 23, .pick (.t 18) (.t 22) (.k (.c (.bool false))), some (12, false)⟩,
    ⟨some 24, .mov (.t 23), some (12, false)⟩,
    ⟨some 25, .fadd 2 (.t 4), some (24, true)⟩,
    ⟨some 26, .load1 (.t 25), some (24, true)⟩,
    ⟨some 27, .mov (.t 2), some (24, true)⟩,
    ⟨some 28, .bin .eql (.t 26) (.t 27), some (24, true)⟩,
    ⟨some 29, .pick (.t 24) (.t 28) (.k (.c (.bool false))), some (12, false)⟩,
    ⟨some 30, .pick (.t 12) (.k (.c (.bool true))) (.t 29), none⟩,
    ⟨some 6, .mov (.t 30), none⟩])
  (.ret))
def r123 : List ResV := [.tmp 6]
theorem tr123 : tr Tryz.prog Tryz.f123.ntmps (Tryz.f123.body.getD .skip) = some c123 := by kernel_rfl
theorem tre123 : trRes Tryz.prog Tryz.f123.results.toList = some r123 := by kernel_rfl
theorem en123 : Enters Tryz.prog 123 := enters_fn Tryz.func123 (by kernel_rfl) rfl
theorem go123 {w0 : World} {args : List V} {σ : H} {R : V → H → Prop} (ha : args.length = 3) (h : H.ok σ → (∀ x ∈ args, V.Sz x) → W Tryz.prog w0 σ.length (Fin r123 σ.length R) [.code c123] ⟨argEnv args, σ⟩) : DC Tryz.prog w0 123 args σ R :=
  DC.of_code (by kernel_rfl) Tryz.func123 rfl tr123 tre123 (by rw [ha]; exact by decide) en123 h
/-- ops.Left -/
def c81 : AC :=
  .seq (.reg [⟨some 2, .box (.t 0), none⟩,
    ⟨some 3, .box (.t 1), none⟩,
    ⟨some 4, .mov (.k (.c (.bool false))), none⟩])
  (.seq (.reg [⟨some 5, .loadn 3 (.t 2), none⟩,
    ⟨some 6, .loadn 3 (.t 3), none⟩,
    ⟨some 7, .call (.k (.fn 123 [])) [(.t 5), (.t 6), (.k (.c (.int .i64 1)))], none⟩,
    ⟨some 4, .mov (.t 7), none⟩])
  (.ret))
def r81 : List ResV := [.tmp 4]
theorem tr81 : tr Tryz.prog Tryz.f81.ntmps (Tryz.f81.body.getD .skip) = some c81 := by kernel_rfl
theorem tre81 : trRes Tryz.prog Tryz.f81.results.toList = some r81 := by kernel_rfl
theorem en81 : Enters Tryz.prog 81 := enters_fn Tryz.func81 (by kernel_rfl) rfl
theorem go81 {w0 : World} {args : List V} {σ : H} {R : V → H → Prop} (ha : args.length = 2) (h : H.ok σ → (∀ x ∈ args, V.Sz x) → W Tryz.prog w0 σ.length (Fin r81 σ.length R) [.code c81] ⟨argEnv args, σ⟩) : DC Tryz.prog w0 81 args σ R :=
  DC.of_code (by kernel_rfl) Tryz.func81 rfl tr81 tre81 (by rw [ha]; exact by decide) en81 h
/-- ops.Right -/
def c83 : AC :=
  .seq (.reg [⟨some 2, .box (.t 0), none⟩,
    ⟨some 3, .box (.t 1), none⟩,
    ⟨some 4, .mov (.k (.c (.bool false))), none⟩])
  (.seq (.reg [⟨some 5, .loadn 3 (.t 2), none⟩,
    ⟨some 6, .loadn 3 (.t 3), none⟩,
    ⟨some 7, .call (.k (.fn 123 [])) [(.t 5), (.t 6), (.k (.c (.int .i64 2)))], none⟩,
    ⟨some 4, .mov (.t 7), none⟩])
  (.ret))
def r83 : List ResV := [.tmp 4]
theorem tr83 : tr Tryz.prog Tryz.f83.ntmps (Tryz.f83.body.getD .skip) = some c83 := by kernel_rfl
theorem tre83 : trRes Tryz.prog Tryz.f83.results.toList = some r83 := by kernel_rfl
theorem en83 : Enters Tryz.prog 83 := enters_fn Tryz.func83 (by kernel_rfl) rfl
theorem go83 {w0 : World} {args : List V} {σ : H} {R : V → H → Prop} (ha : args.length = 2) (h : H.ok σ → (∀ x ∈ args, V.Sz x) → W Tryz.prog w0 σ.length (Fin r83 σ.length R) [.code c83] ⟨argEnv args, σ⟩) : DC Tryz.prog w0 83 args σ R :=
  DC.of_code (by kernel_rfl) Tryz.func83 rfl tr83 tre83 (by rw [ha]; exact by decide) en83 h
/-- lambentref02.Left -/
def c58 : AC :=
  .seq (.reg [⟨some 2, .box (.t 0), none⟩,
    ⟨some 3, .box (.t 1), none⟩,
    ⟨some 4, .mov (.k (.c (.bool false))), none⟩])
  (.seq (.reg [⟨some 5, .fadd 1 (.t 3), none⟩,
    ⟨some 6, .load1 (.t 5), none⟩,
    ⟨some 7, .fadd 1 (.t 2), none⟩,
    ⟨some 8, .load1 (.t 7), none⟩,
    ⟨some 9, .bin .gtr (.t 6) (.t 8), none⟩,
    ⟨some 10, .mov (.t 9), none⟩,
    ⟨some 11, .fadd 1 (.t 3), some (10, false)⟩,
    ⟨some 12, .load1 (.t 11), some (10, false)⟩,
    ⟨some 13, .fadd 1 (.t 2), some (10, false)⟩,
    ⟨some 14, .load1 (.t 13), some (10, false)⟩,
    ⟨some 15, .bin .eql (.t 12) (.t 14), some (10, false)⟩,
    ⟨some 16, .mov (.t 15), some (10, false)⟩,
    ⟨some 17, .fadd 2 (.t 2), some (16, true)⟩,
    ⟨some 18, .load1 (.t 17), some (16, true)⟩,
    ⟨some 19, .bin .eql (.t 18) (.k (.c (.int .i64 1))), some (16, true)⟩,
    ⟨some 20, .pick (.t 16) (.t 19) (.k (.c (.bool false))), some (10, false)⟩,
    ⟨some 21, .mov (.t 20), some (10, false)⟩,
    ⟨some 22, .fadd 2 (.t 3), some (21, true)⟩,
    ⟨some 23, .load1 (.t 22), some (21, true)⟩,
    ⟨some 24, .bin .eql (.t 23) (.k (.c (.int .i64 1))), some (21, true)⟩,
    ⟨some 25, .pick (.t 21) (.t 24) (.k (.c (.bool false))), some (10, false)⟩,
    ⟨some 26, .pick (.t 10) (.k (.c (.bool true))) (.t 25), none⟩,
    ⟨some 4, .mov (.t 26), none⟩])
  (.ret))
def r58 : List ResV := [.tmp 4]
theorem tr58 : tr Tryz.prog Tryz.f58.ntmps (Tryz.f58.body.getD .skip) = some c58 := by kernel_rfl
theorem tre58 : trRes Tryz.prog Tryz.f58.results.toList = some r58 := by kernel_rfl
theorem en58 : Enters Tryz.prog 58 := enters_fn Tryz.func58 (by kernel_rfl) rfl
theorem go58 {w0 : World} {args : List V} {σ : H} {R : V → H → Prop} (ha : args.length = 2) (h : H.ok σ → (∀ x ∈ args, V.Sz x) → W Tryz.prog w0 σ.length (Fin r58 σ.length R) [.code c58] ⟨argEnv args, σ⟩) : DC Tryz.prog w0 58 args σ R :=
  DC.of_code (by kernel_rfl) Tryz.func58 rfl tr58 tre58 (by rw [ha]; exact by decide) en58 h
/-- lambentref02.Right -/
def c59 : AC :=
  .seq (.reg [⟨some 2, .box (.t 0), none⟩,
    ⟨some 3, .box (.t 1), none⟩,
    ⟨some 4, .mov (.k (.c (.bool false))), none⟩])
  (.seq (.reg [⟨some 5, .fadd 1 (.t 3), none⟩,
    ⟨some 6, .load1 (.t 5), none⟩,
    ⟨some 7, .fadd 1 (.t 2), none⟩,
    ⟨some 8, .load1 (.t 7), none⟩,
    ⟨some 9, .bin .gtr (.t 6) (.t 8), none⟩,
    ⟨some 10, .mov (.t 9), none⟩,
    ⟨some 11, .fadd 1 (.t 3), some (10, false)⟩,
    ⟨some 12, .load1 (.t 11), some (10, false)⟩,
    ⟨some 13, .fadd 1 (.t 2), some (10, false)⟩,
    ⟨some 14, .load1 (.t 13), some (10, false)⟩,
    ⟨some 15, .bin .eql (.t 12) (.t 14), some (10, false)⟩,
    ⟨some 16, .mov (.t 15), some (10, false)⟩,
    ⟨some 17, .fadd 2 (.t 2), some (16, true)⟩,
    ⟨some 18, .load1 (.t 17), some (16, true)⟩,
    ⟨some 19, .bin .eql (.t 18) (.k (.c (.int .i64 2))), some (16, true)⟩,
    ⟨some 20, .pick (.t 16) (.t 19) (.k (.c (.bool false))), some (10, false)⟩,
    ⟨some 21, .mov (.t 20), some (10, false)⟩,
    ⟨some 22, .fadd 2 (.t 3), some (21, true)⟩,
    ⟨some 23, .load1 (.t 22), some (21, true)⟩,
    ⟨some 24, .bin .eql (.t 23) (.k (.c (.int .i64 2))), some (21, true)⟩,
    ⟨some 25, .pick (.t 21) (.t 24) (.k (.c (.bool false))), some (10, false)⟩,
    ⟨some 26, .pick (.t 10) (.k (.c (.bool true))) (.t 25), none⟩,
    ⟨some 4, .mov (.t 26), none⟩])
  (.ret))
def r59 : List ResV := [.tmp 4]
theorem tr59 : tr Tryz.prog Tryz.f59.ntmps (Tryz.f59.body.getD .skip) = some c59 := by kernel_rfl
theorem tre59 : trRes Tryz.prog Tryz.f59.results.toList = some r59 := by kernel_rfl
theorem en59 : Enters Tryz.prog 59 := enters_fn Tryz.func59 (by kernel_rfl) rfl
theorem go59 {w0 : World} {args : List V} {σ : H} {R : V → H → Prop} (ha : args.length = 2) (h : H.ok σ → (∀ x ∈ args, V.Sz x) → W Tryz.prog w0 σ.length (Fin r59 σ.length R) [.code c59] ⟨argEnv args, σ⟩) : DC Tryz.prog w0 59 args σ R :=
  DC.of_code (by kernel_rfl) Tryz.func59 rfl tr59 tre59 (by rw [ha]; exact by decide) en59 h
end Go.Proofs.YtpgkhkojjklakaaGreatDoor
namespace Go.Proofs.YtpgkhkojjklakaaGreatDoor
open Go.RowKit Go.Lamb
attribute [local go_sem] advO_skip advO_reg advO_seq advO_block advO_exit advO_endb advO_opsNil advO_ops advG_yes advG_no advG_none advS_some advS_none advO_cond advO_loop advO_dreg advO_ret advO_bad advO_inv advO_nil advO_zero wantedV Lamb.step ev_t ev_k put_some put_none argEnv popTo cellsAt V.cellsV V.rows V.toC toCs fillV rowsV boundV boundL binV binInt binStr eqC eqL V.isNil leaves V.leaf Ins.quiet Ins.pure List.getD_cons_zero List.getD_cons_succ List.getD_nil List.all_cons List.all_nil List.length_cons List.length_nil List.take_succ_cons List.take_zero List.drop_succ_cons List.drop_zero List.cons_append List.nil_append List.append_nil List.append_assoc List.map_cons List.map_nil List.getElem?_cons_zero List.getElem?_cons_succ List.length_append List.length_set hget0 hget hset0 hset hsets hgs0 hgs hss0 hss List.set_cons_zero List.set_cons_succ List.forall_mem_cons List.not_mem_nil false_implies implies_true Option.map_some Bool.and_true Bool.true_and Bool.not_not Bool.not_true Bool.not_false Bool.and_self Bool.or_true Bool.true_or Bool.or_false Bool.false_or Bool.and_false Bool.false_and Bool.false_eq_true beq_self_eq_true and_self and_true true_and if_true if_false Nat.zero_add Nat.add_zero Nat.le_refl Int.toNat_natCast decide_true decide_false beq_t beq_f List.length_map List.getElem?_map I S B opsC toksC OpT.v OpT.cs OpT.zero Tok.v Tok.cs Pre.v Pre.cs_eq k_mk name_mk n_mk l_mk pos_mk Pre.app applyL natCast0 natCast1 natCast2

theorem ops_Find1 (w0 : World) (o : OpT) (name : List UInt8) (σ : H) (b : Nat) (hb : σ[b]? = some (.cells [S name])) : DC Tryz.prog w0 91 [o.v, .ptr b 0] σ (Same (B (o.name == name)) σ) := by
  have hlt := (List.getElem?_eq_some_iff.1 hb).1
  have hg := fun L => hgetb (σ := σ) L hlt
  refine go91 rfl (fun hok hsz => ?_)
  ((first | refine W.advO 5000 _ _ ?_ | skip); simp only [go_sem, ↓reduceIte, Nat.reduceEqDiff, Nat.reduceAdd, Nat.reduceSub, Nat.reduceMul, Nat.reduceLeDiff, Nat.reduceBEq, reduceCtorEq, Int.reduceLT, Int.reduceLE, Int.reduceToNat, Int.reduceAdd, Int.reduceSub, Int.reduceBEq, Int.reduceBNe, c91, OpT.v, hg, hb, S])
  (refine W.ret (Fin.same hok (by simp only [resEval, r91, go_sem, ↓reduceIte, Nat.reduceEqDiff, Nat.reduceAdd, Nat.reduceSub, Nat.reduceMul, Nat.reduceLeDiff, Nat.reduceBEq, reduceCtorEq, Int.reduceLT, Int.reduceLE, Int.reduceToNat, Int.reduceAdd, Int.reduceSub, Int.reduceBEq, Int.reduceBNe]; rfl) ?_ (by first | exact .c _ | (simp only [I, S, B, opsC, toksC, Pre.v, Tok.v, OpT.v, low_c, low_void, low_any, low_csl, low_nilf, low_ptr, low_osl, low_agg, low_tup, low_fn, List.forall_mem_cons, List.not_mem_nil, false_implies, implies_true, and_self, and_true, true_and]; done)) (by first | exact ⟨[], (List.append_nil _).symm⟩ | exact ⟨_, rfl⟩)); simp only [resV])
theorem IndexFunc_op (w0 : World) (l : List OpT) (f : FuncId) (caps : List V) (p : OpT → Bool) (σ : H) (hp : ∀ o ∈ l, DC Tryz.prog w0 f (o.v :: caps) σ (Same (B (p o)) σ)) : DC Tryz.prog w0 90 [.c (opsC l), .fn f caps] σ (Same (I (idxI p l)) σ) := by
  refine go90 rfl (fun hok hsz => ?_)
  have hlen : l.length ≤ maxLen := by
    have := hsz _ (List.mem_cons_self ..)
    rw [opsC, sz_c, sz_sl] at this
    simpa using this.1
  unfold maxLen at hlen
  ((first | refine W.advO 5000 _ _ ?_ | skip); simp only [go_sem, ↓reduceIte, Nat.reduceEqDiff, Nat.reduceAdd, Nat.reduceSub, Nat.reduceMul, Nat.reduceLeDiff, Nat.reduceBEq, reduceCtorEq, Int.reduceLT, Int.reduceLE, Int.reduceToNat, Int.reduceAdd, Int.reduceSub, Int.reduceBEq, Int.reduceBNe, c90, opsC])
  refine W.loopP (fun i => i ≤ l.length ∧ UpTo p l i) (fun i => ⟨((((base.put (some 0) (.c (.sl (l.map OpT.cs)))).put (some 1) (.fn f caps)).put (some 7) (I l.length)).put (some 8) (I i)), σ⟩) (fun i => l.length - i) 0 ⟨Nat.zero_le _, upTo_zero⟩ ?_ (fun i hi => ?_)
  · (refine Lew.env ?_; (repeat' (first | exact LeE.base _ | (refine LeE.put ?_ (by first | exact V.wk.rfl _ | exact V.wk.osl _ _ | exact V.wk.csl _)))))
  · obtain ⟨hi, hinv⟩ := hi
    by_cases hlt : i < l.length
    · have h1 : ((i : Int) < (l.length : Int)) := by omega
      ((first | refine W.advO 5000 _ _ ?_ | skip); simp only [go_sem, ↓reduceIte, Nat.reduceEqDiff, Nat.reduceAdd, Nat.reduceSub, Nat.reduceMul, Nat.reduceLeDiff, Nat.reduceBEq, reduceCtorEq, Int.reduceLT, Int.reduceLE, Int.reduceToNat, Int.reduceAdd, Int.reduceSub, Int.reduceBEq, Int.reduceBNe, I, h1])
      refine W.yes rfl ?_
      have hx : l[i]? = some l[i] := List.getElem?_eq_getElem hlt
      have h0 : (0 : Int) ≤ (i : Int) := by omega
      ((first | refine W.advO 5000 _ _ ?_ | skip); simp only [go_sem, ↓reduceIte, Nat.reduceEqDiff, Nat.reduceAdd, Nat.reduceSub, Nat.reduceMul, Nat.reduceLeDiff, Nat.reduceBEq, reduceCtorEq, Int.reduceLT, Int.reduceLE, Int.reduceToNat, Int.reduceAdd, Int.reduceSub, Int.reduceBEq, Int.reduceBNe, I, h1, h0, hx, OpT.cs])
      (refine W.call1 (hp l[i] (List.getElem_mem hlt)) rfl rfl (by first | rfl | simp) ?_; refine W.advO 5000 _ _ ?_; simp only [go_sem, ↓reduceIte, Nat.reduceEqDiff, Nat.reduceAdd, Nat.reduceSub, Nat.reduceMul, Nat.reduceLeDiff, Nat.reduceBEq, reduceCtorEq, Int.reduceLT, Int.reduceLE, Int.reduceToNat, Int.reduceAdd, Int.reduceSub, Int.reduceBEq, Int.reduceBNe])
      refine W.test rfl (fun h => ?_) (fun h => ?_)
      · ((first | refine W.advO 5000 _ _ ?_ | skip); simp only [go_sem, ↓reduceIte, Nat.reduceEqDiff, Nat.reduceAdd, Nat.reduceSub, Nat.reduceMul, Nat.reduceLeDiff, Nat.reduceBEq, reduceCtorEq, Int.reduceLT, Int.reduceLE, Int.reduceToNat, Int.reduceAdd, Int.reduceSub, Int.reduceBEq, Int.reduceBNe, I])
        (refine W.ret (Fin.same hok (by simp only [resEval, r90, go_sem, ↓reduceIte, Nat.reduceEqDiff, Nat.reduceAdd, Nat.reduceSub, Nat.reduceMul, Nat.reduceLeDiff, Nat.reduceBEq, reduceCtorEq, Int.reduceLT, Int.reduceLE, Int.reduceToNat, Int.reduceAdd, Int.reduceSub, Int.reduceBEq, Int.reduceBNe]; rfl) ?_ (by first | exact .c _ | (simp only [I, S, B, opsC, toksC, Pre.v, Tok.v, OpT.v, low_c, low_void, low_any, low_csl, low_nilf, low_ptr, low_osl, low_agg, low_tup, low_fn, List.forall_mem_cons, List.not_mem_nil, false_implies, implies_true, and_self, and_true, true_and]; done)) (by first | exact ⟨[], (List.append_nil _).symm⟩ | exact ⟨_, rfl⟩)); simp only [resV])
        rw [idxI_at hinv hlt h]
      · have hw : IntKind.i64.wrap (((i : Nat) : Int) + 1) = ((i + 1 : Nat) : Int) := by rw [wrap_in] <;> omega
        ((first | refine W.advO 5000 _ _ ?_ | skip); simp only [go_sem, ↓reduceIte, Nat.reduceEqDiff, Nat.reduceAdd, Nat.reduceSub, Nat.reduceMul, Nat.reduceLeDiff, Nat.reduceBEq, reduceCtorEq, Int.reduceLT, Int.reduceLE, Int.reduceToNat, Int.reduceAdd, Int.reduceSub, Int.reduceBEq, Int.reduceBNe, I, hw])
        refine .inv ⟨i + 1, ⟨hlt, upTo_next hinv hlt h⟩, by omega, ?_⟩
        (refine Lew.env ?_; (repeat' (first | exact LeE.base _ | (refine LeE.put ?_ (by first | exact V.wk.rfl _ | exact V.wk.osl _ _ | exact V.wk.csl _)))))
    · have h1 : ¬ ((i : Int) < (l.length : Int)) := by omega
      ((first | refine W.advO 5000 _ _ ?_ | skip); simp only [go_sem, ↓reduceIte, Nat.reduceEqDiff, Nat.reduceAdd, Nat.reduceSub, Nat.reduceMul, Nat.reduceLeDiff, Nat.reduceBEq, reduceCtorEq, Int.reduceLT, Int.reduceLE, Int.reduceToNat, Int.reduceAdd, Int.reduceSub, Int.reduceBEq, Int.reduceBNe, I, h1])
      refine W.no rfl ?_
      ((first | refine W.advO 5000 _ _ ?_ | skip); simp only [go_sem, ↓reduceIte, Nat.reduceEqDiff, Nat.reduceAdd, Nat.reduceSub, Nat.reduceMul, Nat.reduceLeDiff, Nat.reduceBEq, reduceCtorEq, Int.reduceLT, Int.reduceLE, Int.reduceToNat, Int.reduceAdd, Int.reduceSub, Int.reduceBEq, Int.reduceBNe, I])
      (refine W.ret (Fin.same hok (by simp only [resEval, r90, go_sem, ↓reduceIte, Nat.reduceEqDiff, Nat.reduceAdd, Nat.reduceSub, Nat.reduceMul, Nat.reduceLeDiff, Nat.reduceBEq, reduceCtorEq, Int.reduceLT, Int.reduceLE, Int.reduceToNat, Int.reduceAdd, Int.reduceSub, Int.reduceBEq, Int.reduceBNe]; rfl) ?_ (by first | exact .c _ | (simp only [I, S, B, opsC, toksC, Pre.v, Tok.v, OpT.v, low_c, low_void, low_any, low_csl, low_nilf, low_ptr, low_osl, low_agg, low_tup, low_fn, List.forall_mem_cons, List.not_mem_nil, false_implies, implies_true, and_self, and_true, true_and]; done)) (by first | exact ⟨[], (List.append_nil _).symm⟩ | exact ⟨_, rfl⟩)); simp only [resV])
      rw [idxI_none (fun j hj => hinv j hj (by omega))]
theorem ops_Find (w0 : World) (l : List OpT) (name : List UInt8) (σ : H) : DC Tryz.prog w0 40 [.c (opsC l), S name] σ (Same (foundV (findL l name)) σ) := by
  refine go40 rfl (fun hok hsz => ?_)
  ((first | refine W.advO 5000 _ _ ?_ | skip); simp only [go_sem, ↓reduceIte, Nat.reduceEqDiff, Nat.reduceAdd, Nat.reduceSub, Nat.reduceMul, Nat.reduceLeDiff, Nat.reduceBEq, reduceCtorEq, Int.reduceLT, Int.reduceLE, Int.reduceToNat, Int.reduceAdd, Int.reduceSub, Int.reduceBEq, Int.reduceBNe, c40, opsC])
  have hc := fun n (h : idxI (fun o : OpT => o.name == name) l = n) L => (h ▸ IndexFunc_op w0 l 91 [.ptr σ.length 0] (fun o => o.name == name) (σ ++ Blk.cells [S name] :: L) (fun o _ => ops_Find1 w0 o name _ _ (hget0 σ _)) : DC _ _ _ _ _ (Same (I n) (σ ++ Blk.cells [S name] :: L)))
  rcases idxI_cases (fun o => o.name == name) l with ⟨h, h'⟩ | ⟨i, hi, h, h'⟩
  · (refine W.call1 (hc _ h _) rfl rfl (by first | rfl | simp) ?_; refine W.advO 5000 _ _ ?_; simp only [go_sem, ↓reduceIte, Nat.reduceEqDiff, Nat.reduceAdd, Nat.reduceSub, Nat.reduceMul, Nat.reduceLeDiff, Nat.reduceBEq, reduceCtorEq, Int.reduceLT, Int.reduceLE, Int.reduceToNat, Int.reduceAdd, Int.reduceSub, Int.reduceBEq, Int.reduceBNe, show ((-1 : Int) < 0) = True from by decide])
    refine W.yes rfl ?_
    ((first | refine W.advO 5000 _ _ ?_ | skip); simp only [go_sem, ↓reduceIte, Nat.reduceEqDiff, Nat.reduceAdd, Nat.reduceSub, Nat.reduceMul, Nat.reduceLeDiff, Nat.reduceBEq, reduceCtorEq, Int.reduceLT, Int.reduceLE, Int.reduceToNat, Int.reduceAdd, Int.reduceSub, Int.reduceBEq, Int.reduceBNe])
    (refine W.ret (Fin.same hok (by simp only [resEval, r40, go_sem, ↓reduceIte, Nat.reduceEqDiff, Nat.reduceAdd, Nat.reduceSub, Nat.reduceMul, Nat.reduceLeDiff, Nat.reduceBEq, reduceCtorEq, Int.reduceLT, Int.reduceLE, Int.reduceToNat, Int.reduceAdd, Int.reduceSub, Int.reduceBEq, Int.reduceBNe]; rfl) ?_ (by first | exact .c _ | (simp only [I, S, B, opsC, toksC, Pre.v, Tok.v, OpT.v, low_c, low_void, low_any, low_csl, low_nilf, low_ptr, low_osl, low_agg, low_tup, low_fn, List.forall_mem_cons, List.not_mem_nil, false_implies, implies_true, and_self, and_true, true_and, foundV, OpT.v]; done)) (by first | exact ⟨[], (List.append_nil _).symm⟩ | exact ⟨_, rfl⟩)); simp only [resV, foundV, OpT.v])
    simp only [findL, h']; rfl
  · have h1 : ¬ ((i : Int) < 0) := by omega
    have h2 : (i : Int) < (l.length : Int) := by omega
    have h0 : (0 : Int) ≤ (i : Int) := by omega
    have hx : l[i]? = some l[i] := List.getElem?_eq_getElem hi
    (refine W.call1 (hc _ h _) rfl rfl (by first | rfl | simp) ?_; refine W.advO 5000 _ _ ?_; simp only [go_sem, ↓reduceIte, Nat.reduceEqDiff, Nat.reduceAdd, Nat.reduceSub, Nat.reduceMul, Nat.reduceLeDiff, Nat.reduceBEq, reduceCtorEq, Int.reduceLT, Int.reduceLE, Int.reduceToNat, Int.reduceAdd, Int.reduceSub, Int.reduceBEq, Int.reduceBNe, h1])
    refine W.no rfl ?_
    ((first | refine W.advO 5000 _ _ ?_ | skip); simp only [go_sem, ↓reduceIte, Nat.reduceEqDiff, Nat.reduceAdd, Nat.reduceSub, Nat.reduceMul, Nat.reduceLeDiff, Nat.reduceBEq, reduceCtorEq, Int.reduceLT, Int.reduceLE, Int.reduceToNat, Int.reduceAdd, Int.reduceSub, Int.reduceBEq, Int.reduceBNe, h0, h2, hx, OpT.cs])
    (refine W.ret (Fin.same hok (by simp only [resEval, r40, go_sem, ↓reduceIte, Nat.reduceEqDiff, Nat.reduceAdd, Nat.reduceSub, Nat.reduceMul, Nat.reduceLeDiff, Nat.reduceBEq, reduceCtorEq, Int.reduceLT, Int.reduceLE, Int.reduceToNat, Int.reduceAdd, Int.reduceSub, Int.reduceBEq, Int.reduceBNe]; rfl) ?_ (by first | exact .c _ | (simp only [I, S, B, opsC, toksC, Pre.v, Tok.v, OpT.v, low_c, low_void, low_any, low_csl, low_nilf, low_ptr, low_osl, low_agg, low_tup, low_fn, List.forall_mem_cons, List.not_mem_nil, false_implies, implies_true, and_self, and_true, true_and, foundV, OpT.v]; done)) (by first | exact ⟨[], (List.append_nil _).symm⟩ | exact ⟨_, rfl⟩)); simp only [resV, foundV, OpT.v])
    simp only [findL, h']; rfl
theorem ref02_Find (w0 : World) (l : List OpT) (name : List UInt8) (σ : H) : DC Tryz.prog w0 46 [.c (opsC l), S name] σ (Same (foundV (findL l name)) σ) := by
  refine go46 rfl (fun hok hsz => ?_)
  have hlen := sz_rows (hsz _ (List.mem_cons_self ..))
  ((first | refine W.advO 5000 _ _ ?_ | skip); simp only [go_sem, ↓reduceIte, Nat.reduceEqDiff, Nat.reduceAdd, Nat.reduceSub, Nat.reduceMul, Nat.reduceLeDiff, Nat.reduceBEq, reduceCtorEq, Int.reduceLT, Int.reduceLE, Int.reduceToNat, Int.reduceAdd, Int.reduceSub, Int.reduceBEq, Int.reduceBNe, c46, opsC])
  refine W.loopP (fun i => i ≤ l.length ∧ UpTo (fun o : OpT => o.name == name) l i) (fun i => ⟨(((((base.put (some 0) (.c (.sl (l.map OpT.cs)))).put (some 1) (S name)).put (some 4) (.ptr σ.length 0)).put (some 5) (B false)).put (some 6) (I i)), σ ++ [.cells OpT.zero.v.cellsV]⟩) (fun i => l.length - i) 0 ⟨Nat.zero_le _, upTo_zero⟩ ?_ (fun i hi => ?_)
  · (refine Lew.env ?_; (repeat' (first | exact LeE.base _ | (refine LeE.put ?_ (by first | exact V.wk.rfl _ | exact V.wk.osl _ _ | exact V.wk.csl _)))))
  · obtain ⟨hi, hinv⟩ := hi
    by_cases hlt : i < l.length
    · have h1 : ((i : Int) < (l.length : Int)) := by omega
      have hx : l[i]? = some l[i] := List.getElem?_eq_getElem hlt
      ((first | refine W.advO 5000 _ _ ?_ | skip); simp only [go_sem, ↓reduceIte, Nat.reduceEqDiff, Nat.reduceAdd, Nat.reduceSub, Nat.reduceMul, Nat.reduceLeDiff, Nat.reduceBEq, reduceCtorEq, Int.reduceLT, Int.reduceLE, Int.reduceToNat, Int.reduceAdd, Int.reduceSub, Int.reduceBEq, Int.reduceBNe, h1])
      refine W.yes rfl ?_
      ((first | refine W.advO 5000 _ _ ?_ | skip); simp only [go_sem, ↓reduceIte, Nat.reduceEqDiff, Nat.reduceAdd, Nat.reduceSub, Nat.reduceMul, Nat.reduceLeDiff, Nat.reduceBEq, reduceCtorEq, Int.reduceLT, Int.reduceLE, Int.reduceToNat, Int.reduceAdd, Int.reduceSub, Int.reduceBEq, Int.reduceBNe, h1, nat0, hx, OpT.cs])
      refine W.test rfl (fun h => ?_) (fun h => ?_)
      · ((first | refine W.advO 5000 _ _ ?_ | skip); simp only [go_sem, ↓reduceIte, Nat.reduceEqDiff, Nat.reduceAdd, Nat.reduceSub, Nat.reduceMul, Nat.reduceLeDiff, Nat.reduceBEq, reduceCtorEq, Int.reduceLT, Int.reduceLE, Int.reduceToNat, Int.reduceAdd, Int.reduceSub, Int.reduceBEq, Int.reduceBNe, nat0, h1, hx, OpT.cs])
        (refine W.ret (Fin.same hok (by simp only [resEval, r46, go_sem, ↓reduceIte, Nat.reduceEqDiff, Nat.reduceAdd, Nat.reduceSub, Nat.reduceMul, Nat.reduceLeDiff, Nat.reduceBEq, reduceCtorEq, Int.reduceLT, Int.reduceLE, Int.reduceToNat, Int.reduceAdd, Int.reduceSub, Int.reduceBEq, Int.reduceBNe]; rfl) ?_ (by first | exact .c _ | (simp only [I, S, B, opsC, toksC, Pre.v, Tok.v, OpT.v, low_c, low_void, low_any, low_csl, low_nilf, low_ptr, low_osl, low_agg, low_tup, low_fn, List.forall_mem_cons, List.not_mem_nil, false_implies, implies_true, and_self, and_true, true_and, foundV, OpT.v]; done)) (by first | exact ⟨[], (List.append_nil _).symm⟩ | exact ⟨_, rfl⟩)); simp only [resV, foundV, OpT.v])
        rw [findL, find_at hinv hlt h]; rfl
      · ((first | refine W.advO 5000 _ _ ?_ | skip); simp only [go_sem, ↓reduceIte, Nat.reduceEqDiff, Nat.reduceAdd, Nat.reduceSub, Nat.reduceMul, Nat.reduceLeDiff, Nat.reduceBEq, reduceCtorEq, Int.reduceLT, Int.reduceLE, Int.reduceToNat, Int.reduceAdd, Int.reduceSub, Int.reduceBEq, Int.reduceBNe, wrap_next hlt hlen])
        refine .inv ⟨i + 1, ⟨hlt, upTo_next hinv hlt h⟩, by omega, ?_⟩
        (refine Lew.env ?_; (repeat' (first | exact LeE.base _ | (refine LeE.put ?_ (by first | exact V.wk.rfl _ | exact V.wk.osl _ _ | exact V.wk.csl _)))))
    · have h1 : ¬ ((i : Int) < (l.length : Int)) := by omega
      ((first | refine W.advO 5000 _ _ ?_ | skip); simp only [go_sem, ↓reduceIte, Nat.reduceEqDiff, Nat.reduceAdd, Nat.reduceSub, Nat.reduceMul, Nat.reduceLeDiff, Nat.reduceBEq, reduceCtorEq, Int.reduceLT, Int.reduceLE, Int.reduceToNat, Int.reduceAdd, Int.reduceSub, Int.reduceBEq, Int.reduceBNe, h1])
      refine W.no rfl ?_
      ((first | refine W.advO 5000 _ _ ?_ | skip); simp only [go_sem, ↓reduceIte, Nat.reduceEqDiff, Nat.reduceAdd, Nat.reduceSub, Nat.reduceMul, Nat.reduceLeDiff, Nat.reduceBEq, reduceCtorEq, Int.reduceLT, Int.reduceLE, Int.reduceToNat, Int.reduceAdd, Int.reduceSub, Int.reduceBEq, Int.reduceBNe])
      (refine W.ret (Fin.same hok (by simp only [resEval, r46, go_sem, ↓reduceIte, Nat.reduceEqDiff, Nat.reduceAdd, Nat.reduceSub, Nat.reduceMul, Nat.reduceLeDiff, Nat.reduceBEq, reduceCtorEq, Int.reduceLT, Int.reduceLE, Int.reduceToNat, Int.reduceAdd, Int.reduceSub, Int.reduceBEq, Int.reduceBNe]; rfl) ?_ (by first | exact .c _ | (simp only [I, S, B, opsC, toksC, Pre.v, Tok.v, OpT.v, low_c, low_void, low_any, low_csl, low_nilf, low_ptr, low_osl, low_agg, low_tup, low_fn, List.forall_mem_cons, List.not_mem_nil, false_implies, implies_true, and_self, and_true, true_and, foundV, OpT.v]; done)) (by first | exact ⟨[], (List.append_nil _).symm⟩ | exact ⟨_, rfl⟩)); simp only [resV, foundV, OpT.v])
      rw [findL, find_no hinv (by omega)]; rfl
theorem opOf_yes {l : List OpT} {t : Tok} (h : t.kind = 1 ∨ t.kind = 4) : opOf l t = findL l t.text := by rw [opOf, if_pos h]
theorem opOf_no {l : List OpT} {t : Tok} (h : ¬ (t.kind = 1 ∨ t.kind = 4)) : opOf l t = none := by rw [opOf, if_neg h]
theorem ops_Is (w0 : World) (l : List OpT) (t : Tok) (σ : H) : DC Tryz.prog w0 122 [.c (opsC l), t.v] σ (Same (foundV (opOf l t)) σ) := by
  refine go122 rfl (fun hok hsz => ?_)
  cases h1 : (t.kind == 1)
  · cases h2 : (t.kind == 4)
    · have hk : ¬ (t.kind = 1 ∨ t.kind = 4) := by
        simp only [beq_eq_false_iff_ne] at h1 h2
        rintro (h | h)
        · exact h1 h
        · exact h2 h
      ((first | refine W.advO 5000 _ _ ?_ | skip); simp only [go_sem, ↓reduceIte, Nat.reduceEqDiff, Nat.reduceAdd, Nat.reduceSub, Nat.reduceMul, Nat.reduceLeDiff, Nat.reduceBEq, reduceCtorEq, Int.reduceLT, Int.reduceLE, Int.reduceToNat, Int.reduceAdd, Int.reduceSub, Int.reduceBEq, Int.reduceBNe, c122, h1])
      refine W.no rfl ?_
      ((first | refine W.advO 5000 _ _ ?_ | skip); simp only [go_sem, ↓reduceIte, Nat.reduceEqDiff, Nat.reduceAdd, Nat.reduceSub, Nat.reduceMul, Nat.reduceLeDiff, Nat.reduceBEq, reduceCtorEq, Int.reduceLT, Int.reduceLE, Int.reduceToNat, Int.reduceAdd, Int.reduceSub, Int.reduceBEq, Int.reduceBNe, h2])
      refine W.no rfl ?_
      ((first | refine W.advO 5000 _ _ ?_ | skip); simp only [go_sem, ↓reduceIte, Nat.reduceEqDiff, Nat.reduceAdd, Nat.reduceSub, Nat.reduceMul, Nat.reduceLeDiff, Nat.reduceBEq, reduceCtorEq, Int.reduceLT, Int.reduceLE, Int.reduceToNat, Int.reduceAdd, Int.reduceSub, Int.reduceBEq, Int.reduceBNe])
      (refine W.ret (Fin.same hok (by simp only [resEval, r122, go_sem, ↓reduceIte, Nat.reduceEqDiff, Nat.reduceAdd, Nat.reduceSub, Nat.reduceMul, Nat.reduceLeDiff, Nat.reduceBEq, reduceCtorEq, Int.reduceLT, Int.reduceLE, Int.reduceToNat, Int.reduceAdd, Int.reduceSub, Int.reduceBEq, Int.reduceBNe]; rfl) ?_ (by first | exact .c _ | (simp only [I, S, B, opsC, toksC, Pre.v, Tok.v, OpT.v, low_c, low_void, low_any, low_csl, low_nilf, low_ptr, low_osl, low_agg, low_tup, low_fn, List.forall_mem_cons, List.not_mem_nil, false_implies, implies_true, and_self, and_true, true_and, foundV, OpT.v]; done)) (by first | exact ⟨[], (List.append_nil _).symm⟩ | exact ⟨_, rfl⟩)); simp only [resV, foundV, OpT.v])
      rw [opOf_no hk]; rfl
    · have hk : t.kind = 1 ∨ t.kind = 4 := .inr (by simpa using h2)
      ((first | refine W.advO 5000 _ _ ?_ | skip); simp only [go_sem, ↓reduceIte, Nat.reduceEqDiff, Nat.reduceAdd, Nat.reduceSub, Nat.reduceMul, Nat.reduceLeDiff, Nat.reduceBEq, reduceCtorEq, Int.reduceLT, Int.reduceLE, Int.reduceToNat, Int.reduceAdd, Int.reduceSub, Int.reduceBEq, Int.reduceBNe, c122, h1])
      refine W.no rfl ?_
      ((first | refine W.advO 5000 _ _ ?_ | skip); simp only [go_sem, ↓reduceIte, Nat.reduceEqDiff, Nat.reduceAdd, Nat.reduceSub, Nat.reduceMul, Nat.reduceLeDiff, Nat.reduceBEq, reduceCtorEq, Int.reduceLT, Int.reduceLE, Int.reduceToNat, Int.reduceAdd, Int.reduceSub, Int.reduceBEq, Int.reduceBNe, h2])
      refine W.yes rfl ?_
      ((first | refine W.advO 5000 _ _ ?_ | skip); simp only [go_sem, ↓reduceIte, Nat.reduceEqDiff, Nat.reduceAdd, Nat.reduceSub, Nat.reduceMul, Nat.reduceLeDiff, Nat.reduceBEq, reduceCtorEq, Int.reduceLT, Int.reduceLE, Int.reduceToNat, Int.reduceAdd, Int.reduceSub, Int.reduceBEq, Int.reduceBNe])
      (refine W.call1 (ops_Find w0 l t.text _) rfl rfl (by first | rfl | simp) ?_; refine W.advO 5000 _ _ ?_; simp only [go_sem, ↓reduceIte, Nat.reduceEqDiff, Nat.reduceAdd, Nat.reduceSub, Nat.reduceMul, Nat.reduceLeDiff, Nat.reduceBEq, reduceCtorEq, Int.reduceLT, Int.reduceLE, Int.reduceToNat, Int.reduceAdd, Int.reduceSub, Int.reduceBEq, Int.reduceBNe, foundV])
      (refine W.ret (Fin.same hok (by simp only [resEval, r122, go_sem, ↓reduceIte, Nat.reduceEqDiff, Nat.reduceAdd, Nat.reduceSub, Nat.reduceMul, Nat.reduceLeDiff, Nat.reduceBEq, reduceCtorEq, Int.reduceLT, Int.reduceLE, Int.reduceToNat, Int.reduceAdd, Int.reduceSub, Int.reduceBEq, Int.reduceBNe]; rfl) ?_ (by first | exact .c _ | (simp only [I, S, B, opsC, toksC, Pre.v, Tok.v, OpT.v, low_c, low_void, low_any, low_csl, low_nilf, low_ptr, low_osl, low_agg, low_tup, low_fn, List.forall_mem_cons, List.not_mem_nil, false_implies, implies_true, and_self, and_true, true_and, foundV, OpT.v]; done)) (by first | exact ⟨[], (List.append_nil _).symm⟩ | exact ⟨_, rfl⟩)); simp only [resV, foundV, OpT.v])
      rw [opOf_yes hk]
  · have hk : t.kind = 1 ∨ t.kind = 4 := .inl (by simpa using h1)
    ((first | refine W.advO 5000 _ _ ?_ | skip); simp only [go_sem, ↓reduceIte, Nat.reduceEqDiff, Nat.reduceAdd, Nat.reduceSub, Nat.reduceMul, Nat.reduceLeDiff, Nat.reduceBEq, reduceCtorEq, Int.reduceLT, Int.reduceLE, Int.reduceToNat, Int.reduceAdd, Int.reduceSub, Int.reduceBEq, Int.reduceBNe, c122, h1])
    refine W.yes rfl ?_
    ((first | refine W.advO 5000 _ _ ?_ | skip); simp only [go_sem, ↓reduceIte, Nat.reduceEqDiff, Nat.reduceAdd, Nat.reduceSub, Nat.reduceMul, Nat.reduceLeDiff, Nat.reduceBEq, reduceCtorEq, Int.reduceLT, Int.reduceLE, Int.reduceToNat, Int.reduceAdd, Int.reduceSub, Int.reduceBEq, Int.reduceBNe])
    refine W.yes rfl ?_
    ((first | refine W.advO 5000 _ _ ?_ | skip); simp only [go_sem, ↓reduceIte, Nat.reduceEqDiff, Nat.reduceAdd, Nat.reduceSub, Nat.reduceMul, Nat.reduceLeDiff, Nat.reduceBEq, reduceCtorEq, Int.reduceLT, Int.reduceLE, Int.reduceToNat, Int.reduceAdd, Int.reduceSub, Int.reduceBEq, Int.reduceBNe])
    (refine W.call1 (ops_Find w0 l t.text _) rfl rfl (by first | rfl | simp) ?_; refine W.advO 5000 _ _ ?_; simp only [go_sem, ↓reduceIte, Nat.reduceEqDiff, Nat.reduceAdd, Nat.reduceSub, Nat.reduceMul, Nat.reduceLeDiff, Nat.reduceBEq, reduceCtorEq, Int.reduceLT, Int.reduceLE, Int.reduceToNat, Int.reduceAdd, Int.reduceSub, Int.reduceBEq, Int.reduceBNe, foundV])
    (refine W.ret (Fin.same hok (by simp only [resEval, r122, go_sem, ↓reduceIte, Nat.reduceEqDiff, Nat.reduceAdd, Nat.reduceSub, Nat.reduceMul, Nat.reduceLeDiff, Nat.reduceBEq, reduceCtorEq, Int.reduceLT, Int.reduceLE, Int.reduceToNat, Int.reduceAdd, Int.reduceSub, Int.reduceBEq, Int.reduceBNe]; rfl) ?_ (by first | exact .c _ | (simp only [I, S, B, opsC, toksC, Pre.v, Tok.v, OpT.v, low_c, low_void, low_any, low_csl, low_nilf, low_ptr, low_osl, low_agg, low_tup, low_fn, List.forall_mem_cons, List.not_mem_nil, false_implies, implies_true, and_self, and_true, true_and, foundV, OpT.v]; done)) (by first | exact ⟨[], (List.append_nil _).symm⟩ | exact ⟨_, rfl⟩)); simp only [resV, foundV, OpT.v])
    rw [opOf_yes hk]
theorem ref02_Is (w0 : World) (l : List OpT) (t : Tok) (σ : H) : DC Tryz.prog w0 87 [.c (opsC l), t.v] σ (Same (foundV (opOf l t)) σ) := by
  refine go87 rfl (fun hok hsz => ?_)
  by_cases hk : t.kind = 1 ∨ t.kind = 4
  · have ht : ((t.kind != 1) = false) ∨ ((t.kind != 1) = true ∧ (t.kind != 4) = false) := by
      rcases hk with h | h <;> rw [h] <;> decide
    rcases ht with ht | ⟨ht, ht'⟩
    · ((first | refine W.advO 5000 _ _ ?_ | skip); simp only [go_sem, ↓reduceIte, Nat.reduceEqDiff, Nat.reduceAdd, Nat.reduceSub, Nat.reduceMul, Nat.reduceLeDiff, Nat.reduceBEq, reduceCtorEq, Int.reduceLT, Int.reduceLE, Int.reduceToNat, Int.reduceAdd, Int.reduceSub, Int.reduceBEq, Int.reduceBNe, c87, ht])
      refine W.no rfl ?_
      ((first | refine W.advO 5000 _ _ ?_ | skip); simp only [go_sem, ↓reduceIte, Nat.reduceEqDiff, Nat.reduceAdd, Nat.reduceSub, Nat.reduceMul, Nat.reduceLeDiff, Nat.reduceBEq, reduceCtorEq, Int.reduceLT, Int.reduceLE, Int.reduceToNat, Int.reduceAdd, Int.reduceSub, Int.reduceBEq, Int.reduceBNe])
      (refine W.call1 (ref02_Find w0 l t.text _) rfl rfl (by first | rfl | simp) ?_; refine W.advO 5000 _ _ ?_; simp only [go_sem, ↓reduceIte, Nat.reduceEqDiff, Nat.reduceAdd, Nat.reduceSub, Nat.reduceMul, Nat.reduceLeDiff, Nat.reduceBEq, reduceCtorEq, Int.reduceLT, Int.reduceLE, Int.reduceToNat, Int.reduceAdd, Int.reduceSub, Int.reduceBEq, Int.reduceBNe, foundV])
      (refine W.ret (Fin.same hok (by simp only [resEval, r87, go_sem, ↓reduceIte, Nat.reduceEqDiff, Nat.reduceAdd, Nat.reduceSub, Nat.reduceMul, Nat.reduceLeDiff, Nat.reduceBEq, reduceCtorEq, Int.reduceLT, Int.reduceLE, Int.reduceToNat, Int.reduceAdd, Int.reduceSub, Int.reduceBEq, Int.reduceBNe]; rfl) ?_ (by first | exact .c _ | (simp only [I, S, B, opsC, toksC, Pre.v, Tok.v, OpT.v, low_c, low_void, low_any, low_csl, low_nilf, low_ptr, low_osl, low_agg, low_tup, low_fn, List.forall_mem_cons, List.not_mem_nil, false_implies, implies_true, and_self, and_true, true_and, foundV, OpT.v]; done)) (by first | exact ⟨[], (List.append_nil _).symm⟩ | exact ⟨_, rfl⟩)); simp only [resV, foundV, OpT.v])
      rw [opOf_yes hk]
    · ((first | refine W.advO 5000 _ _ ?_ | skip); simp only [go_sem, ↓reduceIte, Nat.reduceEqDiff, Nat.reduceAdd, Nat.reduceSub, Nat.reduceMul, Nat.reduceLeDiff, Nat.reduceBEq, reduceCtorEq, Int.reduceLT, Int.reduceLE, Int.reduceToNat, Int.reduceAdd, Int.reduceSub, Int.reduceBEq, Int.reduceBNe, c87, ht, ht'])
      refine W.no rfl ?_
      ((first | refine W.advO 5000 _ _ ?_ | skip); simp only [go_sem, ↓reduceIte, Nat.reduceEqDiff, Nat.reduceAdd, Nat.reduceSub, Nat.reduceMul, Nat.reduceLeDiff, Nat.reduceBEq, reduceCtorEq, Int.reduceLT, Int.reduceLE, Int.reduceToNat, Int.reduceAdd, Int.reduceSub, Int.reduceBEq, Int.reduceBNe])
      (refine W.call1 (ref02_Find w0 l t.text _) rfl rfl (by first | rfl | simp) ?_; refine W.advO 5000 _ _ ?_; simp only [go_sem, ↓reduceIte, Nat.reduceEqDiff, Nat.reduceAdd, Nat.reduceSub, Nat.reduceMul, Nat.reduceLeDiff, Nat.reduceBEq, reduceCtorEq, Int.reduceLT, Int.reduceLE, Int.reduceToNat, Int.reduceAdd, Int.reduceSub, Int.reduceBEq, Int.reduceBNe, foundV])
      (refine W.ret (Fin.same hok (by simp only [resEval, r87, go_sem, ↓reduceIte, Nat.reduceEqDiff, Nat.reduceAdd, Nat.reduceSub, Nat.reduceMul, Nat.reduceLeDiff, Nat.reduceBEq, reduceCtorEq, Int.reduceLT, Int.reduceLE, Int.reduceToNat, Int.reduceAdd, Int.reduceSub, Int.reduceBEq, Int.reduceBNe]; rfl) ?_ (by first | exact .c _ | (simp only [I, S, B, opsC, toksC, Pre.v, Tok.v, OpT.v, low_c, low_void, low_any, low_csl, low_nilf, low_ptr, low_osl, low_agg, low_tup, low_fn, List.forall_mem_cons, List.not_mem_nil, false_implies, implies_true, and_self, and_true, true_and, foundV, OpT.v]; done)) (by first | exact ⟨[], (List.append_nil _).symm⟩ | exact ⟨_, rfl⟩)); simp only [resV, foundV, OpT.v])
      rw [opOf_yes hk]
  · have ht : (t.kind != 1) = true := by simp only [bne_iff_ne]; exact fun h => hk (.inl h)
    have ht' : (t.kind != 4) = true := by simp only [bne_iff_ne]; exact fun h => hk (.inr h)
    ((first | refine W.advO 5000 _ _ ?_ | skip); simp only [go_sem, ↓reduceIte, Nat.reduceEqDiff, Nat.reduceAdd, Nat.reduceSub, Nat.reduceMul, Nat.reduceLeDiff, Nat.reduceBEq, reduceCtorEq, Int.reduceLT, Int.reduceLE, Int.reduceToNat, Int.reduceAdd, Int.reduceSub, Int.reduceBEq, Int.reduceBNe, c87, ht, ht'])
    refine W.yes rfl ?_
    ((first | refine W.advO 5000 _ _ ?_ | skip); simp only [go_sem, ↓reduceIte, Nat.reduceEqDiff, Nat.reduceAdd, Nat.reduceSub, Nat.reduceMul, Nat.reduceLeDiff, Nat.reduceBEq, reduceCtorEq, Int.reduceLT, Int.reduceLE, Int.reduceToNat, Int.reduceAdd, Int.reduceSub, Int.reduceBEq, Int.reduceBNe])
    (refine W.ret (Fin.same hok (by simp only [resEval, r87, go_sem, ↓reduceIte, Nat.reduceEqDiff, Nat.reduceAdd, Nat.reduceSub, Nat.reduceMul, Nat.reduceLeDiff, Nat.reduceBEq, reduceCtorEq, Int.reduceLT, Int.reduceLE, Int.reduceToNat, Int.reduceAdd, Int.reduceSub, Int.reduceBEq, Int.reduceBNe]; rfl) ?_ (by first | exact .c _ | (simp only [I, S, B, opsC, toksC, Pre.v, Tok.v, OpT.v, low_c, low_void, low_any, low_csl, low_nilf, low_ptr, low_osl, low_agg, low_tup, low_fn, List.forall_mem_cons, List.not_mem_nil, false_implies, implies_true, and_self, and_true, true_and, foundV, OpT.v]; done)) (by first | exact ⟨[], (List.append_nil _).symm⟩ | exact ⟨_, rfl⟩)); simp only [resV, foundV, OpT.v])
    rw [opOf_no hk]; rfl
theorem ops_beside (w0 : World) (a b : OpT) (fix : Int) (σ : H) : DC Tryz.prog w0 123 [a.v, b.v, I fix] σ (Same (B (besideL a b fix)) σ) := by
  refine go123 rfl (fun hok hsz => ?_)
  cases h1 : decide (b.prec > a.prec) <;> cases h2 : (b.prec == a.prec) <;> cases h3 : (a.fix == fix) <;> cases h4 : (b.fix == fix)
  all_goals
    ((first | refine W.advO 5000 _ _ ?_ | skip); simp only [go_sem, ↓reduceIte, Nat.reduceEqDiff, Nat.reduceAdd, Nat.reduceSub, Nat.reduceMul, Nat.reduceLeDiff, Nat.reduceBEq, reduceCtorEq, Int.reduceLT, Int.reduceLE, Int.reduceToNat, Int.reduceAdd, Int.reduceSub, Int.reduceBEq, Int.reduceBNe, c123, h1, h2, h3, h4])
    (refine W.ret (Fin.same hok (by simp only [resEval, r123, go_sem, ↓reduceIte, Nat.reduceEqDiff, Nat.reduceAdd, Nat.reduceSub, Nat.reduceMul, Nat.reduceLeDiff, Nat.reduceBEq, reduceCtorEq, Int.reduceLT, Int.reduceLE, Int.reduceToNat, Int.reduceAdd, Int.reduceSub, Int.reduceBEq, Int.reduceBNe]; rfl) ?_ (by first | exact .c _ | (simp only [I, S, B, opsC, toksC, Pre.v, Tok.v, OpT.v, low_c, low_void, low_any, low_csl, low_nilf, low_ptr, low_osl, low_agg, low_tup, low_fn, List.forall_mem_cons, List.not_mem_nil, false_implies, implies_true, and_self, and_true, true_and]; done)) (by first | exact ⟨[], (List.append_nil _).symm⟩ | exact ⟨_, rfl⟩)); simp only [resV])
    simp_all [besideL]
theorem ops_Left (w0 : World) (a b : OpT) (σ : H) : DC Tryz.prog w0 81 [a.v, b.v] σ (Same (B (besideL a b 1)) σ) := by
  refine go81 rfl (fun hok hsz => ?_)
  ((first | refine W.advO 5000 _ _ ?_ | skip); simp only [go_sem, ↓reduceIte, Nat.reduceEqDiff, Nat.reduceAdd, Nat.reduceSub, Nat.reduceMul, Nat.reduceLeDiff, Nat.reduceBEq, reduceCtorEq, Int.reduceLT, Int.reduceLE, Int.reduceToNat, Int.reduceAdd, Int.reduceSub, Int.reduceBEq, Int.reduceBNe, c81])
  (refine W.call1 (ops_beside w0 a b 1 _) rfl rfl (by first | rfl | simp) ?_; refine W.advO 5000 _ _ ?_; simp only [go_sem, ↓reduceIte, Nat.reduceEqDiff, Nat.reduceAdd, Nat.reduceSub, Nat.reduceMul, Nat.reduceLeDiff, Nat.reduceBEq, reduceCtorEq, Int.reduceLT, Int.reduceLE, Int.reduceToNat, Int.reduceAdd, Int.reduceSub, Int.reduceBEq, Int.reduceBNe])
  (refine W.ret (Fin.same hok (by simp only [resEval, r81, go_sem, ↓reduceIte, Nat.reduceEqDiff, Nat.reduceAdd, Nat.reduceSub, Nat.reduceMul, Nat.reduceLeDiff, Nat.reduceBEq, reduceCtorEq, Int.reduceLT, Int.reduceLE, Int.reduceToNat, Int.reduceAdd, Int.reduceSub, Int.reduceBEq, Int.reduceBNe]; rfl) ?_ (by first | exact .c _ | (simp only [I, S, B, opsC, toksC, Pre.v, Tok.v, OpT.v, low_c, low_void, low_any, low_csl, low_nilf, low_ptr, low_osl, low_agg, low_tup, low_fn, List.forall_mem_cons, List.not_mem_nil, false_implies, implies_true, and_self, and_true, true_and]; done)) (by first | exact ⟨[], (List.append_nil _).symm⟩ | exact ⟨_, rfl⟩)); simp only [resV])
theorem ops_Right (w0 : World) (a b : OpT) (σ : H) : DC Tryz.prog w0 83 [a.v, b.v] σ (Same (B (besideL a b 2)) σ) := by
  refine go83 rfl (fun hok hsz => ?_)
  ((first | refine W.advO 5000 _ _ ?_ | skip); simp only [go_sem, ↓reduceIte, Nat.reduceEqDiff, Nat.reduceAdd, Nat.reduceSub, Nat.reduceMul, Nat.reduceLeDiff, Nat.reduceBEq, reduceCtorEq, Int.reduceLT, Int.reduceLE, Int.reduceToNat, Int.reduceAdd, Int.reduceSub, Int.reduceBEq, Int.reduceBNe, c83])
  (refine W.call1 (ops_beside w0 a b 2 _) rfl rfl (by first | rfl | simp) ?_; refine W.advO 5000 _ _ ?_; simp only [go_sem, ↓reduceIte, Nat.reduceEqDiff, Nat.reduceAdd, Nat.reduceSub, Nat.reduceMul, Nat.reduceLeDiff, Nat.reduceBEq, reduceCtorEq, Int.reduceLT, Int.reduceLE, Int.reduceToNat, Int.reduceAdd, Int.reduceSub, Int.reduceBEq, Int.reduceBNe])
  (refine W.ret (Fin.same hok (by simp only [resEval, r83, go_sem, ↓reduceIte, Nat.reduceEqDiff, Nat.reduceAdd, Nat.reduceSub, Nat.reduceMul, Nat.reduceLeDiff, Nat.reduceBEq, reduceCtorEq, Int.reduceLT, Int.reduceLE, Int.reduceToNat, Int.reduceAdd, Int.reduceSub, Int.reduceBEq, Int.reduceBNe]; rfl) ?_ (by first | exact .c _ | (simp only [I, S, B, opsC, toksC, Pre.v, Tok.v, OpT.v, low_c, low_void, low_any, low_csl, low_nilf, low_ptr, low_osl, low_agg, low_tup, low_fn, List.forall_mem_cons, List.not_mem_nil, false_implies, implies_true, and_self, and_true, true_and]; done)) (by first | exact ⟨[], (List.append_nil _).symm⟩ | exact ⟨_, rfl⟩)); simp only [resV])
theorem ref02_Left (w0 : World) (a b : OpT) (σ : H) : DC Tryz.prog w0 58 [a.v, b.v] σ (Same (B (besideL a b 1)) σ) := by
  refine go58 rfl (fun hok hsz => ?_)
  cases h1 : decide (b.prec > a.prec) <;> cases h2 : (b.prec == a.prec) <;> cases h3 : (a.fix == 1) <;> cases h4 : (b.fix == 1)
  all_goals
    ((first | refine W.advO 5000 _ _ ?_ | skip); simp only [go_sem, ↓reduceIte, Nat.reduceEqDiff, Nat.reduceAdd, Nat.reduceSub, Nat.reduceMul, Nat.reduceLeDiff, Nat.reduceBEq, reduceCtorEq, Int.reduceLT, Int.reduceLE, Int.reduceToNat, Int.reduceAdd, Int.reduceSub, Int.reduceBEq, Int.reduceBNe, c58, h1, h2, h3, h4])
    (refine W.ret (Fin.same hok (by simp only [resEval, r58, go_sem, ↓reduceIte, Nat.reduceEqDiff, Nat.reduceAdd, Nat.reduceSub, Nat.reduceMul, Nat.reduceLeDiff, Nat.reduceBEq, reduceCtorEq, Int.reduceLT, Int.reduceLE, Int.reduceToNat, Int.reduceAdd, Int.reduceSub, Int.reduceBEq, Int.reduceBNe]; rfl) ?_ (by first | exact .c _ | (simp only [I, S, B, opsC, toksC, Pre.v, Tok.v, OpT.v, low_c, low_void, low_any, low_csl, low_nilf, low_ptr, low_osl, low_agg, low_tup, low_fn, List.forall_mem_cons, List.not_mem_nil, false_implies, implies_true, and_self, and_true, true_and]; done)) (by first | exact ⟨[], (List.append_nil _).symm⟩ | exact ⟨_, rfl⟩)); simp only [resV])
    simp_all [besideL]
theorem ref02_Right (w0 : World) (a b : OpT) (σ : H) : DC Tryz.prog w0 59 [a.v, b.v] σ (Same (B (besideL a b 2)) σ) := by
  refine go59 rfl (fun hok hsz => ?_)
  cases h1 : decide (b.prec > a.prec) <;> cases h2 : (b.prec == a.prec) <;> cases h3 : (a.fix == 2) <;> cases h4 : (b.fix == 2)
  all_goals
    ((first | refine W.advO 5000 _ _ ?_ | skip); simp only [go_sem, ↓reduceIte, Nat.reduceEqDiff, Nat.reduceAdd, Nat.reduceSub, Nat.reduceMul, Nat.reduceLeDiff, Nat.reduceBEq, reduceCtorEq, Int.reduceLT, Int.reduceLE, Int.reduceToNat, Int.reduceAdd, Int.reduceSub, Int.reduceBEq, Int.reduceBNe, c59, h1, h2, h3, h4])
    (refine W.ret (Fin.same hok (by simp only [resEval, r59, go_sem, ↓reduceIte, Nat.reduceEqDiff, Nat.reduceAdd, Nat.reduceSub, Nat.reduceMul, Nat.reduceLeDiff, Nat.reduceBEq, reduceCtorEq, Int.reduceLT, Int.reduceLE, Int.reduceToNat, Int.reduceAdd, Int.reduceSub, Int.reduceBEq, Int.reduceBNe]; rfl) ?_ (by first | exact .c _ | (simp only [I, S, B, opsC, toksC, Pre.v, Tok.v, OpT.v, low_c, low_void, low_any, low_csl, low_nilf, low_ptr, low_osl, low_agg, low_tup, low_fn, List.forall_mem_cons, List.not_mem_nil, false_implies, implies_true, and_self, and_true, true_and]; done)) (by first | exact ⟨[], (List.append_nil _).symm⟩ | exact ⟨_, rfl⟩)); simp only [resV])
    simp_all [besideL]
end Go.Proofs.YtpgkhkojjklakaaGreatDoor
namespace Go.Proofs.YtpgkhkojjklakaaGreatDoor
open Go.RowKit Go.Lamb
attribute [local go_sem] advO_skip advO_reg advO_seq advO_block advO_exit advO_endb advO_opsNil advO_ops advG_yes advG_no advG_none advS_some advS_none advO_cond advO_loop advO_dreg advO_ret advO_bad advO_inv advO_nil advO_zero wantedV Lamb.step ev_t ev_k put_some put_none argEnv popTo cellsAt V.cellsV V.rows V.toC toCs fillV rowsV boundV boundL binV binInt binStr eqC eqL V.isNil leaves V.leaf Ins.quiet Ins.pure List.getD_cons_zero List.getD_cons_succ List.getD_nil List.all_cons List.all_nil List.length_cons List.length_nil List.take_succ_cons List.take_zero List.drop_succ_cons List.drop_zero List.cons_append List.nil_append List.append_nil List.append_assoc List.map_cons List.map_nil List.getElem?_cons_zero List.getElem?_cons_succ List.length_append List.length_set hget0 hget hset0 hset hsets hgs0 hgs hss0 hss List.set_cons_zero List.set_cons_succ List.forall_mem_cons List.not_mem_nil false_implies implies_true Option.map_some Bool.and_true Bool.true_and Bool.not_not Bool.not_true Bool.not_false Bool.and_self Bool.or_true Bool.true_or Bool.or_false Bool.false_or Bool.and_false Bool.false_and Bool.false_eq_true beq_self_eq_true and_self and_true true_and if_true if_false Nat.zero_add Nat.add_zero Nat.le_refl Int.toNat_natCast decide_true decide_false beq_t beq_f List.length_map List.getElem?_map I S B opsC toksC OpT.v OpT.cs OpT.zero Tok.v Tok.cs Pre.v Pre.cs_eq k_mk name_mk n_mk l_mk pos_mk Pre.app applyL natCast0 natCast1 natCast2

theorem sz_row_len {α : Type} {f : α → List C} {l : List α} {x : V} {args : List V} (h : ∀ y ∈ args, V.Sz y) (hx : x ∈ args) (e : x = .c (.sl (l.map f))) : l.length ≤ 9223372036854775807 := by
  subst e
  exact sz_rows (h _ hx)
theorem sz_text {s : List UInt8} {args : List V} (h : ∀ y ∈ args, V.Sz y) (hx : S s ∈ args) : s.length ≤ maxLen := by
  have := h _ hx
  rwa [S, sz_c, sz_str] at this
/-- A contract over worlds of what looks at a text and tells a bool. -/
theorem DC.of_text {w0 : World} {f : FuncId} {s : List UInt8} {b : Bool} {σ : H} (hen : Enters Tryz.prog f) (h : ∀ w, s.length ≤ maxLen → Calls Tryz.prog f #[.string (bs s)] w (Ret (.bool b) w)) : DC Tryz.prog w0 f [S s] σ (Same (B b) σ) := by
  refine DC.of_calls hen fun κ w vs hrep hfit => ?_
  obtain ⟨v, ys, rfl, hv, hfit⟩ := hfit.cons_inv
  have := hfit.nil_inv
  subst this
  cases hv with
  | c hv =>
    cases hv with
    | str _ hl =>
      refine ⟨.bool b, .c (.bool b), (h w hl).mono ?_⟩
      rintro e w' ⟨rfl, rfl⟩
      exact ⟨rfl, Below.refl _ _⟩
theorem lex_IsNameD (w0 : World) (s : List UInt8) (σ : H) : DC Tryz.prog w0 41 [S s] σ (Same (B (isNameB s)) σ) :=
  DC.of_text (enters_fn Tryz.func41 (by kernel_rfl) rfl) fun w hs => lex_IsName (bs s) w hs
theorem lex_IsVarD (w0 : World) (s : List UInt8) (σ : H) : DC Tryz.prog w0 42 [S s] σ (Same (B (isVarB s)) σ) :=
  DC.of_text (enters_fn Tryz.func42 (by kernel_rfl) rfl) fun w hs => lex_IsVar (bs s) w hs
theorem lex_IsSymD (w0 : World) (s : List UInt8) (σ : H) : DC Tryz.prog w0 43 [S s] σ (Same (B (isSymB s)) σ) :=
  DC.of_text (enters_fn Tryz.func43 (by kernel_rfl) rfl) fun w hs => lex_IsSym (bs s) w hs
theorem DC.of_byte {w0 : World} {f : FuncId} {c : UInt8} {b : Bool} {σ : H} (hen : Enters Tryz.prog f) (h : ∀ w, Calls Tryz.prog f #[.int .u8 c.toNat] w (Ret (.bool b) w)) : DC Tryz.prog w0 f [.c (.int .u8 c.toNat)] σ (Same (B b) σ) := by
  refine DC.of_calls hen fun κ w vs hrep hfit => ?_
  obtain ⟨v, ys, rfl, hv, hfit⟩ := hfit.cons_inv
  have := hfit.nil_inv
  subst this
  cases hv with
  | c hv =>
    cases hv with
    | int _ =>
      refine ⟨.bool b, .c (.bool b), (h w).mono ?_⟩
      rintro e w' ⟨rfl, rfl⟩
      exact ⟨rfl, Below.refl _ _⟩
theorem ref01_signD (w0 : World) (c : UInt8) (σ : H) : DC Tryz.prog w0 97 [.c (.int .u8 c.toNat)] σ (Same (B (signB c)) σ) :=
  DC.of_byte (enters_fn Tryz.func97 (by kernel_rfl) rfl) fun w => ref_sign c w
theorem fits_no {s : List UInt8} (h : 32 < s.length) : fitsB s = false := by simp [fitsB]; omega
theorem ref01_IsNameD (w0 : World) (s : List UInt8) (σ : H) : DC Tryz.prog w0 47 [S s] σ (Same (B (isNameB s)) σ) := by
  by_cases hs : s.length ≤ 1000000
  · exact DC.of_text (enters_fn Tryz.func47 (by kernel_rfl) rfl) fun w _ => ref_IsName s w (by omega)
  · refine go47 rfl (fun hok hsz => ?_)
    have h1 : ¬ ((s.length : Int) < 1) := by omega
    have h2 : ((s.length : Int) > 32) := by omega
    ((first | refine W.advO 5000 _ _ ?_ | skip); simp only [go_sem, ↓reduceIte, Nat.reduceEqDiff, Nat.reduceAdd, Nat.reduceSub, Nat.reduceMul, Nat.reduceLeDiff, Nat.reduceBEq, reduceCtorEq, Int.reduceLT, Int.reduceLE, Int.reduceToNat, Int.reduceAdd, Int.reduceSub, Int.reduceBEq, Int.reduceBNe, c47, h1, h2])
    refine W.yes rfl ?_
    ((first | refine W.advO 5000 _ _ ?_ | skip); simp only [go_sem, ↓reduceIte, Nat.reduceEqDiff, Nat.reduceAdd, Nat.reduceSub, Nat.reduceMul, Nat.reduceLeDiff, Nat.reduceBEq, reduceCtorEq, Int.reduceLT, Int.reduceLE, Int.reduceToNat, Int.reduceAdd, Int.reduceSub, Int.reduceBEq, Int.reduceBNe])
    (refine W.ret (Fin.sameW (hok) (by (first | rfl | exact List.length_set .. | simp)) (by simp only [resEval, r47, go_sem, ↓reduceIte, Nat.reduceEqDiff, Nat.reduceAdd, Nat.reduceSub, Nat.reduceMul, Nat.reduceLeDiff, Nat.reduceBEq, reduceCtorEq, Int.reduceLT, Int.reduceLE, Int.reduceToNat, Int.reduceAdd, Int.reduceSub, Int.reduceBEq, Int.reduceBNe]; rfl) ?_ (by (first | exact .c _ | (simp only [I, S, B, opsC, toksC, Pre.v, Tok.v, OpT.v, low_c, low_void, low_any, low_csl, low_nilf, low_ptr, low_osl, low_agg, low_tup, low_fn, List.forall_mem_cons, List.not_mem_nil, false_implies, implies_true, and_self, and_true, true_and]; done))) (by (first | rfl | exact (List.append_nil _).symm))); simp only [resV]; try exact V.wk.rfl _)
    rw [isNameB, fits_no (by omega)]; exact .rfl _
theorem ref01_IsVarD (w0 : World) (s : List UInt8) (σ : H) : DC Tryz.prog w0 49 [S s] σ (Same (B (isVarB s)) σ) := by
  by_cases hs : s.length ≤ 1000000
  · exact DC.of_text (enters_fn Tryz.func49 (by kernel_rfl) rfl) fun w _ => ref_IsVar s w (by omega)
  · refine go49 rfl (fun hok hsz => ?_)
    have h1 : ¬ ((s.length : Int) < 1) := by omega
    have h2 : ((s.length : Int) > 32) := by omega
    ((first | refine W.advO 5000 _ _ ?_ | skip); simp only [go_sem, ↓reduceIte, Nat.reduceEqDiff, Nat.reduceAdd, Nat.reduceSub, Nat.reduceMul, Nat.reduceLeDiff, Nat.reduceBEq, reduceCtorEq, Int.reduceLT, Int.reduceLE, Int.reduceToNat, Int.reduceAdd, Int.reduceSub, Int.reduceBEq, Int.reduceBNe, c49, h1, h2])
    refine W.yes rfl ?_
    ((first | refine W.advO 5000 _ _ ?_ | skip); simp only [go_sem, ↓reduceIte, Nat.reduceEqDiff, Nat.reduceAdd, Nat.reduceSub, Nat.reduceMul, Nat.reduceLeDiff, Nat.reduceBEq, reduceCtorEq, Int.reduceLT, Int.reduceLE, Int.reduceToNat, Int.reduceAdd, Int.reduceSub, Int.reduceBEq, Int.reduceBNe])
    (refine W.ret (Fin.sameW (hok) (by (first | rfl | exact List.length_set .. | simp)) (by simp only [resEval, r49, go_sem, ↓reduceIte, Nat.reduceEqDiff, Nat.reduceAdd, Nat.reduceSub, Nat.reduceMul, Nat.reduceLeDiff, Nat.reduceBEq, reduceCtorEq, Int.reduceLT, Int.reduceLE, Int.reduceToNat, Int.reduceAdd, Int.reduceSub, Int.reduceBEq, Int.reduceBNe]; rfl) ?_ (by (first | exact .c _ | (simp only [I, S, B, opsC, toksC, Pre.v, Tok.v, OpT.v, low_c, low_void, low_any, low_csl, low_nilf, low_ptr, low_osl, low_agg, low_tup, low_fn, List.forall_mem_cons, List.not_mem_nil, false_implies, implies_true, and_self, and_true, true_and]; done))) (by (first | rfl | exact (List.append_nil _).symm))); simp only [resV]; try exact V.wk.rfl _)
    rw [isVarB, fits_no (by omega)]; exact .rfl _
theorem ref01_IsSymD (w0 : World) (s : List UInt8) (σ : H) : DC Tryz.prog w0 48 [S s] σ (Same (B (isSymB s)) σ) := by
  by_cases hs : s.length ≤ 1000000
  · exact DC.of_text (enters_fn Tryz.func48 (by kernel_rfl) rfl) fun w _ => ref_IsSym s w (by omega)
  · refine go48 rfl (fun hok hsz => ?_)
    have hlen : s.length ≤ 9223372036854775807 := by have := sz_text hsz (List.mem_cons_self ..); unfold maxLen at this; exact this
    have hne : ∀ c : UInt8, (s == [c]) = false := fun c => by
      rw [beq_eq_false_iff_ne]; intro e; rw [e] at hs; simp at hs
    have hF : isSymB s = false := by rw [isSymB, fits_no (by omega)]; rfl
    ((first | refine W.advO 5000 _ _ ?_ | skip); simp only [go_sem, ↓reduceIte, Nat.reduceEqDiff, Nat.reduceAdd, Nat.reduceSub, Nat.reduceMul, Nat.reduceLeDiff, Nat.reduceBEq, reduceCtorEq, Int.reduceLT, Int.reduceLE, Int.reduceToNat, Int.reduceAdd, Int.reduceSub, Int.reduceBEq, Int.reduceBNe, c48, hne])
    refine W.no rfl ?_
    ((first | refine W.advO 5000 _ _ ?_ | skip); simp only [go_sem, ↓reduceIte, Nat.reduceEqDiff, Nat.reduceAdd, Nat.reduceSub, Nat.reduceMul, Nat.reduceLeDiff, Nat.reduceBEq, reduceCtorEq, Int.reduceLT, Int.reduceLE, Int.reduceToNat, Int.reduceAdd, Int.reduceSub, Int.reduceBEq, Int.reduceBNe])
    refine W.loopP (fun i => i ≤ s.length) (fun i => ⟨((base.put (some 0) (S s)).put (some 3) (I (i : Nat))), σ⟩) (fun i => s.length - i) 0 (Nat.zero_le _) ?_ (fun i hi => ?_)
    · (refine Lew.env ?_; (repeat' (first | exact LeE.base _ | (refine LeE.put ?_ (by first | exact V.wk.rfl _ | exact V.wk.osl _ _ | exact V.wk.csl _)))))
    · by_cases hlt : i < s.length
      · have h1 : ((i : Int) < (s.length : Int)) := by omega
        have hx : s[i]? = some s[i] := List.getElem?_eq_getElem hlt
        have hw := wrap_next hlt hlen
        ((first | refine W.advO 5000 _ _ ?_ | skip); simp only [go_sem, ↓reduceIte, Nat.reduceEqDiff, Nat.reduceAdd, Nat.reduceSub, Nat.reduceMul, Nat.reduceLeDiff, Nat.reduceBEq, reduceCtorEq, Int.reduceLT, Int.reduceLE, Int.reduceToNat, Int.reduceAdd, Int.reduceSub, Int.reduceBEq, Int.reduceBNe, h1])
        refine W.yes rfl ?_
        ((first | refine W.advO 5000 _ _ ?_ | skip); simp only [go_sem, ↓reduceIte, Nat.reduceEqDiff, Nat.reduceAdd, Nat.reduceSub, Nat.reduceMul, Nat.reduceLeDiff, Nat.reduceBEq, reduceCtorEq, Int.reduceLT, Int.reduceLE, Int.reduceToNat, Int.reduceAdd, Int.reduceSub, Int.reduceBEq, Int.reduceBNe, h1, nat0, hx])
        (refine W.call1 (ref01_signD w0 s[i] _) rfl rfl (by first | rfl | simp) ?_; refine W.advO 5000 _ _ ?_; simp only [go_sem, ↓reduceIte, Nat.reduceEqDiff, Nat.reduceAdd, Nat.reduceSub, Nat.reduceMul, Nat.reduceLeDiff, Nat.reduceBEq, reduceCtorEq, Int.reduceLT, Int.reduceLE, Int.reduceToNat, Int.reduceAdd, Int.reduceSub, Int.reduceBEq, Int.reduceBNe])
        refine W.testn rfl (fun h => ?_) (fun h => ?_)
        · ((first | refine W.advO 5000 _ _ ?_ | skip); simp only [go_sem, ↓reduceIte, Nat.reduceEqDiff, Nat.reduceAdd, Nat.reduceSub, Nat.reduceMul, Nat.reduceLeDiff, Nat.reduceBEq, reduceCtorEq, Int.reduceLT, Int.reduceLE, Int.reduceToNat, Int.reduceAdd, Int.reduceSub, Int.reduceBEq, Int.reduceBNe, hw])
          refine .inv ⟨i + 1, hlt, by omega, ?_⟩
          (refine Lew.env ?_; (repeat' (first | exact LeE.base _ | (refine LeE.put ?_ (by first | exact V.wk.rfl _ | exact V.wk.osl _ _ | exact V.wk.csl _)))))
        · ((first | refine W.advO 5000 _ _ ?_ | skip); simp only [go_sem, ↓reduceIte, Nat.reduceEqDiff, Nat.reduceAdd, Nat.reduceSub, Nat.reduceMul, Nat.reduceLeDiff, Nat.reduceBEq, reduceCtorEq, Int.reduceLT, Int.reduceLE, Int.reduceToNat, Int.reduceAdd, Int.reduceSub, Int.reduceBEq, Int.reduceBNe])
          (refine W.ret (Fin.sameW (hok) (by (first | rfl | exact List.length_set .. | simp)) (by simp only [resEval, r48, go_sem, ↓reduceIte, Nat.reduceEqDiff, Nat.reduceAdd, Nat.reduceSub, Nat.reduceMul, Nat.reduceLeDiff, Nat.reduceBEq, reduceCtorEq, Int.reduceLT, Int.reduceLE, Int.reduceToNat, Int.reduceAdd, Int.reduceSub, Int.reduceBEq, Int.reduceBNe]; rfl) ?_ (by (first | exact .c _ | (simp only [I, S, B, opsC, toksC, Pre.v, Tok.v, OpT.v, low_c, low_void, low_any, low_csl, low_nilf, low_ptr, low_osl, low_agg, low_tup, low_fn, List.forall_mem_cons, List.not_mem_nil, false_implies, implies_true, and_self, and_true, true_and]; done))) (by (first | rfl | exact (List.append_nil _).symm))); simp only [resV]; try exact V.wk.rfl _)
          rw [hF]; exact .rfl _
      · have h1 : ¬ ((i : Int) < (s.length : Int)) := by omega
        have h2 : ((s.length : Int) ≥ 1) := by omega
        have h3 : ¬ ((s.length : Int) ≤ 32) := by omega
        ((first | refine W.advO 5000 _ _ ?_ | skip); simp only [go_sem, ↓reduceIte, Nat.reduceEqDiff, Nat.reduceAdd, Nat.reduceSub, Nat.reduceMul, Nat.reduceLeDiff, Nat.reduceBEq, reduceCtorEq, Int.reduceLT, Int.reduceLE, Int.reduceToNat, Int.reduceAdd, Int.reduceSub, Int.reduceBEq, Int.reduceBNe, h1])
        refine W.no rfl ?_
        ((first | refine W.advO 5000 _ _ ?_ | skip); simp only [go_sem, ↓reduceIte, Nat.reduceEqDiff, Nat.reduceAdd, Nat.reduceSub, Nat.reduceMul, Nat.reduceLeDiff, Nat.reduceBEq, reduceCtorEq, Int.reduceLT, Int.reduceLE, Int.reduceToNat, Int.reduceAdd, Int.reduceSub, Int.reduceBEq, Int.reduceBNe, h2, h3])
        (refine W.ret (Fin.sameW (hok) (by (first | rfl | exact List.length_set .. | simp)) (by simp only [resEval, r48, go_sem, ↓reduceIte, Nat.reduceEqDiff, Nat.reduceAdd, Nat.reduceSub, Nat.reduceMul, Nat.reduceLeDiff, Nat.reduceBEq, reduceCtorEq, Int.reduceLT, Int.reduceLE, Int.reduceToNat, Int.reduceAdd, Int.reduceSub, Int.reduceBEq, Int.reduceBNe]; rfl) ?_ (by (first | exact .c _ | (simp only [I, S, B, opsC, toksC, Pre.v, Tok.v, OpT.v, low_c, low_void, low_any, low_csl, low_nilf, low_ptr, low_osl, low_agg, low_tup, low_fn, List.forall_mem_cons, List.not_mem_nil, false_implies, implies_true, and_self, and_true, true_and]; done))) (by (first | rfl | exact (List.append_nil _).symm))); simp only [resV]; try exact V.wk.rfl _)
        rw [hF]; exact .rfl _
end Go.Proofs.YtpgkhkojjklakaaGreatDoor
namespace Go.Proofs.YtpgkhkojjklakaaGreatDoor
open Go.RowKit Go.Lamb
attribute [local go_sem] advO_skip advO_reg advO_seq advO_block advO_exit advO_endb advO_opsNil advO_ops advG_yes advG_no advG_none advS_some advS_none advO_cond advO_loop advO_dreg advO_ret advO_bad advO_inv advO_nil advO_zero wantedV Lamb.step ev_t ev_k put_some put_none argEnv popTo cellsAt V.cellsV V.rows V.toC toCs fillV rowsV boundV boundL binV binInt binStr eqC eqL V.isNil leaves V.leaf Ins.quiet Ins.pure List.getD_cons_zero List.getD_cons_succ List.getD_nil List.all_cons List.all_nil List.length_cons List.length_nil List.take_succ_cons List.take_zero List.drop_succ_cons List.drop_zero List.cons_append List.nil_append List.append_nil List.append_assoc List.map_cons List.map_nil List.getElem?_cons_zero List.getElem?_cons_succ List.length_append List.length_set hget0 hget hset0 hset hsets hgs0 hgs hss0 hss List.set_cons_zero List.set_cons_succ List.forall_mem_cons List.not_mem_nil false_implies implies_true Option.map_some Bool.and_true Bool.true_and Bool.not_not Bool.not_true Bool.not_false Bool.and_self Bool.or_true Bool.true_or Bool.or_false Bool.false_or Bool.and_false Bool.false_and Bool.false_eq_true beq_self_eq_true and_self and_true true_and if_true if_false Nat.zero_add Nat.add_zero Nat.le_refl Int.toNat_natCast decide_true decide_false beq_t beq_f List.length_map List.getElem?_map I S B opsC toksC OpT.v OpT.cs OpT.zero Tok.v Tok.cs Pre.v Pre.cs_eq k_mk name_mk n_mk l_mk pos_mk Pre.app applyL natCast0 natCast1 natCast2

theorem IndexFunc_pre (w0 : World) (l : List Pre) (f : FuncId) (caps : List V) (p : Pre → Bool) (σ : H) (hp : ∀ o ∈ l, DC Tryz.prog w0 f (o.v :: caps) σ (Same (B (p o)) σ)) : DC Tryz.prog w0 94 [.c (.sl (l.map Pre.cs)), .fn f caps] σ (Same (I (idxI p l)) σ) := by
  refine go94 rfl (fun hok hsz => ?_)
  have hlen := sz_row_len hsz (List.mem_cons_self ..) rfl
  ((first | refine W.advO 5000 _ _ ?_ | skip); simp only [go_sem, ↓reduceIte, Nat.reduceEqDiff, Nat.reduceAdd, Nat.reduceSub, Nat.reduceMul, Nat.reduceLeDiff, Nat.reduceBEq, reduceCtorEq, Int.reduceLT, Int.reduceLE, Int.reduceToNat, Int.reduceAdd, Int.reduceSub, Int.reduceBEq, Int.reduceBNe, c94])
  refine W.loopP (fun i => i ≤ l.length ∧ UpTo p l i) (fun i => ⟨((((base.put (some 0) (.c (.sl (l.map Pre.cs)))).put (some 1) (.fn f caps)).put (some 7) (I l.length)).put (some 8) (I i)), σ⟩) (fun i => l.length - i) 0 ⟨Nat.zero_le _, upTo_zero⟩ ?_ (fun i hi => ?_)
  · (refine Lew.env ?_; (repeat' (first | exact LeE.base _ | (refine LeE.put ?_ (by first | exact V.wk.rfl _ | exact V.wk.osl _ _ | exact V.wk.csl _)))))
  · obtain ⟨hi, hinv⟩ := hi
    by_cases hlt : i < l.length
    · have h1 : ((i : Int) < (l.length : Int)) := by omega
      have hx : l[i]? = some l[i] := List.getElem?_eq_getElem hlt
      ((first | refine W.advO 5000 _ _ ?_ | skip); simp only [go_sem, ↓reduceIte, Nat.reduceEqDiff, Nat.reduceAdd, Nat.reduceSub, Nat.reduceMul, Nat.reduceLeDiff, Nat.reduceBEq, reduceCtorEq, Int.reduceLT, Int.reduceLE, Int.reduceToNat, Int.reduceAdd, Int.reduceSub, Int.reduceBEq, Int.reduceBNe, h1])
      refine W.yes rfl ?_
      ((first | refine W.advO 5000 _ _ ?_ | skip); simp only [go_sem, ↓reduceIte, Nat.reduceEqDiff, Nat.reduceAdd, Nat.reduceSub, Nat.reduceMul, Nat.reduceLeDiff, Nat.reduceBEq, reduceCtorEq, Int.reduceLT, Int.reduceLE, Int.reduceToNat, Int.reduceAdd, Int.reduceSub, Int.reduceBEq, Int.reduceBNe, h1, nat0, hx])
      (refine W.call1 (hp l[i] (List.getElem_mem hlt)) rfl rfl (by first | rfl | simp) ?_; refine W.advO 5000 _ _ ?_; simp only [go_sem, ↓reduceIte, Nat.reduceEqDiff, Nat.reduceAdd, Nat.reduceSub, Nat.reduceMul, Nat.reduceLeDiff, Nat.reduceBEq, reduceCtorEq, Int.reduceLT, Int.reduceLE, Int.reduceToNat, Int.reduceAdd, Int.reduceSub, Int.reduceBEq, Int.reduceBNe])
      refine W.test rfl (fun h => ?_) (fun h => ?_)
      · ((first | refine W.advO 5000 _ _ ?_ | skip); simp only [go_sem, ↓reduceIte, Nat.reduceEqDiff, Nat.reduceAdd, Nat.reduceSub, Nat.reduceMul, Nat.reduceLeDiff, Nat.reduceBEq, reduceCtorEq, Int.reduceLT, Int.reduceLE, Int.reduceToNat, Int.reduceAdd, Int.reduceSub, Int.reduceBEq, Int.reduceBNe])
        (refine W.ret (Fin.same hok (by simp only [resEval, r94, go_sem, ↓reduceIte, Nat.reduceEqDiff, Nat.reduceAdd, Nat.reduceSub, Nat.reduceMul, Nat.reduceLeDiff, Nat.reduceBEq, reduceCtorEq, Int.reduceLT, Int.reduceLE, Int.reduceToNat, Int.reduceAdd, Int.reduceSub, Int.reduceBEq, Int.reduceBNe]; rfl) ?_ (by first | exact .c _ | (simp only [I, S, B, opsC, toksC, Pre.v, Tok.v, OpT.v, low_c, low_void, low_any, low_csl, low_nilf, low_ptr, low_osl, low_agg, low_tup, low_fn, List.forall_mem_cons, List.not_mem_nil, false_implies, implies_true, and_self, and_true, true_and]; done)) (by first | exact ⟨[], (List.append_nil _).symm⟩ | exact ⟨_, rfl⟩)); simp only [resV])
        rw [idxI_at hinv hlt h]
      · have hw := wrap_next hlt hlen
        ((first | refine W.advO 5000 _ _ ?_ | skip); simp only [go_sem, ↓reduceIte, Nat.reduceEqDiff, Nat.reduceAdd, Nat.reduceSub, Nat.reduceMul, Nat.reduceLeDiff, Nat.reduceBEq, reduceCtorEq, Int.reduceLT, Int.reduceLE, Int.reduceToNat, Int.reduceAdd, Int.reduceSub, Int.reduceBEq, Int.reduceBNe, hw])
        refine .inv ⟨i + 1, ⟨hlt, upTo_next hinv hlt h⟩, by omega, ?_⟩
        (refine Lew.env ?_; (repeat' (first | exact LeE.base _ | (refine LeE.put ?_ (by first | exact V.wk.rfl _ | exact V.wk.osl _ _ | exact V.wk.csl _)))))
    · have h1 : ¬ ((i : Int) < (l.length : Int)) := by omega
      ((first | refine W.advO 5000 _ _ ?_ | skip); simp only [go_sem, ↓reduceIte, Nat.reduceEqDiff, Nat.reduceAdd, Nat.reduceSub, Nat.reduceMul, Nat.reduceLeDiff, Nat.reduceBEq, reduceCtorEq, Int.reduceLT, Int.reduceLE, Int.reduceToNat, Int.reduceAdd, Int.reduceSub, Int.reduceBEq, Int.reduceBNe, h1])
      refine W.no rfl ?_
      ((first | refine W.advO 5000 _ _ ?_ | skip); simp only [go_sem, ↓reduceIte, Nat.reduceEqDiff, Nat.reduceAdd, Nat.reduceSub, Nat.reduceMul, Nat.reduceLeDiff, Nat.reduceBEq, reduceCtorEq, Int.reduceLT, Int.reduceLE, Int.reduceToNat, Int.reduceAdd, Int.reduceSub, Int.reduceBEq, Int.reduceBNe])
      (refine W.ret (Fin.same hok (by simp only [resEval, r94, go_sem, ↓reduceIte, Nat.reduceEqDiff, Nat.reduceAdd, Nat.reduceSub, Nat.reduceMul, Nat.reduceLeDiff, Nat.reduceBEq, reduceCtorEq, Int.reduceLT, Int.reduceLE, Int.reduceToNat, Int.reduceAdd, Int.reduceSub, Int.reduceBEq, Int.reduceBNe]; rfl) ?_ (by first | exact .c _ | (simp only [I, S, B, opsC, toksC, Pre.v, Tok.v, OpT.v, low_c, low_void, low_any, low_csl, low_nilf, low_ptr, low_osl, low_agg, low_tup, low_fn, List.forall_mem_cons, List.not_mem_nil, false_implies, implies_true, and_self, and_true, true_and]; done)) (by first | exact ⟨[], (List.append_nil _).symm⟩ | exact ⟨_, rfl⟩)); simp only [resV])
      rw [idxI_none (fun j hj => hinv j hj (by omega))]
theorem idxI_geq {α : Type} (p : α → Bool) (l : List α) : decide (idxI p l ≥ 0) = l.any p := by
  rcases idxI_cases p l with ⟨h, h'⟩ | ⟨i, hi, h, h'⟩
  · rw [h]
    rw [idxI_none_iff] at h
    have : l.any p = false := by simpa using h
    rw [this]; decide
  · rw [h]
    have : l.any p = true := by
      rw [List.any_eq_true]
      rw [List.find?_eq_some_iff_getElem] at h'
      exact ⟨l[i], List.getElem_mem hi, h'.1⟩
    rw [this]; simp
theorem ContainsFunc_pre (w0 : World) (l : List Pre) (f : FuncId) (caps : List V) (p : Pre → Bool) (σ : H) (hp : ∀ o ∈ l, DC Tryz.prog w0 f (o.v :: caps) σ (Same (B (p o)) σ)) : DC Tryz.prog w0 44 [.c (.sl (l.map Pre.cs)), .fn f caps] σ (Same (B (l.any p)) σ) := by
  refine go44 rfl (fun hok hsz => ?_)
  ((first | refine W.advO 5000 _ _ ?_ | skip); simp only [go_sem, ↓reduceIte, Nat.reduceEqDiff, Nat.reduceAdd, Nat.reduceSub, Nat.reduceMul, Nat.reduceLeDiff, Nat.reduceBEq, reduceCtorEq, Int.reduceLT, Int.reduceLE, Int.reduceToNat, Int.reduceAdd, Int.reduceSub, Int.reduceBEq, Int.reduceBNe, c44])
  (refine W.call1 (IndexFunc_pre w0 l f caps p σ hp) rfl rfl (by first | rfl | simp) ?_; refine W.advO 5000 _ _ ?_; simp only [go_sem, ↓reduceIte, Nat.reduceEqDiff, Nat.reduceAdd, Nat.reduceSub, Nat.reduceMul, Nat.reduceLeDiff, Nat.reduceBEq, reduceCtorEq, Int.reduceLT, Int.reduceLE, Int.reduceToNat, Int.reduceAdd, Int.reduceSub, Int.reduceBEq, Int.reduceBNe])
  (refine W.ret (Fin.sameW (hok) (by (first | rfl | exact List.length_set .. | simp)) (by simp only [resEval, r44, go_sem, ↓reduceIte, Nat.reduceEqDiff, Nat.reduceAdd, Nat.reduceSub, Nat.reduceMul, Nat.reduceLeDiff, Nat.reduceBEq, reduceCtorEq, Int.reduceLT, Int.reduceLE, Int.reduceToNat, Int.reduceAdd, Int.reduceSub, Int.reduceBEq, Int.reduceBNe]; rfl) ?_ (by (first | exact .c _ | (simp only [I, S, B, opsC, toksC, Pre.v, Tok.v, OpT.v, low_c, low_void, low_any, low_csl, low_nilf, low_ptr, low_osl, low_agg, low_tup, low_fn, List.forall_mem_cons, List.not_mem_nil, false_implies, implies_true, and_self, and_true, true_and]; done))) (by (first | rfl | exact (List.append_nil _).symm))); simp only [resV]; (first | exact V.wk.rfl _ | (refine wk_bool ?_; clear hsz hok; rw [idxI_geq] <;> ((try simp only [beq_iff_eq, beq_eq_false_iff_ne, ne_eq, decide_eq_true_eq, decide_eq_false_iff_not] at *); first | (exfalso; omega) | (simp [*]; done) | (simp [*]; omega) | (simp [*])))))
theorem EqualFunc_pre (w0 : World) (l r : List Pre) (f : FuncId) (p : Pre → Pre → Bool) (hp : ∀ x ∈ l, ∀ y σ, DC Tryz.prog w0 f [x.v, Pre.v y] σ (Same (B (p x y)) σ)) (σ : H) : DC Tryz.prog w0 50 [.c (.sl (l.map Pre.cs)), .c (.sl (r.map Pre.cs)), .fn f []] σ (Same (B (zipAll p l r)) σ) := by
  refine go50 rfl (fun hok hsz => ?_)
  have hlen := sz_row_len hsz (List.mem_cons_self ..) rfl
  by_cases hlr : l.length = r.length
  · have hb : ((l.length : Int) != (r.length : Int)) = false := by simp [hlr]
    ((first | refine W.advO 5000 _ _ ?_ | skip); simp only [go_sem, ↓reduceIte, Nat.reduceEqDiff, Nat.reduceAdd, Nat.reduceSub, Nat.reduceMul, Nat.reduceLeDiff, Nat.reduceBEq, reduceCtorEq, Int.reduceLT, Int.reduceLE, Int.reduceToNat, Int.reduceAdd, Int.reduceSub, Int.reduceBEq, Int.reduceBNe, c50, hb])
    refine W.no rfl ?_
    ((first | refine W.advO 5000 _ _ ?_ | skip); simp only [go_sem, ↓reduceIte, Nat.reduceEqDiff, Nat.reduceAdd, Nat.reduceSub, Nat.reduceMul, Nat.reduceLeDiff, Nat.reduceBEq, reduceCtorEq, Int.reduceLT, Int.reduceLE, Int.reduceToNat, Int.reduceAdd, Int.reduceSub, Int.reduceBEq, Int.reduceBNe])
    refine W.loopP (fun i => i ≤ l.length ∧ ∀ j (hj : j < l.length) (hj' : j < r.length), j < i → p l[j] r[j] = true) (fun i => ⟨(((((base.put (some 1) (.c (.sl (r.map Pre.cs)))).put (some 2) (.fn f [])).put (some 15) (.c (.sl (l.map Pre.cs)))).put (some 16) (I l.length)).put (some 17) (I i)), σ⟩) (fun i => l.length - i) 0 ⟨Nat.zero_le _, fun _ _ _ h => absurd h (by omega)⟩ ?_ (fun i hi => ?_)
    · (refine Lew.env ?_; (repeat' (first | exact LeE.base _ | (refine LeE.put ?_ (by first | exact V.wk.rfl _ | exact V.wk.osl _ _ | exact V.wk.csl _)))))
    · obtain ⟨hi, hinv⟩ := hi
      by_cases hlt : i < l.length
      · have h1 : ((i : Int) < (l.length : Int)) := by omega
        have h2 : ((i : Int) < (r.length : Int)) := by omega
        have hltr : i < r.length := by omega
        have hx : l[i]? = some l[i] := List.getElem?_eq_getElem hlt
        have hy : r[i]? = some r[i] := List.getElem?_eq_getElem hltr
        ((first | refine W.advO 5000 _ _ ?_ | skip); simp only [go_sem, ↓reduceIte, Nat.reduceEqDiff, Nat.reduceAdd, Nat.reduceSub, Nat.reduceMul, Nat.reduceLeDiff, Nat.reduceBEq, reduceCtorEq, Int.reduceLT, Int.reduceLE, Int.reduceToNat, Int.reduceAdd, Int.reduceSub, Int.reduceBEq, Int.reduceBNe, h1])
        refine W.yes rfl ?_
        ((first | refine W.advO 5000 _ _ ?_ | skip); simp only [go_sem, ↓reduceIte, Nat.reduceEqDiff, Nat.reduceAdd, Nat.reduceSub, Nat.reduceMul, Nat.reduceLeDiff, Nat.reduceBEq, reduceCtorEq, Int.reduceLT, Int.reduceLE, Int.reduceToNat, Int.reduceAdd, Int.reduceSub, Int.reduceBEq, Int.reduceBNe, h1, h2, nat0, hx, hy])
        (refine W.call1 (hp l[i] (List.getElem_mem hlt) r[i] _) rfl rfl (by first | rfl | simp) ?_; refine W.advO 5000 _ _ ?_; simp only [go_sem, ↓reduceIte, Nat.reduceEqDiff, Nat.reduceAdd, Nat.reduceSub, Nat.reduceMul, Nat.reduceLeDiff, Nat.reduceBEq, reduceCtorEq, Int.reduceLT, Int.reduceLE, Int.reduceToNat, Int.reduceAdd, Int.reduceSub, Int.reduceBEq, Int.reduceBNe])
        refine W.test rfl (fun h => ?_) (fun h => ?_)
        · ((first | refine W.advO 5000 _ _ ?_ | skip); simp only [go_sem, ↓reduceIte, Nat.reduceEqDiff, Nat.reduceAdd, Nat.reduceSub, Nat.reduceMul, Nat.reduceLeDiff, Nat.reduceBEq, reduceCtorEq, Int.reduceLT, Int.reduceLE, Int.reduceToNat, Int.reduceAdd, Int.reduceSub, Int.reduceBEq, Int.reduceBNe])
          (refine W.ret (Fin.sameW (hok) (by (first | rfl | exact List.length_set .. | simp)) (by simp only [resEval, r50, go_sem, ↓reduceIte, Nat.reduceEqDiff, Nat.reduceAdd, Nat.reduceSub, Nat.reduceMul, Nat.reduceLeDiff, Nat.reduceBEq, reduceCtorEq, Int.reduceLT, Int.reduceLE, Int.reduceToNat, Int.reduceAdd, Int.reduceSub, Int.reduceBEq, Int.reduceBNe]; rfl) ?_ (by (first | exact .c _ | (simp only [I, S, B, opsC, toksC, Pre.v, Tok.v, OpT.v, low_c, low_void, low_any, low_csl, low_nilf, low_ptr, low_osl, low_agg, low_tup, low_fn, List.forall_mem_cons, List.not_mem_nil, false_implies, implies_true, and_self, and_true, true_and]; done))) (by (first | rfl | exact (List.append_nil _).symm))); simp only [resV]; try exact V.wk.rfl _)
          rw [zipAll_no hlt hltr (by simpa using h)]
          exact .rfl _
        · have hw := wrap_next hlt hlen
          ((first | refine W.advO 5000 _ _ ?_ | skip); simp only [go_sem, ↓reduceIte, Nat.reduceEqDiff, Nat.reduceAdd, Nat.reduceSub, Nat.reduceMul, Nat.reduceLeDiff, Nat.reduceBEq, reduceCtorEq, Int.reduceLT, Int.reduceLE, Int.reduceToNat, Int.reduceAdd, Int.reduceSub, Int.reduceBEq, Int.reduceBNe, hw])
          refine .inv ⟨i + 1, ⟨hlt, fun j hj hj' hji => ?_⟩, by omega, ?_⟩
          · rcases Nat.lt_succ_iff_lt_or_eq.1 hji with h' | h'
            · exact hinv j hj hj' h'
            · subst h'; simpa using h
          · (refine Lew.drop ?_ (Nat.le_refl _) (hok) ?_; (repeat' (first | exact LeE.base _ | (refine LeE.put ?_ (by first | exact V.wk.rfl _ | exact V.wk.osl _ _ | exact V.wk.csl _)))); (repeat' (first | exact LowE.base _ | (refine LowE.put ?_ (by first | exact .c _ | (simp only [I, S, B, opsC, toksC, Pre.v, Tok.v, OpT.v, low_c, low_void, low_any, low_csl, low_nilf, low_ptr, low_osl, low_agg, low_tup, low_fn, List.forall_mem_cons, List.not_mem_nil, false_implies, implies_true, and_self, and_true, true_and]; done) | exact V.low_fn_nil _ _)))))
      · have h1 : ¬ ((i : Int) < (l.length : Int)) := by omega
        ((first | refine W.advO 5000 _ _ ?_ | skip); simp only [go_sem, ↓reduceIte, Nat.reduceEqDiff, Nat.reduceAdd, Nat.reduceSub, Nat.reduceMul, Nat.reduceLeDiff, Nat.reduceBEq, reduceCtorEq, Int.reduceLT, Int.reduceLE, Int.reduceToNat, Int.reduceAdd, Int.reduceSub, Int.reduceBEq, Int.reduceBNe, h1])
        refine W.no rfl ?_
        ((first | refine W.advO 5000 _ _ ?_ | skip); simp only [go_sem, ↓reduceIte, Nat.reduceEqDiff, Nat.reduceAdd, Nat.reduceSub, Nat.reduceMul, Nat.reduceLeDiff, Nat.reduceBEq, reduceCtorEq, Int.reduceLT, Int.reduceLE, Int.reduceToNat, Int.reduceAdd, Int.reduceSub, Int.reduceBEq, Int.reduceBNe])
        (refine W.ret (Fin.sameW (hok) (by (first | rfl | exact List.length_set .. | simp)) (by simp only [resEval, r50, go_sem, ↓reduceIte, Nat.reduceEqDiff, Nat.reduceAdd, Nat.reduceSub, Nat.reduceMul, Nat.reduceLeDiff, Nat.reduceBEq, reduceCtorEq, Int.reduceLT, Int.reduceLE, Int.reduceToNat, Int.reduceAdd, Int.reduceSub, Int.reduceBEq, Int.reduceBNe]; rfl) ?_ (by (first | exact .c _ | (simp only [I, S, B, opsC, toksC, Pre.v, Tok.v, OpT.v, low_c, low_void, low_any, low_csl, low_nilf, low_ptr, low_osl, low_agg, low_tup, low_fn, List.forall_mem_cons, List.not_mem_nil, false_implies, implies_true, and_self, and_true, true_and]; done))) (by (first | rfl | exact (List.append_nil _).symm))); simp only [resV]; try exact V.wk.rfl _)
        rw [zipAll_yes hlr (fun j hj hj' => hinv j hj hj' (by omega))]
        exact .rfl _
  · have hb : ((l.length : Int) != (r.length : Int)) = true := bne_iff_ne.2 (by omega)
    ((first | refine W.advO 5000 _ _ ?_ | skip); simp only [go_sem, ↓reduceIte, Nat.reduceEqDiff, Nat.reduceAdd, Nat.reduceSub, Nat.reduceMul, Nat.reduceLeDiff, Nat.reduceBEq, reduceCtorEq, Int.reduceLT, Int.reduceLE, Int.reduceToNat, Int.reduceAdd, Int.reduceSub, Int.reduceBEq, Int.reduceBNe, c50, hb])
    refine W.yes rfl ?_
    ((first | refine W.advO 5000 _ _ ?_ | skip); simp only [go_sem, ↓reduceIte, Nat.reduceEqDiff, Nat.reduceAdd, Nat.reduceSub, Nat.reduceMul, Nat.reduceLeDiff, Nat.reduceBEq, reduceCtorEq, Int.reduceLT, Int.reduceLE, Int.reduceToNat, Int.reduceAdd, Int.reduceSub, Int.reduceBEq, Int.reduceBNe])
    (refine W.ret (Fin.sameW (hok) (by (first | rfl | exact List.length_set .. | simp)) (by simp only [resEval, r50, go_sem, ↓reduceIte, Nat.reduceEqDiff, Nat.reduceAdd, Nat.reduceSub, Nat.reduceMul, Nat.reduceLeDiff, Nat.reduceBEq, reduceCtorEq, Int.reduceLT, Int.reduceLE, Int.reduceToNat, Int.reduceAdd, Int.reduceSub, Int.reduceBEq, Int.reduceBNe]; rfl) ?_ (by (first | exact .c _ | (simp only [I, S, B, opsC, toksC, Pre.v, Tok.v, OpT.v, low_c, low_void, low_any, low_csl, low_nilf, low_ptr, low_osl, low_agg, low_tup, low_fn, List.forall_mem_cons, List.not_mem_nil, false_implies, implies_true, and_self, and_true, true_and]; done))) (by (first | rfl | exact (List.append_nil _).symm))); simp only [resV]; try exact V.wk.rfl _)
    rw [zipAll_len hlr]
    exact .rfl _
theorem read_Same (w0 : World) (p : Pre) : ∀ (q : Pre) (σ : H), DC Tryz.prog w0 22 [p.v, q.v] σ (Same (B (samePre p q)) σ) := by
  refine Pre.ind (P := fun p => ∀ (q : Pre) (σ : H), DC Tryz.prog w0 22 [p.v, q.v] σ (Same (B (samePre p q)) σ)) (fun p ih q σ => ?_) p
  refine go22 rfl (fun hok hsz => ?_)
  (((first | refine W.advO 5000 _ _ ?_ | skip); (try simp only [bne, go_sem, ↓reduceIte, Nat.reduceEqDiff, Nat.reduceAdd, Nat.reduceSub, Nat.reduceMul, Nat.reduceLeDiff, Nat.reduceBEq, reduceCtorEq, Int.reduceLT, Int.reduceLE, Int.reduceToNat, Int.reduceAdd, Int.reduceSub, Int.reduceBEq, Int.reduceBNe, c22, *])); (repeat' (first | (refine W.yes rfl ?_; (refine W.advO 5000 _ _ ?_; simp only [bne, go_sem, ↓reduceIte, Nat.reduceEqDiff, Nat.reduceAdd, Nat.reduceSub, Nat.reduceMul, Nat.reduceLeDiff, Nat.reduceBEq, reduceCtorEq, Int.reduceLT, Int.reduceLE, Int.reduceToNat, Int.reduceAdd, Int.reduceSub, Int.reduceBEq, Int.reduceBNe, c22, *])) | (refine W.no rfl ?_; (refine W.advO 5000 _ _ ?_; simp only [bne, go_sem, ↓reduceIte, Nat.reduceEqDiff, Nat.reduceAdd, Nat.reduceSub, Nat.reduceMul, Nat.reduceLeDiff, Nat.reduceBEq, reduceCtorEq, Int.reduceLT, Int.reduceLE, Int.reduceToNat, Int.reduceAdd, Int.reduceSub, Int.reduceBEq, Int.reduceBNe, c22, *])) | (refine W.call1 (EqualFunc_pre w0 p.l q.l 22 samePre (fun x hx y σ => ih x hx y σ) _) rfl rfl (by first | rfl | simp) ?_; (refine W.advO 5000 _ _ ?_; simp only [bne, go_sem, ↓reduceIte, Nat.reduceEqDiff, Nat.reduceAdd, Nat.reduceSub, Nat.reduceMul, Nat.reduceLeDiff, Nat.reduceBEq, reduceCtorEq, Int.reduceLT, Int.reduceLE, Int.reduceToNat, Int.reduceAdd, Int.reduceSub, Int.reduceBEq, Int.reduceBNe, c22, *])) | (refine W.testn rfl (fun hT => ?_) (fun hT => ?_) <;> (refine W.advO 5000 _ _ ?_; simp only [bne, go_sem, ↓reduceIte, Nat.reduceEqDiff, Nat.reduceAdd, Nat.reduceSub, Nat.reduceMul, Nat.reduceLeDiff, Nat.reduceBEq, reduceCtorEq, Int.reduceLT, Int.reduceLE, Int.reduceToNat, Int.reduceAdd, Int.reduceSub, Int.reduceBEq, Int.reduceBNe, c22, *])) | (refine W.test rfl (fun hT => ?_) (fun hT => ?_) <;> (refine W.advO 5000 _ _ ?_; simp only [bne, go_sem, ↓reduceIte, Nat.reduceEqDiff, Nat.reduceAdd, Nat.reduceSub, Nat.reduceMul, Nat.reduceLeDiff, Nat.reduceBEq, reduceCtorEq, Int.reduceLT, Int.reduceLE, Int.reduceToNat, Int.reduceAdd, Int.reduceSub, Int.reduceBEq, Int.reduceBNe, c22, *])) | (refine advG_ifn _ _ _ _ (fun hT => ?_) (fun hT => ?_) <;> simp only [bne, go_sem, ↓reduceIte, Nat.reduceEqDiff, Nat.reduceAdd, Nat.reduceSub, Nat.reduceMul, Nat.reduceLeDiff, Nat.reduceBEq, reduceCtorEq, Int.reduceLT, Int.reduceLE, Int.reduceToNat, Int.reduceAdd, Int.reduceSub, Int.reduceBEq, Int.reduceBNe, c22, *]) | (refine advG_if _ _ _ _ (fun hT => ?_) (fun hT => ?_) <;> simp only [bne, go_sem, ↓reduceIte, Nat.reduceEqDiff, Nat.reduceAdd, Nat.reduceSub, Nat.reduceMul, Nat.reduceLeDiff, Nat.reduceBEq, reduceCtorEq, Int.reduceLT, Int.reduceLE, Int.reduceToNat, Int.reduceAdd, Int.reduceSub, Int.reduceBEq, Int.reduceBNe, c22, *]))))
  all_goals (refine W.ret (Fin.sameW (hok) (by (first | rfl | exact List.length_set .. | simp)) (by simp only [resEval, r22, go_sem, ↓reduceIte, Nat.reduceEqDiff, Nat.reduceAdd, Nat.reduceSub, Nat.reduceMul, Nat.reduceLeDiff, Nat.reduceBEq, reduceCtorEq, Int.reduceLT, Int.reduceLE, Int.reduceToNat, Int.reduceAdd, Int.reduceSub, Int.reduceBEq, Int.reduceBNe]; rfl) ?_ (by (first | exact .c _ | (simp only [I, S, B, opsC, toksC, Pre.v, Tok.v, OpT.v, low_c, low_void, low_any, low_csl, low_nilf, low_ptr, low_osl, low_agg, low_tup, low_fn, List.forall_mem_cons, List.not_mem_nil, false_implies, implies_true, and_self, and_true, true_and]; done))) (by (first | rfl | exact (List.append_nil _).symm))); simp only [resV]; (first | exact V.wk.rfl _ | (refine wk_bool ?_; clear hsz hok; rw [samePre_eq] <;> ((try simp only [beq_iff_eq, beq_eq_false_iff_ne, ne_eq, decide_eq_true_eq, decide_eq_false_iff_not] at *); first | (exfalso; omega) | (simp [*]; done) | (simp [*]; omega) | (simp [*])))))
theorem read_Valid1 (w0 : World) (o : List OpT) (p : Pre) (b : Bool) (σ : H) (c : Nat) (hc : σ[c]? = some (.cells [.c (opsC o)])) (hp : ∀ τ, DC Tryz.prog w0 20 [.c (opsC o), p.v] τ (Same (B b) τ)) :
    DC Tryz.prog w0 45 [p.v, .ptr c 0] σ (Same (B (!b)) σ) := by
  refine go45 rfl (fun hok hsz => ?_)
  ((first | refine W.advO 5000 _ _ ?_ | skip); simp only [go_sem, ↓reduceIte, Nat.reduceEqDiff, Nat.reduceAdd, Nat.reduceSub, Nat.reduceMul, Nat.reduceLeDiff, Nat.reduceBEq, reduceCtorEq, Int.reduceLT, Int.reduceLE, Int.reduceToNat, Int.reduceAdd, Int.reduceSub, Int.reduceBEq, Int.reduceBNe, c45, hG hc])
  (refine W.call1 (hp _) rfl rfl (by first | rfl | simp) ?_; refine W.advO 5000 _ _ ?_; simp only [go_sem, ↓reduceIte, Nat.reduceEqDiff, Nat.reduceAdd, Nat.reduceSub, Nat.reduceMul, Nat.reduceLeDiff, Nat.reduceBEq, reduceCtorEq, Int.reduceLT, Int.reduceLE, Int.reduceToNat, Int.reduceAdd, Int.reduceSub, Int.reduceBEq, Int.reduceBNe])
  (refine W.ret (Fin.sameW (hok) (by (first | rfl | exact List.length_set .. | simp)) (by simp only [resEval, r45, go_sem, ↓reduceIte, Nat.reduceEqDiff, Nat.reduceAdd, Nat.reduceSub, Nat.reduceMul, Nat.reduceLeDiff, Nat.reduceBEq, reduceCtorEq, Int.reduceLT, Int.reduceLE, Int.reduceToNat, Int.reduceAdd, Int.reduceSub, Int.reduceBEq, Int.reduceBNe]; rfl) ?_ (by (first | exact .c _ | (simp only [I, S, B, opsC, toksC, Pre.v, Tok.v, OpT.v, low_c, low_void, low_any, low_csl, low_nilf, low_ptr, low_osl, low_agg, low_tup, low_fn, List.forall_mem_cons, List.not_mem_nil, false_implies, implies_true, and_self, and_true, true_and]; done))) (by (first | rfl | exact (List.append_nil _).symm))); simp only [resV]; try exact V.wk.rfl _)
end Go.Proofs.YtpgkhkojjklakaaGreatDoor
namespace Go.Proofs.YtpgkhkojjklakaaGreatDoor
open Go.RowKit Go.Lamb
attribute [local go_sem] advO_skip advO_reg advO_seq advO_block advO_exit advO_endb advO_opsNil advO_ops advG_yes advG_no advG_none advS_some advS_none advO_cond advO_loop advO_dreg advO_ret advO_bad advO_inv advO_nil advO_zero wantedV Lamb.step ev_t ev_k put_some put_none argEnv popTo cellsAt V.cellsV V.rows V.toC toCs fillV rowsV boundV boundL binV binInt binStr eqC eqL V.isNil leaves V.leaf Ins.quiet Ins.pure List.getD_cons_zero List.getD_cons_succ List.getD_nil List.all_cons List.all_nil List.length_cons List.length_nil List.take_succ_cons List.take_zero List.drop_succ_cons List.drop_zero List.cons_append List.nil_append List.append_nil List.append_assoc List.map_cons List.map_nil List.getElem?_cons_zero List.getElem?_cons_succ List.length_append List.length_set hget0 hget hset0 hset hsets hgs0 hgs hss0 hss List.set_cons_zero List.set_cons_succ List.forall_mem_cons List.not_mem_nil false_implies implies_true Option.map_some Bool.and_true Bool.true_and Bool.not_not Bool.not_true Bool.not_false Bool.and_self Bool.or_true Bool.true_or Bool.or_false Bool.false_or Bool.and_false Bool.false_and Bool.false_eq_true beq_self_eq_true and_self and_true true_and if_true if_false Nat.zero_add Nat.add_zero Nat.le_refl Int.toNat_natCast decide_true decide_false beq_t beq_f List.length_map List.getElem?_map I S B opsC toksC OpT.v OpT.cs OpT.zero Tok.v Tok.cs Pre.v Pre.cs_eq k_mk name_mk n_mk l_mk pos_mk Pre.app applyL natCast0 natCast1 natCast2

theorem any_all {α : Type} (l : List α) (p : α → Bool) : (l.any fun q => !p q) = !l.all p := by
  induction l with
  | nil => rfl
  | cons x l ih => simp only [List.any_cons, List.all_cons, ih]; cases p x <;> simp
theorem len_ne {n : Nat} (k : Nat) : ((n : Int) == (k : Int)) = (n == k) := by
  rw [Bool.eq_iff_iff]; simp; omega
theorem read_Valid (w0 : World) (o : List OpT) (p : Pre) : ∀ (σ : H), DC Tryz.prog w0 20 [.c (opsC o), p.v] σ (Same (B (validPre o p)) σ) := by
  refine Pre.ind (P := fun p => ∀ (σ : H), DC Tryz.prog w0 20 [.c (opsC o), p.v] σ (Same (B (validPre o p)) σ)) (fun p ih σ => ?_) p
  refine go20 rfl (fun hok hsz => ?_)
  have hD : ∀ q ∈ p.l, ∀ L, DC Tryz.prog w0 45 [q.v, .ptr σ.length 0] (σ ++ .cells [.c (opsC o)] :: L) (Same (B (!validPre o q)) (σ ++ .cells [.c (opsC o)] :: L)) := fun q hq L => read_Valid1 w0 o q _ _ σ.length (hget0 σ _) (fun τ => ih q hq τ)
  have hC := fun L => ContainsFunc_pre w0 p.l 45 [.ptr σ.length 0] (fun q => !validPre o q) (σ ++ .cells [.c (opsC o)] :: L) (fun q hq => hD q hq L)
  have l0 := len_ne (n := p.l.length) 0
  have l1 := len_ne (n := p.l.length) 1
  have l2 := len_ne (n := p.l.length) 2
  simp only [natCast0, natCast1, natCast2] at l0 l1 l2
  ((first | refine W.advO 5000 _ _ ?_ | skip); simp only [go_sem, ↓reduceIte, Nat.reduceEqDiff, Nat.reduceAdd, Nat.reduceSub, Nat.reduceMul, Nat.reduceLeDiff, Nat.reduceBEq, reduceCtorEq, Int.reduceLT, Int.reduceLE, Int.reduceToNat, Int.reduceAdd, Int.reduceSub, Int.reduceBEq, Int.reduceBNe, c20])
  (refine W.call1 (ops_Find w0 o p.name _) rfl rfl (by first | rfl | simp) ?_; refine W.advO 5000 _ _ ?_; simp only [go_sem, ↓reduceIte, Nat.reduceEqDiff, Nat.reduceAdd, Nat.reduceSub, Nat.reduceMul, Nat.reduceLeDiff, Nat.reduceBEq, reduceCtorEq, Int.reduceLT, Int.reduceLE, Int.reduceToNat, Int.reduceAdd, Int.reduceSub, Int.reduceBEq, Int.reduceBNe, foundV])
  apply W.dregE (List.cons_ne_nil _ _)
  case hc =>
    (apply CanonE.advPO; simp only [advPO_nil, advPO_loud, advPO_quiet, pL_yes, pL_no, pLS_some, pLS_none, pQ_yes, pQ_no, pQS_some, pQS_loud, eq_self, Nat.sub_zero, go_sem, ↓reduceIte, Nat.reduceEqDiff, Nat.reduceAdd, Nat.reduceSub, Nat.reduceMul, Nat.reduceLeDiff, Nat.reduceBEq, reduceCtorEq, Int.reduceLT, Int.reduceLE, Int.reduceToNat, Int.reduceAdd, Int.reduceSub, Int.reduceBEq, Int.reduceBNe])
    (apply CanonE.call (lex_IsNameD w0 p.name _); (case hg => rfl); (case hf => rfl); (case ha => first | rfl | simp))
    (apply CanonE.advPO; simp only [advPO_nil, advPO_loud, advPO_quiet, pL_yes, pL_no, pLS_some, pLS_none, pQ_yes, pQ_no, pQS_some, pQS_loud, eq_self, Nat.sub_zero, go_sem, ↓reduceIte, Nat.reduceEqDiff, Nat.reduceAdd, Nat.reduceSub, Nat.reduceMul, Nat.reduceLeDiff, Nat.reduceBEq, reduceCtorEq, Int.reduceLT, Int.reduceLE, Int.reduceToNat, Int.reduceAdd, Int.reduceSub, Int.reduceBEq, Int.reduceBNe])
    (apply CanonE.call (lex_IsVarD w0 p.name _); (case hg => rfl); (case hf => rfl); (case ha => first | rfl | simp))
    (apply CanonE.advPO; simp only [advPO_nil, advPO_loud, advPO_quiet, pL_yes, pL_no, pLS_some, pLS_none, pQ_yes, pQ_no, pQS_some, pQS_loud, eq_self, Nat.sub_zero, go_sem, ↓reduceIte, Nat.reduceEqDiff, Nat.reduceAdd, Nat.reduceSub, Nat.reduceMul, Nat.reduceLeDiff, Nat.reduceBEq, reduceCtorEq, Int.reduceLT, Int.reduceLE, Int.reduceToNat, Int.reduceAdd, Int.reduceSub, Int.reduceBEq, Int.reduceBNe])
    exact CanonE.nil
  (((first | refine W.advO 5000 _ _ ?_ | skip); (try simp only [bne, go_sem, ↓reduceIte, Nat.reduceEqDiff, Nat.reduceAdd, Nat.reduceSub, Nat.reduceMul, Nat.reduceLeDiff, Nat.reduceBEq, reduceCtorEq, Int.reduceLT, Int.reduceLE, Int.reduceToNat, Int.reduceAdd, Int.reduceSub, Int.reduceBEq, Int.reduceBNe, l0, l1, l2, *])); (repeat' (first | (refine W.yes rfl ?_; (refine W.advO 5000 _ _ ?_; simp only [bne, go_sem, ↓reduceIte, Nat.reduceEqDiff, Nat.reduceAdd, Nat.reduceSub, Nat.reduceMul, Nat.reduceLeDiff, Nat.reduceBEq, reduceCtorEq, Int.reduceLT, Int.reduceLE, Int.reduceToNat, Int.reduceAdd, Int.reduceSub, Int.reduceBEq, Int.reduceBNe, l0, l1, l2, *])) | (refine W.no rfl ?_; (refine W.advO 5000 _ _ ?_; simp only [bne, go_sem, ↓reduceIte, Nat.reduceEqDiff, Nat.reduceAdd, Nat.reduceSub, Nat.reduceMul, Nat.reduceLeDiff, Nat.reduceBEq, reduceCtorEq, Int.reduceLT, Int.reduceLE, Int.reduceToNat, Int.reduceAdd, Int.reduceSub, Int.reduceBEq, Int.reduceBNe, l0, l1, l2, *])) | (refine W.call1 (lex_IsSymD w0 p.name _) rfl rfl (by first | rfl | simp) ?_; (refine W.advO 5000 _ _ ?_; simp only [bne, go_sem, ↓reduceIte, Nat.reduceEqDiff, Nat.reduceAdd, Nat.reduceSub, Nat.reduceMul, Nat.reduceLeDiff, Nat.reduceBEq, reduceCtorEq, Int.reduceLT, Int.reduceLE, Int.reduceToNat, Int.reduceAdd, Int.reduceSub, Int.reduceBEq, Int.reduceBNe, l0, l1, l2, *])) | (refine W.call1 (hC _) rfl rfl (by first | rfl | simp) ?_; (refine W.advO 5000 _ _ ?_; simp only [bne, go_sem, ↓reduceIte, Nat.reduceEqDiff, Nat.reduceAdd, Nat.reduceSub, Nat.reduceMul, Nat.reduceLeDiff, Nat.reduceBEq, reduceCtorEq, Int.reduceLT, Int.reduceLE, Int.reduceToNat, Int.reduceAdd, Int.reduceSub, Int.reduceBEq, Int.reduceBNe, l0, l1, l2, *])) | (refine W.testn rfl (fun hT => ?_) (fun hT => ?_) <;> (refine W.advO 5000 _ _ ?_; simp only [bne, go_sem, ↓reduceIte, Nat.reduceEqDiff, Nat.reduceAdd, Nat.reduceSub, Nat.reduceMul, Nat.reduceLeDiff, Nat.reduceBEq, reduceCtorEq, Int.reduceLT, Int.reduceLE, Int.reduceToNat, Int.reduceAdd, Int.reduceSub, Int.reduceBEq, Int.reduceBNe, l0, l1, l2, *])) | (refine W.test rfl (fun hT => ?_) (fun hT => ?_) <;> (refine W.advO 5000 _ _ ?_; simp only [bne, go_sem, ↓reduceIte, Nat.reduceEqDiff, Nat.reduceAdd, Nat.reduceSub, Nat.reduceMul, Nat.reduceLeDiff, Nat.reduceBEq, reduceCtorEq, Int.reduceLT, Int.reduceLE, Int.reduceToNat, Int.reduceAdd, Int.reduceSub, Int.reduceBEq, Int.reduceBNe, l0, l1, l2, *])) | (refine advG_ifn _ _ _ _ (fun hT => ?_) (fun hT => ?_) <;> simp only [bne, go_sem, ↓reduceIte, Nat.reduceEqDiff, Nat.reduceAdd, Nat.reduceSub, Nat.reduceMul, Nat.reduceLeDiff, Nat.reduceBEq, reduceCtorEq, Int.reduceLT, Int.reduceLE, Int.reduceToNat, Int.reduceAdd, Int.reduceSub, Int.reduceBEq, Int.reduceBNe, l0, l1, l2, *]) | (refine advG_if _ _ _ _ (fun hT => ?_) (fun hT => ?_) <;> simp only [bne, go_sem, ↓reduceIte, Nat.reduceEqDiff, Nat.reduceAdd, Nat.reduceSub, Nat.reduceMul, Nat.reduceLeDiff, Nat.reduceBEq, reduceCtorEq, Int.reduceLT, Int.reduceLE, Int.reduceToNat, Int.reduceAdd, Int.reduceSub, Int.reduceBEq, Int.reduceBNe, l0, l1, l2, *]))))
  all_goals (refine W.ret (Fin.sameW (hok) (by (first | rfl | exact List.length_set .. | simp)) (by simp only [resEval, r20, go_sem, ↓reduceIte, Nat.reduceEqDiff, Nat.reduceAdd, Nat.reduceSub, Nat.reduceMul, Nat.reduceLeDiff, Nat.reduceBEq, reduceCtorEq, Int.reduceLT, Int.reduceLE, Int.reduceToNat, Int.reduceAdd, Int.reduceSub, Int.reduceBEq, Int.reduceBNe]; rfl) ?_ (by (first | exact .c _ | (simp only [I, S, B, opsC, toksC, Pre.v, Tok.v, OpT.v, low_c, low_void, low_any, low_csl, low_nilf, low_ptr, low_osl, low_agg, low_tup, low_fn, List.forall_mem_cons, List.not_mem_nil, false_implies, implies_true, and_self, and_true, true_and]; done))) (by (first | rfl | exact (List.append_nil _).symm))); simp only [resV]; (first | exact V.wk.rfl _ | (refine wk_bool ?_; clear hsz hok; rw [validPre_eq] <;> ((try simp only [beq_iff_eq, beq_eq_false_iff_ne, ne_eq, decide_eq_true_eq, decide_eq_false_iff_not] at *); first | (exfalso; omega) | (simp [nodeOk, any_all, *]; done) | (simp [nodeOk, any_all, *]; omega) | (simp [nodeOk, any_all, *])))))
end Go.Proofs.YtpgkhkojjklakaaGreatDoor

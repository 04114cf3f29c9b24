/-
  The code of some functions, without addresses.
  The code of some functions, without addresses.
  The code of some functions, without addresses.
  Walks: operators are found by their names.
  The code of some functions, without addresses.
  Walks: the reader's small functions.
-/
import Derived.Test.YtlogjjnimlnpkaaGreatDoorChecked
import Derived.Test.YtlogjjnimlnpkaaGreatDoorQJ11
import Derived.Test.YtlogjjnimlnpkaaGreatDoorQJ10
set_option linter.unusedSimpArgs false
set_option linter.unusedVariables false
set_option maxHeartbeats 8000000
set_option maxRecDepth 20000
namespace Go.Proofs.YtlogjjnimlnpkaaGreatDoor
open Go.RowKit Go.Lamb
/-- source.Words -/
def c55 : AC :=
  .seq (.reg [⟨some 0, .mov (.k (.csl [])), none⟩])
  (.seq (.reg [⟨some 1, .bsl 1 [(.k (.c (.str [107, 105, 110, 100]))), (.k (.c (.str [116, 121, 112, 101]))), (.k (.c (.str [105, 110, 102, 105, 120]))), (.k (.c (.str [105, 110, 102, 105, 120, 108]))), (.k (.c (.str [105, 110, 102, 105, 120, 114])))], none⟩, ⟨some 0, .mov (.t 1), none⟩])
  (.ret))
def r55 : List ResV := [.tmp 0]
theorem tr55 : tr Tryz.prog Tryz.f55.ntmps (Tryz.f55.body.getD .skip) = some c55 := by kernel_rfl
theorem tre55 : trRes Tryz.prog Tryz.f55.results.toList = some r55 := by kernel_rfl
theorem en55 : Enters Tryz.prog 55 := enters_fn Tryz.func55 (by kernel_rfl) rfl
theorem go55 {w0 : World} {args : List V} {σ : H} {R : V → H → Prop} (ha : args.length = 0) (h : H.ok σ → (∀ x ∈ args, V.Sz x) → W Tryz.prog w0 σ.length (Fin r55 σ.length R) [.code c55] ⟨argEnv args, σ⟩) : DC Tryz.prog w0 55 args σ R :=
  DC.of_code (by kernel_rfl) Tryz.func55 rfl tr55 tre55 (by rw [ha]; exact by decide) en55 h
/-- (*source.reader).tok -/
def c98 : AC :=
  .seq (.reg [⟨some 2, .box (.k (.agg [.c (.int .i64 0), .c (.str []), .c (.int .i64 0), .c (.int .i64 0)])), none⟩])
  (.seq (.dreg [⟨some 3, .mov (.t 0), none⟩, ⟨some 4, .nilck (.t 3), none⟩, ⟨some 5, .fadd 0 (.t 4), none⟩, ⟨some 6, .load1 (.t 5), none⟩, ⟨some 7, .mov (.t 0), none⟩, ⟨some 8, .nilck (.t 7), none⟩, ⟨some 9, .fadd 1 (.t 8), none⟩, ⟨some 10, .load1 (.t 9), none⟩, ⟨some 11, .mov (.t 0), none⟩, ⟨some 12, .nilck (.t 11), none⟩, ⟨some 13, .fadd 0 (.t 12), none⟩, ⟨some 14, .load1 (.t 13), none⟩, ⟨some 15, .lenr (.t 14), none⟩, ⟨some 16, .bin .sub (.t 15) (.k (.c (.int .i64 1))), none⟩, ⟨some 17, .mn (.t 10) (.t 16), none⟩, ⟨some 18, .iadd 4 (.t 6) (.t 17), none⟩, ⟨some 19, .loadn 4 (.t 18), none⟩, ⟨none, .store 4 (.t 2) (.t 19), none⟩]
    [⟨⟨some 3, .mov (.t 0), none⟩, false, 0⟩, ⟨⟨some 4, .nilck (.t 3), none⟩, false, 0⟩, ⟨⟨some 5, .fadd 0 (.t 4), none⟩, false, 0⟩, ⟨⟨some 6, .load1 (.t 5), none⟩, false, 0⟩, ⟨⟨some 7, .mov (.t 0), none⟩, false, 0⟩, ⟨⟨some 8, .nilck (.t 7), none⟩, false, 0⟩, ⟨⟨some 9, .fadd 1 (.t 8), none⟩, false, 0⟩, ⟨⟨some 10, .load1 (.t 9), none⟩, false, 0⟩, ⟨⟨some 11, .mov (.t 0), none⟩, false, 0⟩, ⟨⟨some 12, .nilck (.t 11), none⟩, false, 0⟩, ⟨⟨some 13, .fadd 0 (.t 12), none⟩, false, 0⟩, ⟨⟨some 14, .load1 (.t 13), none⟩, false, 0⟩, ⟨⟨some 15, .lenr (.t 14), none⟩, false, 0⟩, ⟨⟨some 16, .bin .sub (.t 15) (.k (.c (.int .i64 1))), none⟩, false, 0⟩, ⟨⟨some 17, .mn (.t 10) (.t 16), none⟩, false, 0⟩, ⟨⟨some 18, .iadd 4 (.t 6) (.t 17), none⟩, false, 0⟩, ⟨⟨some 19, .loadn 4 (.t 18), none⟩, false, 0⟩, ⟨⟨none, .store 4 (.t 2) (.t 19), none⟩, true, 0⟩])
  (.ret))
def r98 : List ResV := [.celln 4 2]
theorem tr98 : tr Tryz.prog Tryz.f98.ntmps (Tryz.f98.body.getD .skip) = some c98 := by kernel_rfl
theorem tre98 : trRes Tryz.prog Tryz.f98.results.toList = some r98 := by kernel_rfl
theorem en98 : Enters Tryz.prog 98 := enters_fn Tryz.func98 (by kernel_rfl) rfl
theorem go98 {w0 : World} {args : List V} {σ : H} {R : V → H → Prop} (ha : args.length = 1) (h : H.ok σ → (∀ x ∈ args, V.Sz x) → W Tryz.prog w0 σ.length (Fin r98 σ.length R) [.code c98] ⟨argEnv args, σ⟩) : DC Tryz.prog w0 98 args σ R :=
  DC.of_code (by kernel_rfl) Tryz.func98 rfl tr98 tre98 (by rw [ha]; exact by decide) en98 h
/-- (*source.reader).fail -/
def c203 : AC :=
  .seq (.reg [⟨some 6, .mov (.t 0), none⟩, ⟨some 7, .nilck (.t 6), none⟩, ⟨some 8, .fadd 3 (.t 7), none⟩, ⟨some 9, .load1 (.t 8), none⟩, ⟨some 10, .bin .eql (.t 9) (.k (.c (.int .i64 0))), none⟩])
  (.cond (.t 10)
  (.reg [⟨some 11, .mov (.t 0), none⟩, ⟨some 12, .mov (.t 0), none⟩, ⟨some 13, .mov (.t 1), none⟩, ⟨some 14, .mov (.t 2), none⟩, ⟨some 15, .nilck (.t 11), none⟩, ⟨some 16, .fadd 3 (.t 15), none⟩, ⟨none, .store 1 (.t 16) (.t 13), none⟩, ⟨some 17, .nilck (.t 12), none⟩, ⟨some 18, .fadd 4 (.t 17), none⟩, ⟨none, .store 1 (.t 18) (.t 14), none⟩])
  (.skip))
def r203 : List ResV := []
theorem tr203 : tr Tryz.prog Tryz.f203.ntmps (Tryz.f203.body.getD .skip) = some c203 := by kernel_rfl
theorem tre203 : trRes Tryz.prog Tryz.f203.results.toList = some r203 := by kernel_rfl
theorem en203 : Enters Tryz.prog 203 := enters_fn Tryz.func203 (by kernel_rfl) rfl
theorem go203 {w0 : World} {args : List V} {σ : H} {R : V → H → Prop} (ha : args.length = 3) (h : H.ok σ → (∀ x ∈ args, V.Sz x) → W Tryz.prog w0 σ.length (Fin r203 σ.length R) [.code c203] ⟨argEnv args, σ⟩) : DC Tryz.prog w0 203 args σ R :=
  DC.of_code (by kernel_rfl) Tryz.func203 rfl tr203 tre203 (by rw [ha]; exact by decide) en203 h
/-- (*source.reader).is -/
def c202 : AC :=
  .seq (.reg [⟨some 6, .mov (.k (.c (.bool false))), none⟩])
  (.seq (.reg [⟨some 9, .mov (.t 0), none⟩, ⟨some 10, .call (.k (.fn 98 [])) [(.t 9)], none⟩, ⟨some 7, .box (.k (.agg [.c (.int .i64 0), .c (.str []), .c (.int .i64 0), .c (.int .i64 0)])), none⟩, ⟨none, .store 4 (.t 7) (.t 10), none⟩])
  (.seq (.reg [⟨some 11, .fadd 0 (.t 7), none⟩, ⟨some 12, .load1 (.t 11), none⟩, ⟨some 13, .mov (.t 1), none⟩, ⟨some 14, .bin .eql (.t 12) (.t 13), none⟩, ⟨some 15, .mov (.t 14), none⟩, ⟨some 16, .fadd 1 (.t 7), some (15, true)⟩, ⟨some 17, .load1 (.t 16), some (15, true)⟩, ⟨some 18, .mov (.t 2), some (15, true)⟩, ⟨some 19, .bin .eql (.t 17) (.t 18), some (15, true)⟩, ⟨some 20, .pick (.t 15) (.t 19) (.k (.c (.bool false))), none⟩, ⟨some 8, .mov (.t 20), none⟩])
  (.seq (.seq (.reg [⟨some 21, .mov (.t 8), none⟩])
  (.cond (.t 21)
  (.reg [⟨some 22, .mov (.t 0), none⟩, ⟨some 23, .nilck (.t 22), none⟩, ⟨some 24, .fadd 1 (.t 23), none⟩, ⟨some 25, .load1 (.t 24), none⟩, ⟨some 26, .bin .add (.t 25) (.k (.c (.int .i64 1))), none⟩, ⟨some 27, .nilck (.t 22), none⟩, ⟨some 28, .fadd 1 (.t 27), none⟩, ⟨none, .store 1 (.t 28) (.t 26), none⟩])
  (.skip)))
  (.seq (.reg [⟨some 29, .mov (.t 8), none⟩, ⟨some 6, .mov (.t 29), none⟩])
  (.ret)))))
def r202 : List ResV := [.tmp 6]
theorem tr202 : tr Tryz.prog Tryz.f202.ntmps (Tryz.f202.body.getD .skip) = some c202 := by kernel_rfl
theorem tre202 : trRes Tryz.prog Tryz.f202.results.toList = some r202 := by kernel_rfl
theorem en202 : Enters Tryz.prog 202 := enters_fn Tryz.func202 (by kernel_rfl) rfl
theorem go202 {w0 : World} {args : List V} {σ : H} {R : V → H → Prop} (ha : args.length = 3) (h : H.ok σ → (∀ x ∈ args, V.Sz x) → W Tryz.prog w0 σ.length (Fin r202 σ.length R) [.code c202] ⟨argEnv args, σ⟩) : DC Tryz.prog w0 202 args σ R :=
  DC.of_code (by kernel_rfl) Tryz.func202 rfl tr202 tre202 (by rw [ha]; exact by decide) en202 h
/-- (*source.reader).take -/
def c204 : AC :=
  .seq (.reg [⟨some 6, .box (.k (.agg [.c (.int .i64 0), .c (.str []), .c (.int .i64 0), .c (.int .i64 0)])), none⟩])
  (.seq (.reg [⟨some 8, .mov (.t 0), none⟩, ⟨some 9, .call (.k (.fn 98 [])) [(.t 8)], none⟩, ⟨some 7, .box (.k (.agg [.c (.int .i64 0), .c (.str []), .c (.int .i64 0), .c (.int .i64 0)])), none⟩, ⟨none, .store 4 (.t 7) (.t 9), none⟩])
  (.seq (.seq (.reg [⟨some 10, .mov (.t 2), none⟩, ⟨some 11, .fadd 0 (.t 7), none⟩, ⟨some 12, .load1 (.t 11), none⟩, ⟨some 13, .call (.k (.fn 249 [])) [(.t 10), (.t 12)], none⟩, ⟨some 14, .un .not (.t 13), none⟩])
  (.cond (.t 14)
  (.reg [⟨some 15, .mov (.t 0), none⟩, ⟨some 16, .mov (.t 1), none⟩, ⟨some 17, .fadd 3 (.t 7), none⟩, ⟨some 18, .load1 (.t 17), none⟩, ⟨some 19, .call (.k (.fn 203 [])) [(.t 15), (.t 16), (.t 18)], none⟩])
  (.skip)))
  (.seq (.reg [⟨some 20, .mov (.t 0), none⟩, ⟨some 21, .nilck (.t 20), none⟩, ⟨some 22, .fadd 1 (.t 21), none⟩, ⟨some 23, .load1 (.t 22), none⟩, ⟨some 24, .bin .add (.t 23) (.k (.c (.int .i64 1))), none⟩, ⟨some 25, .nilck (.t 20), none⟩, ⟨some 26, .fadd 1 (.t 25), none⟩, ⟨none, .store 1 (.t 26) (.t 24), none⟩])
  (.seq (.reg [⟨some 27, .loadn 4 (.t 7), none⟩, ⟨none, .store 4 (.t 6) (.t 27), none⟩])
  (.ret)))))
def r204 : List ResV := [.celln 4 6]
theorem tr204 : tr Tryz.prog Tryz.f204.ntmps (Tryz.f204.body.getD .skip) = some c204 := by kernel_rfl
theorem tre204 : trRes Tryz.prog Tryz.f204.results.toList = some r204 := by kernel_rfl
theorem en204 : Enters Tryz.prog 204 := enters_fn Tryz.func204 (by kernel_rfl) rfl
theorem go204 {w0 : World} {args : List V} {σ : H} {R : V → H → Prop} (ha : args.length = 3) (h : H.ok σ → (∀ x ∈ args, V.Sz x) → W Tryz.prog w0 σ.length (Fin r204 σ.length R) [.code c204] ⟨argEnv args, σ⟩) : DC Tryz.prog w0 204 args σ R :=
  DC.of_code (by kernel_rfl) Tryz.func204 rfl tr204 tre204 (by rw [ha]; exact by decide) en204 h
/-- (*source.reader).names -/
def c201 : AC :=
  .seq (.reg [⟨some 4, .mov (.k (.csl [])), none⟩])
  (.seq (.reg [⟨some 6, .mov (.t 0), none⟩, ⟨some 7, .mov (.t 1), none⟩, ⟨some 8, .call (.k (.fn 204 [])) [(.t 6), (.k (.c (.int .i64 100))), (.t 7)], none⟩, ⟨some 9, .bsl 4 [(.t 8)], none⟩, ⟨some 5, .mov (.t 9), none⟩])
  (.seq (.block 0 (.loop (.seq (.seq (.reg [⟨some 10, .mov (.t 0), none⟩, ⟨some 11, .nilck (.t 10), none⟩, ⟨some 12, .fadd 3 (.t 11), none⟩, ⟨some 13, .load1 (.t 12), none⟩, ⟨some 14, .bin .eql (.t 13) (.k (.c (.int .i64 0))), none⟩, ⟨some 15, .mov (.t 14), none⟩, ⟨some 16, .mov (.t 0), some (15, true)⟩, ⟨some 17, .call (.k (.fn 202 [])) [(.t 16), (.k (.c (.int .i64 4))), (.k (.c (.str [44])))], some (15, true)⟩, ⟨some 18, .pick (.t 15) (.t 17) (.k (.c (.bool false))), none⟩])
  (.cond (.t 18)
  (.skip)
  (.exit 0)))
  (.block 1 (.reg [⟨some 19, .mov (.t 5), none⟩, ⟨some 20, .mov (.t 0), none⟩, ⟨some 21, .mov (.t 1), none⟩, ⟨some 22, .call (.k (.fn 204 [])) [(.t 20), (.k (.c (.int .i64 100))), (.t 21)], none⟩, ⟨some 23, .bsl 4 [(.t 22)], none⟩, ⟨some 24, .app 60 4 40 (.t 19) (.t 23), none⟩, ⟨some 5, .mov (.t 24), none⟩])))))
  (.seq (.reg [⟨some 25, .mov (.t 5), none⟩, ⟨some 4, .mov (.t 25), none⟩])
  (.ret))))
def r201 : List ResV := [.tmp 4]
theorem tr201 : tr Tryz.prog Tryz.f201.ntmps (Tryz.f201.body.getD .skip) = some c201 := by kernel_rfl
theorem tre201 : trRes Tryz.prog Tryz.f201.results.toList = some r201 := by kernel_rfl
theorem en201 : Enters Tryz.prog 201 := enters_fn Tryz.func201 (by kernel_rfl) rfl
theorem go201 {w0 : World} {args : List V} {σ : H} {R : V → H → Prop} (ha : args.length = 2) (h : H.ok σ → (∀ x ∈ args, V.Sz x) → W Tryz.prog w0 σ.length (Fin r201 σ.length R) [.code c201] ⟨argEnv args, σ⟩) : DC Tryz.prog w0 201 args σ R :=
  DC.of_code (by kernel_rfl) Tryz.func201 rfl tr201 tre201 (by rw [ha]; exact by decide) en201 h
/-- source.texts -/
def c200 : AC :=
  .seq (.reg [⟨some 2, .mov (.k (.csl [])), none⟩])
  (.seq (.reg [⟨some 3, .mov (.k (.csl [])), none⟩])
  (.seq (.seq (.reg [⟨some 6, .mov (.t 0), none⟩, ⟨some 7, .lenr (.t 6), none⟩, ⟨some 8, .mov (.k (.c (.int .i64 0))), none⟩])
  (.block 0 (.loop (.seq (.reg [⟨some 9, .bin .lss (.t 8) (.t 7), none⟩])
  (.seq (.cond (.t 9)
  (.skip)
  (.exit 0))
  (.seq (.block 1 (.seq (.reg [⟨some 10, .iadd 4 (.t 6) (.t 8), none⟩, ⟨some 11, .loadn 4 (.t 10), none⟩, ⟨some 5, .box (.k (.agg [.c (.int .i64 0), .c (.str []), .c (.int .i64 0), .c (.int .i64 0)])), none⟩, ⟨none, .store 4 (.t 5) (.t 11), none⟩])
  (.reg [⟨some 12, .mov (.t 3), none⟩, ⟨some 13, .fadd 1 (.t 5), none⟩, ⟨some 14, .load1 (.t 13), none⟩, ⟨some 15, .bsl 1 [(.t 14)], none⟩, ⟨some 16, .app 9 1 16 (.t 12) (.t 15), none⟩, ⟨some 3, .mov (.t 16), none⟩])))
  (.reg [⟨some 17, .bin .add (.t 8) (.k (.c (.int .i64 1))), none⟩, ⟨some 8, .mov (.t 17), none⟩])))))))
  (.seq (.reg [⟨some 18, .mov (.t 3), none⟩, ⟨some 2, .mov (.t 18), none⟩])
  (.ret))))
def r200 : List ResV := [.tmp 2]
theorem tr200 : tr Tryz.prog Tryz.f200.ntmps (Tryz.f200.body.getD .skip) = some c200 := by kernel_rfl
theorem tre200 : trRes Tryz.prog Tryz.f200.results.toList = some r200 := by kernel_rfl
theorem en200 : Enters Tryz.prog 200 := enters_fn Tryz.func200 (by kernel_rfl) rfl
theorem go200 {w0 : World} {args : List V} {σ : H} {R : V → H → Prop} (ha : args.length = 1) (h : H.ok σ → (∀ x ∈ args, V.Sz x) → W Tryz.prog w0 σ.length (Fin r200 σ.length R) [.code c200] ⟨argEnv args, σ⟩) : DC Tryz.prog w0 200 args σ R :=
  DC.of_code (by kernel_rfl) Tryz.func200 rfl tr200 tre200 (by rw [ha]; exact by decide) en200 h
/-- (*source.reader).kind -/
def c161 : AC :=
  .seq (.reg [⟨some 2, .box (.k (.agg [.c (.int .i64 0), .csl [], .c (.int .i64 0), .c (.int .i64 0), .c (.str []), .c (.int .i64 0), .csl [], .c (.str []), .c (.int .i64 0), .c (.int .i64 0), .c (.int .i64 0), .c (.str []), .c (.int .i64 0), .csl [], .c (.int .i64 0), .c (.int .i64 0)])), none⟩])
  (.seq (.reg [⟨some 5, .mov (.t 0), none⟩, ⟨some 6, .bsl 1 [(.k (.c (.int .i64 1)))], none⟩, ⟨some 7, .call (.k (.fn 201 [])) [(.t 5), (.t 6)], none⟩, ⟨some 8, .call (.k (.fn 200 [])) [(.t 7)], none⟩, ⟨some 9, .build [.c (.int .i64 0), .csl [], .c (.int .i64 0), .c (.int .i64 0), .c (.str []), .c (.int .i64 0), .csl [], .c (.str []), .c (.int .i64 0), .c (.int .i64 0), .c (.int .i64 0), .c (.str []), .c (.int .i64 0), .csl [], .c (.int .i64 0), .c (.int .i64 0)] [(0, 1, (.k (.c (.int .i64 0)))), (1, 1, (.t 8))], none⟩, ⟨some 3, .box (.k (.agg [.c (.int .i64 0), .csl [], .c (.int .i64 0), .c (.int .i64 0), .c (.str []), .c (.int .i64 0), .csl [], .c (.str []), .c (.int .i64 0), .c (.int .i64 0), .c (.int .i64 0), .c (.str []), .c (.int .i64 0), .csl [], .c (.int .i64 0), .c (.int .i64 0)])), none⟩, ⟨none, .store 16 (.t 3) (.t 9), none⟩])
  (.seq (.block 0 (.loop (.seq (.seq (.reg [⟨some 10, .mov (.t 0), none⟩, ⟨some 11, .nilck (.t 10), none⟩, ⟨some 12, .fadd 3 (.t 11), none⟩, ⟨some 13, .load1 (.t 12), none⟩, ⟨some 14, .bin .eql (.t 13) (.k (.c (.int .i64 0))), none⟩])
  (.cond (.t 14)
  (.skip)
  (.exit 0)))
  (.seq (.block 1 (.seq (.seq (.reg [⟨some 19, .mov (.t 0), none⟩, ⟨some 20, .call (.k (.fn 98 [])) [(.t 19)], none⟩, ⟨some 4, .box (.k (.agg [.c (.int .i64 0), .c (.str []), .c (.int .i64 0), .c (.int .i64 0)])), none⟩, ⟨none, .store 4 (.t 4) (.t 20), none⟩])
  (.seq (.reg [⟨some 21, .mov (.t 0), none⟩, ⟨some 22, .call (.k (.fn 202 [])) [(.t 21), (.k (.c (.int .i64 1))), (.k (.c (.str [116, 121, 112, 101])))], none⟩, ⟨some 23, .un .not (.t 22), none⟩])
  (.cond (.t 23)
  (.reg [⟨some 24, .mov (.t 0), none⟩, ⟨some 25, .fadd 3 (.t 4), none⟩, ⟨some 26, .load1 (.t 25), none⟩, ⟨some 27, .call (.k (.fn 203 [])) [(.t 24), (.k (.c (.int .i64 100))), (.t 26)], none⟩])
  (.skip))))
  (.seq (.reg [⟨some 28, .mov (.t 0), none⟩, ⟨some 29, .call (.k (.fn 202 [])) [(.t 28), (.k (.c (.int .i64 4))), (.k (.c (.str [45, 62])))], none⟩, ⟨some 30, .un .not (.t 29), none⟩])
  (.cond (.t 30)
  (.exit 0)
  (.skip)))))
  (.reg [⟨some 15, .fadd 2 (.t 3), none⟩, ⟨some 16, .load1 (.t 15), none⟩, ⟨some 17, .bin .add (.t 16) (.k (.c (.int .i64 1))), none⟩, ⟨some 18, .fadd 2 (.t 3), none⟩, ⟨none, .store 1 (.t 18) (.t 17), none⟩])))))
  (.seq (.reg [⟨some 31, .loadn 16 (.t 3), none⟩, ⟨none, .store 16 (.t 2) (.t 31), none⟩])
  (.ret))))
def r161 : List ResV := [.celln 16 2]
theorem tr161 : tr Tryz.prog Tryz.f161.ntmps (Tryz.f161.body.getD .skip) = some c161 := by kernel_rfl
theorem tre161 : trRes Tryz.prog Tryz.f161.results.toList = some r161 := by kernel_rfl
theorem en161 : Enters Tryz.prog 161 := enters_fn Tryz.func161 (by kernel_rfl) rfl
theorem go161 {w0 : World} {args : List V} {σ : H} {R : V → H → Prop} (ha : args.length = 1) (h : H.ok σ → (∀ x ∈ args, V.Sz x) → W Tryz.prog w0 σ.length (Fin r161 σ.length R) [.code c161] ⟨argEnv args, σ⟩) : DC Tryz.prog w0 161 args σ R :=
  DC.of_code (by kernel_rfl) Tryz.func161 rfl tr161 tre161 (by rw [ha]; exact by decide) en161 h
/-- (*source.reader).typed -/
def c162 : AC :=
  .seq (.reg [⟨some 2, .box (.k (.agg [.c (.int .i64 0), .csl [], .c (.int .i64 0), .c (.int .i64 0), .c (.str []), .c (.int .i64 0), .csl [], .c (.str []), .c (.int .i64 0), .c (.int .i64 0), .c (.int .i64 0), .c (.str []), .c (.int .i64 0), .csl [], .c (.int .i64 0), .c (.int .i64 0)])), none⟩])
  (.seq (.reg [⟨some 8, .mov (.t 0), none⟩, ⟨some 9, .bsl 1 [(.k (.c (.int .i64 1))), (.k (.c (.int .i64 4)))], none⟩, ⟨some 10, .call (.k (.fn 201 [])) [(.t 8), (.t 9)], none⟩, ⟨some 11, .call (.k (.fn 200 [])) [(.t 10)], none⟩, ⟨some 12, .build [.c (.int .i64 0), .csl [], .c (.int .i64 0), .c (.int .i64 0), .c (.str []), .c (.int .i64 0), .csl [], .c (.str []), .c (.int .i64 0), .c (.int .i64 0), .c (.int .i64 0), .c (.str []), .c (.int .i64 0), .csl [], .c (.int .i64 0), .c (.int .i64 0)] [(0, 1, (.k (.c (.int .i64 1)))), (1, 1, (.t 11))], none⟩, ⟨some 3, .box (.k (.agg [.c (.int .i64 0), .csl [], .c (.int .i64 0), .c (.int .i64 0), .c (.str []), .c (.int .i64 0), .csl [], .c (.str []), .c (.int .i64 0), .c (.int .i64 0), .c (.int .i64 0), .c (.str []), .c (.int .i64 0), .csl [], .c (.int .i64 0), .c (.int .i64 0)])), none⟩, ⟨none, .store 16 (.t 3) (.t 12), none⟩])
  (.seq (.seq (.reg [⟨some 13, .mov (.t 0), none⟩, ⟨some 14, .nilck (.t 13), none⟩, ⟨some 15, .fadd 3 (.t 14), none⟩, ⟨some 16, .load1 (.t 15), none⟩, ⟨some 17, .bin .neq (.t 16) (.k (.c (.int .i64 0))), none⟩])
  (.cond (.t 17)
  (.seq (.reg [⟨some 18, .loadn 16 (.t 3), none⟩, ⟨none, .store 16 (.t 2) (.t 18), none⟩])
  (.ret))
  (.skip)))
  (.seq (.dreg [⟨some 20, .mov (.t 0), none⟩, ⟨some 21, .nilck (.t 20), none⟩, ⟨some 22, .fadd 0 (.t 21), none⟩, ⟨some 23, .load1 (.t 22), none⟩, ⟨some 24, .mov (.t 0), none⟩, ⟨some 25, .nilck (.t 24), none⟩, ⟨some 26, .fadd 1 (.t 25), none⟩, ⟨some 27, .load1 (.t 26), none⟩, ⟨some 28, .call (.k (.fn 30 [])) [(.t 23), (.t 27)], none⟩, ⟨some 19, .mov (.t 28), none⟩, ⟨some 29, .ext (.t 19) 0, none⟩, ⟨some 30, .ext (.t 19) 1, none⟩, ⟨some 31, .ext (.t 19) 2, none⟩, ⟨some 32, .ext (.t 19) 3, none⟩, ⟨some 4, .box (.k (.agg [.c (.int .i64 0), .c (.str []), .c (.int .i64 0), .csl []])), none⟩, ⟨none, .store 4 (.t 4) (.t 29), none⟩, ⟨some 5, .mov (.t 30), none⟩, ⟨some 6, .mov (.t 31), none⟩, ⟨some 7, .mov (.t 32), none⟩]
    [⟨⟨some 4, .box (.k (.agg [.c (.int .i64 0), .c (.str []), .c (.int .i64 0), .csl []])), none⟩, true, 0⟩, ⟨⟨some 20, .mov (.t 0), none⟩, false, 0⟩, ⟨⟨some 21, .nilck (.t 20), none⟩, false, 0⟩, ⟨⟨some 22, .fadd 0 (.t 21), none⟩, false, 0⟩, ⟨⟨some 23, .load1 (.t 22), none⟩, false, 0⟩, ⟨⟨some 24, .mov (.t 0), none⟩, false, 0⟩, ⟨⟨some 25, .nilck (.t 24), none⟩, false, 0⟩, ⟨⟨some 26, .fadd 1 (.t 25), none⟩, false, 0⟩, ⟨⟨some 27, .load1 (.t 26), none⟩, false, 0⟩, ⟨⟨some 28, .call (.k (.fn 30 [])) [(.t 23), (.t 27)], none⟩, false, 0⟩, ⟨⟨some 19, .mov (.t 28), none⟩, false, 0⟩, ⟨⟨some 29, .ext (.t 19) 0, none⟩, false, 0⟩, ⟨⟨none, .store 4 (.t 4) (.t 29), none⟩, true, 1⟩, ⟨⟨some 30, .ext (.t 19) 1, none⟩, false, 0⟩, ⟨⟨some 31, .ext (.t 19) 2, none⟩, false, 0⟩, ⟨⟨some 32, .ext (.t 19) 3, none⟩, false, 0⟩, ⟨⟨some 5, .mov (.t 30), none⟩, false, 2⟩, ⟨⟨some 6, .mov (.t 31), none⟩, false, 2⟩, ⟨⟨some 7, .mov (.t 32), none⟩, false, 2⟩])
  (.seq (.seq (.reg [⟨some 33, .mov (.t 6), none⟩, ⟨some 34, .bin .neq (.t 33) (.k (.c (.int .i64 0))), none⟩])
  (.cond (.t 34)
  (.reg [⟨some 35, .mov (.t 0), none⟩, ⟨some 36, .mov (.t 6), none⟩, ⟨some 37, .mov (.t 7), none⟩, ⟨some 38, .call (.k (.fn 203 [])) [(.t 35), (.t 36), (.t 37)], none⟩])
  (.skip)))
  (.seq (.reg [⟨some 39, .mov (.t 0), none⟩, ⟨some 40, .loadn 4 (.t 4), none⟩, ⟨some 41, .mov (.t 5), none⟩, ⟨some 42, .fadd 3 (.t 3), none⟩, ⟨none, .store 4 (.t 42) (.t 40), none⟩, ⟨some 43, .nilck (.t 39), none⟩, ⟨some 44, .fadd 1 (.t 43), none⟩, ⟨none, .store 1 (.t 44) (.t 41), none⟩])
  (.seq (.reg [⟨some 45, .loadn 16 (.t 3), none⟩, ⟨none, .store 16 (.t 2) (.t 45), none⟩])
  (.ret)))))))
def r162 : List ResV := [.celln 16 2]
theorem tr162 : tr Tryz.prog Tryz.f162.ntmps (Tryz.f162.body.getD .skip) = some c162 := by kernel_rfl
theorem tre162 : trRes Tryz.prog Tryz.f162.results.toList = some r162 := by kernel_rfl
theorem en162 : Enters Tryz.prog 162 := enters_fn Tryz.func162 (by kernel_rfl) rfl
theorem go162 {w0 : World} {args : List V} {σ : H} {R : V → H → Prop} (ha : args.length = 1) (h : H.ok σ → (∀ x ∈ args, V.Sz x) → W Tryz.prog w0 σ.length (Fin r162 σ.length R) [.code c162] ⟨argEnv args, σ⟩) : DC Tryz.prog w0 162 args σ R :=
  DC.of_code (by kernel_rfl) Tryz.func162 rfl tr162 tre162 (by rw [ha]; exact by decide) en162 h
/-- (*source.reader).operator -/
def c163 : AC :=
  .seq (.reg [⟨some 4, .box (.k (.agg [.c (.int .i64 0), .csl [], .c (.int .i64 0), .c (.int .i64 0), .c (.str []), .c (.int .i64 0), .csl [], .c (.str []), .c (.int .i64 0), .c (.int .i64 0), .c (.int .i64 0), .c (.str []), .c (.int .i64 0), .csl [], .c (.int .i64 0), .c (.int .i64 0)])), none⟩])
  (.seq (.reg [⟨some 12, .mov (.t 0), none⟩, ⟨some 13, .bsl 1 [(.k (.c (.int .i64 1))), (.k (.c (.int .i64 4)))], none⟩, ⟨some 14, .call (.k (.fn 201 [])) [(.t 12), (.t 13)], none⟩, ⟨some 5, .mov (.t 14), none⟩])
  (.seq (.reg [⟨some 15, .mov (.t 5), none⟩, ⟨some 16, .call (.k (.fn 200 [])) [(.t 15)], none⟩, ⟨some 17, .mov (.t 1), none⟩, ⟨some 18, .build [.c (.str []), .c (.int .i64 0), .c (.int .i64 0)] [(2, 1, (.t 17))], none⟩, ⟨some 19, .build [.c (.int .i64 0), .csl [], .c (.int .i64 0), .c (.int .i64 0), .c (.str []), .c (.int .i64 0), .csl [], .c (.str []), .c (.int .i64 0), .c (.int .i64 0), .c (.int .i64 0), .c (.str []), .c (.int .i64 0), .csl [], .c (.int .i64 0), .c (.int .i64 0)] [(0, 1, (.k (.c (.int .i64 2)))), (1, 1, (.t 16)), (7, 3, (.t 18))], none⟩, ⟨some 6, .box (.k (.agg [.c (.int .i64 0), .csl [], .c (.int .i64 0), .c (.int .i64 0), .c (.str []), .c (.int .i64 0), .csl [], .c (.str []), .c (.int .i64 0), .c (.int .i64 0), .c (.int .i64 0), .c (.str []), .c (.int .i64 0), .csl [], .c (.int .i64 0), .c (.int .i64 0)])), none⟩, ⟨none, .store 16 (.t 6) (.t 19), none⟩])
  (.seq (.seq (.reg [⟨some 20, .mov (.t 0), none⟩, ⟨some 21, .nilck (.t 20), none⟩, ⟨some 22, .fadd 3 (.t 21), none⟩, ⟨some 23, .load1 (.t 22), none⟩, ⟨some 24, .bin .neq (.t 23) (.k (.c (.int .i64 0))), none⟩])
  (.cond (.t 24)
  (.seq (.reg [⟨some 25, .loadn 16 (.t 6), none⟩, ⟨none, .store 16 (.t 4) (.t 25), none⟩])
  (.ret))
  (.skip)))
  (.seq (.reg [⟨some 26, .mov (.t 0), none⟩, ⟨some 27, .bsl 1 [(.k (.c (.int .i64 3)))], none⟩, ⟨some 28, .call (.k (.fn 204 [])) [(.t 26), (.k (.c (.int .i64 100))), (.t 27)], none⟩, ⟨some 29, .field1 2 (.t 28), none⟩, ⟨some 30, .fadd 7 (.t 6), none⟩, ⟨some 31, .fadd 1 (.t 30), none⟩, ⟨none, .store 1 (.t 31) (.t 29), none⟩])
  (.seq (.reg [⟨some 32, .mov (.t 0), none⟩, ⟨some 33, .call (.k (.fn 165 [])) [(.t 32)], none⟩])
  (.seq (.skip)
  (.seq (.seq (.reg [⟨some 34, .mov (.t 5), none⟩, ⟨some 35, .lenr (.t 34), none⟩, ⟨some 36, .mov (.k (.c (.int .i64 0))), none⟩])
  (.block 0 (.loop (.seq (.reg [⟨some 37, .bin .lss (.t 36) (.t 35), none⟩])
  (.seq (.cond (.t 37)
  (.skip)
  (.exit 0))
  (.seq (.block 1 (.seq (.reg [⟨some 38, .iadd 4 (.t 34) (.t 36), none⟩, ⟨some 39, .loadn 4 (.t 38), none⟩, ⟨some 8, .box (.k (.agg [.c (.int .i64 0), .c (.str []), .c (.int .i64 0), .c (.int .i64 0)])), none⟩, ⟨none, .store 4 (.t 8) (.t 39), none⟩])
  (.seq (.seq (.reg [⟨some 40, .mov (.t 0), none⟩, ⟨some 41, .nilck (.t 40), none⟩, ⟨some 42, .fadd 3 (.t 41), none⟩, ⟨some 43, .load1 (.t 42), none⟩, ⟨some 44, .bin .neq (.t 43) (.k (.c (.int .i64 0))), none⟩])
  (.cond (.t 44)
  (.exit 0)
  (.skip)))
  (.seq (.reg [⟨some 45, .fadd 7 (.t 6), none⟩, ⟨some 46, .loadn 3 (.t 45), none⟩, ⟨some 9, .box (.k (.agg [.c (.str []), .c (.int .i64 0), .c (.int .i64 0)])), none⟩, ⟨none, .store 3 (.t 9) (.t 46), none⟩])
  (.seq (.reg [⟨some 47, .fadd 1 (.t 8), none⟩, ⟨some 48, .load1 (.t 47), none⟩, ⟨some 49, .fadd 0 (.t 9), none⟩, ⟨none, .store 1 (.t 49) (.t 48), none⟩])
  (.seq (.dreg [⟨some 51, .mov (.t 0), none⟩, ⟨some 52, .nilck (.t 51), none⟩, ⟨some 53, .fadd 2 (.t 52), none⟩, ⟨some 54, .load1 (.t 53), none⟩, ⟨some 55, .loadn 3 (.t 9), none⟩, ⟨some 56, .call (.k (.fn 60 [])) [(.t 54), (.t 55)], none⟩, ⟨some 50, .mov (.t 56), none⟩, ⟨some 57, .ext (.t 50) 0, none⟩, ⟨some 58, .ext (.t 50) 1, none⟩, ⟨some 10, .mov (.t 57), none⟩, ⟨some 11, .mov (.t 58), none⟩]
    [⟨⟨some 51, .mov (.t 0), none⟩, false, 0⟩, ⟨⟨some 52, .nilck (.t 51), none⟩, false, 0⟩, ⟨⟨some 53, .fadd 2 (.t 52), none⟩, false, 0⟩, ⟨⟨some 54, .load1 (.t 53), none⟩, false, 0⟩, ⟨⟨some 55, .loadn 3 (.t 9), none⟩, false, 0⟩, ⟨⟨some 56, .call (.k (.fn 60 [])) [(.t 54), (.t 55)], none⟩, true, 0⟩, ⟨⟨some 50, .mov (.t 56), none⟩, false, 1⟩, ⟨⟨some 57, .ext (.t 50) 0, none⟩, false, 1⟩, ⟨⟨some 58, .ext (.t 50) 1, none⟩, false, 1⟩, ⟨⟨some 10, .mov (.t 57), none⟩, false, 1⟩, ⟨⟨some 11, .mov (.t 58), none⟩, false, 1⟩])
  (.seq (.seq (.reg [⟨some 59, .mov (.t 11), none⟩, ⟨some 60, .bin .neq (.t 59) (.k (.c (.int .i64 0))), none⟩])
  (.cond (.t 60)
  (.reg [⟨some 61, .mov (.t 0), none⟩, ⟨some 62, .mov (.t 11), none⟩, ⟨some 63, .fadd 3 (.t 8), none⟩, ⟨some 64, .load1 (.t 63), none⟩, ⟨some 65, .call (.k (.fn 203 [])) [(.t 61), (.t 62), (.t 64)], none⟩])
  (.skip)))
  (.reg [⟨some 66, .mov (.t 0), none⟩, ⟨some 67, .mov (.t 10), none⟩, ⟨some 68, .nilck (.t 66), none⟩, ⟨some 69, .fadd 2 (.t 68), none⟩, ⟨none, .store 1 (.t 69) (.t 67), none⟩]))))))))
  (.reg [⟨some 70, .bin .add (.t 36) (.k (.c (.int .i64 1))), none⟩, ⟨some 36, .mov (.t 70), none⟩])))))))
  (.seq (.reg [⟨some 71, .loadn 16 (.t 6), none⟩, ⟨none, .store 16 (.t 4) (.t 71), none⟩])
  (.ret)))))))))
def r163 : List ResV := [.celln 16 4]
theorem tr163 : tr Tryz.prog Tryz.f163.ntmps (Tryz.f163.body.getD .skip) = some c163 := by kernel_rfl
theorem tre163 : trRes Tryz.prog Tryz.f163.results.toList = some r163 := by kernel_rfl
theorem en163 : Enters Tryz.prog 163 := enters_fn Tryz.func163 (by kernel_rfl) rfl
theorem go163 {w0 : World} {args : List V} {σ : H} {R : V → H → Prop} (ha : args.length = 2) (h : H.ok σ → (∀ x ∈ args, V.Sz x) → W Tryz.prog w0 σ.length (Fin r163 σ.length R) [.code c163] ⟨argEnv args, σ⟩) : DC Tryz.prog w0 163 args σ R :=
  DC.of_code (by kernel_rfl) Tryz.func163 rfl tr163 tre163 (by rw [ha]; exact by decide) en163 h
/-- (*source.reader).clause -/
def c164 : AC :=
  .seq (.reg [⟨some 2, .box (.k (.agg [.c (.int .i64 0), .csl [], .c (.int .i64 0), .c (.int .i64 0), .c (.str []), .c (.int .i64 0), .csl [], .c (.str []), .c (.int .i64 0), .c (.int .i64 0), .c (.int .i64 0), .c (.str []), .c (.int .i64 0), .csl [], .c (.int .i64 0), .c (.int .i64 0)])), none⟩])
  (.seq (.dreg [⟨some 8, .mov (.t 0), none⟩, ⟨some 9, .nilck (.t 8), none⟩, ⟨some 10, .fadd 2 (.t 9), none⟩, ⟨some 11, .load1 (.t 10), none⟩, ⟨some 12, .mov (.t 0), none⟩, ⟨some 13, .nilck (.t 12), none⟩, ⟨some 14, .fadd 0 (.t 13), none⟩, ⟨some 15, .load1 (.t 14), none⟩, ⟨some 16, .mov (.t 0), none⟩, ⟨some 17, .nilck (.t 16), none⟩, ⟨some 18, .fadd 1 (.t 17), none⟩, ⟨some 19, .load1 (.t 18), none⟩, ⟨some 20, .call (.k (.fn 105 [])) [(.t 11), (.t 15), (.t 19)], none⟩, ⟨some 7, .mov (.t 20), none⟩, ⟨some 21, .ext (.t 7) 0, none⟩, ⟨some 22, .ext (.t 7) 1, none⟩, ⟨some 23, .ext (.t 7) 2, none⟩, ⟨some 24, .ext (.t 7) 3, none⟩, ⟨some 3, .box (.k (.agg [.c (.int .i64 0), .c (.str []), .c (.int .i64 0), .csl [], .c (.int .i64 0)])), none⟩, ⟨none, .store 5 (.t 3) (.t 21), none⟩, ⟨some 4, .mov (.t 22), none⟩, ⟨some 5, .mov (.t 23), none⟩, ⟨some 6, .mov (.t 24), none⟩]
    [⟨⟨some 3, .box (.k (.agg [.c (.int .i64 0), .c (.str []), .c (.int .i64 0), .csl [], .c (.int .i64 0)])), none⟩, true, 0⟩, ⟨⟨some 8, .mov (.t 0), none⟩, false, 0⟩, ⟨⟨some 9, .nilck (.t 8), none⟩, false, 0⟩, ⟨⟨some 10, .fadd 2 (.t 9), none⟩, false, 0⟩, ⟨⟨some 11, .load1 (.t 10), none⟩, false, 0⟩, ⟨⟨some 12, .mov (.t 0), none⟩, false, 0⟩, ⟨⟨some 13, .nilck (.t 12), none⟩, false, 0⟩, ⟨⟨some 14, .fadd 0 (.t 13), none⟩, false, 0⟩, ⟨⟨some 15, .load1 (.t 14), none⟩, false, 0⟩, ⟨⟨some 16, .mov (.t 0), none⟩, false, 0⟩, ⟨⟨some 17, .nilck (.t 16), none⟩, false, 0⟩, ⟨⟨some 18, .fadd 1 (.t 17), none⟩, false, 0⟩, ⟨⟨some 19, .load1 (.t 18), none⟩, false, 0⟩, ⟨⟨some 20, .call (.k (.fn 105 [])) [(.t 11), (.t 15), (.t 19)], none⟩, false, 0⟩, ⟨⟨some 7, .mov (.t 20), none⟩, false, 0⟩, ⟨⟨some 21, .ext (.t 7) 0, none⟩, false, 0⟩, ⟨⟨none, .store 5 (.t 3) (.t 21), none⟩, true, 1⟩, ⟨⟨some 22, .ext (.t 7) 1, none⟩, false, 0⟩, ⟨⟨some 23, .ext (.t 7) 2, none⟩, false, 0⟩, ⟨⟨some 24, .ext (.t 7) 3, none⟩, false, 0⟩, ⟨⟨some 4, .mov (.t 22), none⟩, false, 2⟩, ⟨⟨some 5, .mov (.t 23), none⟩, false, 2⟩, ⟨⟨some 6, .mov (.t 24), none⟩, false, 2⟩])
  (.seq (.seq (.reg [⟨some 25, .mov (.t 5), none⟩, ⟨some 26, .bin .neq (.t 25) (.k (.c (.int .i64 0))), none⟩])
  (.cond (.t 26)
  (.reg [⟨some 27, .mov (.t 0), none⟩, ⟨some 28, .mov (.t 5), none⟩, ⟨some 29, .mov (.t 6), none⟩, ⟨some 30, .call (.k (.fn 203 [])) [(.t 27), (.t 28), (.t 29)], none⟩])
  (.skip)))
  (.seq (.reg [⟨some 31, .mov (.t 0), none⟩, ⟨some 32, .mov (.t 4), none⟩, ⟨some 33, .nilck (.t 31), none⟩, ⟨some 34, .fadd 1 (.t 33), none⟩, ⟨none, .store 1 (.t 34) (.t 32), none⟩])
  (.seq (.reg [⟨some 35, .loadn 5 (.t 3), none⟩, ⟨some 36, .build [.c (.int .i64 0), .csl [], .c (.int .i64 0), .c (.int .i64 0), .c (.str []), .c (.int .i64 0), .csl [], .c (.str []), .c (.int .i64 0), .c (.int .i64 0), .c (.int .i64 0), .c (.str []), .c (.int .i64 0), .csl [], .c (.int .i64 0), .c (.int .i64 0)] [(0, 1, (.k (.c (.int .i64 3)))), (10, 5, (.t 35))], none⟩, ⟨none, .store 16 (.t 2) (.t 36), none⟩])
  (.ret)))))
def r164 : List ResV := [.celln 16 2]
theorem tr164 : tr Tryz.prog Tryz.f164.ntmps (Tryz.f164.body.getD .skip) = some c164 := by kernel_rfl
theorem tre164 : trRes Tryz.prog Tryz.f164.results.toList = some r164 := by kernel_rfl
theorem en164 : Enters Tryz.prog 164 := enters_fn Tryz.func164 (by kernel_rfl) rfl
theorem go164 {w0 : World} {args : List V} {σ : H} {R : V → H → Prop} (ha : args.length = 1) (h : H.ok σ → (∀ x ∈ args, V.Sz x) → W Tryz.prog w0 σ.length (Fin r164 σ.length R) [.code c164] ⟨argEnv args, σ⟩) : DC Tryz.prog w0 164 args σ R :=
  DC.of_code (by kernel_rfl) Tryz.func164 rfl tr164 tre164 (by rw [ha]; exact by decide) en164 h
/-- (*source.reader).end -/
def c165 : AC :=
  .seq (.reg [⟨some 2, .mov (.t 0), none⟩, ⟨some 3, .nilck (.t 2), none⟩, ⟨some 4, .fadd 3 (.t 3), none⟩, ⟨some 5, .load1 (.t 4), none⟩, ⟨some 6, .bin .eql (.t 5) (.k (.c (.int .i64 0))), none⟩])
  (.cond (.t 6)
  (.reg [⟨some 7, .mov (.t 0), none⟩, ⟨some 8, .bsl 1 [(.k (.c (.int .i64 7)))], none⟩, ⟨some 9, .call (.k (.fn 204 [])) [(.t 7), (.k (.c (.int .i64 101))), (.t 8)], none⟩])
  (.skip))
def r165 : List ResV := []
theorem tr165 : tr Tryz.prog Tryz.f165.ntmps (Tryz.f165.body.getD .skip) = some c165 := by kernel_rfl
theorem tre165 : trRes Tryz.prog Tryz.f165.results.toList = some r165 := by kernel_rfl
theorem en165 : Enters Tryz.prog 165 := enters_fn Tryz.func165 (by kernel_rfl) rfl
theorem go165 {w0 : World} {args : List V} {σ : H} {R : V → H → Prop} (ha : args.length = 1) (h : H.ok σ → (∀ x ∈ args, V.Sz x) → W Tryz.prog w0 σ.length (Fin r165 σ.length R) [.code c165] ⟨argEnv args, σ⟩) : DC Tryz.prog w0 165 args σ R :=
  DC.of_code (by kernel_rfl) Tryz.func165 rfl tr165 tre165 (by rw [ha]; exact by decide) en165 h
/-- (*source.reader).sentence -/
def c99 : AC :=
  .seq (.reg [⟨some 2, .box (.k (.agg [.c (.int .i64 0), .csl [], .c (.int .i64 0), .c (.int .i64 0), .c (.str []), .c (.int .i64 0), .csl [], .c (.str []), .c (.int .i64 0), .c (.int .i64 0), .c (.int .i64 0), .c (.str []), .c (.int .i64 0), .csl [], .c (.int .i64 0), .c (.int .i64 0)])), none⟩])
  (.seq (.reg [⟨some 6, .mov (.t 0), none⟩, ⟨some 7, .call (.k (.fn 98 [])) [(.t 6)], none⟩, ⟨some 3, .box (.k (.agg [.c (.int .i64 0), .c (.str []), .c (.int .i64 0), .c (.int .i64 0)])), none⟩, ⟨none, .store 4 (.t 3) (.t 7), none⟩])
  (.seq (.reg [⟨some 4, .mov (.k (.c (.str []))), none⟩])
  (.seq (.seq (.dreg [⟨some 8, .fadd 0 (.t 3), none⟩, ⟨some 9, .load1 (.t 8), none⟩, ⟨some 10, .bin .eql (.t 9) (.k (.c (.int .i64 1))), none⟩, ⟨some 11, .mov (.t 10), none⟩, ⟨some 12, .call (.k (.fn 55 [])) [], some (11, true)⟩, ⟨some 13, .fadd 1 (.t 3), some (11, true)⟩, ⟨some 14, .load1 (.t 13), some (11, true)⟩, ⟨some 15, .call (.k (.fn 160 [])) [(.t 12), (.t 14)], some (11, true)⟩, ⟨some 16, .pick (.t 11) (.t 15) (.k (.c (.bool false))), none⟩]
    [⟨⟨some 8, .fadd 0 (.t 3), none⟩, false, 0⟩, ⟨⟨some 9, .load1 (.t 8), none⟩, false, 0⟩, ⟨⟨some 10, .bin .eql (.t 9) (.k (.c (.int .i64 1))), none⟩, false, 0⟩, ⟨⟨some 11, .mov (.t 10), none⟩, false, 0⟩, ⟨⟨some 12, .call (.k (.fn 55 [])) [], some (11, true)⟩, true, 0⟩, ⟨⟨some 13, .fadd 1 (.t 3), some (11, true)⟩, false, 0⟩, ⟨⟨some 14, .load1 (.t 13), some (11, true)⟩, false, 0⟩, ⟨⟨some 15, .call (.k (.fn 160 [])) [(.t 12), (.t 14)], some (11, true)⟩, true, 1⟩, ⟨⟨some 16, .pick (.t 11) (.t 15) (.k (.c (.bool false))), none⟩, false, 2⟩])
  (.cond (.t 16)
  (.seq (.reg [⟨some 17, .fadd 1 (.t 3), none⟩, ⟨some 18, .load1 (.t 17), none⟩, ⟨some 4, .mov (.t 18), none⟩])
  (.reg [⟨some 19, .mov (.t 0), none⟩, ⟨some 20, .nilck (.t 19), none⟩, ⟨some 21, .fadd 1 (.t 20), none⟩, ⟨some 22, .load1 (.t 21), none⟩, ⟨some 23, .bin .add (.t 22) (.k (.c (.int .i64 1))), none⟩, ⟨some 24, .nilck (.t 19), none⟩, ⟨some 25, .fadd 1 (.t 24), none⟩, ⟨none, .store 1 (.t 25) (.t 23), none⟩]))
  (.skip)))
  (.seq (.reg [⟨some 5, .box (.k (.agg [.c (.int .i64 0), .csl [], .c (.int .i64 0), .c (.int .i64 0), .c (.str []), .c (.int .i64 0), .csl [], .c (.str []), .c (.int .i64 0), .c (.int .i64 0), .c (.int .i64 0), .c (.str []), .c (.int .i64 0), .csl [], .c (.int .i64 0), .c (.int .i64 0)])), none⟩])
  (.seq (.seq (.reg [⟨some 26, .mov (.t 4), none⟩])
  (.block 0 (.seq (.reg [⟨some 30, .bin .eql (.t 26) (.k (.c (.str [107, 105, 110, 100]))), none⟩, ⟨some 29, .mov (.t 30), none⟩])
  (.cond (.t 29)
  (.reg [⟨some 31, .mov (.t 0), none⟩, ⟨some 32, .call (.k (.fn 161 [])) [(.t 31)], none⟩, ⟨none, .store 16 (.t 5) (.t 32), none⟩])
  (.seq (.reg [⟨some 34, .bin .eql (.t 26) (.k (.c (.str [116, 121, 112, 101]))), none⟩, ⟨some 33, .mov (.t 34), none⟩])
  (.cond (.t 33)
  (.reg [⟨some 35, .mov (.t 0), none⟩, ⟨some 36, .call (.k (.fn 162 [])) [(.t 35)], none⟩, ⟨none, .store 16 (.t 5) (.t 36), none⟩])
  (.seq (.reg [⟨some 38, .bin .eql (.t 26) (.k (.c (.str [105, 110, 102, 105, 120]))), none⟩, ⟨some 37, .mov (.t 38), none⟩])
  (.cond (.t 37)
  (.reg [⟨some 39, .mov (.t 0), none⟩, ⟨some 40, .call (.k (.fn 163 [])) [(.t 39), (.k (.c (.int .i64 0)))], none⟩, ⟨none, .store 16 (.t 5) (.t 40), none⟩])
  (.seq (.reg [⟨some 42, .bin .eql (.t 26) (.k (.c (.str [105, 110, 102, 105, 120, 108]))), none⟩, ⟨some 41, .mov (.t 42), none⟩])
  (.cond (.t 41)
  (.reg [⟨some 43, .mov (.t 0), none⟩, ⟨some 44, .call (.k (.fn 163 [])) [(.t 43), (.k (.c (.int .i64 1)))], none⟩, ⟨none, .store 16 (.t 5) (.t 44), none⟩])
  (.seq (.reg [⟨some 46, .bin .eql (.t 26) (.k (.c (.str [105, 110, 102, 105, 120, 114]))), none⟩, ⟨some 45, .mov (.t 46), none⟩])
  (.cond (.t 45)
  (.reg [⟨some 47, .mov (.t 0), none⟩, ⟨some 48, .call (.k (.fn 163 [])) [(.t 47), (.k (.c (.int .i64 2)))], none⟩, ⟨none, .store 16 (.t 5) (.t 48), none⟩])
  (.reg [⟨some 27, .mov (.t 0), none⟩, ⟨some 28, .call (.k (.fn 164 [])) [(.t 27)], none⟩, ⟨none, .store 16 (.t 5) (.t 28), none⟩])))))))))))))
  (.seq (.seq (.reg [⟨some 49, .fadd 0 (.t 5), none⟩, ⟨some 50, .load1 (.t 49), none⟩, ⟨some 51, .bin .neq (.t 50) (.k (.c (.int .i64 2))), none⟩])
  (.cond (.t 51)
  (.reg [⟨some 52, .mov (.t 0), none⟩, ⟨some 53, .call (.k (.fn 165 [])) [(.t 52)], none⟩])
  (.skip)))
  (.seq (.reg [⟨some 54, .fadd 3 (.t 3), none⟩, ⟨some 55, .load1 (.t 54), none⟩, ⟨some 56, .fadd 15 (.t 5), none⟩, ⟨none, .store 1 (.t 56) (.t 55), none⟩])
  (.seq (.reg [⟨some 57, .loadn 16 (.t 5), none⟩, ⟨none, .store 16 (.t 2) (.t 57), none⟩])
  (.ret)))))))))
def r99 : List ResV := [.celln 16 2]
theorem tr99 : tr Tryz.prog Tryz.f99.ntmps (Tryz.f99.body.getD .skip) = some c99 := by kernel_rfl
theorem tre99 : trRes Tryz.prog Tryz.f99.results.toList = some r99 := by kernel_rfl
theorem en99 : Enters Tryz.prog 99 := enters_fn Tryz.func99 (by kernel_rfl) rfl
theorem go99 {w0 : World} {args : List V} {σ : H} {R : V → H → Prop} (ha : args.length = 1) (h : H.ok σ → (∀ x ∈ args, V.Sz x) → W Tryz.prog w0 σ.length (Fin r99 σ.length R) [.code c99] ⟨argEnv args, σ⟩) : DC Tryz.prog w0 99 args σ R :=
  DC.of_code (by kernel_rfl) Tryz.func99 rfl tr99 tre99 (by rw [ha]; exact by decide) en99 h
/-- source.Read -/
def c47 : AC :=
  .seq (.reg [⟨some 2, .mov (.k (.csl [])), none⟩, ⟨some 3, .mov (.k (.csl [])), none⟩, ⟨some 4, .mov (.k (.c (.int .i64 0))), none⟩, ⟨some 5, .mov (.k (.c (.int .i64 0))), none⟩])
  (.seq (.reg [⟨some 12, .mov (.t 0), none⟩, ⟨some 13, .call (.k (.fn 44 [])) [(.t 12)], none⟩, ⟨some 11, .mov (.t 13), none⟩, ⟨some 14, .ext (.t 11) 0, none⟩, ⟨some 15, .ext (.t 11) 1, none⟩, ⟨some 16, .ext (.t 11) 2, none⟩, ⟨some 6, .mov (.t 14), none⟩, ⟨some 7, .mov (.t 15), none⟩, ⟨some 8, .mov (.t 16), none⟩])
  (.seq (.seq (.reg [⟨some 17, .mov (.t 7), none⟩, ⟨some 18, .bin .neq (.t 17) (.k (.c (.int .i64 0))), none⟩])
  (.cond (.t 18)
  (.seq (.reg [⟨some 19, .mov (.t 7), none⟩, ⟨some 20, .mov (.t 8), none⟩, ⟨some 2, .mov (.k (.csl [])), none⟩, ⟨some 3, .mov (.k (.csl [])), none⟩, ⟨some 4, .mov (.t 19), none⟩, ⟨some 5, .mov (.t 20), none⟩])
  (.ret))
  (.skip)))
  (.seq (.reg [⟨some 21, .mov (.t 6), none⟩, ⟨some 22, .call (.k (.fn 54 [])) [], none⟩, ⟨some 23, .build [.csl [], .c (.int .i64 0), .csl [], .c (.int .i64 0), .c (.int .i64 0)] [(0, 1, (.t 21)), (2, 1, (.t 22))], none⟩, ⟨some 24, .box (.t 23), none⟩, ⟨some 9, .mov (.t 24), none⟩])
  (.seq (.reg [⟨some 10, .mov (.k (.csl [])), none⟩])
  (.seq (.block 0 (.loop (.seq (.seq (.reg [⟨some 25, .mov (.t 9), none⟩, ⟨some 26, .nilck (.t 25), none⟩, ⟨some 27, .fadd 3 (.t 26), none⟩, ⟨some 28, .load1 (.t 27), none⟩, ⟨some 29, .bin .eql (.t 28) (.k (.c (.int .i64 0))), none⟩, ⟨some 30, .mov (.t 29), none⟩, ⟨some 31, .mov (.t 9), some (30, true)⟩, ⟨some 32, .call (.k (.fn 98 [])) [(.t 31)], some (30, true)⟩, ⟨some 33, .field1 0 (.t 32), some (30, true)⟩, ⟨some 34, .bin .neq (.t 33) (.k (.c (.int .i64 0))), some (30, true)⟩, ⟨some 35, .pick (.t 30) (.t 34) (.k (.c (.bool false))), none⟩])
  (.cond (.t 35)
  (.skip)
  (.exit 0)))
  (.block 1 (.reg [⟨some 36, .mov (.t 10), none⟩, ⟨some 37, .mov (.t 9), none⟩, ⟨some 38, .call (.k (.fn 99 [])) [(.t 37)], none⟩, ⟨some 39, .bsl 16 [(.t 38)], none⟩, ⟨some 40, .app 41 16 200 (.t 36) (.t 39), none⟩, ⟨some 10, .mov (.t 40), none⟩])))))
  (.seq (.seq (.reg [⟨some 41, .mov (.t 9), none⟩, ⟨some 42, .nilck (.t 41), none⟩, ⟨some 43, .fadd 3 (.t 42), none⟩, ⟨some 44, .load1 (.t 43), none⟩, ⟨some 45, .bin .neq (.t 44) (.k (.c (.int .i64 0))), none⟩])
  (.cond (.t 45)
  (.seq (.dreg [⟨some 46, .mov (.t 9), none⟩, ⟨some 47, .nilck (.t 46), none⟩, ⟨some 48, .fadd 3 (.t 47), none⟩, ⟨some 49, .load1 (.t 48), none⟩, ⟨some 50, .mov (.t 9), none⟩, ⟨some 51, .nilck (.t 50), none⟩, ⟨some 52, .fadd 4 (.t 51), none⟩, ⟨some 53, .load1 (.t 52), none⟩, ⟨some 2, .mov (.k (.csl [])), none⟩, ⟨some 3, .mov (.k (.csl [])), none⟩, ⟨some 4, .mov (.t 49), none⟩, ⟨some 5, .mov (.t 53), none⟩]
    [⟨⟨some 46, .mov (.t 9), none⟩, false, 0⟩, ⟨⟨some 47, .nilck (.t 46), none⟩, false, 0⟩, ⟨⟨some 48, .fadd 3 (.t 47), none⟩, false, 0⟩, ⟨⟨some 49, .load1 (.t 48), none⟩, false, 0⟩, ⟨⟨some 50, .mov (.t 9), none⟩, false, 0⟩, ⟨⟨some 51, .nilck (.t 50), none⟩, false, 0⟩, ⟨⟨some 52, .fadd 4 (.t 51), none⟩, false, 0⟩, ⟨⟨some 53, .load1 (.t 52), none⟩, false, 0⟩, ⟨⟨some 2, .mov (.k (.csl [])), none⟩, false, 0⟩, ⟨⟨some 3, .mov (.k (.csl [])), none⟩, false, 0⟩, ⟨⟨some 4, .mov (.t 49), none⟩, false, 0⟩, ⟨⟨some 5, .mov (.t 53), none⟩, false, 0⟩])
  (.ret))
  (.skip)))
  (.seq (.dreg [⟨some 54, .mov (.t 10), none⟩, ⟨some 55, .mov (.t 9), none⟩, ⟨some 56, .nilck (.t 55), none⟩, ⟨some 57, .fadd 2 (.t 56), none⟩, ⟨some 58, .load1 (.t 57), none⟩, ⟨some 2, .mov (.t 54), none⟩, ⟨some 3, .mov (.t 58), none⟩, ⟨some 4, .mov (.k (.c (.int .i64 0))), none⟩, ⟨some 5, .mov (.k (.c (.int .i64 0))), none⟩]
    [⟨⟨some 54, .mov (.t 10), none⟩, false, 0⟩, ⟨⟨some 55, .mov (.t 9), none⟩, false, 0⟩, ⟨⟨some 56, .nilck (.t 55), none⟩, false, 0⟩, ⟨⟨some 57, .fadd 2 (.t 56), none⟩, false, 0⟩, ⟨⟨some 58, .load1 (.t 57), none⟩, false, 0⟩, ⟨⟨some 2, .mov (.t 54), none⟩, false, 0⟩, ⟨⟨some 3, .mov (.t 58), none⟩, false, 0⟩, ⟨⟨some 4, .mov (.k (.c (.int .i64 0))), none⟩, false, 0⟩, ⟨⟨some 5, .mov (.k (.c (.int .i64 0))), none⟩, false, 0⟩])
  (.ret))))))))
def r47 : List ResV := [.tmp 2, .tmp 3, .tmp 4, .tmp 5]
theorem tr47 : tr Tryz.prog Tryz.f47.ntmps (Tryz.f47.body.getD .skip) = some c47 := by kernel_rfl
theorem tre47 : trRes Tryz.prog Tryz.f47.results.toList = some r47 := by kernel_rfl
theorem en47 : Enters Tryz.prog 47 := enters_fn Tryz.func47 (by kernel_rfl) rfl
theorem go47 {w0 : World} {args : List V} {σ : H} {R : V → H → Prop} (ha : args.length = 1) (h : H.ok σ → (∀ x ∈ args, V.Sz x) → W Tryz.prog w0 σ.length (Fin r47 σ.length R) [.code c47] ⟨argEnv args, σ⟩) : DC Tryz.prog w0 47 args σ R :=
  DC.of_code (by kernel_rfl) Tryz.func47 rfl tr47 tre47 (by rw [ha]; exact by decide) en47 h
/-- source.Query -/
def c53 : AC :=
  .seq (.reg [⟨some 4, .box (.k (.agg [.c (.int .i64 0), .c (.str []), .c (.int .i64 0), .csl [], .c (.int .i64 0)])), none⟩, ⟨some 5, .mov (.k (.c (.int .i64 0))), none⟩, ⟨some 6, .mov (.k (.c (.int .i64 0))), none⟩])
  (.seq (.reg [⟨some 16, .mov (.t 1), none⟩, ⟨some 17, .call (.k (.fn 44 [])) [(.t 16)], none⟩, ⟨some 15, .mov (.t 17), none⟩, ⟨some 18, .ext (.t 15) 0, none⟩, ⟨some 19, .ext (.t 15) 1, none⟩, ⟨some 20, .ext (.t 15) 2, none⟩, ⟨some 7, .mov (.t 18), none⟩, ⟨some 8, .mov (.t 19), none⟩, ⟨some 9, .mov (.t 20), none⟩])
  (.seq (.seq (.reg [⟨some 21, .mov (.t 8), none⟩, ⟨some 22, .bin .neq (.t 21) (.k (.c (.int .i64 0))), none⟩])
  (.cond (.t 22)
  (.seq (.reg [⟨some 23, .build [.c (.int .i64 0), .c (.str []), .c (.int .i64 0), .csl [], .c (.int .i64 0)] [], none⟩, ⟨some 24, .mov (.t 8), none⟩, ⟨some 25, .mov (.t 9), none⟩, ⟨none, .store 5 (.t 4) (.t 23), none⟩, ⟨some 5, .mov (.t 24), none⟩, ⟨some 6, .mov (.t 25), none⟩])
  (.ret))
  (.skip)))
  (.seq (.reg [⟨some 27, .mov (.t 0), none⟩, ⟨some 28, .mov (.t 7), none⟩, ⟨some 29, .call (.k (.fn 105 [])) [(.t 27), (.t 28), (.k (.c (.int .i64 0)))], none⟩, ⟨some 26, .mov (.t 29), none⟩, ⟨some 30, .ext (.t 26) 0, none⟩, ⟨some 31, .ext (.t 26) 1, none⟩, ⟨some 32, .ext (.t 26) 2, none⟩, ⟨some 33, .ext (.t 26) 3, none⟩, ⟨some 10, .box (.k (.agg [.c (.int .i64 0), .c (.str []), .c (.int .i64 0), .csl [], .c (.int .i64 0)])), none⟩, ⟨none, .store 5 (.t 10) (.t 30), none⟩, ⟨some 11, .mov (.t 31), none⟩, ⟨some 8, .mov (.t 32), none⟩, ⟨some 12, .mov (.t 33), none⟩])
  (.seq (.seq (.reg [⟨some 34, .mov (.t 8), none⟩, ⟨some 35, .bin .neq (.t 34) (.k (.c (.int .i64 0))), none⟩])
  (.cond (.t 35)
  (.seq (.reg [⟨some 36, .build [.c (.int .i64 0), .c (.str []), .c (.int .i64 0), .csl [], .c (.int .i64 0)] [], none⟩, ⟨some 37, .mov (.t 8), none⟩, ⟨some 38, .mov (.t 12), none⟩, ⟨none, .store 5 (.t 4) (.t 36), none⟩, ⟨some 5, .mov (.t 37), none⟩, ⟨some 6, .mov (.t 38), none⟩])
  (.ret))
  (.skip)))
  (.seq (.reg [⟨some 39, .mov (.t 7), none⟩, ⟨some 40, .mov (.t 11), none⟩, ⟨some 41, .build [.csl [], .c (.int .i64 0), .csl [], .c (.int .i64 0), .c (.int .i64 0)] [(0, 1, (.t 39)), (1, 1, (.t 40))], none⟩, ⟨some 42, .box (.t 41), none⟩, ⟨some 13, .mov (.t 42), none⟩])
  (.seq (.seq (.reg [⟨some 43, .mov (.t 13), none⟩, ⟨some 44, .call (.k (.fn 98 [])) [(.t 43)], none⟩, ⟨some 45, .field1 0 (.t 44), none⟩, ⟨some 46, .bin .eql (.t 45) (.k (.c (.int .i64 7))), none⟩])
  (.cond (.t 46)
  (.reg [⟨some 47, .mov (.t 13), none⟩, ⟨some 48, .nilck (.t 47), none⟩, ⟨some 49, .fadd 1 (.t 48), none⟩, ⟨some 50, .load1 (.t 49), none⟩, ⟨some 51, .bin .add (.t 50) (.k (.c (.int .i64 1))), none⟩, ⟨some 52, .nilck (.t 47), none⟩, ⟨some 53, .fadd 1 (.t 52), none⟩, ⟨none, .store 1 (.t 53) (.t 51), none⟩])
  (.skip)))
  (.seq (.seq (.reg [⟨some 54, .mov (.t 13), none⟩, ⟨some 55, .call (.k (.fn 98 [])) [(.t 54)], none⟩, ⟨some 14, .box (.k (.agg [.c (.int .i64 0), .c (.str []), .c (.int .i64 0), .c (.int .i64 0)])), none⟩, ⟨none, .store 4 (.t 14) (.t 55), none⟩])
  (.seq (.reg [⟨some 56, .fadd 0 (.t 14), none⟩, ⟨some 57, .load1 (.t 56), none⟩, ⟨some 58, .bin .neq (.t 57) (.k (.c (.int .i64 0))), none⟩])
  (.cond (.t 58)
  (.seq (.dreg [⟨some 59, .build [.c (.int .i64 0), .c (.str []), .c (.int .i64 0), .csl [], .c (.int .i64 0)] [], none⟩, ⟨some 60, .fadd 3 (.t 14), none⟩, ⟨some 61, .load1 (.t 60), none⟩, ⟨none, .store 5 (.t 4) (.t 59), none⟩, ⟨some 5, .mov (.k (.c (.int .i64 101))), none⟩, ⟨some 6, .mov (.t 61), none⟩]
    [⟨⟨some 59, .build [.c (.int .i64 0), .c (.str []), .c (.int .i64 0), .csl [], .c (.int .i64 0)] [], none⟩, false, 0⟩, ⟨⟨none, .store 5 (.t 4) (.t 59), none⟩, true, 0⟩, ⟨⟨some 60, .fadd 3 (.t 14), none⟩, false, 0⟩, ⟨⟨some 61, .load1 (.t 60), none⟩, false, 0⟩, ⟨⟨some 5, .mov (.k (.c (.int .i64 101))), none⟩, false, 1⟩, ⟨⟨some 6, .mov (.t 61), none⟩, false, 1⟩])
  (.ret))
  (.skip))))
  (.seq (.reg [⟨some 62, .loadn 5 (.t 10), none⟩, ⟨none, .store 5 (.t 4) (.t 62), none⟩, ⟨some 5, .mov (.k (.c (.int .i64 0))), none⟩, ⟨some 6, .mov (.k (.c (.int .i64 0))), none⟩])
  (.ret)))))))))
def r53 : List ResV := [.celln 5 4, .tmp 5, .tmp 6]
theorem tr53 : tr Tryz.prog Tryz.f53.ntmps (Tryz.f53.body.getD .skip) = some c53 := by kernel_rfl
theorem tre53 : trRes Tryz.prog Tryz.f53.results.toList = some r53 := by kernel_rfl
theorem en53 : Enters Tryz.prog 53 := enters_fn Tryz.func53 (by kernel_rfl) rfl
theorem go53 {w0 : World} {args : List V} {σ : H} {R : V → H → Prop} (ha : args.length = 2) (h : H.ok σ → (∀ x ∈ args, V.Sz x) → W Tryz.prog w0 σ.length (Fin r53 σ.length R) [.code c53] ⟨argEnv args, σ⟩) : DC Tryz.prog w0 53 args σ R :=
  DC.of_code (by kernel_rfl) Tryz.func53 rfl tr53 tre53 (by rw [ha]; exact by decide) en53 h
/-- slices.Contains[[]string,string] -/
def c160 : AC :=
  .seq (.reg [⟨some 4, .mov (.k (.c (.bool false))), none⟩])
  (.seq (.reg [⟨some 5, .mov (.t 0), none⟩, ⟨some 6, .mov (.t 1), none⟩, ⟨some 7, .call (.k (.fn 199 [])) [(.t 5), (.t 6)], none⟩, ⟨some 8, .bin .geq (.t 7) (.k (.c (.int .i64 0))), none⟩, ⟨some 4, .mov (.t 8), none⟩])
  (.ret))
def r160 : List ResV := [.tmp 4]
theorem tr160 : tr Tryz.prog Tryz.f160.ntmps (Tryz.f160.body.getD .skip) = some c160 := by kernel_rfl
theorem tre160 : trRes Tryz.prog Tryz.f160.results.toList = some r160 := by kernel_rfl
theorem en160 : Enters Tryz.prog 160 := enters_fn Tryz.func160 (by kernel_rfl) rfl
theorem go160 {w0 : World} {args : List V} {σ : H} {R : V → H → Prop} (ha : args.length = 2) (h : H.ok σ → (∀ x ∈ args, V.Sz x) → W Tryz.prog w0 σ.length (Fin r160 σ.length R) [.code c160] ⟨argEnv args, σ⟩) : DC Tryz.prog w0 160 args σ R :=
  DC.of_code (by kernel_rfl) Tryz.func160 rfl tr160 tre160 (by rw [ha]; exact by decide) en160 h
/-- slices.Contains[[]api.TokKind,api.TokKind] -/
def c249 : AC :=
  .seq (.reg [⟨some 4, .mov (.k (.c (.bool false))), none⟩])
  (.seq (.reg [⟨some 5, .mov (.t 0), none⟩, ⟨some 6, .mov (.t 1), none⟩, ⟨some 7, .call (.k (.fn 269 [])) [(.t 5), (.t 6)], none⟩, ⟨some 8, .bin .geq (.t 7) (.k (.c (.int .i64 0))), none⟩, ⟨some 4, .mov (.t 8), none⟩])
  (.ret))
def r249 : List ResV := [.tmp 4]
theorem tr249 : tr Tryz.prog Tryz.f249.ntmps (Tryz.f249.body.getD .skip) = some c249 := by kernel_rfl
theorem tre249 : trRes Tryz.prog Tryz.f249.results.toList = some r249 := by kernel_rfl
theorem en249 : Enters Tryz.prog 249 := enters_fn Tryz.func249 (by kernel_rfl) rfl
theorem go249 {w0 : World} {args : List V} {σ : H} {R : V → H → Prop} (ha : args.length = 2) (h : H.ok σ → (∀ x ∈ args, V.Sz x) → W Tryz.prog w0 σ.length (Fin r249 σ.length R) [.code c249] ⟨argEnv args, σ⟩) : DC Tryz.prog w0 249 args σ R :=
  DC.of_code (by kernel_rfl) Tryz.func249 rfl tr249 tre249 (by rw [ha]; exact by decide) en249 h
/-- slices.Index[[]api.TokKind,api.TokKind] -/
def c269 : AC :=
  .seq (.reg [⟨some 4, .mov (.k (.c (.int .i64 0))), none⟩])
  (.seq (.seq (.reg [⟨some 6, .mov (.t 0), none⟩, ⟨some 7, .lenr (.t 6), none⟩, ⟨some 8, .mov (.k (.c (.int .i64 0))), none⟩])
  (.block 0 (.loop (.seq (.reg [⟨some 9, .bin .lss (.t 8) (.t 7), none⟩])
  (.seq (.cond (.t 9)
  (.skip)
  (.exit 0))
  (.seq (.block 1 (.seq (.reg [⟨some 10, .mov (.t 8), none⟩, ⟨some 5, .mov (.t 10), none⟩])
  (.seq (.reg [⟨some 11, .mov (.t 1), none⟩, ⟨some 12, .mov (.t 0), none⟩, ⟨some 13, .mov (.t 5), none⟩, ⟨some 14, .iadd 1 (.t 12) (.t 13), none⟩, ⟨some 15, .load1 (.t 14), none⟩, ⟨some 16, .bin .eql (.t 11) (.t 15), none⟩])
  (.cond (.t 16)
  (.seq (.reg [⟨some 17, .mov (.t 5), none⟩, ⟨some 4, .mov (.t 17), none⟩])
  (.ret))
  (.skip)))))
  (.reg [⟨some 18, .bin .add (.t 8) (.k (.c (.int .i64 1))), none⟩, ⟨some 8, .mov (.t 18), none⟩])))))))
  (.seq (.reg [⟨some 4, .mov (.k (.c (.int .i64 (-1)))), none⟩])
  (.ret)))
def r269 : List ResV := [.tmp 4]
theorem tr269 : tr Tryz.prog Tryz.f269.ntmps (Tryz.f269.body.getD .skip) = some c269 := by kernel_rfl
theorem tre269 : trRes Tryz.prog Tryz.f269.results.toList = some r269 := by kernel_rfl
theorem en269 : Enters Tryz.prog 269 := enters_fn Tryz.func269 (by kernel_rfl) rfl
theorem go269 {w0 : World} {args : List V} {σ : H} {R : V → H → Prop} (ha : args.length = 2) (h : H.ok σ → (∀ x ∈ args, V.Sz x) → W Tryz.prog w0 σ.length (Fin r269 σ.length R) [.code c269] ⟨argEnv args, σ⟩) : DC Tryz.prog w0 269 args σ R :=
  DC.of_code (by kernel_rfl) Tryz.func269 rfl tr269 tre269 (by rw [ha]; exact by decide) en269 h
/-- ops.Declare -/
def c60 : AC :=
  .seq (.reg [⟨some 3, .box (.t 1), none⟩, ⟨some 4, .mov (.k (.csl [])), none⟩, ⟨some 5, .mov (.k (.c (.int .i64 0))), none⟩])
  (.seq (.reg [⟨some 7, .mov (.t 0), none⟩, ⟨some 8, .loadn 3 (.t 3), none⟩, ⟨some 9, .call (.k (.fn 111 [])) [(.t 7), (.t 8)], none⟩, ⟨some 6, .mov (.t 9), none⟩])
  (.seq (.seq (.reg [⟨some 10, .mov (.t 6), none⟩, ⟨some 11, .bin .neq (.t 10) (.k (.c (.int .i64 0))), none⟩])
  (.cond (.t 11)
  (.seq (.reg [⟨some 12, .mov (.t 0), none⟩, ⟨some 13, .call (.k (.fn 112 [])) [(.t 12)], none⟩, ⟨some 14, .mov (.t 6), none⟩, ⟨some 4, .mov (.t 13), none⟩, ⟨some 5, .mov (.t 14), none⟩])
  (.ret))
  (.skip)))
  (.seq (.dreg [⟨some 15, .mov (.t 0), none⟩, ⟨some 16, .call (.k (.fn 112 [])) [(.t 15)], none⟩, ⟨some 17, .loadn 3 (.t 3), none⟩, ⟨some 18, .bsl 3 [(.t 17)], none⟩, ⟨some 19, .app 35 3 32 (.t 16) (.t 18), none⟩, ⟨some 4, .mov (.t 19), none⟩, ⟨some 5, .mov (.k (.c (.int .i64 0))), none⟩]
    [⟨⟨some 15, .mov (.t 0), none⟩, false, 0⟩, ⟨⟨some 16, .call (.k (.fn 112 [])) [(.t 15)], none⟩, true, 0⟩, ⟨⟨some 17, .loadn 3 (.t 3), none⟩, false, 0⟩, ⟨⟨some 18, .bsl 3 [(.t 17)], none⟩, false, 0⟩, ⟨⟨some 19, .app 35 3 32 (.t 16) (.t 18), none⟩, true, 1⟩, ⟨⟨some 4, .mov (.t 19), none⟩, false, 2⟩, ⟨⟨some 5, .mov (.k (.c (.int .i64 0))), none⟩, false, 2⟩])
  (.ret))))
def r60 : List ResV := [.tmp 4, .tmp 5]
theorem tr60 : tr Tryz.prog Tryz.f60.ntmps (Tryz.f60.body.getD .skip) = some c60 := by kernel_rfl
theorem tre60 : trRes Tryz.prog Tryz.f60.results.toList = some r60 := by kernel_rfl
theorem en60 : Enters Tryz.prog 60 := enters_fn Tryz.func60 (by kernel_rfl) rfl
theorem go60 {w0 : World} {args : List V} {σ : H} {R : V → H → Prop} (ha : args.length = 2) (h : H.ok σ → (∀ x ∈ args, V.Sz x) → W Tryz.prog w0 σ.length (Fin r60 σ.length R) [.code c60] ⟨argEnv args, σ⟩) : DC Tryz.prog w0 60 args σ R :=
  DC.of_code (by kernel_rfl) Tryz.func60 rfl tr60 tre60 (by rw [ha]; exact by decide) en60 h
/-- ops.wrong -/
def c111 : AC :=
  .seq (.reg [⟨some 3, .box (.t 1), none⟩, ⟨some 4, .mov (.k (.c (.int .i64 0))), none⟩])
  (.seq (.reg [⟨some 8, .mov (.t 0), none⟩, ⟨some 9, .fadd 0 (.t 3), none⟩, ⟨some 10, .load1 (.t 9), none⟩, ⟨some 11, .call (.k (.fn 177 [])) [(.t 8), (.t 10)], none⟩, ⟨some 7, .mov (.t 11), none⟩, ⟨some 12, .ext (.t 7) 0, none⟩, ⟨some 13, .ext (.t 7) 1, none⟩, ⟨some 5, .box (.k (.agg [.c (.str []), .c (.int .i64 0), .c (.int .i64 0)])), none⟩, ⟨none, .store 3 (.t 5) (.t 12), none⟩, ⟨some 6, .mov (.t 13), none⟩])
  (.seq (.block 0 (.seq (.reg [⟨some 15, .fadd 2 (.t 3), none⟩, ⟨some 16, .load1 (.t 15), none⟩, ⟨some 17, .bin .lss (.t 16) (.k (.c (.int .i64 0))), none⟩, ⟨some 18, .mov (.t 17), none⟩, ⟨some 19, .fadd 2 (.t 3), some (18, false)⟩, ⟨some 20, .load1 (.t 19), some (18, false)⟩, ⟨some 21, .bin .gtr (.t 20) (.k (.c (.int .i64 2))), some (18, false)⟩, ⟨some 22, .pick (.t 18) (.k (.c (.bool true))) (.t 21), none⟩, ⟨some 14, .mov (.t 22), none⟩])
  (.cond (.t 14)
  (.seq (.reg [⟨some 4, .mov (.k (.c (.int .i64 1))), none⟩])
  (.ret))
  (.seq (.reg [⟨some 24, .fadd 0 (.t 3), none⟩, ⟨some 25, .load1 (.t 24), none⟩, ⟨some 26, .call (.k (.fn 79 [])) [(.t 25)], none⟩, ⟨some 27, .un .not (.t 26), none⟩, ⟨some 28, .mov (.t 27), none⟩, ⟨some 29, .fadd 0 (.t 3), some (28, true)⟩, ⟨some 30, .load1 (.t 29), some (28, true)⟩, ⟨some 31, .call (.k (.fn 124 [])) [(.t 30)], some (28, true)⟩, ⟨some 32, .un .not (.t 31), some (28, true)⟩, ⟨some 33, .pick (.t 28) (.t 32) (.k (.c (.bool false))), none⟩, ⟨some 34, .mov (.t 33), none⟩, ⟨some 35, .fadd 0 (.t 3), some (34, false)⟩, ⟨some 36, .load1 (.t 35), some (34, false)⟩, ⟨some 37, .call (.k (.fn 178 [])) [(.t 36)], some (34, false)⟩, ⟨some 38, .pick (.t 34) (.k (.c (.bool true))) (.t 37), none⟩, ⟨some 23, .mov (.t 38), none⟩])
  (.cond (.t 23)
  (.seq (.reg [⟨some 4, .mov (.k (.c (.int .i64 20))), none⟩])
  (.ret))
  (.seq (.reg [⟨some 40, .fadd 1 (.t 3), none⟩, ⟨some 41, .load1 (.t 40), none⟩, ⟨some 42, .bin .lss (.t 41) (.k (.c (.int .i64 1))), none⟩, ⟨some 43, .mov (.t 42), none⟩, ⟨some 44, .fadd 1 (.t 3), some (43, false)⟩, ⟨some 45, .load1 (.t 44), some (43, false)⟩, ⟨some 46, .bin .gtr (.t 45) (.k (.c (.int .i64 200))), some (43, false)⟩, ⟨some 47, .pick (.t 43) (.k (.c (.bool true))) (.t 46), none⟩, ⟨some 39, .mov (.t 47), none⟩])
  (.cond (.t 39)
  (.seq (.reg [⟨some 4, .mov (.k (.c (.int .i64 21))), none⟩])
  (.ret))
  (.seq (.reg [⟨some 49, .mov (.t 6), none⟩, ⟨some 48, .mov (.t 49), none⟩])
  (.cond (.t 48)
  (.seq (.reg [⟨some 4, .mov (.k (.c (.int .i64 22))), none⟩])
  (.ret))
  (.seq (.reg [⟨some 51, .mov (.t 0), none⟩, ⟨some 52, .lenr (.t 51), none⟩, ⟨some 53, .bin .geq (.t 52) (.k (.c (.int .i64 64))), none⟩, ⟨some 50, .mov (.t 53), none⟩])
  (.cond (.t 50)
  (.seq (.reg [⟨some 4, .mov (.k (.c (.int .i64 23))), none⟩])
  (.ret))
  (.skip))))))))))))
  (.seq (.reg [⟨some 4, .mov (.k (.c (.int .i64 0))), none⟩])
  (.ret))))
def r111 : List ResV := [.tmp 4]
theorem tr111 : tr Tryz.prog Tryz.f111.ntmps (Tryz.f111.body.getD .skip) = some c111 := by kernel_rfl
theorem tre111 : trRes Tryz.prog Tryz.f111.results.toList = some r111 := by kernel_rfl
theorem en111 : Enters Tryz.prog 111 := enters_fn Tryz.func111 (by kernel_rfl) rfl
theorem go111 {w0 : World} {args : List V} {σ : H} {R : V → H → Prop} (ha : args.length = 2) (h : H.ok σ → (∀ x ∈ args, V.Sz x) → W Tryz.prog w0 σ.length (Fin r111 σ.length R) [.code c111] ⟨argEnv args, σ⟩) : DC Tryz.prog w0 111 args σ R :=
  DC.of_code (by kernel_rfl) Tryz.func111 rfl tr111 tre111 (by rw [ha]; exact by decide) en111 h
/-- ops.reserved -/
def c178 : AC :=
  .seq (.reg [⟨some 2, .mov (.k (.c (.bool false))), none⟩])
  (.seq (.seq (.reg [⟨some 3, .mov (.t 0), none⟩])
  (.block 0 (.seq (.seq (.reg [⟨some 5, .bin .eql (.t 3) (.k (.c (.str [33]))), none⟩, ⟨some 4, .mov (.t 5), none⟩])
  (.cond (.t 4)
  (.skip)
  (.seq (.reg [⟨some 6, .bin .eql (.t 3) (.k (.c (.str [45, 62]))), none⟩, ⟨some 4, .mov (.t 6), none⟩])
  (.cond (.t 4)
  (.skip)
  (.seq (.reg [⟨some 7, .bin .eql (.t 3) (.k (.c (.str [107, 105, 110, 100]))), none⟩, ⟨some 4, .mov (.t 7), none⟩])
  (.cond (.t 4)
  (.skip)
  (.seq (.reg [⟨some 8, .bin .eql (.t 3) (.k (.c (.str [116, 121, 112, 101]))), none⟩, ⟨some 4, .mov (.t 8), none⟩])
  (.cond (.t 4)
  (.skip)
  (.seq (.reg [⟨some 9, .bin .eql (.t 3) (.k (.c (.str [105, 110, 102, 105, 120]))), none⟩, ⟨some 4, .mov (.t 9), none⟩])
  (.cond (.t 4)
  (.skip)
  (.seq (.reg [⟨some 10, .bin .eql (.t 3) (.k (.c (.str [105, 110, 102, 105, 120, 108]))), none⟩, ⟨some 4, .mov (.t 10), none⟩])
  (.cond (.t 4)
  (.skip)
  (.reg [⟨some 11, .bin .eql (.t 3) (.k (.c (.str [105, 110, 102, 105, 120, 114]))), none⟩, ⟨some 4, .mov (.t 11), none⟩])))))))))))))
  (.cond (.t 4)
  (.seq (.reg [⟨some 2, .mov (.k (.c (.bool true))), none⟩])
  (.ret))
  (.skip)))))
  (.seq (.reg [⟨some 2, .mov (.k (.c (.bool false))), none⟩])
  (.ret)))
def r178 : List ResV := [.tmp 2]
theorem tr178 : tr Tryz.prog Tryz.f178.ntmps (Tryz.f178.body.getD .skip) = some c178 := by kernel_rfl
theorem tre178 : trRes Tryz.prog Tryz.f178.results.toList = some r178 := by kernel_rfl
theorem en178 : Enters Tryz.prog 178 := enters_fn Tryz.func178 (by kernel_rfl) rfl
theorem go178 {w0 : World} {args : List V} {σ : H} {R : V → H → Prop} (ha : args.length = 1) (h : H.ok σ → (∀ x ∈ args, V.Sz x) → W Tryz.prog w0 σ.length (Fin r178 σ.length R) [.code c178] ⟨argEnv args, σ⟩) : DC Tryz.prog w0 178 args σ R :=
  DC.of_code (by kernel_rfl) Tryz.func178 rfl tr178 tre178 (by rw [ha]; exact by decide) en178 h
/-- slices.Clone[[]api.Op,api.Op] -/
def c112 : AC :=
  .seq (.reg [⟨some 2, .mov (.k (.csl [])), none⟩])
  (.seq (.seq (.reg [⟨some 3, .mov (.t 0), none⟩, ⟨some 4, .eqz false (.t 3), none⟩])
  (.cond (.t 4)
  (.seq (.reg [⟨some 2, .mov (.k (.csl [])), none⟩])
  (.ret))
  (.skip)))
  (.seq (.reg [⟨some 5, .bsl 3 [], none⟩, ⟨some 6, .mov (.t 0), none⟩, ⟨some 7, .app 35 3 32 (.t 5) (.t 6), none⟩, ⟨some 2, .mov (.t 7), none⟩])
  (.ret)))
def r112 : List ResV := [.tmp 2]
theorem tr112 : tr Tryz.prog Tryz.f112.ntmps (Tryz.f112.body.getD .skip) = some c112 := by kernel_rfl
theorem tre112 : trRes Tryz.prog Tryz.f112.results.toList = some r112 := by kernel_rfl
theorem en112 : Enters Tryz.prog 112 := enters_fn Tryz.func112 (by kernel_rfl) rfl
end Go.Proofs.YtlogjjnimlnpkaaGreatDoor
namespace Go.Proofs.YtlogjjnimlnpkaaGreatDoor
open Go.RowKit Go.Lamb
/-- (*ty.reader).tok -/
def c131 : AC :=
  .seq (.reg [⟨some 2, .box (.k (.agg [.c (.int .i64 0), .c (.str []), .c (.int .i64 0), .c (.int .i64 0)])), none⟩])
  (.seq (.seq (.dreg [⟨some 3, .mov (.t 0), none⟩, ⟨some 4, .nilck (.t 3), none⟩, ⟨some 5, .fadd 1 (.t 4), none⟩, ⟨some 6, .load1 (.t 5), none⟩, ⟨some 7, .bin .leq (.k (.c (.int .i64 0))) (.t 6), none⟩, ⟨some 8, .mov (.t 7), none⟩, ⟨some 9, .mov (.t 0), some (8, true)⟩, ⟨some 10, .nilck (.t 9), some (8, true)⟩, ⟨some 11, .fadd 1 (.t 10), some (8, true)⟩, ⟨some 12, .load1 (.t 11), some (8, true)⟩, ⟨some 13, .mov (.t 0), some (8, true)⟩, ⟨some 14, .nilck (.t 13), some (8, true)⟩, ⟨some 15, .fadd 0 (.t 14), some (8, true)⟩, ⟨some 16, .load1 (.t 15), some (8, true)⟩, ⟨some 17, .lenr (.t 16), some (8, true)⟩, ⟨some 18, .bin .lss (.t 12) (.t 17), some (8, true)⟩, ⟨some 19, .pick (.t 8) (.t 18) (.k (.c (.bool false))), none⟩]
    [⟨⟨some 3, .mov (.t 0), none⟩, false, 0⟩, ⟨⟨some 4, .nilck (.t 3), none⟩, false, 0⟩, ⟨⟨some 5, .fadd 1 (.t 4), none⟩, false, 0⟩, ⟨⟨some 6, .load1 (.t 5), none⟩, false, 0⟩, ⟨⟨some 7, .bin .leq (.k (.c (.int .i64 0))) (.t 6), none⟩, false, 0⟩, ⟨⟨some 8, .mov (.t 7), none⟩, false, 0⟩, ⟨⟨some 9, .mov (.t 0), some (8, true)⟩, false, 0⟩, ⟨⟨some 10, .nilck (.t 9), some (8, true)⟩, false, 0⟩, ⟨⟨some 11, .fadd 1 (.t 10), some (8, true)⟩, false, 0⟩, ⟨⟨some 12, .load1 (.t 11), some (8, true)⟩, false, 0⟩, ⟨⟨some 13, .mov (.t 0), some (8, true)⟩, false, 0⟩, ⟨⟨some 14, .nilck (.t 13), some (8, true)⟩, false, 0⟩, ⟨⟨some 15, .fadd 0 (.t 14), some (8, true)⟩, false, 0⟩, ⟨⟨some 16, .load1 (.t 15), some (8, true)⟩, false, 0⟩, ⟨⟨some 17, .lenr (.t 16), some (8, true)⟩, false, 0⟩, ⟨⟨some 18, .bin .lss (.t 12) (.t 17), some (8, true)⟩, false, 0⟩, ⟨⟨some 19, .pick (.t 8) (.t 18) (.k (.c (.bool false))), none⟩, false, 0⟩])
  (.cond (.t 19)
  (.seq (.dreg [⟨some 20, .mov (.t 0), none⟩, ⟨some 21, .nilck (.t 20), none⟩, ⟨some 22, .fadd 0 (.t 21), none⟩, ⟨some 23, .load1 (.t 22), none⟩, ⟨some 24, .mov (.t 0), none⟩, ⟨some 25, .nilck (.t 24), none⟩, ⟨some 26, .fadd 1 (.t 25), none⟩, ⟨some 27, .load1 (.t 26), none⟩, ⟨some 28, .iadd 4 (.t 23) (.t 27), none⟩, ⟨some 29, .loadn 4 (.t 28), none⟩, ⟨none, .store 4 (.t 2) (.t 29), none⟩]
    [⟨⟨some 20, .mov (.t 0), none⟩, false, 0⟩, ⟨⟨some 21, .nilck (.t 20), none⟩, false, 0⟩, ⟨⟨some 22, .fadd 0 (.t 21), none⟩, false, 0⟩, ⟨⟨some 23, .load1 (.t 22), none⟩, false, 0⟩, ⟨⟨some 24, .mov (.t 0), none⟩, false, 0⟩, ⟨⟨some 25, .nilck (.t 24), none⟩, false, 0⟩, ⟨⟨some 26, .fadd 1 (.t 25), none⟩, false, 0⟩, ⟨⟨some 27, .load1 (.t 26), none⟩, false, 0⟩, ⟨⟨some 28, .iadd 4 (.t 23) (.t 27), none⟩, false, 0⟩, ⟨⟨some 29, .loadn 4 (.t 28), none⟩, false, 0⟩, ⟨⟨none, .store 4 (.t 2) (.t 29), none⟩, true, 0⟩])
  (.ret))
  (.skip)))
  (.seq (.seq (.reg [⟨some 30, .mov (.t 0), none⟩, ⟨some 31, .nilck (.t 30), none⟩, ⟨some 32, .fadd 0 (.t 31), none⟩, ⟨some 33, .load1 (.t 32), none⟩, ⟨some 34, .lenr (.t 33), none⟩, ⟨some 35, .bin .gtr (.t 34) (.k (.c (.int .i64 0))), none⟩])
  (.cond (.t 35)
  (.seq (.dreg [⟨some 36, .mov (.t 0), none⟩, ⟨some 37, .nilck (.t 36), none⟩, ⟨some 38, .fadd 0 (.t 37), none⟩, ⟨some 39, .load1 (.t 38), none⟩, ⟨some 40, .mov (.t 0), none⟩, ⟨some 41, .nilck (.t 40), none⟩, ⟨some 42, .fadd 0 (.t 41), none⟩, ⟨some 43, .load1 (.t 42), none⟩, ⟨some 44, .lenr (.t 43), none⟩, ⟨some 45, .bin .sub (.t 44) (.k (.c (.int .i64 1))), none⟩, ⟨some 46, .iadd 4 (.t 39) (.t 45), none⟩, ⟨some 47, .fadd 3 (.t 46), none⟩, ⟨some 48, .load1 (.t 47), none⟩, ⟨some 49, .build [.c (.int .i64 0), .c (.str []), .c (.int .i64 0), .c (.int .i64 0)] [(3, 1, (.t 48))], none⟩, ⟨none, .store 4 (.t 2) (.t 49), none⟩]
    [⟨⟨some 36, .mov (.t 0), none⟩, false, 0⟩, ⟨⟨some 37, .nilck (.t 36), none⟩, false, 0⟩, ⟨⟨some 38, .fadd 0 (.t 37), none⟩, false, 0⟩, ⟨⟨some 39, .load1 (.t 38), none⟩, false, 0⟩, ⟨⟨some 40, .mov (.t 0), none⟩, false, 0⟩, ⟨⟨some 41, .nilck (.t 40), none⟩, false, 0⟩, ⟨⟨some 42, .fadd 0 (.t 41), none⟩, false, 0⟩, ⟨⟨some 43, .load1 (.t 42), none⟩, false, 0⟩, ⟨⟨some 44, .lenr (.t 43), none⟩, false, 0⟩, ⟨⟨some 45, .bin .sub (.t 44) (.k (.c (.int .i64 1))), none⟩, false, 0⟩, ⟨⟨some 46, .iadd 4 (.t 39) (.t 45), none⟩, false, 0⟩, ⟨⟨some 47, .fadd 3 (.t 46), none⟩, false, 0⟩, ⟨⟨some 48, .load1 (.t 47), none⟩, false, 0⟩, ⟨⟨some 49, .build [.c (.int .i64 0), .c (.str []), .c (.int .i64 0), .c (.int .i64 0)] [(3, 1, (.t 48))], none⟩, false, 0⟩, ⟨⟨none, .store 4 (.t 2) (.t 49), none⟩, true, 0⟩])
  (.ret))
  (.skip)))
  (.seq (.reg [⟨some 50, .build [.c (.int .i64 0), .c (.str []), .c (.int .i64 0), .c (.int .i64 0)] [], none⟩, ⟨none, .store 4 (.t 2) (.t 50), none⟩])
  (.ret))))
def r131 : List ResV := [.celln 4 2]
theorem tr131 : tr Tryz.prog Tryz.f131.ntmps (Tryz.f131.body.getD .skip) = some c131 := by kernel_rfl
theorem tre131 : trRes Tryz.prog Tryz.f131.results.toList = some r131 := by kernel_rfl
theorem en131 : Enters Tryz.prog 131 := enters_fn Tryz.func131 (by kernel_rfl) rfl
theorem go131 {w0 : World} {args : List V} {σ : H} {R : V → H → Prop} (ha : args.length = 1) (h : H.ok σ → (∀ x ∈ args, V.Sz x) → W Tryz.prog w0 σ.length (Fin r131 σ.length R) [.code c131] ⟨argEnv args, σ⟩) : DC Tryz.prog w0 131 args σ R :=
  DC.of_code (by kernel_rfl) Tryz.func131 rfl tr131 tre131 (by rw [ha]; exact by decide) en131 h
/-- (*ty.reader).fail -/
def c185 : AC :=
  .seq (.reg [⟨some 6, .mov (.t 0), none⟩, ⟨some 7, .nilck (.t 6), none⟩, ⟨some 8, .fadd 3 (.t 7), none⟩, ⟨some 9, .load1 (.t 8), none⟩, ⟨some 10, .bin .eql (.t 9) (.k (.c (.int .i64 0))), none⟩])
  (.cond (.t 10)
  (.reg [⟨some 11, .mov (.t 0), none⟩, ⟨some 12, .mov (.t 0), none⟩, ⟨some 13, .mov (.t 1), none⟩, ⟨some 14, .mov (.t 2), none⟩, ⟨some 15, .nilck (.t 11), none⟩, ⟨some 16, .fadd 3 (.t 15), none⟩, ⟨none, .store 1 (.t 16) (.t 13), none⟩, ⟨some 17, .nilck (.t 12), none⟩, ⟨some 18, .fadd 4 (.t 17), none⟩, ⟨none, .store 1 (.t 18) (.t 14), none⟩])
  (.skip))
def r185 : List ResV := []
theorem tr185 : tr Tryz.prog Tryz.f185.ntmps (Tryz.f185.body.getD .skip) = some c185 := by kernel_rfl
theorem tre185 : trRes Tryz.prog Tryz.f185.results.toList = some r185 := by kernel_rfl
theorem en185 : Enters Tryz.prog 185 := enters_fn Tryz.func185 (by kernel_rfl) rfl
theorem go185 {w0 : World} {args : List V} {σ : H} {R : V → H → Prop} (ha : args.length = 3) (h : H.ok σ → (∀ x ∈ args, V.Sz x) → W Tryz.prog w0 σ.length (Fin r185 σ.length R) [.code c185] ⟨argEnv args, σ⟩) : DC Tryz.prog w0 185 args σ R :=
  DC.of_code (by kernel_rfl) Tryz.func185 rfl tr185 tre185 (by rw [ha]; exact by decide) en185 h
/-- (*ty.reader).begins -/
def c133 : AC :=
  .seq (.reg [⟨some 2, .mov (.k (.c (.bool false))), none⟩])
  (.seq (.seq (.reg [⟨some 3, .mov (.t 0), none⟩, ⟨some 4, .call (.k (.fn 131 [])) [(.t 3)], none⟩, ⟨some 5, .field1 0 (.t 4), none⟩])
  (.block 0 (.seq (.seq (.reg [⟨some 7, .bin .eql (.t 5) (.k (.c (.int .i64 1))), none⟩, ⟨some 6, .mov (.t 7), none⟩])
  (.cond (.t 6)
  (.skip)
  (.seq (.reg [⟨some 8, .bin .eql (.t 5) (.k (.c (.int .i64 2))), none⟩, ⟨some 6, .mov (.t 8), none⟩])
  (.cond (.t 6)
  (.skip)
  (.reg [⟨some 9, .bin .eql (.t 5) (.k (.c (.int .i64 5))), none⟩, ⟨some 6, .mov (.t 9), none⟩])))))
  (.cond (.t 6)
  (.seq (.reg [⟨some 2, .mov (.k (.c (.bool true))), none⟩])
  (.ret))
  (.skip)))))
  (.seq (.reg [⟨some 2, .mov (.k (.c (.bool false))), none⟩])
  (.ret)))
def r133 : List ResV := [.tmp 2]
theorem tr133 : tr Tryz.prog Tryz.f133.ntmps (Tryz.f133.body.getD .skip) = some c133 := by kernel_rfl
theorem tre133 : trRes Tryz.prog Tryz.f133.results.toList = some r133 := by kernel_rfl
theorem en133 : Enters Tryz.prog 133 := enters_fn Tryz.func133 (by kernel_rfl) rfl
theorem go133 {w0 : World} {args : List V} {σ : H} {R : V → H → Prop} (ha : args.length = 1) (h : H.ok σ → (∀ x ∈ args, V.Sz x) → W Tryz.prog w0 σ.length (Fin r133 σ.length R) [.code c133] ⟨argEnv args, σ⟩) : DC Tryz.prog w0 133 args σ R :=
  DC.of_code (by kernel_rfl) Tryz.func133 rfl tr133 tre133 (by rw [ha]; exact by decide) en133 h
/-- slices.Index[[]string,string] -/
def c199 : AC :=
  .seq (.reg [⟨some 4, .mov (.k (.c (.int .i64 0))), none⟩])
  (.seq (.seq (.reg [⟨some 6, .mov (.t 0), none⟩, ⟨some 7, .lenr (.t 6), none⟩, ⟨some 8, .mov (.k (.c (.int .i64 0))), none⟩])
  (.block 0 (.loop (.seq (.reg [⟨some 9, .bin .lss (.t 8) (.t 7), none⟩])
  (.seq (.cond (.t 9)
  (.skip)
  (.exit 0))
  (.seq (.block 1 (.seq (.reg [⟨some 10, .mov (.t 8), none⟩, ⟨some 5, .mov (.t 10), none⟩])
  (.seq (.reg [⟨some 11, .mov (.t 1), none⟩, ⟨some 12, .mov (.t 0), none⟩, ⟨some 13, .mov (.t 5), none⟩, ⟨some 14, .iadd 1 (.t 12) (.t 13), none⟩, ⟨some 15, .load1 (.t 14), none⟩, ⟨some 16, .bin .eql (.t 11) (.t 15), none⟩])
  (.cond (.t 16)
  (.seq (.reg [⟨some 17, .mov (.t 5), none⟩, ⟨some 4, .mov (.t 17), none⟩])
  (.ret))
  (.skip)))))
  (.reg [⟨some 18, .bin .add (.t 8) (.k (.c (.int .i64 1))), none⟩, ⟨some 8, .mov (.t 18), none⟩])))))))
  (.seq (.reg [⟨some 4, .mov (.k (.c (.int .i64 (-1)))), none⟩])
  (.ret)))
def r199 : List ResV := [.tmp 4]
theorem tr199 : tr Tryz.prog Tryz.f199.ntmps (Tryz.f199.body.getD .skip) = some c199 := by kernel_rfl
theorem tre199 : trRes Tryz.prog Tryz.f199.results.toList = some r199 := by kernel_rfl
theorem en199 : Enters Tryz.prog 199 := enters_fn Tryz.func199 (by kernel_rfl) rfl
theorem go199 {w0 : World} {args : List V} {σ : H} {R : V → H → Prop} (ha : args.length = 2) (h : H.ok σ → (∀ x ∈ args, V.Sz x) → W Tryz.prog w0 σ.length (Fin r199 σ.length R) [.code c199] ⟨argEnv args, σ⟩) : DC Tryz.prog w0 199 args σ R :=
  DC.of_code (by kernel_rfl) Tryz.func199 rfl tr199 tre199 (by rw [ha]; exact by decide) en199 h
/-- ty.variable -/
def c88 : AC :=
  .seq (.reg [⟨some 2, .box (.k (.agg [.c (.int .i64 0), .c (.str []), .c (.int .i64 0), .csl []])), none⟩])
  (.seq (.reg [⟨some 3, .mov (.t 0), none⟩, ⟨some 4, .build [.c (.int .i64 0), .c (.str []), .c (.int .i64 0), .csl []] [(0, 1, (.k (.c (.int .i64 1)))), (2, 1, (.t 3))], none⟩, ⟨none, .store 4 (.t 2) (.t 4), none⟩])
  (.ret))
def r88 : List ResV := [.celln 4 2]
theorem tr88 : tr Tryz.prog Tryz.f88.ntmps (Tryz.f88.body.getD .skip) = some c88 := by kernel_rfl
theorem tre88 : trRes Tryz.prog Tryz.f88.results.toList = some r88 := by kernel_rfl
theorem en88 : Enters Tryz.prog 88 := enters_fn Tryz.func88 (by kernel_rfl) rfl
theorem go88 {w0 : World} {args : List V} {σ : H} {R : V → H → Prop} (ha : args.length = 1) (h : H.ok σ → (∀ x ∈ args, V.Sz x) → W Tryz.prog w0 σ.length (Fin r88 σ.length R) [.code c88] ⟨argEnv args, σ⟩) : DC Tryz.prog w0 88 args σ R :=
  DC.of_code (by kernel_rfl) Tryz.func88 rfl tr88 tre88 (by rw [ha]; exact by decide) en88 h
/-- (*ty.reader).variable -/
def c186 : AC :=
  .seq (.reg [⟨some 4, .box (.k (.agg [.c (.int .i64 0), .c (.str []), .c (.int .i64 0), .csl []])), none⟩])
  (.seq (.reg [⟨some 6, .mov (.t 0), none⟩, ⟨some 7, .nilck (.t 6), none⟩, ⟨some 8, .fadd 2 (.t 7), none⟩, ⟨some 9, .load1 (.t 8), none⟩, ⟨some 10, .mov (.t 1), none⟩, ⟨some 11, .call (.k (.fn 199 [])) [(.t 9), (.t 10)], none⟩, ⟨some 5, .mov (.t 11), none⟩])
  (.seq (.seq (.reg [⟨some 12, .mov (.t 5), none⟩, ⟨some 13, .bin .lss (.t 12) (.k (.c (.int .i64 0))), none⟩])
  (.cond (.t 13)
  (.seq (.reg [⟨some 14, .mov (.t 0), none⟩, ⟨some 15, .nilck (.t 14), none⟩, ⟨some 16, .fadd 2 (.t 15), none⟩, ⟨some 17, .load1 (.t 16), none⟩, ⟨some 18, .lenr (.t 17), none⟩, ⟨some 5, .mov (.t 18), none⟩])
  (.reg [⟨some 19, .mov (.t 0), none⟩, ⟨some 20, .mov (.t 0), none⟩, ⟨some 21, .nilck (.t 20), none⟩, ⟨some 22, .fadd 2 (.t 21), none⟩, ⟨some 23, .load1 (.t 22), none⟩, ⟨some 24, .mov (.t 1), none⟩, ⟨some 25, .bsl 1 [(.t 24)], none⟩, ⟨some 26, .app 9 1 16 (.t 23) (.t 25), none⟩, ⟨some 27, .nilck (.t 19), none⟩, ⟨some 28, .fadd 2 (.t 27), none⟩, ⟨none, .store 1 (.t 28) (.t 26), none⟩]))
  (.skip)))
  (.seq (.reg [⟨some 29, .mov (.t 5), none⟩, ⟨some 30, .call (.k (.fn 88 [])) [(.t 29)], none⟩, ⟨none, .store 4 (.t 4) (.t 30), none⟩])
  (.ret))))
def r186 : List ResV := [.celln 4 4]
theorem tr186 : tr Tryz.prog Tryz.f186.ntmps (Tryz.f186.body.getD .skip) = some c186 := by kernel_rfl
theorem tre186 : trRes Tryz.prog Tryz.f186.results.toList = some r186 := by kernel_rfl
theorem en186 : Enters Tryz.prog 186 := enters_fn Tryz.func186 (by kernel_rfl) rfl
theorem go186 {w0 : World} {args : List V} {σ : H} {R : V → H → Prop} (ha : args.length = 2) (h : H.ok σ → (∀ x ∈ args, V.Sz x) → W Tryz.prog w0 σ.length (Fin r186 σ.length R) [.code c186] ⟨argEnv args, σ⟩) : DC Tryz.prog w0 186 args σ R :=
  DC.of_code (by kernel_rfl) Tryz.func186 rfl tr186 tre186 (by rw [ha]; exact by decide) en186 h
/-- (*ty.reader).inner -/
def c134 : AC :=
  .seq (.reg [⟨some 5, .box (.t 2), none⟩, ⟨some 6, .box (.k (.agg [.c (.int .i64 0), .c (.str []), .c (.int .i64 0), .csl []])), none⟩])
  (.seq (.seq (.reg [⟨some 7, .mov (.t 1), none⟩, ⟨some 8, .bin .geq (.t 7) (.k (.c (.int .i64 200))), none⟩])
  (.cond (.t 8)
  (.seq (.reg [⟨some 9, .mov (.t 0), none⟩, ⟨some 10, .fadd 3 (.t 5), none⟩, ⟨some 11, .load1 (.t 10), none⟩, ⟨some 12, .call (.k (.fn 185 [])) [(.t 9), (.k (.c (.int .i64 31))), (.t 11)], none⟩])
  (.seq (.reg [⟨some 13, .build [.c (.int .i64 0), .c (.str []), .c (.int .i64 0), .csl []] [], none⟩, ⟨none, .store 4 (.t 6) (.t 13), none⟩])
  (.ret)))
  (.skip)))
  (.seq (.reg [⟨some 14, .mov (.t 0), none⟩, ⟨some 15, .mov (.t 1), none⟩, ⟨some 16, .bin .add (.t 15) (.k (.c (.int .i64 1))), none⟩, ⟨some 17, .call (.k (.fn 76 [])) [(.t 14), (.t 16)], none⟩, ⟨none, .store 4 (.t 6) (.t 17), none⟩])
  (.ret)))
def r134 : List ResV := [.celln 4 6]
theorem tr134 : tr Tryz.prog Tryz.f134.ntmps (Tryz.f134.body.getD .skip) = some c134 := by kernel_rfl
theorem tre134 : trRes Tryz.prog Tryz.f134.results.toList = some r134 := by kernel_rfl
theorem en134 : Enters Tryz.prog 134 := enters_fn Tryz.func134 (by kernel_rfl) rfl
theorem go134 {w0 : World} {args : List V} {σ : H} {R : V → H → Prop} (ha : args.length = 3) (h : H.ok σ → (∀ x ∈ args, V.Sz x) → W Tryz.prog w0 σ.length (Fin r134 σ.length R) [.code c134] ⟨argEnv args, σ⟩) : DC Tryz.prog w0 134 args σ R :=
  DC.of_code (by kernel_rfl) Tryz.func134 rfl tr134 tre134 (by rw [ha]; exact by decide) en134 h
/-- (*ty.reader).atom -/
def c132 : AC :=
  .seq (.reg [⟨some 4, .box (.k (.agg [.c (.int .i64 0), .c (.str []), .c (.int .i64 0), .csl []])), none⟩])
  (.seq (.reg [⟨some 8, .mov (.t 0), none⟩, ⟨some 9, .call (.k (.fn 131 [])) [(.t 8)], none⟩, ⟨some 5, .box (.k (.agg [.c (.int .i64 0), .c (.str []), .c (.int .i64 0), .c (.int .i64 0)])), none⟩, ⟨none, .store 4 (.t 5) (.t 9), none⟩])
  (.seq (.seq (.reg [⟨some 10, .mov (.t 0), none⟩, ⟨some 11, .call (.k (.fn 133 [])) [(.t 10)], none⟩, ⟨some 12, .un .not (.t 11), none⟩])
  (.cond (.t 12)
  (.seq (.reg [⟨some 13, .mov (.t 0), none⟩, ⟨some 14, .fadd 3 (.t 5), none⟩, ⟨some 15, .load1 (.t 14), none⟩, ⟨some 16, .call (.k (.fn 185 [])) [(.t 13), (.k (.c (.int .i64 50))), (.t 15)], none⟩])
  (.seq (.reg [⟨some 17, .build [.c (.int .i64 0), .c (.str []), .c (.int .i64 0), .csl []] [], none⟩, ⟨none, .store 4 (.t 4) (.t 17), none⟩])
  (.ret)))
  (.skip)))
  (.seq (.reg [⟨some 18, .mov (.t 0), none⟩, ⟨some 19, .nilck (.t 18), none⟩, ⟨some 20, .fadd 1 (.t 19), none⟩, ⟨some 21, .load1 (.t 20), none⟩, ⟨some 22, .bin .add (.t 21) (.k (.c (.int .i64 1))), none⟩, ⟨some 23, .nilck (.t 18), none⟩, ⟨some 24, .fadd 1 (.t 23), none⟩, ⟨none, .store 1 (.t 24) (.t 22), none⟩])
  (.seq (.seq (.reg [⟨some 25, .fadd 0 (.t 5), none⟩, ⟨some 26, .load1 (.t 25), none⟩])
  (.block 0 (.seq (.reg [⟨some 28, .bin .eql (.t 26) (.k (.c (.int .i64 1))), none⟩, ⟨some 27, .mov (.t 28), none⟩])
  (.cond (.t 27)
  (.seq (.reg [⟨some 29, .fadd 1 (.t 5), none⟩, ⟨some 30, .load1 (.t 29), none⟩, ⟨some 31, .build [.c (.int .i64 0), .c (.str []), .c (.int .i64 0), .csl []] [(0, 1, (.k (.c (.int .i64 0)))), (1, 1, (.t 30))], none⟩, ⟨none, .store 4 (.t 4) (.t 31), none⟩])
  (.ret))
  (.seq (.reg [⟨some 33, .bin .eql (.t 26) (.k (.c (.int .i64 2))), none⟩, ⟨some 32, .mov (.t 33), none⟩])
  (.cond (.t 32)
  (.seq (.reg [⟨some 34, .mov (.t 0), none⟩, ⟨some 35, .fadd 1 (.t 5), none⟩, ⟨some 36, .load1 (.t 35), none⟩, ⟨some 37, .call (.k (.fn 186 [])) [(.t 34), (.t 36)], none⟩, ⟨none, .store 4 (.t 4) (.t 37), none⟩])
  (.ret))
  (.skip)))))))
  (.seq (.reg [⟨some 38, .mov (.t 0), none⟩, ⟨some 39, .mov (.t 1), none⟩, ⟨some 40, .loadn 4 (.t 5), none⟩, ⟨some 41, .call (.k (.fn 134 [])) [(.t 38), (.t 39), (.t 40)], none⟩, ⟨some 6, .box (.k (.agg [.c (.int .i64 0), .c (.str []), .c (.int .i64 0), .csl []])), none⟩, ⟨none, .store 4 (.t 6) (.t 41), none⟩])
  (.seq (.seq (.reg [⟨some 42, .mov (.t 0), none⟩, ⟨some 43, .call (.k (.fn 131 [])) [(.t 42)], none⟩, ⟨some 7, .box (.k (.agg [.c (.int .i64 0), .c (.str []), .c (.int .i64 0), .c (.int .i64 0)])), none⟩, ⟨none, .store 4 (.t 7) (.t 43), none⟩])
  (.seq (.reg [⟨some 44, .fadd 0 (.t 7), none⟩, ⟨some 45, .load1 (.t 44), none⟩, ⟨some 46, .bin .neq (.t 45) (.k (.c (.int .i64 6))), none⟩])
  (.cond (.t 46)
  (.reg [⟨some 47, .mov (.t 0), none⟩, ⟨some 48, .fadd 3 (.t 7), none⟩, ⟨some 49, .load1 (.t 48), none⟩, ⟨some 50, .call (.k (.fn 185 [])) [(.t 47), (.k (.c (.int .i64 50))), (.t 49)], none⟩])
  (.skip))))
  (.seq (.reg [⟨some 51, .mov (.t 0), none⟩, ⟨some 52, .nilck (.t 51), none⟩, ⟨some 53, .fadd 1 (.t 52), none⟩, ⟨some 54, .load1 (.t 53), none⟩, ⟨some 55, .bin .add (.t 54) (.k (.c (.int .i64 1))), none⟩, ⟨some 56, .nilck (.t 51), none⟩, ⟨some 57, .fadd 1 (.t 56), none⟩, ⟨none, .store 1 (.t 57) (.t 55), none⟩])
  (.seq (.reg [⟨some 58, .loadn 4 (.t 6), none⟩, ⟨none, .store 4 (.t 4) (.t 58), none⟩])
  (.ret)))))))))
def r132 : List ResV := [.celln 4 4]
theorem tr132 : tr Tryz.prog Tryz.f132.ntmps (Tryz.f132.body.getD .skip) = some c132 := by kernel_rfl
theorem tre132 : trRes Tryz.prog Tryz.f132.results.toList = some r132 := by kernel_rfl
theorem en132 : Enters Tryz.prog 132 := enters_fn Tryz.func132 (by kernel_rfl) rfl
theorem go132 {w0 : World} {args : List V} {σ : H} {R : V → H → Prop} (ha : args.length = 2) (h : H.ok σ → (∀ x ∈ args, V.Sz x) → W Tryz.prog w0 σ.length (Fin r132 σ.length R) [.code c132] ⟨argEnv args, σ⟩) : DC Tryz.prog w0 132 args σ R :=
  DC.of_code (by kernel_rfl) Tryz.func132 rfl tr132 tre132 (by rw [ha]; exact by decide) en132 h
/-- (*ty.reader).read -/
def c76 : AC :=
  .seq (.reg [⟨some 4, .box (.k (.agg [.c (.int .i64 0), .c (.str []), .c (.int .i64 0), .csl []])), none⟩])
  (.seq (.reg [⟨some 8, .mov (.t 0), none⟩, ⟨some 9, .call (.k (.fn 131 [])) [(.t 8)], none⟩, ⟨some 10, .field1 0 (.t 9), none⟩, ⟨some 11, .bin .eql (.t 10) (.k (.c (.int .i64 1))), none⟩, ⟨some 5, .mov (.t 11), none⟩])
  (.seq (.reg [⟨some 12, .mov (.t 0), none⟩, ⟨some 13, .mov (.t 1), none⟩, ⟨some 14, .call (.k (.fn 132 [])) [(.t 12), (.t 13)], none⟩, ⟨some 6, .box (.k (.agg [.c (.int .i64 0), .c (.str []), .c (.int .i64 0), .csl []])), none⟩, ⟨none, .store 4 (.t 6) (.t 14), none⟩])
  (.seq (.block 0 (.loop (.seq (.seq (.reg [⟨some 15, .mov (.t 5), none⟩, ⟨some 16, .mov (.t 15), none⟩, ⟨some 17, .mov (.t 0), some (16, true)⟩, ⟨some 18, .nilck (.t 17), some (16, true)⟩, ⟨some 19, .fadd 3 (.t 18), some (16, true)⟩, ⟨some 20, .load1 (.t 19), some (16, true)⟩, ⟨some 21, .bin .eql (.t 20) (.k (.c (.int .i64 0))), some (16, true)⟩, ⟨some 22, .pick (.t 16) (.t 21) (.k (.c (.bool false))), none⟩, ⟨some 23, .mov (.t 22), none⟩, ⟨some 24, .mov (.t 0), some (23, true)⟩, ⟨some 25, .call (.k (.fn 133 [])) [(.t 24)], some (23, true)⟩, ⟨some 26, .pick (.t 23) (.t 25) (.k (.c (.bool false))), none⟩])
  (.cond (.t 26)
  (.skip)
  (.exit 0)))
  (.block 1 (.dreg [⟨some 27, .fadd 3 (.t 6), none⟩, ⟨some 28, .load1 (.t 27), none⟩, ⟨some 29, .mov (.t 0), none⟩, ⟨some 30, .mov (.t 1), none⟩, ⟨some 31, .call (.k (.fn 132 [])) [(.t 29), (.t 30)], none⟩, ⟨some 32, .bsl 4 [(.t 31)], none⟩, ⟨some 33, .app 32 4 56 (.t 28) (.t 32), none⟩, ⟨some 34, .fadd 3 (.t 6), none⟩, ⟨none, .store 1 (.t 34) (.t 33), none⟩]
    [⟨⟨some 29, .mov (.t 0), none⟩, false, 0⟩, ⟨⟨some 30, .mov (.t 1), none⟩, false, 0⟩, ⟨⟨some 31, .call (.k (.fn 132 [])) [(.t 29), (.t 30)], none⟩, true, 0⟩, ⟨⟨some 27, .fadd 3 (.t 6), none⟩, false, 0⟩, ⟨⟨some 28, .load1 (.t 27), none⟩, false, 0⟩, ⟨⟨some 32, .bsl 4 [(.t 31)], none⟩, false, 1⟩, ⟨⟨some 33, .app 32 4 56 (.t 28) (.t 32), none⟩, true, 1⟩, ⟨⟨some 34, .fadd 3 (.t 6), none⟩, false, 2⟩, ⟨⟨none, .store 1 (.t 34) (.t 33), none⟩, true, 2⟩])))))
  (.seq (.reg [⟨some 35, .mov (.t 0), none⟩, ⟨some 36, .call (.k (.fn 131 [])) [(.t 35)], none⟩, ⟨some 7, .box (.k (.agg [.c (.int .i64 0), .c (.str []), .c (.int .i64 0), .c (.int .i64 0)])), none⟩, ⟨none, .store 4 (.t 7) (.t 36), none⟩])
  (.seq (.seq (.reg [⟨some 37, .mov (.t 0), none⟩, ⟨some 38, .nilck (.t 37), none⟩, ⟨some 39, .fadd 3 (.t 38), none⟩, ⟨some 40, .load1 (.t 39), none⟩, ⟨some 41, .bin .neq (.t 40) (.k (.c (.int .i64 0))), none⟩, ⟨some 42, .mov (.t 41), none⟩, ⟨some 43, .fadd 0 (.t 7), some (42, false)⟩, ⟨some 44, .load1 (.t 43), some (42, false)⟩, ⟨some 45, .bin .neq (.t 44) (.k (.c (.int .i64 4))), some (42, false)⟩, ⟨some 46, .pick (.t 42) (.k (.c (.bool true))) (.t 45), none⟩, ⟨some 47, .mov (.t 46), none⟩, ⟨some 48, .fadd 1 (.t 7), some (47, false)⟩, ⟨some 49, .load1 (.t 48), some (47, false)⟩, ⟨some 50, .bin .neq (.t 49) (.k (.c (.str [45, 62]))), some (47, false)⟩, ⟨some 51, .pick (.t 47) (.k (.c (.bool true))) (.t 50), none⟩])
  (.cond (.t 51)
  (.seq (.reg [⟨some 52, .loadn 4 (.t 6), none⟩, ⟨none, .store 4 (.t 4) (.t 52), none⟩])
  (.ret))
  (.skip)))
  (.seq (.reg [⟨some 53, .mov (.t 0), none⟩, ⟨some 54, .nilck (.t 53), none⟩, ⟨some 55, .fadd 1 (.t 54), none⟩, ⟨some 56, .load1 (.t 55), none⟩, ⟨some 57, .bin .add (.t 56) (.k (.c (.int .i64 1))), none⟩, ⟨some 58, .nilck (.t 53), none⟩, ⟨some 59, .fadd 1 (.t 58), none⟩, ⟨none, .store 1 (.t 59) (.t 57), none⟩])
  (.seq (.dreg [⟨some 60, .mov (.t 0), none⟩, ⟨some 61, .mov (.t 1), none⟩, ⟨some 62, .loadn 4 (.t 7), none⟩, ⟨some 63, .call (.k (.fn 134 [])) [(.t 60), (.t 61), (.t 62)], none⟩, ⟨some 64, .loadn 4 (.t 6), none⟩, ⟨some 65, .bsl 4 [(.t 64)], none⟩, ⟨some 66, .call (.k (.fn 37 [])) [(.t 63), (.t 65)], none⟩, ⟨none, .store 4 (.t 4) (.t 66), none⟩]
    [⟨⟨some 60, .mov (.t 0), none⟩, false, 0⟩, ⟨⟨some 61, .mov (.t 1), none⟩, false, 0⟩, ⟨⟨some 62, .loadn 4 (.t 7), none⟩, false, 0⟩, ⟨⟨some 63, .call (.k (.fn 134 [])) [(.t 60), (.t 61), (.t 62)], none⟩, true, 0⟩, ⟨⟨some 64, .loadn 4 (.t 6), none⟩, false, 0⟩, ⟨⟨some 65, .bsl 4 [(.t 64)], none⟩, false, 0⟩, ⟨⟨some 66, .call (.k (.fn 37 [])) [(.t 63), (.t 65)], none⟩, true, 1⟩, ⟨⟨none, .store 4 (.t 4) (.t 66), none⟩, true, 2⟩])
  (.ret))))))))
def r76 : List ResV := [.celln 4 4]
theorem tr76 : tr Tryz.prog Tryz.f76.ntmps (Tryz.f76.body.getD .skip) = some c76 := by kernel_rfl
theorem tre76 : trRes Tryz.prog Tryz.f76.results.toList = some r76 := by kernel_rfl
theorem en76 : Enters Tryz.prog 76 := enters_fn Tryz.func76 (by kernel_rfl) rfl
theorem go76 {w0 : World} {args : List V} {σ : H} {R : V → H → Prop} (ha : args.length = 2) (h : H.ok σ → (∀ x ∈ args, V.Sz x) → W Tryz.prog w0 σ.length (Fin r76 σ.length R) [.code c76] ⟨argEnv args, σ⟩) : DC Tryz.prog w0 76 args σ R :=
  DC.of_code (by kernel_rfl) Tryz.func76 rfl tr76 tre76 (by rw [ha]; exact by decide) en76 h
/-- ty.Read -/
def c30 : AC :=
  .seq (.reg [⟨some 4, .box (.k (.agg [.c (.int .i64 0), .c (.str []), .c (.int .i64 0), .csl []])), none⟩, ⟨some 5, .mov (.k (.c (.int .i64 0))), none⟩, ⟨some 6, .mov (.k (.c (.int .i64 0))), none⟩, ⟨some 7, .mov (.k (.c (.int .i64 0))), none⟩])
  (.seq (.reg [⟨some 10, .mov (.t 0), none⟩, ⟨some 11, .mov (.t 1), none⟩, ⟨some 12, .build [.csl [], .c (.int .i64 0), .csl [], .c (.int .i64 0), .c (.int .i64 0)] [(0, 1, (.t 10)), (1, 1, (.t 11))], none⟩, ⟨some 13, .box (.t 12), none⟩, ⟨some 8, .mov (.t 13), none⟩])
  (.seq (.reg [⟨some 14, .mov (.t 8), none⟩, ⟨some 15, .call (.k (.fn 76 [])) [(.t 14), (.k (.c (.int .i64 0)))], none⟩, ⟨some 9, .box (.k (.agg [.c (.int .i64 0), .c (.str []), .c (.int .i64 0), .csl []])), none⟩, ⟨none, .store 4 (.t 9) (.t 15), none⟩])
  (.seq (.seq (.reg [⟨some 16, .mov (.t 8), none⟩, ⟨some 17, .nilck (.t 16), none⟩, ⟨some 18, .fadd 3 (.t 17), none⟩, ⟨some 19, .load1 (.t 18), none⟩, ⟨some 20, .bin .neq (.t 19) (.k (.c (.int .i64 0))), none⟩])
  (.cond (.t 20)
  (.seq (.dreg [⟨some 21, .build [.c (.int .i64 0), .c (.str []), .c (.int .i64 0), .csl []] [], none⟩, ⟨some 22, .mov (.t 1), none⟩, ⟨some 23, .mov (.t 8), none⟩, ⟨some 24, .nilck (.t 23), none⟩, ⟨some 25, .fadd 3 (.t 24), none⟩, ⟨some 26, .load1 (.t 25), none⟩, ⟨some 27, .mov (.t 8), none⟩, ⟨some 28, .nilck (.t 27), none⟩, ⟨some 29, .fadd 4 (.t 28), none⟩, ⟨some 30, .load1 (.t 29), none⟩, ⟨none, .store 4 (.t 4) (.t 21), none⟩, ⟨some 5, .mov (.t 22), none⟩, ⟨some 6, .mov (.t 26), none⟩, ⟨some 7, .mov (.t 30), none⟩]
    [⟨⟨some 21, .build [.c (.int .i64 0), .c (.str []), .c (.int .i64 0), .csl []] [], none⟩, false, 0⟩, ⟨⟨none, .store 4 (.t 4) (.t 21), none⟩, true, 0⟩, ⟨⟨some 22, .mov (.t 1), none⟩, false, 0⟩, ⟨⟨some 23, .mov (.t 8), none⟩, false, 0⟩, ⟨⟨some 24, .nilck (.t 23), none⟩, false, 0⟩, ⟨⟨some 25, .fadd 3 (.t 24), none⟩, false, 0⟩, ⟨⟨some 26, .load1 (.t 25), none⟩, false, 0⟩, ⟨⟨some 27, .mov (.t 8), none⟩, false, 0⟩, ⟨⟨some 28, .nilck (.t 27), none⟩, false, 0⟩, ⟨⟨some 29, .fadd 4 (.t 28), none⟩, false, 0⟩, ⟨⟨some 30, .load1 (.t 29), none⟩, false, 0⟩, ⟨⟨some 5, .mov (.t 22), none⟩, false, 1⟩, ⟨⟨some 6, .mov (.t 26), none⟩, false, 1⟩, ⟨⟨some 7, .mov (.t 30), none⟩, false, 1⟩])
  (.ret))
  (.skip)))
  (.seq (.dreg [⟨some 31, .loadn 4 (.t 9), none⟩, ⟨some 32, .mov (.t 8), none⟩, ⟨some 33, .nilck (.t 32), none⟩, ⟨some 34, .fadd 1 (.t 33), none⟩, ⟨some 35, .load1 (.t 34), none⟩, ⟨none, .store 4 (.t 4) (.t 31), none⟩, ⟨some 5, .mov (.t 35), none⟩, ⟨some 6, .mov (.k (.c (.int .i64 0))), none⟩, ⟨some 7, .mov (.k (.c (.int .i64 0))), none⟩]
    [⟨⟨some 31, .loadn 4 (.t 9), none⟩, false, 0⟩, ⟨⟨none, .store 4 (.t 4) (.t 31), none⟩, true, 0⟩, ⟨⟨some 32, .mov (.t 8), none⟩, false, 0⟩, ⟨⟨some 33, .nilck (.t 32), none⟩, false, 0⟩, ⟨⟨some 34, .fadd 1 (.t 33), none⟩, false, 0⟩, ⟨⟨some 35, .load1 (.t 34), none⟩, false, 0⟩, ⟨⟨some 5, .mov (.t 35), none⟩, false, 1⟩, ⟨⟨some 6, .mov (.k (.c (.int .i64 0))), none⟩, false, 1⟩, ⟨⟨some 7, .mov (.k (.c (.int .i64 0))), none⟩, false, 1⟩])
  (.ret)))))
def r30 : List ResV := [.celln 4 4, .tmp 5, .tmp 6, .tmp 7]
theorem tr30 : tr Tryz.prog Tryz.f30.ntmps (Tryz.f30.body.getD .skip) = some c30 := by kernel_rfl
theorem tre30 : trRes Tryz.prog Tryz.f30.results.toList = some r30 := by kernel_rfl
theorem en30 : Enters Tryz.prog 30 := enters_fn Tryz.func30 (by kernel_rfl) rfl
theorem go30 {w0 : World} {args : List V} {σ : H} {R : V → H → Prop} (ha : args.length = 2) (h : H.ok σ → (∀ x ∈ args, V.Sz x) → W Tryz.prog w0 σ.length (Fin r30 σ.length R) [.code c30] ⟨argEnv args, σ⟩) : DC Tryz.prog w0 30 args σ R :=
  DC.of_code (by kernel_rfl) Tryz.func30 rfl tr30 tre30 (by rw [ha]; exact by decide) en30 h
end Go.Proofs.YtlogjjnimlnpkaaGreatDoor
namespace Go.Proofs.YtlogjjnimlnpkaaGreatDoor
open Go.RowKit Go.Lamb
/-- ops.Find$1 -/
def c231 : AC :=
  .seq (.reg [⟨some 2, .box (.t 0), none⟩, ⟨some 3, .mov (.k (.c (.bool false))), none⟩])
  (.seq (.reg [⟨some 4, .fadd 0 (.t 2), none⟩, ⟨some 5, .load1 (.t 4), none⟩, ⟨some 6, .load1 (.t 1), none⟩, ⟨some 7, .bin .eql (.t 5) (.t 6), none⟩, ⟨some 3, .mov (.t 7), none⟩])
  (.ret))
def r231 : List ResV := [.tmp 3]
theorem tr231 : tr Tryz.prog Tryz.f231.ntmps (Tryz.f231.body.getD .skip) = some c231 := by kernel_rfl
theorem tre231 : trRes Tryz.prog Tryz.f231.results.toList = some r231 := by kernel_rfl
theorem en231 : Enters Tryz.prog 231 := enters_fn Tryz.func231 (by kernel_rfl) rfl
theorem go231 {w0 : World} {args : List V} {σ : H} {R : V → H → Prop} (ha : args.length = 2) (h : H.ok σ → (∀ x ∈ args, V.Sz x) → W Tryz.prog w0 σ.length (Fin r231 σ.length R) [.code c231] ⟨argEnv args, σ⟩) : DC Tryz.prog w0 231 args σ R :=
  DC.of_code (by kernel_rfl) Tryz.func231 rfl tr231 tre231 (by rw [ha]; exact by decide) en231 h
/-- slices.IndexFunc[[]api.Op,api.Op] -/
def c230 : AC :=
  .seq (.reg [⟨some 4, .mov (.k (.c (.int .i64 0))), none⟩])
  (.seq (.seq (.reg [⟨some 6, .mov (.t 0), none⟩, ⟨some 7, .lenr (.t 6), none⟩, ⟨some 8, .mov (.k (.c (.int .i64 0))), none⟩])
  (.block 0 (.loop (.seq (.reg [⟨some 9, .bin .lss (.t 8) (.t 7), none⟩])
  (.seq (.cond (.t 9)
  (.skip)
  (.exit 0))
  (.seq (.block 1 (.seq (.reg [⟨some 10, .mov (.t 8), none⟩, ⟨some 5, .mov (.t 10), none⟩])
  (.seq (.reg [⟨some 11, .mov (.t 1), none⟩, ⟨some 12, .mov (.t 0), none⟩, ⟨some 13, .mov (.t 5), none⟩, ⟨some 14, .iadd 3 (.t 12) (.t 13), none⟩, ⟨some 15, .loadn 3 (.t 14), none⟩, ⟨some 16, .call (.t 11) [(.t 15)], none⟩])
  (.cond (.t 16)
  (.seq (.reg [⟨some 17, .mov (.t 5), none⟩, ⟨some 4, .mov (.t 17), none⟩])
  (.ret))
  (.skip)))))
  (.reg [⟨some 18, .bin .add (.t 8) (.k (.c (.int .i64 1))), none⟩, ⟨some 8, .mov (.t 18), none⟩])))))))
  (.seq (.reg [⟨some 4, .mov (.k (.c (.int .i64 (-1)))), none⟩])
  (.ret)))
def r230 : List ResV := [.tmp 4]
theorem tr230 : tr Tryz.prog Tryz.f230.ntmps (Tryz.f230.body.getD .skip) = some c230 := by kernel_rfl
theorem tre230 : trRes Tryz.prog Tryz.f230.results.toList = some r230 := by kernel_rfl
theorem en230 : Enters Tryz.prog 230 := enters_fn Tryz.func230 (by kernel_rfl) rfl
theorem go230 {w0 : World} {args : List V} {σ : H} {R : V → H → Prop} (ha : args.length = 2) (h : H.ok σ → (∀ x ∈ args, V.Sz x) → W Tryz.prog w0 σ.length (Fin r230 σ.length R) [.code c230] ⟨argEnv args, σ⟩) : DC Tryz.prog w0 230 args σ R :=
  DC.of_code (by kernel_rfl) Tryz.func230 rfl tr230 tre230 (by rw [ha]; exact by decide) en230 h
/-- ops.Find -/
def c177 : AC :=
  .seq (.reg [⟨some 3, .box (.t 1), none⟩, ⟨some 4, .box (.k (.agg [.c (.str []), .c (.int .i64 0), .c (.int .i64 0)])), none⟩, ⟨some 5, .mov (.k (.c (.bool false))), none⟩])
  (.seq (.reg [⟨some 7, .mov (.t 0), none⟩, ⟨some 8, .mkfn 231 [(.t 3)], none⟩, ⟨some 9, .call (.k (.fn 230 [])) [(.t 7), (.t 8)], none⟩, ⟨some 6, .mov (.t 9), none⟩])
  (.seq (.seq (.reg [⟨some 10, .mov (.t 6), none⟩, ⟨some 11, .bin .lss (.t 10) (.k (.c (.int .i64 0))), none⟩])
  (.cond (.t 11)
  (.seq (.reg [⟨some 12, .build [.c (.str []), .c (.int .i64 0), .c (.int .i64 0)] [], none⟩, ⟨none, .store 3 (.t 4) (.t 12), none⟩, ⟨some 5, .mov (.k (.c (.bool false))), none⟩])
  (.ret))
  (.skip)))
  (.seq (.reg [⟨some 13, .mov (.t 0), none⟩, ⟨some 14, .mov (.t 6), none⟩, ⟨some 15, .iadd 3 (.t 13) (.t 14), none⟩, ⟨some 16, .loadn 3 (.t 15), none⟩, ⟨none, .store 3 (.t 4) (.t 16), none⟩, ⟨some 5, .mov (.k (.c (.bool true))), none⟩])
  (.ret))))
def r177 : List ResV := [.celln 3 4, .tmp 5]
theorem tr177 : tr Tryz.prog Tryz.f177.ntmps (Tryz.f177.body.getD .skip) = some c177 := by kernel_rfl
theorem tre177 : trRes Tryz.prog Tryz.f177.results.toList = some r177 := by kernel_rfl
theorem en177 : Enters Tryz.prog 177 := enters_fn Tryz.func177 (by kernel_rfl) rfl
theorem go177 {w0 : World} {args : List V} {σ : H} {R : V → H → Prop} (ha : args.length = 2) (h : H.ok σ → (∀ x ∈ args, V.Sz x) → W Tryz.prog w0 σ.length (Fin r177 σ.length R) [.code c177] ⟨argEnv args, σ⟩) : DC Tryz.prog w0 177 args σ R :=
  DC.of_code (by kernel_rfl) Tryz.func177 rfl tr177 tre177 (by rw [ha]; exact by decide) en177 h
/-- ops.Is -/
def c254 : AC :=
  .seq (.reg [⟨some 3, .box (.t 1), none⟩, ⟨some 4, .box (.k (.agg [.c (.str []), .c (.int .i64 0), .c (.int .i64 0)])), none⟩, ⟨some 5, .mov (.k (.c (.bool false))), none⟩])
  (.seq (.seq (.reg [⟨some 6, .fadd 0 (.t 3), none⟩, ⟨some 7, .load1 (.t 6), none⟩])
  (.block 0 (.seq (.seq (.reg [⟨some 9, .bin .eql (.t 7) (.k (.c (.int .i64 1))), none⟩, ⟨some 8, .mov (.t 9), none⟩])
  (.cond (.t 8)
  (.skip)
  (.reg [⟨some 10, .bin .eql (.t 7) (.k (.c (.int .i64 4))), none⟩, ⟨some 8, .mov (.t 10), none⟩])))
  (.cond (.t 8)
  (.seq (.reg [⟨some 11, .mov (.t 0), none⟩, ⟨some 12, .fadd 1 (.t 3), none⟩, ⟨some 13, .load1 (.t 12), none⟩, ⟨some 14, .call (.k (.fn 177 [])) [(.t 11), (.t 13)], none⟩, ⟨some 15, .ext (.t 14) 0, none⟩, ⟨some 16, .ext (.t 14) 1, none⟩, ⟨none, .store 3 (.t 4) (.t 15), none⟩, ⟨some 5, .mov (.t 16), none⟩])
  (.ret))
  (.skip)))))
  (.seq (.reg [⟨some 17, .build [.c (.str []), .c (.int .i64 0), .c (.int .i64 0)] [], none⟩, ⟨none, .store 3 (.t 4) (.t 17), none⟩, ⟨some 5, .mov (.k (.c (.bool false))), none⟩])
  (.ret)))
def r254 : List ResV := [.celln 3 4, .tmp 5]
theorem tr254 : tr Tryz.prog Tryz.f254.ntmps (Tryz.f254.body.getD .skip) = some c254 := by kernel_rfl
theorem tre254 : trRes Tryz.prog Tryz.f254.results.toList = some r254 := by kernel_rfl
theorem en254 : Enters Tryz.prog 254 := enters_fn Tryz.func254 (by kernel_rfl) rfl
theorem go254 {w0 : World} {args : List V} {σ : H} {R : V → H → Prop} (ha : args.length = 2) (h : H.ok σ → (∀ x ∈ args, V.Sz x) → W Tryz.prog w0 σ.length (Fin r254 σ.length R) [.code c254] ⟨argEnv args, σ⟩) : DC Tryz.prog w0 254 args σ R :=
  DC.of_code (by kernel_rfl) Tryz.func254 rfl tr254 tre254 (by rw [ha]; exact by decide) en254 h
/-- ops.beside -/
def c255 : AC :=
  .seq (.reg [⟨some 3, .box (.t 0), none⟩, ⟨some 4, .box (.t 1), none⟩, ⟨some 6, .mov (.k (.c (.bool false))), none⟩])
  (.seq (.reg [⟨some 7, .fadd 1 (.t 4), none⟩, ⟨some 8, .load1 (.t 7), none⟩, ⟨some 9, .fadd 1 (.t 3), none⟩, ⟨some 10, .load1 (.t 9), none⟩, ⟨some 11, .bin .gtr (.t 8) (.t 10), none⟩, ⟨some 12, .mov (.t 11), none⟩, ⟨some 13, .fadd 1 (.t 4), some (12, false)⟩, ⟨some 14, .load1 (.t 13), some (12, false)⟩, ⟨some 15, .fadd 1 (.t 3), some (12, false)⟩, ⟨some 16, .load1 (.t 15), some (12, false)⟩, ⟨some 17, .bin .eql (.t 14) (.t 16), some (12, false)⟩, ⟨some 18, .mov (.t 17), some (12, false)⟩, ⟨some 19, .fadd 2 (.t 3), some (18, true)⟩, ⟨some 20, .load1 (.t 19), some (18, true)⟩, ⟨some 21, .mov (.t 2), some (18, true)⟩, ⟨some 22, .bin .eql (.t 20) (.t 21), some (18, true)⟩, ⟨some 23, .pick (.t 18) (.t 22) (.k (.c (.bool false))), some (12, false)⟩, ⟨some 24, .mov (.t 23), some (12, false)⟩, ⟨some 25, .fadd 2 (.t 4), some (24, true)⟩, ⟨some 26, .load1 (.t 25), some (24, true)⟩, ⟨some 27, .mov (.t 2), some (24, true)⟩, ⟨some 28, .bin .eql (.t 26) (.t 27), some (24, true)⟩, ⟨some 29, .pick (.t 24) (.t 28) (.k (.c (.bool false))), some (12, false)⟩, ⟨some 30, .pick (.t 12) (.k (.c (.bool true))) (.t 29), none⟩, ⟨some 6, .mov (.t 30), none⟩])
  (.ret))
def r255 : List ResV := [.tmp 6]
theorem tr255 : tr Tryz.prog Tryz.f255.ntmps (Tryz.f255.body.getD .skip) = some c255 := by kernel_rfl
theorem tre255 : trRes Tryz.prog Tryz.f255.results.toList = some r255 := by kernel_rfl
theorem en255 : Enters Tryz.prog 255 := enters_fn Tryz.func255 (by kernel_rfl) rfl
theorem go255 {w0 : World} {args : List V} {σ : H} {R : V → H → Prop} (ha : args.length = 3) (h : H.ok σ → (∀ x ∈ args, V.Sz x) → W Tryz.prog w0 σ.length (Fin r255 σ.length R) [.code c255] ⟨argEnv args, σ⟩) : DC Tryz.prog w0 255 args σ R :=
  DC.of_code (by kernel_rfl) Tryz.func255 rfl tr255 tre255 (by rw [ha]; exact by decide) en255 h
/-- ops.Left -/
def c217 : AC :=
  .seq (.reg [⟨some 2, .box (.t 0), none⟩, ⟨some 3, .box (.t 1), none⟩, ⟨some 4, .mov (.k (.c (.bool false))), none⟩])
  (.seq (.reg [⟨some 5, .loadn 3 (.t 2), none⟩, ⟨some 6, .loadn 3 (.t 3), none⟩, ⟨some 7, .call (.k (.fn 255 [])) [(.t 5), (.t 6), (.k (.c (.int .i64 1)))], none⟩, ⟨some 4, .mov (.t 7), none⟩])
  (.ret))
def r217 : List ResV := [.tmp 4]
theorem tr217 : tr Tryz.prog Tryz.f217.ntmps (Tryz.f217.body.getD .skip) = some c217 := by kernel_rfl
theorem tre217 : trRes Tryz.prog Tryz.f217.results.toList = some r217 := by kernel_rfl
theorem en217 : Enters Tryz.prog 217 := enters_fn Tryz.func217 (by kernel_rfl) rfl
theorem go217 {w0 : World} {args : List V} {σ : H} {R : V → H → Prop} (ha : args.length = 2) (h : H.ok σ → (∀ x ∈ args, V.Sz x) → W Tryz.prog w0 σ.length (Fin r217 σ.length R) [.code c217] ⟨argEnv args, σ⟩) : DC Tryz.prog w0 217 args σ R :=
  DC.of_code (by kernel_rfl) Tryz.func217 rfl tr217 tre217 (by rw [ha]; exact by decide) en217 h
/-- ops.Right -/
def c219 : AC :=
  .seq (.reg [⟨some 2, .box (.t 0), none⟩, ⟨some 3, .box (.t 1), none⟩, ⟨some 4, .mov (.k (.c (.bool false))), none⟩])
  (.seq (.reg [⟨some 5, .loadn 3 (.t 2), none⟩, ⟨some 6, .loadn 3 (.t 3), none⟩, ⟨some 7, .call (.k (.fn 255 [])) [(.t 5), (.t 6), (.k (.c (.int .i64 2)))], none⟩, ⟨some 4, .mov (.t 7), none⟩])
  (.ret))
def r219 : List ResV := [.tmp 4]
theorem tr219 : tr Tryz.prog Tryz.f219.ntmps (Tryz.f219.body.getD .skip) = some c219 := by kernel_rfl
theorem tre219 : trRes Tryz.prog Tryz.f219.results.toList = some r219 := by kernel_rfl
theorem en219 : Enters Tryz.prog 219 := enters_fn Tryz.func219 (by kernel_rfl) rfl
theorem go219 {w0 : World} {args : List V} {σ : H} {R : V → H → Prop} (ha : args.length = 2) (h : H.ok σ → (∀ x ∈ args, V.Sz x) → W Tryz.prog w0 σ.length (Fin r219 σ.length R) [.code c219] ⟨argEnv args, σ⟩) : DC Tryz.prog w0 219 args σ R :=
  DC.of_code (by kernel_rfl) Tryz.func219 rfl tr219 tre219 (by rw [ha]; exact by decide) en219 h
end Go.Proofs.YtlogjjnimlnpkaaGreatDoor
namespace Go.Proofs.YtlogjjnimlnpkaaGreatDoor
open Go.RowKit Go.Lamb
attribute [local go_sem] advO_skip advO_reg advO_seq advO_block advO_exit advO_endb advO_opsNil advO_ops advG_yes advG_no advG_none advS_some advS_none advO_cond advO_loop advO_dreg advO_ret advO_bad advO_inv advO_nil advO_zero wantedV Lamb.step ev_t ev_k put_some put_none argEnv popTo cellsAt V.cellsV V.rows V.toC toCs fillV bytesC byteRows appV rowsV boundV boundL binV binInt binStr eqC eqL V.isNil leaves V.leaf Ins.quiet Ins.pure List.getD_cons_zero List.getD_cons_succ List.getD_nil List.all_cons List.all_nil List.length_cons List.length_nil List.take_succ_cons List.take_zero List.drop_succ_cons List.drop_zero List.cons_append List.nil_append List.append_nil List.append_assoc List.map_cons List.map_nil List.getElem?_cons_zero List.getElem?_cons_succ List.length_append List.length_set hget0 hget hset0 hset hsets hgs0 hgs hss0 hss List.set_cons_zero List.set_cons_succ List.forall_mem_cons List.not_mem_nil false_implies implies_true Option.map_some Bool.and_true Bool.true_and Bool.not_not Bool.not_true Bool.not_false Bool.and_self Bool.or_true Bool.true_or Bool.or_false Bool.false_or Bool.and_false Bool.false_and Bool.false_eq_true beq_self_eq_true and_self and_true true_and if_true if_false Nat.zero_add Nat.add_zero Nat.le_refl Int.toNat_natCast decide_true decide_false beq_t beq_f List.length_map List.getElem?_map I S B opsC toksC OpT.v OpT.cs OpT.zero Tok.v Tok.cs Pre.v Pre.cs_eq k_mk name_mk n_mk l_mk pos_mk Pre.app applyL natCast0 natCast1 natCast2

theorem ops_Find1 (w0 : World) (o : OpT) (name : List UInt8) (σ : H) (b : Nat) (hb : σ[b]? = some (.cells [S name])) : DC Tryz.prog w0 231 [o.v, .ptr b 0] σ (Same (B (o.name == name)) σ) := by
  have hlt := (List.getElem?_eq_some_iff.1 hb).1
  have hg := fun L => hgetb (σ := σ) L hlt
  refine go231 rfl (fun hok hsz => ?_)
  ((first | refine W.advO 5000 _ _ ?_ | skip); simp only [go_sem, seval, ↓reduceIte, reduceCtorEq, c231, OpT.v, hg, hb, S])
  (refine W.ret (Fin.same hok (by simp only [resEval, r231, go_sem, seval, ↓reduceIte, reduceCtorEq]; rfl) ?_ (by first | exact .c _ | (simp only [I, S, B, opsC, toksC, Pre.v, Tok.v, OpT.v, low_c, low_void, low_any, low_csl, low_nilf, low_ptr, low_osl, low_agg, low_tup, low_fn, List.forall_mem_cons, List.not_mem_nil, false_implies, implies_true, and_self, and_true, true_and]; done)) (by first | exact ⟨[], (List.append_nil _).symm⟩ | exact ⟨_, rfl⟩)); simp only [resV])
theorem IndexFunc_op (w0 : World) (l : List OpT) (f : FuncId) (caps : List V) (p : OpT → Bool) (σ : H) (hp : ∀ o ∈ l, DC Tryz.prog w0 f (o.v :: caps) σ (Same (B (p o)) σ)) : DC Tryz.prog w0 230 [.c (opsC l), .fn f caps] σ (Same (I (idxI p l)) σ) := by
  refine go230 rfl (fun hok hsz => ?_)
  have hlen : l.length ≤ maxLen := by
    have := hsz _ (List.mem_cons_self ..)
    rw [opsC, sz_c, sz_sl] at this
    simpa using this.1
  unfold maxLen at hlen
  ((first | refine W.advO 5000 _ _ ?_ | skip); simp only [go_sem, seval, ↓reduceIte, reduceCtorEq, c230, opsC])
  refine W.loopP (fun i => i ≤ l.length ∧ UpTo p l i) (fun i => ⟨((((base.put (some 0) (.c (.sl (l.map OpT.cs)))).put (some 1) (.fn f caps)).put (some 7) (I l.length)).put (some 8) (I i)), σ⟩) (fun i => l.length - i) 0 ⟨Nat.zero_le _, upTo_zero⟩ ?_ (fun i hi => ?_)
  · (refine Lew.env ?_; (repeat' (first | exact LeE.base _ | (refine LeE.put ?_ (by first | exact V.wk.rfl _ | exact V.wk.osl _ _ | exact V.wk.csl _)))))
  · obtain ⟨hi, hinv⟩ := hi
    by_cases hlt : i < l.length
    · have h1 : ((i : Int) < (l.length : Int)) := by omega
      ((first | refine W.advO 5000 _ _ ?_ | skip); simp only [go_sem, seval, ↓reduceIte, reduceCtorEq, I, h1])
      refine W.yes rfl ?_
      have hx : l[i]? = some l[i] := List.getElem?_eq_getElem hlt
      have h0 : (0 : Int) ≤ (i : Int) := by omega
      ((first | refine W.advO 5000 _ _ ?_ | skip); simp only [go_sem, seval, ↓reduceIte, reduceCtorEq, I, h1, h0, hx, OpT.cs])
      (refine W.call1 (hp l[i] (List.getElem_mem hlt)) rfl rfl (by first | rfl | simp) ?_; refine W.advO 5000 _ _ ?_; simp only [go_sem, seval, ↓reduceIte, reduceCtorEq])
      refine W.test rfl (fun h => ?_) (fun h => ?_)
      · ((first | refine W.advO 5000 _ _ ?_ | skip); simp only [go_sem, seval, ↓reduceIte, reduceCtorEq, I])
        (refine W.ret (Fin.same hok (by simp only [resEval, r230, go_sem, seval, ↓reduceIte, reduceCtorEq]; rfl) ?_ (by first | exact .c _ | (simp only [I, S, B, opsC, toksC, Pre.v, Tok.v, OpT.v, low_c, low_void, low_any, low_csl, low_nilf, low_ptr, low_osl, low_agg, low_tup, low_fn, List.forall_mem_cons, List.not_mem_nil, false_implies, implies_true, and_self, and_true, true_and]; done)) (by first | exact ⟨[], (List.append_nil _).symm⟩ | exact ⟨_, rfl⟩)); simp only [resV])
        rw [idxI_at hinv hlt h]
      · have hw : IntKind.i64.wrap (((i : Nat) : Int) + 1) = ((i + 1 : Nat) : Int) := by rw [wrap_in] <;> omega
        ((first | refine W.advO 5000 _ _ ?_ | skip); simp only [go_sem, seval, ↓reduceIte, reduceCtorEq, I, hw])
        refine .inv ⟨i + 1, ⟨hlt, upTo_next hinv hlt h⟩, by omega, ?_⟩
        (refine Lew.env ?_; (repeat' (first | exact LeE.base _ | (refine LeE.put ?_ (by first | exact V.wk.rfl _ | exact V.wk.osl _ _ | exact V.wk.csl _)))))
    · have h1 : ¬ ((i : Int) < (l.length : Int)) := by omega
      ((first | refine W.advO 5000 _ _ ?_ | skip); simp only [go_sem, seval, ↓reduceIte, reduceCtorEq, I, h1])
      refine W.no rfl ?_
      ((first | refine W.advO 5000 _ _ ?_ | skip); simp only [go_sem, seval, ↓reduceIte, reduceCtorEq, I])
      (refine W.ret (Fin.same hok (by simp only [resEval, r230, go_sem, seval, ↓reduceIte, reduceCtorEq]; rfl) ?_ (by first | exact .c _ | (simp only [I, S, B, opsC, toksC, Pre.v, Tok.v, OpT.v, low_c, low_void, low_any, low_csl, low_nilf, low_ptr, low_osl, low_agg, low_tup, low_fn, List.forall_mem_cons, List.not_mem_nil, false_implies, implies_true, and_self, and_true, true_and]; done)) (by first | exact ⟨[], (List.append_nil _).symm⟩ | exact ⟨_, rfl⟩)); simp only [resV])
      rw [idxI_none (fun j hj => hinv j hj (by omega))]
theorem ops_Find (w0 : World) (l : List OpT) (name : List UInt8) (σ : H) : DC Tryz.prog w0 177 [.c (opsC l), S name] σ (Same (foundV (findL l name)) σ) := by
  refine go177 rfl (fun hok hsz => ?_)
  ((first | refine W.advO 5000 _ _ ?_ | skip); simp only [go_sem, seval, ↓reduceIte, reduceCtorEq, c177, opsC])
  have hc := fun n (h : idxI (fun o : OpT => o.name == name) l = n) L => (h ▸ IndexFunc_op w0 l 231 [.ptr σ.length 0] (fun o => o.name == name) (σ ++ Blk.cells [S name] :: L) (fun o _ => ops_Find1 w0 o name _ _ (hget0 σ _)) : DC _ _ _ _ _ (Same (I n) (σ ++ Blk.cells [S name] :: L)))
  rcases idxI_cases (fun o => o.name == name) l with ⟨h, h'⟩ | ⟨i, hi, h, h'⟩
  · (refine W.call1 (hc _ h _) rfl rfl (by first | rfl | simp) ?_; refine W.advO 5000 _ _ ?_; simp only [go_sem, seval, ↓reduceIte, reduceCtorEq, show ((-1 : Int) < 0) = True from by decide])
    refine W.yes rfl ?_
    ((first | refine W.advO 5000 _ _ ?_ | skip); simp only [go_sem, seval, ↓reduceIte, reduceCtorEq])
    (refine W.ret (Fin.same hok (by simp only [resEval, r177, go_sem, seval, ↓reduceIte, reduceCtorEq]; rfl) ?_ (by first | exact .c _ | (simp only [I, S, B, opsC, toksC, Pre.v, Tok.v, OpT.v, low_c, low_void, low_any, low_csl, low_nilf, low_ptr, low_osl, low_agg, low_tup, low_fn, List.forall_mem_cons, List.not_mem_nil, false_implies, implies_true, and_self, and_true, true_and, foundV, OpT.v]; done)) (by first | exact ⟨[], (List.append_nil _).symm⟩ | exact ⟨_, rfl⟩)); simp only [resV, foundV, OpT.v])
    simp only [findL, h']; rfl
  · have h1 : ¬ ((i : Int) < 0) := by omega
    have h2 : (i : Int) < (l.length : Int) := by omega
    have h0 : (0 : Int) ≤ (i : Int) := by omega
    have hx : l[i]? = some l[i] := List.getElem?_eq_getElem hi
    (refine W.call1 (hc _ h _) rfl rfl (by first | rfl | simp) ?_; refine W.advO 5000 _ _ ?_; simp only [go_sem, seval, ↓reduceIte, reduceCtorEq, h1])
    refine W.no rfl ?_
    ((first | refine W.advO 5000 _ _ ?_ | skip); simp only [go_sem, seval, ↓reduceIte, reduceCtorEq, h0, h2, hx, OpT.cs])
    (refine W.ret (Fin.same hok (by simp only [resEval, r177, go_sem, seval, ↓reduceIte, reduceCtorEq]; rfl) ?_ (by first | exact .c _ | (simp only [I, S, B, opsC, toksC, Pre.v, Tok.v, OpT.v, low_c, low_void, low_any, low_csl, low_nilf, low_ptr, low_osl, low_agg, low_tup, low_fn, List.forall_mem_cons, List.not_mem_nil, false_implies, implies_true, and_self, and_true, true_and, foundV, OpT.v]; done)) (by first | exact ⟨[], (List.append_nil _).symm⟩ | exact ⟨_, rfl⟩)); simp only [resV, foundV, OpT.v])
    simp only [findL, h']; rfl
theorem opOf_yes {l : List OpT} {t : Tok} (h : t.kind = 1 ∨ t.kind = 4) : opOf l t = findL l t.text := by rw [opOf, if_pos h]
theorem opOf_no {l : List OpT} {t : Tok} (h : ¬ (t.kind = 1 ∨ t.kind = 4)) : opOf l t = none := by rw [opOf, if_neg h]
theorem ops_Is (w0 : World) (l : List OpT) (t : Tok) (σ : H) : DC Tryz.prog w0 254 [.c (opsC l), t.v] σ (Same (foundV (opOf l t)) σ) := by
  refine go254 rfl (fun hok hsz => ?_)
  cases h1 : (t.kind == 1)
  · cases h2 : (t.kind == 4)
    · have hk : ¬ (t.kind = 1 ∨ t.kind = 4) := by
        simp only [beq_eq_false_iff_ne] at h1 h2
        rintro (h | h)
        · exact h1 h
        · exact h2 h
      ((first | refine W.advO 5000 _ _ ?_ | skip); simp only [go_sem, seval, ↓reduceIte, reduceCtorEq, c254, h1])
      refine W.no rfl ?_
      ((first | refine W.advO 5000 _ _ ?_ | skip); simp only [go_sem, seval, ↓reduceIte, reduceCtorEq, h2])
      refine W.no rfl ?_
      ((first | refine W.advO 5000 _ _ ?_ | skip); simp only [go_sem, seval, ↓reduceIte, reduceCtorEq])
      (refine W.ret (Fin.same hok (by simp only [resEval, r254, go_sem, seval, ↓reduceIte, reduceCtorEq]; rfl) ?_ (by first | exact .c _ | (simp only [I, S, B, opsC, toksC, Pre.v, Tok.v, OpT.v, low_c, low_void, low_any, low_csl, low_nilf, low_ptr, low_osl, low_agg, low_tup, low_fn, List.forall_mem_cons, List.not_mem_nil, false_implies, implies_true, and_self, and_true, true_and, foundV, OpT.v]; done)) (by first | exact ⟨[], (List.append_nil _).symm⟩ | exact ⟨_, rfl⟩)); simp only [resV, foundV, OpT.v])
      rw [opOf_no hk]; rfl
    · have hk : t.kind = 1 ∨ t.kind = 4 := .inr (by simpa using h2)
      ((first | refine W.advO 5000 _ _ ?_ | skip); simp only [go_sem, seval, ↓reduceIte, reduceCtorEq, c254, h1])
      refine W.no rfl ?_
      ((first | refine W.advO 5000 _ _ ?_ | skip); simp only [go_sem, seval, ↓reduceIte, reduceCtorEq, h2])
      refine W.yes rfl ?_
      ((first | refine W.advO 5000 _ _ ?_ | skip); simp only [go_sem, seval, ↓reduceIte, reduceCtorEq])
      (refine W.call1 (ops_Find w0 l t.text _) rfl rfl (by first | rfl | simp) ?_; refine W.advO 5000 _ _ ?_; simp only [go_sem, seval, ↓reduceIte, reduceCtorEq, foundV])
      (refine W.ret (Fin.same hok (by simp only [resEval, r254, go_sem, seval, ↓reduceIte, reduceCtorEq]; rfl) ?_ (by first | exact .c _ | (simp only [I, S, B, opsC, toksC, Pre.v, Tok.v, OpT.v, low_c, low_void, low_any, low_csl, low_nilf, low_ptr, low_osl, low_agg, low_tup, low_fn, List.forall_mem_cons, List.not_mem_nil, false_implies, implies_true, and_self, and_true, true_and, foundV, OpT.v]; done)) (by first | exact ⟨[], (List.append_nil _).symm⟩ | exact ⟨_, rfl⟩)); simp only [resV, foundV, OpT.v])
      rw [opOf_yes hk]
  · have hk : t.kind = 1 ∨ t.kind = 4 := .inl (by simpa using h1)
    ((first | refine W.advO 5000 _ _ ?_ | skip); simp only [go_sem, seval, ↓reduceIte, reduceCtorEq, c254, h1])
    refine W.yes rfl ?_
    ((first | refine W.advO 5000 _ _ ?_ | skip); simp only [go_sem, seval, ↓reduceIte, reduceCtorEq])
    refine W.yes rfl ?_
    ((first | refine W.advO 5000 _ _ ?_ | skip); simp only [go_sem, seval, ↓reduceIte, reduceCtorEq])
    (refine W.call1 (ops_Find w0 l t.text _) rfl rfl (by first | rfl | simp) ?_; refine W.advO 5000 _ _ ?_; simp only [go_sem, seval, ↓reduceIte, reduceCtorEq, foundV])
    (refine W.ret (Fin.same hok (by simp only [resEval, r254, go_sem, seval, ↓reduceIte, reduceCtorEq]; rfl) ?_ (by first | exact .c _ | (simp only [I, S, B, opsC, toksC, Pre.v, Tok.v, OpT.v, low_c, low_void, low_any, low_csl, low_nilf, low_ptr, low_osl, low_agg, low_tup, low_fn, List.forall_mem_cons, List.not_mem_nil, false_implies, implies_true, and_self, and_true, true_and, foundV, OpT.v]; done)) (by first | exact ⟨[], (List.append_nil _).symm⟩ | exact ⟨_, rfl⟩)); simp only [resV, foundV, OpT.v])
    rw [opOf_yes hk]
theorem ops_beside (w0 : World) (a b : OpT) (fix : Int) (σ : H) : DC Tryz.prog w0 255 [a.v, b.v, I fix] σ (Same (B (besideL a b fix)) σ) := by
  refine go255 rfl (fun hok hsz => ?_)
  cases h1 : decide (b.prec > a.prec) <;> cases h2 : (b.prec == a.prec) <;> cases h3 : (a.fix == fix) <;> cases h4 : (b.fix == fix)
  all_goals
    ((first | refine W.advO 5000 _ _ ?_ | skip); simp only [go_sem, seval, ↓reduceIte, reduceCtorEq, c255, h1, h2, h3, h4])
    (refine W.ret (Fin.same hok (by simp only [resEval, r255, go_sem, seval, ↓reduceIte, reduceCtorEq]; rfl) ?_ (by first | exact .c _ | (simp only [I, S, B, opsC, toksC, Pre.v, Tok.v, OpT.v, low_c, low_void, low_any, low_csl, low_nilf, low_ptr, low_osl, low_agg, low_tup, low_fn, List.forall_mem_cons, List.not_mem_nil, false_implies, implies_true, and_self, and_true, true_and]; done)) (by first | exact ⟨[], (List.append_nil _).symm⟩ | exact ⟨_, rfl⟩)); simp only [resV])
    simp_all [besideL]
theorem ops_Left (w0 : World) (a b : OpT) (σ : H) : DC Tryz.prog w0 217 [a.v, b.v] σ (Same (B (besideL a b 1)) σ) := by
  refine go217 rfl (fun hok hsz => ?_)
  ((first | refine W.advO 5000 _ _ ?_ | skip); simp only [go_sem, seval, ↓reduceIte, reduceCtorEq, c217])
  (refine W.call1 (ops_beside w0 a b 1 _) rfl rfl (by first | rfl | simp) ?_; refine W.advO 5000 _ _ ?_; simp only [go_sem, seval, ↓reduceIte, reduceCtorEq])
  (refine W.ret (Fin.same hok (by simp only [resEval, r217, go_sem, seval, ↓reduceIte, reduceCtorEq]; rfl) ?_ (by first | exact .c _ | (simp only [I, S, B, opsC, toksC, Pre.v, Tok.v, OpT.v, low_c, low_void, low_any, low_csl, low_nilf, low_ptr, low_osl, low_agg, low_tup, low_fn, List.forall_mem_cons, List.not_mem_nil, false_implies, implies_true, and_self, and_true, true_and]; done)) (by first | exact ⟨[], (List.append_nil _).symm⟩ | exact ⟨_, rfl⟩)); simp only [resV])
theorem ops_Right (w0 : World) (a b : OpT) (σ : H) : DC Tryz.prog w0 219 [a.v, b.v] σ (Same (B (besideL a b 2)) σ) := by
  refine go219 rfl (fun hok hsz => ?_)
  ((first | refine W.advO 5000 _ _ ?_ | skip); simp only [go_sem, seval, ↓reduceIte, reduceCtorEq, c219])
  (refine W.call1 (ops_beside w0 a b 2 _) rfl rfl (by first | rfl | simp) ?_; refine W.advO 5000 _ _ ?_; simp only [go_sem, seval, ↓reduceIte, reduceCtorEq])
  (refine W.ret (Fin.same hok (by simp only [resEval, r219, go_sem, seval, ↓reduceIte, reduceCtorEq]; rfl) ?_ (by first | exact .c _ | (simp only [I, S, B, opsC, toksC, Pre.v, Tok.v, OpT.v, low_c, low_void, low_any, low_csl, low_nilf, low_ptr, low_osl, low_agg, low_tup, low_fn, List.forall_mem_cons, List.not_mem_nil, false_implies, implies_true, and_self, and_true, true_and]; done)) (by first | exact ⟨[], (List.append_nil _).symm⟩ | exact ⟨_, rfl⟩)); simp only [resV])
end Go.Proofs.YtlogjjnimlnpkaaGreatDoor
namespace Go.Proofs.YtlogjjnimlnpkaaGreatDoor
open Go.RowKit Go.Lamb
/-- (*read.reader).tok -/
def c215 : AC :=
  .seq (.reg [⟨some 4, .box (.k (.agg [.c (.int .i64 0), .c (.str []), .c (.int .i64 0), .c (.int .i64 0)])), none⟩])
  (.seq (.seq (.reg [⟨some 6, .mov (.t 0), none⟩, ⟨some 7, .nilck (.t 6), none⟩, ⟨some 8, .fadd 2 (.t 7), none⟩, ⟨some 9, .load1 (.t 8), none⟩, ⟨some 10, .mov (.t 1), none⟩, ⟨some 11, .bin .add (.t 9) (.t 10), none⟩, ⟨some 5, .mov (.t 11), none⟩])
  (.seq (.reg [⟨some 12, .mov (.t 5), none⟩, ⟨some 13, .bin .leq (.k (.c (.int .i64 0))) (.t 12), none⟩, ⟨some 14, .mov (.t 13), none⟩, ⟨some 15, .mov (.t 5), some (14, true)⟩, ⟨some 16, .mov (.t 0), some (14, true)⟩, ⟨some 17, .nilck (.t 16), some (14, true)⟩, ⟨some 18, .fadd 1 (.t 17), some (14, true)⟩, ⟨some 19, .load1 (.t 18), some (14, true)⟩, ⟨some 20, .lenr (.t 19), some (14, true)⟩, ⟨some 21, .bin .lss (.t 15) (.t 20), some (14, true)⟩, ⟨some 22, .pick (.t 14) (.t 21) (.k (.c (.bool false))), none⟩])
  (.cond (.t 22)
  (.seq (.reg [⟨some 23, .mov (.t 0), none⟩, ⟨some 24, .nilck (.t 23), none⟩, ⟨some 25, .fadd 1 (.t 24), none⟩, ⟨some 26, .load1 (.t 25), none⟩, ⟨some 27, .mov (.t 5), none⟩, ⟨some 28, .iadd 4 (.t 26) (.t 27), none⟩, ⟨some 29, .loadn 4 (.t 28), none⟩, ⟨none, .store 4 (.t 4) (.t 29), none⟩])
  (.ret))
  (.skip))))
  (.seq (.seq (.reg [⟨some 30, .mov (.t 0), none⟩, ⟨some 31, .nilck (.t 30), none⟩, ⟨some 32, .fadd 1 (.t 31), none⟩, ⟨some 33, .load1 (.t 32), none⟩, ⟨some 34, .lenr (.t 33), none⟩, ⟨some 35, .bin .gtr (.t 34) (.k (.c (.int .i64 0))), none⟩])
  (.cond (.t 35)
  (.seq (.dreg [⟨some 36, .mov (.t 0), none⟩, ⟨some 37, .nilck (.t 36), none⟩, ⟨some 38, .fadd 1 (.t 37), none⟩, ⟨some 39, .load1 (.t 38), none⟩, ⟨some 40, .mov (.t 0), none⟩, ⟨some 41, .nilck (.t 40), none⟩, ⟨some 42, .fadd 1 (.t 41), none⟩, ⟨some 43, .load1 (.t 42), none⟩, ⟨some 44, .lenr (.t 43), none⟩, ⟨some 45, .bin .sub (.t 44) (.k (.c (.int .i64 1))), none⟩, ⟨some 46, .iadd 4 (.t 39) (.t 45), none⟩, ⟨some 47, .fadd 3 (.t 46), none⟩, ⟨some 48, .load1 (.t 47), none⟩, ⟨some 49, .build [.c (.int .i64 0), .c (.str []), .c (.int .i64 0), .c (.int .i64 0)] [(3, 1, (.t 48))], none⟩, ⟨none, .store 4 (.t 4) (.t 49), none⟩]
    [⟨⟨some 36, .mov (.t 0), none⟩, false, 0⟩, ⟨⟨some 37, .nilck (.t 36), none⟩, false, 0⟩, ⟨⟨some 38, .fadd 1 (.t 37), none⟩, false, 0⟩, ⟨⟨some 39, .load1 (.t 38), none⟩, false, 0⟩, ⟨⟨some 40, .mov (.t 0), none⟩, false, 0⟩, ⟨⟨some 41, .nilck (.t 40), none⟩, false, 0⟩, ⟨⟨some 42, .fadd 1 (.t 41), none⟩, false, 0⟩, ⟨⟨some 43, .load1 (.t 42), none⟩, false, 0⟩, ⟨⟨some 44, .lenr (.t 43), none⟩, false, 0⟩, ⟨⟨some 45, .bin .sub (.t 44) (.k (.c (.int .i64 1))), none⟩, false, 0⟩, ⟨⟨some 46, .iadd 4 (.t 39) (.t 45), none⟩, false, 0⟩, ⟨⟨some 47, .fadd 3 (.t 46), none⟩, false, 0⟩, ⟨⟨some 48, .load1 (.t 47), none⟩, false, 0⟩, ⟨⟨some 49, .build [.c (.int .i64 0), .c (.str []), .c (.int .i64 0), .c (.int .i64 0)] [(3, 1, (.t 48))], none⟩, false, 0⟩, ⟨⟨none, .store 4 (.t 4) (.t 49), none⟩, true, 0⟩])
  (.ret))
  (.skip)))
  (.seq (.reg [⟨some 50, .build [.c (.int .i64 0), .c (.str []), .c (.int .i64 0), .c (.int .i64 0)] [], none⟩, ⟨none, .store 4 (.t 4) (.t 50), none⟩])
  (.ret))))
def r215 : List ResV := [.celln 4 4]
theorem tr215 : tr Tryz.prog Tryz.f215.ntmps (Tryz.f215.body.getD .skip) = some c215 := by kernel_rfl
theorem tre215 : trRes Tryz.prog Tryz.f215.results.toList = some r215 := by kernel_rfl
theorem en215 : Enters Tryz.prog 215 := enters_fn Tryz.func215 (by kernel_rfl) rfl
theorem go215 {w0 : World} {args : List V} {σ : H} {R : V → H → Prop} (ha : args.length = 2) (h : H.ok σ → (∀ x ∈ args, V.Sz x) → W Tryz.prog w0 σ.length (Fin r215 σ.length R) [.code c215] ⟨argEnv args, σ⟩) : DC Tryz.prog w0 215 args σ R :=
  DC.of_code (by kernel_rfl) Tryz.func215 rfl tr215 tre215 (by rw [ha]; exact by decide) en215 h
/-- (*read.reader).operator -/
def c216 : AC :=
  .seq (.reg [⟨some 3, .box (.t 1), none⟩, ⟨some 4, .box (.k (.agg [.c (.str []), .c (.int .i64 0), .c (.int .i64 0)])), none⟩, ⟨some 5, .mov (.k (.c (.bool false))), none⟩])
  (.seq (.dreg [⟨some 6, .mov (.t 0), none⟩, ⟨some 7, .nilck (.t 6), none⟩, ⟨some 8, .fadd 0 (.t 7), none⟩, ⟨some 9, .load1 (.t 8), none⟩, ⟨some 10, .loadn 4 (.t 3), none⟩, ⟨some 11, .call (.k (.fn 254 [])) [(.t 9), (.t 10)], none⟩, ⟨some 12, .ext (.t 11) 0, none⟩, ⟨some 13, .ext (.t 11) 1, none⟩, ⟨none, .store 3 (.t 4) (.t 12), none⟩, ⟨some 5, .mov (.t 13), none⟩]
    [⟨⟨some 6, .mov (.t 0), none⟩, false, 0⟩, ⟨⟨some 7, .nilck (.t 6), none⟩, false, 0⟩, ⟨⟨some 8, .fadd 0 (.t 7), none⟩, false, 0⟩, ⟨⟨some 9, .load1 (.t 8), none⟩, false, 0⟩, ⟨⟨some 10, .loadn 4 (.t 3), none⟩, false, 0⟩, ⟨⟨some 11, .call (.k (.fn 254 [])) [(.t 9), (.t 10)], none⟩, true, 0⟩, ⟨⟨some 12, .ext (.t 11) 0, none⟩, false, 1⟩, ⟨⟨some 13, .ext (.t 11) 1, none⟩, false, 1⟩, ⟨⟨none, .store 3 (.t 4) (.t 12), none⟩, true, 1⟩, ⟨⟨some 5, .mov (.t 13), none⟩, false, 2⟩])
  (.ret))
def r216 : List ResV := [.celln 3 4, .tmp 5]
theorem tr216 : tr Tryz.prog Tryz.f216.ntmps (Tryz.f216.body.getD .skip) = some c216 := by kernel_rfl
theorem tre216 : trRes Tryz.prog Tryz.f216.results.toList = some r216 := by kernel_rfl
theorem en216 : Enters Tryz.prog 216 := enters_fn Tryz.func216 (by kernel_rfl) rfl
theorem go216 {w0 : World} {args : List V} {σ : H} {R : V → H → Prop} (ha : args.length = 2) (h : H.ok σ → (∀ x ∈ args, V.Sz x) → W Tryz.prog w0 σ.length (Fin r216 σ.length R) [.code c216] ⟨argEnv args, σ⟩) : DC Tryz.prog w0 216 args σ R :=
  DC.of_code (by kernel_rfl) Tryz.func216 rfl tr216 tre216 (by rw [ha]; exact by decide) en216 h
/-- (*read.reader).begins -/
def c253 : AC :=
  .seq (.reg [⟨some 2, .mov (.k (.c (.bool false))), none⟩])
  (.seq (.seq (.reg [⟨some 6, .mov (.t 0), none⟩, ⟨some 7, .call (.k (.fn 215 [])) [(.t 6), (.k (.c (.int .i64 0)))], none⟩, ⟨some 3, .box (.k (.agg [.c (.int .i64 0), .c (.str []), .c (.int .i64 0), .c (.int .i64 0)])), none⟩, ⟨none, .store 4 (.t 3) (.t 7), none⟩])
  (.seq (.reg [⟨some 8, .fadd 0 (.t 3), none⟩, ⟨some 9, .load1 (.t 8), none⟩])
  (.block 0 (.seq (.seq (.reg [⟨some 11, .bin .eql (.t 9) (.k (.c (.int .i64 1))), none⟩, ⟨some 10, .mov (.t 11), none⟩])
  (.cond (.t 10)
  (.skip)
  (.reg [⟨some 12, .bin .eql (.t 9) (.k (.c (.int .i64 4))), none⟩, ⟨some 10, .mov (.t 12), none⟩])))
  (.cond (.t 10)
  (.seq (.reg [⟨some 14, .mov (.t 0), none⟩, ⟨some 15, .loadn 4 (.t 3), none⟩, ⟨some 16, .call (.k (.fn 216 [])) [(.t 14), (.t 15)], none⟩, ⟨some 13, .mov (.t 16), none⟩, ⟨some 17, .ext (.t 13) 0, none⟩, ⟨some 18, .ext (.t 13) 1, none⟩, ⟨some 4, .box (.k (.agg [.c (.str []), .c (.int .i64 0), .c (.int .i64 0)])), none⟩, ⟨none, .store 3 (.t 4) (.t 17), none⟩, ⟨some 5, .mov (.t 18), none⟩])
  (.seq (.reg [⟨some 19, .mov (.t 5), none⟩, ⟨some 20, .un .not (.t 19), none⟩, ⟨some 2, .mov (.t 20), none⟩])
  (.ret)))
  (.seq (.seq (.reg [⟨some 22, .bin .eql (.t 9) (.k (.c (.int .i64 2))), none⟩, ⟨some 21, .mov (.t 22), none⟩])
  (.cond (.t 21)
  (.skip)
  (.seq (.reg [⟨some 23, .bin .eql (.t 9) (.k (.c (.int .i64 3))), none⟩, ⟨some 21, .mov (.t 23), none⟩])
  (.cond (.t 21)
  (.skip)
  (.reg [⟨some 24, .bin .eql (.t 9) (.k (.c (.int .i64 5))), none⟩, ⟨some 21, .mov (.t 24), none⟩])))))
  (.cond (.t 21)
  (.seq (.reg [⟨some 2, .mov (.k (.c (.bool true))), none⟩])
  (.ret))
  (.skip))))))))
  (.seq (.reg [⟨some 2, .mov (.k (.c (.bool false))), none⟩])
  (.ret)))
def r253 : List ResV := [.tmp 2]
theorem tr253 : tr Tryz.prog Tryz.f253.ntmps (Tryz.f253.body.getD .skip) = some c253 := by kernel_rfl
theorem tre253 : trRes Tryz.prog Tryz.f253.results.toList = some r253 := by kernel_rfl
theorem en253 : Enters Tryz.prog 253 := enters_fn Tryz.func253 (by kernel_rfl) rfl
theorem go253 {w0 : World} {args : List V} {σ : H} {R : V → H → Prop} (ha : args.length = 1) (h : H.ok σ → (∀ x ∈ args, V.Sz x) → W Tryz.prog w0 σ.length (Fin r253 σ.length R) [.code c253] ⟨argEnv args, σ⟩) : DC Tryz.prog w0 253 args σ R :=
  DC.of_code (by kernel_rfl) Tryz.func253 rfl tr253 tre253 (by rw [ha]; exact by decide) en253 h
/-- (*read.reader).lambda -/
def c251 : AC :=
  .seq (.reg [⟨some 2, .mov (.k (.c (.bool false))), none⟩])
  (.seq (.reg [⟨some 4, .mov (.t 0), none⟩, ⟨some 5, .call (.k (.fn 215 [])) [(.t 4), (.k (.c (.int .i64 0)))], none⟩, ⟨some 6, .field1 0 (.t 5), none⟩, ⟨some 3, .mov (.t 6), none⟩])
  (.seq (.reg [⟨some 7, .mov (.t 3), none⟩, ⟨some 8, .bin .eql (.t 7) (.k (.c (.int .i64 1))), none⟩, ⟨some 9, .mov (.t 8), none⟩, ⟨some 10, .mov (.t 3), some (9, false)⟩, ⟨some 11, .bin .eql (.t 10) (.k (.c (.int .i64 2))), some (9, false)⟩, ⟨some 12, .pick (.t 9) (.k (.c (.bool true))) (.t 11), none⟩, ⟨some 13, .mov (.t 12), none⟩, ⟨some 14, .mov (.t 0), some (13, true)⟩, ⟨some 15, .call (.k (.fn 215 [])) [(.t 14), (.k (.c (.int .i64 1)))], some (13, true)⟩, ⟨some 16, .field1 0 (.t 15), some (13, true)⟩, ⟨some 17, .bin .eql (.t 16) (.k (.c (.int .i64 8))), some (13, true)⟩, ⟨some 18, .pick (.t 13) (.t 17) (.k (.c (.bool false))), none⟩, ⟨some 2, .mov (.t 18), none⟩])
  (.ret)))
def r251 : List ResV := [.tmp 2]
theorem tr251 : tr Tryz.prog Tryz.f251.ntmps (Tryz.f251.body.getD .skip) = some c251 := by kernel_rfl
theorem tre251 : trRes Tryz.prog Tryz.f251.results.toList = some r251 := by kernel_rfl
theorem en251 : Enters Tryz.prog 251 := enters_fn Tryz.func251 (by kernel_rfl) rfl
theorem go251 {w0 : World} {args : List V} {σ : H} {R : V → H → Prop} (ha : args.length = 1) (h : H.ok σ → (∀ x ∈ args, V.Sz x) → W Tryz.prog w0 σ.length (Fin r251 σ.length R) [.code c251] ⟨argEnv args, σ⟩) : DC Tryz.prog w0 251 args σ R :=
  DC.of_code (by kernel_rfl) Tryz.func251 rfl tr251 tre251 (by rw [ha]; exact by decide) en251 h
/-- (read.wrong).ok -/
def c174 : AC :=
  .seq (.reg [⟨some 1, .box (.t 0), none⟩, ⟨some 2, .mov (.k (.c (.bool false))), none⟩])
  (.seq (.reg [⟨some 3, .fadd 0 (.t 1), none⟩, ⟨some 4, .load1 (.t 3), none⟩, ⟨some 5, .bin .eql (.t 4) (.k (.c (.int .i64 0))), none⟩, ⟨some 2, .mov (.t 5), none⟩])
  (.ret))
def r174 : List ResV := [.tmp 2]
theorem tr174 : tr Tryz.prog Tryz.f174.ntmps (Tryz.f174.body.getD .skip) = some c174 := by kernel_rfl
theorem tre174 : trRes Tryz.prog Tryz.f174.results.toList = some r174 := by kernel_rfl
theorem en174 : Enters Tryz.prog 174 := enters_fn Tryz.func174 (by kernel_rfl) rfl
theorem go174 {w0 : World} {args : List V} {σ : H} {R : V → H → Prop} (ha : args.length = 1) (h : H.ok σ → (∀ x ∈ args, V.Sz x) → W Tryz.prog w0 σ.length (Fin r174 σ.length R) [.code c174] ⟨argEnv args, σ⟩) : DC Tryz.prog w0 174 args σ R :=
  DC.of_code (by kernel_rfl) Tryz.func174 rfl tr174 tre174 (by rw [ha]; exact by decide) en174 h
/-- read.apply -/
def c220 : AC :=
  .seq (.reg [⟨some 4, .box (.t 0), none⟩, ⟨some 6, .box (.t 2), none⟩, ⟨some 7, .box (.t 3), none⟩, ⟨some 8, .box (.k (.agg [.c (.int .i64 0), .c (.str []), .c (.int .i64 0), .csl [], .c (.int .i64 0)])), none⟩])
  (.seq (.reg [⟨some 12, .fadd 0 (.t 4), none⟩, ⟨some 13, .load1 (.t 12), none⟩, ⟨some 14, .mov (.t 1), none⟩, ⟨some 15, .build [.c (.int .i64 0), .c (.str []), .c (.int .i64 0), .csl [], .c (.int .i64 0)] [(0, 1, (.k (.c (.int .i64 0)))), (1, 1, (.t 13)), (4, 1, (.t 14))], none⟩, ⟨some 9, .box (.k (.agg [.c (.int .i64 0), .c (.str []), .c (.int .i64 0), .csl [], .c (.int .i64 0)])), none⟩, ⟨none, .store 5 (.t 9) (.t 15), none⟩])
  (.seq (.seq (.reg [⟨some 16, .loadn 5 (.t 6), none⟩, ⟨some 17, .loadn 5 (.t 7), none⟩, ⟨some 18, .bsl 5 [(.t 16), (.t 17)], none⟩, ⟨some 19, .lenr (.t 18), none⟩, ⟨some 20, .mov (.k (.c (.int .i64 0))), none⟩])
  (.block 0 (.loop (.seq (.reg [⟨some 21, .bin .lss (.t 20) (.t 19), none⟩])
  (.seq (.cond (.t 21)
  (.skip)
  (.exit 0))
  (.seq (.block 1 (.seq (.reg [⟨some 22, .iadd 5 (.t 18) (.t 20), none⟩, ⟨some 23, .loadn 5 (.t 22), none⟩, ⟨some 11, .box (.k (.agg [.c (.int .i64 0), .c (.str []), .c (.int .i64 0), .csl [], .c (.int .i64 0)])), none⟩, ⟨none, .store 5 (.t 11) (.t 23), none⟩])
  (.reg [⟨some 24, .loadn 5 (.t 9), none⟩, ⟨some 25, .loadn 5 (.t 11), none⟩, ⟨some 26, .bsl 5 [(.t 24), (.t 25)], none⟩, ⟨some 27, .mov (.t 1), none⟩, ⟨some 28, .build [.c (.int .i64 0), .c (.str []), .c (.int .i64 0), .csl [], .c (.int .i64 0)] [(0, 1, (.k (.c (.int .i64 3)))), (3, 1, (.t 26)), (4, 1, (.t 27))], none⟩, ⟨none, .store 5 (.t 9) (.t 28), none⟩])))
  (.reg [⟨some 29, .bin .add (.t 20) (.k (.c (.int .i64 1))), none⟩, ⟨some 20, .mov (.t 29), none⟩])))))))
  (.seq (.reg [⟨some 30, .loadn 5 (.t 9), none⟩, ⟨none, .store 5 (.t 8) (.t 30), none⟩])
  (.ret))))
def r220 : List ResV := [.celln 5 8]
theorem tr220 : tr Tryz.prog Tryz.f220.ntmps (Tryz.f220.body.getD .skip) = some c220 := by kernel_rfl
theorem tre220 : trRes Tryz.prog Tryz.f220.results.toList = some r220 := by kernel_rfl
theorem en220 : Enters Tryz.prog 220 := enters_fn Tryz.func220 (by kernel_rfl) rfl
theorem go220 {w0 : World} {args : List V} {σ : H} {R : V → H → Prop} (ha : args.length = 4) (h : H.ok σ → (∀ x ∈ args, V.Sz x) → W Tryz.prog w0 σ.length (Fin r220 σ.length R) [.code c220] ⟨argEnv args, σ⟩) : DC Tryz.prog w0 220 args σ R :=
  DC.of_code (by kernel_rfl) Tryz.func220 rfl tr220 tre220 (by rw [ha]; exact by decide) en220 h
/-- (*read.reader).inner -/
def c218 : AC :=
  .seq (.reg [⟨some 7, .box (.t 3), none⟩, ⟨some 8, .box (.k (.agg [.c (.int .i64 0), .c (.str []), .c (.int .i64 0), .csl [], .c (.int .i64 0), .c (.nilp), .c (.int .i64 0), .c (.str []), .c (.int .i64 0), .c (.int .i64 0)])), none⟩, ⟨some 9, .box (.k (.agg [.c (.int .i64 0), .c (.int .i64 0)])), none⟩])
  (.seq (.seq (.reg [⟨some 10, .mov (.t 2), none⟩, ⟨some 11, .bin .geq (.t 10) (.k (.c (.int .i64 200))), none⟩])
  (.cond (.t 11)
  (.seq (.dreg [⟨some 12, .build [.c (.int .i64 0), .c (.str []), .c (.int .i64 0), .csl [], .c (.int .i64 0), .c (.nilp), .c (.int .i64 0), .c (.str []), .c (.int .i64 0), .c (.int .i64 0)] [], none⟩, ⟨some 13, .fadd 3 (.t 7), none⟩, ⟨some 14, .load1 (.t 13), none⟩, ⟨some 15, .build [.c (.int .i64 0), .c (.int .i64 0)] [(0, 1, (.k (.c (.int .i64 31)))), (1, 1, (.t 14))], none⟩, ⟨none, .store 10 (.t 8) (.t 12), none⟩, ⟨none, .store 2 (.t 9) (.t 15), none⟩]
    [⟨⟨some 12, .build [.c (.int .i64 0), .c (.str []), .c (.int .i64 0), .csl [], .c (.int .i64 0), .c (.nilp), .c (.int .i64 0), .c (.str []), .c (.int .i64 0), .c (.int .i64 0)] [], none⟩, false, 0⟩, ⟨⟨none, .store 10 (.t 8) (.t 12), none⟩, true, 0⟩, ⟨⟨some 13, .fadd 3 (.t 7), none⟩, false, 0⟩, ⟨⟨some 14, .load1 (.t 13), none⟩, false, 0⟩, ⟨⟨some 15, .build [.c (.int .i64 0), .c (.int .i64 0)] [(0, 1, (.k (.c (.int .i64 31)))), (1, 1, (.t 14))], none⟩, false, 0⟩, ⟨⟨none, .store 2 (.t 9) (.t 15), none⟩, true, 1⟩])
  (.ret))
  (.skip)))
  (.seq (.reg [⟨some 16, .mov (.t 0), none⟩, ⟨some 17, .mov (.t 1), none⟩, ⟨some 18, .mov (.t 2), none⟩, ⟨some 19, .bin .add (.t 18) (.k (.c (.int .i64 1))), none⟩, ⟨some 20, .call (.k (.fn 173 [])) [(.t 16), (.t 17), (.t 19)], none⟩, ⟨some 21, .ext (.t 20) 0, none⟩, ⟨some 22, .ext (.t 20) 1, none⟩, ⟨none, .store 10 (.t 8) (.t 21), none⟩, ⟨none, .store 2 (.t 9) (.t 22), none⟩])
  (.ret)))
def r218 : List ResV := [.celln 10 8, .celln 2 9]
theorem tr218 : tr Tryz.prog Tryz.f218.ntmps (Tryz.f218.body.getD .skip) = some c218 := by kernel_rfl
theorem tre218 : trRes Tryz.prog Tryz.f218.results.toList = some r218 := by kernel_rfl
theorem en218 : Enters Tryz.prog 218 := enters_fn Tryz.func218 (by kernel_rfl) rfl
theorem go218 {w0 : World} {args : List V} {σ : H} {R : V → H → Prop} (ha : args.length = 4) (h : H.ok σ → (∀ x ∈ args, V.Sz x) → W Tryz.prog w0 σ.length (Fin r218 σ.length R) [.code c218] ⟨argEnv args, σ⟩) : DC Tryz.prog w0 218 args σ R :=
  DC.of_code (by kernel_rfl) Tryz.func218 rfl tr218 tre218 (by rw [ha]; exact by decide) en218 h
/-- (*read.reader).brackets -/
def c276 : AC :=
  .seq (.reg [⟨some 4, .box (.k (.agg [.c (.int .i64 0), .c (.str []), .c (.int .i64 0), .csl [], .c (.int .i64 0)])), none⟩, ⟨some 5, .box (.k (.agg [.c (.int .i64 0), .c (.int .i64 0)])), none⟩])
  (.seq (.reg [⟨some 13, .mov (.t 0), none⟩, ⟨some 14, .call (.k (.fn 215 [])) [(.t 13), (.k (.c (.int .i64 0)))], none⟩, ⟨some 15, .mov (.t 0), none⟩, ⟨some 16, .call (.k (.fn 215 [])) [(.t 15), (.k (.c (.int .i64 1)))], none⟩, ⟨some 6, .box (.k (.agg [.c (.int .i64 0), .c (.str []), .c (.int .i64 0), .c (.int .i64 0)])), none⟩, ⟨some 7, .box (.k (.agg [.c (.int .i64 0), .c (.str []), .c (.int .i64 0), .c (.int .i64 0)])), none⟩, ⟨none, .store 4 (.t 6) (.t 14), none⟩, ⟨none, .store 4 (.t 7) (.t 16), none⟩])
  (.seq (.seq (.reg [⟨some 18, .mov (.t 0), none⟩, ⟨some 19, .loadn 4 (.t 7), none⟩, ⟨some 20, .call (.k (.fn 216 [])) [(.t 18), (.t 19)], none⟩, ⟨some 17, .mov (.t 20), none⟩, ⟨some 21, .ext (.t 17) 0, none⟩, ⟨some 22, .ext (.t 17) 1, none⟩, ⟨some 8, .box (.k (.agg [.c (.str []), .c (.int .i64 0), .c (.int .i64 0)])), none⟩, ⟨none, .store 3 (.t 8) (.t 21), none⟩, ⟨some 9, .mov (.t 22), none⟩])
  (.seq (.reg [⟨some 23, .mov (.t 9), none⟩, ⟨some 24, .mov (.t 23), none⟩, ⟨some 25, .mov (.t 0), some (24, true)⟩, ⟨some 26, .call (.k (.fn 215 [])) [(.t 25), (.k (.c (.int .i64 2)))], some (24, true)⟩, ⟨some 27, .field1 0 (.t 26), some (24, true)⟩, ⟨some 28, .bin .eql (.t 27) (.k (.c (.int .i64 6))), some (24, true)⟩, ⟨some 29, .pick (.t 24) (.t 28) (.k (.c (.bool false))), none⟩])
  (.cond (.t 29)
  (.seq (.reg [⟨some 30, .mov (.t 0), none⟩, ⟨some 31, .nilck (.t 30), none⟩, ⟨some 32, .fadd 2 (.t 31), none⟩, ⟨some 33, .load1 (.t 32), none⟩, ⟨some 34, .bin .add (.t 33) (.k (.c (.int .i64 3))), none⟩, ⟨some 35, .nilck (.t 30), none⟩, ⟨some 36, .fadd 2 (.t 35), none⟩, ⟨none, .store 1 (.t 36) (.t 34), none⟩])
  (.seq (.reg [⟨some 37, .fadd 1 (.t 7), none⟩, ⟨some 38, .load1 (.t 37), none⟩, ⟨some 39, .fadd 3 (.t 7), none⟩, ⟨some 40, .load1 (.t 39), none⟩, ⟨some 41, .build [.c (.int .i64 0), .c (.str []), .c (.int .i64 0), .csl [], .c (.int .i64 0)] [(0, 1, (.k (.c (.int .i64 0)))), (1, 1, (.t 38)), (4, 1, (.t 40))], none⟩, ⟨some 42, .build [.c (.int .i64 0), .c (.int .i64 0)] [], none⟩, ⟨none, .store 5 (.t 4) (.t 41), none⟩, ⟨none, .store 2 (.t 5) (.t 42), none⟩])
  (.ret)))
  (.skip))))
  (.seq (.reg [⟨some 43, .mov (.t 0), none⟩, ⟨some 44, .nilck (.t 43), none⟩, ⟨some 45, .fadd 2 (.t 44), none⟩, ⟨some 46, .load1 (.t 45), none⟩, ⟨some 47, .bin .add (.t 46) (.k (.c (.int .i64 1))), none⟩, ⟨some 48, .nilck (.t 43), none⟩, ⟨some 49, .fadd 2 (.t 48), none⟩, ⟨none, .store 1 (.t 49) (.t 47), none⟩])
  (.seq (.reg [⟨some 51, .mov (.t 0), none⟩, ⟨some 52, .mov (.t 1), none⟩, ⟨some 53, .loadn 4 (.t 6), none⟩, ⟨some 54, .call (.k (.fn 218 [])) [(.t 51), (.k (.c (.int .i64 0))), (.t 52), (.t 53)], none⟩, ⟨some 50, .mov (.t 54), none⟩, ⟨some 55, .ext (.t 50) 0, none⟩, ⟨some 56, .ext (.t 50) 1, none⟩, ⟨some 10, .box (.k (.agg [.c (.int .i64 0), .c (.str []), .c (.int .i64 0), .csl [], .c (.int .i64 0), .c (.nilp), .c (.int .i64 0), .c (.str []), .c (.int .i64 0), .c (.int .i64 0)])), none⟩, ⟨some 11, .box (.k (.agg [.c (.int .i64 0), .c (.int .i64 0)])), none⟩, ⟨none, .store 10 (.t 10) (.t 55), none⟩, ⟨none, .store 2 (.t 11) (.t 56), none⟩])
  (.seq (.seq (.reg [⟨some 57, .loadn 2 (.t 11), none⟩, ⟨some 58, .call (.k (.fn 174 [])) [(.t 57)], none⟩, ⟨some 59, .un .not (.t 58), none⟩])
  (.cond (.t 59)
  (.seq (.dreg [⟨some 60, .build [.c (.int .i64 0), .c (.str []), .c (.int .i64 0), .csl [], .c (.int .i64 0)] [], none⟩, ⟨some 61, .loadn 2 (.t 11), none⟩, ⟨none, .store 5 (.t 4) (.t 60), none⟩, ⟨none, .store 2 (.t 5) (.t 61), none⟩]
    [⟨⟨some 60, .build [.c (.int .i64 0), .c (.str []), .c (.int .i64 0), .csl [], .c (.int .i64 0)] [], none⟩, false, 0⟩, ⟨⟨none, .store 5 (.t 4) (.t 60), none⟩, true, 0⟩, ⟨⟨some 61, .loadn 2 (.t 11), none⟩, false, 0⟩, ⟨⟨none, .store 2 (.t 5) (.t 61), none⟩, true, 1⟩])
  (.ret))
  (.skip)))
  (.seq (.seq (.reg [⟨some 62, .mov (.t 0), none⟩, ⟨some 63, .call (.k (.fn 215 [])) [(.t 62), (.k (.c (.int .i64 0)))], none⟩, ⟨some 12, .box (.k (.agg [.c (.int .i64 0), .c (.str []), .c (.int .i64 0), .c (.int .i64 0)])), none⟩, ⟨none, .store 4 (.t 12) (.t 63), none⟩])
  (.seq (.reg [⟨some 64, .fadd 0 (.t 12), none⟩, ⟨some 65, .load1 (.t 64), none⟩, ⟨some 66, .bin .neq (.t 65) (.k (.c (.int .i64 6))), none⟩])
  (.cond (.t 66)
  (.seq (.dreg [⟨some 67, .build [.c (.int .i64 0), .c (.str []), .c (.int .i64 0), .csl [], .c (.int .i64 0)] [], none⟩, ⟨some 68, .fadd 3 (.t 12), none⟩, ⟨some 69, .load1 (.t 68), none⟩, ⟨some 70, .build [.c (.int .i64 0), .c (.int .i64 0)] [(0, 1, (.k (.c (.int .i64 30)))), (1, 1, (.t 69))], none⟩, ⟨none, .store 5 (.t 4) (.t 67), none⟩, ⟨none, .store 2 (.t 5) (.t 70), none⟩]
    [⟨⟨some 67, .build [.c (.int .i64 0), .c (.str []), .c (.int .i64 0), .csl [], .c (.int .i64 0)] [], none⟩, false, 0⟩, ⟨⟨none, .store 5 (.t 4) (.t 67), none⟩, true, 0⟩, ⟨⟨some 68, .fadd 3 (.t 12), none⟩, false, 0⟩, ⟨⟨some 69, .load1 (.t 68), none⟩, false, 0⟩, ⟨⟨some 70, .build [.c (.int .i64 0), .c (.int .i64 0)] [(0, 1, (.k (.c (.int .i64 30)))), (1, 1, (.t 69))], none⟩, false, 0⟩, ⟨⟨none, .store 2 (.t 5) (.t 70), none⟩, true, 1⟩])
  (.ret))
  (.skip))))
  (.seq (.reg [⟨some 71, .mov (.t 0), none⟩, ⟨some 72, .nilck (.t 71), none⟩, ⟨some 73, .fadd 2 (.t 72), none⟩, ⟨some 74, .load1 (.t 73), none⟩, ⟨some 75, .bin .add (.t 74) (.k (.c (.int .i64 1))), none⟩, ⟨some 76, .nilck (.t 71), none⟩, ⟨some 77, .fadd 2 (.t 76), none⟩, ⟨none, .store 1 (.t 77) (.t 75), none⟩])
  (.seq (.reg [⟨some 78, .fadd 0 (.t 10), none⟩, ⟨some 79, .loadn 5 (.t 78), none⟩, ⟨some 80, .build [.c (.int .i64 0), .c (.int .i64 0)] [], none⟩, ⟨none, .store 5 (.t 4) (.t 79), none⟩, ⟨none, .store 2 (.t 5) (.t 80), none⟩])
  (.ret)))))))))
def r276 : List ResV := [.celln 5 4, .celln 2 5]
theorem tr276 : tr Tryz.prog Tryz.f276.ntmps (Tryz.f276.body.getD .skip) = some c276 := by kernel_rfl
theorem tre276 : trRes Tryz.prog Tryz.f276.results.toList = some r276 := by kernel_rfl
theorem en276 : Enters Tryz.prog 276 := enters_fn Tryz.func276 (by kernel_rfl) rfl
theorem go276 {w0 : World} {args : List V} {σ : H} {R : V → H → Prop} (ha : args.length = 2) (h : H.ok σ → (∀ x ∈ args, V.Sz x) → W Tryz.prog w0 σ.length (Fin r276 σ.length R) [.code c276] ⟨argEnv args, σ⟩) : DC Tryz.prog w0 276 args σ R :=
  DC.of_code (by kernel_rfl) Tryz.func276 rfl tr276 tre276 (by rw [ha]; exact by decide) en276 h
/-- (*read.reader).atom -/
def c252 : AC :=
  .seq (.reg [⟨some 4, .box (.k (.agg [.c (.int .i64 0), .c (.str []), .c (.int .i64 0), .csl [], .c (.int .i64 0)])), none⟩, ⟨some 5, .box (.k (.agg [.c (.int .i64 0), .c (.int .i64 0)])), none⟩])
  (.seq (.reg [⟨some 10, .mov (.t 0), none⟩, ⟨some 11, .call (.k (.fn 215 [])) [(.t 10), (.k (.c (.int .i64 0)))], none⟩, ⟨some 6, .box (.k (.agg [.c (.int .i64 0), .c (.str []), .c (.int .i64 0), .c (.int .i64 0)])), none⟩, ⟨none, .store 4 (.t 6) (.t 11), none⟩])
  (.seq (.reg [⟨some 12, .fadd 1 (.t 6), none⟩, ⟨some 13, .load1 (.t 12), none⟩, ⟨some 14, .fadd 3 (.t 6), none⟩, ⟨some 15, .load1 (.t 14), none⟩, ⟨some 16, .build [.c (.int .i64 0), .c (.str []), .c (.int .i64 0), .csl [], .c (.int .i64 0)] [(0, 1, (.k (.c (.int .i64 0)))), (1, 1, (.t 13)), (4, 1, (.t 15))], none⟩, ⟨some 7, .box (.k (.agg [.c (.int .i64 0), .c (.str []), .c (.int .i64 0), .csl [], .c (.int .i64 0)])), none⟩, ⟨none, .store 5 (.t 7) (.t 16), none⟩])
  (.seq (.block 0 (.seq (.reg [⟨some 18, .mov (.t 0), none⟩, ⟨some 19, .call (.k (.fn 253 [])) [(.t 18)], none⟩, ⟨some 20, .un .not (.t 19), none⟩, ⟨some 17, .mov (.t 20), none⟩])
  (.cond (.t 17)
  (.seq (.dreg [⟨some 21, .build [.c (.int .i64 0), .c (.str []), .c (.int .i64 0), .csl [], .c (.int .i64 0)] [], none⟩, ⟨some 22, .fadd 3 (.t 6), none⟩, ⟨some 23, .load1 (.t 22), none⟩, ⟨some 24, .build [.c (.int .i64 0), .c (.int .i64 0)] [(0, 1, (.k (.c (.int .i64 30)))), (1, 1, (.t 23))], none⟩, ⟨none, .store 5 (.t 4) (.t 21), none⟩, ⟨none, .store 2 (.t 5) (.t 24), none⟩]
    [⟨⟨some 21, .build [.c (.int .i64 0), .c (.str []), .c (.int .i64 0), .csl [], .c (.int .i64 0)] [], none⟩, false, 0⟩, ⟨⟨none, .store 5 (.t 4) (.t 21), none⟩, true, 0⟩, ⟨⟨some 22, .fadd 3 (.t 6), none⟩, false, 0⟩, ⟨⟨some 23, .load1 (.t 22), none⟩, false, 0⟩, ⟨⟨some 24, .build [.c (.int .i64 0), .c (.int .i64 0)] [(0, 1, (.k (.c (.int .i64 30)))), (1, 1, (.t 23))], none⟩, false, 0⟩, ⟨⟨none, .store 2 (.t 5) (.t 24), none⟩, true, 1⟩])
  (.ret))
  (.seq (.reg [⟨some 26, .fadd 0 (.t 6), none⟩, ⟨some 27, .load1 (.t 26), none⟩, ⟨some 28, .bin .eql (.t 27) (.k (.c (.int .i64 5))), none⟩, ⟨some 25, .mov (.t 28), none⟩])
  (.cond (.t 25)
  (.seq (.reg [⟨some 29, .mov (.t 0), none⟩, ⟨some 30, .mov (.t 1), none⟩, ⟨some 31, .call (.k (.fn 276 [])) [(.t 29), (.t 30)], none⟩, ⟨some 32, .ext (.t 31) 0, none⟩, ⟨some 33, .ext (.t 31) 1, none⟩, ⟨none, .store 5 (.t 4) (.t 32), none⟩, ⟨none, .store 2 (.t 5) (.t 33), none⟩])
  (.ret))
  (.seq (.reg [⟨some 35, .fadd 0 (.t 6), none⟩, ⟨some 36, .load1 (.t 35), none⟩, ⟨some 37, .bin .eql (.t 36) (.k (.c (.int .i64 3))), none⟩, ⟨some 34, .mov (.t 37), none⟩])
  (.cond (.t 34)
  (.reg [⟨some 38, .fadd 2 (.t 6), none⟩, ⟨some 39, .load1 (.t 38), none⟩, ⟨some 40, .fadd 3 (.t 6), none⟩, ⟨some 41, .load1 (.t 40), none⟩, ⟨some 42, .build [.c (.int .i64 0), .c (.str []), .c (.int .i64 0), .csl [], .c (.int .i64 0)] [(0, 1, (.k (.c (.int .i64 2)))), (2, 1, (.t 39)), (4, 1, (.t 41))], none⟩, ⟨none, .store 5 (.t 7) (.t 42), none⟩])
  (.seq (.reg [⟨some 44, .fadd 0 (.t 6), none⟩, ⟨some 45, .load1 (.t 44), none⟩, ⟨some 46, .bin .neq (.t 45) (.k (.c (.int .i64 4))), none⟩, ⟨some 47, .mov (.t 46), none⟩, ⟨some 48, .mov (.t 0), some (47, true)⟩, ⟨some 49, .call (.k (.fn 215 [])) [(.t 48), (.k (.c (.int .i64 1)))], some (47, true)⟩, ⟨some 50, .field1 0 (.t 49), some (47, true)⟩, ⟨some 51, .bin .eql (.t 50) (.k (.c (.int .i64 8))), some (47, true)⟩, ⟨some 52, .pick (.t 47) (.t 51) (.k (.c (.bool false))), none⟩, ⟨some 43, .mov (.t 52), none⟩])
  (.cond (.t 43)
  (.seq (.reg [⟨some 53, .mov (.t 0), none⟩, ⟨some 54, .nilck (.t 53), none⟩, ⟨some 55, .fadd 2 (.t 54), none⟩, ⟨some 56, .load1 (.t 55), none⟩, ⟨some 57, .bin .add (.t 56) (.k (.c (.int .i64 2))), none⟩, ⟨some 58, .nilck (.t 53), none⟩, ⟨some 59, .fadd 2 (.t 58), none⟩, ⟨none, .store 1 (.t 59) (.t 57), none⟩])
  (.seq (.reg [⟨some 61, .mov (.t 0), none⟩, ⟨some 62, .mov (.t 1), none⟩, ⟨some 63, .loadn 4 (.t 6), none⟩, ⟨some 64, .call (.k (.fn 218 [])) [(.t 61), (.k (.c (.int .i64 0))), (.t 62), (.t 63)], none⟩, ⟨some 60, .mov (.t 64), none⟩, ⟨some 65, .ext (.t 60) 0, none⟩, ⟨some 66, .ext (.t 60) 1, none⟩, ⟨some 8, .box (.k (.agg [.c (.int .i64 0), .c (.str []), .c (.int .i64 0), .csl [], .c (.int .i64 0), .c (.nilp), .c (.int .i64 0), .c (.str []), .c (.int .i64 0), .c (.int .i64 0)])), none⟩, ⟨some 9, .box (.k (.agg [.c (.int .i64 0), .c (.int .i64 0)])), none⟩, ⟨none, .store 10 (.t 8) (.t 65), none⟩, ⟨none, .store 2 (.t 9) (.t 66), none⟩])
  (.seq (.dreg [⟨some 67, .fadd 1 (.t 6), none⟩, ⟨some 68, .load1 (.t 67), none⟩, ⟨some 69, .fadd 0 (.t 8), none⟩, ⟨some 70, .loadn 5 (.t 69), none⟩, ⟨some 71, .bsl 5 [(.t 70)], none⟩, ⟨some 72, .fadd 3 (.t 6), none⟩, ⟨some 73, .load1 (.t 72), none⟩, ⟨some 74, .build [.c (.int .i64 0), .c (.str []), .c (.int .i64 0), .csl [], .c (.int .i64 0)] [(0, 1, (.k (.c (.int .i64 4)))), (1, 1, (.t 68)), (3, 1, (.t 71)), (4, 1, (.t 73))], none⟩, ⟨some 75, .loadn 2 (.t 9), none⟩, ⟨none, .store 5 (.t 4) (.t 74), none⟩, ⟨none, .store 2 (.t 5) (.t 75), none⟩]
    [⟨⟨some 67, .fadd 1 (.t 6), none⟩, false, 0⟩, ⟨⟨some 68, .load1 (.t 67), none⟩, false, 0⟩, ⟨⟨some 69, .fadd 0 (.t 8), none⟩, false, 0⟩, ⟨⟨some 70, .loadn 5 (.t 69), none⟩, false, 0⟩, ⟨⟨some 71, .bsl 5 [(.t 70)], none⟩, false, 0⟩, ⟨⟨some 72, .fadd 3 (.t 6), none⟩, false, 0⟩, ⟨⟨some 73, .load1 (.t 72), none⟩, false, 0⟩, ⟨⟨some 74, .build [.c (.int .i64 0), .c (.str []), .c (.int .i64 0), .csl [], .c (.int .i64 0)] [(0, 1, (.k (.c (.int .i64 4)))), (1, 1, (.t 68)), (3, 1, (.t 71)), (4, 1, (.t 73))], none⟩, false, 0⟩, ⟨⟨none, .store 5 (.t 4) (.t 74), none⟩, true, 0⟩, ⟨⟨some 75, .loadn 2 (.t 9), none⟩, false, 0⟩, ⟨⟨none, .store 2 (.t 5) (.t 75), none⟩, true, 1⟩])
  (.ret))))
  (.seq (.reg [⟨some 77, .fadd 0 (.t 6), none⟩, ⟨some 78, .load1 (.t 77), none⟩, ⟨some 79, .bin .eql (.t 78) (.k (.c (.int .i64 2))), none⟩, ⟨some 76, .mov (.t 79), none⟩])
  (.cond (.t 76)
  (.reg [⟨some 80, .fadd 0 (.t 7), none⟩, ⟨none, .store 1 (.t 80) (.k (.c (.int .i64 1))), none⟩])
  (.skip))))))))))))
  (.seq (.reg [⟨some 81, .mov (.t 0), none⟩, ⟨some 82, .nilck (.t 81), none⟩, ⟨some 83, .fadd 2 (.t 82), none⟩, ⟨some 84, .load1 (.t 83), none⟩, ⟨some 85, .bin .add (.t 84) (.k (.c (.int .i64 1))), none⟩, ⟨some 86, .nilck (.t 81), none⟩, ⟨some 87, .fadd 2 (.t 86), none⟩, ⟨none, .store 1 (.t 87) (.t 85), none⟩])
  (.seq (.reg [⟨some 88, .loadn 5 (.t 7), none⟩, ⟨some 89, .build [.c (.int .i64 0), .c (.int .i64 0)] [], none⟩, ⟨none, .store 5 (.t 4) (.t 88), none⟩, ⟨none, .store 2 (.t 5) (.t 89), none⟩])
  (.ret))))))
def r252 : List ResV := [.celln 5 4, .celln 2 5]
theorem tr252 : tr Tryz.prog Tryz.f252.ntmps (Tryz.f252.body.getD .skip) = some c252 := by kernel_rfl
theorem tre252 : trRes Tryz.prog Tryz.f252.results.toList = some r252 := by kernel_rfl
theorem en252 : Enters Tryz.prog 252 := enters_fn Tryz.func252 (by kernel_rfl) rfl
theorem go252 {w0 : World} {args : List V} {σ : H} {R : V → H → Prop} (ha : args.length = 2) (h : H.ok σ → (∀ x ∈ args, V.Sz x) → W Tryz.prog w0 σ.length (Fin r252 σ.length R) [.code c252] ⟨argEnv args, σ⟩) : DC Tryz.prog w0 252 args σ R :=
  DC.of_code (by kernel_rfl) Tryz.func252 rfl tr252 tre252 (by rw [ha]; exact by decide) en252 h
/-- (*read.reader).operand -/
def c214 : AC :=
  .seq (.reg [⟨some 4, .box (.k (.agg [.c (.int .i64 0), .c (.str []), .c (.int .i64 0), .csl [], .c (.int .i64 0)])), none⟩, ⟨some 5, .box (.k (.agg [.c (.int .i64 0), .c (.int .i64 0)])), none⟩])
  (.seq (.reg [⟨some 11, .mov (.t 0), none⟩, ⟨some 12, .call (.k (.fn 251 [])) [(.t 11)], none⟩, ⟨some 6, .mov (.t 12), none⟩])
  (.seq (.reg [⟨some 14, .mov (.t 0), none⟩, ⟨some 15, .mov (.t 1), none⟩, ⟨some 16, .call (.k (.fn 252 [])) [(.t 14), (.t 15)], none⟩, ⟨some 13, .mov (.t 16), none⟩, ⟨some 17, .ext (.t 13) 0, none⟩, ⟨some 18, .ext (.t 13) 1, none⟩, ⟨some 7, .box (.k (.agg [.c (.int .i64 0), .c (.str []), .c (.int .i64 0), .csl [], .c (.int .i64 0)])), none⟩, ⟨some 8, .box (.k (.agg [.c (.int .i64 0), .c (.int .i64 0)])), none⟩, ⟨none, .store 5 (.t 7) (.t 17), none⟩, ⟨none, .store 2 (.t 8) (.t 18), none⟩])
  (.seq (.reg [⟨some 19, .fadd 4 (.t 7), none⟩, ⟨some 20, .load1 (.t 19), none⟩, ⟨some 9, .mov (.t 20), none⟩])
  (.seq (.block 0 (.loop (.seq (.seq (.reg [⟨some 21, .loadn 2 (.t 8), none⟩, ⟨some 22, .call (.k (.fn 174 [])) [(.t 21)], none⟩, ⟨some 23, .mov (.t 22), none⟩, ⟨some 24, .mov (.t 6), some (23, true)⟩, ⟨some 25, .un .not (.t 24), some (23, true)⟩, ⟨some 26, .pick (.t 23) (.t 25) (.k (.c (.bool false))), none⟩, ⟨some 27, .mov (.t 26), none⟩, ⟨some 28, .mov (.t 0), some (27, true)⟩, ⟨some 29, .call (.k (.fn 253 [])) [(.t 28)], some (27, true)⟩, ⟨some 30, .pick (.t 27) (.t 29) (.k (.c (.bool false))), none⟩])
  (.cond (.t 30)
  (.skip)
  (.exit 0)))
  (.block 1 (.seq (.reg [⟨some 31, .mov (.t 0), none⟩, ⟨some 32, .call (.k (.fn 251 [])) [(.t 31)], none⟩, ⟨some 6, .mov (.t 32), none⟩])
  (.seq (.reg [⟨some 10, .box (.k (.agg [.c (.int .i64 0), .c (.str []), .c (.int .i64 0), .csl [], .c (.int .i64 0)])), none⟩])
  (.seq (.reg [⟨some 34, .mov (.t 0), none⟩, ⟨some 35, .mov (.t 1), none⟩, ⟨some 36, .call (.k (.fn 252 [])) [(.t 34), (.t 35)], none⟩, ⟨some 33, .mov (.t 36), none⟩, ⟨some 37, .ext (.t 33) 0, none⟩, ⟨some 38, .ext (.t 33) 1, none⟩, ⟨none, .store 5 (.t 10) (.t 37), none⟩, ⟨none, .store 2 (.t 8) (.t 38), none⟩])
  (.reg [⟨some 39, .loadn 5 (.t 7), none⟩, ⟨some 40, .loadn 5 (.t 10), none⟩, ⟨some 41, .bsl 5 [(.t 39), (.t 40)], none⟩, ⟨some 42, .mov (.t 9), none⟩, ⟨some 43, .build [.c (.int .i64 0), .c (.str []), .c (.int .i64 0), .csl [], .c (.int .i64 0)] [(0, 1, (.k (.c (.int .i64 3)))), (3, 1, (.t 41)), (4, 1, (.t 42))], none⟩, ⟨none, .store 5 (.t 7) (.t 43), none⟩]))))))))
  (.seq (.dreg [⟨some 44, .loadn 5 (.t 7), none⟩, ⟨some 45, .loadn 2 (.t 8), none⟩, ⟨none, .store 5 (.t 4) (.t 44), none⟩, ⟨none, .store 2 (.t 5) (.t 45), none⟩]
    [⟨⟨some 44, .loadn 5 (.t 7), none⟩, false, 0⟩, ⟨⟨none, .store 5 (.t 4) (.t 44), none⟩, true, 0⟩, ⟨⟨some 45, .loadn 2 (.t 8), none⟩, false, 0⟩, ⟨⟨none, .store 2 (.t 5) (.t 45), none⟩, true, 1⟩])
  (.ret))))))
def r214 : List ResV := [.celln 5 4, .celln 2 5]
theorem tr214 : tr Tryz.prog Tryz.f214.ntmps (Tryz.f214.body.getD .skip) = some c214 := by kernel_rfl
theorem tre214 : trRes Tryz.prog Tryz.f214.results.toList = some r214 := by kernel_rfl
theorem en214 : Enters Tryz.prog 214 := enters_fn Tryz.func214 (by kernel_rfl) rfl
theorem go214 {w0 : World} {args : List V} {σ : H} {R : V → H → Prop} (ha : args.length = 2) (h : H.ok σ → (∀ x ∈ args, V.Sz x) → W Tryz.prog w0 σ.length (Fin r214 σ.length R) [.code c214] ⟨argEnv args, σ⟩) : DC Tryz.prog w0 214 args σ R :=
  DC.of_code (by kernel_rfl) Tryz.func214 rfl tr214 tre214 (by rw [ha]; exact by decide) en214 h
/-- (*read.reader).expr -/
def c173 : AC :=
  .seq (.reg [⟨some 6, .box (.k (.agg [.c (.int .i64 0), .c (.str []), .c (.int .i64 0), .csl [], .c (.int .i64 0), .c (.nilp), .c (.int .i64 0), .c (.str []), .c (.int .i64 0), .c (.int .i64 0)])), none⟩, ⟨some 7, .box (.k (.agg [.c (.int .i64 0), .c (.int .i64 0)])), none⟩])
  (.seq (.reg [⟨some 17, .mov (.t 0), none⟩, ⟨some 18, .mov (.t 2), none⟩, ⟨some 19, .call (.k (.fn 214 [])) [(.t 17), (.t 18)], none⟩, ⟨some 16, .mov (.t 19), none⟩, ⟨some 20, .ext (.t 16) 0, none⟩, ⟨some 21, .ext (.t 16) 1, none⟩, ⟨some 8, .box (.k (.agg [.c (.int .i64 0), .c (.str []), .c (.int .i64 0), .csl [], .c (.int .i64 0)])), none⟩, ⟨some 9, .box (.k (.agg [.c (.int .i64 0), .c (.int .i64 0)])), none⟩, ⟨none, .store 5 (.t 8) (.t 20), none⟩, ⟨none, .store 2 (.t 9) (.t 21), none⟩])
  (.seq (.reg [⟨some 22, .loadn 5 (.t 8), none⟩, ⟨some 23, .build [.c (.int .i64 0), .c (.str []), .c (.int .i64 0), .csl [], .c (.int .i64 0), .c (.nilp), .c (.int .i64 0), .c (.str []), .c (.int .i64 0), .c (.int .i64 0)] [(0, 5, (.t 22))], none⟩, ⟨some 10, .box (.k (.agg [.c (.int .i64 0), .c (.str []), .c (.int .i64 0), .csl [], .c (.int .i64 0), .c (.nilp), .c (.int .i64 0), .c (.str []), .c (.int .i64 0), .c (.int .i64 0)])), none⟩, ⟨none, .store 10 (.t 10) (.t 23), none⟩])
  (.seq (.skip)
  (.seq (.block 0 (.loop (.seq (.seq (.reg [⟨some 24, .loadn 2 (.t 9), none⟩, ⟨some 25, .call (.k (.fn 174 [])) [(.t 24)], none⟩])
  (.cond (.t 25)
  (.skip)
  (.exit 0)))
  (.block 1 (.seq (.reg [⟨some 26, .mov (.t 0), none⟩, ⟨some 27, .call (.k (.fn 215 [])) [(.t 26), (.k (.c (.int .i64 0)))], none⟩, ⟨some 11, .box (.k (.agg [.c (.int .i64 0), .c (.str []), .c (.int .i64 0), .c (.int .i64 0)])), none⟩, ⟨none, .store 4 (.t 11) (.t 27), none⟩])
  (.seq (.reg [⟨some 29, .mov (.t 0), none⟩, ⟨some 30, .loadn 4 (.t 11), none⟩, ⟨some 31, .call (.k (.fn 216 [])) [(.t 29), (.t 30)], none⟩, ⟨some 28, .mov (.t 31), none⟩, ⟨some 32, .ext (.t 28) 0, none⟩, ⟨some 33, .ext (.t 28) 1, none⟩, ⟨some 12, .box (.k (.agg [.c (.str []), .c (.int .i64 0), .c (.int .i64 0)])), none⟩, ⟨none, .store 3 (.t 12) (.t 32), none⟩, ⟨some 13, .mov (.t 33), none⟩])
  (.seq (.block 2 (.seq (.reg [⟨some 35, .mov (.t 13), none⟩, ⟨some 36, .un .not (.t 35), none⟩, ⟨some 37, .mov (.t 36), none⟩, ⟨some 38, .fadd 1 (.t 12), some (37, false)⟩, ⟨some 39, .load1 (.t 38), some (37, false)⟩, ⟨some 40, .mov (.t 1), some (37, false)⟩, ⟨some 41, .bin .lss (.t 39) (.t 40), some (37, false)⟩, ⟨some 42, .pick (.t 37) (.k (.c (.bool true))) (.t 41), none⟩, ⟨some 34, .mov (.t 42), none⟩])
  (.cond (.t 34)
  (.exit 0)
  (.seq (.dreg [⟨some 44, .fadd 5 (.t 10), none⟩, ⟨some 45, .load1 (.t 44), none⟩, ⟨some 46, .eqn true 0 (.t 45), none⟩, ⟨some 47, .mov (.t 46), none⟩, ⟨some 48, .loadn 3 (.t 12), some (47, true)⟩, ⟨some 49, .fadd 5 (.t 10), some (47, true)⟩, ⟨some 50, .load1 (.t 49), some (47, true)⟩, ⟨some 51, .nilck (.t 50), some (47, true)⟩, ⟨some 52, .loadn 3 (.t 51), some (47, true)⟩, ⟨some 53, .call (.k (.fn 217 [])) [(.t 48), (.t 52)], some (47, true)⟩, ⟨some 54, .un .not (.t 53), some (47, true)⟩, ⟨some 55, .pick (.t 47) (.t 54) (.k (.c (.bool false))), none⟩, ⟨some 43, .mov (.t 55), none⟩]
    [⟨⟨some 44, .fadd 5 (.t 10), none⟩, false, 0⟩, ⟨⟨some 45, .load1 (.t 44), none⟩, false, 0⟩, ⟨⟨some 46, .eqn true 0 (.t 45), none⟩, false, 0⟩, ⟨⟨some 47, .mov (.t 46), none⟩, false, 0⟩, ⟨⟨some 48, .loadn 3 (.t 12), some (47, true)⟩, false, 0⟩, ⟨⟨some 49, .fadd 5 (.t 10), some (47, true)⟩, false, 0⟩, ⟨⟨some 50, .load1 (.t 49), some (47, true)⟩, false, 0⟩, ⟨⟨some 51, .nilck (.t 50), some (47, true)⟩, false, 0⟩, ⟨⟨some 52, .loadn 3 (.t 51), some (47, true)⟩, false, 0⟩, ⟨⟨some 53, .call (.k (.fn 217 [])) [(.t 48), (.t 52)], some (47, true)⟩, true, 0⟩, ⟨⟨some 54, .un .not (.t 53), some (47, true)⟩, false, 1⟩, ⟨⟨some 55, .pick (.t 47) (.t 54) (.k (.c (.bool false))), none⟩, false, 1⟩, ⟨⟨some 43, .mov (.t 55), none⟩, false, 1⟩])
  (.cond (.t 43)
  (.seq (.dreg [⟨some 56, .build [.c (.int .i64 0), .c (.str []), .c (.int .i64 0), .csl [], .c (.int .i64 0), .c (.nilp), .c (.int .i64 0), .c (.str []), .c (.int .i64 0), .c (.int .i64 0)] [], none⟩, ⟨some 57, .fadd 3 (.t 11), none⟩, ⟨some 58, .load1 (.t 57), none⟩, ⟨some 59, .build [.c (.int .i64 0), .c (.int .i64 0)] [(0, 1, (.k (.c (.int .i64 32)))), (1, 1, (.t 58))], none⟩, ⟨none, .store 10 (.t 6) (.t 56), none⟩, ⟨none, .store 2 (.t 7) (.t 59), none⟩]
    [⟨⟨some 56, .build [.c (.int .i64 0), .c (.str []), .c (.int .i64 0), .csl [], .c (.int .i64 0), .c (.nilp), .c (.int .i64 0), .c (.str []), .c (.int .i64 0), .c (.int .i64 0)] [], none⟩, false, 0⟩, ⟨⟨none, .store 10 (.t 6) (.t 56), none⟩, true, 0⟩, ⟨⟨some 57, .fadd 3 (.t 11), none⟩, false, 0⟩, ⟨⟨some 58, .load1 (.t 57), none⟩, false, 0⟩, ⟨⟨some 59, .build [.c (.int .i64 0), .c (.int .i64 0)] [(0, 1, (.k (.c (.int .i64 32)))), (1, 1, (.t 58))], none⟩, false, 0⟩, ⟨⟨none, .store 2 (.t 7) (.t 59), none⟩, true, 1⟩])
  (.ret))
  (.skip))))))
  (.seq (.reg [⟨some 60, .mov (.t 0), none⟩, ⟨some 61, .nilck (.t 60), none⟩, ⟨some 62, .fadd 2 (.t 61), none⟩, ⟨some 63, .load1 (.t 62), none⟩, ⟨some 64, .bin .add (.t 63) (.k (.c (.int .i64 1))), none⟩, ⟨some 65, .nilck (.t 60), none⟩, ⟨some 66, .fadd 2 (.t 65), none⟩, ⟨none, .store 1 (.t 66) (.t 64), none⟩])
  (.seq (.reg [⟨some 67, .fadd 1 (.t 12), none⟩, ⟨some 68, .load1 (.t 67), none⟩, ⟨some 69, .bin .add (.t 68) (.k (.c (.int .i64 1))), none⟩, ⟨some 14, .mov (.t 69), none⟩])
  (.seq (.seq (.reg [⟨some 70, .fadd 2 (.t 12), none⟩, ⟨some 71, .load1 (.t 70), none⟩, ⟨some 72, .bin .eql (.t 71) (.k (.c (.int .i64 2))), none⟩])
  (.cond (.t 72)
  (.reg [⟨some 73, .fadd 1 (.t 12), none⟩, ⟨some 74, .load1 (.t 73), none⟩, ⟨some 14, .mov (.t 74), none⟩])
  (.skip)))
  (.seq (.reg [⟨some 15, .box (.k (.agg [.c (.int .i64 0), .c (.str []), .c (.int .i64 0), .csl [], .c (.int .i64 0), .c (.nilp), .c (.int .i64 0), .c (.str []), .c (.int .i64 0), .c (.int .i64 0)])), none⟩])
  (.seq (.reg [⟨some 76, .mov (.t 0), none⟩, ⟨some 77, .mov (.t 14), none⟩, ⟨some 78, .mov (.t 2), none⟩, ⟨some 79, .loadn 4 (.t 11), none⟩, ⟨some 80, .call (.k (.fn 218 [])) [(.t 76), (.t 77), (.t 78), (.t 79)], none⟩, ⟨some 75, .mov (.t 80), none⟩, ⟨some 81, .ext (.t 75) 0, none⟩, ⟨some 82, .ext (.t 75) 1, none⟩, ⟨none, .store 10 (.t 15) (.t 81), none⟩, ⟨none, .store 2 (.t 9) (.t 82), none⟩])
  (.seq (.seq (.dreg [⟨some 83, .loadn 2 (.t 9), none⟩, ⟨some 84, .call (.k (.fn 174 [])) [(.t 83)], none⟩, ⟨some 85, .mov (.t 84), none⟩, ⟨some 86, .fadd 5 (.t 15), some (85, true)⟩, ⟨some 87, .load1 (.t 86), some (85, true)⟩, ⟨some 88, .eqn true 0 (.t 87), some (85, true)⟩, ⟨some 89, .pick (.t 85) (.t 88) (.k (.c (.bool false))), none⟩, ⟨some 90, .mov (.t 89), none⟩, ⟨some 91, .loadn 3 (.t 12), some (90, true)⟩, ⟨some 92, .fadd 5 (.t 15), some (90, true)⟩, ⟨some 93, .load1 (.t 92), some (90, true)⟩, ⟨some 94, .nilck (.t 93), some (90, true)⟩, ⟨some 95, .loadn 3 (.t 94), some (90, true)⟩, ⟨some 96, .call (.k (.fn 219 [])) [(.t 91), (.t 95)], some (90, true)⟩, ⟨some 97, .un .not (.t 96), some (90, true)⟩, ⟨some 98, .pick (.t 90) (.t 97) (.k (.c (.bool false))), none⟩]
    [⟨⟨some 83, .loadn 2 (.t 9), none⟩, false, 0⟩, ⟨⟨some 84, .call (.k (.fn 174 [])) [(.t 83)], none⟩, true, 0⟩, ⟨⟨some 85, .mov (.t 84), none⟩, false, 1⟩, ⟨⟨some 86, .fadd 5 (.t 15), some (85, true)⟩, false, 1⟩, ⟨⟨some 87, .load1 (.t 86), some (85, true)⟩, false, 1⟩, ⟨⟨some 88, .eqn true 0 (.t 87), some (85, true)⟩, false, 1⟩, ⟨⟨some 89, .pick (.t 85) (.t 88) (.k (.c (.bool false))), none⟩, false, 1⟩, ⟨⟨some 90, .mov (.t 89), none⟩, false, 1⟩, ⟨⟨some 91, .loadn 3 (.t 12), some (90, true)⟩, false, 1⟩, ⟨⟨some 92, .fadd 5 (.t 15), some (90, true)⟩, false, 1⟩, ⟨⟨some 93, .load1 (.t 92), some (90, true)⟩, false, 1⟩, ⟨⟨some 94, .nilck (.t 93), some (90, true)⟩, false, 1⟩, ⟨⟨some 95, .loadn 3 (.t 94), some (90, true)⟩, false, 1⟩, ⟨⟨some 96, .call (.k (.fn 219 [])) [(.t 91), (.t 95)], some (90, true)⟩, true, 1⟩, ⟨⟨some 97, .un .not (.t 96), some (90, true)⟩, false, 2⟩, ⟨⟨some 98, .pick (.t 90) (.t 97) (.k (.c (.bool false))), none⟩, false, 2⟩])
  (.cond (.t 98)
  (.reg [⟨some 99, .fadd 6 (.t 15), none⟩, ⟨some 100, .fadd 3 (.t 99), none⟩, ⟨some 101, .load1 (.t 100), none⟩, ⟨some 102, .build [.c (.int .i64 0), .c (.int .i64 0)] [(0, 1, (.k (.c (.int .i64 32)))), (1, 1, (.t 101))], none⟩, ⟨none, .store 2 (.t 9) (.t 102), none⟩])
  (.skip)))
  (.dreg [⟨some 103, .loadn 3 (.t 12), none⟩, ⟨some 104, .fadd 3 (.t 11), none⟩, ⟨some 105, .load1 (.t 104), none⟩, ⟨some 106, .fadd 0 (.t 10), none⟩, ⟨some 107, .loadn 5 (.t 106), none⟩, ⟨some 108, .fadd 0 (.t 15), none⟩, ⟨some 109, .loadn 5 (.t 108), none⟩, ⟨some 110, .call (.k (.fn 220 [])) [(.t 103), (.t 105), (.t 107), (.t 109)], none⟩, ⟨some 111, .loadn 4 (.t 11), none⟩, ⟨some 112, .build [.c (.int .i64 0), .c (.str []), .c (.int .i64 0), .csl [], .c (.int .i64 0), .c (.nilp), .c (.int .i64 0), .c (.str []), .c (.int .i64 0), .c (.int .i64 0)] [(0, 5, (.t 110)), (5, 1, (.t 12)), (6, 4, (.t 111))], none⟩, ⟨none, .store 10 (.t 10) (.t 112), none⟩]
    [⟨⟨some 103, .loadn 3 (.t 12), none⟩, false, 0⟩, ⟨⟨some 104, .fadd 3 (.t 11), none⟩, false, 0⟩, ⟨⟨some 105, .load1 (.t 104), none⟩, false, 0⟩, ⟨⟨some 106, .fadd 0 (.t 10), none⟩, false, 0⟩, ⟨⟨some 107, .loadn 5 (.t 106), none⟩, false, 0⟩, ⟨⟨some 108, .fadd 0 (.t 15), none⟩, false, 0⟩, ⟨⟨some 109, .loadn 5 (.t 108), none⟩, false, 0⟩, ⟨⟨some 110, .call (.k (.fn 220 [])) [(.t 103), (.t 105), (.t 107), (.t 109)], none⟩, true, 0⟩, ⟨⟨some 111, .loadn 4 (.t 11), none⟩, false, 0⟩, ⟨⟨some 112, .build [.c (.int .i64 0), .c (.str []), .c (.int .i64 0), .csl [], .c (.int .i64 0), .c (.nilp), .c (.int .i64 0), .c (.str []), .c (.int .i64 0), .c (.int .i64 0)] [(0, 5, (.t 110)), (5, 1, (.t 12)), (6, 4, (.t 111))], none⟩, false, 1⟩, ⟨⟨none, .store 10 (.t 10) (.t 112), none⟩, true, 1⟩]))))))))))))))
  (.seq (.dreg [⟨some 113, .loadn 10 (.t 10), none⟩, ⟨some 114, .loadn 2 (.t 9), none⟩, ⟨none, .store 10 (.t 6) (.t 113), none⟩, ⟨none, .store 2 (.t 7) (.t 114), none⟩]
    [⟨⟨some 113, .loadn 10 (.t 10), none⟩, false, 0⟩, ⟨⟨none, .store 10 (.t 6) (.t 113), none⟩, true, 0⟩, ⟨⟨some 114, .loadn 2 (.t 9), none⟩, false, 0⟩, ⟨⟨none, .store 2 (.t 7) (.t 114), none⟩, true, 1⟩])
  (.ret))))))
def r173 : List ResV := [.celln 10 6, .celln 2 7]
theorem tr173 : tr Tryz.prog Tryz.f173.ntmps (Tryz.f173.body.getD .skip) = some c173 := by kernel_rfl
theorem tre173 : trRes Tryz.prog Tryz.f173.results.toList = some r173 := by kernel_rfl
theorem en173 : Enters Tryz.prog 173 := enters_fn Tryz.func173 (by kernel_rfl) rfl
theorem go173 {w0 : World} {args : List V} {σ : H} {R : V → H → Prop} (ha : args.length = 3) (h : H.ok σ → (∀ x ∈ args, V.Sz x) → W Tryz.prog w0 σ.length (Fin r173 σ.length R) [.code c173] ⟨argEnv args, σ⟩) : DC Tryz.prog w0 173 args σ R :=
  DC.of_code (by kernel_rfl) Tryz.func173 rfl tr173 tre173 (by rw [ha]; exact by decide) en173 h
/-- read.Read -/
def c105 : AC :=
  .seq (.reg [⟨some 6, .box (.k (.agg [.c (.int .i64 0), .c (.str []), .c (.int .i64 0), .csl [], .c (.int .i64 0)])), none⟩, ⟨some 7, .mov (.k (.c (.int .i64 0))), none⟩, ⟨some 8, .mov (.k (.c (.int .i64 0))), none⟩, ⟨some 9, .mov (.k (.c (.int .i64 0))), none⟩])
  (.seq (.reg [⟨some 13, .mov (.t 0), none⟩, ⟨some 14, .mov (.t 1), none⟩, ⟨some 15, .mov (.t 2), none⟩, ⟨some 16, .build [.csl [], .csl [], .c (.int .i64 0)] [(0, 1, (.t 13)), (1, 1, (.t 14)), (2, 1, (.t 15))], none⟩, ⟨some 17, .box (.t 16), none⟩, ⟨some 10, .mov (.t 17), none⟩])
  (.seq (.reg [⟨some 19, .mov (.t 10), none⟩, ⟨some 20, .call (.k (.fn 173 [])) [(.t 19), (.k (.c (.int .i64 0))), (.k (.c (.int .i64 0)))], none⟩, ⟨some 18, .mov (.t 20), none⟩, ⟨some 21, .ext (.t 18) 0, none⟩, ⟨some 22, .ext (.t 18) 1, none⟩, ⟨some 11, .box (.k (.agg [.c (.int .i64 0), .c (.str []), .c (.int .i64 0), .csl [], .c (.int .i64 0), .c (.nilp), .c (.int .i64 0), .c (.str []), .c (.int .i64 0), .c (.int .i64 0)])), none⟩, ⟨some 12, .box (.k (.agg [.c (.int .i64 0), .c (.int .i64 0)])), none⟩, ⟨none, .store 10 (.t 11) (.t 21), none⟩, ⟨none, .store 2 (.t 12) (.t 22), none⟩])
  (.seq (.seq (.reg [⟨some 23, .loadn 2 (.t 12), none⟩, ⟨some 24, .call (.k (.fn 174 [])) [(.t 23)], none⟩, ⟨some 25, .un .not (.t 24), none⟩])
  (.cond (.t 25)
  (.seq (.dreg [⟨some 26, .build [.c (.int .i64 0), .c (.str []), .c (.int .i64 0), .csl [], .c (.int .i64 0)] [], none⟩, ⟨some 27, .mov (.t 2), none⟩, ⟨some 28, .fadd 0 (.t 12), none⟩, ⟨some 29, .load1 (.t 28), none⟩, ⟨some 30, .fadd 1 (.t 12), none⟩, ⟨some 31, .load1 (.t 30), none⟩, ⟨none, .store 5 (.t 6) (.t 26), none⟩, ⟨some 7, .mov (.t 27), none⟩, ⟨some 8, .mov (.t 29), none⟩, ⟨some 9, .mov (.t 31), none⟩]
    [⟨⟨some 26, .build [.c (.int .i64 0), .c (.str []), .c (.int .i64 0), .csl [], .c (.int .i64 0)] [], none⟩, false, 0⟩, ⟨⟨none, .store 5 (.t 6) (.t 26), none⟩, true, 0⟩, ⟨⟨some 27, .mov (.t 2), none⟩, false, 0⟩, ⟨⟨some 28, .fadd 0 (.t 12), none⟩, false, 0⟩, ⟨⟨some 29, .load1 (.t 28), none⟩, false, 0⟩, ⟨⟨some 30, .fadd 1 (.t 12), none⟩, false, 0⟩, ⟨⟨some 31, .load1 (.t 30), none⟩, false, 0⟩, ⟨⟨some 7, .mov (.t 27), none⟩, false, 1⟩, ⟨⟨some 8, .mov (.t 29), none⟩, false, 1⟩, ⟨⟨some 9, .mov (.t 31), none⟩, false, 1⟩])
  (.ret))
  (.skip)))
  (.seq (.dreg [⟨some 32, .fadd 0 (.t 11), none⟩, ⟨some 33, .loadn 5 (.t 32), none⟩, ⟨some 34, .mov (.t 10), none⟩, ⟨some 35, .nilck (.t 34), none⟩, ⟨some 36, .fadd 2 (.t 35), none⟩, ⟨some 37, .load1 (.t 36), none⟩, ⟨none, .store 5 (.t 6) (.t 33), none⟩, ⟨some 7, .mov (.t 37), none⟩, ⟨some 8, .mov (.k (.c (.int .i64 0))), none⟩, ⟨some 9, .mov (.k (.c (.int .i64 0))), none⟩]
    [⟨⟨some 32, .fadd 0 (.t 11), none⟩, false, 0⟩, ⟨⟨some 33, .loadn 5 (.t 32), none⟩, false, 0⟩, ⟨⟨none, .store 5 (.t 6) (.t 33), none⟩, true, 0⟩, ⟨⟨some 34, .mov (.t 10), none⟩, false, 0⟩, ⟨⟨some 35, .nilck (.t 34), none⟩, false, 0⟩, ⟨⟨some 36, .fadd 2 (.t 35), none⟩, false, 0⟩, ⟨⟨some 37, .load1 (.t 36), none⟩, false, 0⟩, ⟨⟨some 7, .mov (.t 37), none⟩, false, 1⟩, ⟨⟨some 8, .mov (.k (.c (.int .i64 0))), none⟩, false, 1⟩, ⟨⟨some 9, .mov (.k (.c (.int .i64 0))), none⟩, false, 1⟩])
  (.ret)))))
def r105 : List ResV := [.celln 5 6, .tmp 7, .tmp 8, .tmp 9]
theorem tr105 : tr Tryz.prog Tryz.f105.ntmps (Tryz.f105.body.getD .skip) = some c105 := by kernel_rfl
theorem tre105 : trRes Tryz.prog Tryz.f105.results.toList = some r105 := by kernel_rfl
theorem en105 : Enters Tryz.prog 105 := enters_fn Tryz.func105 (by kernel_rfl) rfl
theorem go105 {w0 : World} {args : List V} {σ : H} {R : V → H → Prop} (ha : args.length = 3) (h : H.ok σ → (∀ x ∈ args, V.Sz x) → W Tryz.prog w0 σ.length (Fin r105 σ.length R) [.code c105] ⟨argEnv args, σ⟩) : DC Tryz.prog w0 105 args σ R :=
  DC.of_code (by kernel_rfl) Tryz.func105 rfl tr105 tre105 (by rw [ha]; exact by decide) en105 h
end Go.Proofs.YtlogjjnimlnpkaaGreatDoor
namespace Go.Proofs.YtlogjjnimlnpkaaGreatDoor
open Go.RowKit Go.Lamb
attribute [local go_sem] advO_skip advO_reg advO_seq advO_block advO_exit advO_endb advO_opsNil advO_ops advG_yes advG_no advG_none advS_some advS_none advO_cond advO_loop advO_dreg advO_ret advO_bad advO_inv advO_nil advO_zero wantedV Lamb.step ev_t ev_k put_some put_none argEnv popTo cellsAt V.cellsV V.rows V.toC toCs fillV bytesC byteRows appV rowsV boundV boundL binV binInt binStr eqC eqL V.isNil leaves V.leaf Ins.quiet Ins.pure List.getD_cons_zero List.getD_cons_succ List.getD_nil List.all_cons List.all_nil List.length_cons List.length_nil List.take_succ_cons List.take_zero List.drop_succ_cons List.drop_zero List.cons_append List.nil_append List.append_nil List.append_assoc List.map_cons List.map_nil List.getElem?_cons_zero List.getElem?_cons_succ List.length_append List.length_set hget0 hget hset0 hset hsets hgs0 hgs hss0 hss List.set_cons_zero List.set_cons_succ List.forall_mem_cons List.not_mem_nil false_implies implies_true Option.map_some Bool.and_true Bool.true_and Bool.not_not Bool.not_true Bool.not_false Bool.and_self Bool.or_true Bool.true_or Bool.or_false Bool.false_or Bool.and_false Bool.false_and Bool.false_eq_true beq_self_eq_true and_self and_true true_and if_true if_false Nat.zero_add Nat.add_zero Nat.le_refl Int.toNat_natCast decide_true decide_false beq_t beq_f List.length_map List.getElem?_map I S B opsC toksC OpT.v OpT.cs OpT.zero Tok.v Tok.cs Pre.v Pre.cs_eq k_mk name_mk n_mk l_mk pos_mk Pre.app applyL natCast0 natCast1 natCast2

/-- The reader's block. -/
def rdr (l : List OpT) (t : List Tok) (i : Nat) : Blk := .cells [.c (opsC l), .c (toksC t), I i]
theorem wrap_nat {n : Nat} (h : n ≤ 9223372036854775807) : IntKind.i64.wrap (n : Int) = (n : Int) := wrap_in (by omega) (by omega)
theorem wrap_add {a b : Nat} (h : a + b ≤ 9223372036854775807) : IntKind.i64.wrap ((a : Int) + (b : Int)) = ((a + b : Nat) : Int) := by rw [← Int.natCast_add]; exact wrap_nat h
theorem tokL_in {t : List Tok} {i : Nat} (h : i < t.length) : tokL t i = t[i] := by rw [tokL, List.getElem?_eq_getElem h]; rfl
theorem tokL_out {t : List Tok} {i : Nat} (h : t.length ≤ i) : tokL t i = ⟨0, [], 0, lastPos t⟩ := by rw [tokL, List.getElem?_eq_none h]; rfl
theorem lastPos_at {t : List Tok} (h : 0 < t.length) : ∃ x, t[t.length - 1]? = some x ∧ lastPos t = x.pos := by
  refine ⟨t[t.length - 1], List.getElem?_eq_getElem (by omega), ?_⟩
  rw [lastPos, List.getLast?_eq_getElem?, List.getElem?_eq_getElem (by omega)]
  rfl
theorem read_tok (w0 : World) (l : List OpT) (t : List Tok) (i k : Nat) (σ : H) (b : Nat) (hb : σ[b]? = some (rdr l t i)) (hk : i + k ≤ 4000000) (ht : t.length ≤ 1000000) :
    DC Tryz.prog w0 215 [.ptr b 0, I k] σ (Same (tokL t (i + k)).v σ) := by
  have hlt := (List.getElem?_eq_some_iff.1 hb).1
  have hg := fun L => hgetb (σ := σ) L hlt
  refine go215 rfl (fun hok hsz => ?_)
  rw [rdr] at hb
  have hw : IntKind.i64.wrap ((i : Int) + (k : Int)) = ((i + k : Nat) : Int) := wrap_add (by omega)
  by_cases h : i + k < t.length
  · have h1 : (((i + k : Nat) : Int) < (t.length : Int)) := by omega
    have hx : t[i + k]? = some t[i + k] := List.getElem?_eq_getElem h
    ((first | refine W.advO 5000 _ _ ?_ | skip); simp only [go_sem, seval, ↓reduceIte, reduceCtorEq, c215, hg, hb, toksC, hw, nat0, h1, hx])
    refine W.yes rfl ?_
    ((first | refine W.advO 5000 _ _ ?_ | skip); simp only [go_sem, seval, ↓reduceIte, reduceCtorEq, hg, hb, nat0, h1, hx])
    (refine W.ret (Fin.same hok (by simp only [resEval, r215, go_sem, seval, ↓reduceIte, reduceCtorEq]; rfl) ?_ (by first | exact .c _ | (simp only [I, S, B, opsC, toksC, Pre.v, Tok.v, OpT.v, low_c, low_void, low_any, low_csl, low_nilf, low_ptr, low_osl, low_agg, low_tup, low_fn, List.forall_mem_cons, List.not_mem_nil, false_implies, implies_true, and_self, and_true, true_and]; done)) (by first | exact ⟨[], (List.append_nil _).symm⟩ | exact ⟨_, rfl⟩)); simp only [resV])
    rw [tokL_in h]
  · have h1 : ¬ (((i + k : Nat) : Int) < (t.length : Int)) := by omega
    ((first | refine W.advO 5000 _ _ ?_ | skip); simp only [go_sem, seval, ↓reduceIte, reduceCtorEq, c215, hg, hb, toksC, hw, nat0, h1])
    refine W.no rfl ?_
    ((first | refine W.advO 5000 _ _ ?_ | skip); simp only [go_sem, seval, ↓reduceIte, reduceCtorEq, hg, hb])
    by_cases h0 : 0 < t.length
    · have h2 : ((t.length : Int) > 0) := by omega
      have hw2 : IntKind.i64.wrap ((t.length : Int) - 1) = ((t.length - 1 : Nat) : Int) := by rw [wrap_in] <;> omega
      obtain ⟨x, hx, hp⟩ := lastPos_at h0
      have h3 : (((t.length - 1 : Nat) : Int) < (t.length : Int)) := by omega
      ((first | refine W.advO 5000 _ _ ?_ | skip); simp only [go_sem, seval, ↓reduceIte, reduceCtorEq, h2])
      refine W.yes rfl ?_
      ((first | refine W.advO 5000 _ _ ?_ | skip); simp only [go_sem, seval, ↓reduceIte, reduceCtorEq])
      (apply W.dregE (List.cons_ne_nil _ _); case hc => ((apply CanonE.advPO; simp only [advPO_nil, advPO_loud, advPO_quiet, pL_yes, pL_no, pLS_some, pLS_none, pQ_yes, pQ_no, pQS_some, pQS_loud, eq_self, Nat.sub_zero, go_sem, seval, ↓reduceIte, reduceCtorEq, hg, hb, hw2, nat0, h3, hx]); exact CanonE.nil))
      ((first | refine W.advO 5000 _ _ ?_ | skip); simp only [go_sem, seval, ↓reduceIte, reduceCtorEq])
      (refine W.ret (Fin.same hok (by simp only [resEval, r215, go_sem, seval, ↓reduceIte, reduceCtorEq]; rfl) ?_ (by first | exact .c _ | (simp only [I, S, B, opsC, toksC, Pre.v, Tok.v, OpT.v, low_c, low_void, low_any, low_csl, low_nilf, low_ptr, low_osl, low_agg, low_tup, low_fn, List.forall_mem_cons, List.not_mem_nil, false_implies, implies_true, and_self, and_true, true_and]; done)) (by first | exact ⟨[], (List.append_nil _).symm⟩ | exact ⟨_, rfl⟩)); simp only [resV])
      rw [tokL_out (by omega), hp]
    · have h2 : ¬ ((t.length : Int) > 0) := by omega
      ((first | refine W.advO 5000 _ _ ?_ | skip); simp only [go_sem, seval, ↓reduceIte, reduceCtorEq, h2])
      refine W.no rfl ?_
      ((first | refine W.advO 5000 _ _ ?_ | skip); simp only [go_sem, seval, ↓reduceIte, reduceCtorEq])
      (refine W.ret (Fin.same hok (by simp only [resEval, r215, go_sem, seval, ↓reduceIte, reduceCtorEq]; rfl) ?_ (by first | exact .c _ | (simp only [I, S, B, opsC, toksC, Pre.v, Tok.v, OpT.v, low_c, low_void, low_any, low_csl, low_nilf, low_ptr, low_osl, low_agg, low_tup, low_fn, List.forall_mem_cons, List.not_mem_nil, false_implies, implies_true, and_self, and_true, true_and]; done)) (by first | exact ⟨[], (List.append_nil _).symm⟩ | exact ⟨_, rfl⟩)); simp only [resV])
      have : t = [] := List.eq_nil_of_length_eq_zero (by omega)
      subst this
      rw [tokL_out (by omega)]; rfl
end Go.Proofs.YtlogjjnimlnpkaaGreatDoor

/- Functions of the program, compiled for the engine. MADE BY PROGRAM (Print.lean). -/
import Derived.Test.YtbdaiimljcjmpaaGreatBT01
import Derived.KernelRfl
import Derived.Test.YtbdaiimljcjmpaaGreatProg
namespace Go.Rb
set_option linter.unusedVariables false
set_option linter.unusedSimpArgs false
open Go.Proofs

/-- roadbook/cost.Nest -/
def F65 : SFun := ⟨2, 
 .seq (
 .region false [ ⟨(some 4), .mov (.c (.int .i64 0)), none, []⟩]) (
 .seq (
 .region false [ ⟨(some 5), .mov (.t 0), none, []⟩, ⟨(some 6), .call (.c (.fn (.func 113) [] [])) [(.t 5)], none, []⟩, ⟨(some 7), .mov (.t 1), none, []⟩, ⟨(some 8), .call (.c (.fn (.func 113) [] [])) [(.t 7)], none, []⟩, ⟨(some 9), .call (.c (.fn (.func 112) [] [])) [(.t 6), (.t 8)], none, []⟩, ⟨(some 4), .mov (.t 9), none, []⟩]) (
 .ret)), [.tmp 4]⟩
theorem F65_ok : compFun Tryz.prog Tryz.f65 2 [] = some F65 := by kernel_rfl
/-- roadbook/cost.Hash -/
def F67 : SFun := ⟨2, 
 .seq (
 .region false [ ⟨(some 4), .mov (.c (.int .i64 0)), none, []⟩]) (
 .seq (
 .region false [ ⟨(some 5), .mov (.t 0), none, []⟩, ⟨(some 6), .call (.c (.fn (.func 113) [] [])) [(.t 5)], none, []⟩, ⟨(some 7), .call (.c (.fn (.func 112) [] [])) [(.c (.int .i64 1)), (.t 6)], none, []⟩, ⟨(some 8), .mov (.t 1), none, []⟩, ⟨(some 9), .call (.c (.fn (.func 113) [] [])) [(.t 8)], none, []⟩, ⟨(some 10), .call (.c (.fn (.func 112) [] [])) [(.c (.int .i64 2)), (.t 9)], none, []⟩, ⟨(some 11), .bslice 1 (.int .i64 0) 2 [(0, (.t 7)), (1, (.t 10))], none, []⟩, ⟨(some 12), .call (.c (.fn (.func 34) [] [])) [(.t 11)], none, []⟩, ⟨(some 4), .mov (.t 12), none, []⟩]) (
 .ret)), [.tmp 4]⟩
theorem F67_ok : compFun Tryz.prog Tryz.f67 2 [] = some F67 := by kernel_rfl
/-- roadbook/cost.Merge -/
def F258 : SFun := ⟨2, 
 .seq (
 .region false [ ⟨(some 4), .mov (.c (.int .i64 0)), none, []⟩]) (
 .seq (
 .region false [ ⟨(some 5), .mov (.t 0), none, []⟩, ⟨(some 6), .call (.c (.fn (.func 189) [] [])) [(.t 5)], none, []⟩, ⟨(some 7), .mov (.t 1), none, []⟩, ⟨(some 8), .call (.c (.fn (.func 189) [] [])) [(.t 7)], none, []⟩, ⟨(some 9), .bslice 1 (.int .i64 0) 2 [(0, (.t 6)), (1, (.t 8))], none, []⟩, ⟨(some 10), .call (.c (.fn (.func 34) [] [])) [(.t 9)], none, []⟩, ⟨(some 4), .mov (.t 10), none, []⟩]) (
 .ret)), [.tmp 4]⟩
theorem F258_ok : compFun Tryz.prog Tryz.f258 2 [] = some F258 := by kernel_rfl
end Go.Rb

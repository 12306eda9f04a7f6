/- Functions of the program, compiled for the engine. MADE BY PROGRAM (Print.lean). -/
import Derived.Test.YtbdaiimljcjmpaaGreatBT01
import Derived.KernelRfl
import Derived.Test.YtbdaiimljcjmpaaGreatProg
namespace Go.Rb
set_option linter.unusedVariables false
set_option linter.unusedSimpArgs false
open Go.Proofs

/-- roadbook/val.reckon -/
def F326 : SFun := ⟨3, 
 .seq (
 .region false [ ⟨(some 3), .box (.t 0), none, []⟩, ⟨(some 4), .box (.t 1), none, []⟩, ⟨(some 6), .alloc (.agg [.int .i64 0, .int .i64 0]), none, []⟩]) (
 .seq (
 .seq (
 .region false [ ⟨(some 12), .load 2 true (.t 3), none, []⟩, ⟨(some 13), .load 2 true (.t 4), none, []⟩, ⟨(some 14), .bslice 2 (.agg [.int .i64 0, .int .i64 0]) 2 [(0, (.t 12)), (1, (.t 13))], none, []⟩, ⟨(some 15), .call (.c (.fn (.func 332) [] [])) [(.t 14)], none, []⟩, ⟨(some 11), .mov (.t 15), none, []⟩, ⟨(some 16), .ext (.t 11) 0, none, []⟩, ⟨(some 17), .ext (.t 11) 1, none, []⟩, ⟨(some 7), .alloc (.agg [.int .i64 0, .int .i64 0]), none, []⟩, ⟨none, .store 2 (.t 7) (.t 16), none, []⟩, ⟨(some 8), .mov (.t 17), none, []⟩]) (
 .seq (
 .region false [ ⟨(some 18), .mov (.t 8), none, []⟩]) (
 .cond (.t 18) (
 .seq (
 .region false [ ⟨(some 19), .load 2 true (.t 7), none, []⟩, ⟨none, .store 2 (.t 6) (.t 19), none, []⟩]) (
 .ret)) (
 .skip)))) (
 .seq (
 .region false [ ⟨(some 21), .mov (.t 2), none, []⟩, ⟨(some 22), .faddr 1 1 false (.t 3), none, []⟩, ⟨(some 23), .load 1 false (.t 22), none, []⟩, ⟨(some 24), .faddr 1 1 false (.t 4), none, []⟩, ⟨(some 25), .load 1 false (.t 24), none, []⟩, ⟨(some 26), .call (.t 21) [(.t 23), (.t 25)], none, []⟩, ⟨(some 20), .mov (.t 26), none, []⟩, ⟨(some 27), .ext (.t 20) 0, none, []⟩, ⟨(some 28), .ext (.t 20) 1, none, []⟩, ⟨(some 9), .mov (.t 27), none, []⟩, ⟨(some 10), .mov (.t 28), none, []⟩]) (
 .seq (
 .seq (
 .region false [ ⟨(some 29), .mov (.t 10), none, []⟩, ⟨(some 30), .un .not (.t 29), none, []⟩]) (
 .cond (.t 30) (
 .seq (
 .region false [ ⟨(some 31), .call (.c (.fn (.func 339) [] [])) [], none, []⟩, ⟨none, .store 2 (.t 6) (.t 31), none, []⟩]) (
 .ret)) (
 .skip))) (
 .seq (
 .region false [ ⟨(some 32), .mov (.t 9), none, []⟩, ⟨(some 33), .call (.c (.fn (.func 336) [] [])) [(.t 32)], none, []⟩, ⟨none, .store 2 (.t 6) (.t 33), none, []⟩]) (
 .ret))))), [.cell 6 2 true]⟩
theorem F326_ok : compFun Tryz.prog Tryz.f326 3 [] = some F326 := by kernel_rfl
/-- roadbook/val.Add$1 -/
def F327 : SFun := ⟨2, 
 .seq (
 .region false [ ⟨(some 4), .mov (.c (.int .i64 0)), none, []⟩, ⟨(some 5), .mov (.c (.bool false)), none, []⟩]) (
 .seq (
 .region false [ ⟨(some 6), .mov (.t 0), none, []⟩, ⟨(some 7), .mov (.t 1), none, []⟩, ⟨(some 8), .bin .add (.t 6) (.t 7), none, []⟩, ⟨(some 9), .mov (.t 0), none, []⟩, ⟨(some 10), .mov (.t 1), none, []⟩, ⟨(some 11), .bin .add (.t 9) (.t 10), none, []⟩, ⟨(some 12), .mov (.t 0), none, []⟩, ⟨(some 13), .bin .lss (.t 11) (.t 12), none, []⟩, ⟨(some 14), .mov (.t 1), none, []⟩, ⟨(some 15), .bin .lss (.t 14) (.c (.int .i64 0)), none, []⟩, ⟨(some 16), .eqb false (.t 13) (.t 15), none, []⟩, ⟨(some 4), .mov (.t 8), none, []⟩, ⟨(some 5), .mov (.t 16), none, []⟩]) (
 .ret)), [.tmp 4, .tmp 5]⟩
theorem F327_ok : compFun Tryz.prog Tryz.f327 2 [] = some F327 := by kernel_rfl
/-- roadbook/val.Sub$1 -/
def F328 : SFun := ⟨2, 
 .seq (
 .region false [ ⟨(some 4), .mov (.c (.int .i64 0)), none, []⟩, ⟨(some 5), .mov (.c (.bool false)), none, []⟩]) (
 .seq (
 .region false [ ⟨(some 6), .mov (.t 0), none, []⟩, ⟨(some 7), .mov (.t 1), none, []⟩, ⟨(some 8), .bin .sub (.t 6) (.t 7), none, []⟩, ⟨(some 9), .mov (.t 0), none, []⟩, ⟨(some 10), .mov (.t 1), none, []⟩, ⟨(some 11), .bin .sub (.t 9) (.t 10), none, []⟩, ⟨(some 12), .mov (.t 0), none, []⟩, ⟨(some 13), .bin .gtr (.t 11) (.t 12), none, []⟩, ⟨(some 14), .mov (.t 1), none, []⟩, ⟨(some 15), .bin .lss (.t 14) (.c (.int .i64 0)), none, []⟩, ⟨(some 16), .eqb false (.t 13) (.t 15), none, []⟩, ⟨(some 4), .mov (.t 8), none, []⟩, ⟨(some 5), .mov (.t 16), none, []⟩]) (
 .ret)), [.tmp 4, .tmp 5]⟩
theorem F328_ok : compFun Tryz.prog Tryz.f328 2 [] = some F328 := by kernel_rfl
/-- roadbook/val.Mul$1 -/
def F329 : SFun := ⟨2, 
 .seq (
 .region false [ ⟨(some 4), .mov (.c (.int .i64 0)), none, []⟩, ⟨(some 5), .mov (.c (.bool false)), none, []⟩]) (
 .seq (
 .region false [ ⟨(some 10), .mov (.t 0), none, []⟩, ⟨(some 11), .call (.c (.fn (.func 330) [] [])) [(.t 10)], none, []⟩, ⟨(some 12), .mov (.t 1), none, []⟩, ⟨(some 13), .call (.c (.fn (.func 330) [] [])) [(.t 12)], none, []⟩, ⟨(some 14), .call (.c (.fn (.func 191) [] [])) [(.t 11), (.t 13)], none, []⟩, ⟨(some 9), .mov (.t 14), none, []⟩, ⟨(some 15), .ext (.t 9) 0, none, []⟩, ⟨(some 16), .ext (.t 9) 1, none, []⟩, ⟨(some 6), .mov (.t 15), none, []⟩, ⟨(some 7), .mov (.t 16), none, []⟩]) (
 .seq (
 .region false [ ⟨(some 8), .mov (.c (.int .u64 9223372036854775807)), none, []⟩]) (
 .seq (
 .seq (
 .region false [ ⟨(some 17), .mov (.t 0), none, []⟩, ⟨(some 18), .bin .lss (.t 17) (.c (.int .i64 0)), none, []⟩, ⟨(some 19), .mov (.t 1), none, []⟩, ⟨(some 20), .bin .lss (.t 19) (.c (.int .i64 0)), none, []⟩, ⟨(some 21), .eqb true (.t 18) (.t 20), none, []⟩]) (
 .cond (.t 21) (
 .region false [ ⟨(some 22), .mov (.t 8), none, []⟩, ⟨(some 23), .bin .add (.t 22) (.c (.int .u64 1)), none, []⟩, ⟨(some 8), .mov (.t 23), none, []⟩]) (
 .skip))) (
 .seq (
 .region false [ ⟨(some 24), .mov (.t 0), none, []⟩, ⟨(some 25), .mov (.t 1), none, []⟩, ⟨(some 26), .bin .mul (.t 24) (.t 25), none, []⟩, ⟨(some 27), .mov (.t 6), none, []⟩, ⟨(some 28), .bin .eql (.t 27) (.c (.int .u64 0)), none, []⟩, ⟨(some 29), .mov (.t 28), none, []⟩, ⟨(some 30), .mov (.t 7), (some (29, true)), []⟩, ⟨(some 31), .mov (.t 8), (some (29, true)), []⟩, ⟨(some 32), .bin .leq (.t 30) (.t 31), (some (29, true)), []⟩, ⟨(some 33), .pick (.t 29) (.t 32) (.c (.bool false)), none, []⟩, ⟨(some 4), .mov (.t 26), none, []⟩, ⟨(some 5), .mov (.t 33), none, []⟩]) (
 .ret))))), [.tmp 4, .tmp 5]⟩
theorem F329_ok : compFun Tryz.prog Tryz.f329 2 [] = some F329 := by kernel_rfl
/-- roadbook/val.size -/
def F330 : SFun := ⟨1, 
 .seq (
 .region false [ ⟨(some 2), .mov (.c (.int .u64 0)), none, []⟩]) (
 .seq (
 .seq (
 .region false [ ⟨(some 3), .mov (.t 0), none, []⟩, ⟨(some 4), .bin .lss (.t 3) (.c (.int .i64 0)), none, []⟩]) (
 .cond (.t 4) (
 .seq (
 .region false [ ⟨(some 5), .mov (.t 0), none, []⟩, ⟨(some 6), .conv .u64 (.t 5), none, []⟩, ⟨(some 7), .un .neg (.t 6), none, []⟩, ⟨(some 2), .mov (.t 7), none, []⟩]) (
 .ret)) (
 .skip))) (
 .seq (
 .region false [ ⟨(some 8), .mov (.t 0), none, []⟩, ⟨(some 9), .conv .u64 (.t 8), none, []⟩, ⟨(some 2), .mov (.t 9), none, []⟩]) (
 .ret))), [.tmp 2]⟩
theorem F330_ok : compFun Tryz.prog Tryz.f330 1 [] = some F330 := by kernel_rfl
/-- roadbook/val.Div$1 -/
def F331 : SFun := ⟨2, 
 .seq (
 .region false [ ⟨(some 4), .mov (.c (.int .i64 0)), none, []⟩, ⟨(some 5), .mov (.c (.bool false)), none, []⟩]) (
 .seq (
 .seq (
 .region false [ ⟨(some 6), .mov (.t 1), none, []⟩, ⟨(some 7), .bin .eql (.t 6) (.c (.int .i64 0)), none, []⟩, ⟨(some 8), .mov (.t 7), none, []⟩, ⟨(some 9), .mov (.t 0), (some (8, false)), []⟩, ⟨(some 10), .bin .eql (.t 9) (.c (.int .i64 (-9223372036854775808))), (some (8, false)), []⟩, ⟨(some 11), .mov (.t 10), (some (8, false)), []⟩, ⟨(some 12), .mov (.t 1), (some (11, true)), []⟩, ⟨(some 13), .bin .eql (.t 12) (.c (.int .i64 (-1))), (some (11, true)), []⟩, ⟨(some 14), .pick (.t 11) (.t 13) (.c (.bool false)), (some (8, false)), []⟩, ⟨(some 15), .pick (.t 8) (.c (.bool true)) (.t 14), none, []⟩]) (
 .cond (.t 15) (
 .seq (
 .region false [ ⟨(some 4), .mov (.c (.int .i64 0)), none, []⟩, ⟨(some 5), .mov (.c (.bool false)), none, []⟩]) (
 .ret)) (
 .skip))) (
 .seq (
 .region false [ ⟨(some 16), .mov (.t 0), none, []⟩, ⟨(some 17), .mov (.t 1), none, []⟩, ⟨(some 18), .bin .quo (.t 16) (.t 17), none, []⟩, ⟨(some 4), .mov (.t 18), none, []⟩, ⟨(some 5), .mov (.c (.bool true)), none, []⟩]) (
 .ret))), [.tmp 4, .tmp 5]⟩
theorem F331_ok : compFun Tryz.prog Tryz.f331 2 [] = some F331 := by kernel_rfl
/-- roadbook/val.odd -/
def F332 : SFun := ⟨1, 
 .seq (
 .region false [ ⟨(some 2), .alloc (.agg [.int .i64 0, .int .i64 0]), none, []⟩, ⟨(some 3), .mov (.c (.bool false)), none, []⟩]) (
 .seq (
 .block 0 (
 .seq (
 .region false [ ⟨(some 5), .mov (.t 0), none, []⟩, ⟨(some 6), .call (.c (.fn (.func 341) [] [])) [(.c (.int .i64 2))], none, []⟩, ⟨(some 7), .call (.c (.fn (.func 340) [] [])) [(.t 5), (.t 6)], none, []⟩, ⟨(some 4), .mov (.t 7), none, []⟩]) (
 .cond (.t 4) (
 .seq (
 .region false [ ⟨(some 8), .call (.c (.fn (.func 339) [] [])) [], none, []⟩, ⟨none, .store 2 (.t 2) (.t 8), none, []⟩, ⟨(some 3), .mov (.c (.bool true)), none, []⟩]) (
 .ret)) (
 .seq (
 .region false [ ⟨(some 10), .mov (.t 0), none, []⟩, ⟨(some 11), .call (.c (.fn (.func 341) [] [])) [(.c (.int .i64 1))], none, []⟩, ⟨(some 12), .call (.c (.fn (.func 340) [] [])) [(.t 10), (.t 11)], none, []⟩, ⟨(some 9), .mov (.t 12), none, []⟩]) (
 .cond (.t 9) (
 .seq (
 .region false [ ⟨(some 13), .call (.c (.fn (.func 342) [] [])) [], none, []⟩, ⟨none, .store 2 (.t 2) (.t 13), none, []⟩, ⟨(some 3), .mov (.c (.bool true)), none, []⟩]) (
 .ret)) (
 .skip)))))) (
 .seq (
 .region false [ ⟨(some 14), .build [.int .i64 0, .int .i64 0] [], none, []⟩, ⟨none, .store 2 (.t 2) (.t 14), none, []⟩, ⟨(some 3), .mov (.c (.bool false)), none, []⟩]) (
 .ret))), [.cell 2 2 true, .tmp 3]⟩
theorem F332_ok : compFun Tryz.prog Tryz.f332 1 [] = some F332 := by kernel_rfl
/-- roadbook/val.of -/
def F333 : SFun := ⟨1, 
 .seq (
 .region false [ ⟨(some 2), .alloc (.agg [.int .i64 0, .int .i64 0]), none, []⟩]) (
 .seq (
 .seq (
 .region false [ ⟨(some 3), .mov (.t 0), none, []⟩]) (
 .cond (.t 3) (
 .seq (
 .region false [ ⟨(some 4), .call (.c (.fn (.func 336) [] [])) [(.c (.int .i64 1))], none, []⟩, ⟨none, .store 2 (.t 2) (.t 4), none, []⟩]) (
 .ret)) (
 .skip))) (
 .seq (
 .region false [ ⟨(some 5), .call (.c (.fn (.func 336) [] [])) [(.c (.int .i64 0))], none, []⟩, ⟨none, .store 2 (.t 2) (.t 5), none, []⟩]) (
 .ret))), [.cell 2 2 true]⟩
theorem F333_ok : compFun Tryz.prog Tryz.f333 1 [] = some F333 := by kernel_rfl
/-- roadbook/val.three -/
def F334 : SFun := ⟨4, 
 .seq (
 .region false [ ⟨(some 6), .box (.t 2), none, []⟩, ⟨(some 7), .box (.t 3), none, []⟩, ⟨(some 8), .alloc (.agg [.int .i64 0, .int .i64 0]), none, []⟩]) (
 .seq (
 .seq (
 .region false [ ⟨(some 11), .mov (.t 0), none, []⟩, ⟨(some 12), .mov (.t 1), none, []⟩, ⟨(some 13), .call (.c (.fn (.func 340) [] [])) [(.t 11), (.t 12)], none, []⟩]) (
 .cond (.t 13) (
 .seq (
 .region false [ ⟨(some 14), .load 2 true (.t 6), none, []⟩, ⟨none, .store 2 (.t 8) (.t 14), none, []⟩]) (
 .ret)) (
 .skip))) (
 .seq (
 .seq (
 .region false [ ⟨(some 16), .mov (.t 0), none, []⟩, ⟨(some 17), .call (.c (.fn (.func 332) [] [])) [(.t 16)], none, []⟩, ⟨(some 15), .mov (.t 17), none, []⟩, ⟨(some 18), .ext (.t 15) 0, none, []⟩, ⟨(some 19), .ext (.t 15) 1, none, []⟩, ⟨(some 9), .alloc (.agg [.int .i64 0, .int .i64 0]), none, []⟩, ⟨none, .store 2 (.t 9) (.t 18), none, []⟩, ⟨(some 10), .mov (.t 19), none, []⟩]) (
 .seq (
 .region false [ ⟨(some 20), .mov (.t 10), none, []⟩]) (
 .cond (.t 20) (
 .seq (
 .region false [ ⟨(some 21), .load 2 true (.t 9), none, []⟩, ⟨none, .store 2 (.t 8) (.t 21), none, []⟩]) (
 .ret)) (
 .skip)))) (
 .seq (
 .region false [ ⟨(some 22), .load 2 true (.t 7), none, []⟩, ⟨none, .store 2 (.t 8) (.t 22), none, []⟩]) (
 .ret)))), [.cell 8 2 true]⟩
theorem F334_ok : compFun Tryz.prog Tryz.f334 4 [] = some F334 := by kernel_rfl
/-- roadbook/val.isFalse -/
def F335 : SFun := ⟨1, 
 .seq (
 .region false [ ⟨(some 1), .box (.t 0), none, []⟩, ⟨(some 2), .mov (.c (.bool false)), none, []⟩]) (
 .seq (
 .region true [ ⟨(some 3), .load 2 true (.t 1), none, []⟩, ⟨(some 4), .call (.c (.fn (.func 336) [] [])) [(.c (.int .i64 0))], none, []⟩, ⟨(some 5), .eqa false [true, true] (.t 3) (.t 4), none, [0, 1]⟩, ⟨(some 2), .mov (.t 5), none, [2, 0, 1]⟩]) (
 .ret)), [.tmp 2]⟩
theorem F335_ok : compFun Tryz.prog Tryz.f335 1 [] = some F335 := by kernel_rfl
/-- roadbook/val.Of -/
def F336 : SFun := ⟨1, 
 .seq (
 .region false [ ⟨(some 2), .alloc (.agg [.int .i64 0, .int .i64 0]), none, []⟩]) (
 .seq (
 .region false [ ⟨(some 3), .mov (.t 0), none, []⟩, ⟨(some 4), .build [.int .i64 0, .int .i64 0] [(1, 1, (.t 3))], none, []⟩, ⟨none, .store 2 (.t 2) (.t 4), none, []⟩]) (
 .ret)), [.cell 2 2 true]⟩
theorem F336_ok : compFun Tryz.prog Tryz.f336 1 [] = some F336 := by kernel_rfl
/-- roadbook/val.True -/
def F337 : SFun := ⟨1, 
 .seq (
 .region false [ ⟨(some 1), .box (.t 0), none, []⟩, ⟨(some 2), .mov (.c (.bool false)), none, []⟩]) (
 .seq (
 .region false [ ⟨(some 3), .faddr 0 1 false (.t 1), none, []⟩, ⟨(some 4), .load 1 false (.t 3), none, []⟩, ⟨(some 5), .bin .eql (.t 4) (.c (.int .i64 0)), none, []⟩, ⟨(some 6), .mov (.t 5), none, []⟩, ⟨(some 7), .faddr 1 1 false (.t 1), (some (6, true)), []⟩, ⟨(some 8), .load 1 false (.t 7), (some (6, true)), []⟩, ⟨(some 9), .bin .neq (.t 8) (.c (.int .i64 0)), (some (6, true)), []⟩, ⟨(some 10), .pick (.t 6) (.t 9) (.c (.bool false)), none, []⟩, ⟨(some 2), .mov (.t 10), none, []⟩]) (
 .ret)), [.tmp 2]⟩
theorem F337_ok : compFun Tryz.prog Tryz.f337 1 [] = some F337 := by kernel_rfl
/-- roadbook/val.bad -/
def F339 : SFun := ⟨0, 
 .seq (
 .region false [ ⟨(some 0), .alloc (.agg [.int .i64 0, .int .i64 0]), none, []⟩]) (
 .seq (
 .region false [ ⟨(some 1), .build [.int .i64 0, .int .i64 0] [(0, 1, (.c (.int .i64 2)))], none, []⟩, ⟨none, .store 2 (.t 0) (.t 1), none, []⟩]) (
 .ret)), [.cell 0 2 true]⟩
theorem F339_ok : compFun Tryz.prog Tryz.f339 0 [] = some F339 := by kernel_rfl
/-- roadbook/val.some[roadbook/api.Val] -/
def F340 : SFun := ⟨2, 
 .seq (
 .region false [ ⟨(some 4), .mov (.c (.bool false)), none, []⟩]) (
 .seq (
 .region false [ ⟨(some 5), .mov (.t 0), none, []⟩, ⟨(some 6), .mov (.t 1), none, []⟩, ⟨(some 7), .call (.c (.fn (.func 343) [] [])) [(.t 5), (.t 6)], none, []⟩, ⟨(some 4), .mov (.t 7), none, []⟩]) (
 .ret)), [.tmp 4]⟩
theorem F340_ok : compFun Tryz.prog Tryz.f340 2 [] = some F340 := by kernel_rfl
/-- roadbook/val.kind -/
def F341 : SFun := ⟨1, 
 .seq (
 .region false [ ⟨(some 1), .box (.t 0), none, []⟩, ⟨(some 2), .mov (.c (.nilfn)), none, []⟩]) (
 .seq (
 .region false [ ⟨(some 3), .mkfn (.func 344) [] [(.t 1)], none, []⟩, ⟨(some 2), .mov (.t 3), none, []⟩]) (
 .ret)), [.tmp 2]⟩
theorem F341_ok : compFun Tryz.prog Tryz.f341 1 [] = some F341 := by kernel_rfl
/-- roadbook/val.null -/
def F342 : SFun := ⟨0, 
 .seq (
 .region false [ ⟨(some 0), .alloc (.agg [.int .i64 0, .int .i64 0]), none, []⟩]) (
 .seq (
 .region false [ ⟨(some 1), .build [.int .i64 0, .int .i64 0] [(0, 1, (.c (.int .i64 1)))], none, []⟩, ⟨none, .store 2 (.t 0) (.t 1), none, []⟩]) (
 .ret)), [.cell 0 2 true]⟩
theorem F342_ok : compFun Tryz.prog Tryz.f342 0 [] = some F342 := by kernel_rfl
/-- slices.ContainsFunc[[]roadbook/api.Val,roadbook/api.Val] -/
def F343 : SFun := ⟨2, 
 .seq (
 .region false [ ⟨(some 4), .mov (.c (.bool false)), none, []⟩]) (
 .seq (
 .region false [ ⟨(some 5), .mov (.t 0), none, []⟩, ⟨(some 6), .mov (.t 1), none, []⟩, ⟨(some 7), .call (.c (.fn (.func 346) [] [])) [(.t 5), (.t 6)], none, []⟩, ⟨(some 8), .bin .geq (.t 7) (.c (.int .i64 0)), none, []⟩, ⟨(some 4), .mov (.t 8), none, []⟩]) (
 .ret)), [.tmp 4]⟩
theorem F343_ok : compFun Tryz.prog Tryz.f343 2 [] = some F343 := by kernel_rfl
/-- roadbook/val.kind$1 -/
def F344 : SFun := ⟨2, 
 .seq (
 .region false [ ⟨(some 2), .box (.t 0), none, []⟩, ⟨(some 3), .mov (.c (.bool false)), none, []⟩]) (
 .seq (
 .region true [ ⟨(some 4), .load 2 true (.t 2), none, []⟩, ⟨(some 5), .call (.c (.fn (.func 345) [] [])) [(.t 4)], none, [0]⟩, ⟨(some 6), .fld 0 1 false (.t 5), none, [1, 0]⟩, ⟨(some 7), .load 1 false (.t 1), none, []⟩, ⟨(some 8), .bin .eql (.t 6) (.t 7), none, [2, 1, 0, 3]⟩, ⟨(some 3), .mov (.t 8), none, [4, 2, 1, 0, 3]⟩]) (
 .ret)), [.tmp 3]⟩
theorem F344_ok : compFun Tryz.prog Tryz.f344 2 [] = some F344 := by kernel_rfl
/-- roadbook/val.fine -/
def F345 : SFun := ⟨1, 
 .seq (
 .region false [ ⟨(some 1), .box (.t 0), none, []⟩, ⟨(some 2), .alloc (.agg [.int .i64 0, .int .i64 0]), none, []⟩]) (
 .seq (
 .seq (
 .region false [ ⟨(some 3), .load 2 true (.t 1), none, []⟩, ⟨(some 4), .call (.c (.fn (.func 289) [] [])) [(.t 3)], none, []⟩, ⟨(some 5), .un .not (.t 4), none, []⟩]) (
 .cond (.t 5) (
 .seq (
 .region false [ ⟨(some 6), .call (.c (.fn (.func 339) [] [])) [], none, []⟩, ⟨none, .store 2 (.t 2) (.t 6), none, []⟩]) (
 .ret)) (
 .skip))) (
 .seq (
 .region false [ ⟨(some 7), .load 2 true (.t 1), none, []⟩, ⟨none, .store 2 (.t 2) (.t 7), none, []⟩]) (
 .ret))), [.cell 2 2 true]⟩
theorem F345_ok : compFun Tryz.prog Tryz.f345 1 [] = some F345 := by kernel_rfl
/-- slices.IndexFunc[[]roadbook/api.Val,roadbook/api.Val] -/
def F346 : SFun := ⟨2, 
 .seq (
 .region false [ ⟨(some 4), .mov (.c (.int .i64 0)), none, []⟩]) (
 .seq (
 .seq (
 .region false [ ⟨(some 6), .mov (.t 0), none, []⟩, ⟨(some 7), .len (.t 6), none, []⟩, ⟨(some 8), .mov (.c (.int .i64 0)), none, []⟩]) (
 .block 0 (
 .loop [0, 1, 7, 8] (
 .seq (
 .region false [ ⟨(some 9), .bin .lss (.t 8) (.t 7), none, []⟩]) (
 .seq (
 .cond (.t 9) (
 .skip) (
 .exit 0)) (
 .seq (
 .block 1 (
 .seq (
 .region false [ ⟨(some 10), .mov (.t 8), none, []⟩, ⟨(some 5), .mov (.t 10), none, []⟩]) (
 .seq (
 .region false [ ⟨(some 11), .mov (.t 1), none, []⟩, ⟨(some 12), .mov (.t 0), none, []⟩, ⟨(some 13), .mov (.t 5), none, []⟩, ⟨(some 14), .iaddr 2 (.t 12) (.t 13), none, []⟩, ⟨(some 15), .load 2 true (.t 14), none, []⟩, ⟨(some 16), .call (.t 11) [(.t 15)], none, []⟩]) (
 .cond (.t 16) (
 .seq (
 .region false [ ⟨(some 17), .mov (.t 5), none, []⟩, ⟨(some 4), .mov (.t 17), none, []⟩]) (
 .ret)) (
 .skip))))) (
 .region false [ ⟨(some 18), .bin .add (.t 8) (.c (.int .i64 1)), none, []⟩, ⟨(some 8), .mov (.t 18), none, []⟩]))))))) (
 .seq (
 .region false [ ⟨(some 4), .mov (.c (.int .i64 (-1))), none, []⟩]) (
 .ret))), [.tmp 4]⟩
theorem F346_ok : compFun Tryz.prog Tryz.f346 2 [[0, 1, 7, 8]] = some F346 := by kernel_rfl
end Go.Rb

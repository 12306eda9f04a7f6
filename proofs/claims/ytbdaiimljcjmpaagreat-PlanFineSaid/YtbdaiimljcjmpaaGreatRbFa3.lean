/- Functions of the program, compiled for the engine. MADE BY PROGRAM (Print.lean). -/
import Derived.Test.YtbdaiimljcjmpaaGreatBT01
import Derived.KernelRfl
import Derived.Test.YtbdaiimljcjmpaaGreatProg
namespace Go.Rb
set_option linter.unusedVariables false
set_option linter.unusedSimpArgs false
open Go.Proofs

/-- roadbook/query.within$1 -/
def F225 : SFun := ⟨2, 
 .seq (
 .region false [ ⟨(some 3), .mov (.c (.bool false)), none, []⟩]) (
 .seq (
 .region false [ ⟨(some 4), .load 1 false (.t 1), none, []⟩, ⟨(some 5), .mov (.t 0), none, []⟩, ⟨(some 6), .call (.c (.fn (.func 137) [] [])) [(.t 4), (.t 5)], none, []⟩, ⟨(some 7), .un .not (.t 6), none, []⟩, ⟨(some 3), .mov (.t 7), none, []⟩]) (
 .ret)), [.tmp 3]⟩
theorem F225_ok : compFun Tryz.prog Tryz.f225 2 [] = some F225 := by kernel_rfl
/-- roadbook/query.some -/
def F227 : SFun := ⟨2, 
 .seq (
 .region false [ ⟨(some 2), .box (.t 0), none, []⟩, ⟨(some 4), .mov (.c (.sl .full [])), none, []⟩]) (
 .seq (
 .region false [ ⟨(some 5), .mov (.c (.sl .full [])), none, []⟩]) (
 .seq (
 .seq (
 .region false [ ⟨(some 8), .faddr 1 1 false (.t 2), none, []⟩, ⟨(some 9), .load 1 false (.t 8), none, []⟩, ⟨(some 10), .len (.t 9), none, []⟩, ⟨(some 11), .mov (.c (.int .i64 0)), none, []⟩]) (
 .block 0 (
 .loop [1, 5, 9, 10, 11] (
 .seq (
 .region false [ ⟨(some 12), .bin .lss (.t 11) (.t 10), none, []⟩]) (
 .seq (
 .cond (.t 12) (
 .skip) (
 .exit 0)) (
 .seq (
 .block 1 (
 .seq (
 .region false [ ⟨(some 13), .mov (.t 11), none, []⟩, ⟨(some 14), .iaddr 5 (.t 9) (.t 11), none, []⟩, ⟨(some 15), .load 5 true (.t 14), none, []⟩, ⟨(some 7), .alloc (.agg [.int .i64 0, .int .i64 0, .int .i64 0, .int .i64 0, .sl .full []]), none, []⟩, ⟨(some 6), .mov (.t 13), none, []⟩, ⟨none, .store 5 (.t 7) (.t 15), none, []⟩]) (
 .seq (
 .region false [ ⟨(some 16), .mov (.t 1), none, []⟩, ⟨(some 17), .load 5 true (.t 7), none, []⟩, ⟨(some 18), .call (.c (.fn (.func 268) [] [])) [(.t 17)], none, []⟩, ⟨(some 19), .call (.t 16) [(.t 18)], none, []⟩]) (
 .cond (.t 19) (
 .region false [ ⟨(some 20), .mov (.t 5), none, []⟩, ⟨(some 21), .mov (.t 6), none, []⟩, ⟨(some 22), .bslice 1 (.int .i64 0) 1 [(0, (.t 21))], none, []⟩, ⟨(some 23), .append 3 1 8 (.t 20) (.t 22), none, []⟩, ⟨(some 5), .mov (.t 23), none, []⟩]) (
 .skip))))) (
 .region false [ ⟨(some 24), .bin .add (.t 11) (.c (.int .i64 1)), none, []⟩, ⟨(some 11), .mov (.t 24), none, []⟩]))))))) (
 .seq (
 .region false [ ⟨(some 25), .mov (.t 5), none, []⟩, ⟨(some 4), .mov (.t 25), none, []⟩]) (
 .ret)))), [.tmp 4]⟩
theorem F227_ok : compFun Tryz.prog Tryz.f227 2 [[1, 5, 9, 10, 11]] = some F227 := by kernel_rfl
/-- roadbook/query.New$1 -/
def F228 : SFun := ⟨4, 
 .seq (
 .region false [ ⟨(some 5), .mov (.c (.bool false)), none, []⟩]) (
 .seq (
 .region false [ ⟨(some 6), .load 1 false (.t 1), none, []⟩, ⟨(some 7), .mov (.t 0), none, []⟩, ⟨(some 8), .call (.c (.fn (.func 155) [] [])) [(.t 6), (.t 7)], none, []⟩, ⟨(some 9), .mov (.t 8), none, []⟩, ⟨(some 10), .load 1 false (.t 2), (some (9, true)), []⟩, ⟨(some 11), .mov (.t 0), (some (9, true)), []⟩, ⟨(some 12), .call (.c (.fn (.func 155) [] [])) [(.t 10), (.t 11)], (some (9, true)), []⟩, ⟨(some 13), .un .not (.t 12), (some (9, true)), []⟩, ⟨(some 14), .pick (.t 9) (.t 13) (.c (.bool false)), none, []⟩, ⟨(some 15), .mov (.t 14), none, []⟩, ⟨(some 16), .load 1 false (.t 3), (some (15, true)), []⟩, ⟨(some 17), .mov (.t 0), (some (15, true)), []⟩, ⟨(some 18), .call (.c (.fn (.func 155) [] [])) [(.t 16), (.t 17)], (some (15, true)), []⟩, ⟨(some 19), .un .not (.t 18), (some (15, true)), []⟩, ⟨(some 20), .pick (.t 15) (.t 19) (.c (.bool false)), none, []⟩, ⟨(some 5), .mov (.t 20), none, []⟩]) (
 .ret)), [.tmp 5]⟩
theorem F228_ok : compFun Tryz.prog Tryz.f228 4 [] = some F228 := by kernel_rfl
/-- roadbook/data.Split -/
def F229 : SFun := ⟨1, 
 .seq (
 .region false [ ⟨(some 2), .mov (.c (.int .i64 0)), none, []⟩, ⟨(some 3), .mov (.c (.int .i64 0)), none, []⟩, ⟨(some 4), .mov (.c (.bool false)), none, []⟩]) (
 .seq (
 .seq (
 .region false [ ⟨(some 5), .mov (.t 0), none, []⟩, ⟨(some 6), .call (.c (.fn (.func 215) [] [])) [(.t 5), (.c (.int .i64 0)), (.c (.int .i64 15))], none, []⟩, ⟨(some 7), .un .not (.t 6), none, []⟩]) (
 .cond (.t 7) (
 .seq (
 .region false [ ⟨(some 2), .mov (.c (.int .i64 0)), none, []⟩, ⟨(some 3), .mov (.c (.int .i64 0)), none, []⟩, ⟨(some 4), .mov (.c (.bool false)), none, []⟩]) (
 .ret)) (
 .skip))) (
 .seq (
 .region false [ ⟨(some 8), .mov (.t 0), none, []⟩, ⟨(some 9), .bin .quo (.t 8) (.c (.int .i64 4)), none, []⟩, ⟨(some 10), .mov (.t 0), none, []⟩, ⟨(some 11), .bin .rem (.t 10) (.c (.int .i64 4)), none, []⟩, ⟨(some 2), .mov (.t 9), none, []⟩, ⟨(some 3), .mov (.t 11), none, []⟩, ⟨(some 4), .mov (.c (.bool true)), none, []⟩]) (
 .ret))), [.tmp 2, .tmp 3, .tmp 4]⟩
theorem F229_ok : compFun Tryz.prog Tryz.f229 1 [] = some F229 := by kernel_rfl
/-- slices.Index[[][2]int,[2]int] -/
def F257 : SFun := ⟨2, 
 .seq (
 .region false [ ⟨(some 3), .box (.t 1), none, []⟩, ⟨(some 4), .mov (.c (.int .i64 0)), none, []⟩]) (
 .seq (
 .seq (
 .region false [ ⟨(some 6), .mov (.t 0), none, []⟩, ⟨(some 7), .len (.t 6), none, []⟩, ⟨(some 8), .mov (.c (.int .i64 0)), none, []⟩]) (
 .block 0 (
 .loop [0, 3, 7, 8] (
 .seq (
 .region false [ ⟨(some 9), .bin .lss (.t 8) (.t 7), none, []⟩]) (
 .seq (
 .cond (.t 9) (
 .skip) (
 .exit 0)) (
 .seq (
 .block 1 (
 .seq (
 .region false [ ⟨(some 10), .mov (.t 8), none, []⟩, ⟨(some 5), .mov (.t 10), none, []⟩]) (
 .seq (
 .region true [ ⟨(some 11), .load 2 true (.t 3), none, []⟩, ⟨(some 12), .mov (.t 0), none, []⟩, ⟨(some 13), .mov (.t 5), none, []⟩, ⟨(some 14), .iaddr 2 (.t 12) (.t 13), none, [1, 2]⟩, ⟨(some 15), .load 2 true (.t 14), none, [3, 1, 2]⟩, ⟨(some 16), .eqa false [true, true] (.t 11) (.t 15), none, [0, 4, 3, 1, 2]⟩]) (
 .cond (.t 16) (
 .seq (
 .region false [ ⟨(some 17), .mov (.t 5), none, []⟩, ⟨(some 4), .mov (.t 17), none, []⟩]) (
 .ret)) (
 .skip))))) (
 .region false [ ⟨(some 18), .bin .add (.t 8) (.c (.int .i64 1)), none, []⟩, ⟨(some 8), .mov (.t 18), none, []⟩]))))))) (
 .seq (
 .region false [ ⟨(some 4), .mov (.c (.int .i64 (-1))), none, []⟩]) (
 .ret))), [.tmp 4]⟩
theorem F257_ok : compFun Tryz.prog Tryz.f257 2 [[0, 3, 7, 8]] = some F257 := by kernel_rfl
/-- roadbook/roadbookref02.size -/
def F263 : SFun := ⟨2, 
 .seq (
 .region false [ ⟨(some 2), .box (.t 0), none, []⟩, ⟨(some 4), .mov (.c (.int .i64 0)), none, []⟩]) (
 .seq (
 .region false [ ⟨(some 5), .mov (.c (.int .i64 1)), none, []⟩]) (
 .seq (
 .seq (
 .region false [ ⟨(some 6), .mov (.c (.int .i64 0)), none, []⟩]) (
 .block 0 (
 .loop [1, 2, 5, 6] (
 .seq (
 .seq (
 .region false [ ⟨(some 7), .mov (.t 6), none, []⟩, ⟨(some 8), .faddr 4 1 false (.t 2), none, []⟩, ⟨(some 9), .load 1 false (.t 8), none, []⟩, ⟨(some 10), .len (.t 9), none, []⟩, ⟨(some 11), .bin .lss (.t 7) (.t 10), none, []⟩, ⟨(some 12), .mov (.t 11), none, []⟩, ⟨(some 13), .mov (.t 5), (some (12, true)), []⟩, ⟨(some 14), .mov (.t 1), (some (12, true)), []⟩, ⟨(some 15), .bin .leq (.t 13) (.t 14), (some (12, true)), []⟩, ⟨(some 16), .pick (.t 12) (.t 15) (.c (.bool false)), none, []⟩]) (
 .cond (.t 16) (
 .skip) (
 .exit 0))) (
 .seq (
 .block 1 (
 .region false [ ⟨(some 19), .mov (.t 5), none, []⟩, ⟨(some 20), .faddr 4 1 false (.t 2), none, []⟩, ⟨(some 21), .load 1 false (.t 20), none, []⟩, ⟨(some 22), .mov (.t 6), none, []⟩, ⟨(some 23), .iaddr 5 (.t 21) (.t 22), none, []⟩, ⟨(some 24), .load 5 true (.t 23), none, []⟩, ⟨(some 25), .mov (.t 1), none, []⟩, ⟨(some 26), .mov (.t 5), none, []⟩, ⟨(some 27), .bin .sub (.t 25) (.t 26), none, []⟩, ⟨(some 28), .call (.c (.fn (.func 263) [] [])) [(.t 24), (.t 27)], none, []⟩, ⟨(some 29), .bin .add (.t 19) (.t 28), none, []⟩, ⟨(some 5), .mov (.t 29), none, []⟩])) (
 .region false [ ⟨(some 17), .mov (.t 6), none, []⟩, ⟨(some 18), .bin .add (.t 17) (.c (.int .i64 1)), none, []⟩, ⟨(some 6), .mov (.t 18), none, []⟩])))))) (
 .seq (
 .region false [ ⟨(some 30), .mov (.t 5), none, []⟩, ⟨(some 4), .mov (.t 30), none, []⟩]) (
 .ret)))), [.tmp 4]⟩
theorem F263_ok : compFun Tryz.prog Tryz.f263 2 [[1, 2, 5, 6]] = some F263 := by kernel_rfl
/-- slices.IndexFunc[[]roadbook/api.Def,roadbook/api.Def] -/
def F264 : SFun := ⟨2, 
 .seq (
 .region false [ ⟨(some 4), .mov (.c (.int .i64 0)), none, []⟩]) (
 .seq (
 .seq (
 .region false [ ⟨(some 6), .mov (.t 0), none, []⟩, ⟨(some 7), .len (.t 6), none, []⟩, ⟨(some 8), .mov (.c (.int .i64 0)), none, []⟩]) (
 .block 0 (
 .loop [0, 1, 7, 8] (
 .seq (
 .region false [ ⟨(some 9), .bin .lss (.t 8) (.t 7), none, []⟩]) (
 .seq (
 .cond (.t 9) (
 .skip) (
 .exit 0)) (
 .seq (
 .block 1 (
 .seq (
 .region false [ ⟨(some 10), .mov (.t 8), none, []⟩, ⟨(some 5), .mov (.t 10), none, []⟩]) (
 .seq (
 .region false [ ⟨(some 11), .mov (.t 1), none, []⟩, ⟨(some 12), .mov (.t 0), none, []⟩, ⟨(some 13), .mov (.t 5), none, []⟩, ⟨(some 14), .iaddr 2 (.t 12) (.t 13), none, []⟩, ⟨(some 15), .load 2 true (.t 14), none, []⟩, ⟨(some 16), .call (.t 11) [(.t 15)], none, []⟩]) (
 .cond (.t 16) (
 .seq (
 .region false [ ⟨(some 17), .mov (.t 5), none, []⟩, ⟨(some 4), .mov (.t 17), none, []⟩]) (
 .ret)) (
 .skip))))) (
 .region false [ ⟨(some 18), .bin .add (.t 8) (.c (.int .i64 1)), none, []⟩, ⟨(some 8), .mov (.t 18), none, []⟩]))))))) (
 .seq (
 .region false [ ⟨(some 4), .mov (.c (.int .i64 (-1))), none, []⟩]) (
 .ret))), [.tmp 4]⟩
theorem F264_ok : compFun Tryz.prog Tryz.f264 2 [[0, 1, 7, 8]] = some F264 := by kernel_rfl
/-- roadbook/expr.May$1 -/
def F265 : SFun := ⟨3, 
 .seq (
 .region false [ ⟨(some 3), .box (.t 0), none, []⟩, ⟨(some 5), .mov (.c (.bool false)), none, []⟩]) (
 .seq (
 .region false [ ⟨(some 6), .load 1 false (.t 2), none, []⟩, ⟨(some 7), .bin .add (.t 6) (.c (.int .i64 1)), none, []⟩, ⟨none, .store 1 (.t 2) (.t 7), none, []⟩]) (
 .seq (
 .region false [ ⟨(some 8), .load 1 false (.t 2), none, []⟩, ⟨(some 9), .bin .leq (.t 8) (.c (.int .i64 30)), none, []⟩, ⟨(some 10), .mov (.t 9), none, []⟩, ⟨(some 11), .mov (.t 1), (some (10, true)), []⟩, ⟨(some 12), .bin .leq (.t 11) (.c (.int .i64 6)), (some (10, true)), []⟩, ⟨(some 13), .pick (.t 10) (.t 12) (.c (.bool false)), none, []⟩, ⟨(some 14), .mov (.t 13), none, []⟩, ⟨(some 15), .load 5 true (.t 3), (some (14, true)), []⟩, ⟨(some 16), .call (.c (.fn (.func 266) [] [])) [(.t 15)], (some (14, true)), []⟩, ⟨(some 17), .pick (.t 14) (.t 16) (.c (.bool false)), none, []⟩, ⟨(some 5), .mov (.t 17), none, []⟩]) (
 .ret))), [.tmp 5]⟩
theorem F265_ok : compFun Tryz.prog Tryz.f265 3 [] = some F265 := by kernel_rfl
/-- roadbook/expr.part -/
def F266 : SFun := ⟨1, 
 .seq (
 .region false [ ⟨(some 1), .box (.t 0), none, []⟩, ⟨(some 2), .mov (.c (.bool false)), none, []⟩]) (
 .seq (
 .region false [ ⟨(some 7), .faddr 0 1 false (.t 1), none, []⟩, ⟨(some 8), .load 1 false (.t 7), none, []⟩, ⟨(some 9), .call (.c (.fn (.func 288) [] [])) [(.t 8)], none, []⟩, ⟨(some 3), .alloc (.agg [.int .i64 0, .int .i64 0, .nilfn]), none, []⟩, ⟨none, .store 3 (.t 3) (.t 9), none, []⟩]) (
 .seq (
 .region false [ ⟨(some 10), .faddr 4 1 false (.t 1), none, []⟩, ⟨(some 11), .load 1 false (.t 10), none, []⟩, ⟨(some 12), .len (.t 11), none, []⟩, ⟨(some 13), .faddr 0 1 false (.t 3), none, []⟩, ⟨(some 14), .load 1 false (.t 13), none, []⟩, ⟨(some 15), .bin .geq (.t 12) (.t 14), none, []⟩, ⟨(some 16), .mov (.t 15), none, []⟩, ⟨(some 17), .faddr 4 1 false (.t 1), (some (16, true)), []⟩, ⟨(some 18), .load 1 false (.t 17), (some (16, true)), []⟩, ⟨(some 19), .len (.t 18), (some (16, true)), []⟩, ⟨(some 20), .faddr 1 1 false (.t 3), (some (16, true)), []⟩, ⟨(some 21), .load 1 false (.t 20), (some (16, true)), []⟩, ⟨(some 22), .bin .leq (.t 19) (.t 21), (some (16, true)), []⟩, ⟨(some 23), .pick (.t 16) (.t 22) (.c (.bool false)), none, []⟩, ⟨(some 4), .mov (.t 23), none, []⟩]) (
 .seq (
 .region false [ ⟨(some 24), .faddr 1 1 false (.t 1), none, []⟩, ⟨(some 25), .load 1 false (.t 24), none, []⟩, ⟨(some 26), .bin .eql (.t 25) (.c (.int .i64 0)), none, []⟩, ⟨(some 27), .mov (.t 26), none, []⟩, ⟨(some 28), .faddr 0 1 false (.t 1), (some (27, false)), []⟩, ⟨(some 29), .load 1 false (.t 28), (some (27, false)), []⟩, ⟨(some 30), .bin .eql (.t 29) (.c (.int .i64 1)), (some (27, false)), []⟩, ⟨(some 31), .mov (.t 30), (some (27, false)), []⟩, ⟨(some 32), .faddr 1 1 false (.t 1), (some (31, true)), []⟩, ⟨(some 33), .load 1 false (.t 32), (some (31, true)), []⟩, ⟨(some 34), .bin .gtr (.t 33) (.c (.int .i64 0)), (some (31, true)), []⟩, ⟨(some 35), .pick (.t 31) (.t 34) (.c (.bool false)), (some (27, false)), []⟩, ⟨(some 36), .mov (.t 35), (some (27, false)), []⟩, ⟨(some 37), .faddr 1 1 false (.t 1), (some (36, true)), []⟩, ⟨(some 38), .load 1 false (.t 37), (some (36, true)), []⟩, ⟨(some 39), .bin .leq (.t 38) (.c (.int .i64 15)), (some (36, true)), []⟩, ⟨(some 40), .pick (.t 36) (.t 39) (.c (.bool false)), (some (27, false)), []⟩, ⟨(some 41), .pick (.t 27) (.c (.bool true)) (.t 40), none, []⟩, ⟨(some 5), .mov (.t 41), none, []⟩]) (
 .seq (
 .region false [ ⟨(some 42), .faddr 2 2 true (.t 1), none, []⟩, ⟨(some 43), .load 2 true (.t 42), none, []⟩, ⟨(some 44), .build [.int .i64 0, .int .i64 0] [], none, []⟩, ⟨(some 45), .eqa false [true, true] (.t 43) (.t 44), none, []⟩, ⟨(some 46), .mov (.t 45), none, []⟩, ⟨(some 47), .faddr 0 1 false (.t 1), (some (46, false)), []⟩, ⟨(some 48), .load 1 false (.t 47), (some (46, false)), []⟩, ⟨(some 49), .bin .eql (.t 48) (.c (.int .i64 0)), (some (46, false)), []⟩, ⟨(some 50), .mov (.t 49), (some (46, false)), []⟩, ⟨(some 51), .faddr 2 2 true (.t 1), (some (50, true)), []⟩, ⟨(some 52), .load 2 true (.t 51), (some (50, true)), []⟩, ⟨(some 53), .call (.c (.fn (.func 289) [] [])) [(.t 52)], (some (50, true)), []⟩, ⟨(some 54), .pick (.t 50) (.t 53) (.c (.bool false)), (some (46, false)), []⟩, ⟨(some 55), .pick (.t 46) (.c (.bool true)) (.t 54), none, []⟩, ⟨(some 6), .mov (.t 55), none, []⟩]) (
 .seq (
 .region false [ ⟨(some 56), .faddr 0 1 false (.t 1), none, []⟩, ⟨(some 57), .load 1 false (.t 56), none, []⟩, ⟨(some 58), .bin .geq (.t 57) (.c (.int .i64 0)), none, []⟩, ⟨(some 59), .mov (.t 58), none, []⟩, ⟨(some 60), .faddr 0 1 false (.t 1), (some (59, true)), []⟩, ⟨(some 61), .load 1 false (.t 60), (some (59, true)), []⟩, ⟨(some 62), .bin .lss (.t 61) (.c (.int .i64 11)), (some (59, true)), []⟩, ⟨(some 63), .pick (.t 59) (.t 62) (.c (.bool false)), none, []⟩, ⟨(some 64), .mov (.t 63), none, []⟩, ⟨(some 65), .mov (.t 4), (some (64, true)), []⟩, ⟨(some 66), .pick (.t 64) (.t 65) (.c (.bool false)), none, []⟩, ⟨(some 67), .mov (.t 66), none, []⟩, ⟨(some 68), .mov (.t 5), (some (67, true)), []⟩, ⟨(some 69), .pick (.t 67) (.t 68) (.c (.bool false)), none, []⟩, ⟨(some 70), .mov (.t 69), none, []⟩, ⟨(some 71), .mov (.t 6), (some (70, true)), []⟩, ⟨(some 72), .pick (.t 70) (.t 71) (.c (.bool false)), none, []⟩, ⟨(some 2), .mov (.t 72), none, []⟩]) (
 .ret)))))), [.tmp 2]⟩
theorem F266_ok : compFun Tryz.prog Tryz.f266 1 [] = some F266 := by kernel_rfl
/-- roadbook/query.Of -/
def F268 : SFun := ⟨1, 
 .seq (
 .region false [ ⟨(some 1), .box (.t 0), none, []⟩, ⟨(some 2), .mov (.c (.int .i64 0)), none, []⟩]) (
 .seq (
 .region false [ ⟨(some 3), .load 5 true (.t 1), none, []⟩, ⟨(some 4), .call (.c (.fn (.func 150) [] [])) [(.t 3)], none, []⟩, ⟨(some 5), .call (.c (.fn (.func 156) [] [])) [(.t 4)], none, []⟩, ⟨(some 2), .mov (.t 5), none, []⟩]) (
 .ret)), [.tmp 2]⟩
theorem F268_ok : compFun Tryz.prog Tryz.f268 1 [] = some F268 := by kernel_rfl
/-- roadbook/expr.ways -/
def F288 : SFun := ⟨1, 
 .seq (
 .region false [ ⟨(some 2), .alloc (.agg [.int .i64 0, .int .i64 0, .nilfn]), none, []⟩]) (
 .seq (
 .seq (
 .region false [ ⟨(some 3), .mov (.t 0), none, []⟩]) (
 .block 0 (
 .seq (
 .region false [ ⟨(some 5), .bin .eql (.t 3) (.c (.int .i64 2)), none, []⟩, ⟨(some 4), .mov (.t 5), none, []⟩]) (
 .cond (.t 4) (
 .seq (
 .region false [ ⟨(some 6), .call (.c (.fn (.func 307) [] [])) [(.c (.fn (.func 308) [] []))], none, []⟩, ⟨none, .store 3 (.t 2) (.t 6), none, []⟩]) (
 .ret)) (
 .seq (
 .region false [ ⟨(some 8), .bin .eql (.t 3) (.c (.int .i64 3)), none, []⟩, ⟨(some 7), .mov (.t 8), none, []⟩]) (
 .cond (.t 7) (
 .seq (
 .region false [ ⟨(some 9), .call (.c (.fn (.func 307) [] [])) [(.c (.fn (.func 309) [] []))], none, []⟩, ⟨none, .store 3 (.t 2) (.t 9), none, []⟩]) (
 .ret)) (
 .seq (
 .region false [ ⟨(some 11), .bin .eql (.t 3) (.c (.int .i64 4)), none, []⟩, ⟨(some 10), .mov (.t 11), none, []⟩]) (
 .cond (.t 10) (
 .seq (
 .region false [ ⟨(some 12), .call (.c (.fn (.func 307) [] [])) [(.c (.fn (.func 310) [] []))], none, []⟩, ⟨none, .store 3 (.t 2) (.t 12), none, []⟩]) (
 .ret)) (
 .seq (
 .region false [ ⟨(some 14), .bin .eql (.t 3) (.c (.int .i64 5)), none, []⟩, ⟨(some 13), .mov (.t 14), none, []⟩]) (
 .cond (.t 13) (
 .seq (
 .region false [ ⟨(some 15), .call (.c (.fn (.func 307) [] [])) [(.c (.fn (.func 311) [] []))], none, []⟩, ⟨none, .store 3 (.t 2) (.t 15), none, []⟩]) (
 .ret)) (
 .seq (
 .region false [ ⟨(some 17), .bin .eql (.t 3) (.c (.int .i64 6)), none, []⟩, ⟨(some 16), .mov (.t 17), none, []⟩]) (
 .cond (.t 16) (
 .seq (
 .region false [ ⟨(some 18), .call (.c (.fn (.func 307) [] [])) [(.c (.fn (.func 312) [] []))], none, []⟩, ⟨none, .store 3 (.t 2) (.t 18), none, []⟩]) (
 .ret)) (
 .seq (
 .region false [ ⟨(some 20), .bin .eql (.t 3) (.c (.int .i64 7)), none, []⟩, ⟨(some 19), .mov (.t 20), none, []⟩]) (
 .cond (.t 19) (
 .seq (
 .region false [ ⟨(some 21), .call (.c (.fn (.func 307) [] [])) [(.c (.fn (.func 313) [] []))], none, []⟩, ⟨none, .store 3 (.t 2) (.t 21), none, []⟩]) (
 .ret)) (
 .seq (
 .region false [ ⟨(some 23), .bin .eql (.t 3) (.c (.int .i64 8)), none, []⟩, ⟨(some 22), .mov (.t 23), none, []⟩]) (
 .cond (.t 22) (
 .seq (
 .region false [ ⟨(some 24), .build [.int .i64 0, .int .i64 0, .nilfn] [(0, 1, (.c (.int .i64 0))), (1, 1, (.c (.int .i64 4))), (2, 1, (.c (.fn (.func 314) [] [])))], none, []⟩, ⟨none, .store 3 (.t 2) (.t 24), none, []⟩]) (
 .ret)) (
 .seq (
 .region false [ ⟨(some 26), .bin .eql (.t 3) (.c (.int .i64 9)), none, []⟩, ⟨(some 25), .mov (.t 26), none, []⟩]) (
 .cond (.t 25) (
 .seq (
 .region false [ ⟨(some 27), .build [.int .i64 0, .int .i64 0, .nilfn] [(0, 1, (.c (.int .i64 0))), (1, 1, (.c (.int .i64 4))), (2, 1, (.c (.fn (.func 316) [] [])))], none, []⟩, ⟨none, .store 3 (.t 2) (.t 27), none, []⟩]) (
 .ret)) (
 .seq (
 .region false [ ⟨(some 29), .bin .eql (.t 3) (.c (.int .i64 10)), none, []⟩, ⟨(some 28), .mov (.t 29), none, []⟩]) (
 .cond (.t 28) (
 .seq (
 .region false [ ⟨(some 30), .build [.int .i64 0, .int .i64 0, .nilfn] [(0, 1, (.c (.int .i64 1))), (1, 1, (.c (.int .i64 1))), (2, 1, (.c (.fn (.func 318) [] [])))], none, []⟩, ⟨none, .store 3 (.t 2) (.t 30), none, []⟩]) (
 .ret)) (
 .skip))))))))))))))))))))) (
 .seq (
 .region false [ ⟨(some 31), .build [.int .i64 0, .int .i64 0, .nilfn] [], none, []⟩, ⟨none, .store 3 (.t 2) (.t 31), none, []⟩]) (
 .ret))), [.cell 2 3 true]⟩
theorem F288_ok : compFun Tryz.prog Tryz.f288 1 [] = some F288 := by kernel_rfl
/-- roadbook/val.May -/
def F289 : SFun := ⟨1, 
 .seq (
 .region false [ ⟨(some 1), .box (.t 0), none, []⟩, ⟨(some 2), .mov (.c (.bool false)), none, []⟩]) (
 .seq (
 .region false [ ⟨(some 3), .faddr 0 1 false (.t 1), none, []⟩, ⟨(some 4), .load 1 false (.t 3), none, []⟩, ⟨(some 5), .bin .geq (.t 4) (.c (.int .i64 0)), none, []⟩, ⟨(some 6), .mov (.t 5), none, []⟩, ⟨(some 7), .faddr 0 1 false (.t 1), (some (6, true)), []⟩, ⟨(some 8), .load 1 false (.t 7), (some (6, true)), []⟩, ⟨(some 9), .bin .lss (.t 8) (.c (.int .i64 3)), (some (6, true)), []⟩, ⟨(some 10), .pick (.t 6) (.t 9) (.c (.bool false)), none, []⟩, ⟨(some 11), .mov (.t 10), none, []⟩, ⟨(some 12), .faddr 0 1 false (.t 1), (some (11, true)), []⟩, ⟨(some 13), .load 1 false (.t 12), (some (11, true)), []⟩, ⟨(some 14), .bin .eql (.t 13) (.c (.int .i64 0)), (some (11, true)), []⟩, ⟨(some 15), .mov (.t 14), (some (11, true)), []⟩, ⟨(some 16), .faddr 1 1 false (.t 1), (some (15, false)), []⟩, ⟨(some 17), .load 1 false (.t 16), (some (15, false)), []⟩, ⟨(some 18), .bin .eql (.t 17) (.c (.int .i64 0)), (some (15, false)), []⟩, ⟨(some 19), .pick (.t 15) (.c (.bool true)) (.t 18), (some (11, true)), []⟩, ⟨(some 20), .pick (.t 11) (.t 19) (.c (.bool false)), none, []⟩, ⟨(some 2), .mov (.t 20), none, []⟩]) (
 .ret)), [.tmp 2]⟩
theorem F289_ok : compFun Tryz.prog Tryz.f289 1 [] = some F289 := by kernel_rfl
/-- roadbook/expr.two -/
def F307 : SFun := ⟨1, 
 .seq (
 .region false [ ⟨(some 1), .box (.t 0), none, []⟩, ⟨(some 2), .alloc (.agg [.int .i64 0, .int .i64 0, .nilfn]), none, []⟩]) (
 .seq (
 .region false [ ⟨(some 3), .mkfn (.func 325) [] [(.t 1)], none, []⟩, ⟨(some 4), .build [.int .i64 0, .int .i64 0, .nilfn] [(0, 1, (.c (.int .i64 2))), (1, 1, (.c (.int .i64 2))), (2, 1, (.t 3))], none, []⟩, ⟨none, .store 3 (.t 2) (.t 4), none, []⟩]) (
 .ret)), [.cell 2 3 true]⟩
theorem F307_ok : compFun Tryz.prog Tryz.f307 1 [] = some F307 := by kernel_rfl
/-- roadbook/val.Add -/
def F308 : SFun := ⟨2, 
 .seq (
 .region false [ ⟨(some 2), .box (.t 0), none, []⟩, ⟨(some 3), .box (.t 1), none, []⟩, ⟨(some 4), .alloc (.agg [.int .i64 0, .int .i64 0]), none, []⟩]) (
 .seq (
 .region false [ ⟨(some 5), .load 2 true (.t 2), none, []⟩, ⟨(some 6), .load 2 true (.t 3), none, []⟩, ⟨(some 7), .call (.c (.fn (.func 326) [] [])) [(.t 5), (.t 6), (.c (.fn (.func 327) [] []))], none, []⟩, ⟨none, .store 2 (.t 4) (.t 7), none, []⟩]) (
 .ret)), [.cell 4 2 true]⟩
theorem F308_ok : compFun Tryz.prog Tryz.f308 2 [] = some F308 := by kernel_rfl
/-- roadbook/val.Sub -/
def F309 : SFun := ⟨2, 
 .seq (
 .region false [ ⟨(some 2), .box (.t 0), none, []⟩, ⟨(some 3), .box (.t 1), none, []⟩, ⟨(some 4), .alloc (.agg [.int .i64 0, .int .i64 0]), none, []⟩]) (
 .seq (
 .region false [ ⟨(some 5), .load 2 true (.t 2), none, []⟩, ⟨(some 6), .load 2 true (.t 3), none, []⟩, ⟨(some 7), .call (.c (.fn (.func 326) [] [])) [(.t 5), (.t 6), (.c (.fn (.func 328) [] []))], none, []⟩, ⟨none, .store 2 (.t 4) (.t 7), none, []⟩]) (
 .ret)), [.cell 4 2 true]⟩
theorem F309_ok : compFun Tryz.prog Tryz.f309 2 [] = some F309 := by kernel_rfl
/-- roadbook/val.Mul -/
def F310 : SFun := ⟨2, 
 .seq (
 .region false [ ⟨(some 2), .box (.t 0), none, []⟩, ⟨(some 3), .box (.t 1), none, []⟩, ⟨(some 4), .alloc (.agg [.int .i64 0, .int .i64 0]), none, []⟩]) (
 .seq (
 .region false [ ⟨(some 5), .load 2 true (.t 2), none, []⟩, ⟨(some 6), .load 2 true (.t 3), none, []⟩, ⟨(some 7), .call (.c (.fn (.func 326) [] [])) [(.t 5), (.t 6), (.c (.fn (.func 329) [] []))], none, []⟩, ⟨none, .store 2 (.t 4) (.t 7), none, []⟩]) (
 .ret)), [.cell 4 2 true]⟩
theorem F310_ok : compFun Tryz.prog Tryz.f310 2 [] = some F310 := by kernel_rfl
/-- roadbook/val.Div -/
def F311 : SFun := ⟨2, 
 .seq (
 .region false [ ⟨(some 2), .box (.t 0), none, []⟩, ⟨(some 3), .box (.t 1), none, []⟩, ⟨(some 4), .alloc (.agg [.int .i64 0, .int .i64 0]), none, []⟩]) (
 .seq (
 .region false [ ⟨(some 5), .load 2 true (.t 2), none, []⟩, ⟨(some 6), .load 2 true (.t 3), none, []⟩, ⟨(some 7), .call (.c (.fn (.func 326) [] [])) [(.t 5), (.t 6), (.c (.fn (.func 331) [] []))], none, []⟩, ⟨none, .store 2 (.t 4) (.t 7), none, []⟩]) (
 .ret)), [.cell 4 2 true]⟩
theorem F311_ok : compFun Tryz.prog Tryz.f311 2 [] = some F311 := by kernel_rfl
/-- roadbook/val.Eq -/
def F312 : SFun := ⟨2, 
 .seq (
 .region false [ ⟨(some 2), .box (.t 0), none, []⟩, ⟨(some 3), .box (.t 1), none, []⟩, ⟨(some 4), .alloc (.agg [.int .i64 0, .int .i64 0]), none, []⟩]) (
 .seq (
 .seq (
 .region false [ ⟨(some 8), .load 2 true (.t 2), none, []⟩, ⟨(some 9), .load 2 true (.t 3), none, []⟩, ⟨(some 10), .bslice 2 (.agg [.int .i64 0, .int .i64 0]) 2 [(0, (.t 8)), (1, (.t 9))], none, []⟩, ⟨(some 11), .call (.c (.fn (.func 332) [] [])) [(.t 10)], none, []⟩, ⟨(some 7), .mov (.t 11), none, []⟩, ⟨(some 12), .ext (.t 7) 0, none, []⟩, ⟨(some 13), .ext (.t 7) 1, none, []⟩, ⟨(some 5), .alloc (.agg [.int .i64 0, .int .i64 0]), none, []⟩, ⟨none, .store 2 (.t 5) (.t 12), none, []⟩, ⟨(some 6), .mov (.t 13), none, []⟩]) (
 .seq (
 .region false [ ⟨(some 14), .mov (.t 6), none, []⟩]) (
 .cond (.t 14) (
 .seq (
 .region false [ ⟨(some 15), .load 2 true (.t 5), none, []⟩, ⟨none, .store 2 (.t 4) (.t 15), none, []⟩]) (
 .ret)) (
 .skip)))) (
 .seq (
 .region false [ ⟨(some 16), .load 2 true (.t 2), none, []⟩, ⟨(some 17), .load 2 true (.t 3), none, []⟩, ⟨(some 18), .eqa false [true, true] (.t 16) (.t 17), none, []⟩, ⟨(some 19), .call (.c (.fn (.func 333) [] [])) [(.t 18)], none, []⟩, ⟨none, .store 2 (.t 4) (.t 19), none, []⟩]) (
 .ret))), [.cell 4 2 true]⟩
theorem F312_ok : compFun Tryz.prog Tryz.f312 2 [] = some F312 := by kernel_rfl
/-- roadbook/val.Lt -/
def F313 : SFun := ⟨2, 
 .seq (
 .region false [ ⟨(some 2), .box (.t 0), none, []⟩, ⟨(some 3), .box (.t 1), none, []⟩, ⟨(some 4), .alloc (.agg [.int .i64 0, .int .i64 0]), none, []⟩]) (
 .seq (
 .seq (
 .region false [ ⟨(some 8), .load 2 true (.t 2), none, []⟩, ⟨(some 9), .load 2 true (.t 3), none, []⟩, ⟨(some 10), .bslice 2 (.agg [.int .i64 0, .int .i64 0]) 2 [(0, (.t 8)), (1, (.t 9))], none, []⟩, ⟨(some 11), .call (.c (.fn (.func 332) [] [])) [(.t 10)], none, []⟩, ⟨(some 7), .mov (.t 11), none, []⟩, ⟨(some 12), .ext (.t 7) 0, none, []⟩, ⟨(some 13), .ext (.t 7) 1, none, []⟩, ⟨(some 5), .alloc (.agg [.int .i64 0, .int .i64 0]), none, []⟩, ⟨none, .store 2 (.t 5) (.t 12), none, []⟩, ⟨(some 6), .mov (.t 13), none, []⟩]) (
 .seq (
 .region false [ ⟨(some 14), .mov (.t 6), none, []⟩]) (
 .cond (.t 14) (
 .seq (
 .region false [ ⟨(some 15), .load 2 true (.t 5), none, []⟩, ⟨none, .store 2 (.t 4) (.t 15), none, []⟩]) (
 .ret)) (
 .skip)))) (
 .seq (
 .region false [ ⟨(some 16), .faddr 1 1 false (.t 2), none, []⟩, ⟨(some 17), .load 1 false (.t 16), none, []⟩, ⟨(some 18), .faddr 1 1 false (.t 3), none, []⟩, ⟨(some 19), .load 1 false (.t 18), none, []⟩, ⟨(some 20), .bin .lss (.t 17) (.t 19), none, []⟩, ⟨(some 21), .call (.c (.fn (.func 333) [] [])) [(.t 20)], none, []⟩, ⟨none, .store 2 (.t 4) (.t 21), none, []⟩]) (
 .ret))), [.cell 4 2 true]⟩
theorem F313_ok : compFun Tryz.prog Tryz.f313 2 [] = some F313 := by kernel_rfl
/-- roadbook/expr.ways$1 -/
def F314 : SFun := ⟨1, 
 .seq (
 .region false [ ⟨(some 2), .alloc (.agg [.int .i64 0, .int .i64 0]), none, []⟩]) (
 .seq (
 .region false [ ⟨(some 3), .mov (.t 0), none, []⟩, ⟨(some 4), .call (.c (.fn (.func 315) [] [])) [(.t 3)], none, []⟩, ⟨none, .store 2 (.t 2) (.t 4), none, []⟩]) (
 .ret)), [.cell 2 2 true]⟩
theorem F314_ok : compFun Tryz.prog Tryz.f314 1 [] = some F314 := by kernel_rfl
/-- roadbook/val.And -/
def F315 : SFun := ⟨1, 
 .seq (
 .region false [ ⟨(some 2), .alloc (.agg [.int .i64 0, .int .i64 0]), none, []⟩]) (
 .seq (
 .region false [ ⟨(some 3), .mov (.t 0), none, []⟩, ⟨(some 4), .call (.c (.fn (.func 336) [] [])) [(.c (.int .i64 0))], none, []⟩, ⟨(some 5), .call (.c (.fn (.func 336) [] [])) [(.c (.int .i64 1))], none, []⟩, ⟨(some 6), .call (.c (.fn (.func 334) [] [])) [(.t 3), (.c (.fn (.func 335) [] [])), (.t 4), (.t 5)], none, []⟩, ⟨none, .store 2 (.t 2) (.t 6), none, []⟩]) (
 .ret)), [.cell 2 2 true]⟩
theorem F315_ok : compFun Tryz.prog Tryz.f315 1 [] = some F315 := by kernel_rfl
/-- roadbook/expr.ways$2 -/
def F316 : SFun := ⟨1, 
 .seq (
 .region false [ ⟨(some 2), .alloc (.agg [.int .i64 0, .int .i64 0]), none, []⟩]) (
 .seq (
 .region false [ ⟨(some 3), .mov (.t 0), none, []⟩, ⟨(some 4), .call (.c (.fn (.func 317) [] [])) [(.t 3)], none, []⟩, ⟨none, .store 2 (.t 2) (.t 4), none, []⟩]) (
 .ret)), [.cell 2 2 true]⟩
theorem F316_ok : compFun Tryz.prog Tryz.f316 1 [] = some F316 := by kernel_rfl
/-- roadbook/val.Or -/
def F317 : SFun := ⟨1, 
 .seq (
 .region false [ ⟨(some 2), .alloc (.agg [.int .i64 0, .int .i64 0]), none, []⟩]) (
 .seq (
 .region false [ ⟨(some 3), .mov (.t 0), none, []⟩, ⟨(some 4), .call (.c (.fn (.func 336) [] [])) [(.c (.int .i64 1))], none, []⟩, ⟨(some 5), .call (.c (.fn (.func 336) [] [])) [(.c (.int .i64 0))], none, []⟩, ⟨(some 6), .call (.c (.fn (.func 334) [] [])) [(.t 3), (.c (.fn (.func 337) [] [])), (.t 4), (.t 5)], none, []⟩, ⟨none, .store 2 (.t 2) (.t 6), none, []⟩]) (
 .ret)), [.cell 2 2 true]⟩
theorem F317_ok : compFun Tryz.prog Tryz.f317 1 [] = some F317 := by kernel_rfl
/-- roadbook/expr.ways$3 -/
def F318 : SFun := ⟨1, 
 .seq (
 .region false [ ⟨(some 2), .alloc (.agg [.int .i64 0, .int .i64 0]), none, []⟩]) (
 .seq (
 .region false [ ⟨(some 3), .mov (.t 0), none, []⟩, ⟨(some 4), .iaddr 2 (.t 3) (.c (.int .i64 0)), none, []⟩, ⟨(some 5), .load 2 true (.t 4), none, []⟩, ⟨(some 6), .call (.c (.fn (.func 319) [] [])) [(.t 5)], none, []⟩, ⟨none, .store 2 (.t 2) (.t 6), none, []⟩]) (
 .ret)), [.cell 2 2 true]⟩
theorem F318_ok : compFun Tryz.prog Tryz.f318 1 [] = some F318 := by kernel_rfl
/-- roadbook/val.Not -/
def F319 : SFun := ⟨1, 
 .seq (
 .region false [ ⟨(some 1), .box (.t 0), none, []⟩, ⟨(some 2), .alloc (.agg [.int .i64 0, .int .i64 0]), none, []⟩]) (
 .seq (
 .seq (
 .region false [ ⟨(some 6), .load 2 true (.t 1), none, []⟩, ⟨(some 7), .bslice 2 (.agg [.int .i64 0, .int .i64 0]) 1 [(0, (.t 6))], none, []⟩, ⟨(some 8), .call (.c (.fn (.func 332) [] [])) [(.t 7)], none, []⟩, ⟨(some 5), .mov (.t 8), none, []⟩, ⟨(some 9), .ext (.t 5) 0, none, []⟩, ⟨(some 10), .ext (.t 5) 1, none, []⟩, ⟨(some 3), .alloc (.agg [.int .i64 0, .int .i64 0]), none, []⟩, ⟨none, .store 2 (.t 3) (.t 9), none, []⟩, ⟨(some 4), .mov (.t 10), none, []⟩]) (
 .seq (
 .region false [ ⟨(some 11), .mov (.t 4), none, []⟩]) (
 .cond (.t 11) (
 .seq (
 .region false [ ⟨(some 12), .load 2 true (.t 3), none, []⟩, ⟨none, .store 2 (.t 2) (.t 12), none, []⟩]) (
 .ret)) (
 .skip)))) (
 .seq (
 .region false [ ⟨(some 13), .faddr 1 1 false (.t 1), none, []⟩, ⟨(some 14), .load 1 false (.t 13), none, []⟩, ⟨(some 15), .bin .eql (.t 14) (.c (.int .i64 0)), none, []⟩, ⟨(some 16), .call (.c (.fn (.func 333) [] [])) [(.t 15)], none, []⟩, ⟨none, .store 2 (.t 2) (.t 16), none, []⟩]) (
 .ret))), [.cell 2 2 true]⟩
theorem F319_ok : compFun Tryz.prog Tryz.f319 1 [] = some F319 := by kernel_rfl
/-- roadbook/expr.two$1 -/
def F325 : SFun := ⟨2, 
 .seq (
 .region false [ ⟨(some 3), .alloc (.agg [.int .i64 0, .int .i64 0]), none, []⟩]) (
 .seq (
 .region true [ ⟨(some 4), .load 1 false (.t 1), none, []⟩, ⟨(some 5), .mov (.t 0), none, []⟩, ⟨(some 6), .iaddr 2 (.t 5) (.c (.int .i64 0)), none, [1]⟩, ⟨(some 7), .load 2 true (.t 6), none, [2, 1]⟩, ⟨(some 8), .mov (.t 0), none, []⟩, ⟨(some 9), .iaddr 2 (.t 8) (.c (.int .i64 1)), none, [4]⟩, ⟨(some 10), .load 2 true (.t 9), none, [5, 4]⟩, ⟨(some 11), .call (.t 4) [(.t 7), (.t 10)], none, [0, 3, 2, 1, 6, 5, 4]⟩, ⟨none, .store 2 (.t 3) (.t 11), none, [7, 0, 3, 2, 1, 6, 5, 4]⟩]) (
 .ret)), [.cell 3 2 true]⟩
theorem F325_ok : compFun Tryz.prog Tryz.f325 2 [] = some F325 := by kernel_rfl
end Go.Rb

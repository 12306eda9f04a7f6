/- Functions of the program, compiled for the engine. MADE BY PROGRAM (Print.lean). -/
import Derived.Test.YtbdaiimljcjmpaaGreatBT01
import Derived.KernelRfl
import Derived.Test.YtbdaiimljcjmpaaGreatProg
namespace Go.Rb
set_option linter.unusedVariables false
set_option linter.unusedSimpArgs false
open Go.Proofs

/-- roadbook/card.Base -/
def F82 : SFun := ⟨3, 
 .seq (
 .region false [ ⟨(some 3), .box (.t 0), none, []⟩, ⟨(some 4), .box (.t 1), none, []⟩, ⟨(some 6), .mov (.c (.int .i64 0)), none, []⟩]) (
 .seq (
 .seq (
 .region false [ ⟨(some 7), .load 1 true (.t 3), none, []⟩, ⟨(some 8), .load 6 true (.t 4), none, []⟩, ⟨(some 9), .call (.c (.fn (.func 62) [] [])) [(.t 7), (.t 8)], none, []⟩, ⟨(some 10), .un .not (.t 9), none, []⟩, ⟨(some 11), .mov (.t 10), none, []⟩, ⟨(some 12), .mov (.t 2), (some (11, false)), []⟩, ⟨(some 13), .bin .lss (.t 12) (.c (.int .i64 0)), (some (11, false)), []⟩, ⟨(some 14), .pick (.t 11) (.c (.bool true)) (.t 13), none, []⟩, ⟨(some 15), .mov (.t 14), none, []⟩, ⟨(some 16), .mov (.t 2), (some (15, false)), []⟩, ⟨(some 17), .faddr 0 1 false (.t 4), (some (15, false)), []⟩, ⟨(some 18), .load 1 false (.t 17), (some (15, false)), []⟩, ⟨(some 19), .len (.t 18), (some (15, false)), []⟩, ⟨(some 20), .bin .geq (.t 16) (.t 19), (some (15, false)), []⟩, ⟨(some 21), .pick (.t 15) (.c (.bool true)) (.t 20), none, []⟩]) (
 .cond (.t 21) (
 .seq (
 .region false [ ⟨(some 6), .mov (.c (.int .i64 0)), none, []⟩]) (
 .ret)) (
 .skip))) (
 .seq (
 .region true [ ⟨(some 22), .faddr 0 1 false (.t 3), none, []⟩, ⟨(some 23), .load 1 false (.t 22), none, [0]⟩, ⟨(some 24), .faddr 0 1 false (.t 4), none, []⟩, ⟨(some 25), .load 1 false (.t 24), none, [2]⟩, ⟨(some 26), .mov (.t 2), none, []⟩, ⟨(some 27), .iaddr 1 (.t 25) (.t 26), none, [3, 2, 4]⟩, ⟨(some 28), .load 1 false (.t 27), none, [5, 3, 2, 4]⟩, ⟨(some 29), .iaddr 2 (.t 23) (.t 28), none, [1, 0, 6, 5, 3, 2, 4]⟩, ⟨(some 30), .faddr 1 1 false (.t 29), none, [7, 1, 0, 6, 5, 3, 2, 4]⟩, ⟨(some 31), .load 1 false (.t 30), none, [8, 7, 1, 0, 6, 5, 3, 2, 4]⟩, ⟨(some 6), .mov (.t 31), none, [9, 8, 7, 1, 0, 6, 5, 3, 2, 4]⟩]) (
 .ret))), [.tmp 6]⟩
theorem F82_ok : compFun Tryz.prog Tryz.f82 3 [] = some F82 := by kernel_rfl
/-- roadbook/roadbooklaw04.Two -/
def F99 : SFun := ⟨0, 
 .seq (
 .region false [ ⟨(some 0), .alloc (.agg [.sl .full []]), none, []⟩, ⟨(some 1), .alloc (.agg [.sl .full []]), none, []⟩]) (
 .seq (
 .region false [ ⟨(some 2), .build [.int .i64 0, .int .i64 0] [(0, 1, (.c (.int .i64 2))), (1, 1, (.c (.int .i64 100)))], none, []⟩, ⟨(some 3), .build [.int .i64 0, .int .i64 0] [(0, 1, (.c (.int .i64 1))), (1, 1, (.c (.int .i64 10)))], none, []⟩, ⟨(some 4), .bslice 2 (.agg [.int .i64 0, .int .i64 0]) 2 [(0, (.t 2)), (1, (.t 3))], none, []⟩, ⟨(some 5), .build [.sl .full []] [(0, 1, (.t 4))], none, []⟩, ⟨(some 6), .build [.int .i64 0, .int .i64 0] [(1, 1, (.c (.int .i64 1)))], none, []⟩, ⟨(some 7), .build [.int .i64 0, .int .i64 0] [(1, 1, (.c (.int .i64 2)))], none, []⟩, ⟨(some 8), .bslice 2 (.agg [.int .i64 0, .int .i64 0]) 2 [(0, (.t 6)), (1, (.t 7))], none, []⟩, ⟨(some 9), .build [.int .i64 0, .int .i64 0] [(1, 1, (.c (.int .i64 3)))], none, []⟩, ⟨(some 10), .build [.int .i64 0, .int .i64 0] [(1, 1, (.c (.int .i64 4)))], none, []⟩, ⟨(some 11), .bslice 2 (.agg [.int .i64 0, .int .i64 0]) 2 [(0, (.t 9)), (1, (.t 10))], none, []⟩, ⟨(some 12), .bslice 1 (.sl .full []) 2 [(0, (.t 8)), (1, (.t 11))], none, []⟩, ⟨(some 13), .build [.int .i64 0, .int .i64 0] [(1, 1, (.c (.int .i64 4)))], none, []⟩, ⟨(some 14), .bslice 2 (.agg [.int .i64 0, .int .i64 0]) 1 [(0, (.t 13))], none, []⟩, ⟨(some 15), .bslice 1 (.sl .full []) 1 [(0, (.t 14))], none, []⟩, ⟨(some 16), .bslice 1 (.sl .full []) 2 [(0, (.t 12)), (1, (.t 15))], none, []⟩, ⟨(some 17), .build [.sl .full []] [(0, 1, (.t 16))], none, []⟩, ⟨none, .store 1 (.t 0) (.t 5), none, []⟩, ⟨none, .store 1 (.t 1) (.t 17), none, []⟩]) (
 .ret)), [.cell 0 1 true, .cell 1 1 true]⟩
theorem F99_ok : compFun Tryz.prog Tryz.f99 0 [] = some F99 := by kernel_rfl
/-- roadbook/tree.Text -/
def F100 : SFun := ⟨1, 
 .seq (
 .region false [ ⟨(some 1), .box (.t 0), none, []⟩, ⟨(some 2), .mov (.c (.str ⟨⟨[]⟩⟩)), none, []⟩]) (
 .seq (
 .seq (
 .region false [ ⟨(some 3), .load 2 true (.t 1), none, []⟩, ⟨(some 4), .call (.c (.fn (.func 63) [] [])) [(.t 3)], none, []⟩, ⟨(some 5), .un .not (.t 4), none, []⟩]) (
 .cond (.t 5) (
 .seq (
 .region false [ ⟨(some 2), .mov (.c (.str ⟨⟨[]⟩⟩)), none, []⟩]) (
 .ret)) (
 .skip))) (
 .seq (
 .region false [ ⟨(some 6), .load 2 true (.t 1), none, []⟩, ⟨(some 7), .call (.c (.fn (.func 184) [] [])) [(.t 6)], none, []⟩, ⟨(some 2), .mov (.t 7), none, []⟩]) (
 .ret))), [.tmp 2]⟩
theorem F100_ok : compFun Tryz.prog Tryz.f100 1 [] = some F100 := by kernel_rfl
/-- roadbook/plan.each -/
def F101 : SFun := ⟨2, 
 .seq (
 .region false [ ⟨(some 2), .box (.t 0), none, []⟩, ⟨(some 4), .mov (.c (.bool false)), none, []⟩]) (
 .seq (
 .seq (
 .region false [ ⟨(some 7), .mov (.t 1), none, []⟩, ⟨(some 8), .load 5 true (.t 2), none, []⟩, ⟨(some 9), .build [.int .i64 0, .int .i64 0, .int .i64 0, .int .i64 0, .sl .full []] [(0, 5, (.t 8))], none, []⟩, ⟨(some 10), .call (.t 7) [(.t 9)], none, []⟩, ⟨(some 11), .un .not (.t 10), none, []⟩]) (
 .cond (.t 11) (
 .seq (
 .region false [ ⟨(some 4), .mov (.c (.bool false)), none, []⟩]) (
 .ret)) (
 .skip))) (
 .seq (
 .seq (
 .region false [ ⟨(some 12), .faddr 4 1 false (.t 2), none, []⟩, ⟨(some 13), .load 1 false (.t 12), none, []⟩, ⟨(some 14), .len (.t 13), none, []⟩, ⟨(some 15), .mov (.c (.int .i64 0)), none, []⟩]) (
 .block 0 (
 .loop [1, 13, 14, 15] (
 .seq (
 .region false [ ⟨(some 16), .bin .lss (.t 15) (.t 14), none, []⟩]) (
 .seq (
 .cond (.t 16) (
 .skip) (
 .exit 0)) (
 .seq (
 .block 1 (
 .seq (
 .region false [ ⟨(some 17), .iaddr 5 (.t 13) (.t 15), none, []⟩, ⟨(some 18), .load 5 true (.t 17), none, []⟩, ⟨(some 6), .alloc (.agg [.int .i64 0, .int .i64 0, .int .i64 0, .int .i64 0, .sl .full []]), none, []⟩, ⟨none, .store 5 (.t 6) (.t 18), none, []⟩]) (
 .seq (
 .region false [ ⟨(some 19), .load 5 true (.t 6), none, []⟩, ⟨(some 20), .mov (.t 1), none, []⟩, ⟨(some 21), .call (.c (.fn (.func 101) [] [])) [(.t 19), (.t 20)], none, []⟩, ⟨(some 22), .un .not (.t 21), none, []⟩]) (
 .cond (.t 22) (
 .seq (
 .region false [ ⟨(some 4), .mov (.c (.bool false)), none, []⟩]) (
 .ret)) (
 .skip))))) (
 .region false [ ⟨(some 23), .bin .add (.t 15) (.c (.int .i64 1)), none, []⟩, ⟨(some 15), .mov (.t 23), none, []⟩]))))))) (
 .seq (
 .region false [ ⟨(some 4), .mov (.c (.bool true)), none, []⟩]) (
 .ret)))), [.tmp 4]⟩
theorem F101_ok : compFun Tryz.prog Tryz.f101 2 [[1, 13, 14, 15]] = some F101 := by kernel_rfl
/-- roadbook/plan.May$1 -/
def F102 : SFun := ⟨3, 
 .seq (
 .region false [ ⟨(some 3), .box (.t 0), none, []⟩, ⟨(some 4), .mov (.c (.bool false)), none, []⟩]) (
 .seq (
 .region false [ ⟨(some 5), .load 5 true (.t 3), none, []⟩, ⟨(some 6), .load 1 true (.t 1), none, []⟩, ⟨(some 7), .load 6 true (.t 2), none, []⟩, ⟨(some 8), .call (.c (.fn (.func 103) [] [])) [(.t 5), (.t 6), (.t 7)], none, []⟩, ⟨(some 4), .mov (.t 8), none, []⟩]) (
 .ret)), [.tmp 4]⟩
theorem F102_ok : compFun Tryz.prog Tryz.f102 3 [] = some F102 := by kernel_rfl
/-- (roadbook/plan.part).fits -/
def F103 : SFun := ⟨3, 
 .seq (
 .region false [ ⟨(some 3), .box (.t 0), none, []⟩, ⟨(some 4), .box (.t 1), none, []⟩, ⟨(some 5), .box (.t 2), none, []⟩, ⟨(some 6), .mov (.c (.bool false)), none, []⟩]) (
 .seq (
 .seq (
 .region false [ ⟨(some 10), .faddr 0 5 true (.t 3), none, []⟩, ⟨(some 11), .faddr 0 1 false (.t 10), none, []⟩, ⟨(some 12), .load 1 false (.t 11), none, []⟩]) (
 .block 0 (
 .seq (
 .seq (
 .region false [ ⟨(some 14), .bin .eql (.t 12) (.c (.int .i64 0)), none, []⟩, ⟨(some 13), .mov (.t 14), none, []⟩]) (
 .cond (.t 13) (
 .skip) (
 .region false [ ⟨(some 15), .bin .eql (.t 12) (.c (.int .i64 1)), none, []⟩, ⟨(some 13), .mov (.t 15), none, []⟩]))) (
 .cond (.t 13) (
 .seq (
 .region false [ ⟨(some 6), .mov (.c (.bool true)), none, []⟩]) (
 .ret)) (
 .seq (
 .region false [ ⟨(some 17), .bin .eql (.t 12) (.c (.int .i64 4)), none, []⟩, ⟨(some 16), .mov (.t 17), none, []⟩]) (
 .cond (.t 16) (
 .seq (
 .region true [ ⟨(some 18), .load 1 true (.t 4), none, []⟩, ⟨(some 19), .load 6 true (.t 5), none, []⟩, ⟨(some 20), .load 5 true (.t 3), none, []⟩, ⟨(some 21), .call (.c (.fn (.func 185) [] [])) [(.t 20)], none, [2]⟩, ⟨(some 22), .call (.c (.fn (.func 32) [] [])) [(.t 18), (.t 19), (.t 21)], none, [0, 1, 3, 2]⟩, ⟨(some 23), .faddr 0 5 true (.t 3), none, []⟩, ⟨(some 24), .faddr 2 2 true (.t 23), none, [5]⟩, ⟨(some 25), .iaddrA 2 1 false (.t 24) (.c (.int .i64 0)), none, [6, 5]⟩, ⟨(some 26), .load 1 false (.t 25), none, [7, 6, 5]⟩, ⟨(some 27), .call (.c (.fn (.func 137) [] [])) [(.t 22), (.t 26)], none, [4, 0, 1, 3, 2, 8, 7, 6, 5]⟩, ⟨(some 6), .mov (.t 27), none, [9, 4, 0, 1, 3, 2, 8, 7, 6, 5]⟩]) (
 .ret)) (
 .skip))))))) (
 .seq (
 .region true [ ⟨(some 28), .faddr 0 5 true (.t 3), none, []⟩, ⟨(some 29), .faddr 4 1 false (.t 28), none, [0]⟩, ⟨(some 30), .load 1 false (.t 29), none, [1, 0]⟩, ⟨(some 31), .iaddr 5 (.t 30) (.c (.int .i64 0)), none, [2, 1, 0]⟩, ⟨(some 32), .load 5 true (.t 31), none, [3, 2, 1, 0]⟩, ⟨(some 33), .build [.int .i64 0, .int .i64 0, .int .i64 0, .int .i64 0, .sl .full []] [(0, 5, (.t 32))], none, [4, 3, 2, 1, 0]⟩, ⟨(some 34), .faddr 0 5 true (.t 3), none, []⟩, ⟨(some 35), .faddr 4 1 false (.t 34), none, [6]⟩, ⟨(some 36), .load 1 false (.t 35), none, [7, 6]⟩, ⟨(some 37), .iaddr 5 (.t 36) (.c (.int .i64 1)), none, [8, 7, 6]⟩, ⟨(some 38), .load 5 true (.t 37), none, [9, 8, 7, 6]⟩, ⟨(some 39), .build [.int .i64 0, .int .i64 0, .int .i64 0, .int .i64 0, .sl .full []] [(0, 5, (.t 38))], none, [10, 9, 8, 7, 6]⟩, ⟨(some 7), .alloc (.agg [.int .i64 0, .int .i64 0, .int .i64 0, .int .i64 0, .sl .full []]), none, []⟩, ⟨(some 8), .alloc (.agg [.int .i64 0, .int .i64 0, .int .i64 0, .int .i64 0, .sl .full []]), none, []⟩, ⟨none, .store 5 (.t 7) (.t 33), none, [12, 5, 4, 3, 2, 1, 0, 13]⟩, ⟨none, .store 5 (.t 8) (.t 39), none, [13, 11, 10, 9, 8, 7, 6, 14, 12, 5, 4, 3, 2, 1, 0]⟩]) (
 .seq (
 .region true [ ⟨(some 40), .load 6 true (.t 5), none, []⟩, ⟨(some 41), .load 5 true (.t 7), none, []⟩, ⟨(some 42), .call (.c (.fn (.func 185) [] [])) [(.t 41)], none, [1]⟩, ⟨(some 43), .load 5 true (.t 8), none, []⟩, ⟨(some 44), .call (.c (.fn (.func 185) [] [])) [(.t 43)], none, [3, 2, 1]⟩, ⟨(some 45), .call (.c (.fn (.func 66) [] [])) [(.t 40), (.t 42), (.t 44)], none, [0, 2, 1, 4, 3]⟩, ⟨(some 46), .faddr 0 5 true (.t 3), none, []⟩, ⟨(some 47), .faddr 2 2 true (.t 46), none, [6]⟩, ⟨(some 48), .load 2 true (.t 47), none, [7, 6]⟩, ⟨(some 49), .call (.c (.fn (.func 186) [] [])) [(.t 45), (.t 48)], none, [5, 0, 2, 1, 4, 3, 8, 7, 6]⟩, ⟨(some 9), .mov (.t 49), none, [9, 5, 0, 2, 1, 4, 3, 8, 7, 6]⟩]) (
 .seq (
 .region true [ ⟨(some 50), .mov (.t 9), none, []⟩, ⟨(some 51), .mov (.t 50), none, [0]⟩, ⟨(some 52), .faddr 0 5 true (.t 3), (some (51, true)), [1, 0]⟩, ⟨(some 53), .faddr 0 1 false (.t 52), (some (51, true)), [2, 1, 0]⟩, ⟨(some 54), .load 1 false (.t 53), (some (51, true)), [3, 2, 1, 0]⟩, ⟨(some 55), .bin .eql (.t 54) (.c (.int .i64 2)), (some (51, true)), [4, 3, 2, 1, 0]⟩, ⟨(some 56), .mov (.t 55), (some (51, true)), [5, 4, 3, 2, 1, 0]⟩, ⟨(some 57), .faddr 0 5 true (.t 7), (some (56, false)), [6, 5, 4, 3, 2, 1, 0]⟩, ⟨(some 58), .load 5 true (.t 57), (some (56, false)), [7, 6, 5, 4, 3, 2, 1, 0]⟩, ⟨(some 59), .call (.c (.fn (.func 38) [] [])) [(.t 58)], (some (56, false)), [8, 7, 6, 5, 4, 3, 2, 1, 0]⟩, ⟨(some 60), .faddr 0 5 true (.t 3), (some (56, false)), [6, 5, 4, 3, 2, 1, 0]⟩, ⟨(some 61), .faddr 2 2 true (.t 60), (some (56, false)), [10, 6, 5, 4, 3, 2, 1, 0]⟩, ⟨(some 62), .iaddrA 2 1 false (.t 61) (.c (.int .i64 0)), (some (56, false)), [11, 10, 6, 5, 4, 3, 2, 1, 0]⟩, ⟨(some 63), .load 1 false (.t 62), (some (56, false)), [12, 11, 10, 6, 5, 4, 3, 2, 1, 0]⟩, ⟨(some 64), .bin .eql (.t 59) (.t 63), (some (56, false)), [9, 8, 7, 6, 5, 4, 3, 2, 1, 0, 13, 12, 11, 10]⟩, ⟨(some 65), .mov (.t 64), (some (56, false)), [14, 9, 8, 7, 6, 5, 4, 3, 2, 1, 0, 13, 12, 11, 10]⟩, ⟨(some 66), .faddr 0 5 true (.t 8), (some (65, true)), [15, 14, 9, 8, 7, 6, 5, 4, 3, 2, 1, 0, 13, 12, 11, 10]⟩, ⟨(some 67), .load 5 true (.t 66), (some (65, true)), [16, 15, 14, 9, 8, 7, 6, 5, 4, 3, 2, 1, 0, 13, 12, 11, 10]⟩, ⟨(some 68), .call (.c (.fn (.func 38) [] [])) [(.t 67)], (some (65, true)), [17, 16, 15, 14, 9, 8, 7, 6, 5, 4, 3, 2, 1, 0, 13, 12, 11, 10]⟩, ⟨(some 69), .faddr 0 5 true (.t 3), (some (65, true)), [15, 14, 9, 8, 7, 6, 5, 4, 3, 2, 1, 0, 13, 12, 11, 10]⟩, ⟨(some 70), .faddr 2 2 true (.t 69), (some (65, true)), [19, 15, 14, 9, 8, 7, 6, 5, 4, 3, 2, 1, 0, 13, 12, 11, 10]⟩, ⟨(some 71), .iaddrA 2 1 false (.t 70) (.c (.int .i64 1)), (some (65, true)), [20, 19, 15, 14, 9, 8, 7, 6, 5, 4, 3, 2, 1, 0, 13, 12, 11, 10]⟩, ⟨(some 72), .load 1 false (.t 71), (some (65, true)), [21, 20, 19, 15, 14, 9, 8, 7, 6, 5, 4, 3, 2, 1, 0, 13, 12, 11, 10]⟩, ⟨(some 73), .bin .eql (.t 68) (.t 72), (some (65, true)), [18, 17, 16, 15, 14, 9, 8, 7, 6, 5, 4, 3, 2, 1, 0, 13, 12, 11, 10, 22, 21, 20, 19]⟩, ⟨(some 74), .pick (.t 65) (.t 73) (.c (.bool false)), (some (56, false)), [15, 14, 9, 8, 7, 6, 5, 4, 3, 2, 1, 0, 13, 12, 11, 10, 23, 18, 17, 16, 22, 21, 20, 19]⟩, ⟨(some 75), .pick (.t 56) (.c (.bool true)) (.t 74), (some (51, true)), [6, 5, 4, 3, 2, 1, 0, 24, 15, 14, 9, 8, 7, 13, 12, 11, 10, 23, 18, 17, 16, 22, 21, 20, 19]⟩, ⟨(some 76), .pick (.t 51) (.t 75) (.c (.bool false)), none, [1, 0, 25, 6, 5, 4, 3, 2, 24, 15, 14, 9, 8, 7, 13, 12, 11, 10, 23, 18, 17, 16, 22, 21, 20, 19]⟩, ⟨(some 6), .mov (.t 76), none, [26, 1, 0, 25, 6, 5, 4, 3, 2, 24, 15, 14, 9, 8, 7, 13, 12, 11, 10, 23, 18, 17, 16, 22, 21, 20, 19]⟩]) (
 .ret))))), [.tmp 6]⟩
theorem F103_ok : compFun Tryz.prog Tryz.f103 3 [] = some F103 := by kernel_rfl
/-- roadbook/plan.treeOf -/
def F104 : SFun := ⟨1, 
 .seq (
 .region false [ ⟨(some 1), .box (.t 0), none, []⟩, ⟨(some 2), .alloc (.agg [.int .i64 0, .sl .full []]), none, []⟩]) (
 .seq (
 .seq (
 .region false [ ⟨(some 3), .faddr 0 1 false (.t 1), none, []⟩, ⟨(some 4), .load 1 false (.t 3), none, []⟩]) (
 .block 0 (
 .seq (
 .region false [ ⟨(some 6), .bin .eql (.t 4) (.c (.int .i64 0)), none, []⟩, ⟨(some 5), .mov (.t 6), none, []⟩]) (
 .cond (.t 5) (
 .seq (
 .region false [ ⟨(some 7), .faddr 1 1 false (.t 1), none, []⟩, ⟨(some 8), .load 1 false (.t 7), none, []⟩, ⟨(some 9), .call (.c (.fn (.func 161) [] [])) [(.t 8)], none, []⟩, ⟨none, .store 2 (.t 2) (.t 9), none, []⟩]) (
 .ret)) (
 .seq (
 .region false [ ⟨(some 11), .bin .eql (.t 4) (.c (.int .i64 4)), none, []⟩, ⟨(some 10), .mov (.t 11), none, []⟩]) (
 .cond (.t 10) (
 .seq (
 .region false [ ⟨(some 12), .faddr 4 1 false (.t 1), none, []⟩, ⟨(some 13), .load 1 false (.t 12), none, []⟩, ⟨(some 14), .iaddr 5 (.t 13) (.c (.int .i64 0)), none, []⟩, ⟨(some 15), .load 5 true (.t 14), none, []⟩, ⟨(some 16), .call (.c (.fn (.func 104) [] [])) [(.t 15)], none, []⟩, ⟨none, .store 2 (.t 2) (.t 16), none, []⟩]) (
 .ret)) (
 .skip))))))) (
 .seq (
 .region true [ ⟨(some 17), .faddr 4 1 false (.t 1), none, []⟩, ⟨(some 18), .load 1 false (.t 17), none, [0]⟩, ⟨(some 19), .iaddr 5 (.t 18) (.c (.int .i64 0)), none, [1, 0]⟩, ⟨(some 20), .load 5 true (.t 19), none, [2, 1, 0]⟩, ⟨(some 21), .call (.c (.fn (.func 104) [] [])) [(.t 20)], none, [3, 2, 1, 0]⟩, ⟨(some 22), .faddr 4 1 false (.t 1), none, []⟩, ⟨(some 23), .load 1 false (.t 22), none, [5]⟩, ⟨(some 24), .iaddr 5 (.t 23) (.c (.int .i64 1)), none, [6, 5]⟩, ⟨(some 25), .load 5 true (.t 24), none, [7, 6, 5]⟩, ⟨(some 26), .call (.c (.fn (.func 104) [] [])) [(.t 25)], none, [8, 7, 6, 5, 4, 3, 2, 1, 0]⟩, ⟨(some 27), .call (.c (.fn (.func 64) [] [])) [(.t 21), (.t 26)], none, [4, 3, 2, 1, 0, 9, 8, 7, 6, 5]⟩, ⟨none, .store 2 (.t 2) (.t 27), none, [10, 4, 3, 2, 1, 0, 9, 8, 7, 6, 5]⟩]) (
 .ret))), [.cell 2 2 true]⟩
theorem F104_ok : compFun Tryz.prog Tryz.f104 1 [] = some F104 := by kernel_rfl
/-- roadbook/plan.Few$1 -/
def F105 : SFun := ⟨2, 
 .seq (
 .region false [ ⟨(some 2), .box (.t 0), none, []⟩, ⟨(some 3), .mov (.c (.bool false)), none, []⟩]) (
 .seq (
 .region false [ ⟨(some 4), .load 1 false (.t 1), none, []⟩, ⟨(some 5), .bin .add (.t 4) (.c (.int .i64 1)), none, []⟩, ⟨none, .store 1 (.t 1) (.t 5), none, []⟩]) (
 .seq (
 .region false [ ⟨(some 6), .load 1 false (.t 1), none, []⟩, ⟨(some 7), .bin .leq (.t 6) (.c (.int .i64 20)), none, []⟩, ⟨(some 8), .mov (.t 7), none, []⟩, ⟨(some 9), .load 5 true (.t 2), (some (8, true)), []⟩, ⟨(some 10), .call (.c (.fn (.func 106) [] [])) [(.t 9)], (some (8, true)), []⟩, ⟨(some 11), .pick (.t 8) (.t 10) (.c (.bool false)), none, []⟩, ⟨(some 3), .mov (.t 11), none, []⟩]) (
 .ret))), [.tmp 3]⟩
theorem F105_ok : compFun Tryz.prog Tryz.f105 2 [] = some F105 := by kernel_rfl
/-- (roadbook/plan.part).form -/
def F106 : SFun := ⟨1, 
 .seq (
 .region false [ ⟨(some 1), .box (.t 0), none, []⟩, ⟨(some 2), .mov (.c (.bool false)), none, []⟩]) (
 .seq (
 .region false [ ⟨(some 5), .faddr 0 5 true (.t 1), none, []⟩, ⟨(some 6), .faddr 0 1 false (.t 5), none, []⟩, ⟨(some 7), .load 1 false (.t 6), none, []⟩, ⟨(some 8), .bin .eql (.t 7) (.c (.int .i64 0)), none, []⟩, ⟨(some 9), .mov (.t 8), none, []⟩, ⟨(some 10), .faddr 0 5 true (.t 1), (some (9, false)), []⟩, ⟨(some 11), .faddr 1 1 false (.t 10), (some (9, false)), []⟩, ⟨(some 12), .load 1 false (.t 11), (some (9, false)), []⟩, ⟨(some 13), .bin .eql (.t 12) (.c (.int .i64 0)), (some (9, false)), []⟩, ⟨(some 14), .pick (.t 9) (.c (.bool true)) (.t 13), none, []⟩, ⟨(some 3), .mov (.t 14), none, []⟩]) (
 .seq (
 .region false [ ⟨(some 15), .faddr 0 5 true (.t 1), none, []⟩, ⟨(some 16), .faddr 2 2 true (.t 15), none, []⟩, ⟨(some 17), .load 2 true (.t 16), none, []⟩, ⟨(some 18), .build [.int .i64 0, .int .i64 0] [], none, []⟩, ⟨(some 19), .eqa false [true, true] (.t 17) (.t 18), none, []⟩, ⟨(some 20), .mov (.t 19), none, []⟩, ⟨(some 21), .faddr 0 5 true (.t 1), (some (20, false)), []⟩, ⟨(some 22), .faddr 0 1 false (.t 21), (some (20, false)), []⟩, ⟨(some 23), .load 1 false (.t 22), (some (20, false)), []⟩, ⟨(some 24), .bin .eql (.t 23) (.c (.int .i64 2)), (some (20, false)), []⟩, ⟨(some 25), .pick (.t 20) (.c (.bool true)) (.t 24), none, []⟩, ⟨(some 26), .mov (.t 25), none, []⟩, ⟨(some 27), .faddr 0 5 true (.t 1), (some (26, false)), []⟩, ⟨(some 28), .faddr 0 1 false (.t 27), (some (26, false)), []⟩, ⟨(some 29), .load 1 false (.t 28), (some (26, false)), []⟩, ⟨(some 30), .bin .eql (.t 29) (.c (.int .i64 3)), (some (26, false)), []⟩, ⟨(some 31), .pick (.t 26) (.c (.bool true)) (.t 30), none, []⟩, ⟨(some 32), .mov (.t 31), none, []⟩, ⟨(some 33), .faddr 0 5 true (.t 1), (some (32, false)), []⟩, ⟨(some 34), .faddr 0 1 false (.t 33), (some (32, false)), []⟩, ⟨(some 35), .load 1 false (.t 34), (some (32, false)), []⟩, ⟨(some 36), .bin .eql (.t 35) (.c (.int .i64 4)), (some (32, false)), []⟩, ⟨(some 37), .mov (.t 36), (some (32, false)), []⟩, ⟨(some 38), .faddr 0 5 true (.t 1), (some (37, true)), []⟩, ⟨(some 39), .faddr 2 2 true (.t 38), (some (37, true)), []⟩, ⟨(some 40), .iaddrA 2 1 false (.t 39) (.c (.int .i64 1)), (some (37, true)), []⟩, ⟨(some 41), .load 1 false (.t 40), (some (37, true)), []⟩, ⟨(some 42), .bin .eql (.t 41) (.c (.int .i64 0)), (some (37, true)), []⟩, ⟨(some 43), .pick (.t 37) (.t 42) (.c (.bool false)), (some (32, false)), []⟩, ⟨(some 44), .pick (.t 32) (.c (.bool true)) (.t 43), none, []⟩, ⟨(some 4), .mov (.t 44), none, []⟩]) (
 .seq (
 .region true [ ⟨(some 45), .faddr 0 5 true (.t 1), none, []⟩, ⟨(some 46), .faddr 0 1 false (.t 45), none, [0]⟩, ⟨(some 47), .load 1 false (.t 46), none, [1, 0]⟩, ⟨(some 48), .bin .geq (.t 47) (.c (.int .i64 0)), none, [2, 1, 0]⟩, ⟨(some 49), .mov (.t 48), none, [3, 2, 1, 0]⟩, ⟨(some 50), .faddr 0 5 true (.t 1), (some (49, true)), [4, 3, 2, 1, 0]⟩, ⟨(some 51), .faddr 0 1 false (.t 50), (some (49, true)), [5, 4, 3, 2, 1, 0]⟩, ⟨(some 52), .load 1 false (.t 51), (some (49, true)), [6, 5, 4, 3, 2, 1, 0]⟩, ⟨(some 53), .bin .lss (.t 52) (.c (.int .i64 5)), (some (49, true)), [7, 6, 5, 4, 3, 2, 1, 0]⟩, ⟨(some 54), .pick (.t 49) (.t 53) (.c (.bool false)), none, [4, 3, 2, 1, 0, 8, 7, 6, 5]⟩, ⟨(some 55), .mov (.t 54), none, [9, 4, 3, 2, 1, 0, 8, 7, 6, 5]⟩, ⟨(some 56), .faddr 0 5 true (.t 1), (some (55, true)), [10, 9, 4, 3, 2, 1, 0, 8, 7, 6, 5]⟩, ⟨(some 57), .faddr 4 1 false (.t 56), (some (55, true)), [11, 10, 9, 4, 3, 2, 1, 0, 8, 7, 6, 5]⟩, ⟨(some 58), .load 1 false (.t 57), (some (55, true)), [12, 11, 10, 9, 4, 3, 2, 1, 0, 8, 7, 6, 5]⟩, ⟨(some 59), .len (.t 58), (some (55, true)), [13, 12, 11, 10, 9, 4, 3, 2, 1, 0, 8, 7, 6, 5]⟩, ⟨(some 60), .load 5 true (.t 1), (some (55, true)), [10, 9, 4, 3, 2, 1, 0, 8, 7, 6, 5]⟩, ⟨(some 61), .call (.c (.fn (.func 187) [] [])) [(.t 60)], (some (55, true)), [15, 10, 9, 4, 3, 2, 1, 0, 8, 7, 6, 5]⟩, ⟨(some 62), .bin .eql (.t 59) (.t 61), (some (55, true)), [14, 13, 12, 11, 10, 9, 4, 3, 2, 1, 0, 8, 7, 6, 5, 16, 15]⟩, ⟨(some 63), .pick (.t 55) (.t 62) (.c (.bool false)), none, [10, 9, 4, 3, 2, 1, 0, 8, 7, 6, 5, 17, 14, 13, 12, 11, 16, 15]⟩, ⟨(some 64), .mov (.t 63), none, [18, 10, 9, 4, 3, 2, 1, 0, 8, 7, 6, 5, 17, 14, 13, 12, 11, 16, 15]⟩, ⟨(some 65), .mov (.t 3), (some (64, true)), [19, 18, 10, 9, 4, 3, 2, 1, 0, 8, 7, 6, 5, 17, 14, 13, 12, 11, 16, 15]⟩, ⟨(some 66), .pick (.t 64) (.t 65) (.c (.bool false)), none, [19, 18, 10, 9, 4, 3, 2, 1, 0, 8, 7, 6, 5, 17, 14, 13, 12, 11, 16, 15, 20]⟩, ⟨(some 67), .mov (.t 66), none, [21, 19, 18, 10, 9, 4, 3, 2, 1, 0, 8, 7, 6, 5, 17, 14, 13, 12, 11, 16, 15, 20]⟩, ⟨(some 68), .mov (.t 4), (some (67, true)), [22, 21, 19, 18, 10, 9, 4, 3, 2, 1, 0, 8, 7, 6, 5, 17, 14, 13, 12, 11, 16, 15, 20]⟩, ⟨(some 69), .pick (.t 67) (.t 68) (.c (.bool false)), none, [22, 21, 19, 18, 10, 9, 4, 3, 2, 1, 0, 8, 7, 6, 5, 17, 14, 13, 12, 11, 16, 15, 20, 23]⟩, ⟨(some 2), .mov (.t 69), none, [24, 22, 21, 19, 18, 10, 9, 4, 3, 2, 1, 0, 8, 7, 6, 5, 17, 14, 13, 12, 11, 16, 15, 20, 23]⟩]) (
 .ret)))), [.tmp 2]⟩
theorem F106_ok : compFun Tryz.prog Tryz.f106 1 [] = some F106 := by kernel_rfl
/-- roadbook/query.all -/
def F107 : SFun := ⟨3, 
 .seq (
 .region false [ ⟨(some 3), .box (.t 0), none, []⟩, ⟨(some 4), .box (.t 1), none, []⟩, ⟨(some 6), .mov (.c (.sl .full [])), none, []⟩]) (
 .seq (
 .region false [ ⟨(some 7), .mov (.c (.sl .full [])), none, []⟩]) (
 .seq (
 .seq (
 .region false [ ⟨(some 11), .faddr 0 1 false (.t 4), none, []⟩, ⟨(some 12), .load 1 false (.t 11), none, []⟩, ⟨(some 13), .len (.t 12), none, []⟩, ⟨(some 14), .mx false (.t 13) (.c (.int .i64 4)), none, []⟩, ⟨(some 15), .mov (.c (.int .i64 0)), none, []⟩]) (
 .block 0 (
 .loop [2, 3, 4, 7, 14, 15] (
 .seq (
 .region false [ ⟨(some 16), .bin .lss (.t 15) (.t 14), none, []⟩]) (
 .seq (
 .cond (.t 16) (
 .skip) (
 .exit 0)) (
 .seq (
 .block 1 (
 .seq (
 .region false [ ⟨(some 17), .mov (.t 15), none, []⟩, ⟨(some 8), .mov (.t 17), none, []⟩]) (
 .seq (
 .region false [ ⟨(some 18), .faddr 0 1 false (.t 4), none, []⟩, ⟨(some 19), .load 1 false (.t 18), none, []⟩, ⟨(some 20), .mov (.t 8), none, []⟩, ⟨(some 21), .iaddr 1 (.t 19) (.t 20), none, []⟩, ⟨(some 22), .load 1 false (.t 21), none, []⟩, ⟨(some 9), .mov (.t 22), none, []⟩]) (
 .seq (
 .seq (
 .region false [ ⟨(some 23), .mov (.t 2), none, []⟩, ⟨(some 24), .mov (.t 8), none, []⟩, ⟨(some 25), .call (.t 23) [(.t 24)], none, []⟩, ⟨(some 26), .un .not (.t 25), none, []⟩, ⟨(some 27), .mov (.t 26), none, []⟩, ⟨(some 28), .mov (.t 9), (some (27, false)), []⟩, ⟨(some 29), .bin .lss (.t 28) (.c (.int .i64 0)), (some (27, false)), []⟩, ⟨(some 30), .pick (.t 27) (.c (.bool true)) (.t 29), none, []⟩, ⟨(some 31), .mov (.t 30), none, []⟩, ⟨(some 32), .mov (.t 9), (some (31, false)), []⟩, ⟨(some 33), .faddr 0 1 false (.t 3), (some (31, false)), []⟩, ⟨(some 34), .load 1 false (.t 33), (some (31, false)), []⟩, ⟨(some 35), .len (.t 34), (some (31, false)), []⟩, ⟨(some 36), .bin .geq (.t 32) (.t 35), (some (31, false)), []⟩, ⟨(some 37), .pick (.t 31) (.c (.bool true)) (.t 36), none, []⟩]) (
 .cond (.t 37) (
 .exit 1) (
 .skip))) (
 .seq (
 .region false [ ⟨(some 38), .faddr 0 1 false (.t 3), none, []⟩, ⟨(some 39), .load 1 false (.t 38), none, []⟩, ⟨(some 40), .mov (.t 9), none, []⟩, ⟨(some 41), .iaddr 2 (.t 39) (.t 40), none, []⟩, ⟨(some 42), .faddr 0 1 false (.t 41), none, []⟩, ⟨(some 43), .load 1 false (.t 42), none, []⟩, ⟨(some 44), .mov (.c (.int .i64 0)), none, []⟩]) (
 .block 2 (
 .loop [2, 3, 4, 7, 8, 14, 15, 43, 44] (
 .seq (
 .region false [ ⟨(some 45), .bin .lss (.t 44) (.t 43), none, []⟩]) (
 .seq (
 .cond (.t 45) (
 .skip) (
 .exit 2)) (
 .seq (
 .block 3 (
 .seq (
 .region false [ ⟨(some 46), .mov (.t 44), none, []⟩, ⟨(some 10), .mov (.t 46), none, []⟩]) (
 .region false [ ⟨(some 47), .mov (.t 7), none, []⟩, ⟨(some 48), .mov (.t 8), none, []⟩, ⟨(some 49), .mov (.t 10), none, []⟩, ⟨(some 50), .call (.c (.fn (.func 188) [] [])) [(.t 48), (.t 49)], none, []⟩, ⟨(some 51), .bslice 1 (.int .i64 0) 1 [(0, (.t 50))], none, []⟩, ⟨(some 52), .append 3 1 8 (.t 47) (.t 51), none, []⟩, ⟨(some 7), .mov (.t 52), none, []⟩]))) (
 .region false [ ⟨(some 53), .bin .add (.t 44) (.c (.int .i64 1)), none, []⟩, ⟨(some 44), .mov (.t 53), none, []⟩]))))))))))) (
 .region false [ ⟨(some 54), .bin .add (.t 15) (.c (.int .i64 1)), none, []⟩, ⟨(some 15), .mov (.t 54), none, []⟩]))))))) (
 .seq (
 .region false [ ⟨(some 55), .mov (.t 7), none, []⟩, ⟨(some 6), .mov (.t 55), none, []⟩]) (
 .ret)))), [.tmp 6]⟩
theorem F107_ok : compFun Tryz.prog Tryz.f107 3 [[2, 3, 4, 7, 14, 15], [2, 3, 4, 7, 8, 14, 15, 43, 44]] = some F107 := by kernel_rfl
/-- (roadbook/query.set).has -/
def F108 : SFun := ⟨2, 
 .seq (
 .region false [ ⟨(some 4), .mov (.c (.bool false)), none, []⟩]) (
 .seq (
 .region false [ ⟨(some 5), .mov (.t 0), none, []⟩, ⟨(some 6), .mov (.t 1), none, []⟩, ⟨(some 7), .bin .shr (.t 5) (.t 6), none, []⟩, ⟨(some 8), .bin .and (.t 7) (.c (.int .i64 1)), none, []⟩, ⟨(some 9), .bin .eql (.t 8) (.c (.int .i64 1)), none, []⟩, ⟨(some 4), .mov (.t 9), none, []⟩]) (
 .ret)), [.tmp 4]⟩
theorem F108_ok : compFun Tryz.prog Tryz.f108 2 [] = some F108 := by kernel_rfl
/-- roadbook/tree.set -/
def F109 : SFun := ⟨2, 
 .seq (
 .region false [ ⟨(some 2), .box (.t 0), none, []⟩, ⟨(some 4), .mov (.c (.int .i64 0)), none, []⟩, ⟨(some 5), .mov (.c (.bool false)), none, []⟩]) (
 .seq (
 .block 0 (
 .seq (
 .seq (
 .region false [ ⟨(some 12), .mov (.t 1), none, []⟩, ⟨(some 13), .bin .eql (.t 12) (.c (.int .i64 0)), none, []⟩, ⟨(some 11), .mov (.t 13), none, []⟩]) (
 .cond (.t 11) (
 .skip) (
 .seq (
 .region false [ ⟨(some 14), .faddr 1 1 false (.t 2), none, []⟩, ⟨(some 15), .load 1 false (.t 14), none, []⟩, ⟨(some 16), .len (.t 15), none, []⟩, ⟨(some 17), .bin .neq (.t 16) (.c (.int .i64 0)), none, []⟩, ⟨(some 18), .mov (.t 17), none, []⟩, ⟨(some 19), .faddr 1 1 false (.t 2), (some (18, true)), []⟩, ⟨(some 20), .load 1 false (.t 19), (some (18, true)), []⟩, ⟨(some 21), .len (.t 20), (some (18, true)), []⟩, ⟨(some 22), .bin .neq (.t 21) (.c (.int .i64 2)), (some (18, true)), []⟩, ⟨(some 23), .pick (.t 18) (.t 22) (.c (.bool false)), none, []⟩, ⟨(some 11), .mov (.t 23), none, []⟩]) (
 .cond (.t 11) (
 .skip) (
 .region false [ ⟨(some 24), .faddr 1 1 false (.t 2), none, []⟩, ⟨(some 25), .load 1 false (.t 24), none, []⟩, ⟨(some 26), .len (.t 25), none, []⟩, ⟨(some 27), .bin .eql (.t 26) (.c (.int .i64 2)), none, []⟩, ⟨(some 28), .mov (.t 27), none, []⟩, ⟨(some 29), .faddr 0 1 false (.t 2), (some (28, true)), []⟩, ⟨(some 30), .load 1 false (.t 29), (some (28, true)), []⟩, ⟨(some 31), .bin .neq (.t 30) (.c (.int .i64 0)), (some (28, true)), []⟩, ⟨(some 32), .pick (.t 28) (.t 31) (.c (.bool false)), none, []⟩, ⟨(some 11), .mov (.t 32), none, []⟩]))))) (
 .cond (.t 11) (
 .seq (
 .region false [ ⟨(some 4), .mov (.c (.int .i64 0)), none, []⟩, ⟨(some 5), .mov (.c (.bool false)), none, []⟩]) (
 .ret)) (
 .seq (
 .region false [ ⟨(some 34), .faddr 1 1 false (.t 2), none, []⟩, ⟨(some 35), .load 1 false (.t 34), none, []⟩, ⟨(some 36), .len (.t 35), none, []⟩, ⟨(some 37), .bin .eql (.t 36) (.c (.int .i64 0)), none, []⟩, ⟨(some 33), .mov (.t 37), none, []⟩]) (
 .cond (.t 33) (
 .seq (
 .region false [ ⟨(some 38), .faddr 0 1 false (.t 2), none, []⟩, ⟨(some 39), .load 1 false (.t 38), none, []⟩, ⟨(some 40), .bin .geq (.t 39) (.c (.int .i64 0)), none, []⟩, ⟨(some 41), .mov (.t 40), none, []⟩, ⟨(some 42), .faddr 0 1 false (.t 2), (some (41, true)), []⟩, ⟨(some 43), .load 1 false (.t 42), (some (41, true)), []⟩, ⟨(some 44), .bin .lss (.t 43) (.c (.int .i64 4)), (some (41, true)), []⟩, ⟨(some 45), .pick (.t 41) (.t 44) (.c (.bool false)), none, []⟩, ⟨(some 6), .mov (.t 45), none, []⟩]) (
 .seq (
 .region false [ ⟨(some 46), .faddr 0 1 false (.t 2), none, []⟩, ⟨(some 47), .load 1 false (.t 46), none, []⟩, ⟨(some 48), .bin .rem (.t 47) (.c (.int .i64 4)), none, []⟩, ⟨(some 49), .mx true (.t 48) (.c (.int .i64 0)), none, []⟩, ⟨(some 50), .bin .shl (.c (.int .i64 1)) (.t 49), none, []⟩, ⟨(some 51), .mov (.t 6), none, []⟩, ⟨(some 4), .mov (.t 50), none, []⟩, ⟨(some 5), .mov (.t 51), none, []⟩]) (
 .ret))) (
 .skip)))))) (
 .seq (
 .region false [ ⟨(some 53), .faddr 1 1 false (.t 2), none, []⟩, ⟨(some 54), .load 1 false (.t 53), none, []⟩, ⟨(some 55), .iaddr 2 (.t 54) (.c (.int .i64 0)), none, []⟩, ⟨(some 56), .load 2 true (.t 55), none, []⟩, ⟨(some 57), .mov (.t 1), none, []⟩, ⟨(some 58), .bin .sub (.t 57) (.c (.int .i64 1)), none, []⟩, ⟨(some 59), .call (.c (.fn (.func 109) [] [])) [(.t 56), (.t 58)], none, []⟩, ⟨(some 52), .mov (.t 59), none, []⟩, ⟨(some 60), .ext (.t 52) 0, none, []⟩, ⟨(some 61), .ext (.t 52) 1, none, []⟩, ⟨(some 7), .mov (.t 60), none, []⟩, ⟨(some 8), .mov (.t 61), none, []⟩]) (
 .seq (
 .region false [ ⟨(some 63), .faddr 1 1 false (.t 2), none, []⟩, ⟨(some 64), .load 1 false (.t 63), none, []⟩, ⟨(some 65), .iaddr 2 (.t 64) (.c (.int .i64 1)), none, []⟩, ⟨(some 66), .load 2 true (.t 65), none, []⟩, ⟨(some 67), .mov (.t 1), none, []⟩, ⟨(some 68), .bin .sub (.t 67) (.c (.int .i64 1)), none, []⟩, ⟨(some 69), .call (.c (.fn (.func 109) [] [])) [(.t 66), (.t 68)], none, []⟩, ⟨(some 62), .mov (.t 69), none, []⟩, ⟨(some 70), .ext (.t 62) 0, none, []⟩, ⟨(some 71), .ext (.t 62) 1, none, []⟩, ⟨(some 9), .mov (.t 70), none, []⟩, ⟨(some 10), .mov (.t 71), none, []⟩]) (
 .seq (
 .region false [ ⟨(some 72), .mov (.t 7), none, []⟩, ⟨(some 73), .mov (.t 9), none, []⟩, ⟨(some 74), .bin .or (.t 72) (.t 73), none, []⟩, ⟨(some 75), .mov (.t 8), none, []⟩, ⟨(some 76), .mov (.t 75), none, []⟩, ⟨(some 77), .mov (.t 10), (some (76, true)), []⟩, ⟨(some 78), .pick (.t 76) (.t 77) (.c (.bool false)), none, []⟩, ⟨(some 79), .mov (.t 78), none, []⟩, ⟨(some 80), .mov (.t 7), (some (79, true)), []⟩, ⟨(some 81), .mov (.t 9), (some (79, true)), []⟩, ⟨(some 82), .bin .and (.t 80) (.t 81), (some (79, true)), []⟩, ⟨(some 83), .bin .eql (.t 82) (.c (.int .i64 0)), (some (79, true)), []⟩, ⟨(some 84), .pick (.t 79) (.t 83) (.c (.bool false)), none, []⟩, ⟨(some 4), .mov (.t 74), none, []⟩, ⟨(some 5), .mov (.t 84), none, []⟩]) (
 .ret))))), [.tmp 4, .tmp 5]⟩
theorem F109_ok : compFun Tryz.prog Tryz.f109 2 [] = some F109 := by kernel_rfl
/-- roadbook/plan.Cost$1 -/
def F110 : SFun := ⟨4, 
 .seq (
 .region false [ ⟨(some 4), .box (.t 0), none, []⟩, ⟨(some 5), .mov (.c (.bool false)), none, []⟩]) (
 .seq (
 .region true [ ⟨(some 6), .load 1 false (.t 1), none, []⟩, ⟨(some 7), .load 5 true (.t 4), none, []⟩, ⟨(some 8), .load 1 true (.t 2), none, []⟩, ⟨(some 9), .load 6 true (.t 3), none, []⟩, ⟨(some 10), .call (.c (.fn (.func 111) [] [])) [(.t 7), (.t 8), (.t 9)], none, [1, 2, 3]⟩, ⟨(some 11), .bslice 1 (.int .i64 0) 1 [(0, (.t 10))], none, [4, 1, 2, 3]⟩, ⟨(some 12), .append 3 1 8 (.t 6) (.t 11), none, [0, 5, 4, 1, 2, 3]⟩, ⟨none, .store 1 (.t 1) (.t 12), none, [6, 0, 5, 4, 1, 2, 3]⟩]) (
 .seq (
 .region false [ ⟨(some 5), .mov (.c (.bool true)), none, []⟩]) (
 .ret))), [.tmp 5]⟩
theorem F110_ok : compFun Tryz.prog Tryz.f110 4 [] = some F110 := by kernel_rfl
/-- (roadbook/plan.part).cost -/
def F111 : SFun := ⟨3, 
 .seq (
 .region false [ ⟨(some 3), .box (.t 0), none, []⟩, ⟨(some 4), .box (.t 1), none, []⟩, ⟨(some 5), .box (.t 2), none, []⟩, ⟨(some 6), .mov (.c (.int .i64 0)), none, []⟩]) (
 .seq (
 .seq (
 .region false [ ⟨(some 9), .faddr 0 5 true (.t 3), none, []⟩, ⟨(some 10), .faddr 0 1 false (.t 9), none, []⟩, ⟨(some 11), .load 1 false (.t 10), none, []⟩]) (
 .block 0 (
 .seq (
 .region false [ ⟨(some 13), .bin .eql (.t 11) (.c (.int .i64 0)), none, []⟩, ⟨(some 12), .mov (.t 13), none, []⟩]) (
 .cond (.t 12) (
 .seq (
 .region false [ ⟨(some 14), .load 1 true (.t 4), none, []⟩, ⟨(some 15), .load 6 true (.t 5), none, []⟩, ⟨(some 16), .faddr 0 5 true (.t 3), none, []⟩, ⟨(some 17), .faddr 1 1 false (.t 16), none, []⟩, ⟨(some 18), .load 1 false (.t 17), none, []⟩, ⟨(some 19), .call (.c (.fn (.func 82) [] [])) [(.t 14), (.t 15), (.t 18)], none, []⟩, ⟨(some 20), .call (.c (.fn (.func 189) [] [])) [(.t 19)], none, []⟩, ⟨(some 6), .mov (.t 20), none, []⟩]) (
 .ret)) (
 .seq (
 .region false [ ⟨(some 22), .bin .eql (.t 11) (.c (.int .i64 4)), none, []⟩, ⟨(some 21), .mov (.t 22), none, []⟩]) (
 .cond (.t 21) (
 .seq (
 .region true [ ⟨(some 23), .load 1 true (.t 4), none, []⟩, ⟨(some 24), .load 6 true (.t 5), none, []⟩, ⟨(some 25), .load 5 true (.t 3), none, []⟩, ⟨(some 26), .call (.c (.fn (.func 185) [] [])) [(.t 25)], none, [2]⟩, ⟨(some 27), .call (.c (.fn (.func 37) [] [])) [(.t 23), (.t 24), (.t 26)], none, [0, 1, 3, 2]⟩, ⟨(some 28), .call (.c (.fn (.func 36) [] [])) [(.t 27)], none, [4, 0, 1, 3, 2]⟩, ⟨(some 6), .mov (.t 28), none, [5, 4, 0, 1, 3, 2]⟩]) (
 .ret)) (
 .skip))))))) (
 .seq (
 .region true [ ⟨(some 29), .faddr 0 5 true (.t 3), none, []⟩, ⟨(some 30), .faddr 4 1 false (.t 29), none, [0]⟩, ⟨(some 31), .load 1 false (.t 30), none, [1, 0]⟩, ⟨(some 32), .iaddr 5 (.t 31) (.c (.int .i64 0)), none, [2, 1, 0]⟩, ⟨(some 33), .load 5 true (.t 32), none, [3, 2, 1, 0]⟩, ⟨(some 34), .build [.int .i64 0, .int .i64 0, .int .i64 0, .int .i64 0, .sl .full []] [(0, 5, (.t 33))], none, [4, 3, 2, 1, 0]⟩, ⟨(some 35), .faddr 0 5 true (.t 3), none, []⟩, ⟨(some 36), .faddr 4 1 false (.t 35), none, [6]⟩, ⟨(some 37), .load 1 false (.t 36), none, [7, 6]⟩, ⟨(some 38), .iaddr 5 (.t 37) (.c (.int .i64 1)), none, [8, 7, 6]⟩, ⟨(some 39), .load 5 true (.t 38), none, [9, 8, 7, 6]⟩, ⟨(some 40), .build [.int .i64 0, .int .i64 0, .int .i64 0, .int .i64 0, .sl .full []] [(0, 5, (.t 39))], none, [10, 9, 8, 7, 6]⟩, ⟨(some 7), .alloc (.agg [.int .i64 0, .int .i64 0, .int .i64 0, .int .i64 0, .sl .full []]), none, []⟩, ⟨(some 8), .alloc (.agg [.int .i64 0, .int .i64 0, .int .i64 0, .int .i64 0, .sl .full []]), none, []⟩, ⟨none, .store 5 (.t 7) (.t 34), none, [12, 5, 4, 3, 2, 1, 0, 13]⟩, ⟨none, .store 5 (.t 8) (.t 40), none, [13, 11, 10, 9, 8, 7, 6, 14, 12, 5, 4, 3, 2, 1, 0]⟩]) (
 .seq (
 .region true [ ⟨(some 41), .faddr 0 5 true (.t 3), none, []⟩, ⟨(some 42), .faddr 0 1 false (.t 41), none, [0]⟩, ⟨(some 43), .load 1 false (.t 42), none, [1, 0]⟩, ⟨(some 44), .call (.c (.fn (.func 190) [] [])) [(.t 43)], none, [2, 1, 0]⟩, ⟨(some 45), .fld 0 1 false (.t 44), none, [3, 2, 1, 0]⟩, ⟨(some 46), .load 1 true (.t 4), none, []⟩, ⟨(some 47), .load 6 true (.t 5), none, []⟩, ⟨(some 48), .load 5 true (.t 7), none, []⟩, ⟨(some 49), .call (.c (.fn (.func 185) [] [])) [(.t 48)], none, [7, 3, 2, 1, 0]⟩, ⟨(some 50), .call (.c (.fn (.func 37) [] [])) [(.t 46), (.t 47), (.t 49)], none, [5, 6, 8, 7, 3, 2, 1, 0]⟩, ⟨(some 51), .load 1 true (.t 4), none, []⟩, ⟨(some 52), .load 6 true (.t 5), none, []⟩, ⟨(some 53), .load 5 true (.t 8), none, []⟩, ⟨(some 54), .call (.c (.fn (.func 185) [] [])) [(.t 53)], none, [12, 9, 5, 6, 8, 7, 3, 2, 1, 0]⟩, ⟨(some 55), .call (.c (.fn (.func 37) [] [])) [(.t 51), (.t 52), (.t 54)], none, [10, 11, 13, 12, 9, 5, 6, 8, 7, 3, 2, 1, 0]⟩, ⟨(some 56), .call (.t 45) [(.t 50), (.t 55)], none, [4, 3, 2, 1, 0, 9, 5, 6, 8, 7, 14, 10, 11, 13, 12]⟩, ⟨(some 6), .mov (.t 56), none, [15, 4, 3, 2, 1, 0, 9, 5, 6, 8, 7, 14, 10, 11, 13, 12]⟩]) (
 .ret)))), [.tmp 6]⟩
theorem F111_ok : compFun Tryz.prog Tryz.f111 3 [] = some F111 := by kernel_rfl
/-- roadbook/cost.times -/
def F112 : SFun := ⟨2, 
 .seq (
 .region false [ ⟨(some 4), .mov (.c (.int .i64 0)), none, []⟩]) (
 .seq (
 .region false [ ⟨(some 8), .mov (.t 0), none, []⟩, ⟨(some 9), .conv .u64 (.t 8), none, []⟩, ⟨(some 10), .mov (.t 1), none, []⟩, ⟨(some 11), .conv .u64 (.t 10), none, []⟩, ⟨(some 12), .call (.c (.fn (.func 191) [] [])) [(.t 9), (.t 11)], none, []⟩, ⟨(some 7), .mov (.t 12), none, []⟩, ⟨(some 13), .ext (.t 7) 0, none, []⟩, ⟨(some 14), .ext (.t 7) 1, none, []⟩, ⟨(some 5), .mov (.t 13), none, []⟩, ⟨(some 6), .mov (.t 14), none, []⟩]) (
 .seq (
 .seq (
 .region false [ ⟨(some 15), .mov (.t 5), none, []⟩, ⟨(some 16), .bin .gtr (.t 15) (.c (.int .u64 0)), none, []⟩, ⟨(some 17), .mov (.t 16), none, []⟩, ⟨(some 18), .mov (.t 6), (some (17, false)), []⟩, ⟨(some 19), .bin .gtr (.t 18) (.c (.int .u64 1125899906842624)), (some (17, false)), []⟩, ⟨(some 20), .pick (.t 17) (.c (.bool true)) (.t 19), none, []⟩]) (
 .cond (.t 20) (
 .seq (
 .region false [ ⟨(some 4), .mov (.c (.int .i64 1125899906842624)), none, []⟩]) (
 .ret)) (
 .skip))) (
 .seq (
 .region false [ ⟨(some 21), .mov (.t 6), none, []⟩, ⟨(some 22), .conv .i64 (.t 21), none, []⟩, ⟨(some 4), .mov (.t 22), none, []⟩]) (
 .ret)))), [.tmp 4]⟩
theorem F112_ok : compFun Tryz.prog Tryz.f112 2 [] = some F112 := by kernel_rfl
/-- roadbook/cost.rows -/
def F113 : SFun := ⟨1, 
 .seq (
 .region false [ ⟨(some 2), .mov (.c (.int .i64 0)), none, []⟩]) (
 .seq (
 .region false [ ⟨(some 3), .mov (.t 0), none, []⟩, ⟨(some 4), .mx true (.t 3) (.c (.int .i64 0)), none, []⟩, ⟨(some 5), .mx false (.t 4) (.c (.int .i64 1099511627776)), none, []⟩, ⟨(some 2), .mov (.t 5), none, []⟩]) (
 .ret)), [.tmp 2]⟩
theorem F113_ok : compFun Tryz.prog Tryz.f113 1 [] = some F113 := by kernel_rfl
/-- roadbook/card.Times -/
def F115 : SFun := ⟨1, 
 .seq (
 .region false [ ⟨(some 2), .mov (.c (.int .i64 0)), none, []⟩]) (
 .seq (
 .region false [ ⟨(some 3), .mov (.c (.int .u64 1)), none, []⟩]) (
 .seq (
 .seq (
 .region false [ ⟨(some 8), .mov (.t 0), none, []⟩, ⟨(some 9), .len (.t 8), none, []⟩, ⟨(some 10), .mov (.c (.int .i64 0)), none, []⟩]) (
 .block 0 (
 .loop [3, 8, 9, 10] (
 .seq (
 .region false [ ⟨(some 11), .bin .lss (.t 10) (.t 9), none, []⟩]) (
 .seq (
 .cond (.t 11) (
 .skip) (
 .exit 0)) (
 .seq (
 .block 1 (
 .seq (
 .region false [ ⟨(some 12), .iaddr 1 (.t 8) (.t 10), none, []⟩, ⟨(some 13), .load 1 false (.t 12), none, []⟩, ⟨(some 5), .mov (.t 13), none, []⟩]) (
 .seq (
 .seq (
 .region false [ ⟨(some 14), .mov (.t 5), none, []⟩, ⟨(some 15), .bin .leq (.t 14) (.c (.int .i64 0)), none, []⟩]) (
 .cond (.t 15) (
 .seq (
 .region false [ ⟨(some 2), .mov (.c (.int .i64 0)), none, []⟩]) (
 .ret)) (
 .skip))) (
 .seq (
 .region false [ ⟨(some 17), .mov (.t 3), none, []⟩, ⟨(some 18), .mov (.t 5), none, []⟩, ⟨(some 19), .conv .u64 (.t 18), none, []⟩, ⟨(some 20), .call (.c (.fn (.func 191) [] [])) [(.t 17), (.t 19)], none, []⟩, ⟨(some 16), .mov (.t 20), none, []⟩, ⟨(some 21), .ext (.t 16) 0, none, []⟩, ⟨(some 22), .ext (.t 16) 1, none, []⟩, ⟨(some 6), .mov (.t 21), none, []⟩, ⟨(some 7), .mov (.t 22), none, []⟩]) (
 .seq (
 .region false [ ⟨(some 23), .mov (.t 7), none, []⟩, ⟨(some 24), .mx false (.t 23) (.c (.int .u64 1099511627776)), none, []⟩, ⟨(some 3), .mov (.t 24), none, []⟩]) (
 .seq (
 .region false [ ⟨(some 25), .mov (.t 6), none, []⟩, ⟨(some 26), .bin .gtr (.t 25) (.c (.int .u64 0)), none, []⟩]) (
 .cond (.t 26) (
 .region false [ ⟨(some 3), .mov (.c (.int .u64 1099511627776)), none, []⟩]) (
 .skip)))))))) (
 .region false [ ⟨(some 27), .bin .add (.t 10) (.c (.int .i64 1)), none, []⟩, ⟨(some 10), .mov (.t 27), none, []⟩]))))))) (
 .seq (
 .region false [ ⟨(some 28), .mov (.t 3), none, []⟩, ⟨(some 29), .conv .i64 (.t 28), none, []⟩, ⟨(some 2), .mov (.t 29), none, []⟩]) (
 .ret)))), [.tmp 2]⟩
theorem F115_ok : compFun Tryz.prog Tryz.f115 1 [[3, 8, 9, 10]] = some F115 := by kernel_rfl
/-- roadbook/card.fewer -/
def F116 : SFun := ⟨2, 
 .seq (
 .region false [ ⟨(some 2), .box (.t 0), none, []⟩, ⟨(some 4), .mov (.c (.int .i64 0)), none, []⟩]) (
 .seq (
 .region false [ ⟨(some 5), .mov (.c (.int .i64 1)), none, []⟩]) (
 .seq (
 .seq (
 .region false [ ⟨(some 12), .load 6 true (.t 2), none, []⟩, ⟨(some 13), .mov (.t 1), none, []⟩, ⟨(some 14), .call (.c (.fn (.func 192) [] [])) [(.t 12), (.t 13)], none, []⟩, ⟨(some 15), .len (.t 14), none, []⟩, ⟨(some 16), .mov (.c (.int .i64 0)), none, []⟩]) (
 .block 0 (
 .loop [2, 5, 14, 15, 16] (
 .seq (
 .region false [ ⟨(some 17), .bin .lss (.t 16) (.t 15), none, []⟩]) (
 .seq (
 .cond (.t 17) (
 .skip) (
 .exit 0)) (
 .seq (
 .block 1 (
 .seq (
 .region false [ ⟨(some 18), .iaddr 1 (.t 14) (.t 16), none, []⟩, ⟨(some 19), .load 1 false (.t 18), none, []⟩, ⟨(some 7), .mov (.t 19), none, []⟩]) (
 .seq (
 .region false [ ⟨(some 8), .mov (.c (.int .i64 0)), none, []⟩]) (
 .seq (
 .seq (
 .region false [ ⟨(some 21), .faddr 1 1 false (.t 2), none, []⟩, ⟨(some 22), .load 1 false (.t 21), none, []⟩, ⟨(some 23), .mov (.t 7), none, []⟩, ⟨(some 24), .iaddr 5 (.t 22) (.t 23), none, []⟩, ⟨(some 25), .load 5 true (.t 24), none, []⟩, ⟨(some 26), .call (.c (.fn (.func 154) [] [])) [(.t 25)], none, []⟩, ⟨(some 20), .mov (.t 26), none, []⟩, ⟨(some 27), .ext (.t 20) 0, none, []⟩, ⟨(some 28), .ext (.t 20) 1, none, []⟩, ⟨(some 29), .ext (.t 20) 2, none, []⟩, ⟨(some 9), .mov (.t 27), none, []⟩, ⟨(some 10), .mov (.t 28), none, []⟩, ⟨(some 11), .mov (.t 29), none, []⟩]) (
 .seq (
 .region false [ ⟨(some 30), .mov (.t 11), none, []⟩]) (
 .cond (.t 30) (
 .region false [ ⟨(some 8), .mov (.c (.int .i64 1)), none, []⟩]) (
 .skip)))) (
 .region false [ ⟨(some 31), .mov (.t 5), none, []⟩, ⟨(some 32), .call (.c (.fn (.func 193) [] [])) [], none, []⟩, ⟨(some 33), .mov (.t 8), none, []⟩, ⟨(some 34), .idxA 2 1 false (.t 32) (.t 33), none, []⟩, ⟨(some 35), .bin .mul (.t 31) (.t 34), none, []⟩, ⟨(some 5), .mov (.t 35), none, []⟩]))))) (
 .region false [ ⟨(some 36), .bin .add (.t 16) (.c (.int .i64 1)), none, []⟩, ⟨(some 16), .mov (.t 36), none, []⟩]))))))) (
 .seq (
 .region false [ ⟨(some 37), .mov (.t 5), none, []⟩, ⟨(some 4), .mov (.t 37), none, []⟩]) (
 .ret)))), [.tmp 4]⟩
theorem F116_ok : compFun Tryz.prog Tryz.f116 2 [[2, 5, 14, 15, 16]] = some F116 := by kernel_rfl
/-- roadbook/cost.Group -/
def F117 : SFun := ⟨2, 
 .seq (
 .region false [ ⟨(some 4), .mov (.c (.int .i64 0)), none, []⟩]) (
 .seq (
 .seq (
 .region false [ ⟨(some 5), .mov (.t 1), none, []⟩]) (
 .cond (.t 5) (
 .seq (
 .region false [ ⟨(some 6), .mov (.t 0), none, []⟩, ⟨(some 7), .call (.c (.fn (.func 113) [] [])) [(.t 6)], none, []⟩, ⟨(some 8), .call (.c (.fn (.func 112) [] [])) [(.c (.int .i64 2)), (.t 7)], none, []⟩, ⟨(some 4), .mov (.t 8), none, []⟩]) (
 .ret)) (
 .skip))) (
 .seq (
 .region false [ ⟨(some 9), .mov (.t 0), none, []⟩, ⟨(some 10), .call (.c (.fn (.func 189) [] [])) [(.t 9)], none, []⟩, ⟨(some 4), .mov (.t 10), none, []⟩]) (
 .ret))), [.tmp 4]⟩
theorem F117_ok : compFun Tryz.prog Tryz.f117 2 [] = some F117 := by kernel_rfl
/-- roadbook/card.Groups -/
def F118 : SFun := ⟨2, 
 .seq (
 .region false [ ⟨(some 2), .box (.t 0), none, []⟩, ⟨(some 3), .box (.t 1), none, []⟩, ⟨(some 4), .mov (.c (.int .i64 0)), none, []⟩]) (
 .seq (
 .seq (
 .region false [ ⟨(some 5), .load 1 true (.t 2), none, []⟩, ⟨(some 6), .load 6 true (.t 3), none, []⟩, ⟨(some 7), .call (.c (.fn (.func 62) [] [])) [(.t 5), (.t 6)], none, []⟩, ⟨(some 8), .un .not (.t 7), none, []⟩]) (
 .cond (.t 8) (
 .seq (
 .region false [ ⟨(some 4), .mov (.c (.int .i64 0)), none, []⟩]) (
 .ret)) (
 .skip))) (
 .seq (
 .region true [ ⟨(some 9), .load 1 true (.t 2), none, []⟩, ⟨(some 10), .load 6 true (.t 3), none, []⟩, ⟨(some 11), .faddr 0 1 false (.t 3), none, []⟩, ⟨(some 12), .load 1 false (.t 11), none, [2]⟩, ⟨(some 13), .len (.t 12), none, [3, 2]⟩, ⟨(some 14), .bin .shl (.c (.int .i64 1)) (.t 13), none, [4, 3, 2]⟩, ⟨(some 15), .bin .sub (.t 14) (.c (.int .i64 1)), none, [5, 4, 3, 2]⟩, ⟨(some 16), .call (.c (.fn (.func 37) [] [])) [(.t 9), (.t 10), (.t 15)], none, [0, 1, 6, 5, 4, 3, 2]⟩, ⟨(some 17), .bin .quo (.t 16) (.c (.int .i64 5)), none, [7, 0, 1, 6, 5, 4, 3, 2]⟩, ⟨(some 18), .mx true (.c (.int .i64 1)) (.t 17), none, [8, 7, 0, 1, 6, 5, 4, 3, 2]⟩, ⟨(some 4), .mov (.t 18), none, [9, 8, 7, 0, 1, 6, 5, 4, 3, 2]⟩]) (
 .ret))), [.tmp 4]⟩
theorem F118_ok : compFun Tryz.prog Tryz.f118 2 [] = some F118 := by kernel_rfl
/-- slices.EqualFunc[[]roadbook/api.Plan,[]roadbook/api.Plan,roadbook/api.Plan,roadbook/api.Plan] -/
def F122 : SFun := ⟨3, 
 .seq (
 .region false [ ⟨(some 6), .mov (.c (.bool false)), none, []⟩]) (
 .seq (
 .seq (
 .region false [ ⟨(some 10), .mov (.t 0), none, []⟩, ⟨(some 11), .len (.t 10), none, []⟩, ⟨(some 12), .mov (.t 1), none, []⟩, ⟨(some 13), .len (.t 12), none, []⟩, ⟨(some 14), .bin .neq (.t 11) (.t 13), none, []⟩]) (
 .cond (.t 14) (
 .seq (
 .region false [ ⟨(some 6), .mov (.c (.bool false)), none, []⟩]) (
 .ret)) (
 .skip))) (
 .seq (
 .seq (
 .region false [ ⟨(some 15), .mov (.t 0), none, []⟩, ⟨(some 16), .len (.t 15), none, []⟩, ⟨(some 17), .mov (.c (.int .i64 0)), none, []⟩]) (
 .block 0 (
 .loop [1, 2, 15, 16, 17] (
 .seq (
 .region false [ ⟨(some 18), .bin .lss (.t 17) (.t 16), none, []⟩]) (
 .seq (
 .cond (.t 18) (
 .skip) (
 .exit 0)) (
 .seq (
 .block 1 (
 .seq (
 .region false [ ⟨(some 19), .mov (.t 17), none, []⟩, ⟨(some 20), .iaddr 5 (.t 15) (.t 17), none, []⟩, ⟨(some 21), .load 5 true (.t 20), none, []⟩, ⟨(some 8), .alloc (.agg [.int .i64 0, .int .i64 0, .int .i64 0, .int .i64 0, .sl .full []]), none, []⟩, ⟨(some 7), .mov (.t 19), none, []⟩, ⟨none, .store 5 (.t 8) (.t 21), none, []⟩]) (
 .seq (
 .region false [ ⟨(some 22), .mov (.t 1), none, []⟩, ⟨(some 23), .mov (.t 7), none, []⟩, ⟨(some 24), .iaddr 5 (.t 22) (.t 23), none, []⟩, ⟨(some 25), .load 5 true (.t 24), none, []⟩, ⟨(some 9), .alloc (.agg [.int .i64 0, .int .i64 0, .int .i64 0, .int .i64 0, .sl .full []]), none, []⟩, ⟨none, .store 5 (.t 9) (.t 25), none, []⟩]) (
 .seq (
 .region false [ ⟨(some 26), .mov (.t 2), none, []⟩, ⟨(some 27), .load 5 true (.t 8), none, []⟩, ⟨(some 28), .load 5 true (.t 9), none, []⟩, ⟨(some 29), .call (.t 26) [(.t 27), (.t 28)], none, []⟩, ⟨(some 30), .un .not (.t 29), none, []⟩]) (
 .cond (.t 30) (
 .seq (
 .region false [ ⟨(some 6), .mov (.c (.bool false)), none, []⟩]) (
 .ret)) (
 .skip)))))) (
 .region false [ ⟨(some 31), .bin .add (.t 17) (.c (.int .i64 1)), none, []⟩, ⟨(some 17), .mov (.t 31), none, []⟩]))))))) (
 .seq (
 .region false [ ⟨(some 6), .mov (.c (.bool true)), none, []⟩]) (
 .ret)))), [.tmp 6]⟩
theorem F122_ok : compFun Tryz.prog Tryz.f122 3 [[1, 2, 15, 16, 17]] = some F122 := by kernel_rfl
/-- roadbook/roadbooklaw05.few -/
def F136 : SFun := ⟨2, 
 .seq (
 .region false [ ⟨(some 2), .box (.t 0), none, []⟩, ⟨(some 3), .box (.t 1), none, []⟩, ⟨(some 4), .mov (.c (.bool false)), none, []⟩]) (
 .seq (
 .region false [ ⟨(some 7), .faddr 0 1 false (.t 2), none, []⟩, ⟨(some 8), .load 1 false (.t 7), none, []⟩, ⟨(some 9), .len (.t 8), none, []⟩, ⟨(some 10), .bin .leq (.t 9) (.c (.int .i64 10)), none, []⟩, ⟨(some 11), .mov (.t 10), none, []⟩, ⟨(some 12), .faddr 0 1 false (.t 3), (some (11, true)), []⟩, ⟨(some 13), .load 1 false (.t 12), (some (11, true)), []⟩, ⟨(some 14), .len (.t 13), (some (11, true)), []⟩, ⟨(some 15), .bin .leq (.t 14) (.c (.int .i64 20)), (some (11, true)), []⟩, ⟨(some 16), .pick (.t 11) (.t 15) (.c (.bool false)), none, []⟩, ⟨(some 17), .mov (.t 16), none, []⟩, ⟨(some 18), .faddr 1 1 false (.t 3), (some (17, true)), []⟩, ⟨(some 19), .load 1 false (.t 18), (some (17, true)), []⟩, ⟨(some 20), .len (.t 19), (some (17, true)), []⟩, ⟨(some 21), .bin .leq (.t 20) (.c (.int .i64 8)), (some (17, true)), []⟩, ⟨(some 22), .pick (.t 17) (.t 21) (.c (.bool false)), none, []⟩, ⟨(some 23), .mov (.t 22), none, []⟩, ⟨(some 24), .faddr 3 1 false (.t 3), (some (23, true)), []⟩, ⟨(some 25), .load 1 false (.t 24), (some (23, true)), []⟩, ⟨(some 26), .len (.t 25), (some (23, true)), []⟩, ⟨(some 27), .bin .leq (.t 26) (.c (.int .i64 20)), (some (23, true)), []⟩, ⟨(some 28), .pick (.t 23) (.t 27) (.c (.bool false)), none, []⟩, ⟨(some 29), .mov (.t 28), none, []⟩, ⟨(some 30), .faddr 4 1 false (.t 3), (some (29, true)), []⟩, ⟨(some 31), .load 1 false (.t 30), (some (29, true)), []⟩, ⟨(some 32), .len (.t 31), (some (29, true)), []⟩, ⟨(some 33), .bin .leq (.t 32) (.c (.int .i64 20)), (some (29, true)), []⟩, ⟨(some 34), .pick (.t 29) (.t 33) (.c (.bool false)), none, []⟩, ⟨(some 5), .mov (.t 34), none, []⟩]) (
 .seq (
 .seq (
 .region false [ ⟨(some 6), .mov (.c (.int .i64 0)), none, []⟩]) (
 .block 0 (
 .loop [3, 5, 6] (
 .seq (
 .seq (
 .region false [ ⟨(some 35), .mov (.t 6), none, []⟩, ⟨(some 36), .faddr 1 1 false (.t 3), none, []⟩, ⟨(some 37), .load 1 false (.t 36), none, []⟩, ⟨(some 38), .len (.t 37), none, []⟩, ⟨(some 39), .bin .lss (.t 35) (.t 38), none, []⟩, ⟨(some 40), .mov (.t 39), none, []⟩, ⟨(some 41), .mov (.t 5), (some (40, true)), []⟩, ⟨(some 42), .pick (.t 40) (.t 41) (.c (.bool false)), none, []⟩]) (
 .cond (.t 42) (
 .skip) (
 .exit 0))) (
 .seq (
 .block 1 (
 .region false [ ⟨(some 45), .faddr 1 1 false (.t 3), none, []⟩, ⟨(some 46), .load 1 false (.t 45), none, []⟩, ⟨(some 47), .mov (.t 6), none, []⟩, ⟨(some 48), .iaddr 5 (.t 46) (.t 47), none, []⟩, ⟨(some 49), .load 5 true (.t 48), none, []⟩, ⟨(some 50), .call (.c (.fn (.func 207) [] [])) [(.t 49), (.c (.int .i64 60))], none, []⟩, ⟨(some 5), .mov (.t 50), none, []⟩])) (
 .region false [ ⟨(some 43), .mov (.t 6), none, []⟩, ⟨(some 44), .bin .add (.t 43) (.c (.int .i64 1)), none, []⟩, ⟨(some 6), .mov (.t 44), none, []⟩])))))) (
 .seq (
 .region false [ ⟨(some 51), .mov (.t 5), none, []⟩, ⟨(some 4), .mov (.t 51), none, []⟩]) (
 .ret)))), [.tmp 4]⟩
theorem F136_ok : compFun Tryz.prog Tryz.f136 2 [[3, 5, 6]] = some F136 := by kernel_rfl
/-- slices.Contains[[]int,int] -/
def F137 : SFun := ⟨2, 
 .seq (
 .region false [ ⟨(some 4), .mov (.c (.bool false)), none, []⟩]) (
 .seq (
 .region false [ ⟨(some 5), .mov (.t 0), none, []⟩, ⟨(some 6), .mov (.t 1), none, []⟩, ⟨(some 7), .call (.c (.fn (.func 208) [] [])) [(.t 5), (.t 6)], none, []⟩, ⟨(some 8), .bin .geq (.t 7) (.c (.int .i64 0)), none, []⟩, ⟨(some 4), .mov (.t 8), none, []⟩]) (
 .ret)), [.tmp 4]⟩
theorem F137_ok : compFun Tryz.prog Tryz.f137 2 [] = some F137 := by kernel_rfl
/-- roadbook/query.May$1 -/
def F146 : SFun := ⟨2, 
 .seq (
 .region false [ ⟨(some 3), .mov (.c (.bool false)), none, []⟩]) (
 .seq (
 .region false [ ⟨(some 4), .mov (.t 0), none, []⟩, ⟨(some 5), .bin .lss (.t 4) (.c (.int .i64 0)), none, []⟩, ⟨(some 6), .mov (.t 5), none, []⟩, ⟨(some 7), .mov (.t 0), (some (6, false)), []⟩, ⟨(some 8), .faddr 0 1 false (.t 1), (some (6, false)), []⟩, ⟨(some 9), .load 1 false (.t 8), (some (6, false)), []⟩, ⟨(some 10), .len (.t 9), (some (6, false)), []⟩, ⟨(some 11), .bin .geq (.t 7) (.t 10), (some (6, false)), []⟩, ⟨(some 12), .pick (.t 6) (.c (.bool true)) (.t 11), none, []⟩, ⟨(some 3), .mov (.t 12), none, []⟩]) (
 .ret)), [.tmp 3]⟩
theorem F146_ok : compFun Tryz.prog Tryz.f146 2 [] = some F146 := by kernel_rfl
/-- roadbook/data.May -/
def F147 : SFun := ⟨1, 
 .seq (
 .region false [ ⟨(some 1), .box (.t 0), none, []⟩, ⟨(some 2), .mov (.c (.bool false)), none, []⟩]) (
 .seq (
 .region false [ ⟨(some 3), .faddr 0 1 false (.t 1), none, []⟩, ⟨(some 4), .load 1 false (.t 3), none, []⟩, ⟨(some 5), .len (.t 4), none, []⟩, ⟨(some 6), .call (.c (.fn (.func 215) [] [])) [(.t 5), (.c (.int .i64 1)), (.c (.int .i64 4))], none, []⟩, ⟨(some 7), .mov (.t 6), none, []⟩, ⟨(some 8), .faddr 0 1 false (.t 1), (some (7, true)), []⟩, ⟨(some 9), .load 1 false (.t 8), (some (7, true)), []⟩, ⟨(some 10), .call (.c (.fn (.func 216) [] [])) [(.t 9), (.c (.fn (.func 217) [] []))], (some (7, true)), []⟩, ⟨(some 11), .un .not (.t 10), (some (7, true)), []⟩, ⟨(some 12), .pick (.t 7) (.t 11) (.c (.bool false)), none, []⟩, ⟨(some 2), .mov (.t 12), none, []⟩]) (
 .ret)), [.tmp 2]⟩
theorem F147_ok : compFun Tryz.prog Tryz.f147 1 [] = some F147 := by kernel_rfl
/-- slices.ContainsFunc[[]int,int] -/
def F148 : SFun := ⟨2, 
 .seq (
 .region false [ ⟨(some 4), .mov (.c (.bool false)), none, []⟩]) (
 .seq (
 .region false [ ⟨(some 5), .mov (.t 0), none, []⟩, ⟨(some 6), .mov (.t 1), none, []⟩, ⟨(some 7), .call (.c (.fn (.func 219) [] [])) [(.t 5), (.t 6)], none, []⟩, ⟨(some 8), .bin .geq (.t 7) (.c (.int .i64 0)), none, []⟩, ⟨(some 4), .mov (.t 8), none, []⟩]) (
 .ret)), [.tmp 4]⟩
theorem F148_ok : compFun Tryz.prog Tryz.f148 2 [] = some F148 := by kernel_rfl
end Go.Rb

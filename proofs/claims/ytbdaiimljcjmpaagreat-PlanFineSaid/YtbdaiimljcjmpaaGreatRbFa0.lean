/- Functions of the program, compiled for the engine. MADE BY PROGRAM (Print.lean). -/
import Derived.Test.YtbdaiimljcjmpaaGreatBT01
import Derived.KernelRfl
import Derived.Test.YtbdaiimljcjmpaaGreatProg
namespace Go.Rb
set_option linter.unusedVariables false
set_option linter.unusedSimpArgs false
open Go.Proofs

/-- roadbook/roadbooklaw11.PlanSort -/
def F3 : SFun := ⟨4, 
 .seq (
 .region false [ ⟨(some 4), .box (.t 0), none, []⟩, ⟨(some 5), .box (.t 1), none, []⟩, ⟨(some 6), .box (.t 2), none, []⟩, ⟨(some 8), .mov (.c (.bool false)), none, []⟩]) (
 .seq (
 .region false [ ⟨(some 18), .call (.c (.fn (.func 27) [] [])) [], none, []⟩, ⟨(some 9), .mov (.t 18), none, []⟩]) (
 .seq (
 .region false [ ⟨(some 19), .load 1 true (.t 4), none, []⟩, ⟨(some 20), .load 6 true (.t 5), none, []⟩, ⟨(some 21), .load 5 true (.t 6), none, []⟩, ⟨(some 22), .call (.c (.fn (.func 28) [] [])) [(.t 19), (.t 20), (.t 21)], none, []⟩, ⟨(some 10), .mov (.t 22), none, []⟩]) (
 .seq (
 .seq (
 .region false [ ⟨(some 23), .mov (.t 9), none, []⟩, ⟨(some 24), .un .not (.t 23), none, []⟩, ⟨(some 25), .mov (.t 24), none, []⟩, ⟨(some 26), .mov (.t 10), (some (25, false)), []⟩, ⟨(some 27), .un .not (.t 26), (some (25, false)), []⟩, ⟨(some 28), .pick (.t 25) (.c (.bool true)) (.t 27), none, []⟩, ⟨(some 29), .mov (.t 28), none, []⟩, ⟨(some 30), .load 1 true (.t 4), (some (29, false)), []⟩, ⟨(some 31), .load 6 true (.t 5), (some (29, false)), []⟩, ⟨(some 32), .load 5 true (.t 6), (some (29, false)), []⟩, ⟨(some 33), .call (.c (.fn (.func 29) [] [])) [(.t 30), (.t 31), (.t 32)], (some (29, false)), []⟩, ⟨(some 34), .un .not (.t 33), (some (29, false)), []⟩, ⟨(some 35), .pick (.t 29) (.c (.bool true)) (.t 34), none, []⟩]) (
 .cond (.t 35) (
 .seq (
 .region false [ ⟨(some 36), .mov (.t 9), none, []⟩, ⟨(some 8), .mov (.t 36), none, []⟩]) (
 .ret)) (
 .skip))) (
 .seq (
 .region false [ ⟨(some 38), .load 5 true (.t 6), none, []⟩, ⟨(some 39), .call (.c (.fn (.func 30) [] [])) [(.t 38)], none, []⟩, ⟨(some 37), .mov (.t 39), none, []⟩, ⟨(some 40), .ext (.t 37) 0, none, []⟩, ⟨(some 41), .ext (.t 37) 1, none, []⟩, ⟨(some 11), .alloc (.agg [.int .i64 0, .sl .full []]), none, []⟩, ⟨none, .store 2 (.t 11) (.t 40), none, []⟩, ⟨(some 12), .mov (.t 41), none, []⟩]) (
 .seq (
 .region false [ ⟨(some 42), .mov (.t 3), none, []⟩, ⟨(some 43), .build [.int .i64 0, .int .i64 0] [(0, 1, (.t 42))], none, []⟩, ⟨(some 44), .load 5 true (.t 6), none, []⟩, ⟨(some 45), .bslice 5 (.agg [.int .i64 0, .int .i64 0, .int .i64 0, .int .i64 0, .sl .full []]) 1 [(0, (.t 44))], none, []⟩, ⟨(some 46), .build [.int .i64 0, .int .i64 0, .int .i64 0, .int .i64 0, .sl .full []] [(0, 1, (.c (.int .i64 4))), (2, 2, (.t 43)), (4, 1, (.t 45))], none, []⟩, ⟨(some 13), .alloc (.agg [.int .i64 0, .int .i64 0, .int .i64 0, .int .i64 0, .sl .full []]), none, []⟩, ⟨none, .store 5 (.t 13) (.t 46), none, []⟩]) (
 .seq (
 .seq (
 .region false [ ⟨(some 47), .load 5 true (.t 13), none, []⟩, ⟨(some 48), .call (.c (.fn (.func 31) [] [])) [(.t 47)], none, []⟩, ⟨(some 49), .un .not (.t 48), none, []⟩]) (
 .cond (.t 49) (
 .seq (
 .region false [ ⟨(some 50), .load 1 true (.t 4), none, []⟩, ⟨(some 51), .load 6 true (.t 5), none, []⟩, ⟨(some 52), .load 5 true (.t 13), none, []⟩, ⟨(some 53), .call (.c (.fn (.func 29) [] [])) [(.t 50), (.t 51), (.t 52)], none, []⟩, ⟨(some 54), .un .not (.t 53), none, []⟩, ⟨(some 8), .mov (.t 54), none, []⟩]) (
 .ret)) (
 .skip))) (
 .seq (
 .region true [ ⟨(some 55), .load 1 true (.t 4), none, []⟩, ⟨(some 56), .load 6 true (.t 5), none, []⟩, ⟨(some 57), .load 2 true (.t 11), none, []⟩, ⟨(some 58), .call (.c (.fn (.func 33) [] [])) [(.t 57)], none, [2]⟩, ⟨(some 59), .call (.c (.fn (.func 32) [] [])) [(.t 55), (.t 56), (.t 58)], none, [0, 1, 3, 2]⟩, ⟨(some 14), .mov (.t 59), none, [4, 0, 1, 3, 2]⟩]) (
 .seq (
 .region false [ ⟨(some 15), .mov (.c (.bool false)), none, []⟩]) (
 .seq (
 .seq (
 .region false [ ⟨(some 16), .mov (.c (.int .i64 0)), none, []⟩]) (
 .block 0 (
 .loop [3, 4, 5, 6, 11, 13, 14, 15, 16] (
 .seq (
 .seq (
 .region false [ ⟨(some 60), .mov (.t 16), none, []⟩, ⟨(some 61), .mov (.t 14), none, []⟩, ⟨(some 62), .len (.t 61), none, []⟩, ⟨(some 63), .bin .lss (.t 60) (.t 62), none, []⟩]) (
 .cond (.t 63) (
 .skip) (
 .exit 0))) (
 .seq (
 .block 1 (
 .region false [ ⟨(some 66), .mov (.t 15), none, []⟩, ⟨(some 67), .mov (.t 66), none, []⟩, ⟨(some 68), .mov (.t 14), (some (67, false)), []⟩, ⟨(some 69), .mov (.t 16), (some (67, false)), []⟩, ⟨(some 70), .iaddr 1 (.t 68) (.t 69), (some (67, false)), []⟩, ⟨(some 71), .load 1 false (.t 70), (some (67, false)), []⟩, ⟨(some 72), .mov (.t 3), (some (67, false)), []⟩, ⟨(some 73), .bin .eql (.t 71) (.t 72), (some (67, false)), []⟩, ⟨(some 74), .pick (.t 67) (.c (.bool true)) (.t 73), none, []⟩, ⟨(some 15), .mov (.t 74), none, []⟩])) (
 .region false [ ⟨(some 64), .mov (.t 16), none, []⟩, ⟨(some 65), .bin .add (.t 64) (.c (.int .i64 1)), none, []⟩, ⟨(some 16), .mov (.t 65), none, []⟩])))))) (
 .seq (
 .region true [ ⟨(some 75), .load 1 true (.t 4), none, []⟩, ⟨(some 76), .load 6 true (.t 5), none, []⟩, ⟨(some 77), .load 5 true (.t 6), none, []⟩, ⟨(some 78), .call (.c (.fn (.func 35) [] [])) [(.t 75), (.t 76), (.t 77)], none, [0, 1, 2]⟩, ⟨(some 79), .load 1 true (.t 4), none, []⟩, ⟨(some 80), .load 6 true (.t 5), none, []⟩, ⟨(some 81), .load 2 true (.t 11), none, []⟩, ⟨(some 82), .call (.c (.fn (.func 33) [] [])) [(.t 81)], none, [6, 3, 0, 1, 2]⟩, ⟨(some 83), .call (.c (.fn (.func 37) [] [])) [(.t 79), (.t 80), (.t 82)], none, [4, 5, 7, 6, 3, 0, 1, 2]⟩, ⟨(some 84), .call (.c (.fn (.func 36) [] [])) [(.t 83)], none, [8, 4, 5, 7, 6, 3, 0, 1, 2]⟩, ⟨(some 85), .bslice 1 (.int .i64 0) 2 [(0, (.t 78)), (1, (.t 84))], none, [3, 0, 1, 2, 9, 8, 4, 5, 7, 6]⟩, ⟨(some 86), .call (.c (.fn (.func 34) [] [])) [(.t 85)], none, [10, 3, 0, 1, 2, 9, 8, 4, 5, 7, 6]⟩, ⟨(some 17), .mov (.t 86), none, [11, 10, 3, 0, 1, 2, 9, 8, 4, 5, 7, 6]⟩]) (
 .seq (
 .region false [ ⟨(some 87), .load 1 true (.t 4), none, []⟩, ⟨(some 88), .load 6 true (.t 5), none, []⟩, ⟨(some 89), .load 5 true (.t 13), none, []⟩, ⟨(some 90), .call (.c (.fn (.func 29) [] [])) [(.t 87), (.t 88), (.t 89)], none, []⟩, ⟨(some 91), .mov (.t 15), none, []⟩, ⟨(some 92), .eqb false (.t 90) (.t 91), none, []⟩, ⟨(some 93), .mov (.t 92), none, []⟩, ⟨(some 94), .mov (.t 15), (some (93, true)), []⟩, ⟨(some 95), .un .not (.t 94), (some (93, true)), []⟩, ⟨(some 96), .mov (.t 95), (some (93, true)), []⟩, ⟨(some 97), .load 5 true (.t 13), (some (96, false)), []⟩, ⟨(some 98), .call (.c (.fn (.func 38) [] [])) [(.t 97)], (some (96, false)), []⟩, ⟨(some 99), .mov (.t 3), (some (96, false)), []⟩, ⟨(some 100), .bin .eql (.t 98) (.t 99), (some (96, false)), []⟩, ⟨(some 101), .mov (.t 100), (some (96, false)), []⟩, ⟨(some 102), .load 1 true (.t 4), (some (101, true)), []⟩, ⟨(some 103), .load 6 true (.t 5), (some (101, true)), []⟩, ⟨(some 104), .load 5 true (.t 13), (some (101, true)), []⟩, ⟨(some 105), .call (.c (.fn (.func 35) [] [])) [(.t 102), (.t 103), (.t 104)], (some (101, true)), []⟩, ⟨(some 106), .mov (.t 17), (some (101, true)), []⟩, ⟨(some 107), .bin .eql (.t 105) (.t 106), (some (101, true)), []⟩, ⟨(some 108), .pick (.t 101) (.t 107) (.c (.bool false)), (some (96, false)), []⟩, ⟨(some 109), .pick (.t 96) (.c (.bool true)) (.t 108), (some (93, true)), []⟩, ⟨(some 110), .pick (.t 93) (.t 109) (.c (.bool false)), none, []⟩, ⟨(some 8), .mov (.t 110), none, []⟩]) (
 .ret)))))))))))), [.tmp 8]⟩
theorem F3_ok : compFun Tryz.prog Tryz.f3 4 [[3, 4, 5, 6, 11, 13, 14, 15, 16]] = some F3 := by kernel_rfl
/-- roadbook/roadbooklaw11.PlanFine -/
def F4 : SFun := ⟨3, 
 .seq (
 .region false [ ⟨(some 3), .box (.t 0), none, []⟩, ⟨(some 4), .box (.t 1), none, []⟩, ⟨(some 5), .box (.t 2), none, []⟩, ⟨(some 6), .mov (.c (.bool false)), none, []⟩]) (
 .seq (
 .region false [ ⟨(some 14), .call (.c (.fn (.func 27) [] [])) [], none, []⟩, ⟨(some 7), .mov (.t 14), none, []⟩]) (
 .seq (
 .region false [ ⟨(some 15), .load 1 true (.t 3), none, []⟩, ⟨(some 16), .load 6 true (.t 4), none, []⟩, ⟨(some 17), .faddr 0 5 true (.t 5), none, []⟩, ⟨(some 18), .load 5 true (.t 17), none, []⟩, ⟨(some 19), .call (.c (.fn (.func 28) [] [])) [(.t 15), (.t 16), (.t 18)], none, []⟩, ⟨(some 8), .mov (.t 19), none, []⟩]) (
 .seq (
 .seq (
 .region false [ ⟨(some 20), .mov (.t 7), none, []⟩, ⟨(some 21), .un .not (.t 20), none, []⟩, ⟨(some 22), .mov (.t 21), none, []⟩, ⟨(some 23), .mov (.t 8), (some (22, false)), []⟩, ⟨(some 24), .un .not (.t 23), (some (22, false)), []⟩, ⟨(some 25), .pick (.t 22) (.c (.bool true)) (.t 24), none, []⟩]) (
 .cond (.t 25) (
 .seq (
 .region false [ ⟨(some 26), .mov (.t 7), none, []⟩, ⟨(some 6), .mov (.t 26), none, []⟩]) (
 .ret)) (
 .skip))) (
 .seq (
 .region false [ ⟨(some 27), .load 1 true (.t 3), none, []⟩, ⟨(some 28), .load 6 true (.t 4), none, []⟩, ⟨(some 29), .load 7 true (.t 5), none, []⟩, ⟨(some 30), .call (.c (.fn (.func 39) [] [])) [(.t 27), (.t 28), (.t 29)], none, []⟩, ⟨(some 9), .mov (.t 30), none, []⟩]) (
 .seq (
 .region false [ ⟨(some 32), .faddr 0 5 true (.t 5), none, []⟩, ⟨(some 33), .load 5 true (.t 32), none, []⟩, ⟨(some 34), .call (.c (.fn (.func 30) [] [])) [(.t 33)], none, []⟩, ⟨(some 31), .mov (.t 34), none, []⟩, ⟨(some 35), .ext (.t 31) 0, none, []⟩, ⟨(some 36), .ext (.t 31) 1, none, []⟩, ⟨(some 10), .alloc (.agg [.int .i64 0, .sl .full []]), none, []⟩, ⟨none, .store 2 (.t 10) (.t 35), none, []⟩, ⟨(some 11), .mov (.t 36), none, []⟩]) (
 .seq (
 .region false [ ⟨(some 12), .mov (.c (.int .i64 1)), none, []⟩]) (
 .seq (
 .seq (
 .region false [ ⟨(some 13), .mov (.c (.int .i64 0)), none, []⟩]) (
 .block 0 (
 .loop [3, 4, 5, 9, 10, 12, 13] (
 .seq (
 .seq (
 .region false [ ⟨(some 37), .mov (.t 13), none, []⟩, ⟨(some 38), .faddr 0 1 false (.t 4), none, []⟩, ⟨(some 39), .load 1 false (.t 38), none, []⟩, ⟨(some 40), .len (.t 39), none, []⟩, ⟨(some 41), .bin .lss (.t 37) (.t 40), none, []⟩]) (
 .cond (.t 41) (
 .skip) (
 .exit 0))) (
 .seq (
 .block 1 (
 .region false [ ⟨(some 44), .mov (.t 12), none, []⟩, ⟨(some 45), .bin .mul (.c (.int .i64 2)) (.t 44), none, []⟩, ⟨(some 12), .mov (.t 45), none, []⟩])) (
 .region false [ ⟨(some 42), .mov (.t 13), none, []⟩, ⟨(some 43), .bin .add (.t 42) (.c (.int .i64 1)), none, []⟩, ⟨(some 13), .mov (.t 43), none, []⟩])))))) (
 .seq (
 .seq (
 .region false [ ⟨(some 46), .load 1 true (.t 3), none, []⟩, ⟨(some 47), .load 6 true (.t 4), none, []⟩, ⟨(some 48), .load 7 true (.t 5), none, []⟩, ⟨(some 49), .call (.c (.fn (.func 40) [] [])) [(.t 46), (.t 47), (.t 48)], none, []⟩]) (
 .cond (.t 49) (
 .seq (
 .region false [ ⟨(some 50), .load 1 true (.t 3), none, []⟩, ⟨(some 51), .load 6 true (.t 4), none, []⟩, ⟨(some 52), .faddr 0 5 true (.t 5), none, []⟩, ⟨(some 53), .load 5 true (.t 52), none, []⟩, ⟨(some 54), .call (.c (.fn (.func 29) [] [])) [(.t 50), (.t 51), (.t 53)], none, []⟩, ⟨(some 55), .mov (.t 54), none, []⟩, ⟨(some 56), .load 2 true (.t 10), (some (55, true)), []⟩, ⟨(some 57), .call (.c (.fn (.func 33) [] [])) [(.t 56)], (some (55, true)), []⟩, ⟨(some 58), .mov (.t 12), (some (55, true)), []⟩, ⟨(some 59), .bin .sub (.t 58) (.c (.int .i64 1)), (some (55, true)), []⟩, ⟨(some 60), .bin .eql (.t 57) (.t 59), (some (55, true)), []⟩, ⟨(some 61), .pick (.t 55) (.t 60) (.c (.bool false)), none, []⟩, ⟨(some 62), .mov (.t 61), none, []⟩, ⟨(some 63), .mov (.t 9), (some (62, true)), []⟩, ⟨(some 64), .load 1 true (.t 3), (some (62, true)), []⟩, ⟨(some 65), .load 6 true (.t 4), (some (62, true)), []⟩, ⟨(some 66), .faddr 0 5 true (.t 5), (some (62, true)), []⟩, ⟨(some 67), .load 5 true (.t 66), (some (62, true)), []⟩, ⟨(some 68), .call (.c (.fn (.func 35) [] [])) [(.t 64), (.t 65), (.t 67)], (some (62, true)), []⟩, ⟨(some 69), .bin .geq (.t 63) (.t 68), (some (62, true)), []⟩, ⟨(some 70), .pick (.t 62) (.t 69) (.c (.bool false)), none, []⟩, ⟨(some 71), .mov (.t 70), none, []⟩, ⟨(some 72), .faddr 5 1 false (.t 5), (some (71, true)), []⟩, ⟨(some 73), .load 1 false (.t 72), (some (71, true)), []⟩, ⟨(some 74), .bin .eql (.t 73) (.c (.int .i64 0)), (some (71, true)), []⟩, ⟨(some 75), .faddr 2 1 false (.t 4), (some (71, true)), []⟩, ⟨(some 76), .load 1 false (.t 75), (some (71, true)), []⟩, ⟨(some 77), .bin .eql (.t 76) (.c (.int .i64 (-1))), (some (71, true)), []⟩, ⟨(some 78), .eqb false (.t 74) (.t 77), (some (71, true)), []⟩, ⟨(some 79), .pick (.t 71) (.t 78) (.c (.bool false)), none, []⟩, ⟨(some 6), .mov (.t 79), none, []⟩]) (
 .ret)) (
 .skip))) (
 .seq (
 .region false [ ⟨(some 80), .mov (.t 9), none, []⟩, ⟨(some 81), .bin .eql (.t 80) (.c (.int .i64 1125899906842624)), none, []⟩, ⟨(some 82), .mov (.t 81), none, []⟩, ⟨(some 83), .faddr 2 1 false (.t 4), (some (82, true)), []⟩, ⟨(some 84), .load 1 false (.t 83), (some (82, true)), []⟩, ⟨(some 85), .bin .neq (.t 84) (.c (.int .i64 (-1))), (some (82, true)), []⟩, ⟨(some 86), .mov (.t 85), (some (82, true)), []⟩, ⟨(some 87), .faddr 5 1 false (.t 4), (some (86, false)), []⟩, ⟨(some 88), .load 1 false (.t 87), (some (86, false)), []⟩, ⟨(some 89), .bin .neq (.t 88) (.c (.int .i64 (-1))), (some (86, false)), []⟩, ⟨(some 90), .pick (.t 86) (.c (.bool true)) (.t 89), (some (82, true)), []⟩, ⟨(some 91), .mov (.t 90), (some (82, true)), []⟩, ⟨(some 92), .faddr 5 1 false (.t 5), (some (91, false)), []⟩, ⟨(some 93), .load 1 false (.t 92), (some (91, false)), []⟩, ⟨(some 94), .bin .neq (.t 93) (.c (.int .i64 0)), (some (91, false)), []⟩, ⟨(some 95), .pick (.t 91) (.c (.bool true)) (.t 94), (some (82, true)), []⟩, ⟨(some 96), .mov (.t 95), (some (82, true)), []⟩, ⟨(some 97), .faddr 6 1 false (.t 5), (some (96, false)), []⟩, ⟨(some 98), .load 1 false (.t 97), (some (96, false)), []⟩, ⟨(some 99), .pick (.t 96) (.c (.bool true)) (.t 98), (some (82, true)), []⟩, ⟨(some 100), .mov (.t 99), (some (82, true)), []⟩, ⟨(some 101), .load 1 true (.t 3), (some (100, false)), []⟩, ⟨(some 102), .load 6 true (.t 4), (some (100, false)), []⟩, ⟨(some 103), .faddr 0 5 true (.t 5), (some (100, false)), []⟩, ⟨(some 104), .load 5 true (.t 103), (some (100, false)), []⟩, ⟨(some 105), .call (.c (.fn (.func 29) [] [])) [(.t 101), (.t 102), (.t 104)], (some (100, false)), []⟩, ⟨(some 106), .un .not (.t 105), (some (100, false)), []⟩, ⟨(some 107), .pick (.t 100) (.c (.bool true)) (.t 106), (some (82, true)), []⟩, ⟨(some 108), .mov (.t 107), (some (82, true)), []⟩, ⟨(some 109), .load 2 true (.t 10), (some (108, false)), []⟩, ⟨(some 110), .call (.c (.fn (.func 33) [] [])) [(.t 109)], (some (108, false)), []⟩, ⟨(some 111), .mov (.t 12), (some (108, false)), []⟩, ⟨(some 112), .bin .sub (.t 111) (.c (.int .i64 1)), (some (108, false)), []⟩, ⟨(some 113), .bin .neq (.t 110) (.t 112), (some (108, false)), []⟩, ⟨(some 114), .pick (.t 108) (.c (.bool true)) (.t 113), (some (82, true)), []⟩, ⟨(some 115), .pick (.t 82) (.t 114) (.c (.bool false)), none, []⟩, ⟨(some 6), .mov (.t 115), none, []⟩]) (
 .ret)))))))))), [.tmp 6]⟩
theorem F4_ok : compFun Tryz.prog Tryz.f4 3 [[3, 4, 5, 9, 10, 12, 13]] = some F4 := by kernel_rfl
/-- roadbook/roadbooklaw11.PlanBack -/
def F5 : SFun := ⟨3, 
 .seq (
 .region false [ ⟨(some 3), .box (.t 0), none, []⟩, ⟨(some 4), .box (.t 1), none, []⟩, ⟨(some 5), .box (.t 2), none, []⟩, ⟨(some 6), .mov (.c (.bool false)), none, []⟩]) (
 .seq (
 .region false [ ⟨(some 16), .call (.c (.fn (.func 27) [] [])) [], none, []⟩, ⟨(some 7), .mov (.t 16), none, []⟩]) (
 .seq (
 .region false [ ⟨(some 17), .load 1 true (.t 3), none, []⟩, ⟨(some 18), .load 6 true (.t 4), none, []⟩, ⟨(some 19), .load 5 true (.t 5), none, []⟩, ⟨(some 20), .call (.c (.fn (.func 28) [] [])) [(.t 17), (.t 18), (.t 19)], none, []⟩, ⟨(some 8), .mov (.t 20), none, []⟩]) (
 .seq (
 .seq (
 .region false [ ⟨(some 21), .mov (.t 7), none, []⟩, ⟨(some 22), .un .not (.t 21), none, []⟩, ⟨(some 23), .mov (.t 22), none, []⟩, ⟨(some 24), .mov (.t 8), (some (23, false)), []⟩, ⟨(some 25), .un .not (.t 24), (some (23, false)), []⟩, ⟨(some 26), .pick (.t 23) (.c (.bool true)) (.t 25), none, []⟩, ⟨(some 27), .mov (.t 26), none, []⟩, ⟨(some 28), .load 1 true (.t 3), (some (27, false)), []⟩, ⟨(some 29), .load 6 true (.t 4), (some (27, false)), []⟩, ⟨(some 30), .load 5 true (.t 5), (some (27, false)), []⟩, ⟨(some 31), .call (.c (.fn (.func 29) [] [])) [(.t 28), (.t 29), (.t 30)], (some (27, false)), []⟩, ⟨(some 32), .un .not (.t 31), (some (27, false)), []⟩, ⟨(some 33), .pick (.t 27) (.c (.bool true)) (.t 32), none, []⟩, ⟨(some 34), .mov (.t 33), none, []⟩, ⟨(some 35), .faddr 0 1 false (.t 5), (some (34, false)), []⟩, ⟨(some 36), .load 1 false (.t 35), (some (34, false)), []⟩, ⟨(some 37), .bin .neq (.t 36) (.c (.int .i64 3)), (some (34, false)), []⟩, ⟨(some 38), .mov (.t 37), (some (34, false)), []⟩, ⟨(some 39), .faddr 0 1 false (.t 5), (some (38, true)), []⟩, ⟨(some 40), .load 1 false (.t 39), (some (38, true)), []⟩, ⟨(some 41), .bin .neq (.t 40) (.c (.int .i64 2)), (some (38, true)), []⟩, ⟨(some 42), .pick (.t 38) (.t 41) (.c (.bool false)), (some (34, false)), []⟩, ⟨(some 43), .pick (.t 34) (.c (.bool true)) (.t 42), none, []⟩]) (
 .cond (.t 43) (
 .seq (
 .region false [ ⟨(some 44), .mov (.t 7), none, []⟩, ⟨(some 6), .mov (.t 44), none, []⟩]) (
 .ret)) (
 .skip))) (
 .seq (
 .region false [ ⟨(some 45), .faddr 2 2 true (.t 5), none, []⟩, ⟨(some 46), .load 2 true (.t 45), none, []⟩, ⟨(some 47), .faddr 4 1 false (.t 5), none, []⟩, ⟨(some 48), .load 1 false (.t 47), none, []⟩, ⟨(some 49), .build [.int .i64 0, .int .i64 0, .int .i64 0, .int .i64 0, .sl .full []] [(0, 1, (.c (.int .i64 2))), (2, 2, (.t 46)), (4, 1, (.t 48))], none, []⟩, ⟨(some 9), .alloc (.agg [.int .i64 0, .int .i64 0, .int .i64 0, .int .i64 0, .sl .full []]), none, []⟩, ⟨none, .store 5 (.t 9) (.t 49), none, []⟩]) (
 .seq (
 .region false [ ⟨(some 50), .faddr 4 1 false (.t 5), none, []⟩, ⟨(some 51), .load 1 false (.t 50), none, []⟩, ⟨(some 52), .build [.int .i64 0, .int .i64 0, .int .i64 0, .int .i64 0, .sl .full []] [(0, 1, (.c (.int .i64 1))), (4, 1, (.t 51))], none, []⟩, ⟨(some 10), .alloc (.agg [.int .i64 0, .int .i64 0, .int .i64 0, .int .i64 0, .sl .full []]), none, []⟩, ⟨none, .store 5 (.t 10) (.t 52), none, []⟩]) (
 .seq (
 .region true [ ⟨(some 53), .faddr 0 1 false (.t 5), none, []⟩, ⟨(some 54), .load 1 false (.t 53), none, [0]⟩, ⟨(some 55), .faddr 2 2 true (.t 5), none, []⟩, ⟨(some 56), .iaddrA 2 1 false (.t 55) (.c (.int .i64 1)), none, [2]⟩, ⟨(some 57), .load 1 false (.t 56), none, [3, 2]⟩, ⟨(some 58), .faddr 2 2 true (.t 5), none, []⟩, ⟨(some 59), .iaddrA 2 1 false (.t 58) (.c (.int .i64 0)), none, [5]⟩, ⟨(some 60), .load 1 false (.t 59), none, [6, 5]⟩, ⟨(some 61), .build [.int .i64 0, .int .i64 0] [(0, 1, (.t 57)), (1, 1, (.t 60))], none, [4, 3, 2, 7, 6, 5]⟩, ⟨(some 62), .faddr 4 1 false (.t 5), none, []⟩, ⟨(some 63), .load 1 false (.t 62), none, [9]⟩, ⟨(some 64), .iaddr 5 (.t 63) (.c (.int .i64 1)), none, [10, 9]⟩, ⟨(some 65), .load 5 true (.t 64), none, [11, 10, 9]⟩, ⟨(some 66), .faddr 4 1 false (.t 5), none, []⟩, ⟨(some 67), .load 1 false (.t 66), none, [13]⟩, ⟨(some 68), .iaddr 5 (.t 67) (.c (.int .i64 0)), none, [14, 13]⟩, ⟨(some 69), .load 5 true (.t 68), none, [15, 14, 13]⟩, ⟨(some 70), .bslice 5 (.agg [.int .i64 0, .int .i64 0, .int .i64 0, .int .i64 0, .sl .full []]) 2 [(0, (.t 65)), (1, (.t 69))], none, [12, 11, 10, 9, 16, 15, 14, 13]⟩, ⟨(some 71), .build [.int .i64 0, .int .i64 0, .int .i64 0, .int .i64 0, .sl .full []] [(0, 1, (.t 54)), (2, 2, (.t 61)), (4, 1, (.t 70))], none, [1, 0, 8, 4, 3, 2, 7, 6, 5, 17, 12, 11, 10, 9, 16, 15, 14, 13]⟩, ⟨(some 11), .alloc (.agg [.int .i64 0, .int .i64 0, .int .i64 0, .int .i64 0, .sl .full []]), none, []⟩, ⟨none, .store 5 (.t 11) (.t 71), none, [19, 18, 1, 0, 8, 4, 3, 2, 7, 6, 5, 17, 12, 11, 10, 9, 16, 15, 14, 13]⟩]) (
 .seq (
 .region false [ ⟨(some 73), .load 5 true (.t 5), none, []⟩, ⟨(some 74), .call (.c (.fn (.func 30) [] [])) [(.t 73)], none, []⟩, ⟨(some 72), .mov (.t 74), none, []⟩, ⟨(some 75), .ext (.t 72) 0, none, []⟩, ⟨(some 76), .ext (.t 72) 1, none, []⟩, ⟨(some 12), .alloc (.agg [.int .i64 0, .sl .full []]), none, []⟩, ⟨none, .store 2 (.t 12) (.t 75), none, []⟩, ⟨(some 13), .mov (.t 76), none, []⟩]) (
 .seq (
 .region false [ ⟨(some 78), .load 5 true (.t 11), none, []⟩, ⟨(some 79), .call (.c (.fn (.func 30) [] [])) [(.t 78)], none, []⟩, ⟨(some 77), .mov (.t 79), none, []⟩, ⟨(some 80), .ext (.t 77) 0, none, []⟩, ⟨(some 81), .ext (.t 77) 1, none, []⟩, ⟨(some 14), .alloc (.agg [.int .i64 0, .sl .full []]), none, []⟩, ⟨none, .store 2 (.t 14) (.t 80), none, []⟩, ⟨(some 15), .mov (.t 81), none, []⟩]) (
 .seq (
 .region true [ ⟨(some 82), .load 1 true (.t 3), none, []⟩, ⟨(some 83), .load 6 true (.t 4), none, []⟩, ⟨(some 84), .load 5 true (.t 9), none, []⟩, ⟨(some 85), .call (.c (.fn (.func 29) [] [])) [(.t 82), (.t 83), (.t 84)], none, [0, 1, 2]⟩, ⟨(some 86), .mov (.t 85), none, [3, 0, 1, 2]⟩, ⟨(some 87), .load 1 true (.t 3), (some (86, true)), [4, 3, 0, 1, 2]⟩, ⟨(some 88), .load 6 true (.t 4), (some (86, true)), [4, 3, 0, 1, 2]⟩, ⟨(some 89), .load 5 true (.t 10), (some (86, true)), [4, 3, 0, 1, 2]⟩, ⟨(some 90), .call (.c (.fn (.func 29) [] [])) [(.t 87), (.t 88), (.t 89)], (some (86, true)), [5, 4, 3, 0, 1, 2, 6, 7]⟩, ⟨(some 91), .pick (.t 86) (.t 90) (.c (.bool false)), none, [4, 3, 0, 1, 2, 8, 5, 6, 7]⟩, ⟨(some 92), .mov (.t 91), none, [9, 4, 3, 0, 1, 2, 8, 5, 6, 7]⟩, ⟨(some 93), .load 1 true (.t 3), (some (92, true)), [10, 9, 4, 3, 0, 1, 2, 8, 5, 6, 7]⟩, ⟨(some 94), .load 6 true (.t 4), (some (92, true)), [10, 9, 4, 3, 0, 1, 2, 8, 5, 6, 7]⟩, ⟨(some 95), .load 5 true (.t 11), (some (92, true)), [10, 9, 4, 3, 0, 1, 2, 8, 5, 6, 7]⟩, ⟨(some 96), .call (.c (.fn (.func 29) [] [])) [(.t 93), (.t 94), (.t 95)], (some (92, true)), [11, 10, 9, 4, 3, 0, 1, 2, 8, 5, 6, 7, 12, 13]⟩, ⟨(some 97), .pick (.t 92) (.t 96) (.c (.bool false)), none, [10, 9, 4, 3, 0, 1, 2, 8, 5, 6, 7, 14, 11, 12, 13]⟩, ⟨(some 98), .mov (.t 97), none, [15, 10, 9, 4, 3, 0, 1, 2, 8, 5, 6, 7, 14, 11, 12, 13]⟩, ⟨(some 99), .load 2 true (.t 12), (some (98, true)), [16, 15, 10, 9, 4, 3, 0, 1, 2, 8, 5, 6, 7, 14, 11, 12, 13]⟩, ⟨(some 100), .call (.c (.fn (.func 33) [] [])) [(.t 99)], (some (98, true)), [17, 16, 15, 10, 9, 4, 3, 0, 1, 2, 8, 5, 6, 7, 14, 11, 12, 13]⟩, ⟨(some 101), .load 2 true (.t 14), (some (98, true)), [16, 15, 10, 9, 4, 3, 0, 1, 2, 8, 5, 6, 7, 14, 11, 12, 13]⟩, ⟨(some 102), .call (.c (.fn (.func 33) [] [])) [(.t 101)], (some (98, true)), [19, 16, 15, 10, 9, 4, 3, 0, 1, 2, 8, 5, 6, 7, 14, 11, 12, 13, 18, 17]⟩, ⟨(some 103), .bin .eql (.t 100) (.t 102), (some (98, true)), [18, 17, 16, 15, 10, 9, 4, 3, 0, 1, 2, 8, 5, 6, 7, 14, 11, 12, 13, 20, 19]⟩, ⟨(some 104), .pick (.t 98) (.t 103) (.c (.bool false)), none, [16, 15, 10, 9, 4, 3, 0, 1, 2, 8, 5, 6, 7, 14, 11, 12, 13, 21, 18, 17, 20, 19]⟩, ⟨(some 105), .mov (.t 104), none, [22, 16, 15, 10, 9, 4, 3, 0, 1, 2, 8, 5, 6, 7, 14, 11, 12, 13, 21, 18, 17, 20, 19]⟩, ⟨(some 106), .load 5 true (.t 9), (some (105, true)), [23, 22, 16, 15, 10, 9, 4, 3, 0, 1, 2, 8, 5, 6, 7, 14, 11, 12, 13, 21, 18, 17, 20, 19]⟩, ⟨(some 107), .call (.c (.fn (.func 38) [] [])) [(.t 106)], (some (105, true)), [24, 23, 22, 16, 15, 10, 9, 4, 3, 0, 1, 2, 8, 5, 6, 7, 14, 11, 12, 13, 21, 18, 17, 20, 19]⟩, ⟨(some 108), .bin .eql (.t 107) (.c (.int .i64 (-1))), (some (105, true)), [25, 24, 23, 22, 16, 15, 10, 9, 4, 3, 0, 1, 2, 8, 5, 6, 7, 14, 11, 12, 13, 21, 18, 17, 20, 19]⟩, ⟨(some 109), .pick (.t 105) (.t 108) (.c (.bool false)), none, [23, 22, 16, 15, 10, 9, 4, 3, 0, 1, 2, 8, 5, 6, 7, 14, 11, 12, 13, 21, 18, 17, 20, 19, 26, 25, 24]⟩, ⟨(some 6), .mov (.t 109), none, [27, 23, 22, 16, 15, 10, 9, 4, 3, 0, 1, 2, 8, 5, 6, 7, 14, 11, 12, 13, 21, 18, 17, 20, 19, 26, 25, 24]⟩]) (
 .ret)))))))))), [.tmp 6]⟩
theorem F5_ok : compFun Tryz.prog Tryz.f5 3 [] = some F5 := by kernel_rfl
/-- roadbook/roadbooklaw11.PlanForm -/
def F7 : SFun := ⟨4, 
 .seq (
 .region false [ ⟨(some 4), .box (.t 0), none, []⟩, ⟨(some 5), .box (.t 1), none, []⟩, ⟨(some 6), .box (.t 2), none, []⟩, ⟨(some 7), .box (.t 3), none, []⟩, ⟨(some 8), .mov (.c (.bool false)), none, []⟩]) (
 .seq (
 .region false [ ⟨(some 15), .call (.c (.fn (.func 27) [] [])) [], none, []⟩, ⟨(some 9), .mov (.t 15), none, []⟩]) (
 .seq (
 .region false [ ⟨(some 16), .load 1 true (.t 4), none, []⟩, ⟨(some 17), .load 6 true (.t 5), none, []⟩, ⟨(some 18), .load 5 true (.t 6), none, []⟩, ⟨(some 19), .call (.c (.fn (.func 28) [] [])) [(.t 16), (.t 17), (.t 18)], none, []⟩, ⟨(some 10), .mov (.t 19), none, []⟩]) (
 .seq (
 .region false [ ⟨(some 20), .load 1 true (.t 4), none, []⟩, ⟨(some 21), .load 6 true (.t 5), none, []⟩, ⟨(some 22), .load 5 true (.t 7), none, []⟩, ⟨(some 23), .call (.c (.fn (.func 28) [] [])) [(.t 20), (.t 21), (.t 22)], none, []⟩, ⟨(some 11), .mov (.t 23), none, []⟩]) (
 .seq (
 .seq (
 .region false [ ⟨(some 24), .mov (.t 9), none, []⟩, ⟨(some 25), .un .not (.t 24), none, []⟩, ⟨(some 26), .mov (.t 25), none, []⟩, ⟨(some 27), .mov (.t 10), (some (26, false)), []⟩, ⟨(some 28), .un .not (.t 27), (some (26, false)), []⟩, ⟨(some 29), .pick (.t 26) (.c (.bool true)) (.t 28), none, []⟩, ⟨(some 30), .mov (.t 29), none, []⟩, ⟨(some 31), .mov (.t 11), (some (30, false)), []⟩, ⟨(some 32), .un .not (.t 31), (some (30, false)), []⟩, ⟨(some 33), .pick (.t 30) (.c (.bool true)) (.t 32), none, []⟩]) (
 .cond (.t 33) (
 .seq (
 .region false [ ⟨(some 34), .mov (.t 9), none, []⟩, ⟨(some 8), .mov (.t 34), none, []⟩]) (
 .ret)) (
 .skip))) (
 .seq (
 .seq (
 .region false [ ⟨(some 12), .mov (.c (.int .i64 0)), none, []⟩]) (
 .block 0 (
 .loop [4, 5, 6, 7, 12] (
 .seq (
 .seq (
 .region false [ ⟨(some 35), .mov (.t 12), none, []⟩, ⟨(some 36), .faddr 4 1 false (.t 6), none, []⟩, ⟨(some 37), .load 1 false (.t 36), none, []⟩, ⟨(some 38), .len (.t 37), none, []⟩, ⟨(some 39), .bin .lss (.t 35) (.t 38), none, []⟩]) (
 .cond (.t 39) (
 .skip) (
 .exit 0))) (
 .seq (
 .block 1 (
 .seq (
 .region false [ ⟨(some 42), .load 5 true (.t 6), none, []⟩, ⟨(some 43), .call (.c (.fn (.func 31) [] [])) [(.t 42)], none, []⟩, ⟨(some 44), .mov (.t 43), none, []⟩, ⟨(some 45), .faddr 4 1 false (.t 6), (some (44, true)), []⟩, ⟨(some 46), .load 1 false (.t 45), (some (44, true)), []⟩, ⟨(some 47), .mov (.t 12), (some (44, true)), []⟩, ⟨(some 48), .iaddr 5 (.t 46) (.t 47), (some (44, true)), []⟩, ⟨(some 49), .load 5 true (.t 48), (some (44, true)), []⟩, ⟨(some 50), .call (.c (.fn (.func 31) [] [])) [(.t 49)], (some (44, true)), []⟩, ⟨(some 51), .un .not (.t 50), (some (44, true)), []⟩, ⟨(some 52), .pick (.t 44) (.t 51) (.c (.bool false)), none, []⟩]) (
 .cond (.t 52) (
 .seq (
 .region false [ ⟨(some 8), .mov (.c (.bool false)), none, []⟩]) (
 .ret)) (
 .skip)))) (
 .region false [ ⟨(some 40), .mov (.t 12), none, []⟩, ⟨(some 41), .bin .add (.t 40) (.c (.int .i64 1)), none, []⟩, ⟨(some 12), .mov (.t 41), none, []⟩])))))) (
 .seq (
 .seq (
 .region true [ ⟨(some 53), .load 5 true (.t 6), none, []⟩, ⟨(some 54), .load 5 true (.t 7), none, []⟩, ⟨(some 55), .call (.c (.fn (.func 45) [] [])) [(.t 53), (.t 54)], none, [0, 1]⟩, ⟨(some 56), .mov (.t 55), none, [2, 0, 1]⟩, ⟨(some 57), .load 1 true (.t 4), (some (56, true)), [3, 2, 0, 1]⟩, ⟨(some 58), .load 6 true (.t 5), (some (56, true)), [3, 2, 0, 1]⟩, ⟨(some 59), .load 5 true (.t 6), (some (56, true)), [3, 2, 0, 1]⟩, ⟨(some 60), .call (.c (.fn (.func 35) [] [])) [(.t 57), (.t 58), (.t 59)], (some (56, true)), [4, 3, 2, 0, 1, 5, 6]⟩, ⟨(some 61), .load 1 true (.t 4), (some (56, true)), [3, 2, 0, 1]⟩, ⟨(some 62), .load 6 true (.t 5), (some (56, true)), [3, 2, 0, 1]⟩, ⟨(some 63), .load 5 true (.t 7), (some (56, true)), [3, 2, 0, 1]⟩, ⟨(some 64), .call (.c (.fn (.func 35) [] [])) [(.t 61), (.t 62), (.t 63)], (some (56, true)), [8, 3, 2, 0, 1, 9, 10, 7, 4, 5, 6]⟩, ⟨(some 65), .bin .neq (.t 60) (.t 64), (some (56, true)), [7, 4, 3, 2, 0, 1, 5, 6, 11, 8, 9, 10]⟩, ⟨(some 66), .mov (.t 65), (some (56, true)), [12, 7, 4, 3, 2, 0, 1, 5, 6, 11, 8, 9, 10]⟩, ⟨(some 67), .load 5 true (.t 6), (some (66, false)), [13, 12, 7, 4, 3, 2, 0, 1, 5, 6, 11, 8, 9, 10]⟩, ⟨(some 68), .call (.c (.fn (.func 31) [] [])) [(.t 67)], (some (66, false)), [14, 13, 12, 7, 4, 3, 2, 0, 1, 5, 6, 11, 8, 9, 10]⟩, ⟨(some 69), .load 5 true (.t 7), (some (66, false)), [13, 12, 7, 4, 3, 2, 0, 1, 5, 6, 11, 8, 9, 10]⟩, ⟨(some 70), .call (.c (.fn (.func 31) [] [])) [(.t 69)], (some (66, false)), [16, 13, 12, 7, 4, 3, 2, 0, 1, 5, 6, 11, 8, 9, 10, 15, 14]⟩, ⟨(some 71), .eqb true (.t 68) (.t 70), (some (66, false)), [15, 14, 13, 12, 7, 4, 3, 2, 0, 1, 5, 6, 11, 8, 9, 10, 17, 16]⟩, ⟨(some 72), .pick (.t 66) (.c (.bool true)) (.t 71), (some (56, true)), [13, 12, 7, 4, 3, 2, 0, 1, 5, 6, 11, 8, 9, 10, 18, 15, 14, 17, 16]⟩, ⟨(some 73), .pick (.t 56) (.t 72) (.c (.bool false)), none, [3, 2, 0, 1, 19, 13, 12, 7, 4, 5, 6, 11, 8, 9, 10, 18, 15, 14, 17, 16]⟩]) (
 .cond (.t 73) (
 .seq (
 .region false [ ⟨(some 8), .mov (.c (.bool false)), none, []⟩]) (
 .ret)) (
 .skip))) (
 .seq (
 .region false [ ⟨(some 74), .faddr 2 2 true (.t 6), none, []⟩, ⟨(some 75), .load 2 true (.t 74), none, []⟩, ⟨(some 76), .load 5 true (.t 6), none, []⟩, ⟨(some 77), .bslice 5 (.agg [.int .i64 0, .int .i64 0, .int .i64 0, .int .i64 0, .sl .full []]) 1 [(0, (.t 76))], none, []⟩, ⟨(some 78), .build [.int .i64 0, .int .i64 0, .int .i64 0, .int .i64 0, .sl .full []] [(0, 1, (.c (.int .i64 4))), (2, 2, (.t 75)), (4, 1, (.t 77))], none, []⟩, ⟨(some 13), .alloc (.agg [.int .i64 0, .int .i64 0, .int .i64 0, .int .i64 0, .sl .full []]), none, []⟩, ⟨none, .store 5 (.t 13) (.t 78), none, []⟩]) (
 .seq (
 .seq (
 .region false [ ⟨(some 79), .faddr 0 1 false (.t 6), none, []⟩, ⟨(some 80), .load 1 false (.t 79), none, []⟩, ⟨(some 81), .bin .neq (.t 80) (.c (.int .i64 4)), none, []⟩, ⟨(some 82), .mov (.t 81), none, []⟩, ⟨(some 83), .load 1 true (.t 4), (some (82, false)), []⟩, ⟨(some 84), .load 6 true (.t 5), (some (82, false)), []⟩, ⟨(some 85), .load 5 true (.t 6), (some (82, false)), []⟩, ⟨(some 86), .call (.c (.fn (.func 29) [] [])) [(.t 83), (.t 84), (.t 85)], (some (82, false)), []⟩, ⟨(some 87), .un .not (.t 86), (some (82, false)), []⟩, ⟨(some 88), .pick (.t 82) (.c (.bool true)) (.t 87), none, []⟩, ⟨(some 89), .mov (.t 88), none, []⟩, ⟨(some 90), .load 5 true (.t 13), (some (89, false)), []⟩, ⟨(some 91), .call (.c (.fn (.func 31) [] [])) [(.t 90)], (some (89, false)), []⟩, ⟨(some 92), .un .not (.t 91), (some (89, false)), []⟩, ⟨(some 93), .pick (.t 89) (.c (.bool true)) (.t 92), none, []⟩]) (
 .cond (.t 93) (
 .seq (
 .region false [ ⟨(some 8), .mov (.c (.bool true)), none, []⟩]) (
 .ret)) (
 .skip))) (
 .seq (
 .region false [ ⟨(some 94), .load 1 true (.t 4), none, []⟩, ⟨(some 95), .load 6 true (.t 5), none, []⟩, ⟨(some 96), .load 5 true (.t 6), none, []⟩, ⟨(some 97), .call (.c (.fn (.func 51) [] [])) [(.t 94), (.t 95), (.t 96)], none, []⟩, ⟨(some 98), .call (.c (.fn (.func 36) [] [])) [(.t 97)], none, []⟩, ⟨(some 14), .mov (.t 98), none, []⟩]) (
 .seq (
 .region true [ ⟨(some 99), .load 1 true (.t 4), none, []⟩, ⟨(some 100), .load 6 true (.t 5), none, []⟩, ⟨(some 101), .load 5 true (.t 13), none, []⟩, ⟨(some 102), .call (.c (.fn (.func 29) [] [])) [(.t 99), (.t 100), (.t 101)], none, [0, 1, 2]⟩, ⟨(some 103), .mov (.t 102), none, [3, 0, 1, 2]⟩, ⟨(some 104), .load 1 true (.t 4), (some (103, true)), [4, 3, 0, 1, 2]⟩, ⟨(some 105), .load 6 true (.t 5), (some (103, true)), [4, 3, 0, 1, 2]⟩, ⟨(some 106), .load 5 true (.t 13), (some (103, true)), [4, 3, 0, 1, 2]⟩, ⟨(some 107), .call (.c (.fn (.func 35) [] [])) [(.t 104), (.t 105), (.t 106)], (some (103, true)), [5, 4, 3, 0, 1, 2, 6, 7]⟩, ⟨(some 108), .load 1 true (.t 4), (some (103, true)), [4, 3, 0, 1, 2]⟩, ⟨(some 109), .load 6 true (.t 5), (some (103, true)), [4, 3, 0, 1, 2]⟩, ⟨(some 110), .faddr 4 1 false (.t 6), (some (103, true)), [4, 3, 0, 1, 2]⟩, ⟨(some 111), .load 1 false (.t 110), (some (103, true)), [11, 4, 3, 0, 1, 2]⟩, ⟨(some 112), .iaddr 5 (.t 111) (.c (.int .i64 0)), (some (103, true)), [12, 11, 4, 3, 0, 1, 2]⟩, ⟨(some 113), .load 5 true (.t 112), (some (103, true)), [13, 12, 11, 4, 3, 0, 1, 2]⟩, ⟨(some 114), .call (.c (.fn (.func 35) [] [])) [(.t 108), (.t 109), (.t 113)], (some (103, true)), [9, 4, 3, 0, 1, 2, 10, 14, 13, 12, 11, 8, 5, 6, 7]⟩, ⟨(some 115), .mov (.t 14), (some (103, true)), [4, 3, 0, 1, 2]⟩, ⟨(some 116), .mov (.t 14), (some (103, true)), [4, 3, 0, 1, 2]⟩, ⟨(some 117), .bslice 1 (.int .i64 0) 3 [(0, (.t 114)), (1, (.t 115)), (2, (.t 116))], (some (103, true)), [15, 9, 4, 3, 0, 1, 2, 10, 14, 13, 12, 11, 8, 5, 6, 7, 16, 17]⟩, ⟨(some 118), .call (.c (.fn (.func 34) [] [])) [(.t 117)], (some (103, true)), [18, 15, 9, 4, 3, 0, 1, 2, 10, 14, 13, 12, 11, 8, 5, 6, 7, 16, 17]⟩, ⟨(some 119), .bin .eql (.t 107) (.t 118), (some (103, true)), [8, 5, 4, 3, 0, 1, 2, 6, 7, 19, 18, 15, 9, 10, 14, 13, 12, 11, 16, 17]⟩, ⟨(some 120), .pick (.t 103) (.t 119) (.c (.bool false)), none, [4, 3, 0, 1, 2, 20, 8, 5, 6, 7, 19, 18, 15, 9, 10, 14, 13, 12, 11, 16, 17]⟩, ⟨(some 8), .mov (.t 120), none, [21, 4, 3, 0, 1, 2, 20, 8, 5, 6, 7, 19, 18, 15, 9, 10, 14, 13, 12, 11, 16, 17]⟩]) (
 .ret))))))))))), [.tmp 8]⟩
theorem F7_ok : compFun Tryz.prog Tryz.f7 4 [[4, 5, 6, 7, 12]] = some F7 := by kernel_rfl
/-- roadbook/roadbooklaw11.awake -/
def F27 : SFun := ⟨0, 
 .seq (
 .region false [ ⟨(some 0), .mov (.c (.bool false)), none, []⟩]) (
 .seq (
 .region false [ ⟨(some 8), .call (.c (.fn (.func 99) [] [])) [], none, []⟩, ⟨(some 7), .mov (.t 8), none, []⟩, ⟨(some 9), .ext (.t 7) 0, none, []⟩, ⟨(some 10), .ext (.t 7) 1, none, []⟩, ⟨(some 1), .alloc (.agg [.sl .full []]), none, []⟩, ⟨(some 2), .alloc (.agg [.sl .full []]), none, []⟩, ⟨none, .store 1 (.t 1) (.t 9), none, []⟩, ⟨none, .store 1 (.t 2) (.t 10), none, []⟩]) (
 .seq (
 .region false [ ⟨(some 11), .bslice 1 (.int .i64 0) 2 [(0, (.c (.int .i64 0))), (1, (.c (.int .i64 1)))], none, []⟩, ⟨(some 12), .bslice 1 (.int .i64 0) 1 [(0, (.c (.int .i64 0)))], none, []⟩, ⟨(some 13), .build [.sl .full [], .sl .full [], .int .i64 0, .sl .full [], .sl .full [], .int .i64 0] [(0, 1, (.t 11)), (2, 1, (.c (.int .i64 (-1)))), (4, 1, (.t 12)), (5, 1, (.c (.int .i64 (-1))))], none, []⟩, ⟨(some 3), .alloc (.agg [.sl .full [], .sl .full [], .int .i64 0, .sl .full [], .sl .full [], .int .i64 0]), none, []⟩, ⟨none, .store 6 (.t 3) (.t 13), none, []⟩]) (
 .seq (
 .region false [ ⟨(some 14), .build [.int .i64 0, .int .i64 0, .int .i64 0, .int .i64 0, .sl .full []] [], none, []⟩, ⟨(some 15), .build [.int .i64 0, .int .i64 0, .int .i64 0, .int .i64 0, .sl .full []] [(1, 1, (.c (.int .i64 1)))], none, []⟩, ⟨(some 16), .bslice 5 (.agg [.int .i64 0, .int .i64 0, .int .i64 0, .int .i64 0, .sl .full []]) 2 [(0, (.t 14)), (1, (.t 15))], none, []⟩, ⟨(some 17), .build [.int .i64 0, .int .i64 0, .int .i64 0, .int .i64 0, .sl .full []] [(0, 1, (.c (.int .i64 1))), (4, 1, (.t 16))], none, []⟩, ⟨(some 4), .alloc (.agg [.int .i64 0, .int .i64 0, .int .i64 0, .int .i64 0, .sl .full []]), none, []⟩, ⟨none, .store 5 (.t 4) (.t 17), none, []⟩]) (
 .seq (
 .region false [ ⟨(some 19), .load 5 true (.t 4), none, []⟩, ⟨(some 20), .call (.c (.fn (.func 30) [] [])) [(.t 19)], none, []⟩, ⟨(some 18), .mov (.t 20), none, []⟩, ⟨(some 21), .ext (.t 18) 0, none, []⟩, ⟨(some 22), .ext (.t 18) 1, none, []⟩, ⟨(some 5), .alloc (.agg [.int .i64 0, .sl .full []]), none, []⟩, ⟨none, .store 2 (.t 5) (.t 21), none, []⟩, ⟨(some 6), .mov (.t 22), none, []⟩]) (
 .seq (
 .region false [ ⟨(some 23), .load 1 true (.t 1), none, []⟩, ⟨(some 24), .load 6 true (.t 3), none, []⟩, ⟨(some 25), .load 5 true (.t 4), none, []⟩, ⟨(some 26), .call (.c (.fn (.func 29) [] [])) [(.t 23), (.t 24), (.t 25)], none, []⟩, ⟨(some 27), .mov (.t 26), none, []⟩, ⟨(some 28), .load 1 true (.t 1), (some (27, true)), []⟩, ⟨(some 29), .load 6 true (.t 3), (some (27, true)), []⟩, ⟨(some 30), .load 5 true (.t 4), (some (27, true)), []⟩, ⟨(some 31), .call (.c (.fn (.func 35) [] [])) [(.t 28), (.t 29), (.t 30)], (some (27, true)), []⟩, ⟨(some 32), .bin .eql (.t 31) (.c (.int .i64 1110)), (some (27, true)), []⟩, ⟨(some 33), .pick (.t 27) (.t 32) (.c (.bool false)), none, []⟩, ⟨(some 34), .mov (.t 33), none, []⟩, ⟨(some 35), .mov (.t 6), (some (34, true)), []⟩, ⟨(some 36), .pick (.t 34) (.t 35) (.c (.bool false)), none, []⟩, ⟨(some 37), .mov (.t 36), none, []⟩, ⟨(some 38), .load 2 true (.t 5), (some (37, true)), []⟩, ⟨(some 39), .call (.c (.fn (.func 100) [] [])) [(.t 38)], (some (37, true)), []⟩, ⟨(some 40), .eqs false (.t 39) (.c (.str ⟨⟨[40, 48, 49, 41]⟩⟩)), (some (37, true)), []⟩, ⟨(some 41), .pick (.t 37) (.t 40) (.c (.bool false)), none, []⟩, ⟨(some 42), .mov (.t 41), none, []⟩, ⟨(some 43), .load 5 true (.t 4), (some (42, true)), []⟩, ⟨(some 44), .call (.c (.fn (.func 38) [] [])) [(.t 43)], (some (42, true)), []⟩, ⟨(some 45), .bin .eql (.t 44) (.c (.int .i64 (-1))), (some (42, true)), []⟩, ⟨(some 46), .pick (.t 42) (.t 45) (.c (.bool false)), none, []⟩, ⟨(some 47), .mov (.t 46), none, []⟩, ⟨(some 48), .load 1 true (.t 1), (some (47, true)), []⟩, ⟨(some 49), .load 6 true (.t 3), (some (47, true)), []⟩, ⟨(some 50), .load 5 true (.t 4), (some (47, true)), []⟩, ⟨(some 51), .build [.int .i64 0, .int .i64 0, .int .i64 0, .int .i64 0, .sl .full [], .int .i64 0, .bool false] [(0, 5, (.t 50))], (some (47, true)), []⟩, ⟨(some 52), .call (.c (.fn (.func 39) [] [])) [(.t 48), (.t 49), (.t 51)], (some (47, true)), []⟩, ⟨(some 53), .bin .eql (.t 52) (.c (.int .i64 1110)), (some (47, true)), []⟩, ⟨(some 54), .pick (.t 47) (.t 53) (.c (.bool false)), none, []⟩, ⟨(some 0), .mov (.t 54), none, []⟩]) (
 .ret)))))), [.tmp 0]⟩
theorem F27_ok : compFun Tryz.prog Tryz.f27 0 [] = some F27 := by kernel_rfl
/-- roadbook/roadbooklaw11.small -/
def F28 : SFun := ⟨3, 
 .seq (
 .region false [ ⟨(some 3), .box (.t 0), none, []⟩, ⟨(some 4), .box (.t 1), none, []⟩, ⟨(some 5), .box (.t 2), none, []⟩, ⟨(some 6), .mov (.c (.bool false)), none, []⟩]) (
 .seq (
 .region false [ ⟨(some 7), .load 1 true (.t 3), none, []⟩, ⟨(some 8), .load 6 true (.t 4), none, []⟩, ⟨(some 9), .call (.c (.fn (.func 53) [] [])) [(.t 7), (.t 8)], none, []⟩, ⟨(some 10), .bin .eql (.t 9) (.c (.int .i64 0)), none, []⟩, ⟨(some 11), .mov (.t 10), none, []⟩, ⟨(some 12), .load 5 true (.t 5), (some (11, true)), []⟩, ⟨(some 13), .call (.c (.fn (.func 68) [] [])) [(.t 12), (.c (.int .i64 100))], (some (11, true)), []⟩, ⟨(some 14), .bin .leq (.t 13) (.c (.int .i64 100)), (some (11, true)), []⟩, ⟨(some 15), .pick (.t 11) (.t 14) (.c (.bool false)), none, []⟩, ⟨(some 6), .mov (.t 15), none, []⟩]) (
 .ret)), [.tmp 6]⟩
theorem F28_ok : compFun Tryz.prog Tryz.f28 3 [] = some F28 := by kernel_rfl
/-- roadbook/plan.May -/
def F29 : SFun := ⟨3, 
 .seq (
 .region false [ ⟨(some 3), .box (.t 0), none, []⟩, ⟨(some 4), .box (.t 1), none, []⟩, ⟨(some 5), .box (.t 2), none, []⟩, ⟨(some 6), .mov (.c (.bool false)), none, []⟩]) (
 .seq (
 .region false [ ⟨(some 10), .load 5 true (.t 5), none, []⟩, ⟨(some 11), .call (.c (.fn (.func 30) [] [])) [(.t 10)], none, []⟩, ⟨(some 9), .mov (.t 11), none, []⟩, ⟨(some 12), .ext (.t 9) 0, none, []⟩, ⟨(some 13), .ext (.t 9) 1, none, []⟩, ⟨(some 7), .alloc (.agg [.int .i64 0, .sl .full []]), none, []⟩, ⟨none, .store 2 (.t 7) (.t 12), none, []⟩, ⟨(some 8), .mov (.t 13), none, []⟩]) (
 .seq (
 .seq (
 .region true [ ⟨(some 14), .mov (.t 8), none, []⟩, ⟨(some 15), .un .not (.t 14), none, [0]⟩, ⟨(some 16), .mov (.t 15), none, [1, 0]⟩, ⟨(some 17), .load 1 true (.t 3), (some (16, false)), [2, 1, 0]⟩, ⟨(some 18), .load 6 true (.t 4), (some (16, false)), [2, 1, 0]⟩, ⟨(some 19), .call (.c (.fn (.func 62) [] [])) [(.t 17), (.t 18)], (some (16, false)), [3, 2, 1, 0, 4]⟩, ⟨(some 20), .un .not (.t 19), (some (16, false)), [5, 3, 2, 1, 0, 4]⟩, ⟨(some 21), .pick (.t 16) (.c (.bool true)) (.t 20), none, [2, 1, 0, 6, 5, 3, 4]⟩, ⟨(some 22), .mov (.t 21), none, [7, 2, 1, 0, 6, 5, 3, 4]⟩, ⟨(some 23), .load 2 true (.t 7), (some (22, false)), [8, 7, 2, 1, 0, 6, 5, 3, 4]⟩, ⟨(some 24), .call (.c (.fn (.func 33) [] [])) [(.t 23)], (some (22, false)), [9, 8, 7, 2, 1, 0, 6, 5, 3, 4]⟩, ⟨(some 25), .faddr 0 1 false (.t 4), (some (22, false)), [8, 7, 2, 1, 0, 6, 5, 3, 4]⟩, ⟨(some 26), .load 1 false (.t 25), (some (22, false)), [11, 8, 7, 2, 1, 0, 6, 5, 3, 4]⟩, ⟨(some 27), .len (.t 26), (some (22, false)), [12, 11, 8, 7, 2, 1, 0, 6, 5, 3, 4]⟩, ⟨(some 28), .bin .shr (.t 24) (.t 27), (some (22, false)), [10, 9, 8, 7, 2, 1, 0, 6, 5, 3, 4, 13, 12, 11]⟩, ⟨(some 29), .bin .gtr (.t 28) (.c (.int .i64 0)), (some (22, false)), [14, 10, 9, 8, 7, 2, 1, 0, 6, 5, 3, 4, 13, 12, 11]⟩, ⟨(some 30), .pick (.t 22) (.c (.bool true)) (.t 29), none, [8, 7, 2, 1, 0, 6, 5, 3, 4, 15, 14, 10, 9, 13, 12, 11]⟩]) (
 .cond (.t 30) (
 .seq (
 .region false [ ⟨(some 6), .mov (.c (.bool false)), none, []⟩]) (
 .ret)) (
 .skip))) (
 .seq (
 .region false [ ⟨(some 31), .load 5 true (.t 5), none, []⟩, ⟨(some 32), .mkfn (.func 102) [] [(.t 3), (.t 4)], none, []⟩, ⟨(some 33), .call (.c (.fn (.func 101) [] [])) [(.t 31), (.t 32)], none, []⟩, ⟨(some 6), .mov (.t 33), none, []⟩]) (
 .ret)))), [.tmp 6]⟩
theorem F29_ok : compFun Tryz.prog Tryz.f29 3 [] = some F29 := by kernel_rfl
/-- roadbook/plan.Tree -/
def F30 : SFun := ⟨1, 
 .seq (
 .region false [ ⟨(some 1), .box (.t 0), none, []⟩, ⟨(some 2), .alloc (.agg [.int .i64 0, .sl .full []]), none, []⟩, ⟨(some 3), .mov (.c (.bool false)), none, []⟩]) (
 .seq (
 .seq (
 .region false [ ⟨(some 5), .load 5 true (.t 1), none, []⟩, ⟨(some 6), .call (.c (.fn (.func 31) [] [])) [(.t 5)], none, []⟩, ⟨(some 7), .un .not (.t 6), none, []⟩]) (
 .cond (.t 7) (
 .seq (
 .region false [ ⟨(some 8), .build [.int .i64 0, .sl .full []] [], none, []⟩, ⟨none, .store 2 (.t 2) (.t 8), none, []⟩, ⟨(some 3), .mov (.c (.bool false)), none, []⟩]) (
 .ret)) (
 .skip))) (
 .seq (
 .region false [ ⟨(some 9), .load 5 true (.t 1), none, []⟩, ⟨(some 10), .call (.c (.fn (.func 104) [] [])) [(.t 9)], none, []⟩, ⟨(some 4), .alloc (.agg [.int .i64 0, .sl .full []]), none, []⟩, ⟨none, .store 2 (.t 4) (.t 10), none, []⟩]) (
 .seq (
 .seq (
 .region false [ ⟨(some 11), .load 2 true (.t 4), none, []⟩, ⟨(some 12), .call (.c (.fn (.func 63) [] [])) [(.t 11)], none, []⟩, ⟨(some 13), .un .not (.t 12), none, []⟩]) (
 .cond (.t 13) (
 .seq (
 .region false [ ⟨(some 14), .build [.int .i64 0, .sl .full []] [], none, []⟩, ⟨none, .store 2 (.t 2) (.t 14), none, []⟩, ⟨(some 3), .mov (.c (.bool false)), none, []⟩]) (
 .ret)) (
 .skip))) (
 .seq (
 .region false [ ⟨(some 15), .load 2 true (.t 4), none, []⟩, ⟨none, .store 2 (.t 2) (.t 15), none, []⟩, ⟨(some 3), .mov (.c (.bool true)), none, []⟩]) (
 .ret))))), [.cell 2 2 true, .tmp 3]⟩
theorem F30_ok : compFun Tryz.prog Tryz.f30 1 [] = some F30 := by kernel_rfl
/-- roadbook/plan.Few -/
def F31 : SFun := ⟨1, 
 .seq (
 .region false [ ⟨(some 1), .box (.t 0), none, []⟩, ⟨(some 2), .mov (.c (.bool false)), none, []⟩]) (
 .seq (
 .region false [ ⟨(some 3), .alloc (.int .i64 0), none, []⟩, ⟨none, .store 1 (.t 3) (.c (.int .i64 0)), none, []⟩]) (
 .seq (
 .region false [ ⟨(some 4), .load 5 true (.t 1), none, []⟩, ⟨(some 5), .mkfn (.func 105) [] [(.t 3)], none, []⟩, ⟨(some 6), .call (.c (.fn (.func 101) [] [])) [(.t 4), (.t 5)], none, []⟩, ⟨(some 2), .mov (.t 6), none, []⟩]) (
 .ret))), [.tmp 2]⟩
theorem F31_ok : compFun Tryz.prog Tryz.f31 1 [] = some F31 := by kernel_rfl
/-- roadbook/query.Cols -/
def F32 : SFun := ⟨3, 
 .seq (
 .region false [ ⟨(some 3), .box (.t 0), none, []⟩, ⟨(some 4), .box (.t 1), none, []⟩, ⟨(some 6), .mov (.c (.sl .full [])), none, []⟩]) (
 .seq (
 .seq (
 .region false [ ⟨(some 7), .load 1 true (.t 3), none, []⟩, ⟨(some 8), .load 6 true (.t 4), none, []⟩, ⟨(some 9), .call (.c (.fn (.func 62) [] [])) [(.t 7), (.t 8)], none, []⟩, ⟨(some 10), .un .not (.t 9), none, []⟩]) (
 .cond (.t 10) (
 .seq (
 .region false [ ⟨(some 6), .mov (.c (.sl .full [])), none, []⟩]) (
 .ret)) (
 .skip))) (
 .seq (
 .region false [ ⟨(some 11), .load 1 true (.t 3), none, []⟩, ⟨(some 12), .load 6 true (.t 4), none, []⟩, ⟨(some 13), .mov (.t 2), none, []⟩, ⟨(some 14), .mkfn (.func 108) [(.t 13)] [], none, []⟩, ⟨(some 15), .call (.c (.fn (.func 107) [] [])) [(.t 11), (.t 12), (.t 14)], none, []⟩, ⟨(some 6), .mov (.t 15), none, []⟩]) (
 .ret))), [.tmp 6]⟩
theorem F32_ok : compFun Tryz.prog Tryz.f32 3 [] = some F32 := by kernel_rfl
/-- roadbook/tree.Set -/
def F33 : SFun := ⟨1, 
 .seq (
 .region false [ ⟨(some 1), .box (.t 0), none, []⟩, ⟨(some 2), .mov (.c (.int .i64 0)), none, []⟩]) (
 .seq (
 .region false [ ⟨(some 6), .load 2 true (.t 1), none, []⟩, ⟨(some 7), .call (.c (.fn (.func 109) [] [])) [(.t 6), (.c (.int .i64 4))], none, []⟩, ⟨(some 5), .mov (.t 7), none, []⟩, ⟨(some 8), .ext (.t 5) 0, none, []⟩, ⟨(some 9), .ext (.t 5) 1, none, []⟩, ⟨(some 3), .mov (.t 8), none, []⟩, ⟨(some 4), .mov (.t 9), none, []⟩]) (
 .seq (
 .seq (
 .region false [ ⟨(some 10), .mov (.t 4), none, []⟩, ⟨(some 11), .un .not (.t 10), none, []⟩]) (
 .cond (.t 11) (
 .seq (
 .region false [ ⟨(some 2), .mov (.c (.int .i64 0)), none, []⟩]) (
 .ret)) (
 .skip))) (
 .seq (
 .region false [ ⟨(some 12), .mov (.t 3), none, []⟩, ⟨(some 2), .mov (.t 12), none, []⟩]) (
 .ret)))), [.tmp 2]⟩
theorem F33_ok : compFun Tryz.prog Tryz.f33 1 [] = some F33 := by kernel_rfl
/-- roadbook/cost.Add -/
def F34 : SFun := ⟨1, 
 .seq (
 .region false [ ⟨(some 2), .mov (.c (.int .i64 0)), none, []⟩]) (
 .seq (
 .region false [ ⟨(some 3), .mov (.c (.int .i64 0)), none, []⟩]) (
 .seq (
 .seq (
 .region false [ ⟨(some 6), .mov (.t 0), none, []⟩, ⟨(some 7), .len (.t 6), none, []⟩, ⟨(some 8), .mov (.c (.int .i64 0)), none, []⟩]) (
 .block 0 (
 .loop [3, 6, 7, 8] (
 .seq (
 .region false [ ⟨(some 9), .bin .lss (.t 8) (.t 7), none, []⟩]) (
 .seq (
 .cond (.t 9) (
 .skip) (
 .exit 0)) (
 .seq (
 .block 1 (
 .seq (
 .region false [ ⟨(some 10), .iaddr 1 (.t 6) (.t 8), none, []⟩, ⟨(some 11), .load 1 false (.t 10), none, []⟩, ⟨(some 5), .mov (.t 11), none, []⟩]) (
 .region false [ ⟨(some 12), .mov (.t 3), none, []⟩, ⟨(some 13), .mov (.t 5), none, []⟩, ⟨(some 14), .mx true (.t 13) (.c (.int .i64 0)), none, []⟩, ⟨(some 15), .mx false (.t 14) (.c (.int .i64 1125899906842624)), none, []⟩, ⟨(some 16), .bin .add (.t 12) (.t 15), none, []⟩, ⟨(some 17), .mx false (.t 16) (.c (.int .i64 1125899906842624)), none, []⟩, ⟨(some 3), .mov (.t 17), none, []⟩]))) (
 .region false [ ⟨(some 18), .bin .add (.t 8) (.c (.int .i64 1)), none, []⟩, ⟨(some 8), .mov (.t 18), none, []⟩]))))))) (
 .seq (
 .region false [ ⟨(some 19), .mov (.t 3), none, []⟩, ⟨(some 2), .mov (.t 19), none, []⟩]) (
 .ret)))), [.tmp 2]⟩
theorem F34_ok : compFun Tryz.prog Tryz.f34 1 [[3, 6, 7, 8]] = some F34 := by kernel_rfl
/-- roadbook/plan.Cost -/
def F35 : SFun := ⟨3, 
 .seq (
 .region false [ ⟨(some 3), .box (.t 0), none, []⟩, ⟨(some 4), .box (.t 1), none, []⟩, ⟨(some 5), .box (.t 2), none, []⟩, ⟨(some 6), .mov (.c (.int .i64 0)), none, []⟩]) (
 .seq (
 .seq (
 .region false [ ⟨(some 8), .load 1 true (.t 3), none, []⟩, ⟨(some 9), .load 6 true (.t 4), none, []⟩, ⟨(some 10), .load 5 true (.t 5), none, []⟩, ⟨(some 11), .call (.c (.fn (.func 29) [] [])) [(.t 8), (.t 9), (.t 10)], none, []⟩, ⟨(some 12), .un .not (.t 11), none, []⟩]) (
 .cond (.t 12) (
 .seq (
 .region false [ ⟨(some 6), .mov (.c (.int .i64 1125899906842624)), none, []⟩]) (
 .ret)) (
 .skip))) (
 .seq (
 .region false [ ⟨(some 7), .alloc (.sl .full []), none, []⟩]) (
 .seq (
 .region false [ ⟨(some 13), .load 5 true (.t 5), none, []⟩, ⟨(some 14), .mkfn (.func 110) [] [(.t 7), (.t 3), (.t 4)], none, []⟩, ⟨(some 15), .call (.c (.fn (.func 101) [] [])) [(.t 13), (.t 14)], none, []⟩]) (
 .seq (
 .region false [ ⟨(some 16), .load 1 false (.t 7), none, []⟩, ⟨(some 17), .call (.c (.fn (.func 34) [] [])) [(.t 16)], none, []⟩, ⟨(some 6), .mov (.t 17), none, []⟩]) (
 .ret))))), [.tmp 6]⟩
theorem F35_ok : compFun Tryz.prog Tryz.f35 3 [] = some F35 := by kernel_rfl
/-- roadbook/cost.Sort -/
def F36 : SFun := ⟨1, 
 .seq (
 .region false [ ⟨(some 2), .mov (.c (.int .i64 0)), none, []⟩]) (
 .seq (
 .region false [ ⟨(some 3), .mov (.t 0), none, []⟩, ⟨(some 4), .call (.c (.fn (.func 113) [] [])) [(.t 3)], none, []⟩, ⟨(some 5), .mov (.t 0), none, []⟩, ⟨(some 6), .call (.c (.fn (.func 113) [] [])) [(.t 5)], none, []⟩, ⟨(some 7), .conv .u64 (.t 6), none, []⟩, ⟨(some 8), .call (.c (.fn (.func 114) [] [])) [(.t 7)], none, []⟩, ⟨(some 9), .call (.c (.fn (.func 112) [] [])) [(.t 4), (.t 8)], none, []⟩, ⟨(some 2), .mov (.t 9), none, []⟩]) (
 .ret)), [.tmp 2]⟩
theorem F36_ok : compFun Tryz.prog Tryz.f36 1 [] = some F36 := by kernel_rfl
/-- roadbook/card.Rows -/
def F37 : SFun := ⟨3, 
 .seq (
 .region false [ ⟨(some 3), .box (.t 0), none, []⟩, ⟨(some 4), .box (.t 1), none, []⟩, ⟨(some 6), .mov (.c (.int .i64 0)), none, []⟩]) (
 .seq (
 .seq (
 .region false [ ⟨(some 9), .load 1 true (.t 3), none, []⟩, ⟨(some 10), .load 6 true (.t 4), none, []⟩, ⟨(some 11), .call (.c (.fn (.func 62) [] [])) [(.t 9), (.t 10)], none, []⟩, ⟨(some 12), .un .not (.t 11), none, []⟩]) (
 .cond (.t 12) (
 .seq (
 .region false [ ⟨(some 6), .mov (.c (.int .i64 0)), none, []⟩]) (
 .ret)) (
 .skip))) (
 .seq (
 .region false [ ⟨(some 7), .mov (.c (.sl .full [])), none, []⟩]) (
 .seq (
 .seq (
 .region false [ ⟨(some 13), .faddr 0 1 false (.t 4), none, []⟩, ⟨(some 14), .load 1 false (.t 13), none, []⟩, ⟨(some 15), .len (.t 14), none, []⟩, ⟨(some 16), .mov (.c (.int .i64 0)), none, []⟩]) (
 .block 0 (
 .loop [2, 3, 4, 7, 15, 16] (
 .seq (
 .region false [ ⟨(some 17), .bin .lss (.t 16) (.t 15), none, []⟩]) (
 .seq (
 .cond (.t 17) (
 .skip) (
 .exit 0)) (
 .seq (
 .block 1 (
 .seq (
 .region false [ ⟨(some 18), .mov (.t 16), none, []⟩, ⟨(some 8), .mov (.t 18), none, []⟩]) (
 .seq (
 .region false [ ⟨(some 19), .mov (.t 2), none, []⟩, ⟨(some 20), .mov (.t 8), none, []⟩, ⟨(some 21), .bin .shr (.t 19) (.t 20), none, []⟩, ⟨(some 22), .bin .and (.t 21) (.c (.int .i64 1)), none, []⟩, ⟨(some 23), .bin .eql (.t 22) (.c (.int .i64 1)), none, []⟩]) (
 .cond (.t 23) (
 .region false [ ⟨(some 24), .mov (.t 7), none, []⟩, ⟨(some 25), .load 1 true (.t 3), none, []⟩, ⟨(some 26), .load 6 true (.t 4), none, []⟩, ⟨(some 27), .mov (.t 8), none, []⟩, ⟨(some 28), .call (.c (.fn (.func 82) [] [])) [(.t 25), (.t 26), (.t 27)], none, []⟩, ⟨(some 29), .bslice 1 (.int .i64 0) 1 [(0, (.t 28))], none, []⟩, ⟨(some 30), .append 3 1 8 (.t 24) (.t 29), none, []⟩, ⟨(some 7), .mov (.t 30), none, []⟩]) (
 .skip))))) (
 .region false [ ⟨(some 31), .bin .add (.t 16) (.c (.int .i64 1)), none, []⟩, ⟨(some 16), .mov (.t 31), none, []⟩]))))))) (
 .seq (
 .region true [ ⟨(some 32), .mov (.t 7), none, []⟩, ⟨(some 33), .call (.c (.fn (.func 115) [] [])) [(.t 32)], none, [0]⟩, ⟨(some 34), .load 6 true (.t 4), none, []⟩, ⟨(some 35), .mov (.t 2), none, []⟩, ⟨(some 36), .call (.c (.fn (.func 116) [] [])) [(.t 34), (.t 35)], none, [2, 3, 1, 0]⟩, ⟨(some 37), .bin .quo (.t 33) (.t 36), none, [1, 0, 4, 2, 3]⟩, ⟨(some 38), .mx true (.c (.int .i64 1)) (.t 37), none, [5, 1, 0, 4, 2, 3]⟩, ⟨(some 6), .mov (.t 38), none, [6, 5, 1, 0, 4, 2, 3]⟩]) (
 .ret))))), [.tmp 6]⟩
theorem F37_ok : compFun Tryz.prog Tryz.f37 3 [[2, 3, 4, 7, 15, 16]] = some F37 := by kernel_rfl
/-- roadbook/plan.Order -/
def F38 : SFun := ⟨1, 
 .seq (
 .region false [ ⟨(some 1), .box (.t 0), none, []⟩, ⟨(some 2), .mov (.c (.int .i64 0)), none, []⟩]) (
 .seq (
 .seq (
 .region false [ ⟨(some 3), .load 5 true (.t 1), none, []⟩, ⟨(some 4), .call (.c (.fn (.func 31) [] [])) [(.t 3)], none, []⟩, ⟨(some 5), .un .not (.t 4), none, []⟩]) (
 .cond (.t 5) (
 .seq (
 .region false [ ⟨(some 2), .mov (.c (.int .i64 (-1))), none, []⟩]) (
 .ret)) (
 .skip))) (
 .seq (
 .block 0 (
 .loop [1] (
 .seq (
 .seq (
 .region false [ ⟨(some 6), .faddr 0 1 false (.t 1), none, []⟩, ⟨(some 7), .load 1 false (.t 6), none, []⟩, ⟨(some 8), .bin .eql (.t 7) (.c (.int .i64 1)), none, []⟩]) (
 .cond (.t 8) (
 .skip) (
 .exit 0))) (
 .block 1 (
 .region false [ ⟨(some 9), .faddr 4 1 false (.t 1), none, []⟩, ⟨(some 10), .load 1 false (.t 9), none, []⟩, ⟨(some 11), .iaddr 5 (.t 10) (.c (.int .i64 0)), none, []⟩, ⟨(some 12), .load 5 true (.t 11), none, []⟩, ⟨none, .store 5 (.t 1) (.t 12), none, []⟩]))))) (
 .seq (
 .seq (
 .region false [ ⟨(some 13), .faddr 0 1 false (.t 1), none, []⟩, ⟨(some 14), .load 1 false (.t 13), none, []⟩, ⟨(some 15), .bin .eql (.t 14) (.c (.int .i64 4)), none, []⟩, ⟨(some 16), .mov (.t 15), none, []⟩, ⟨(some 17), .faddr 0 1 false (.t 1), (some (16, false)), []⟩, ⟨(some 18), .load 1 false (.t 17), (some (16, false)), []⟩, ⟨(some 19), .bin .eql (.t 18) (.c (.int .i64 3)), (some (16, false)), []⟩, ⟨(some 20), .pick (.t 16) (.c (.bool true)) (.t 19), none, []⟩]) (
 .cond (.t 20) (
 .seq (
 .region false [ ⟨(some 21), .faddr 2 2 true (.t 1), none, []⟩, ⟨(some 22), .iaddrA 2 1 false (.t 21) (.c (.int .i64 0)), none, []⟩, ⟨(some 23), .load 1 false (.t 22), none, []⟩, ⟨(some 2), .mov (.t 23), none, []⟩]) (
 .ret)) (
 .skip))) (
 .seq (
 .region false [ ⟨(some 2), .mov (.c (.int .i64 (-1))), none, []⟩]) (
 .ret))))), [.tmp 2]⟩
theorem F38_ok : compFun Tryz.prog Tryz.f38 1 [[1]] = some F38 := by kernel_rfl
/-- roadbook/plan.All -/
def F39 : SFun := ⟨3, 
 .seq (
 .region false [ ⟨(some 3), .box (.t 0), none, []⟩, ⟨(some 4), .box (.t 1), none, []⟩, ⟨(some 5), .box (.t 2), none, []⟩, ⟨(some 6), .mov (.c (.int .i64 0)), none, []⟩]) (
 .seq (
 .seq (
 .region false [ ⟨(some 8), .load 1 true (.t 3), none, []⟩, ⟨(some 9), .load 6 true (.t 4), none, []⟩, ⟨(some 10), .load 7 true (.t 5), none, []⟩, ⟨(some 11), .call (.c (.fn (.func 40) [] [])) [(.t 8), (.t 9), (.t 10)], none, []⟩, ⟨(some 12), .un .not (.t 11), none, []⟩]) (
 .cond (.t 12) (
 .seq (
 .region false [ ⟨(some 6), .mov (.c (.int .i64 1125899906842624)), none, []⟩]) (
 .ret)) (
 .skip))) (
 .seq (
 .region false [ ⟨(some 13), .load 1 true (.t 3), none, []⟩, ⟨(some 14), .load 6 true (.t 4), none, []⟩, ⟨(some 15), .faddr 0 5 true (.t 5), none, []⟩, ⟨(some 16), .load 5 true (.t 15), none, []⟩, ⟨(some 17), .call (.c (.fn (.func 35) [] [])) [(.t 13), (.t 14), (.t 16)], none, []⟩, ⟨(some 18), .bslice 1 (.int .i64 0) 1 [(0, (.t 17))], none, []⟩, ⟨(some 7), .mov (.t 18), none, []⟩]) (
 .seq (
 .seq (
 .region false [ ⟨(some 19), .faddr 5 1 false (.t 5), none, []⟩, ⟨(some 20), .load 1 false (.t 19), none, []⟩, ⟨(some 21), .bin .neq (.t 20) (.c (.int .i64 0)), none, []⟩]) (
 .cond (.t 21) (
 .region true [ ⟨(some 22), .mov (.t 7), none, []⟩, ⟨(some 23), .load 1 true (.t 3), none, []⟩, ⟨(some 24), .load 6 true (.t 4), none, []⟩, ⟨(some 25), .faddr 0 1 false (.t 4), none, []⟩, ⟨(some 26), .load 1 false (.t 25), none, [3]⟩, ⟨(some 27), .len (.t 26), none, [4, 3]⟩, ⟨(some 28), .bin .shl (.c (.int .i64 1)) (.t 27), none, [5, 4, 3]⟩, ⟨(some 29), .bin .sub (.t 28) (.c (.int .i64 1)), none, [6, 5, 4, 3]⟩, ⟨(some 30), .call (.c (.fn (.func 37) [] [])) [(.t 23), (.t 24), (.t 29)], none, [1, 2, 7, 6, 5, 4, 3]⟩, ⟨(some 31), .faddr 5 1 false (.t 5), none, []⟩, ⟨(some 32), .load 1 false (.t 31), none, [9]⟩, ⟨(some 33), .bin .eql (.t 32) (.c (.int .i64 1)), none, [10, 9]⟩, ⟨(some 34), .call (.c (.fn (.func 117) [] [])) [(.t 30), (.t 33)], none, [8, 1, 2, 7, 6, 5, 4, 3, 11, 10, 9]⟩, ⟨(some 35), .bslice 1 (.int .i64 0) 1 [(0, (.t 34))], none, [12, 8, 1, 2, 7, 6, 5, 4, 3, 11, 10, 9]⟩, ⟨(some 36), .append 3 1 8 (.t 22) (.t 35), none, [0, 13, 12, 8, 1, 2, 7, 6, 5, 4, 3, 11, 10, 9]⟩, ⟨(some 7), .mov (.t 36), none, [14, 0, 13, 12, 8, 1, 2, 7, 6, 5, 4, 3, 11, 10, 9]⟩]) (
 .skip))) (
 .seq (
 .seq (
 .region false [ ⟨(some 37), .faddr 6 1 false (.t 5), none, []⟩, ⟨(some 38), .load 1 false (.t 37), none, []⟩]) (
 .cond (.t 38) (
 .region false [ ⟨(some 39), .mov (.t 7), none, []⟩, ⟨(some 40), .load 1 true (.t 3), none, []⟩, ⟨(some 41), .load 6 true (.t 4), none, []⟩, ⟨(some 42), .call (.c (.fn (.func 118) [] [])) [(.t 40), (.t 41)], none, []⟩, ⟨(some 43), .call (.c (.fn (.func 36) [] [])) [(.t 42)], none, []⟩, ⟨(some 44), .bslice 1 (.int .i64 0) 1 [(0, (.t 43))], none, []⟩, ⟨(some 45), .append 3 1 8 (.t 39) (.t 44), none, []⟩, ⟨(some 7), .mov (.t 45), none, []⟩]) (
 .skip))) (
 .seq (
 .region false [ ⟨(some 46), .mov (.t 7), none, []⟩, ⟨(some 47), .call (.c (.fn (.func 34) [] [])) [(.t 46)], none, []⟩, ⟨(some 6), .mov (.t 47), none, []⟩]) (
 .ret)))))), [.tmp 6]⟩
theorem F39_ok : compFun Tryz.prog Tryz.f39 3 [] = some F39 := by kernel_rfl
/-- roadbook/plan.Fine -/
def F40 : SFun := ⟨3, 
 .seq (
 .region false [ ⟨(some 3), .box (.t 0), none, []⟩, ⟨(some 4), .box (.t 1), none, []⟩, ⟨(some 5), .box (.t 2), none, []⟩, ⟨(some 6), .mov (.c (.bool false)), none, []⟩]) (
 .seq (
 .region false [ ⟨(some 11), .faddr 0 5 true (.t 5), none, []⟩, ⟨(some 12), .load 5 true (.t 11), none, []⟩, ⟨(some 13), .call (.c (.fn (.func 30) [] [])) [(.t 12)], none, []⟩, ⟨(some 10), .mov (.t 13), none, []⟩, ⟨(some 14), .ext (.t 10) 0, none, []⟩, ⟨(some 15), .ext (.t 10) 1, none, []⟩, ⟨(some 7), .alloc (.agg [.int .i64 0, .sl .full []]), none, []⟩, ⟨none, .store 2 (.t 7) (.t 14), none, []⟩, ⟨(some 8), .mov (.t 15), none, []⟩]) (
 .seq (
 .seq (
 .region true [ ⟨(some 16), .load 1 true (.t 3), none, []⟩, ⟨(some 17), .load 6 true (.t 4), none, []⟩, ⟨(some 18), .faddr 0 5 true (.t 5), none, []⟩, ⟨(some 19), .load 5 true (.t 18), none, [2]⟩, ⟨(some 20), .call (.c (.fn (.func 29) [] [])) [(.t 16), (.t 17), (.t 19)], none, [0, 1, 3, 2]⟩, ⟨(some 21), .un .not (.t 20), none, [4, 0, 1, 3, 2]⟩, ⟨(some 22), .mov (.t 21), none, [5, 4, 0, 1, 3, 2]⟩, ⟨(some 23), .load 2 true (.t 7), (some (22, false)), [6, 5, 4, 0, 1, 3, 2]⟩, ⟨(some 24), .call (.c (.fn (.func 33) [] [])) [(.t 23)], (some (22, false)), [7, 6, 5, 4, 0, 1, 3, 2]⟩, ⟨(some 25), .faddr 0 1 false (.t 4), (some (22, false)), [6, 5, 4, 0, 1, 3, 2]⟩, ⟨(some 26), .load 1 false (.t 25), (some (22, false)), [9, 6, 5, 4, 0, 1, 3, 2]⟩, ⟨(some 27), .len (.t 26), (some (22, false)), [10, 9, 6, 5, 4, 0, 1, 3, 2]⟩, ⟨(some 28), .bin .shl (.c (.int .i64 1)) (.t 27), (some (22, false)), [11, 10, 9, 6, 5, 4, 0, 1, 3, 2]⟩, ⟨(some 29), .bin .sub (.t 28) (.c (.int .i64 1)), (some (22, false)), [12, 11, 10, 9, 6, 5, 4, 0, 1, 3, 2]⟩, ⟨(some 30), .bin .neq (.t 24) (.t 29), (some (22, false)), [8, 7, 6, 5, 4, 0, 1, 3, 2, 13, 12, 11, 10, 9]⟩, ⟨(some 31), .pick (.t 22) (.c (.bool true)) (.t 30), none, [6, 5, 4, 0, 1, 3, 2, 14, 8, 7, 13, 12, 11, 10, 9]⟩, ⟨(some 32), .mov (.t 31), none, [15, 6, 5, 4, 0, 1, 3, 2, 14, 8, 7, 13, 12, 11, 10, 9]⟩, ⟨(some 33), .faddr 5 1 false (.t 5), (some (32, false)), [16, 15, 6, 5, 4, 0, 1, 3, 2, 14, 8, 7, 13, 12, 11, 10, 9]⟩, ⟨(some 34), .load 1 false (.t 33), (some (32, false)), [17, 16, 15, 6, 5, 4, 0, 1, 3, 2, 14, 8, 7, 13, 12, 11, 10, 9]⟩, ⟨(some 35), .bin .lss (.t 34) (.c (.int .i64 0)), (some (32, false)), [18, 17, 16, 15, 6, 5, 4, 0, 1, 3, 2, 14, 8, 7, 13, 12, 11, 10, 9]⟩, ⟨(some 36), .pick (.t 32) (.c (.bool true)) (.t 35), none, [16, 15, 6, 5, 4, 0, 1, 3, 2, 14, 8, 7, 13, 12, 11, 10, 9, 19, 18, 17]⟩, ⟨(some 37), .mov (.t 36), none, [20, 16, 15, 6, 5, 4, 0, 1, 3, 2, 14, 8, 7, 13, 12, 11, 10, 9, 19, 18, 17]⟩, ⟨(some 38), .faddr 5 1 false (.t 5), (some (37, false)), [21, 20, 16, 15, 6, 5, 4, 0, 1, 3, 2, 14, 8, 7, 13, 12, 11, 10, 9, 19, 18, 17]⟩, ⟨(some 39), .load 1 false (.t 38), (some (37, false)), [22, 21, 20, 16, 15, 6, 5, 4, 0, 1, 3, 2, 14, 8, 7, 13, 12, 11, 10, 9, 19, 18, 17]⟩, ⟨(some 40), .bin .geq (.t 39) (.c (.int .i64 3)), (some (37, false)), [23, 22, 21, 20, 16, 15, 6, 5, 4, 0, 1, 3, 2, 14, 8, 7, 13, 12, 11, 10, 9, 19, 18, 17]⟩, ⟨(some 41), .pick (.t 37) (.c (.bool true)) (.t 40), none, [21, 20, 16, 15, 6, 5, 4, 0, 1, 3, 2, 14, 8, 7, 13, 12, 11, 10, 9, 19, 18, 17, 24, 23, 22]⟩, ⟨(some 42), .mov (.t 41), none, [25, 21, 20, 16, 15, 6, 5, 4, 0, 1, 3, 2, 14, 8, 7, 13, 12, 11, 10, 9, 19, 18, 17, 24, 23, 22]⟩, ⟨(some 43), .faddr 5 1 false (.t 5), (some (42, false)), [26, 25, 21, 20, 16, 15, 6, 5, 4, 0, 1, 3, 2, 14, 8, 7, 13, 12, 11, 10, 9, 19, 18, 17, 24, 23, 22]⟩, ⟨(some 44), .load 1 false (.t 43), (some (42, false)), [27, 26, 25, 21, 20, 16, 15, 6, 5, 4, 0, 1, 3, 2, 14, 8, 7, 13, 12, 11, 10, 9, 19, 18, 17, 24, 23, 22]⟩, ⟨(some 45), .bin .eql (.t 44) (.c (.int .i64 0)), (some (42, false)), [28, 27, 26, 25, 21, 20, 16, 15, 6, 5, 4, 0, 1, 3, 2, 14, 8, 7, 13, 12, 11, 10, 9, 19, 18, 17, 24, 23, 22]⟩, ⟨(some 46), .faddr 2 1 false (.t 4), (some (42, false)), [26, 25, 21, 20, 16, 15, 6, 5, 4, 0, 1, 3, 2, 14, 8, 7, 13, 12, 11, 10, 9, 19, 18, 17, 24, 23, 22]⟩, ⟨(some 47), .load 1 false (.t 46), (some (42, false)), [30, 26, 25, 21, 20, 16, 15, 6, 5, 4, 0, 1, 3, 2, 14, 8, 7, 13, 12, 11, 10, 9, 19, 18, 17, 24, 23, 22]⟩, ⟨(some 48), .bin .eql (.t 47) (.c (.int .i64 (-1))), (some (42, false)), [31, 30, 26, 25, 21, 20, 16, 15, 6, 5, 4, 0, 1, 3, 2, 14, 8, 7, 13, 12, 11, 10, 9, 19, 18, 17, 24, 23, 22]⟩, ⟨(some 49), .eqb true (.t 45) (.t 48), (some (42, false)), [29, 28, 27, 26, 25, 21, 20, 16, 15, 6, 5, 4, 0, 1, 3, 2, 14, 8, 7, 13, 12, 11, 10, 9, 19, 18, 17, 24, 23, 22, 32, 31, 30]⟩, ⟨(some 50), .pick (.t 42) (.c (.bool true)) (.t 49), none, [26, 25, 21, 20, 16, 15, 6, 5, 4, 0, 1, 3, 2, 14, 8, 7, 13, 12, 11, 10, 9, 19, 18, 17, 24, 23, 22, 33, 29, 28, 27, 32, 31, 30]⟩]) (
 .cond (.t 50) (
 .seq (
 .region false [ ⟨(some 6), .mov (.c (.bool false)), none, []⟩]) (
 .ret)) (
 .skip))) (
 .seq (
 .region false [ ⟨(some 51), .faddr 0 5 true (.t 5), none, []⟩, ⟨(some 52), .load 5 true (.t 51), none, []⟩, ⟨(some 53), .call (.c (.fn (.func 38) [] [])) [(.t 52)], none, []⟩, ⟨(some 9), .mov (.t 53), none, []⟩]) (
 .seq (
 .block 0 (
 .seq (
 .region false [ ⟨(some 55), .faddr 6 1 false (.t 5), none, []⟩, ⟨(some 56), .load 1 false (.t 55), none, []⟩, ⟨(some 54), .mov (.t 56), none, []⟩]) (
 .cond (.t 54) (
 .seq (
 .region false [ ⟨(some 57), .faddr 5 1 false (.t 4), none, []⟩, ⟨(some 58), .load 1 false (.t 57), none, []⟩, ⟨(some 59), .bin .neq (.t 58) (.c (.int .i64 (-1))), none, []⟩, ⟨(some 60), .mov (.t 59), none, []⟩, ⟨(some 61), .faddr 5 1 false (.t 5), (some (60, true)), []⟩, ⟨(some 62), .load 1 false (.t 61), (some (60, true)), []⟩, ⟨(some 63), .bin .eql (.t 62) (.c (.int .i64 1)), (some (60, true)), []⟩, ⟨(some 64), .pick (.t 60) (.t 63) (.c (.bool false)), none, []⟩, ⟨(some 6), .mov (.t 64), none, []⟩]) (
 .ret)) (
 .seq (
 .region false [ ⟨(some 66), .faddr 5 1 false (.t 5), none, []⟩, ⟨(some 67), .load 1 false (.t 66), none, []⟩, ⟨(some 68), .bin .eql (.t 67) (.c (.int .i64 2)), none, []⟩, ⟨(some 65), .mov (.t 68), none, []⟩]) (
 .cond (.t 65) (
 .seq (
 .region false [ ⟨(some 69), .mov (.t 9), none, []⟩, ⟨(some 70), .faddr 2 1 false (.t 4), none, []⟩, ⟨(some 71), .load 1 false (.t 70), none, []⟩, ⟨(some 72), .bin .eql (.t 69) (.t 71), none, []⟩, ⟨(some 6), .mov (.t 72), none, []⟩]) (
 .ret)) (
 .seq (
 .region false [ ⟨(some 74), .faddr 5 1 false (.t 4), none, []⟩, ⟨(some 75), .load 1 false (.t 74), none, []⟩, ⟨(some 76), .bin .neq (.t 75) (.c (.int .i64 (-1))), none, []⟩, ⟨(some 73), .mov (.t 76), none, []⟩]) (
 .cond (.t 73) (
 .seq (
 .region false [ ⟨(some 77), .faddr 5 1 false (.t 5), none, []⟩, ⟨(some 78), .load 1 false (.t 77), none, []⟩, ⟨(some 79), .bin .eql (.t 78) (.c (.int .i64 0)), none, []⟩, ⟨(some 80), .mov (.t 79), none, []⟩, ⟨(some 81), .mov (.t 9), (some (80, true)), []⟩, ⟨(some 82), .faddr 5 1 false (.t 4), (some (80, true)), []⟩, ⟨(some 83), .load 1 false (.t 82), (some (80, true)), []⟩, ⟨(some 84), .bin .eql (.t 81) (.t 83), (some (80, true)), []⟩, ⟨(some 85), .pick (.t 80) (.t 84) (.c (.bool false)), none, []⟩, ⟨(some 6), .mov (.t 85), none, []⟩]) (
 .ret)) (
 .skip)))))))) (
 .seq (
 .region false [ ⟨(some 6), .mov (.c (.bool true)), none, []⟩]) (
 .ret)))))), [.tmp 6]⟩
theorem F40_ok : compFun Tryz.prog Tryz.f40 3 [] = some F40 := by kernel_rfl
/-- roadbook/plan.Same -/
def F45 : SFun := ⟨2, 
 .seq (
 .region false [ ⟨(some 2), .box (.t 0), none, []⟩, ⟨(some 3), .box (.t 1), none, []⟩, ⟨(some 4), .mov (.c (.bool false)), none, []⟩]) (
 .seq (
 .region false [ ⟨(some 5), .faddr 0 1 false (.t 2), none, []⟩, ⟨(some 6), .load 1 false (.t 5), none, []⟩, ⟨(some 7), .faddr 0 1 false (.t 3), none, []⟩, ⟨(some 8), .load 1 false (.t 7), none, []⟩, ⟨(some 9), .bin .eql (.t 6) (.t 8), none, []⟩, ⟨(some 10), .mov (.t 9), none, []⟩, ⟨(some 11), .faddr 1 1 false (.t 2), (some (10, true)), []⟩, ⟨(some 12), .load 1 false (.t 11), (some (10, true)), []⟩, ⟨(some 13), .faddr 1 1 false (.t 3), (some (10, true)), []⟩, ⟨(some 14), .load 1 false (.t 13), (some (10, true)), []⟩, ⟨(some 15), .bin .eql (.t 12) (.t 14), (some (10, true)), []⟩, ⟨(some 16), .pick (.t 10) (.t 15) (.c (.bool false)), none, []⟩, ⟨(some 17), .mov (.t 16), none, []⟩, ⟨(some 18), .faddr 2 2 true (.t 2), (some (17, true)), []⟩, ⟨(some 19), .load 2 true (.t 18), (some (17, true)), []⟩, ⟨(some 20), .faddr 2 2 true (.t 3), (some (17, true)), []⟩, ⟨(some 21), .load 2 true (.t 20), (some (17, true)), []⟩, ⟨(some 22), .eqa false [true, true] (.t 19) (.t 21), (some (17, true)), []⟩, ⟨(some 23), .pick (.t 17) (.t 22) (.c (.bool false)), none, []⟩, ⟨(some 24), .mov (.t 23), none, []⟩, ⟨(some 25), .faddr 4 1 false (.t 2), (some (24, true)), []⟩, ⟨(some 26), .load 1 false (.t 25), (some (24, true)), []⟩, ⟨(some 27), .faddr 4 1 false (.t 3), (some (24, true)), []⟩, ⟨(some 28), .load 1 false (.t 27), (some (24, true)), []⟩, ⟨(some 29), .call (.c (.fn (.func 122) [] [])) [(.t 26), (.t 28), (.c (.fn (.func 45) [] []))], (some (24, true)), []⟩, ⟨(some 30), .pick (.t 24) (.t 29) (.c (.bool false)), none, []⟩, ⟨(some 4), .mov (.t 30), none, []⟩]) (
 .ret)), [.tmp 4]⟩
theorem F45_ok : compFun Tryz.prog Tryz.f45 2 [] = some F45 := by kernel_rfl
/-- roadbook/roadbooklaw11.rows -/
def F51 : SFun := ⟨3, 
 .seq (
 .region false [ ⟨(some 3), .box (.t 0), none, []⟩, ⟨(some 4), .box (.t 1), none, []⟩, ⟨(some 5), .box (.t 2), none, []⟩, ⟨(some 6), .mov (.c (.int .i64 0)), none, []⟩]) (
 .seq (
 .region false [ ⟨(some 10), .load 5 true (.t 5), none, []⟩, ⟨(some 11), .call (.c (.fn (.func 30) [] [])) [(.t 10)], none, []⟩, ⟨(some 9), .mov (.t 11), none, []⟩, ⟨(some 12), .ext (.t 9) 0, none, []⟩, ⟨(some 13), .ext (.t 9) 1, none, []⟩, ⟨(some 7), .alloc (.agg [.int .i64 0, .sl .full []]), none, []⟩, ⟨none, .store 2 (.t 7) (.t 12), none, []⟩, ⟨(some 8), .mov (.t 13), none, []⟩]) (
 .seq (
 .region true [ ⟨(some 14), .load 1 true (.t 3), none, []⟩, ⟨(some 15), .load 6 true (.t 4), none, []⟩, ⟨(some 16), .load 2 true (.t 7), none, []⟩, ⟨(some 17), .call (.c (.fn (.func 33) [] [])) [(.t 16)], none, [2]⟩, ⟨(some 18), .call (.c (.fn (.func 37) [] [])) [(.t 14), (.t 15), (.t 17)], none, [0, 1, 3, 2]⟩, ⟨(some 6), .mov (.t 18), none, [4, 0, 1, 3, 2]⟩]) (
 .ret))), [.tmp 6]⟩
theorem F51_ok : compFun Tryz.prog Tryz.f51 3 [] = some F51 := by kernel_rfl
/-- roadbook/roadbooklaw05.Far -/
def F53 : SFun := ⟨2, 
 .seq (
 .region false [ ⟨(some 2), .box (.t 0), none, []⟩, ⟨(some 3), .box (.t 1), none, []⟩, ⟨(some 4), .mov (.c (.int .i64 0)), none, []⟩]) (
 .seq (
 .region false [ ⟨(some 6), .load 1 true (.t 2), none, []⟩, ⟨(some 7), .load 6 true (.t 3), none, []⟩, ⟨(some 8), .call (.c (.fn (.func 136) [] [])) [(.t 6), (.t 7)], none, []⟩, ⟨(some 5), .mov (.t 8), none, []⟩]) (
 .seq (
 .seq (
 .region false [ ⟨(some 9), .mov (.t 5), none, []⟩]) (
 .cond (.t 9) (
 .seq (
 .region false [ ⟨(some 4), .mov (.c (.int .i64 0)), none, []⟩]) (
 .ret)) (
 .skip))) (
 .seq (
 .region false [ ⟨(some 4), .mov (.c (.int .i64 1)), none, []⟩]) (
 .ret)))), [.tmp 4]⟩
theorem F53_ok : compFun Tryz.prog Tryz.f53 2 [] = some F53 := by kernel_rfl
/-- roadbook/query.May -/
def F62 : SFun := ⟨2, 
 .seq (
 .region false [ ⟨(some 2), .box (.t 0), none, []⟩, ⟨(some 3), .box (.t 1), none, []⟩, ⟨(some 4), .mov (.c (.bool false)), none, []⟩]) (
 .seq (
 .region false [ ⟨(some 11), .mkfn (.func 146) [] [(.t 2)], none, []⟩, ⟨(some 5), .mov (.t 11), none, []⟩]) (
 .seq (
 .seq (
 .region false [ ⟨(some 12), .load 1 true (.t 2), none, []⟩, ⟨(some 13), .call (.c (.fn (.func 147) [] [])) [(.t 12)], none, []⟩, ⟨(some 14), .un .not (.t 13), none, []⟩, ⟨(some 15), .mov (.t 14), none, []⟩, ⟨(some 16), .faddr 0 1 false (.t 3), (some (15, false)), []⟩, ⟨(some 17), .load 1 false (.t 16), (some (15, false)), []⟩, ⟨(some 18), .len (.t 17), (some (15, false)), []⟩, ⟨(some 19), .bin .lss (.t 18) (.c (.int .i64 1)), (some (15, false)), []⟩, ⟨(some 20), .pick (.t 15) (.c (.bool true)) (.t 19), none, []⟩, ⟨(some 21), .mov (.t 20), none, []⟩, ⟨(some 22), .faddr 0 1 false (.t 3), (some (21, false)), []⟩, ⟨(some 23), .load 1 false (.t 22), (some (21, false)), []⟩, ⟨(some 24), .len (.t 23), (some (21, false)), []⟩, ⟨(some 25), .bin .gtr (.t 24) (.c (.int .i64 4)), (some (21, false)), []⟩, ⟨(some 26), .pick (.t 21) (.c (.bool true)) (.t 25), none, []⟩, ⟨(some 27), .mov (.t 26), none, []⟩, ⟨(some 28), .faddr 0 1 false (.t 3), (some (27, false)), []⟩, ⟨(some 29), .load 1 false (.t 28), (some (27, false)), []⟩, ⟨(some 30), .mov (.t 5), (some (27, false)), []⟩, ⟨(some 31), .call (.c (.fn (.func 148) [] [])) [(.t 29), (.t 30)], (some (27, false)), []⟩, ⟨(some 32), .pick (.t 27) (.c (.bool true)) (.t 31), none, []⟩, ⟨(some 33), .mov (.t 32), none, []⟩, ⟨(some 34), .faddr 1 1 false (.t 3), (some (33, false)), []⟩, ⟨(some 35), .load 1 false (.t 34), (some (33, false)), []⟩, ⟨(some 36), .len (.t 35), (some (33, false)), []⟩, ⟨(some 37), .bin .gtr (.t 36) (.c (.int .i64 6)), (some (33, false)), []⟩, ⟨(some 38), .pick (.t 33) (.c (.bool true)) (.t 37), none, []⟩]) (
 .cond (.t 38) (
 .seq (
 .region false [ ⟨(some 4), .mov (.c (.bool false)), none, []⟩]) (
 .ret)) (
 .skip))) (
 .seq (
 .region false [ ⟨(some 39), .load 1 true (.t 2), none, []⟩, ⟨(some 40), .load 6 true (.t 3), none, []⟩, ⟨(some 41), .call (.c (.fn (.func 107) [] [])) [(.t 39), (.t 40), (.c (.fn (.func 149) [] []))], none, []⟩, ⟨(some 6), .mov (.t 41), none, []⟩]) (
 .seq (
 .seq (
 .region false [ ⟨(some 42), .faddr 1 1 false (.t 3), none, []⟩, ⟨(some 43), .load 1 false (.t 42), none, []⟩, ⟨(some 44), .len (.t 43), none, []⟩, ⟨(some 45), .mov (.c (.int .i64 0)), none, []⟩]) (
 .block 0 (
 .loop [3, 6, 43, 44, 45] (
 .seq (
 .region false [ ⟨(some 46), .bin .lss (.t 45) (.t 44), none, []⟩]) (
 .seq (
 .cond (.t 46) (
 .skip) (
 .exit 0)) (
 .seq (
 .block 1 (
 .seq (
 .region false [ ⟨(some 47), .iaddr 5 (.t 43) (.t 45), none, []⟩, ⟨(some 48), .load 5 true (.t 47), none, []⟩, ⟨(some 8), .alloc (.agg [.int .i64 0, .int .i64 0, .int .i64 0, .int .i64 0, .sl .full []]), none, []⟩, ⟨none, .store 5 (.t 8) (.t 48), none, []⟩]) (
 .seq (
 .region false [ ⟨(some 49), .load 5 true (.t 8), none, []⟩, ⟨(some 50), .call (.c (.fn (.func 150) [] [])) [(.t 49)], none, []⟩, ⟨(some 9), .mov (.t 50), none, []⟩]) (
 .seq (
 .region false [ ⟨(some 51), .mov (.t 9), none, []⟩, ⟨(some 52), .len (.t 51), none, []⟩, ⟨(some 53), .bin .eql (.t 52) (.c (.int .i64 0)), none, []⟩, ⟨(some 54), .mov (.t 53), none, []⟩, ⟨(some 55), .mov (.t 9), (some (54, false)), []⟩, ⟨(some 56), .mov (.t 6), (some (54, false)), []⟩, ⟨(some 57), .call (.c (.fn (.func 151) [] [])) [(.t 55), (.t 56)], (some (54, false)), []⟩, ⟨(some 58), .un .not (.t 57), (some (54, false)), []⟩, ⟨(some 59), .pick (.t 54) (.c (.bool true)) (.t 58), none, []⟩]) (
 .cond (.t 59) (
 .seq (
 .region false [ ⟨(some 4), .mov (.c (.bool false)), none, []⟩]) (
 .ret)) (
 .skip)))))) (
 .region false [ ⟨(some 60), .bin .add (.t 45) (.c (.int .i64 1)), none, []⟩, ⟨(some 45), .mov (.t 60), none, []⟩]))))))) (
 .seq (
 .seq (
 .region false [ ⟨(some 61), .faddr 2 1 false (.t 3), none, []⟩, ⟨(some 62), .load 1 false (.t 61), none, []⟩, ⟨(some 63), .bin .eql (.t 62) (.c (.int .i64 (-1))), none, []⟩]) (
 .cond (.t 63) (
 .seq (
 .region false [ ⟨(some 64), .faddr 4 1 false (.t 3), none, []⟩, ⟨(some 65), .load 1 false (.t 64), none, []⟩, ⟨(some 66), .len (.t 65), none, []⟩, ⟨(some 67), .bin .geq (.t 66) (.c (.int .i64 1)), none, []⟩, ⟨(some 68), .mov (.t 67), none, []⟩, ⟨(some 69), .faddr 4 1 false (.t 3), (some (68, true)), []⟩, ⟨(some 70), .load 1 false (.t 69), (some (68, true)), []⟩, ⟨(some 71), .len (.t 70), (some (68, true)), []⟩, ⟨(some 72), .bin .leq (.t 71) (.c (.int .i64 8)), (some (68, true)), []⟩, ⟨(some 73), .pick (.t 68) (.t 72) (.c (.bool false)), none, []⟩, ⟨(some 74), .mov (.t 73), none, []⟩, ⟨(some 75), .faddr 4 1 false (.t 3), (some (74, true)), []⟩, ⟨(some 76), .load 1 false (.t 75), (some (74, true)), []⟩, ⟨(some 77), .call (.c (.fn (.func 152) [] [])) [(.t 76)], (some (74, true)), []⟩, ⟨(some 78), .pick (.t 74) (.t 77) (.c (.bool false)), none, []⟩, ⟨(some 79), .mov (.t 78), none, []⟩, ⟨(some 80), .faddr 4 1 false (.t 3), (some (79, true)), []⟩, ⟨(some 81), .load 1 false (.t 80), (some (79, true)), []⟩, ⟨(some 82), .mov (.t 6), (some (79, true)), []⟩, ⟨(some 83), .call (.c (.fn (.func 151) [] [])) [(.t 81), (.t 82)], (some (79, true)), []⟩, ⟨(some 84), .pick (.t 79) (.t 83) (.c (.bool false)), none, []⟩, ⟨(some 10), .mov (.t 84), none, []⟩]) (
 .seq (
 .region false [ ⟨(some 85), .mov (.t 10), none, []⟩, ⟨(some 86), .mov (.t 85), none, []⟩, ⟨(some 87), .faddr 3 1 false (.t 3), (some (86, true)), []⟩, ⟨(some 88), .load 1 false (.t 87), (some (86, true)), []⟩, ⟨(some 89), .len (.t 88), (some (86, true)), []⟩, ⟨(some 90), .bin .eql (.t 89) (.c (.int .i64 0)), (some (86, true)), []⟩, ⟨(some 91), .pick (.t 86) (.t 90) (.c (.bool false)), none, []⟩, ⟨(some 92), .mov (.t 91), none, []⟩, ⟨(some 93), .faddr 5 1 false (.t 3), (some (92, true)), []⟩, ⟨(some 94), .load 1 false (.t 93), (some (92, true)), []⟩, ⟨(some 95), .bin .eql (.t 94) (.c (.int .i64 (-1))), (some (92, true)), []⟩, ⟨(some 96), .mov (.t 95), (some (92, true)), []⟩, ⟨(some 97), .faddr 4 1 false (.t 3), (some (96, false)), []⟩, ⟨(some 98), .load 1 false (.t 97), (some (96, false)), []⟩, ⟨(some 99), .faddr 5 1 false (.t 3), (some (96, false)), []⟩, ⟨(some 100), .load 1 false (.t 99), (some (96, false)), []⟩, ⟨(some 101), .call (.c (.fn (.func 137) [] [])) [(.t 98), (.t 100)], (some (96, false)), []⟩, ⟨(some 102), .pick (.t 96) (.c (.bool true)) (.t 101), (some (92, true)), []⟩, ⟨(some 103), .pick (.t 92) (.t 102) (.c (.bool false)), none, []⟩, ⟨(some 4), .mov (.t 103), none, []⟩]) (
 .ret))) (
 .skip))) (
 .seq (
 .region false [ ⟨(some 104), .faddr 2 1 false (.t 3), none, []⟩, ⟨(some 105), .load 1 false (.t 104), none, []⟩, ⟨(some 106), .bslice 1 (.int .i64 0) 1 [(0, (.t 105))], none, []⟩, ⟨(some 107), .mov (.t 6), none, []⟩, ⟨(some 108), .call (.c (.fn (.func 151) [] [])) [(.t 106), (.t 107)], none, []⟩, ⟨(some 109), .mov (.t 108), none, []⟩, ⟨(some 110), .faddr 3 1 false (.t 3), (some (109, true)), []⟩, ⟨(some 111), .load 1 false (.t 110), (some (109, true)), []⟩, ⟨(some 112), .len (.t 111), (some (109, true)), []⟩, ⟨(some 113), .bin .leq (.t 112) (.c (.int .i64 4)), (some (109, true)), []⟩, ⟨(some 114), .pick (.t 109) (.t 113) (.c (.bool false)), none, []⟩, ⟨(some 115), .mov (.t 114), none, []⟩, ⟨(some 116), .faddr 3 1 false (.t 3), (some (115, true)), []⟩, ⟨(some 117), .load 1 false (.t 116), (some (115, true)), []⟩, ⟨(some 118), .mov (.t 6), (some (115, true)), []⟩, ⟨(some 119), .call (.c (.fn (.func 151) [] [])) [(.t 117), (.t 118)], (some (115, true)), []⟩, ⟨(some 120), .pick (.t 115) (.t 119) (.c (.bool false)), none, []⟩, ⟨(some 121), .mov (.t 120), none, []⟩, ⟨(some 122), .faddr 4 1 false (.t 3), (some (121, true)), []⟩, ⟨(some 123), .load 1 false (.t 122), (some (121, true)), []⟩, ⟨(some 124), .len (.t 123), (some (121, true)), []⟩, ⟨(some 125), .bin .eql (.t 124) (.c (.int .i64 0)), (some (121, true)), []⟩, ⟨(some 126), .pick (.t 121) (.t 125) (.c (.bool false)), none, []⟩, ⟨(some 127), .mov (.t 126), none, []⟩, ⟨(some 128), .faddr 5 1 false (.t 3), (some (127, true)), []⟩, ⟨(some 129), .load 1 false (.t 128), (some (127, true)), []⟩, ⟨(some 130), .bin .eql (.t 129) (.c (.int .i64 (-1))), (some (127, true)), []⟩, ⟨(some 131), .mov (.t 130), (some (127, true)), []⟩, ⟨(some 132), .faddr 5 1 false (.t 3), (some (131, false)), []⟩, ⟨(some 133), .load 1 false (.t 132), (some (131, false)), []⟩, ⟨(some 134), .faddr 2 1 false (.t 3), (some (131, false)), []⟩, ⟨(some 135), .load 1 false (.t 134), (some (131, false)), []⟩, ⟨(some 136), .bin .eql (.t 133) (.t 135), (some (131, false)), []⟩, ⟨(some 137), .pick (.t 131) (.c (.bool true)) (.t 136), (some (127, true)), []⟩, ⟨(some 138), .pick (.t 127) (.t 137) (.c (.bool false)), none, []⟩, ⟨(some 4), .mov (.t 138), none, []⟩]) (
 .ret))))))), [.tmp 4]⟩
theorem F62_ok : compFun Tryz.prog Tryz.f62 2 [[3, 6, 43, 44, 45]] = some F62 := by kernel_rfl
/-- roadbook/tree.May -/
def F63 : SFun := ⟨1, 
 .seq (
 .region false [ ⟨(some 1), .box (.t 0), none, []⟩, ⟨(some 2), .mov (.c (.bool false)), none, []⟩]) (
 .seq (
 .region false [ ⟨(some 6), .load 2 true (.t 1), none, []⟩, ⟨(some 7), .call (.c (.fn (.func 109) [] [])) [(.t 6), (.c (.int .i64 4))], none, []⟩, ⟨(some 5), .mov (.t 7), none, []⟩, ⟨(some 8), .ext (.t 5) 0, none, []⟩, ⟨(some 9), .ext (.t 5) 1, none, []⟩, ⟨(some 3), .mov (.t 8), none, []⟩, ⟨(some 4), .mov (.t 9), none, []⟩]) (
 .seq (
 .region false [ ⟨(some 10), .mov (.t 4), none, []⟩, ⟨(some 2), .mov (.t 10), none, []⟩]) (
 .ret))), [.tmp 2]⟩
theorem F63_ok : compFun Tryz.prog Tryz.f63 1 [] = some F63 := by kernel_rfl
/-- roadbook/tree.Join -/
def F64 : SFun := ⟨2, 
 .seq (
 .region false [ ⟨(some 2), .box (.t 0), none, []⟩, ⟨(some 3), .box (.t 1), none, []⟩, ⟨(some 4), .alloc (.agg [.int .i64 0, .sl .full []]), none, []⟩]) (
 .seq (
 .region false [ ⟨(some 5), .load 2 true (.t 2), none, []⟩, ⟨(some 6), .load 2 true (.t 3), none, []⟩, ⟨(some 7), .bslice 2 (.agg [.int .i64 0, .sl .full []]) 2 [(0, (.t 5)), (1, (.t 6))], none, []⟩, ⟨(some 8), .build [.int .i64 0, .sl .full []] [(1, 1, (.t 7))], none, []⟩, ⟨none, .store 2 (.t 4) (.t 8), none, []⟩]) (
 .ret)), [.cell 4 2 true]⟩
theorem F64_ok : compFun Tryz.prog Tryz.f64 2 [] = some F64 := by kernel_rfl
/-- roadbook/query.Pairs -/
def F66 : SFun := ⟨3, 
 .seq (
 .region false [ ⟨(some 3), .box (.t 0), none, []⟩, ⟨(some 6), .mov (.c (.sl .full [])), none, []⟩]) (
 .seq (
 .region false [ ⟨(some 7), .mov (.c (.sl .full [])), none, []⟩]) (
 .seq (
 .seq (
 .region false [ ⟨(some 15), .load 6 true (.t 3), none, []⟩, ⟨(some 16), .mov (.t 1), none, []⟩, ⟨(some 17), .mov (.t 2), none, []⟩, ⟨(some 18), .call (.c (.fn (.func 153) [] [])) [(.t 15), (.t 16), (.t 17)], none, []⟩, ⟨(some 19), .len (.t 18), none, []⟩, ⟨(some 20), .mov (.c (.int .i64 0)), none, []⟩]) (
 .block 0 (
 .loop [1, 2, 3, 7, 18, 19, 20] (
 .seq (
 .region false [ ⟨(some 21), .bin .lss (.t 20) (.t 19), none, []⟩]) (
 .seq (
 .cond (.t 21) (
 .skip) (
 .exit 0)) (
 .seq (
 .block 1 (
 .seq (
 .region false [ ⟨(some 22), .iaddr 1 (.t 18) (.t 20), none, []⟩, ⟨(some 23), .load 1 false (.t 22), none, []⟩, ⟨(some 9), .mov (.t 23), none, []⟩]) (
 .seq (
 .region false [ ⟨(some 25), .faddr 1 1 false (.t 3), none, []⟩, ⟨(some 26), .load 1 false (.t 25), none, []⟩, ⟨(some 27), .mov (.t 9), none, []⟩, ⟨(some 28), .iaddr 5 (.t 26) (.t 27), none, []⟩, ⟨(some 29), .load 5 true (.t 28), none, []⟩, ⟨(some 30), .call (.c (.fn (.func 154) [] [])) [(.t 29)], none, []⟩, ⟨(some 24), .mov (.t 30), none, []⟩, ⟨(some 31), .ext (.t 24) 0, none, []⟩, ⟨(some 32), .ext (.t 24) 1, none, []⟩, ⟨(some 33), .ext (.t 24) 2, none, []⟩, ⟨(some 10), .mov (.t 31), none, []⟩, ⟨(some 11), .mov (.t 32), none, []⟩, ⟨(some 12), .mov (.t 33), none, []⟩]) (
 .seq (
 .seq (
 .region false [ ⟨(some 34), .mov (.t 12), none, []⟩, ⟨(some 35), .un .not (.t 34), none, []⟩]) (
 .cond (.t 35) (
 .exit 1) (
 .skip))) (
 .seq (
 .region false [ ⟨(some 36), .mov (.t 10), none, []⟩, ⟨(some 37), .mov (.t 11), none, []⟩, ⟨(some 38), .build [.int .i64 0, .int .i64 0] [(0, 1, (.t 36)), (1, 1, (.t 37))], none, []⟩, ⟨(some 39), .mov (.t 11), none, []⟩, ⟨(some 40), .mov (.t 10), none, []⟩, ⟨(some 41), .build [.int .i64 0, .int .i64 0] [(0, 1, (.t 39)), (1, 1, (.t 40))], none, []⟩, ⟨(some 42), .bslice 2 (.agg [.int .i64 0, .int .i64 0]) 2 [(0, (.t 38)), (1, (.t 41))], none, []⟩, ⟨(some 43), .len (.t 42), none, []⟩, ⟨(some 44), .mov (.c (.int .i64 0)), none, []⟩]) (
 .block 2 (
 .loop [1, 2, 3, 7, 18, 19, 20, 42, 43, 44] (
 .seq (
 .region false [ ⟨(some 45), .bin .lss (.t 44) (.t 43), none, []⟩]) (
 .seq (
 .cond (.t 45) (
 .skip) (
 .exit 2)) (
 .seq (
 .block 3 (
 .seq (
 .region false [ ⟨(some 46), .iaddr 2 (.t 42) (.t 44), none, []⟩, ⟨(some 47), .load 2 true (.t 46), none, []⟩, ⟨(some 14), .alloc (.agg [.int .i64 0, .int .i64 0]), none, []⟩, ⟨none, .store 2 (.t 14) (.t 47), none, []⟩]) (
 .seq (
 .region false [ ⟨(some 48), .mov (.t 1), none, []⟩, ⟨(some 49), .slbox 2 1 false (.t 14) (.c (.int .i64 0)) (.c (.int .i64 1)), none, []⟩, ⟨(some 50), .call (.c (.fn (.func 156) [] [])) [(.t 49)], none, []⟩, ⟨(some 51), .call (.c (.fn (.func 155) [] [])) [(.t 48), (.t 50)], none, []⟩, ⟨(some 52), .mov (.t 51), none, []⟩, ⟨(some 53), .mov (.t 2), (some (52, true)), []⟩, ⟨(some 54), .slbox 2 1 false (.t 14) (.c (.int .i64 1)) (.c (.int .i64 2)), (some (52, true)), []⟩, ⟨(some 55), .call (.c (.fn (.func 156) [] [])) [(.t 54)], (some (52, true)), []⟩, ⟨(some 56), .call (.c (.fn (.func 155) [] [])) [(.t 53), (.t 55)], (some (52, true)), []⟩, ⟨(some 57), .pick (.t 52) (.t 56) (.c (.bool false)), none, []⟩]) (
 .cond (.t 57) (
 .seq (
 .region false [ ⟨(some 58), .mov (.t 7), none, []⟩, ⟨(some 59), .load 2 true (.t 14), none, []⟩, ⟨(some 60), .bslice 2 (.agg [.int .i64 0, .int .i64 0]) 1 [(0, (.t 59))], none, []⟩, ⟨(some 61), .append 29 2 16 (.t 58) (.t 60), none, []⟩, ⟨(some 7), .mov (.t 61), none, []⟩]) (
 .exit 2)) (
 .skip))))) (
 .region false [ ⟨(some 62), .bin .add (.t 44) (.c (.int .i64 1)), none, []⟩, ⟨(some 44), .mov (.t 62), none, []⟩]))))))))))) (
 .region false [ ⟨(some 63), .bin .add (.t 20) (.c (.int .i64 1)), none, []⟩, ⟨(some 20), .mov (.t 63), none, []⟩]))))))) (
 .seq (
 .region false [ ⟨(some 64), .mov (.t 7), none, []⟩, ⟨(some 6), .mov (.t 64), none, []⟩]) (
 .ret)))), [.tmp 6]⟩
theorem F66_ok : compFun Tryz.prog Tryz.f66 3 [[1, 2, 3, 7, 18, 19, 20], [1, 2, 3, 7, 18, 19, 20, 42, 43, 44]] = some F66 := by kernel_rfl
/-- roadbook/roadbookref11.Size -/
def F68 : SFun := ⟨2, 
 .seq (
 .region false [ ⟨(some 2), .box (.t 0), none, []⟩, ⟨(some 4), .mov (.c (.int .i64 0)), none, []⟩]) (
 .seq (
 .region false [ ⟨(some 5), .mov (.c (.int .i64 1)), none, []⟩]) (
 .seq (
 .seq (
 .region false [ ⟨(some 6), .mov (.c (.int .i64 0)), none, []⟩]) (
 .block 0 (
 .loop [1, 2, 5, 6] (
 .seq (
 .seq (
 .region false [ ⟨(some 7), .mov (.t 6), none, []⟩, ⟨(some 8), .faddr 4 1 false (.t 2), none, []⟩, ⟨(some 9), .load 1 false (.t 8), none, []⟩, ⟨(some 10), .len (.t 9), none, []⟩, ⟨(some 11), .bin .lss (.t 7) (.t 10), none, []⟩, ⟨(some 12), .mov (.t 11), none, []⟩, ⟨(some 13), .mov (.t 5), (some (12, true)), []⟩, ⟨(some 14), .mov (.t 1), (some (12, true)), []⟩, ⟨(some 15), .bin .leq (.t 13) (.t 14), (some (12, true)), []⟩, ⟨(some 16), .pick (.t 12) (.t 15) (.c (.bool false)), none, []⟩]) (
 .cond (.t 16) (
 .skip) (
 .exit 0))) (
 .seq (
 .block 1 (
 .region false [ ⟨(some 19), .mov (.t 5), none, []⟩, ⟨(some 20), .faddr 4 1 false (.t 2), none, []⟩, ⟨(some 21), .load 1 false (.t 20), none, []⟩, ⟨(some 22), .mov (.t 6), none, []⟩, ⟨(some 23), .iaddr 5 (.t 21) (.t 22), none, []⟩, ⟨(some 24), .load 5 true (.t 23), none, []⟩, ⟨(some 25), .mov (.t 1), none, []⟩, ⟨(some 26), .mov (.t 5), none, []⟩, ⟨(some 27), .bin .sub (.t 25) (.t 26), none, []⟩, ⟨(some 28), .call (.c (.fn (.func 68) [] [])) [(.t 24), (.t 27)], none, []⟩, ⟨(some 29), .bin .add (.t 19) (.t 28), none, []⟩, ⟨(some 5), .mov (.t 29), none, []⟩])) (
 .region false [ ⟨(some 17), .mov (.t 6), none, []⟩, ⟨(some 18), .bin .add (.t 17) (.c (.int .i64 1)), none, []⟩, ⟨(some 6), .mov (.t 18), none, []⟩])))))) (
 .seq (
 .region false [ ⟨(some 30), .mov (.t 5), none, []⟩, ⟨(some 4), .mov (.t 30), none, []⟩]) (
 .ret)))), [.tmp 4]⟩
theorem F68_ok : compFun Tryz.prog Tryz.f68 2 [[1, 2, 5, 6]] = some F68 := by kernel_rfl
end Go.Rb

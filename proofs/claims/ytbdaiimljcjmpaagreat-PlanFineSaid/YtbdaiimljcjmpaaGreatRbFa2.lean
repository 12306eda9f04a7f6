/- Functions of the program, compiled for the engine. MADE BY PROGRAM (Print.lean). -/
import Derived.Test.YtbdaiimljcjmpaaGreatBT01
import Derived.KernelRfl
import Derived.Test.YtbdaiimljcjmpaaGreatProg
namespace Go.Rb
set_option linter.unusedVariables false
set_option linter.unusedSimpArgs false
open Go.Proofs

/-- roadbook/query.May$2 -/
def F149 : SFun := ⟨1, 
 .seq (
 .region false [ ⟨(some 2), .mov (.c (.bool false)), none, []⟩]) (
 .seq (
 .region false [ ⟨(some 2), .mov (.c (.bool true)), none, []⟩]) (
 .ret)), [.tmp 2]⟩
theorem F149_ok : compFun Tryz.prog Tryz.f149 1 [] = some F149 := by kernel_rfl
/-- roadbook/query.within -/
def F151 : SFun := ⟨2, 
 .seq (
 .region false [ ⟨(some 3), .box (.t 1), none, []⟩, ⟨(some 4), .mov (.c (.bool false)), none, []⟩]) (
 .seq (
 .region false [ ⟨(some 5), .mov (.t 0), none, []⟩, ⟨(some 6), .mkfn (.func 225) [] [(.t 3)], none, []⟩, ⟨(some 7), .call (.c (.fn (.func 148) [] [])) [(.t 5), (.t 6)], none, []⟩, ⟨(some 8), .un .not (.t 7), none, []⟩, ⟨(some 4), .mov (.t 8), none, []⟩]) (
 .ret)), [.tmp 4]⟩
theorem F151_ok : compFun Tryz.prog Tryz.f151 2 [] = some F151 := by kernel_rfl
/-- roadbook/query.New -/
def F153 : SFun := ⟨3, 
 .seq (
 .region false [ ⟨(some 3), .box (.t 0), none, []⟩, ⟨(some 6), .mov (.c (.sl .full [])), none, []⟩]) (
 .seq (
 .region false [ ⟨(some 10), .mov (.t 1), none, []⟩, ⟨(some 11), .mov (.t 2), none, []⟩, ⟨(some 12), .mov (.t 1), none, []⟩, ⟨(some 13), .mov (.t 2), none, []⟩, ⟨(some 14), .bin .or (.t 12) (.t 13), none, []⟩, ⟨(some 7), .alloc (.int .i64 0), none, []⟩, ⟨(some 8), .alloc (.int .i64 0), none, []⟩, ⟨(some 9), .alloc (.int .i64 0), none, []⟩, ⟨none, .store 1 (.t 7) (.t 10), none, []⟩, ⟨none, .store 1 (.t 8) (.t 11), none, []⟩, ⟨none, .store 1 (.t 9) (.t 14), none, []⟩]) (
 .seq (
 .region false [ ⟨(some 15), .load 6 true (.t 3), none, []⟩, ⟨(some 16), .mkfn (.func 228) [] [(.t 9), (.t 7), (.t 8)], none, []⟩, ⟨(some 17), .call (.c (.fn (.func 227) [] [])) [(.t 15), (.t 16)], none, []⟩, ⟨(some 6), .mov (.t 17), none, []⟩]) (
 .ret))), [.tmp 6]⟩
theorem F153_ok : compFun Tryz.prog Tryz.f153 3 [] = some F153 := by kernel_rfl
/-- roadbook/expr.Pair -/
def F154 : SFun := ⟨1, 
 .seq (
 .region false [ ⟨(some 1), .box (.t 0), none, []⟩, ⟨(some 2), .mov (.c (.int .i64 0)), none, []⟩, ⟨(some 3), .mov (.c (.int .i64 0)), none, []⟩, ⟨(some 4), .mov (.c (.bool false)), none, []⟩]) (
 .seq (
 .seq (
 .region false [ ⟨(some 7), .load 5 true (.t 1), none, []⟩, ⟨(some 8), .call (.c (.fn (.func 220) [] [])) [(.t 7)], none, []⟩, ⟨(some 9), .un .not (.t 8), none, []⟩, ⟨(some 10), .mov (.t 9), none, []⟩, ⟨(some 11), .faddr 0 1 false (.t 1), (some (10, false)), []⟩, ⟨(some 12), .load 1 false (.t 11), (some (10, false)), []⟩, ⟨(some 13), .bin .neq (.t 12) (.c (.int .i64 6)), (some (10, false)), []⟩, ⟨(some 14), .pick (.t 10) (.c (.bool true)) (.t 13), none, []⟩]) (
 .cond (.t 14) (
 .seq (
 .region false [ ⟨(some 2), .mov (.c (.int .i64 0)), none, []⟩, ⟨(some 3), .mov (.c (.int .i64 0)), none, []⟩, ⟨(some 4), .mov (.c (.bool false)), none, []⟩]) (
 .ret)) (
 .skip))) (
 .seq (
 .region true [ ⟨(some 15), .faddr 4 1 false (.t 1), none, []⟩, ⟨(some 16), .load 1 false (.t 15), none, [0]⟩, ⟨(some 17), .iaddr 5 (.t 16) (.c (.int .i64 0)), none, [1, 0]⟩, ⟨(some 18), .load 5 true (.t 17), none, [2, 1, 0]⟩, ⟨(some 19), .faddr 4 1 false (.t 1), none, []⟩, ⟨(some 20), .load 1 false (.t 19), none, [4]⟩, ⟨(some 21), .iaddr 5 (.t 20) (.c (.int .i64 1)), none, [5, 4]⟩, ⟨(some 22), .load 5 true (.t 21), none, [6, 5, 4]⟩, ⟨(some 5), .alloc (.agg [.int .i64 0, .int .i64 0, .int .i64 0, .int .i64 0, .sl .full []]), none, []⟩, ⟨(some 6), .alloc (.agg [.int .i64 0, .int .i64 0, .int .i64 0, .int .i64 0, .sl .full []]), none, []⟩, ⟨none, .store 5 (.t 5) (.t 18), none, [8, 3, 2, 1, 0, 9]⟩, ⟨none, .store 5 (.t 6) (.t 22), none, [9, 7, 6, 5, 4, 10, 8, 3, 2, 1, 0]⟩]) (
 .seq (
 .seq (
 .region false [ ⟨(some 23), .faddr 0 1 false (.t 5), none, []⟩, ⟨(some 24), .load 1 false (.t 23), none, []⟩, ⟨(some 25), .bin .neq (.t 24) (.c (.int .i64 1)), none, []⟩, ⟨(some 26), .mov (.t 25), none, []⟩, ⟨(some 27), .faddr 0 1 false (.t 6), (some (26, false)), []⟩, ⟨(some 28), .load 1 false (.t 27), (some (26, false)), []⟩, ⟨(some 29), .bin .neq (.t 28) (.c (.int .i64 1)), (some (26, false)), []⟩, ⟨(some 30), .pick (.t 26) (.c (.bool true)) (.t 29), none, []⟩, ⟨(some 31), .mov (.t 30), none, []⟩, ⟨(some 32), .faddr 1 1 false (.t 5), (some (31, false)), []⟩, ⟨(some 33), .load 1 false (.t 32), (some (31, false)), []⟩, ⟨(some 34), .faddr 1 1 false (.t 6), (some (31, false)), []⟩, ⟨(some 35), .load 1 false (.t 34), (some (31, false)), []⟩, ⟨(some 36), .bin .eql (.t 33) (.t 35), (some (31, false)), []⟩, ⟨(some 37), .pick (.t 31) (.c (.bool true)) (.t 36), none, []⟩]) (
 .cond (.t 37) (
 .seq (
 .region false [ ⟨(some 2), .mov (.c (.int .i64 0)), none, []⟩, ⟨(some 3), .mov (.c (.int .i64 0)), none, []⟩, ⟨(some 4), .mov (.c (.bool false)), none, []⟩]) (
 .ret)) (
 .skip))) (
 .seq (
 .region true [ ⟨(some 38), .faddr 1 1 false (.t 5), none, []⟩, ⟨(some 39), .load 1 false (.t 38), none, [0]⟩, ⟨(some 40), .faddr 1 1 false (.t 6), none, []⟩, ⟨(some 41), .load 1 false (.t 40), none, [2]⟩, ⟨(some 2), .mov (.t 39), none, [1, 0]⟩, ⟨(some 3), .mov (.t 41), none, [3, 2, 4, 1, 0]⟩, ⟨(some 4), .mov (.c (.bool true)), none, [5, 3, 2, 4, 1, 0]⟩]) (
 .ret))))), [.tmp 2, .tmp 3, .tmp 4]⟩
theorem F154_ok : compFun Tryz.prog Tryz.f154 1 [] = some F154 := by kernel_rfl
/-- (roadbook/query.set).holds -/
def F155 : SFun := ⟨2, 
 .seq (
 .region false [ ⟨(some 4), .mov (.c (.bool false)), none, []⟩]) (
 .seq (
 .region false [ ⟨(some 5), .mov (.t 0), none, []⟩, ⟨(some 6), .mov (.t 1), none, []⟩, ⟨(some 7), .bin .and (.t 5) (.t 6), none, []⟩, ⟨(some 8), .mov (.t 1), none, []⟩, ⟨(some 9), .bin .eql (.t 7) (.t 8), none, []⟩, ⟨(some 4), .mov (.t 9), none, []⟩]) (
 .ret)), [.tmp 4]⟩
theorem F155_ok : compFun Tryz.prog Tryz.f155 2 [] = some F155 := by kernel_rfl
/-- roadbook/query.of -/
def F156 : SFun := ⟨1, 
 .seq (
 .region false [ ⟨(some 2), .mov (.c (.int .i64 0)), none, []⟩]) (
 .seq (
 .region false [ ⟨(some 3), .mov (.c (.int .i64 0)), none, []⟩]) (
 .seq (
 .seq (
 .region false [ ⟨(some 9), .mov (.t 0), none, []⟩, ⟨(some 10), .len (.t 9), none, []⟩, ⟨(some 11), .mov (.c (.int .i64 0)), none, []⟩]) (
 .block 0 (
 .loop [3, 9, 10, 11] (
 .seq (
 .region false [ ⟨(some 12), .bin .lss (.t 11) (.t 10), none, []⟩]) (
 .seq (
 .cond (.t 12) (
 .skip) (
 .exit 0)) (
 .seq (
 .block 1 (
 .seq (
 .region false [ ⟨(some 13), .iaddr 1 (.t 9) (.t 11), none, []⟩, ⟨(some 14), .load 1 false (.t 13), none, []⟩, ⟨(some 5), .mov (.t 14), none, []⟩]) (
 .seq (
 .region false [ ⟨(some 16), .mov (.t 5), none, []⟩, ⟨(some 17), .call (.c (.fn (.func 229) [] [])) [(.t 16)], none, []⟩, ⟨(some 15), .mov (.t 17), none, []⟩, ⟨(some 18), .ext (.t 15) 0, none, []⟩, ⟨(some 19), .ext (.t 15) 1, none, []⟩, ⟨(some 20), .ext (.t 15) 2, none, []⟩, ⟨(some 6), .mov (.t 18), none, []⟩, ⟨(some 7), .mov (.t 19), none, []⟩, ⟨(some 8), .mov (.t 20), none, []⟩]) (
 .region false [ ⟨(some 21), .mov (.t 3), none, []⟩, ⟨(some 22), .mov (.t 6), none, []⟩, ⟨(some 23), .bin .shl (.c (.int .i64 1)) (.t 22), none, []⟩, ⟨(some 24), .bin .or (.t 21) (.t 23), none, []⟩, ⟨(some 3), .mov (.t 24), none, []⟩])))) (
 .region false [ ⟨(some 25), .bin .add (.t 11) (.c (.int .i64 1)), none, []⟩, ⟨(some 11), .mov (.t 25), none, []⟩]))))))) (
 .seq (
 .region false [ ⟨(some 26), .mov (.t 3), none, []⟩, ⟨(some 2), .mov (.t 26), none, []⟩]) (
 .ret)))), [.tmp 2]⟩
theorem F156_ok : compFun Tryz.prog Tryz.f156 1 [[3, 9, 10, 11]] = some F156 := by kernel_rfl
/-- roadbook/tree.Leaf -/
def F161 : SFun := ⟨1, 
 .seq (
 .region false [ ⟨(some 2), .alloc (.agg [.int .i64 0, .sl .full []]), none, []⟩]) (
 .seq (
 .region false [ ⟨(some 3), .mov (.t 0), none, []⟩, ⟨(some 4), .build [.int .i64 0, .sl .full []] [(0, 1, (.t 3))], none, []⟩, ⟨none, .store 2 (.t 2) (.t 4), none, []⟩]) (
 .ret)), [.cell 2 2 true]⟩
theorem F161_ok : compFun Tryz.prog Tryz.f161 1 [] = some F161 := by kernel_rfl
/-- roadbook/tree.text -/
def F184 : SFun := ⟨1, 
 .seq (
 .region false [ ⟨(some 1), .box (.t 0), none, []⟩, ⟨(some 2), .mov (.c (.str ⟨⟨[]⟩⟩)), none, []⟩]) (
 .seq (
 .seq (
 .region false [ ⟨(some 3), .faddr 1 1 false (.t 1), none, []⟩, ⟨(some 4), .load 1 false (.t 3), none, []⟩, ⟨(some 5), .len (.t 4), none, []⟩, ⟨(some 6), .bin .eql (.t 5) (.c (.int .i64 0)), none, []⟩]) (
 .cond (.t 6) (
 .seq (
 .region false [ ⟨(some 7), .faddr 0 1 false (.t 1), none, []⟩, ⟨(some 8), .load 1 false (.t 7), none, []⟩, ⟨(some 9), .bin .add (.c (.int .i64 48)) (.t 8), none, []⟩, ⟨(some 10), .conv .i32 (.t 9), none, []⟩, ⟨(some 11), .chr (.t 10), none, []⟩, ⟨(some 2), .mov (.t 11), none, []⟩]) (
 .ret)) (
 .skip))) (
 .seq (
 .region true [ ⟨(some 12), .faddr 1 1 false (.t 1), none, []⟩, ⟨(some 13), .load 1 false (.t 12), none, [0]⟩, ⟨(some 14), .iaddr 2 (.t 13) (.c (.int .i64 0)), none, [1, 0]⟩, ⟨(some 15), .load 2 true (.t 14), none, [2, 1, 0]⟩, ⟨(some 16), .call (.c (.fn (.func 184) [] [])) [(.t 15)], none, [3, 2, 1, 0]⟩, ⟨(some 17), .sadd (.c (.str ⟨⟨[40]⟩⟩)) (.t 16), none, [4, 3, 2, 1, 0]⟩, ⟨(some 18), .faddr 1 1 false (.t 1), none, []⟩, ⟨(some 19), .load 1 false (.t 18), none, [6]⟩, ⟨(some 20), .iaddr 2 (.t 19) (.c (.int .i64 1)), none, [7, 6]⟩, ⟨(some 21), .load 2 true (.t 20), none, [8, 7, 6]⟩, ⟨(some 22), .call (.c (.fn (.func 184) [] [])) [(.t 21)], none, [9, 8, 7, 6, 4, 3, 2, 1, 0]⟩, ⟨(some 23), .sadd (.t 17) (.t 22), none, [5, 4, 3, 2, 1, 0, 10, 9, 8, 7, 6]⟩, ⟨(some 24), .sadd (.t 23) (.c (.str ⟨⟨[41]⟩⟩)), none, [11, 5, 4, 3, 2, 1, 0, 10, 9, 8, 7, 6]⟩, ⟨(some 2), .mov (.t 24), none, [12, 11, 5, 4, 3, 2, 1, 0, 10, 9, 8, 7, 6]⟩]) (
 .ret))), [.tmp 2]⟩
theorem F184_ok : compFun Tryz.prog Tryz.f184 1 [] = some F184 := by kernel_rfl
/-- (roadbook/plan.part).set -/
def F185 : SFun := ⟨1, 
 .seq (
 .region false [ ⟨(some 1), .box (.t 0), none, []⟩, ⟨(some 2), .mov (.c (.int .i64 0)), none, []⟩]) (
 .seq (
 .region false [ ⟨(some 3), .faddr 0 5 true (.t 1), none, []⟩, ⟨(some 4), .load 5 true (.t 3), none, []⟩, ⟨(some 5), .call (.c (.fn (.func 104) [] [])) [(.t 4)], none, []⟩, ⟨(some 6), .call (.c (.fn (.func 33) [] [])) [(.t 5)], none, []⟩, ⟨(some 2), .mov (.t 6), none, []⟩]) (
 .ret)), [.tmp 2]⟩
theorem F185_ok : compFun Tryz.prog Tryz.f185 1 [] = some F185 := by kernel_rfl
/-- slices.Contains[[][2]int,[2]int] -/
def F186 : SFun := ⟨2, 
 .seq (
 .region false [ ⟨(some 3), .box (.t 1), none, []⟩, ⟨(some 4), .mov (.c (.bool false)), none, []⟩]) (
 .seq (
 .region false [ ⟨(some 5), .mov (.t 0), none, []⟩, ⟨(some 6), .load 2 true (.t 3), none, []⟩, ⟨(some 7), .call (.c (.fn (.func 257) [] [])) [(.t 5), (.t 6)], none, []⟩, ⟨(some 8), .bin .geq (.t 7) (.c (.int .i64 0)), none, []⟩, ⟨(some 4), .mov (.t 8), none, []⟩]) (
 .ret)), [.tmp 4]⟩
theorem F186_ok : compFun Tryz.prog Tryz.f186 2 [] = some F186 := by kernel_rfl
/-- (roadbook/plan.part).plans -/
def F187 : SFun := ⟨1, 
 .seq (
 .region false [ ⟨(some 1), .box (.t 0), none, []⟩, ⟨(some 2), .mov (.c (.int .i64 0)), none, []⟩]) (
 .seq (
 .seq (
 .region false [ ⟨(some 3), .faddr 0 5 true (.t 1), none, []⟩, ⟨(some 4), .faddr 0 1 false (.t 3), none, []⟩, ⟨(some 5), .load 1 false (.t 4), none, []⟩]) (
 .block 0 (
 .seq (
 .region false [ ⟨(some 7), .bin .eql (.t 5) (.c (.int .i64 0)), none, []⟩, ⟨(some 6), .mov (.t 7), none, []⟩]) (
 .cond (.t 6) (
 .seq (
 .region false [ ⟨(some 2), .mov (.c (.int .i64 0)), none, []⟩]) (
 .ret)) (
 .seq (
 .region false [ ⟨(some 9), .bin .eql (.t 5) (.c (.int .i64 4)), none, []⟩, ⟨(some 8), .mov (.t 9), none, []⟩]) (
 .cond (.t 8) (
 .seq (
 .region false [ ⟨(some 2), .mov (.c (.int .i64 1)), none, []⟩]) (
 .ret)) (
 .skip))))))) (
 .seq (
 .region false [ ⟨(some 2), .mov (.c (.int .i64 2)), none, []⟩]) (
 .ret))), [.tmp 2]⟩
theorem F187_ok : compFun Tryz.prog Tryz.f187 1 [] = some F187 := by kernel_rfl
/-- roadbook/data.Col -/
def F188 : SFun := ⟨2, 
 .seq (
 .region false [ ⟨(some 4), .mov (.c (.int .i64 0)), none, []⟩]) (
 .seq (
 .seq (
 .region false [ ⟨(some 5), .mov (.t 0), none, []⟩, ⟨(some 6), .call (.c (.fn (.func 215) [] [])) [(.t 5), (.c (.int .i64 0)), (.c (.int .i64 3))], none, []⟩, ⟨(some 7), .un .not (.t 6), none, []⟩, ⟨(some 8), .mov (.t 7), none, []⟩, ⟨(some 9), .mov (.t 1), (some (8, false)), []⟩, ⟨(some 10), .call (.c (.fn (.func 215) [] [])) [(.t 9), (.c (.int .i64 0)), (.c (.int .i64 3))], (some (8, false)), []⟩, ⟨(some 11), .un .not (.t 10), (some (8, false)), []⟩, ⟨(some 12), .pick (.t 8) (.c (.bool true)) (.t 11), none, []⟩]) (
 .cond (.t 12) (
 .seq (
 .region false [ ⟨(some 4), .mov (.c (.int .i64 (-1))), none, []⟩]) (
 .ret)) (
 .skip))) (
 .seq (
 .region false [ ⟨(some 13), .mov (.t 0), none, []⟩, ⟨(some 14), .bin .mul (.c (.int .i64 4)) (.t 13), none, []⟩, ⟨(some 15), .mov (.t 1), none, []⟩, ⟨(some 16), .bin .add (.t 14) (.t 15), none, []⟩, ⟨(some 4), .mov (.t 16), none, []⟩]) (
 .ret))), [.tmp 4]⟩
theorem F188_ok : compFun Tryz.prog Tryz.f188 2 [] = some F188 := by kernel_rfl
/-- roadbook/cost.Scan -/
def F189 : SFun := ⟨1, 
 .seq (
 .region false [ ⟨(some 2), .mov (.c (.int .i64 0)), none, []⟩]) (
 .seq (
 .region false [ ⟨(some 3), .mov (.t 0), none, []⟩, ⟨(some 4), .call (.c (.fn (.func 113) [] [])) [(.t 3)], none, []⟩, ⟨(some 5), .call (.c (.fn (.func 112) [] [])) [(.c (.int .i64 1)), (.t 4)], none, []⟩, ⟨(some 2), .mov (.t 5), none, []⟩]) (
 .ret)), [.tmp 2]⟩
theorem F189_ok : compFun Tryz.prog Tryz.f189 1 [] = some F189 := by kernel_rfl
/-- math/bits.Mul64 -/
def F191 : SFun := ⟨2, 
 .seq (
 .region false [ ⟨(some 4), .mov (.c (.int .u64 0)), none, []⟩, ⟨(some 5), .mov (.c (.int .u64 0)), none, []⟩]) (
 .seq (
 .region false [ ⟨(some 14), .mov (.t 0), none, []⟩, ⟨(some 15), .bin .and (.t 14) (.c (.int .u64 4294967295)), none, []⟩, ⟨(some 6), .mov (.t 15), none, []⟩]) (
 .seq (
 .region false [ ⟨(some 16), .mov (.t 0), none, []⟩, ⟨(some 17), .bin .shr (.t 16) (.c (.int .u64 32)), none, []⟩, ⟨(some 7), .mov (.t 17), none, []⟩]) (
 .seq (
 .region false [ ⟨(some 18), .mov (.t 1), none, []⟩, ⟨(some 19), .bin .and (.t 18) (.c (.int .u64 4294967295)), none, []⟩, ⟨(some 8), .mov (.t 19), none, []⟩]) (
 .seq (
 .region false [ ⟨(some 20), .mov (.t 1), none, []⟩, ⟨(some 21), .bin .shr (.t 20) (.c (.int .u64 32)), none, []⟩, ⟨(some 9), .mov (.t 21), none, []⟩]) (
 .seq (
 .region false [ ⟨(some 22), .mov (.t 6), none, []⟩, ⟨(some 23), .mov (.t 8), none, []⟩, ⟨(some 24), .bin .mul (.t 22) (.t 23), none, []⟩, ⟨(some 10), .mov (.t 24), none, []⟩]) (
 .seq (
 .region false [ ⟨(some 25), .mov (.t 7), none, []⟩, ⟨(some 26), .mov (.t 8), none, []⟩, ⟨(some 27), .bin .mul (.t 25) (.t 26), none, []⟩, ⟨(some 28), .mov (.t 10), none, []⟩, ⟨(some 29), .bin .shr (.t 28) (.c (.int .u64 32)), none, []⟩, ⟨(some 30), .bin .add (.t 27) (.t 29), none, []⟩, ⟨(some 11), .mov (.t 30), none, []⟩]) (
 .seq (
 .region false [ ⟨(some 31), .mov (.t 11), none, []⟩, ⟨(some 32), .bin .and (.t 31) (.c (.int .u64 4294967295)), none, []⟩, ⟨(some 12), .mov (.t 32), none, []⟩]) (
 .seq (
 .region false [ ⟨(some 33), .mov (.t 11), none, []⟩, ⟨(some 34), .bin .shr (.t 33) (.c (.int .u64 32)), none, []⟩, ⟨(some 13), .mov (.t 34), none, []⟩]) (
 .seq (
 .region false [ ⟨(some 35), .mov (.t 12), none, []⟩, ⟨(some 36), .mov (.t 6), none, []⟩, ⟨(some 37), .mov (.t 9), none, []⟩, ⟨(some 38), .bin .mul (.t 36) (.t 37), none, []⟩, ⟨(some 39), .bin .add (.t 35) (.t 38), none, []⟩, ⟨(some 12), .mov (.t 39), none, []⟩]) (
 .seq (
 .region false [ ⟨(some 40), .mov (.t 7), none, []⟩, ⟨(some 41), .mov (.t 9), none, []⟩, ⟨(some 42), .bin .mul (.t 40) (.t 41), none, []⟩, ⟨(some 43), .mov (.t 13), none, []⟩, ⟨(some 44), .bin .add (.t 42) (.t 43), none, []⟩, ⟨(some 45), .mov (.t 12), none, []⟩, ⟨(some 46), .bin .shr (.t 45) (.c (.int .u64 32)), none, []⟩, ⟨(some 47), .bin .add (.t 44) (.t 46), none, []⟩, ⟨(some 4), .mov (.t 47), none, []⟩]) (
 .seq (
 .region false [ ⟨(some 48), .mov (.t 0), none, []⟩, ⟨(some 49), .mov (.t 1), none, []⟩, ⟨(some 50), .bin .mul (.t 48) (.t 49), none, []⟩, ⟨(some 5), .mov (.t 50), none, []⟩]) (
 .ret)))))))))))), [.tmp 4, .tmp 5]⟩
theorem F191_ok : compFun Tryz.prog Tryz.f191 2 [] = some F191 := by kernel_rfl
/-- roadbook/query.Own -/
def F192 : SFun := ⟨2, 
 .seq (
 .region false [ ⟨(some 2), .box (.t 0), none, []⟩, ⟨(some 4), .mov (.c (.sl .full [])), none, []⟩]) (
 .seq (
 .region false [ ⟨(some 5), .load 6 true (.t 2), none, []⟩, ⟨(some 6), .mov (.t 1), none, []⟩, ⟨(some 7), .mkfn (.func 155) [(.t 6)] [], none, []⟩, ⟨(some 8), .call (.c (.fn (.func 227) [] [])) [(.t 5), (.t 7)], none, []⟩, ⟨(some 4), .mov (.t 8), none, []⟩]) (
 .ret)), [.tmp 4]⟩
theorem F192_ok : compFun Tryz.prog Tryz.f192 2 [] = some F192 := by kernel_rfl
/-- roadbook/card.divs -/
def F193 : SFun := ⟨0, 
 .seq (
 .region false [ ⟨(some 0), .alloc (.agg [.int .i64 0, .int .i64 0]), none, []⟩]) (
 .seq (
 .region false [ ⟨(some 1), .build [.int .i64 0, .int .i64 0] [(0, 1, (.c (.int .i64 3))), (1, 1, (.c (.int .i64 10)))], none, []⟩, ⟨none, .store 2 (.t 0) (.t 1), none, []⟩]) (
 .ret)), [.cell 0 2 true]⟩
theorem F193_ok : compFun Tryz.prog Tryz.f193 0 [] = some F193 := by kernel_rfl
/-- roadbook/roadbookref02.Few -/
def F207 : SFun := ⟨2, 
 .seq (
 .region false [ ⟨(some 2), .box (.t 0), none, []⟩, ⟨(some 4), .mov (.c (.bool false)), none, []⟩]) (
 .seq (
 .region false [ ⟨(some 5), .load 5 true (.t 2), none, []⟩, ⟨(some 6), .mov (.t 1), none, []⟩, ⟨(some 7), .call (.c (.fn (.func 263) [] [])) [(.t 5), (.t 6)], none, []⟩, ⟨(some 8), .mov (.t 1), none, []⟩, ⟨(some 9), .bin .leq (.t 7) (.t 8), none, []⟩, ⟨(some 4), .mov (.t 9), none, []⟩]) (
 .ret)), [.tmp 4]⟩
theorem F207_ok : compFun Tryz.prog Tryz.f207 2 [] = some F207 := by kernel_rfl
/-- slices.Index[[]int,int] -/
def F208 : SFun := ⟨2, 
 .seq (
 .region false [ ⟨(some 4), .mov (.c (.int .i64 0)), none, []⟩]) (
 .seq (
 .seq (
 .region false [ ⟨(some 6), .mov (.t 0), none, []⟩, ⟨(some 7), .len (.t 6), none, []⟩, ⟨(some 8), .mov (.c (.int .i64 0)), none, []⟩]) (
 .block 0 (
 .loop [0, 1, 7, 8] (
 .seq (
 .region false [ ⟨(some 9), .bin .lss (.t 8) (.t 7), none, []⟩]) (
 .seq (
 .cond (.t 9) (
 .skip) (
 .exit 0)) (
 .seq (
 .block 1 (
 .seq (
 .region false [ ⟨(some 10), .mov (.t 8), none, []⟩, ⟨(some 5), .mov (.t 10), none, []⟩]) (
 .seq (
 .region false [ ⟨(some 11), .mov (.t 1), none, []⟩, ⟨(some 12), .mov (.t 0), none, []⟩, ⟨(some 13), .mov (.t 5), none, []⟩, ⟨(some 14), .iaddr 1 (.t 12) (.t 13), none, []⟩, ⟨(some 15), .load 1 false (.t 14), none, []⟩, ⟨(some 16), .bin .eql (.t 11) (.t 15), none, []⟩]) (
 .cond (.t 16) (
 .seq (
 .region false [ ⟨(some 17), .mov (.t 5), none, []⟩, ⟨(some 4), .mov (.t 17), none, []⟩]) (
 .ret)) (
 .skip))))) (
 .region false [ ⟨(some 18), .bin .add (.t 8) (.c (.int .i64 1)), none, []⟩, ⟨(some 8), .mov (.t 18), none, []⟩]))))))) (
 .seq (
 .region false [ ⟨(some 4), .mov (.c (.int .i64 (-1))), none, []⟩]) (
 .ret))), [.tmp 4]⟩
theorem F208_ok : compFun Tryz.prog Tryz.f208 2 [[0, 1, 7, 8]] = some F208 := by kernel_rfl
/-- roadbook/data.in -/
def F215 : SFun := ⟨3, 
 .seq (
 .region false [ ⟨(some 6), .mov (.c (.bool false)), none, []⟩]) (
 .seq (
 .region false [ ⟨(some 7), .mov (.t 0), none, []⟩, ⟨(some 8), .mov (.t 1), none, []⟩, ⟨(some 9), .bin .geq (.t 7) (.t 8), none, []⟩, ⟨(some 10), .mov (.t 9), none, []⟩, ⟨(some 11), .mov (.t 0), (some (10, true)), []⟩, ⟨(some 12), .mov (.t 2), (some (10, true)), []⟩, ⟨(some 13), .bin .leq (.t 11) (.t 12), (some (10, true)), []⟩, ⟨(some 14), .pick (.t 10) (.t 13) (.c (.bool false)), none, []⟩, ⟨(some 6), .mov (.t 14), none, []⟩]) (
 .ret)), [.tmp 6]⟩
theorem F215_ok : compFun Tryz.prog Tryz.f215 3 [] = some F215 := by kernel_rfl
/-- slices.ContainsFunc[[]roadbook/api.Def,roadbook/api.Def] -/
def F216 : SFun := ⟨2, 
 .seq (
 .region false [ ⟨(some 4), .mov (.c (.bool false)), none, []⟩]) (
 .seq (
 .region false [ ⟨(some 5), .mov (.t 0), none, []⟩, ⟨(some 6), .mov (.t 1), none, []⟩, ⟨(some 7), .call (.c (.fn (.func 264) [] [])) [(.t 5), (.t 6)], none, []⟩, ⟨(some 8), .bin .geq (.t 7) (.c (.int .i64 0)), none, []⟩, ⟨(some 4), .mov (.t 8), none, []⟩]) (
 .ret)), [.tmp 4]⟩
theorem F216_ok : compFun Tryz.prog Tryz.f216 2 [] = some F216 := by kernel_rfl
/-- roadbook/data.May$1 -/
def F217 : SFun := ⟨1, 
 .seq (
 .region false [ ⟨(some 1), .box (.t 0), none, []⟩, ⟨(some 2), .mov (.c (.bool false)), none, []⟩]) (
 .seq (
 .region false [ ⟨(some 3), .load 2 true (.t 1), none, []⟩, ⟨(some 4), .call (.c (.fn (.func 218) [] [])) [(.t 3)], none, []⟩, ⟨(some 5), .un .not (.t 4), none, []⟩, ⟨(some 2), .mov (.t 5), none, []⟩]) (
 .ret)), [.tmp 2]⟩
theorem F217_ok : compFun Tryz.prog Tryz.f217 1 [] = some F217 := by kernel_rfl
/-- roadbook/data.one -/
def F218 : SFun := ⟨1, 
 .seq (
 .region false [ ⟨(some 1), .box (.t 0), none, []⟩, ⟨(some 2), .mov (.c (.bool false)), none, []⟩]) (
 .seq (
 .region false [ ⟨(some 3), .load 2 true (.t 1), none, []⟩, ⟨(some 4), .build [.int .i64 0, .int .i64 0] [], none, []⟩, ⟨(some 5), .eqa true [true, true] (.t 3) (.t 4), none, []⟩, ⟨(some 6), .mov (.t 5), none, []⟩, ⟨(some 7), .faddr 0 1 false (.t 1), (some (6, true)), []⟩, ⟨(some 8), .load 1 false (.t 7), (some (6, true)), []⟩, ⟨(some 9), .call (.c (.fn (.func 215) [] [])) [(.t 8), (.c (.int .i64 1)), (.c (.int .i64 4))], (some (6, true)), []⟩, ⟨(some 10), .pick (.t 6) (.t 9) (.c (.bool false)), none, []⟩, ⟨(some 11), .mov (.t 10), none, []⟩, ⟨(some 12), .faddr 1 1 false (.t 1), (some (11, true)), []⟩, ⟨(some 13), .load 1 false (.t 12), (some (11, true)), []⟩, ⟨(some 14), .call (.c (.fn (.func 215) [] [])) [(.t 13), (.c (.int .i64 1)), (.c (.int .i64 1000000))], (some (11, true)), []⟩, ⟨(some 15), .pick (.t 11) (.t 14) (.c (.bool false)), none, []⟩, ⟨(some 2), .mov (.t 15), none, []⟩]) (
 .ret)), [.tmp 2]⟩
theorem F218_ok : compFun Tryz.prog Tryz.f218 1 [] = some F218 := by kernel_rfl
/-- slices.IndexFunc[[]int,int] -/
def F219 : SFun := ⟨2, 
 .seq (
 .region false [ ⟨(some 4), .mov (.c (.int .i64 0)), none, []⟩]) (
 .seq (
 .seq (
 .region false [ ⟨(some 6), .mov (.t 0), none, []⟩, ⟨(some 7), .len (.t 6), none, []⟩, ⟨(some 8), .mov (.c (.int .i64 0)), none, []⟩]) (
 .block 0 (
 .loop [0, 1, 7, 8] (
 .seq (
 .region false [ ⟨(some 9), .bin .lss (.t 8) (.t 7), none, []⟩]) (
 .seq (
 .cond (.t 9) (
 .skip) (
 .exit 0)) (
 .seq (
 .block 1 (
 .seq (
 .region false [ ⟨(some 10), .mov (.t 8), none, []⟩, ⟨(some 5), .mov (.t 10), none, []⟩]) (
 .seq (
 .region false [ ⟨(some 11), .mov (.t 1), none, []⟩, ⟨(some 12), .mov (.t 0), none, []⟩, ⟨(some 13), .mov (.t 5), none, []⟩, ⟨(some 14), .iaddr 1 (.t 12) (.t 13), none, []⟩, ⟨(some 15), .load 1 false (.t 14), none, []⟩, ⟨(some 16), .call (.t 11) [(.t 15)], none, []⟩]) (
 .cond (.t 16) (
 .seq (
 .region false [ ⟨(some 17), .mov (.t 5), none, []⟩, ⟨(some 4), .mov (.t 17), none, []⟩]) (
 .ret)) (
 .skip))))) (
 .region false [ ⟨(some 18), .bin .add (.t 8) (.c (.int .i64 1)), none, []⟩, ⟨(some 8), .mov (.t 18), none, []⟩]))))))) (
 .seq (
 .region false [ ⟨(some 4), .mov (.c (.int .i64 (-1))), none, []⟩]) (
 .ret))), [.tmp 4]⟩
theorem F219_ok : compFun Tryz.prog Tryz.f219 2 [[0, 1, 7, 8]] = some F219 := by kernel_rfl
/-- roadbook/expr.May -/
def F220 : SFun := ⟨1, 
 .seq (
 .region false [ ⟨(some 1), .box (.t 0), none, []⟩, ⟨(some 2), .mov (.c (.bool false)), none, []⟩]) (
 .seq (
 .region false [ ⟨(some 3), .alloc (.int .i64 0), none, []⟩, ⟨none, .store 1 (.t 3) (.c (.int .i64 0)), none, []⟩]) (
 .seq (
 .region false [ ⟨(some 4), .load 5 true (.t 1), none, []⟩, ⟨(some 5), .mkfn (.func 265) [] [(.t 3)], none, []⟩, ⟨(some 6), .call (.c (.fn (.func 221) [] [])) [(.t 4), (.c (.int .i64 1)), (.t 5)], none, []⟩, ⟨(some 2), .mov (.t 6), none, []⟩]) (
 .ret))), [.tmp 2]⟩
theorem F220_ok : compFun Tryz.prog Tryz.f220 1 [] = some F220 := by kernel_rfl
/-- roadbook/expr.each -/
def F221 : SFun := ⟨3, 
 .seq (
 .region false [ ⟨(some 3), .box (.t 0), none, []⟩, ⟨(some 6), .mov (.c (.bool false)), none, []⟩]) (
 .seq (
 .seq (
 .region false [ ⟨(some 9), .mov (.t 2), none, []⟩, ⟨(some 10), .load 5 true (.t 3), none, []⟩, ⟨(some 11), .mov (.t 1), none, []⟩, ⟨(some 12), .call (.t 9) [(.t 10), (.t 11)], none, []⟩, ⟨(some 13), .un .not (.t 12), none, []⟩]) (
 .cond (.t 13) (
 .seq (
 .region false [ ⟨(some 6), .mov (.c (.bool false)), none, []⟩]) (
 .ret)) (
 .skip))) (
 .seq (
 .seq (
 .region false [ ⟨(some 14), .faddr 4 1 false (.t 3), none, []⟩, ⟨(some 15), .load 1 false (.t 14), none, []⟩, ⟨(some 16), .len (.t 15), none, []⟩, ⟨(some 17), .mov (.c (.int .i64 0)), none, []⟩]) (
 .block 0 (
 .loop [1, 2, 15, 16, 17] (
 .seq (
 .region false [ ⟨(some 18), .bin .lss (.t 17) (.t 16), none, []⟩]) (
 .seq (
 .cond (.t 18) (
 .skip) (
 .exit 0)) (
 .seq (
 .block 1 (
 .seq (
 .region false [ ⟨(some 19), .iaddr 5 (.t 15) (.t 17), none, []⟩, ⟨(some 20), .load 5 true (.t 19), none, []⟩, ⟨(some 8), .alloc (.agg [.int .i64 0, .int .i64 0, .int .i64 0, .int .i64 0, .sl .full []]), none, []⟩, ⟨none, .store 5 (.t 8) (.t 20), none, []⟩]) (
 .seq (
 .region false [ ⟨(some 21), .load 5 true (.t 8), none, []⟩, ⟨(some 22), .mov (.t 1), none, []⟩, ⟨(some 23), .bin .add (.t 22) (.c (.int .i64 1)), none, []⟩, ⟨(some 24), .mov (.t 2), none, []⟩, ⟨(some 25), .call (.c (.fn (.func 221) [] [])) [(.t 21), (.t 23), (.t 24)], none, []⟩, ⟨(some 26), .un .not (.t 25), none, []⟩]) (
 .cond (.t 26) (
 .seq (
 .region false [ ⟨(some 6), .mov (.c (.bool false)), none, []⟩]) (
 .ret)) (
 .skip))))) (
 .region false [ ⟨(some 27), .bin .add (.t 17) (.c (.int .i64 1)), none, []⟩, ⟨(some 17), .mov (.t 27), none, []⟩]))))))) (
 .seq (
 .region false [ ⟨(some 6), .mov (.c (.bool true)), none, []⟩]) (
 .ret)))), [.tmp 6]⟩
theorem F221_ok : compFun Tryz.prog Tryz.f221 3 [[1, 2, 15, 16, 17]] = some F221 := by kernel_rfl
/-- roadbook/expr.Cols$1 -/
def F222 : SFun := ⟨3, 
 .seq (
 .region false [ ⟨(some 3), .box (.t 0), none, []⟩, ⟨(some 5), .mov (.c (.bool false)), none, []⟩]) (
 .seq (
 .seq (
 .region false [ ⟨(some 6), .faddr 0 1 false (.t 3), none, []⟩, ⟨(some 7), .load 1 false (.t 6), none, []⟩, ⟨(some 8), .bin .eql (.t 7) (.c (.int .i64 1)), none, []⟩]) (
 .cond (.t 8) (
 .region false [ ⟨(some 9), .load 1 false (.t 2), none, []⟩, ⟨(some 10), .faddr 1 1 false (.t 3), none, []⟩, ⟨(some 11), .load 1 false (.t 10), none, []⟩, ⟨(some 12), .bslice 1 (.int .i64 0) 1 [(0, (.t 11))], none, []⟩, ⟨(some 13), .append 3 1 8 (.t 9) (.t 12), none, []⟩, ⟨none, .store 1 (.t 2) (.t 13), none, []⟩]) (
 .skip))) (
 .seq (
 .region false [ ⟨(some 5), .mov (.c (.bool true)), none, []⟩]) (
 .ret))), [.tmp 5]⟩
theorem F222_ok : compFun Tryz.prog Tryz.f222 3 [] = some F222 := by kernel_rfl
end Go.Rb

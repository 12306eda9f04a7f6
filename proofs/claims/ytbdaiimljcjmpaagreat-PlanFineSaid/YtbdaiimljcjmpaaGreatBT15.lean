/- The library's contracts at this program's numbers (laid by the shelf's own programs). Functions that are told from elsewhere: their contracts. Numbers' lengths; what a plan's part costs. Functions that are told from elsewhere: sorting, and what comes after. Are all numbers different? The walk. An expression's columns, as they are gathered. An expression's columns: what the engine knows of the gathering, said of the model. An expression's columns: the walk. May something be asked? -/
import Derived.Test.YtbdaiimljcjmpaaGreatBT14
import Derived.Test.YtbdaiimljcjmpaaGreatBT05
import Derived.Test.YtbdaiimljcjmpaaGreatBT13
import Derived.Shelf.Small.Bits
import Derived.Shelf.Sort.Plain
import Derived.Shelf.Slices.In.SortNone
import Derived.Shelf.Slices.Clone
import Derived.Shelf.Slices.CompactI
import Derived.Test.YtbdaiimljcjmpaaGreatProg
import Derived.KernelRfl
import Derived.WalkKit
import Derived.ProofKit
import Derived.Below
namespace Go.Proofs
set_option linter.unusedVariables false
set_option linter.unusedSimpArgs false
open Go.Shelf
def Tryz.lays129_ren : Go.Shelf.Ren := ⟨fun | 129 => 114 | n => n, fun | 53 => 134 | 3 => 3 | 4 => 4 | 46 => 213 | 5 => 5 | 9 => 9 | n => n, fun | n => n⟩
theorem Tryz.lays129 : Go.Proofs.Lays.n129 Tryz.prog Tryz.lays129_ren := {
  mixed := by kernel_rfl
  f129 := Tryz.func114.trans (congrArg some (by kernel_rfl))
  t3 := Tryz.underlying3
  a3 := Tryz.isAgg3
  z3 := Tryz.sizeOf3
  v3 := Tryz.zeroValue3
  t4 := Tryz.underlying4
  a4 := Tryz.isAgg4
  z4 := Tryz.sizeOf4
  v4 := Tryz.zeroValue4
  t5 := Tryz.underlying5
  a5 := Tryz.isAgg5
  z5 := Tryz.sizeOf5
  v5 := Tryz.zeroValue5
  t9 := Tryz.underlying9
  a9 := Tryz.isAgg9
  z9 := Tryz.sizeOf9
  v9 := Tryz.zeroValue9
  t46 := Tryz.underlying213
  a46 := Tryz.isAgg213
  z46 := Tryz.sizeOf213
  v46 := Tryz.zeroValue213
  t53 := Tryz.underlying134
  a53 := Tryz.isAgg134
  z53 := Tryz.sizeOf134
  v53 := Tryz.zeroValue134 }
theorem Tryz.bits_Len64 (x : Int) (w : World) (h0 : 0 ≤ x) (h1 : x ≤ 18446744073709551615) :
    Calls Tryz.prog 114 #[.int .u64 x] w fun e w' => e = .returned (.int .i64 (Lib.bitLen x.toNat)) ∧ w' = w := Any.bits_Len64 Tryz.lays129 x w h0 h1
def Tryz.lays189_ren : Go.Shelf.Ren := ⟨fun | 189 => 223 | 125 => 251 | 257 => 267 | 128 => 283 | 129 => 114 | 294 => 290 | 295 => 291 | 296 => 292 | 297 => 293 | 298 => 294 | 299 => 295 | 216 => 296 | 300 => 297 | 301 => 298 | 328 => 320 | 329 => 300 | 330 => 301 | 331 => 321 | 332 => 322 | 215 => 323 | 343 => 338 | n => n, fun | 28 => 25 | 3 => 3 | 46 => 213 | 0 => 0 | 51 => 272 | 53 => 134 | 4 => 4 | 183 => 265 | 182 => 264 | 131 => 131 | 5 => 5 | 9 => 9 | 218 => 285 | 222 => 289 | 228 => 298 | 229 => 220 | n => n, fun | n => n⟩
theorem Tryz.lays189 : Go.Proofs.Lays.n189 Tryz.prog Tryz.lays189_ren := {
  mixed := by kernel_rfl
  f125 := Tryz.func251.trans (congrArg some (by kernel_rfl))
  f128 := Tryz.func283.trans (congrArg some (by kernel_rfl))
  f129 := Tryz.func114.trans (congrArg some (by kernel_rfl))
  f189 := Tryz.func223.trans (congrArg some (by kernel_rfl))
  f215 := Tryz.func323.trans (congrArg some (by kernel_rfl))
  f216 := Tryz.func296.trans (congrArg some (by kernel_rfl))
  f257 := Tryz.func267.trans (congrArg some (by kernel_rfl))
  f294 := Tryz.func290.trans (congrArg some (by kernel_rfl))
  f295 := Tryz.func291.trans (congrArg some (by kernel_rfl))
  f296 := Tryz.func292.trans (congrArg some (by kernel_rfl))
  f297 := Tryz.func293.trans (congrArg some (by kernel_rfl))
  f298 := Tryz.func294.trans (congrArg some (by kernel_rfl))
  f299 := Tryz.func295.trans (congrArg some (by kernel_rfl))
  f300 := Tryz.func297.trans (congrArg some (by kernel_rfl))
  f301 := Tryz.func298.trans (congrArg some (by kernel_rfl))
  f328 := Tryz.func320.trans (congrArg some (by kernel_rfl))
  f329 := Tryz.func300.trans (congrArg some (by kernel_rfl))
  f330 := Tryz.func301.trans (congrArg some (by kernel_rfl))
  f331 := Tryz.func321.trans (congrArg some (by kernel_rfl))
  f332 := Tryz.func322.trans (congrArg some (by kernel_rfl))
  f343 := Tryz.func338.trans (congrArg some (by kernel_rfl))
  t0 := Tryz.underlying0
  a0 := Tryz.isAgg0
  z0 := Tryz.sizeOf0
  v0 := Tryz.zeroValue0
  t3 := Tryz.underlying3
  a3 := Tryz.isAgg3
  z3 := Tryz.sizeOf3
  v3 := Tryz.zeroValue3
  t4 := Tryz.underlying4
  a4 := Tryz.isAgg4
  z4 := Tryz.sizeOf4
  v4 := Tryz.zeroValue4
  t5 := Tryz.underlying5
  a5 := Tryz.isAgg5
  z5 := Tryz.sizeOf5
  v5 := Tryz.zeroValue5
  t9 := Tryz.underlying9
  a9 := Tryz.isAgg9
  z9 := Tryz.sizeOf9
  v9 := Tryz.zeroValue9
  t28 := Tryz.underlying25
  a28 := Tryz.isAgg25
  z28 := Tryz.sizeOf25
  v28 := Tryz.zeroValue25
  t46 := Tryz.underlying213
  a46 := Tryz.isAgg213
  z46 := Tryz.sizeOf213
  v46 := Tryz.zeroValue213
  t51 := Tryz.underlying272
  a51 := Tryz.isAgg272
  z51 := Tryz.sizeOf272
  v51 := Tryz.zeroValue272
  t53 := Tryz.underlying134
  a53 := Tryz.isAgg134
  z53 := Tryz.sizeOf134
  v53 := Tryz.zeroValue134
  t131 := Tryz.underlying131
  a131 := Tryz.isAgg131
  z131 := Tryz.sizeOf131
  v131 := Tryz.zeroValue131
  t182 := Tryz.underlying264
  a182 := Tryz.isAgg264
  z182 := Tryz.sizeOf264
  v182 := Tryz.zeroValue264
  t183 := Tryz.underlying265
  a183 := Tryz.isAgg265
  z183 := Tryz.sizeOf265
  v183 := Tryz.zeroValue265
  t218 := Tryz.underlying285
  a218 := Tryz.isAgg285
  z218 := Tryz.sizeOf285
  v218 := Tryz.zeroValue285
  t222 := Tryz.underlying289
  a222 := Tryz.isAgg289
  z222 := Tryz.sizeOf289
  v222 := Tryz.zeroValue289
  t228 := Tryz.underlying298
  a228 := Tryz.isAgg298
  z228 := Tryz.sizeOf298
  v228 := Tryz.zeroValue298
  t229 := Tryz.underlying220
  a229 := Tryz.isAgg220
  z229 := Tryz.sizeOf220
  v229 := Tryz.zeroValue220 }
open Go.Sort Go.RowKit in
theorem Tryz.slices_Sort_int (blk off cap : Nat) (zs : List Int) (w : World) (hH : Holds (Value.int .i64) w blk off zs.toArray) (hblk : blk < w.heap.size) (hsz : zs.length < 4611686018427387904) :
    Calls Tryz.prog 223 #[.slice (some ⟨blk, off, none⟩) zs.length cap] w fun e w' =>
      e = .returned (.tuple #[]) ∧ ∃ n os, w' = grow (putRow (Value.int .i64) (Sort.ahead w n) blk off (zs.mergeSort fun x y => decide (x ≤ y)).toArray) os := Any.slices_Sort_int Tryz.lays189 blk off cap zs w hH hblk hsz
theorem Tryz.slices_Sort_int_none (p : Option Addr) (cap : Nat) (w : World) :
    Calls Tryz.prog 223 #[.slice p 0 cap] w fun e w' => e = .returned (.tuple #[]) ∧ w' = w := Any.slices_Sort_int_none Tryz.lays189 p cap w
def Tryz.laysNm215_ren : Go.Shelf.Ren := ⟨fun | 15 => 226 | n => n, fun | 22 => 25 | 3 => 3 | 4 => 4 | n => n, fun | n => n⟩
theorem Tryz.laysNm215 : Go.Proofs.Lays2.n15 Tryz.prog Tryz.laysNm215_ren := {
  mixed := by kernel_rfl
  f15 := Tryz.func226.trans (congrArg some (by kernel_rfl))
  t3 := Tryz.underlying3
  a3 := Tryz.isAgg3
  z3 := Tryz.sizeOf3
  v3 := Tryz.zeroValue3
  t4 := Tryz.underlying4
  a4 := Tryz.isAgg4
  z4 := Tryz.sizeOf4
  v4 := Tryz.zeroValue4
  t22 := Tryz.underlying25
  a22 := Tryz.isAgg25
  z22 := Tryz.sizeOf25
  v22 := Tryz.zeroValue25
  i3 := by kernel_rfl }
open Go.RowKit Go.Lib in
theorem Tryz.slices_Clone_int (b off n c : Nat) (zs : List Int) (w : World) (hz : n ≤ zs.length) (hbig : n * 8 ≤ 140737488355328) (hc : ∀ j, j < zs.length → w.cell? ⟨b, off + j, none⟩ = some (.int .i64 (zs.getD j 0))) :
    Calls Tryz.prog 226 #[.slice (some ⟨b, off, none⟩) n c] w fun e w' => ∃ v', e = .returned v' ∧ w'.ownsRow w.heap.size 3 1 v' n ((zs.take n).map (Value.int .i64)) ∧ v' ≠ .slice none 0 0 ∧ Below w.heap.size w w' := Any.slices_Clone_int Tryz.laysNm215 b off n c zs w hz hbig hc
def Tryz.laysNm220_ren : Go.Shelf.Ren := ⟨fun | 20 => 224 | n => n, fun | 22 => 25 | 3 => 3 | 4 => 4 | 0 => 0 | n => n, fun | n => n⟩
theorem Tryz.laysNm220 : Go.Proofs.Lays2.n20 Tryz.prog Tryz.laysNm220_ren := {
  mixed := by kernel_rfl
  f20 := Tryz.func224.trans (congrArg some (by kernel_rfl))
  t0 := Tryz.underlying0
  a0 := Tryz.isAgg0
  z0 := Tryz.sizeOf0
  v0 := Tryz.zeroValue0
  t3 := Tryz.underlying3
  a3 := Tryz.isAgg3
  z3 := Tryz.sizeOf3
  v3 := Tryz.zeroValue3
  t4 := Tryz.underlying4
  a4 := Tryz.isAgg4
  z4 := Tryz.sizeOf4
  v4 := Tryz.zeroValue4
  t22 := Tryz.underlying25
  a22 := Tryz.isAgg25
  z22 := Tryz.sizeOf25
  v22 := Tryz.zeroValue25
  i3 := by kernel_rfl }
open Go.RowKit Go.Lib Go.Sort in
theorem Tryz.slices_Compact_int (blk off cap : Nat) (zs : List Int) (w : World) (hH : Holds (Value.int .i64) w blk off zs.toArray) (hsz : zs.length ≤ 9223372036854775807) (hcap : zs.length ≤ cap) :
    Calls Tryz.prog 224 #[.slice (some ⟨blk, off, none⟩) zs.length cap] w fun e w' => e = .returned (.slice (some ⟨blk, off, none⟩) (Lib.compact zs).length cap) ∧ ∃ q, w' = putRow (Value.int .i64) (Sort.ahead w q) blk off (Lib.compact zs ++ List.replicate (zs.length - (Lib.compact zs).length) 0).toArray := Any.slices_Compact_int Tryz.laysNm220 blk off cap zs w hH hsz hcap
open Go.RowKit Go.Lib Go.Sort in
theorem Tryz.slices_Compact_int_empty (a : Option Addr) (cap : Nat) (w : World) :
    Calls Tryz.prog 224 #[.slice a 0 cap] w fun e w' => e = .returned (.slice a 0 cap) ∧ w' = w := Any.slices_Compact_int_empty Tryz.laysNm220 a cap w
end Go.Proofs

namespace Go.Rb
set_option linter.unusedVariables false
set_option linter.unusedSimpArgs false
open Go.Proofs Go.RowKit

/-- what a contract is owed -/
def ExtOk (f : Nat) (g : List AV → Option AV) : Prop := ∀ args v, AV.closedL args = true → g args = some v → v.closed = true → Enters Tryz.prog f ∧ ∀ (Z : Addr → Prop) (w : World) (vals : Array Value), Sim Z w noMu noNu .nil →
    RepL (ctx Z w noMu noNu []) (AV.stripL args) vals.toList → Calls Tryz.prog f vals w fun e w' => ∃ σ', CallPost Z w noMu noNu .nil v σ' e w'
theorem post_of {Z : Addr → Prop} {w : World} (S : Sim Z w noMu noNu .nil) {v : AV} {e : Ending} {w' : World} (h : ∃ V, e = .returned V ∧ Below w.heap.size w w' ∧ Rep (ctx Z w' noMu noNu []) v V) : ∃ σ', CallPost Z w noMu noNu .nil v σ' e w' := by
  obtain ⟨V, he, B, hr⟩ := h
  obtain ⟨G, S'⟩ := S.keep 0 B.os B.tape B.output B.size (fun b hb => B.block b hb)
  exact ⟨.nil, V, noMu, noNu, he, G, S', hr⟩
theorem rep1 {R : Ctx} {v : AV} {vals : Array Value} (h : RepL R [v] vals.toList) : ∃ V, vals = #[V] ∧ Rep R v V := by
  obtain ⟨V, vs, h1, h2, h3⟩ := h
  simp only [RepL] at h3
  subst h3
  exact ⟨V, by rw [← Array.toList_inj, h1], h2⟩

theorem ext_114 : ExtOk 114 x114 := by
  intro args v hc hv hvc
  unfold x114 at hv
  split at hv
  · rename_i n
    split at hv
    · rename_i hn
      injection hv with hv
      subst hv
      refine ⟨⟨_, _, Tryz.func114, rfl, rfl⟩, ?_⟩
      intro Z w vals S hr
      simp only [AV.stripL, AV.strip] at hr
      obtain ⟨V, rfl, hV⟩ := rep1 hr
      simp only [Rep] at hV
      subst hV
      refine (Tryz.bits_Len64 n w hn.1 hn.2).mono ?_
      rintro e w' ⟨rfl, rfl⟩
      exact post_of S ⟨_, rfl, Below.refl _ _, by simp [Rep]⟩
    · cases hv
  · cases hv

theorem run_upd {w : World} {r : Nat} {es : Array MapEntry} {clock : Nat} {n : Int} {V : Value} (hb : w.heap[r]? = some (.map es clock)) (h1 : Instr.findNow (.int .i64) (.int .i64 n) es.toList 0 = some none) :
    (Instr.mapUpdate 255 (.map (some r)) (.int .i64 n) V).run Tryz.prog w = .ok () { w with heap := w.heap.setIfInBounds r (.map (es.push ⟨.int .i64 n, V, clock⟩) (clock + 1)) } := by
  have hk : MapKept.IsKey (.int .i64) (.int .i64 n) := rfl
  have hd := Tryz.underlying3
  have hm := Tryz.underlying255
  simp [Instr.mapUpdate, run_underlying hm, MapKept.run_getObj_map hb, MapKept.run_checkKey hd hk, MapKept.run_findKey hd h1, MapKept.run_setObj_map _ hb, Result.andThen]
theorem run_upd2 {w : World} {A : Obj} {es : Array MapEntry} {clock : Nat} {n : Int} {V : Value} (h1 : Instr.findNow (.int .i64) (.int .i64 n) es.toList 0 = some none) :
    (Instr.mapUpdate 255 (.map (some (w.heap.size + 1))) (.int .i64 n) V).run Tryz.prog ((w.alloc A).alloc (.map es clock)) = .ok () ((w.alloc A).alloc (.map (es.push ⟨.int .i64 n, V, clock⟩) (clock + 1))) := by
  have e1 : ((w.alloc A).alloc (.map es clock)).heap = (w.heap.push A).push (.map es clock) := rfl
  have hb : ((w.alloc A).alloc (.map es clock)).heap[w.heap.size + 1]? = some (.map es clock) := by rw [e1, Array.getElem?_push]; simp
  rw [run_upd hb h1]
  congr 1
  have e2 : ((w.heap.push A).push (.map es clock)).setIfInBounds (w.heap.size + 1) (.map (es.push ⟨.int .i64 n, V, clock⟩) (clock + 1)) = (w.heap.push A).push (.map (es.push ⟨.int .i64 n, V, clock⟩) (clock + 1)) := by
    apply Array.ext_getElem?
    intro i
    simp only [Array.getElem?_setIfInBounds, Array.getElem?_push, Array.size_push]
    by_cases h : i = w.heap.size + 1
    · subst h; simp
    · have h' : ¬ w.heap.size + 1 = i := fun e => h e.symm
      simp [h, h']
  show ({ (w.alloc A).alloc (.map es clock) with heap := ((w.heap.push A).push (.map es clock)).setIfInBounds (w.heap.size + 1) (.map (es.push ⟨.int .i64 n, V, clock⟩) (clock + 1)) } : World) = _
  rw [e2]
  rfl
def priceEs : Array MapEntry := #[⟨.int .i64 1, .agg #[.func (.func 65) #[] #[]], 0⟩, ⟨.int .i64 2, .agg #[.func (.func 67) #[] #[]], 1⟩, ⟨.int .i64 3, .agg #[.func (.func 258) #[] #[]], 2⟩]
def priceF (n : Int) : Value := if n = 1 then .func (.func 65) #[] #[] else if n = 2 then .func (.func 67) #[] #[] else if n = 3 then .func (.func 258) #[] #[] else .nilFunc
theorem run_price {w : World} {A : Obj} {clock : Nat} (n : Int) :
    (Instr.lookup 255 (.map (some (w.heap.size + 1))) (.int .i64 n) false).run Tryz.prog ((w.alloc A).alloc (.map priceEs clock)) = .ok (.agg #[priceF n]) ((w.alloc A).alloc (.map priceEs clock)) := by
  have e1 : ((w.alloc A).alloc (.map priceEs clock)).heap = (w.heap.push A).push (.map priceEs clock) := rfl
  have hb : ((w.alloc A).alloc (.map priceEs clock)).heap[w.heap.size + 1]? = some (.map priceEs clock) := by rw [e1, Array.getElem?_push]; simp
  have hk : MapKept.IsKey (.int .i64) (.int .i64 n) := rfl
  have hd := Tryz.underlying3
  have hm := Tryz.underlying255
  have hz : ∀ w, (zeroValue 209).run Tryz.prog w = .ok (.agg #[.nilFunc]) w := Tryz.zeroValue209
  by_cases h1 : n = 1
  · subst h1
    have hf : Instr.findNow (.int .i64) (.int .i64 1) priceEs.toList 0 = some (some (0, .agg #[.func (.func 65) #[] #[]])) := by kernel_rfl
    simp [Instr.lookup, run_underlying hm, MapKept.run_getObj_map hb, MapKept.run_checkKey hd hk, MapKept.run_findKey hd hf, Result.andThen, priceF]
  · by_cases h2 : n = 2
    · subst h2
      have hf : Instr.findNow (.int .i64) (.int .i64 2) priceEs.toList 0 = some (some (1, .agg #[.func (.func 67) #[] #[]])) := by kernel_rfl
      simp [Instr.lookup, run_underlying hm, MapKept.run_getObj_map hb, MapKept.run_checkKey hd hk, MapKept.run_findKey hd hf, Result.andThen, priceF]
    · by_cases h3 : n = 3
      · subst h3
        have hf : Instr.findNow (.int .i64) (.int .i64 3) priceEs.toList 0 = some (some (2, .agg #[.func (.func 258) #[] #[]])) := by kernel_rfl
        simp [Instr.lookup, run_underlying hm, MapKept.run_getObj_map hb, MapKept.run_checkKey hd hk, MapKept.run_findKey hd hf, Result.andThen, priceF]
      · have hf : Instr.findNow (.int .i64) (.int .i64 n) priceEs.toList 0 = some none := by
          rcases MapKept.findNow_spec hk priceEs.toList 0 (by simp [priceEs, MapKept.IsKey]) with ⟨q, _⟩ | ⟨j, e, q1, q2, q3⟩
          · exact q
          · have hm := List.mem_of_getElem? q2
            simp [priceEs] at hm
            rcases hm with rfl | rfl | rfl <;> simp at q3 <;> omega
        simp [Instr.lookup, run_underlying hm, MapKept.run_getObj_map hb, MapKept.run_checkKey hd hk, MapKept.run_findKey hd hf, Result.andThen, priceF, h1, h2, h3, hz]
theorem priceF_one (n : Int) : (priceF n).oneCell' = true := by
  unfold priceF
  (repeat' split) <;> rfl
set_option maxRecDepth 100000 in
set_option maxHeartbeats 1600000 in
theorem prices_walk (n : Int) (w : World) : Calls Tryz.prog 190 #[.int .i64 n] w fun e w' => e = .returned (.agg #[priceF n]) ∧ Below w.heap.size w w' := by
  go_enter Tryz.func190, Tryz.ntmps190
  go_wp2
  rw [run_makeMap]
  go_wp2
  rw [run_upd2 (by rfl)]
  go_wp2
  rw [run_upd2 (by kernel_rfl)]
  go_wp2
  rw [run_upd2 (by kernel_rfl)]
  go_wp2
  rw [show (#[⟨.int .i64 1, .agg #[.func (.func 65) #[] #[]], 0⟩, ⟨.int .i64 2, .agg #[.func (.func 67) #[] #[]], 1⟩, ⟨.int .i64 3, .agg #[.func (.func 258) #[] #[]], 2⟩] : Array MapEntry) = priceEs from rfl, run_price]
  go_wp2
  have hone := priceF_one n
  rw [run_store _ _ _ _ _ hone]
  go_wp2
  · rename_i h
    exfalso
    have e1 : ((w.alloc (.cells #[.nilFunc] 209)).alloc (.map priceEs 3)).heap = (w.heap.push (.cells #[.nilFunc] 209)).push (.map priceEs 3) := rfl
    have hb : ((w.alloc (.cells #[.nilFunc] 209)).alloc (.map priceEs 3)).heap[w.heap.size]? = some (.cells #[.nilFunc] 209) := by
      rw [e1, Array.getElem?_push, Array.getElem?_push]; simp
    simp [World.frozen?, hb] at h
  · have e1 : ((w.alloc (.cells #[priceF n] 209)).alloc (.map priceEs 3)).heap = (w.heap.push (.cells #[priceF n] 209)).push (.map priceEs 3) := rfl
    have hb : ((w.alloc (.cells #[priceF n] 209)).alloc (.map priceEs 3)).heap[w.heap.size]? = some (.cells #[priceF n] 209) := by
      rw [e1, Array.getElem?_push, Array.getElem?_push]; simp
    have hr := fun tmps hp => results_cell_row (fn := Tryz.f190) rfl tmps _ w.heap.size 209 #[priceF n] (0, 0) _ hp hb Tryz.underlying209 rfl (by kernel_rfl)
    simp [bodyPost, hr]
    exact ((Below.refl _ w).alloc (Nat.le_refl _) _).alloc (by rw [show (w.alloc (.cells #[priceF n] 209)).heap = w.heap.push (.cells #[priceF n] 209) from rfl, Array.size_push]; omega) _
def mPriceA (n : Int) : AV := .agg [if n = 1 then .fn (.func 65) [] [] else if n = 2 then .fn (.func 67) [] [] else if n = 3 then .fn (.func 258) [] [] else .nilfn]
theorem rep_price {R : Ctx} (n : Int) : Rep R (mPriceA n) (.agg #[priceF n]) := by
  unfold mPriceA priceF
  simp only [Rep]
  refine ⟨⟨_, rfl, _, _, rfl, ?_, rfl⟩, ?_⟩
  · (repeat' split) <;> simp [Rep, RepL]
  · (repeat' split) <;> simp [AV.one]
theorem ext_190 : ExtOk 190 x190 := by
  intro args v hc hv hvc
  unfold x190 at hv
  split at hv
  · rename_i n
    injection hv with hv
    subst hv
    refine ⟨⟨_, _, Tryz.func190, rfl, rfl⟩, ?_⟩
    intro Z w vals S hr
    simp only [AV.stripL, AV.strip] at hr
    obtain ⟨V, rfl, hV⟩ := rep1 hr
    simp only [Rep] at hV
    subst hV
    refine (prices_walk n w).mono ?_
    rintro e w' ⟨rfl, B⟩
    exact post_of S ⟨_, rfl, B, rep_price n⟩
  · cases hv
end Go.Rb

namespace Go.Rb
set_option linter.unusedVariables false
set_option linter.unusedSimpArgs false
open Go.Proofs Go.RowKit Go.Sort

/-- all but one block is as it was -/
structure Keeps (g : Nat) (w w' : World) : Prop where
  os : w'.os = w.os
  tape : w'.tape = w.tape
  output : w'.output = w.output
  size : w.heap.size ≤ w'.heap.size
  blocks : ∀ b, b < w.heap.size → b ≠ g → w'.heap[b]? = w.heap[b]?
theorem Keeps.trans {g : Nat} {a b c : World} (h : Keeps g a b) (k : Keeps g b c) : Keeps g a c :=
  ⟨k.os.trans h.os, k.tape.trans h.tape, k.output.trans h.output, Nat.le_trans h.size k.size, fun i hi hg => (k.blocks i (Nat.lt_of_lt_of_le hi h.size) hg).trans (h.blocks i hi hg)⟩
theorem Keeps.refl (g : Nat) (w : World) : Keeps g w w := ⟨rfl, rfl, rfl, Nat.le_refl _, fun _ _ _ => rfl⟩
theorem Keeps.below {g B : Nat} {a b : World} (h : Keeps g a b) (hg : B ≤ g) (hB : B ≤ a.heap.size) : Below B a b :=
  ⟨h.os, h.tape, h.output, h.size, fun k hk => h.blocks k (by omega) (by omega)⟩
theorem keeps_putRow {α : Type} [Inhabited α] (enc : α → Value) (w : World) (g off n : Nat) (d : Array α) : Keeps g w (putRow enc (Sort.ahead w n) g off d) := by
  refine ⟨rfl, rfl, rfl, by simp [Sort.ahead], ?_⟩
  intro b hb hg
  simp [putRow, mapBlock, Sort.ahead, Array.getElem?_modify, Ne.symm hg]
theorem keeps_grow (g : Nat) (w : World) (os : Array Obj) : Keeps g w (Sort.grow w os) :=
  ⟨rfl, rfl, rfl, by simp [Sort.grow], fun b hb _ => heap_grow_old w os hb⟩
def encI (n : Int) : Value := .int .i64 n
abbrev HoldsI (w : World) (g off : Nat) (zs : List Int) : Prop := Holds (Value.int .i64) w g off zs.toArray
theorem sort_ok (g off cap : Nat) (zs : List Int) (w : World) (hH : HoldsI w g off zs) (hg : g < w.heap.size) (hz : zs.length < 4611686018427387904) :
    Calls Tryz.prog 223 #[.slice (some ⟨g, off, none⟩) zs.length cap] w fun e w' => e = .returned (.tuple #[]) ∧ Keeps g w w' ∧ HoldsI w' g off (mSorted zs) := by
  refine (Tryz.slices_Sort_int g off cap zs w hH hg hz).mono ?_
  rintro e w' ⟨rfl, n, os, rfl⟩
  rw [mSorted_eq]
  have hs : (zs.mergeSort fun x y => decide (x ≤ y)).toArray.size = zs.toArray.size := by simp
  refine ⟨rfl, (keeps_putRow _ w g off n _).trans (keeps_grow _ _ _), ?_⟩
  refine holds_grow _ _ _ _ _ _ (by simpa [Sort.ahead] using hg) ?_
  exact holds_putRow _ _ _ _ zs.toArray _ (fun j hj => ⟨(hH j hj).1, (hH j hj).2⟩) hs
theorem compact_ok (g off cap : Nat) (zs : List Int) (w : World) (hH : HoldsI w g off zs) (hz : zs.length < 4611686018427387904) (hc : zs.length ≤ cap) :
    Calls Tryz.prog 224 #[.slice (some ⟨g, off, none⟩) zs.length cap] w fun e w' => e = .returned (.slice (some ⟨g, off, none⟩) (Lib.compact zs).length cap) ∧ Keeps g w w' ∧ HoldsI w' g off (Lib.compact zs) := by
  refine (Tryz.slices_Compact_int g off cap zs w hH (by omega) hc).mono ?_
  rintro e w' ⟨rfl, q, rfl⟩
  refine ⟨rfl, keeps_putRow _ w g off q _, ?_⟩
  have hl := compact_len zs
  have hs : (Lib.compact zs ++ List.replicate (zs.length - (Lib.compact zs).length) 0).toArray.size = zs.toArray.size := by simp; omega
  have hh := holds_putRow (Value.int .i64) (Sort.ahead w q) g off zs.toArray _ (fun j hj => ⟨(hH j hj).1, (hH j hj).2⟩) hs
  intro j hj
  have hj' : j < (Lib.compact zs).length := by simpa using hj
  have := hh j (by rw [hs]; simp; omega)
  refine ⟨?_, this.2⟩
  rw [this.1]
  congr 1
  rw [getElem!_pos _ j (by simp; omega), getElem!_pos _ j (by simpa using hj')]
  simp [List.getElem_append_left hj']
end Go.Rb

namespace Go.Rb
set_option linter.unusedVariables false
set_option linter.unusedSimpArgs false
open Go.Proofs Go.RowKit Go.Sort

theorem rep_ints {Z : Addr → Prop} {w : World} {o : Own} {l : List Int} {V : Value} (h : Rep (ctx Z w noMu noNu []) (.sl o (l.map mkI)) V) (hl : l ≠ []) :
    ∃ b off c, V = .slice (some ⟨b, off, none⟩) l.length c ∧ l.length ≤ c ∧ b < w.heap.size ∧ ∀ j, j < l.length → w.cell? ⟨b, off + j, none⟩ = some (.int .i64 (l.getD j 0)) := by
  simp only [Rep, List.length_map] at h
  obtain ⟨a, c, rfl, h1, h2, _, ad, sz, h3, h4⟩ := h
  have ha := h3 (by simpa using hl)
  subst ha
  have hcell : ∀ j, j < l.length → w.cell? (ad.add (j * sz)) = some (.int .i64 (l.getD j 0)) ∧ sz = 1 := by
    intro j hj
    have hg : (l.map mkI)[j]? = some (mkI (l.getD j 0)) := by
      rw [List.getElem?_map, List.getElem?_eq_getElem hj]; simp [List.getD, hj]
    obtain ⟨_, V, hV, hs, hc⟩ := h4.get hg
    simp only [Rep] at hV
    subst hV
    have := hc 0 (.int .i64 (l.getD j 0)) (by simp [Value.cells])
    have hs' : sz = 1 := by rw [← hs]; rfl
    rw [Nat.zero_add] at this
    refine ⟨?_, hs'⟩
    have h5 := this.1
    rwa [show (ad.add (j * sz)).add 0 = ad.add (j * sz) by simp [Addr.add]] at h5
  have hpos : 0 < l.length := List.length_pos_iff.2 hl
  obtain ⟨c0, hs⟩ := hcell 0 hpos
  subst hs
  have h0 := cell_lt c0
  obtain ⟨b, off, sp⟩ := ad
  have hsp : sp = none := by
    have := h0.2
    simp only [Nat.zero_mul] at this
    unfold Addr.add at this
    split at this <;> simp_all
  subst hsp
  refine ⟨b, off, c, rfl, h2, by simpa [Addr.add] using h0.1, ?_⟩
  intro j hj
  have := (hcell j hj).1
  rw [Nat.mul_one, plain_add] at this
  exact this

theorem owns_holds {w : World} {B n : Nat} {zs : List Int} {v : Value} (h : w.ownsRow B 3 1 v n (zs.map (Value.int .i64))) (hv : v ≠ .slice none 0 0) : ∃ g cap, v = .slice (some ⟨g, 0, none⟩) zs.length cap ∧ n = zs.length ∧ B ≤ g ∧ g < w.heap.size ∧ zs.length ≤ cap ∧ zs.length ≤ maxLen ∧ HoldsI w g 0 zs := by
  obtain ⟨hl, h⟩ := h
  have hn : n = zs.length := by simpa using hl.symm
  subst hn
  rcases h with ⟨rfl, h0⟩ | ⟨g, cap, cur, rfl, h1, h2, h3, h4, h5, h6⟩
  · have : zs = [] := List.eq_nil_of_length_eq_zero h0
    exact absurd rfl hv
  · refine ⟨g, cap, rfl, rfl, h1, (Array.getElem?_eq_some_iff.1 h2).1, h3, by omega, ?_⟩
    intro j hj
    have hj' : j < zs.length := by simpa using hj
    have hc : cur[j]? = some (.int .i64 zs[j]) := by
      have : (cur.toList.take (zs.length * 1))[j]? = (zs.map (Value.int .i64))[j]? := by rw [h6]
      rw [List.getElem?_take, if_pos (by omega), List.getElem?_map, List.getElem?_eq_getElem hj'] at this
      simpa using this
    refine ⟨?_, ?_⟩
    · rw [Nat.zero_add, cell_of_row w g j cur 3 (0, 0) h2, hc, getElem!_pos _ j hj]
      simp
    · simp [World.frozen?, h2]
theorem mSorted_len (l : List Int) : (mSorted l).length = l.length := by rw [mSorted_eq, List.length_mergeSort]
theorem compact_ok2 {g off cap n : Nat} {zs : List Int} {w : World} (hH : HoldsI w g off zs) (hn : zs.length = n) (hz : n < 4611686018427387904) (hc : n ≤ cap) :
    Calls Tryz.prog 224 #[.slice (some ⟨g, off, none⟩) n cap] w fun e w' => e = .returned (.slice (some ⟨g, off, none⟩) (Lib.compact zs).length cap) ∧ Keeps g w w' ∧ HoldsI w' g off (Lib.compact zs) := by
  subst hn
  exact compact_ok g off cap zs w hH hz hc
theorem clone_ok (b off c : Nat) (l : List Int) (w : World) (h1 : 1 ≤ l.length) (h8 : l.length ≤ 1000000) (hc : ∀ j, j < l.length → w.cell? ⟨b, off + j, none⟩ = some (.int .i64 (l.getD j 0))) :
    Calls Tryz.prog 226 #[.slice (some ⟨b, off, none⟩) l.length c] w fun e w' => ∃ g cap, e = .returned (.slice (some ⟨g, 0, none⟩) l.length cap) ∧ Aside (w.heap.size ≤ g ∧ g < w'.heap.size ∧ l.length ≤ cap ∧ HoldsI w' g 0 l ∧ Below w.heap.size w w') := by
  refine (Tryz.slices_Clone_int b off l.length c l w (Nat.le_refl _) (by omega) hc).mono ?_
  rintro e w' ⟨v, rfl, hown, hv, hb⟩
  rw [List.take_length] at hown
  obtain ⟨g, cap, rfl, _, q1, q2, q3, q4, q5⟩ := owns_holds hown hv
  exact ⟨g, cap, rfl, q1, q2, q3, q5, hb⟩
set_option maxRecDepth 100000 in
set_option maxHeartbeats 400000 in
theorem once_walk (b off c : Nat) (l : List Int) (w : World) (h1 : 1 ≤ l.length) (h8 : l.length ≤ 8) (hc : Aside (∀ j, j < l.length → w.cell? ⟨b, off + j, none⟩ = some (.int .i64 (l.getD j 0)))) :
    Calls Tryz.prog 152 #[.slice (some ⟨b, off, none⟩) l.length c] w fun e w' => e = .returned (.bool (mOnce l)) ∧ Below w.heap.size w w' := by
  go_enter Tryz.func152, Tryz.ntmps152
  go_wp2_with (first
    | (go_at_call 226; refine (clone_ok b off c l _ h1 (by omega) hc).mono ?_; rintro e w1 ⟨g, cap, rfl, A1⟩)
    | (go_at_call 223; refine (sort_ok g 0 cap l _ A1.2.2.2.1 A1.2.1 (by omega)).mono ?_; rintro e w2 ⟨rfl, hk2, hh2⟩; have A2 : Aside (Keeps g w1 w2 ∧ HoldsI w2 g 0 (mSorted l)) := ⟨hk2, hh2⟩; clear hk2 hh2)
    | (go_at_call 224; refine (compact_ok2 A2.2 (mSorted_len l) (by omega) A1.2.2.1).mono ?_; rintro e w3 ⟨rfl, hk3, hh3⟩; have A3 : Aside (Keeps g w2 w3) := hk3; clear hk3 hh3))
  go_ret
  refine ⟨?_, A1.2.2.2.2.trans ((A2.1.trans A3).below A1.1 A1.2.2.2.2.size)⟩
  have hd : decide (((Lib.compact (mSorted l)).length : Int) = (l.length : Int)) = mOnce l := by
    unfold mOnce mUniq
    rw [decide_eq_decide]; omega
  show Ending.returned (.bool (decide (((Lib.compact (mSorted l)).length : Int) = (l.length : Int)))) = _
  rw [hd]
theorem ext_152 : ExtOk 152 x152 := by
  intro args v hc hv hvc
  unfold x152 at hv
  split at hv
  · rename_i o es
    split at hv
    · rename_i l hl
      split at hv
      · rename_i h18
        injection hv with hv
        subst hv
        refine ⟨⟨_, _, Tryz.func152, rfl, rfl⟩, ?_⟩
        intro Z w vals S hr
        have he := intL_eq hl
        subst he
        have hs : AV.stripL [AV.sl o (l.map mkI)] = [.sl .no (l.map mkI)] := by simp [stripL_map, Function.comp_def]
        rw [hs] at hr
        obtain ⟨V, rfl, hV⟩ := rep1 hr
        have hne : l ≠ [] := by intro h; subst h; simp at h18
        obtain ⟨b, off, c, rfl, _, _, hcell⟩ := rep_ints hV hne
        refine (once_walk b off c l w h18.1 h18.2 hcell).mono ?_
        rintro e w' ⟨rfl, B⟩
        exact post_of S ⟨_, rfl, B, by simp [Rep]⟩
      · cases hv
    · cases hv
  · cases hv
end Go.Rb

namespace Go.Rb
set_option linter.unusedVariables false
set_option linter.unusedSimpArgs false
set_option maxRecDepth 8000
variable {T : Tab}

/-- a slice of numbers that was built by append out of nothing, in the first row -/
def vOf (s : List Int) : AV := match s with
  | [] => .sl .full []
  | x :: xs => .sl (.row 0 xs.length) ((x :: xs).map mkI)
def rowsOf (s : List Int) : List Row := match s with
  | [] => []
  | _ :: xs => [⟨3, 1, xs.length⟩]
theorem vOf_closed (s : List Int) : (vOf s).closed = true := by
  cases s
  · rfl
  · simp only [vOf, AV.closed]; exact closedI _
theorem app_ok (B : List AV) (s : List Int) (c : Int) (h : s.length ≤ 1000000) : aAppend 3 1 8 (vOf s) (.sl .full [mkI c]) ⟨B, rowsOf s⟩ = some (vOf (s ++ [c]), ⟨B, rowsOf (s ++ [c])⟩) := by
  cases s with
  | nil => simp [aAppend, vOf, rowsOf, mostBytes]
  | cons x xs =>
    simp only [List.length_cons] at h
    simp [aAppend, vOf, rowsOf, mostBytes]
    omega
theorem endx {n : Nat} {res : List SRes} {Q : AV → St → Prop} {e : Env} {v : AV} (b : AV) (extra : List AV) (y : AV) (rows : List Row) (hn : n = extra.length + 1) (hr : resOf e ⟨b :: (extra ++ [y]), rows⟩ res = some [v]) (hb : b.closed = true) (hex : AV.closedL extra = true) (hq : v.closed = true ∧ Q v ⟨b :: extra, rows⟩) : endQ n res Q .ret e ⟨b :: (extra ++ [y]), rows⟩ := by
  have hsh : b :: (extra ++ [y]) = (b :: extra) ++ [y] := by simp
  rw [hsh] at hr ⊢
  exact end_boxes (by simp [hn]) (.inr rfl) hr hq.1 (by simp [hb, hex]) hq.2
def stCols (p : Expr) (d : Int) (s : List Int) : Bool × List Int := (true, if p.op = 1 then s ++ [p.col] else s)
def layCols : Lay (List Int) := ⟨fun s => [vOf s], rowsOf⟩
def budget (k : Nat) (s : List Int) : Prop := s.length + k ≤ 1000000
theorem layCols_ok : layCols.Ok (budget 0) 1 := ⟨fun s _ => by simp [layCols, vOf_closed], fun s _ => rfl⟩
theorem cols1_ok (hT : Has T) : CloE T layCols budget 222 [] [.box 0 0] stCols := by
  refine ⟨by rw [imp_has hT]; rfl, fun k s h => by unfold budget at *; omega, ?_, ?_⟩
  · intro p d k s h
    unfold budget at *
    unfold stCols
    simp only
    split
    · simp; omega
    · omega
  intro p d s extra hI hex
  have hI1 : s.length ≤ 1000000 := by unfold budget at hI; omega
  have hw : CallW T 222 [encE p, mkI d, .box 0 0] (layCols.st s extra) (fun v σ' => v = .bool true ∧ σ' = layCols.st (stCols p d s).2 extra) := by
    refine callW hT L222 rfl ?_
    rw [encE_eq]
    have hb0 : budget 0 s := by unfold budget; omega
    by_cases h1 : p.op = 1
    · have happ := app_ok (vOf s :: (extra ++ [.agg [mkI p.op, mkI p.col, mkI p.k, mkI p.n, .sl .no (encEL p.l)]])) s p.col hI1
      have hcl := vOf_closed (s ++ [p.col])
      have hokv : (vOf (s ++ [p.col])).okv = true ∧ (vOf (s ++ [p.col])).cells = [vOf (s ++ [p.col])] ∧ (vOf s).cells = [vOf s] := by
        refine ⟨?_, ?_, ?_⟩ <;> (unfold vOf; split <;> rfl)
      have hset : ∀ v, (vOf s).set 0 [v] = v := by intro v; unfold vOf; split <;> rfl
      have hb1 : budget 0 (s ++ [p.col]) := by unfold budget at *; simp; omega
      rw [h1] at happ
      simp [-endQ, -AV.set, F222, layCols, Lay.st, stCols, h1, happ, hcl, hokv, hset]
      exact endx (vOf (s ++ [p.col])) extra _ _ rfl (by simp) hcl hex ⟨rfl, rfl, rfl⟩
    · simp [-endQ, F222, layCols, Lay.st, stCols, h1]
      exact endx (vOf s) extra _ _ (by simp) (by simp) (vOf_closed s) hex ⟨rfl, rfl, rfl⟩
  obtain ⟨v, σ', h1, h2, h3⟩ := hw
  simp only [List.nil_append]
  rw [h1, h2, h3]; rfl

mutual
theorem each_cols : ∀ (p : Expr) (d : Int) (s : List Int), mEachE stCols p d s = (true, s ++ mColsRaw p)
  | .mk o c a b l, d, s => by
    simp only [mEachE, stCols, if_true, Expr.op, Expr.col]
    rw [each_colsL l d]
    simp only [mColsRaw]
    by_cases h : o = 1 <;> simp [h]
theorem each_colsL : ∀ (l : List Expr) (d : Int) (s : List Int), mEachEL stCols l d s = (true, s ++ mColsRawL l)
  | [], d, s => by simp [mEachEL, mColsRawL]
  | x :: xs, d, s => by
    simp only [mEachEL, each_cols x (w64 (d + 1)) s, if_true, each_colsL xs d, mColsRawL]
    simp
end
mutual
theorem may_nodes : ∀ (p : Expr) (d n : Int), 0 ≤ n → n ≤ 30 → (mEachE stMay p d n).1 = true → (mEachE stMay p d n).2 ≤ 30 ∧ n + p.nodes ≤ (mEachE stMay p d n).2
  | .mk o c a b l, d, n, h0, h30, h => by
    simp only [mEachE] at h ⊢
    split at h
    · rename_i h1
      rw [if_pos h1]
      simp only [stMay, Bool.and_eq_true, decide_eq_true_eq] at h1 h ⊢
      have hw : w64 (n + 1) = n + 1 := w64_id (by omega) (by omega)
      rw [hw] at h h1 ⊢
      have := may_nodesL l d (n + 1) (by omega) h1.1.1 h
      refine ⟨this.1, ?_⟩
      simp only [Expr.nodes]
      push_cast
      omega
    · cases h
theorem may_nodesL : ∀ (l : List Expr) (d n : Int), 0 ≤ n → n ≤ 30 → (mEachEL stMay l d n).1 = true → (mEachEL stMay l d n).2 ≤ 30 ∧ n + Expr.nodesL l ≤ (mEachEL stMay l d n).2
  | [], d, n, h0, h30, h => by simp [mEachEL, Expr.nodesL, h30]
  | x :: xs, d, n, h0, h30, h => by
    simp only [mEachEL] at h ⊢
    split at h
    · rename_i h1
      rw [if_pos h1]
      have q := may_nodes x (w64 (d + 1)) n h0 h30 h1
      have q2 := may_nodesL xs d _ (by omega) q.1 h
      refine ⟨q2.1, ?_⟩
      simp only [Expr.nodesL]
      push_cast
      omega
    · cases h
end
theorem gather_ok (hT : Has T) (t : Expr) (hf : t.Fit) (hm : mExprMay t = true) :
    (lim T).call 221 [encE t, mkI 1, .fn (.func 222) [] [.box 0 0]] ⟨[.sl .full []], []⟩ = some (.bool true, ⟨[vOf (mColsRaw t)], rowsOf (mColsRaw t)⟩) := by
  have hn := may_nodes t 1 0 (by decide) (by decide) hm
  have h := eachE_ok hT layCols_ok (cols1_ok hT) t hf 1 [] [] (by unfold budget; simp only [List.length_nil]; omega) (by simp)
  rw [each_cols] at h
  simpa [layCols, Lay.st, vOf, rowsOf] using h
end Go.Rb

namespace Go.Rb
set_option linter.unusedVariables false
set_option linter.unusedSimpArgs false
open Go.Proofs Go.RowKit Go.Sort

/-- the table without those that are told from elsewhere -/
def TAB1 : Tab := ⟨fun f => tabL.lookup f, fun f => impL.contains f, fun _ => none⟩
theorem tab1_has : Has TAB1 := ⟨fun f F h => ⟨h, rfl⟩, fun _ => rfl⟩
theorem tab1_ok' : TabOk Tryz.prog TAB1 := by
  refine ⟨?_, ?_⟩
  · intro f F _ h
    obtain ⟨fn, lives, h1, h2⟩ := tabL_ok _ (lookup_mem h)
    exact ⟨fn, lives, h1, h2⟩
  · intro f g h
    cases h
theorem mixed : Tryz.prog.follows .mixedOrders = true := by kernel_rfl
theorem call1 : CallOk Tryz.prog (lim TAB1) := lim_sound tab1_ok' mixed

theorem rep_intsG {R : Ctx} {w : World} (hR : ∀ a x, R.cell a x → w.cell? a = some x) {o : Own} {l : List Int} {V : Value} (h : Rep R (.sl o (l.map mkI)) V) (hl : l ≠ []) :
    ∃ b off c, V = .slice (some ⟨b, off, none⟩) l.length c ∧ l.length ≤ c ∧ b < w.heap.size ∧ ∀ j, j < l.length → w.cell? ⟨b, off + j, none⟩ = some (.int .i64 (l.getD j 0)) := by
  simp only [Rep, List.length_map] at h
  obtain ⟨a, c, rfl, h1, h2, _, ad, sz, h3, h4⟩ := h
  have ha := h3 (by simpa using hl)
  subst ha
  have hcell : ∀ j, j < l.length → w.cell? (ad.add (j * sz)) = some (.int .i64 (l.getD j 0)) ∧ sz = 1 := by
    intro j hj
    have hg : (l.map mkI)[j]? = some (mkI (l.getD j 0)) := by
      rw [List.getElem?_map, List.getElem?_eq_getElem hj]; simp [List.getD, hj]
    obtain ⟨_, V, hV, hs, hc⟩ := h4.get hg
    simp only [Rep] at hV
    subst hV
    have := hc 0 (.int .i64 (l.getD j 0)) (by simp [Value.cells])
    have hs' : sz = 1 := by rw [← hs]; rfl
    rw [Nat.zero_add] at this
    refine ⟨?_, hs'⟩
    have h5 := hR _ _ this
    rwa [show (ad.add (j * sz)).add 0 = ad.add (j * sz) by simp [Addr.add]] at h5
  have hpos : 0 < l.length := List.length_pos_iff.2 hl
  obtain ⟨c0, hs⟩ := hcell 0 hpos
  subst hs
  have h0 := cell_lt c0
  obtain ⟨b, off, sp⟩ := ad
  have hsp : sp = none := by
    have := h0.2
    simp only [Nat.zero_mul] at this
    unfold Addr.add at this
    split at this <;> simp_all
  subst hsp
  refine ⟨b, off, c, rfl, h2, by simpa [Addr.add] using h0.1, ?_⟩
  intro j hj
  have := (hcell j hj).1
  rw [Nat.mul_one, plain_add] at this
  exact this
/-- what was gathered: in no memory, or in new memory -/
def Got (B : Nat) (w : World) (l : List Int) (S : Value) : Prop :=
  (l = [] ∧ ∃ a, S = .slice a 0 0) ∨ (l ≠ [] ∧ ∃ g cap, S = .slice (some ⟨g, 0, none⟩) l.length cap ∧ B ≤ g ∧ g < w.heap.size ∧ l.length ≤ cap ∧ HoldsI w g 0 l)
theorem gather_call (t : Expr) (hf : t.Fit) (hm : mExprMay t = true) (b : Nat) (ty : TypeId) (w : World) (hb : w.heap[b]? = some (.cells #[.slice none 0 0] ty (0, 0))) {V : Value} (hV : Rep (ctx (fun a => a.block ≠ b) w noMu noNu []) (encE t) V) :
    Calls Tryz.prog 221 #[V, .int .i64 1, .func (.func 222) #[] #[.pointer (some ⟨b, 0, none⟩)]] w fun e w' => e = .returned (.bool true) ∧ Keeps b w w' ∧ ∃ S ty', w'.heap[b]? = some (.cells #[S] ty' (0, 0)) ∧ Got w.heap.size w' (mColsRaw t) S := by
  have hlt : b < w.heap.size := (Array.getElem?_eq_some_iff.1 hb).1
  let μ : Mu := fun i => if i = 0 then some b else none
  have hμ : ∀ i b', μ i = some b' → i = 0 ∧ b' = b := by
    intro i b' h
    by_cases hi : i = 0
    · subst hi
      simp only [μ, if_true] at h
      injection h with h; exact ⟨rfl, h.symm⟩
    · simp [μ, hi] at h
  have S : Sim (fun a => a.block ≠ b) w μ noNu ⟨[.sl .full []], []⟩ :=
    { inj := fun i j b' h1 h2 => by rw [(hμ i b' h1).1, (hμ j b' h2).1]
      box := fun i b' h => by
        obtain ⟨rfl, rfl⟩ := hμ i b' h
        refine ⟨.sl .full [], #[.slice none 0 0], ty, rfl, by simp, rfl, hb, ?_⟩
        refine ⟨_, [], rfl, ?_, rfl⟩
        simp only [Rep]
        exact ⟨none, 0, rfl, by simp, by simp, ⟨none, 0, rfl⟩, ⟨0, 0, none⟩, 0, by simp, by simp [RepEls]⟩
      row := fun r b u v h => by simp [noNu] at h
      rinj := fun r s b u v u' v' h => by simp [noNu] at h
      disj := fun i b r u v h => by simp [noNu]
      fresh := fun a h => by omega
      rowZ := fun r b u v h => by simp [noNu] at h }
  have hle : (ctx (fun a => a.block ≠ b) w noMu noNu []).Le (ctx (fun a => a.block ≠ b) w μ noNu []) :=
    { cell := fun a x h => ⟨h.1, fun i hi => by
        obtain ⟨_, q⟩ := hμ i _ hi
        exact h.2.2.2 q, h.2.2.1, h.2.2.2⟩
      mu := fun i b h => by simp [ctx, noMu] at h
      own := fun r ver v h => by
        obtain ⟨cur, h1, _⟩ := h
        simp at h1 }
  have hc := (call1 221 _ _ _ _ (gather_ok tab1_has t hf hm)).2 (fun a => a.block ≠ b) w μ noNu #[V, .int .i64 1, .func (.func 222) #[] #[.pointer (some ⟨b, 0, none⟩)]] S (by
    refine ⟨_, _, rfl, Rep.mono hle _ _ hV, _, _, rfl, by simp [Rep], _, [], rfl, ?_, rfl⟩
    simp only [Rep]
    refine ⟨#[], #[.pointer (some ⟨b, 0, none⟩)], rfl, rfl, _, [], rfl, ?_, rfl⟩
    simp only [Rep]
    exact ⟨b, by simp [ctx, μ], rfl⟩)
  refine hc.mono ?_
  rintro e w' ⟨V', μ', ν', rfl, G, S', hV'⟩
  simp only [Rep] at hV'
  subst hV'
  have hk : Keeps b w w' := ⟨G.os, G.tape, G.output, G.size, fun b' hb' hne => G.blocks b' hb' (fun i hi => hne (hμ i b' hi).2) (fun r u v h => by simp [noNu] at h)⟩
  refine ⟨rfl, hk, ?_⟩
  have hb0 : μ' 0 = some b := G.mu 0 b (by simp [μ])
  obtain ⟨c, arr, t', q1, q2, q3, q4, q5⟩ := S'.box 0 b hb0
  simp only [List.getElem?_cons_zero, Option.some.injEq] at q1
  subst q1
  have hcells : (vOf (mColsRaw t)).cells = [vOf (mColsRaw t)] := by unfold vOf; split <;> rfl
  rw [hcells] at q5
  obtain ⟨Sv, vs, h1, h2, h3⟩ := q5
  simp only [RepL] at h3
  subst h3
  have harr : arr = #[Sv] := by rw [← Array.toList_inj, h1]
  subst harr
  refine ⟨Sv, t', q4, ?_⟩
  generalize mColsRaw t = l at *
  cases l with
  | nil =>
    left
    simp only [vOf, Rep] at h2
    obtain ⟨a, c, rfl, _, _, ⟨a', n, h4⟩, _⟩ := h2
    simp at h4
    refine ⟨rfl, a, ?_⟩
    obtain ⟨_, rfl, rfl⟩ := h4
    rfl
  | cons x xs =>
    right
    refine ⟨by simp, ?_⟩
    simp only [vOf] at h2
    have hints := rep_intsG (R := ctx (fun a => a.block ≠ b) w' μ' ν' (rowsOf (x :: xs))) (w := w') (fun a x h => h.1) h2 (by simp)
    simp only [Rep] at h2
    obtain ⟨a, c, rfl, _, hc', ⟨cur, hr1, hr2, hr3⟩, _⟩ := h2
    simp only [rowsOf, List.getElem?_cons_zero, Option.some.injEq] at hr1
    subst hr1
    obtain ⟨g, u, hν⟩ := hr3 rfl
    obtain ⟨cur, n, ys, p1, p2, p3, p4⟩ := S'.row 0 g u _ hν
    obtain ⟨b2, off, c2, e1, e2, e3, e4⟩ := hints
    injection e1 with e1 _ e5
    subst e1
    subst e5
    simp only [Value.ownBlock, Option.some.injEq] at p2
    subst p2
    have hg : w.heap.size ≤ b2 := by
      rcases G.nun 0 b2 u _ hν with h | ⟨u0, v0, h, _⟩
      · exact h
      · simp [noNu] at h
    obtain ⟨_, p3 | ⟨g, cap, cells, p5, _, p6, _⟩⟩ := p3
    · cases p3.1
    injection p5 with p5 _ _
    injection p5 with p5
    injection p5 with p5 p7
    subst p5
    subst p7
    refine ⟨b2, c, by rw [List.length_map], hg, e3, e2, ?_⟩
    intro j hj
    have hj' : j < (x :: xs).length := by simpa using hj
    refine ⟨?_, by simp [World.frozen?, p6]⟩
    rw [e4 j hj', getElem!_pos _ j hj]
    simp only [List.getD, List.getElem?_eq_getElem hj', Option.getD_some]
    simp
end Go.Rb

namespace Go.Rb
set_option linter.unusedVariables false
set_option linter.unusedSimpArgs false
open Go.Proofs Go.RowKit Go.Sort

/-- an expression in memory, seen from a world -/
def Held (w : World) (t : Expr) (V : Value) : Prop := Rep (ctx Z0 w noMu noNu []) (encE t) V
where Z0 : Addr → Prop := fun _ => True
theorem held_ok (t : Expr) (hf : t.Fit) (w : World) (V : Value) (h : Aside (Held w t V)) : Calls Tryz.prog 220 #[V] w fun e w' => e = .returned (.bool (mExprMay t)) ∧ Below w.heap.size w w' := by
  have S : Sim Held.Z0 w noMu noNu .nil := sim_nil fun _ _ => trivial
  have hc := (pure_ok call1 (exprMay_ok tab1_has t hf) 0 S (vals := #[V]) ⟨_, [], rfl, h, rfl⟩).2
  refine hc.mono ?_
  rintro e w' ⟨V', rfl, G, _, hV'⟩
  simp only [Rep] at hV'
  subst hV'
  exact ⟨rfl, G.os, G.tape, G.output, G.size, fun b hb => G.blocks b hb (fun i hi => by simp [noMu] at hi) (fun r u v hr => by simp [noNu] at hr)⟩
theorem held_alloc {w : World} {t : Expr} {V : Value} (h : Held w t V) (o : Obj) : Held (w.alloc o) t V := by
  have S : Sim Held.Z0 w noMu noNu .nil := sim_nil fun _ _ => trivial
  have B : Below w.heap.size w (w.alloc o) := (Below.refl _ w).alloc (Nat.le_refl _) o
  exact Rep.mono (S.keep 0 B.os B.tape B.output B.size (fun b hb => B.block b hb)).1.le _ _ h
theorem held_below {w w' : World} {t : Expr} {V : Value} (h : Held w t V) (B : Below w.heap.size w w') : Held w' t V := by
  have S : Sim Held.Z0 w noMu noNu .nil := sim_nil fun _ _ => trivial
  exact Rep.mono (S.keep 0 B.os B.tape B.output B.size (fun b hb => B.block b hb)).1.le _ _ h
theorem cell_below {w w1 : World} {cs : Array Value} {ty : TypeId} (B : Below (w.alloc (.cells cs ty)).heap.size (w.alloc (.cells cs ty)) w1) (i : Nat) (hi : i < cs.size) : w1.cell? ⟨w.heap.size, i, none⟩ = some cs[i] := by
  have hb : w1.heap[w.heap.size]? = some (.cells cs ty (0, 0)) := by
    rw [B.block w.heap.size (by rw [show (w.alloc (.cells cs ty)).heap = w.heap.push (.cells cs ty (0, 0)) from rfl]; simp)]
    rw [show (w.alloc (.cells cs ty)).heap = w.heap.push (.cells cs ty (0, 0)) from rfl]; simp
  rw [cell_of_row w1 w.heap.size i cs ty (0, 0) hb]; simp [hi]
theorem size_below {w w1 : World} {cs : Array Value} {ty : TypeId} (B : Below (w.alloc (.cells cs ty)).heap.size (w.alloc (.cells cs ty)) w1) : w.heap.size < w1.heap.size := by
  have := B.size
  rw [show (w.alloc (.cells cs ty)).heap = w.heap.push (.cells cs ty (0, 0)) from rfl, Array.size_push] at this
  omega
theorem held_shun {w w' : World} {t : Expr} {V : Value} {b : Nat} (h : Held w t V) (hb : w.heap.size ≤ b) (B : Below w.heap.size w w') : Rep (ctx (fun a => a.block ≠ b) w' noMu noNu []) (encE t) V := by
  refine Rep.mono ⟨?_, fun i b h => by simp [ctx, noMu] at h, fun r ver v h => by obtain ⟨cur, h1, _⟩ := h; simp at h1⟩ _ _ h
  rintro a x ⟨h1, h2, h3, _⟩
  have hlt := (cell_lt h1).1
  refine ⟨?_, fun i hi => by simp [noMu] at hi, fun r u v hr => by simp [noNu] at hr, ?_⟩
  · rw [World.cell?_of_block (B.block a.block hlt)]; exact h1
  · show a.block ≠ b
    omega
theorem got_sort {B : Nat} {w : World} {l : List Int} {S : Value} (h : Aside (Got B w l S)) (hB : B ≤ w.heap.size) (hl : l.length < 4611686018427387904) :
    Calls Tryz.prog 223 #[S] w fun e w' => e = .returned (.tuple #[]) ∧ Aside (Below B w w' ∧ Got B w' (mSorted l) S) := by
  rcases h with ⟨rfl, a, rfl⟩ | ⟨hne, g, cap, rfl, h1, h2, h3, h4⟩
  · refine (Tryz.slices_Sort_int_none a 0 w).mono ?_
    rintro e w' ⟨rfl, rfl⟩
    exact ⟨rfl, Below.refl _ _, .inl ⟨rfl, a, rfl⟩⟩
  · refine (sort_ok g 0 cap l w h4 h2 hl).mono ?_
    rintro e w' ⟨rfl, k, hh⟩
    refine ⟨rfl, k.below h1 hB, .inr ⟨?_, g, cap, by rw [mSorted_len], h1, Nat.lt_of_lt_of_le h2 k.size, by rw [mSorted_len]; exact h3, hh⟩⟩
    intro e
    have := mSorted_len l
    rw [e] at this
    exact hne (List.eq_nil_of_length_eq_zero this.symm)
theorem compact_ne {l : List Int} (h : l ≠ []) : Lib.compact l ≠ [] := by
  cases l with
  | nil => exact absurd rfl h
  | cons x xs =>
    intro hc
    have : x ∈ Lib.compact (x :: xs) := by
      unfold Lib.compact Lib.compactUpTo
      rw [List.mem_map]
      refine ⟨0, ?_, by simp⟩
      rw [List.mem_filter]
      exact ⟨by simp, by simp [Lib.keeps]⟩
    rw [hc] at this
    cases this
theorem got_compact {B : Nat} {w : World} {l : List Int} {S : Value} (h : Aside (Got B w l S)) (hB : B ≤ w.heap.size) (hl : l.length < 4611686018427387904) :
    Calls Tryz.prog 224 #[S] w fun e w' => ∃ S', e = .returned S' ∧ Aside (Below B w w' ∧ Got B w' (Lib.compact l) S') := by
  rcases h with ⟨rfl, a, rfl⟩ | ⟨hne, g, cap, rfl, h1, h2, h3, h4⟩
  · refine (Tryz.slices_Compact_int_empty a 0 w).mono ?_
    rintro e w' ⟨rfl, rfl⟩
    exact ⟨_, rfl, Below.refl _ _, .inl ⟨rfl, a, rfl⟩⟩
  · refine (compact_ok g 0 cap l w h4 hl h3).mono ?_
    rintro e w' ⟨rfl, k, hh⟩
    exact ⟨_, rfl, k.below h1 hB, .inr ⟨compact_ne hne, g, cap, rfl, h1, Nat.lt_of_lt_of_le h2 k.size, Nat.le_trans (compact_len l) h3, hh⟩⟩
theorem got_rep {Z : Addr → Prop} {B : Nat} {w : World} {l : List Int} {S : Value} (hZ : ∀ a : Addr, B ≤ a.block → Z a) (h : Got B w l S) (hl : l.length ≤ maxLen) : Rep (ctx Z w noMu noNu []) (sl l) S := by
  rcases h with ⟨rfl, a, rfl⟩ | ⟨hne, g, cap, rfl, h1, h2, h3, h4⟩
  · simp only [sl, List.map_nil, Rep]
    exact ⟨a, 0, rfl, by simp, by simp, trivial, ⟨0, 0, none⟩, 0, by simp, by simp [RepEls]⟩
  · simp only [sl, Rep, List.length_map]
    refine ⟨some ⟨g, 0, none⟩, cap, rfl, hl, h3, trivial, ⟨g, 0, none⟩, 1, fun _ => rfl, RepEls.of ?_⟩
    intro k x hx
    rw [List.getElem?_map] at hx
    obtain ⟨n, hn, rfl⟩ := Option.map_eq_some_iff.1 hx
    have hk := (List.getElem?_eq_some_iff.1 hn).1
    refine ⟨rfl, .int .i64 n, by simp [Rep], rfl, ?_⟩
    intro j y hy
    have hj : j = 0 := by
      have := (List.getElem?_eq_some_iff.1 hy).1
      simp [Value.cells] at this; exact this
    subst hj
    simp [Value.cells] at hy
    subst hy
    have hc := (h4 k (by simpa using hk)).1
    rw [getElem!_pos _ k (by simpa using hk)] at hc
    have hv : l.toArray[k]'(by simpa using hk) = n := by
      have := (List.getElem?_eq_some_iff.1 hn).2
      simpa using this
    rw [hv] at hc
    rw [Nat.mul_one, Nat.zero_add k, plain_add, plain_add]
    exact ⟨by simpa using hc, fun i hi => by simp [noMu] at hi, fun r u v hr => by simp [noNu] at hr, hZ _ h1⟩
theorem alloc_heap (w : World) (o : Obj) : (w.alloc o).heap = w.heap.push o := rfl
theorem cell_new {w w2 : World} {o : Obj} {S : Value} {ty : TypeId} (h : w2.heap[w.heap.size]? = some (.cells #[S] ty (0, 0))) : w2.cell? ⟨w.heap.size, 0, none⟩ = some S := by
  rw [cell_of_row w2 w.heap.size 0 #[S] ty (0, 0) h]; rfl
theorem gather_call2 (t : Expr) (hf : t.Fit) (hm : (!mExprMay t) = false) (w w1 : World) {V : Value} (h : Held w t V) (B1 : Below w.heap.size w w1) :
    Calls Tryz.prog 221 #[V, .int .i64 1, .func (.func 222) #[] #[.pointer (some ⟨w1.heap.size, 0, none⟩)]] (w1.alloc (.cells #[.slice none 0 0] 25)) fun e w2 => e = .returned (.bool true) ∧ ∃ S, w2.cell? ⟨w1.heap.size, 0, none⟩ = some S ∧ Aside (Below w.heap.size w w2 ∧ w1.heap.size + 1 ≤ w2.heap.size ∧ (∃ ty, w2.heap[w1.heap.size]? = some (.cells #[S] ty (0, 0))) ∧ Got (w1.heap.size + 1) w2 (mColsRaw t) S) := by
  have hb : (w1.alloc (.cells #[.slice none 0 0] 25)).heap[w1.heap.size]? = some (.cells #[.slice none 0 0] 25 (0, 0)) := by rw [alloc_heap]; simp
  have hs : (w1.alloc (.cells #[.slice none 0 0] 25)).heap.size = w1.heap.size + 1 := by rw [alloc_heap]; simp
  have Bn : Below w.heap.size w (w1.alloc (.cells #[.slice none 0 0] 25)) := B1.alloc B1.size _
  refine (gather_call t hf (by simpa using hm) w1.heap.size 25 _ hb (held_shun h B1.size Bn)).mono ?_
  rintro e w2 ⟨rfl, k, S, ty, h1, h2⟩
  rw [hs] at h2
  refine ⟨rfl, S, ?_, ?_, ?_, ⟨ty, h1⟩, h2⟩
  · rw [cell_of_row w2 w1.heap.size 0 #[S] ty (0, 0) h1]; rfl
  · exact Bn.trans (k.below B1.size (by rw [hs]; have := B1.size; omega))
  · have := k.size; omega
theorem below_shrink {B C : Nat} {w w' : World} (h : Below C w w') (hB : B ≤ C) : Below B w w' := ⟨h.os, h.tape, h.output, h.size, fun k hk => h.block k (by omega)⟩
theorem below_of_alloc {w w1 : World} {o : Obj} (h : Below (w.alloc o).heap.size (w.alloc o) w1) : Below w.heap.size w w1 :=
  ((Below.refl w.heap.size w).alloc (Nat.le_refl _) o).trans (below_shrink h (by rw [alloc_heap]; simp))
theorem raw_len {t : Expr} (h : mExprMay t = true) : (mColsRaw t).length ≤ 30 := by
  have := may_raw t 1 0 (by decide) (by decide) h
  omega
theorem raw_lt {t : Expr} (h : (!mExprMay t) = false) : (mColsRaw t).length < 4611686018427387904 := by
  have := raw_len (t := t) (by simpa using h)
  omega
theorem raw_lt2 {t : Expr} (h : (!mExprMay t) = false) : (mSorted (mColsRaw t)).length < 4611686018427387904 := by
  rw [mSorted_len]; exact raw_lt h
theorem cell_keep {B : Nat} {w w' : World} {a : Addr} {S : Value} (h : Below B w w') (ha : a.block < B) (hc : w.cell? a = some S) : w'.cell? a = some S := by
  rw [World.cell?_of_block (h.block a.block ha)]; exact hc
set_option maxRecDepth 100000 in
set_option maxHeartbeats 400000 in
theorem cols_walk (t : Expr) (hf : t.Fit) (c0 c1 c2 c3 c4 : Value) (w : World) (h : Aside (Held w t (.agg #[c0, c1, c2, c3, c4]))) :
    Calls Tryz.prog 150 #[.agg #[c0, c1, c2, c3, c4]] w fun e w' => ∃ V, e = .returned V ∧ Below w.heap.size w w' ∧ ∃ B, w.heap.size ≤ B ∧ Got B w' (mCols t) V := by
  go_enter Tryz.func150, Tryz.ntmps150
  go_wp2_with (first
    | (go_at_call 220; refine (held_ok t hf _ _ (held_alloc h _)).mono ?_; rintro e w1 ⟨rfl, b1⟩
       have k0 := cell_below b1 0 (by simp); have k1 := cell_below b1 1 (by simp); have k2 := cell_below b1 2 (by simp); have k3 := cell_below b1 3 (by simp); have k4 := cell_below b1 4 (by simp); have k5 := size_below b1
       simp only [List.getElem_toArray, List.getElem_cons_zero, List.getElem_cons_succ] at k0 k1 k2 k3 k4
       have A1 : Aside (Below w.heap.size w w1) := below_of_alloc b1; clear b1)
    | (go_at_call 221; refine (gather_call2 t hf (by assumption) w w1 h A1).mono ?_; rintro e w2 ⟨rfl, S, kS, A2⟩)
    | (go_at_call 223; refine (got_sort A2.2.2.2 A2.2.1 (raw_lt (by assumption))).mono ?_; rintro e w3 ⟨rfl, A3⟩; have kS3 := cell_keep A3.1 (Nat.lt_succ_self _) kS)
    | (go_at_call 224; refine (got_compact A3.2 (Nat.le_trans A2.2.1 A3.1.size) (raw_lt2 (by assumption))).mono ?_; rintro e w4 ⟨S4, rfl, A4⟩))
  · go_ret
    have hm : mExprMay t = false := by
      have h : (!mExprMay t) = true := by assumption
      simpa using h
    refine ⟨_, rfl, A1, _, Nat.le_refl _, ?_⟩
    have he : mCols t = [] := by unfold mCols; rw [hm]; rfl
    rw [he]
    exact .inl ⟨rfl, none, rfl⟩
  · go_ret
    have hm : mExprMay t = true := by
      have h : (!mExprMay t) = false := by assumption
      simpa using h
    have hl := mCols_len t
    have he : mCols t = Lib.compact (mSorted (mColsRaw t)) := by unfold mCols mUniq; rw [if_pos hm]
    have hk5 : w.heap.size ≤ w1.heap.size + 1 := by omega
    refine ⟨_, rfl, A2.1.trans ((below_shrink A3.1 hk5).trans (below_shrink A4.1 hk5)), _, hk5, ?_⟩
    rw [he]
    exact A4.2
mutual
theorem rep_fit {R : Ctx} : ∀ (t : Expr) (V : Value), Rep R (encE t) V → t.Fit
  | .mk o c a b l, V, h => by
    obtain ⟨u, _, h4⟩ := ((h.cells (encE_okv _)).1).get (i := 4) (x := .sl .no (encEL l)) (by rw [encE_cells]; rfl)
    simp only [Rep] at h4
    obtain ⟨_, _, _, h1, _, _, ad, sz, _, h5⟩ := h4
    rw [encEL_length] at h1
    exact ⟨by unfold maxLen at h1; omega, rep_fitL l ad sz 0 h5⟩
theorem rep_fitL {R : Ctx} : ∀ (l : List Expr) (ad : Addr) (sz i : Nat), RepEls R ad sz i (encEL l) → Expr.FitL l
  | [], _, _, _, _ => trivial
  | x :: xs, ad, sz, i, h => by
    simp only [encEL, RepEls] at h
    obtain ⟨⟨_, V, h1, _⟩, h2⟩ := h
    exact ⟨rep_fit x V h1, rep_fitL xs ad sz (i + 1) h2⟩
end
theorem rep_z {Z : Addr → Prop} {w : World} {v : AV} {V : Value} (h : Rep (ctx Z w noMu noNu []) v V) : Rep (ctx Held.Z0 w noMu noNu []) v V := by
  have hle : (ctx Z w noMu noNu []).Le (ctx Held.Z0 w noMu noNu []) := { cell := fun a x h => ⟨h.1, h.2.1, h.2.2.1, trivial⟩, mu := fun i b h => h, own := fun r ver v h => h }
  exact Rep.mono hle _ _ h
theorem ext_150 : ExtOk 150 x150 := by
  intro args v hc hv hvc
  unfold x150 at hv
  split at hv
  · rename_i e
    obtain ⟨t, h1, rfl⟩ := Option.map_eq_some_iff.1 hv
    refine ⟨⟨_, _, Tryz.func150, rfl, rfl⟩, ?_⟩
    intro Z w vals S hr
    have hs : AV.stripL [e] = [encE t] := by simp only [AV.stripL, decE_eq e t h1]
    rw [hs] at hr
    obtain ⟨V, rfl, hV⟩ := rep1 hr
    have hf := rep_fit t V hV
    have hV' : Held w t V := rep_z hV
    have hsz := hV.size (encE_okv t)
    rw [encE_cells] at hsz
    have hag : ∃ arr : Array Value, V = .agg arr := by
      rw [encE_eq] at hV
      simp only [Rep] at hV
      obtain ⟨⟨arr, h, _⟩, _⟩ := hV
      exact ⟨arr, h⟩
    obtain ⟨arr, rfl⟩ := hag
    obtain ⟨c0, c1, c2, c3, c4, hl⟩ : ∃ a b c d e, arr.toList = [a, b, c, d, e] := by
      have h5 : arr.toList.length = 5 := by simpa [Value.cells] using hsz
      match arr.toList, h5 with
      | [a, b, c, d, e], _ => exact ⟨a, b, c, d, e, rfl⟩
    have ha : arr = #[c0, c1, c2, c3, c4] := by rw [← Array.toList_inj, hl]
    subst ha
    refine (cols_walk t hf c0 c1 c2 c3 c4 w hV').mono ?_
    rintro e w' ⟨V, rfl, Bl, B, hB, hgot⟩
    have hl := mCols_len t
    exact post_of S ⟨V, rfl, Bl, got_rep (fun a ha => S.fresh a (Nat.le_trans hB ha)) hgot (by unfold maxLen; omega)⟩
  · cases hv
end Go.Rb

namespace Go.Rb
set_option linter.unusedVariables false
set_option linter.unusedSimpArgs false
set_option maxRecDepth 8000
variable {T : Tab}

def Query.Fit (q : Query) : Prop := q.occ.length < 9223372036854775808 ∧ q.p.length < 9223372036854775808 ∧ q.sums.length < 9223372036854775808 ∧ q.out.length < 9223372036854775808 ∧ ∀ e ∈ q.p, e.Fit
def outside (c : Cat) (t : Int) : Bool := decide (t < 0) || decide ((c.length : Int) ≤ t)
theorem table_ok (hT : Has T) (c : Cat) (more : List AV) (t : Int) : (lim T).call 146 ([] ++ mkI t :: [.box 0 0]) ⟨encC c :: more, []⟩ = some (.bool (outside c t), ⟨encC c :: more, []⟩) := by
  have hw : CallW T 146 [mkI t, .box 0 0] ⟨encC c :: more, []⟩ (fun v σ' => v = .bool (outside c t) ∧ σ' = ⟨encC c :: more, []⟩) := by
    refine callW hT L146 rfl ?_
    by_cases h : t < 0
    · simp [-endQ, F146, h]
      exact end_same (v := .bool (outside c t)) (σ := ⟨encC c :: more, []⟩) (.inr rfl) (by simp [outside, h]) ⟨rfl, rfl⟩
    · simp [-endQ, F146, h, encC]
      exact end_same (v := .bool (outside c t)) (σ := ⟨encC c :: more, []⟩) (.inr rfl) (by simp [outside, h]) ⟨rfl, rfl⟩
  obtain ⟨v, σ', h1, h2, h3⟩ := hw
  simp only [List.nil_append]
  rw [h1, h2, h3]
theorem true_ok (hT : Has T) (o : Int) : Ret T 149 [mkI o] (.bool true) := by
  refine ret_of (by simp) (callW hT L149 rfl ?_)
  simp [F149]

def mHead (c : Cat) (q : Query) : Bool := mDataMay c && decide (1 ≤ q.occ.length) && decide (q.occ.length ≤ 4) && !q.occ.any (outside c) && decide (q.p.length ≤ 6)
def mTellsAll (c : Cat) (q : Query) : List Int := mAll c q fun _ => true
def mPreds (c : Cat) (q : Query) : Bool := q.p.all fun e => !(mCols e).isEmpty && mWithin (mCols e) (mTellsAll c q)
def mTail (c : Cat) (q : Query) : Bool :=
  if q.by_ = -1 then decide (1 ≤ (q.out.length : Int)) && decide ((q.out.length : Int) ≤ 8) && mOnce q.out && mWithin q.out (mTellsAll c q) && decide ((q.sums.length : Int) = 0) && (decide (q.ord = -1) || decide (q.ord ∈ q.out))
  else mWithin [q.by_] (mTellsAll c q) && decide ((q.sums.length : Int) ≤ 4) && mWithin q.sums (mTellsAll c q) && decide ((q.out.length : Int) = 0) && (decide (q.ord = -1) || decide (q.ord = q.by_))
def mQMay (c : Cat) (q : Query) : Bool := mHead c q && mPreds c q && mTail c q

def body62 : SCode := match F62.body with
  | .seq _ (.seq _ (.seq _ (.seq _ (.seq (.seq _ (.block _ (.loop _ c))) _)))) => c
  | _ => .skip
theorem mAllAt_all (c : Cat) (hc : mDataMay c = true) (q : Query) (is : Nat → Bool) : (mAll c q is).length ≤ 16 := by
  unfold mAll
  have : ∀ (l : List Nat), (l.flatMap (mAllAt c q is)).length ≤ 4 * l.length := by
    intro l
    induction l with
    | nil => simp
    | cons x xs ih => have := mAllAt_len hc q is x; simp only [List.flatMap_cons, List.length_append, List.length_cons]; omega
  have h := this (List.range' 0 (min q.occ.length 4))
  rw [List.length_range'] at h
  omega
abbrev encQv (q : Query) : AV := .agg [sl q.occ, .sl .no (encEL q.p), mkI q.by_, sl q.sums, sl q.out, mkI q.ord]
theorem preds_loop (hT : HasX T) (fl : Nat) (q : Query) (hf : q.Fit) (A : List Int) (hA : A.length < 1000) (o6 : Own) (b0 : AV) : ∀ (k i : Nat) (e : Env) (more : List AV) (rows : List Row) (Q : Q3), k + i = q.p.length →
    e.get 3 = .box 1 0 → e.get 6 = .sl o6 (A.map mkI) → e.get 43 = .sl .no (encEL q.p) → e.get 44 = mkI q.p.length → e.get 45 = mkI i →
    ((q.p.drop i).all (fun e => !(mCols e).isEmpty && mWithin (mCols e) A) = true → ∀ e' more', e'.get 3 = .box 1 0 → e'.get 6 = .sl o6 (A.map mkI) → Q (.exit 0) e' ⟨b0 :: encQv q :: more', rows⟩) →
    ((q.p.drop i).all (fun e => !(mCols e).isEmpty && mWithin (mCols e) A) = false → ∀ e' σ', e'.get 4 = .bool false → Q .ret e' σ') →
    LoopW T fl [3, 6, 43, 44, 45] body62 Q e ⟨b0 :: encQv q :: more, rows⟩ := by
  have hT' := hT.toHas
  intro k
  induction k with
  | zero =>
    intro i e more rows Q hk h3 h6 h43 h44 h45 hQ1 hQ2
    have : i = q.p.length := by omega
    subst this
    refine loopW_round ?_
    simp [body62, F62, h3, h6, h43, h44, h45]
    refine hQ1 (by simp) _ more ?_ ?_ <;> simp
  | succ k ih =>
    intro i e more rows Q hk h3 h6 h43 h44 h45 hQ1 hQ2
    have hi : i < q.p.length := by omega
    have hw : w64 ((i : Int) + 1) = ((i + 1 : Nat) : Int) := by rw [w64_id (by omega) (by have := hf.2.1; omega)]; simp
    have hp : (encEL q.p)[i]? = some (encE q.p[i]) := by rw [encEL_map]; simp [hi]
    have hl : i < (encEL q.p).length := by simp [hi]
    have hp' : ∀ h, (encEL q.p)[i]'h = encE q.p[i] := by intro h; rw [List.getElem?_eq_getElem h] at hp; simpa using hp
    rw [List.drop_eq_getElem_cons hi, List.all_cons] at hQ1 hQ2
    have h1 := exprCols_ok hT q.p[i]
    have hlen := mCols_len q.p[i]
    have h2 := within_ok hT' (mCols q.p[i]) A (by omega) (by omega)
    unfold Ret at h1 h2
    generalize q.p[i] = p at *
    rw [encE_eq] at h1
    rw [sl] at h1
    have h2' : pureCall (lim T) 151 [.sl .no ((mCols p).map mkI), .sl o6 (A.map mkI)] = some (.bool (mWithin (mCols p) A)) := by
      unfold pureCall at h2 ⊢
      simpa [closedI, stripL_map, Function.comp_def] using h2
    refine loopW_round ?_
    by_cases hz : (mCols p).length = 0
    · have hz' : mCols p = [] := List.eq_nil_of_length_eq_zero hz
      have hzi : decide (((mCols p).length : Int) = 0) = true := by simp [hz']
      simp [body62, F62, h3, h6, h43, h44, h45, hi, hp', hT', impL, h1, hz', encE_eq]
      refine hQ2 (by simp [hz']) _ _ (by simp)
    · have hz' : (mCols p).isEmpty = false := by
        rw [Bool.eq_false_iff]; intro h; exact hz (by simpa using h)
      have hzi : ¬ mCols p = [] := fun h => hz (by simp [h])
      cases hm : mWithin (mCols p) A with
      | false =>
        rw [hm] at h2'
        simp [body62, F62, h3, h6, h43, h44, h45, hi, hp', hT', impL, h1, h2', hzi, encE_eq]
        refine hQ2 (by simp [hm]) _ _ (by simp)
      | true =>
        rw [hm] at h2' hQ1 hQ2
        simp only [hz', Bool.not_false, Bool.true_and] at hQ1 hQ2
        simp [body62, F62, h3, h6, h43, h44, h45, hi, hp', hT', impL, h1, h2', hzi, encE_eq, hw]
        refine ih (i + 1) _ _ rows Q (by omega) ?_ ?_ ?_ ?_ ?_ (by simpa using hQ1) (by simpa using hQ2)
        all_goals simp [h43, h44]
theorem grown_sl {e size : Nat} {R rows : List Row} {v : AV} {es : List AV} (h : Grown e size R rows v es) : ∃ o, v = .sl o es := by
  rcases h with ⟨rfl, rfl, rfl⟩ | ⟨ver, rfl, rfl⟩
  · exact ⟨_, rfl⟩
  · exact ⟨_, rfl⟩
theorem pure_own {f : Nat} {l : List AV} {m : List AV} {v : AV} (h : pureCall (lim T) f l = some v) (hc : AV.closedL m = AV.closedL l) (hs : AV.stripL m = AV.stripL l) : pureCall (lim T) f m = some v := by
  unfold pureCall at h ⊢
  rw [hc, hs]
  exact h
theorem encQ_v (q : Query) : encQ q = encQv q := rfl
def tail62 : SCode := match F62.body with
  | .seq _ (.seq _ (.seq _ (.seq _ (.seq _ c)))) => c
  | _ => .skip
def loop62 : SCode := match F62.body with
  | .seq _ (.seq _ (.seq _ (.seq _ (.seq c _)))) => c
  | _ => .skip
theorem qmay_tail (hT : HasX T) (c : Cat) (hd : mDataMay c = true) (q : Query) (hf : q.Fit) (o6 : Own) (e : Env) (more : List AV) (rows : List Row) (Q : Q3) (h3 : e.get 3 = .box 1 0) (h6 : e.get 6 = .sl o6 ((mTellsAll c q).map mkI)) (hQ : ∀ e' σ', e'.get 4 = .bool (mTail c q) → Q .ret e' σ') :
    wpS T 0 tail62 Q e ⟨encC c :: encQv q :: more, rows⟩ := by
  have hT' := hT.toHas
  have hA : (mTellsAll c q).length ≤ 16 := mAllAt_all c hd q _
  generalize hAA : mTellsAll c q = A at *
  have hw : ∀ l : List Int, l.length < 9223372036854775808 → pureCall (lim T) 151 [.sl .no (l.map mkI), .sl o6 (A.map mkI)] = some (.bool (mWithin l A)) := by
    intro l hl
    refine pure_own (within_ok hT' l A hl (by omega)) (by simp [closedI]) (by simp [stripL_map, Function.comp_def])
  have w1 := hw q.out hf.2.2.2.1
  have w2 := hw [q.by_] (by simp)
  have w3 := hw q.sums hf.2.2.1
  have w4 := fun (h1 : 1 ≤ q.out.length) (h : q.out.length ≤ 8) => once_ok hT q.out h1 h
  have w5 := contains_ok hT' q.out q.ord hf.2.2.2.1
  unfold Ret at w5
  simp only [Ret, sl] at w4
  simp only [List.map_cons, List.map_nil] at w2
  unfold mTail at hQ
  rw [hAA] at hQ
  have g4 : ∀ (b : Bool) e' σ', (b = mTail c q) → e'.get 4 = .bool b → Q .ret e' σ' := by
    intro b e' σ' h h4
    refine hQ e' σ' ?_
    rw [h4, h]; unfold mTail; rw [hAA]
  unfold mTail at g4
  rw [hAA] at g4
  clear hw hQ
  generalize mWithin q.out A = W1 at *
  generalize mWithin [q.by_] A = W2 at *
  generalize mWithin q.sums A = W3 at *
  generalize mOnce q.out = W4 at *
  generalize hW5 : decide (q.ord ∈ q.out) = W5 at *
  obtain ⟨N1, n1⟩ : ∃ N1 : Int, (q.out.length : Int) = N1 := ⟨_, rfl⟩
  obtain ⟨N2, n2⟩ : ∃ N2 : Int, (q.sums.length : Int) = N2 := ⟨_, rfl⟩
  rw [n1, n2] at g4
  by_cases hb : q.by_ = -1
  · rw [if_pos hb] at g4
    rw [hb] at w2
    by_cases q1 : 1 ≤ N1
    · by_cases q2 : N1 ≤ 8
      · replace w4 := w4 (by omega) (by omega)
        cases W4
        · simp [tail62, F62, h3, h6, hb, sl, n1, n2, q1, q2, hT', impL, w4]
          exact g4 _ _ _ (by simp) rfl
        · cases W1
          · simp [tail62, F62, h3, h6, hb, sl, n1, n2, q1, q2, hT', impL, w4, w1]
            exact g4 _ _ _ (by simp) rfl
          · by_cases q5 : N2 = 0
            · by_cases q6 : q.ord = -1
              · rw [q6] at w5
                simp [tail62, F62, h3, h6, hb, sl, n1, n2, q1, q2, hT', impL, w4, w1, q5, q6]
                exact g4 _ _ _ (by simp [q1, q2, q5, q6]) rfl
              · simp [tail62, F62, h3, h6, hb, sl, n1, n2, q1, q2, hT', impL, w4, w1, q5, q6, w5]
                exact g4 _ _ _ (by simp [q1, q2, q5, q6]) rfl
            · simp [tail62, F62, h3, h6, hb, sl, n1, n2, q1, q2, hT', impL, w4, w1, q5]
              exact g4 _ _ _ (by simp [q5]) rfl
      · simp [tail62, F62, h3, h6, hb, sl, n1, n2, q1, q2, hT', impL]
        exact g4 _ _ _ (by simp [q2]) rfl
    · simp [tail62, F62, h3, h6, hb, sl, n1, n2, q1, hT', impL]
      exact g4 _ _ _ (by simp [q1]) rfl
  · rw [if_neg hb] at g4
    have w2' : pureCall (lim T) 151 [.sl .full [mkI q.by_], .sl o6 (A.map mkI)] = some (.bool W2) := pure_own w2 (by simp) (by simp)
    cases W2
    · simp [tail62, F62, h3, h6, hb, sl, n1, n2, hT', impL, w2']
      exact g4 _ _ _ (by simp) rfl
    · by_cases q1 : N2 ≤ 4
      · cases W3
        · simp [tail62, F62, h3, h6, hb, sl, n1, n2, hT', impL, w2', q1, w3]
          exact g4 _ _ _ (by simp) rfl
        · by_cases q5 : N1 = 0
          · by_cases q6 : q.ord = -1
            · simp [tail62, F62, h3, h6, hb, sl, n1, n2, hT', impL, w2', q1, w3, q5, q6]
              exact g4 _ _ _ (by simp [q1, q5, q6]) rfl
            · simp [tail62, F62, h3, h6, hb, sl, n1, n2, hT', impL, w2', q1, w3, q5, q6]
              exact g4 _ _ _ (by simp [q1, q5, q6]) rfl
          · simp [tail62, F62, h3, h6, hb, sl, n1, n2, hT', impL, w2', q1, w3, q5]
            exact g4 _ _ _ (by simp [q5]) rfl
      · simp [tail62, F62, h3, h6, hb, sl, n1, n2, hT', impL, w2', q1]
        exact g4 _ _ _ (by simp [q1]) rfl
end Go.Rb

/- The table of the functions. MADE BY PROGRAM. The program's data as plain Lean data, and what the engine sees of it. What things cost. Trees. Plans: their form. Going through a plan's parts. A plan's tree, and its order. -/
import Derived.Test.YtbdaiimljcjmpaaGreatBT06
import Derived.Test.YtbdaiimljcjmpaaGreatRbFa0
import Derived.Test.YtbdaiimljcjmpaaGreatRbFa1
import Derived.Test.YtbdaiimljcjmpaaGreatRbFa2
import Derived.Test.YtbdaiimljcjmpaaGreatRbFa3
import Derived.Test.YtbdaiimljcjmpaaGreatRbFa4
import Derived.Test.YtbdaiimljcjmpaaGreatRbFc
namespace Go.Rb
set_option linter.unusedVariables false
set_option linter.unusedSimpArgs false
open Go.Proofs

def FnOk (p : Nat × SFun) : Prop := ∃ fn lives, Tryz.prog.funcs[p.1]? = some fn ∧ compFun Tryz.prog fn p.2.np lives = some p.2
def tab0 : List (Nat × SFun) := [(3, F3), (4, F4), (5, F5), (7, F7), (27, F27), (28, F28), (29, F29), (30, F30), (31, F31), (32, F32), (33, F33), (34, F34), (35, F35), (36, F36), (37, F37), (38, F38), (39, F39), (40, F40), (45, F45), (51, F51)]
theorem tab0_ok : ∀ p ∈ tab0, FnOk p := by
  unfold tab0
  simp only [List.forall_mem_cons]
  exact ⟨⟨_, _, Tryz.func3, F3_ok⟩, ⟨_, _, Tryz.func4, F4_ok⟩, ⟨_, _, Tryz.func5, F5_ok⟩, ⟨_, _, Tryz.func7, F7_ok⟩, ⟨_, _, Tryz.func27, F27_ok⟩, ⟨_, _, Tryz.func28, F28_ok⟩, ⟨_, _, Tryz.func29, F29_ok⟩, ⟨_, _, Tryz.func30, F30_ok⟩, ⟨_, _, Tryz.func31, F31_ok⟩, ⟨_, _, Tryz.func32, F32_ok⟩, ⟨_, _, Tryz.func33, F33_ok⟩, ⟨_, _, Tryz.func34, F34_ok⟩, ⟨_, _, Tryz.func35, F35_ok⟩, ⟨_, _, Tryz.func36, F36_ok⟩, ⟨_, _, Tryz.func37, F37_ok⟩, ⟨_, _, Tryz.func38, F38_ok⟩, ⟨_, _, Tryz.func39, F39_ok⟩, ⟨_, _, Tryz.func40, F40_ok⟩, ⟨_, _, Tryz.func45, F45_ok⟩, ⟨_, _, Tryz.func51, F51_ok⟩, fun _ h => by simp at h⟩
def tab1 : List (Nat × SFun) := [(53, F53), (62, F62), (63, F63), (64, F64), (65, F65), (66, F66), (67, F67), (68, F68), (82, F82), (99, F99), (100, F100), (101, F101), (102, F102), (103, F103), (104, F104), (105, F105), (106, F106), (107, F107), (108, F108), (109, F109)]
theorem tab1_ok : ∀ p ∈ tab1, FnOk p := by
  unfold tab1
  simp only [List.forall_mem_cons]
  exact ⟨⟨_, _, Tryz.func53, F53_ok⟩, ⟨_, _, Tryz.func62, F62_ok⟩, ⟨_, _, Tryz.func63, F63_ok⟩, ⟨_, _, Tryz.func64, F64_ok⟩, ⟨_, _, Tryz.func65, F65_ok⟩, ⟨_, _, Tryz.func66, F66_ok⟩, ⟨_, _, Tryz.func67, F67_ok⟩, ⟨_, _, Tryz.func68, F68_ok⟩, ⟨_, _, Tryz.func82, F82_ok⟩, ⟨_, _, Tryz.func99, F99_ok⟩, ⟨_, _, Tryz.func100, F100_ok⟩, ⟨_, _, Tryz.func101, F101_ok⟩, ⟨_, _, Tryz.func102, F102_ok⟩, ⟨_, _, Tryz.func103, F103_ok⟩, ⟨_, _, Tryz.func104, F104_ok⟩, ⟨_, _, Tryz.func105, F105_ok⟩, ⟨_, _, Tryz.func106, F106_ok⟩, ⟨_, _, Tryz.func107, F107_ok⟩, ⟨_, _, Tryz.func108, F108_ok⟩, ⟨_, _, Tryz.func109, F109_ok⟩, fun _ h => by simp at h⟩
def tab2 : List (Nat × SFun) := [(110, F110), (111, F111), (112, F112), (113, F113), (115, F115), (116, F116), (117, F117), (118, F118), (122, F122), (136, F136), (137, F137), (146, F146), (147, F147), (148, F148), (149, F149), (151, F151), (153, F153), (154, F154), (155, F155), (156, F156)]
theorem tab2_ok : ∀ p ∈ tab2, FnOk p := by
  unfold tab2
  simp only [List.forall_mem_cons]
  exact ⟨⟨_, _, Tryz.func110, F110_ok⟩, ⟨_, _, Tryz.func111, F111_ok⟩, ⟨_, _, Tryz.func112, F112_ok⟩, ⟨_, _, Tryz.func113, F113_ok⟩, ⟨_, _, Tryz.func115, F115_ok⟩, ⟨_, _, Tryz.func116, F116_ok⟩, ⟨_, _, Tryz.func117, F117_ok⟩, ⟨_, _, Tryz.func118, F118_ok⟩, ⟨_, _, Tryz.func122, F122_ok⟩, ⟨_, _, Tryz.func136, F136_ok⟩, ⟨_, _, Tryz.func137, F137_ok⟩, ⟨_, _, Tryz.func146, F146_ok⟩, ⟨_, _, Tryz.func147, F147_ok⟩, ⟨_, _, Tryz.func148, F148_ok⟩, ⟨_, _, Tryz.func149, F149_ok⟩, ⟨_, _, Tryz.func151, F151_ok⟩, ⟨_, _, Tryz.func153, F153_ok⟩, ⟨_, _, Tryz.func154, F154_ok⟩, ⟨_, _, Tryz.func155, F155_ok⟩, ⟨_, _, Tryz.func156, F156_ok⟩, fun _ h => by simp at h⟩
def tab3 : List (Nat × SFun) := [(161, F161), (184, F184), (185, F185), (186, F186), (187, F187), (188, F188), (189, F189), (191, F191), (192, F192), (193, F193), (207, F207), (208, F208), (215, F215), (216, F216), (217, F217), (218, F218), (219, F219), (220, F220), (221, F221), (222, F222)]
theorem tab3_ok : ∀ p ∈ tab3, FnOk p := by
  unfold tab3
  simp only [List.forall_mem_cons]
  exact ⟨⟨_, _, Tryz.func161, F161_ok⟩, ⟨_, _, Tryz.func184, F184_ok⟩, ⟨_, _, Tryz.func185, F185_ok⟩, ⟨_, _, Tryz.func186, F186_ok⟩, ⟨_, _, Tryz.func187, F187_ok⟩, ⟨_, _, Tryz.func188, F188_ok⟩, ⟨_, _, Tryz.func189, F189_ok⟩, ⟨_, _, Tryz.func191, F191_ok⟩, ⟨_, _, Tryz.func192, F192_ok⟩, ⟨_, _, Tryz.func193, F193_ok⟩, ⟨_, _, Tryz.func207, F207_ok⟩, ⟨_, _, Tryz.func208, F208_ok⟩, ⟨_, _, Tryz.func215, F215_ok⟩, ⟨_, _, Tryz.func216, F216_ok⟩, ⟨_, _, Tryz.func217, F217_ok⟩, ⟨_, _, Tryz.func218, F218_ok⟩, ⟨_, _, Tryz.func219, F219_ok⟩, ⟨_, _, Tryz.func220, F220_ok⟩, ⟨_, _, Tryz.func221, F221_ok⟩, ⟨_, _, Tryz.func222, F222_ok⟩, fun _ h => by simp at h⟩
def tab4 : List (Nat × SFun) := [(225, F225), (227, F227), (228, F228), (229, F229), (257, F257), (258, F258), (263, F263), (264, F264), (265, F265), (266, F266), (268, F268), (288, F288), (289, F289), (307, F307), (308, F308), (309, F309), (310, F310), (311, F311), (312, F312), (313, F313)]
theorem tab4_ok : ∀ p ∈ tab4, FnOk p := by
  unfold tab4
  simp only [List.forall_mem_cons]
  exact ⟨⟨_, _, Tryz.func225, F225_ok⟩, ⟨_, _, Tryz.func227, F227_ok⟩, ⟨_, _, Tryz.func228, F228_ok⟩, ⟨_, _, Tryz.func229, F229_ok⟩, ⟨_, _, Tryz.func257, F257_ok⟩, ⟨_, _, Tryz.func258, F258_ok⟩, ⟨_, _, Tryz.func263, F263_ok⟩, ⟨_, _, Tryz.func264, F264_ok⟩, ⟨_, _, Tryz.func265, F265_ok⟩, ⟨_, _, Tryz.func266, F266_ok⟩, ⟨_, _, Tryz.func268, F268_ok⟩, ⟨_, _, Tryz.func288, F288_ok⟩, ⟨_, _, Tryz.func289, F289_ok⟩, ⟨_, _, Tryz.func307, F307_ok⟩, ⟨_, _, Tryz.func308, F308_ok⟩, ⟨_, _, Tryz.func309, F309_ok⟩, ⟨_, _, Tryz.func310, F310_ok⟩, ⟨_, _, Tryz.func311, F311_ok⟩, ⟨_, _, Tryz.func312, F312_ok⟩, ⟨_, _, Tryz.func313, F313_ok⟩, fun _ h => by simp at h⟩
def tab5 : List (Nat × SFun) := [(314, F314), (315, F315), (316, F316), (317, F317), (318, F318), (319, F319), (325, F325), (326, F326), (327, F327), (328, F328), (329, F329), (330, F330), (331, F331), (332, F332), (333, F333), (334, F334), (335, F335), (336, F336), (337, F337), (339, F339)]
theorem tab5_ok : ∀ p ∈ tab5, FnOk p := by
  unfold tab5
  simp only [List.forall_mem_cons]
  exact ⟨⟨_, _, Tryz.func314, F314_ok⟩, ⟨_, _, Tryz.func315, F315_ok⟩, ⟨_, _, Tryz.func316, F316_ok⟩, ⟨_, _, Tryz.func317, F317_ok⟩, ⟨_, _, Tryz.func318, F318_ok⟩, ⟨_, _, Tryz.func319, F319_ok⟩, ⟨_, _, Tryz.func325, F325_ok⟩, ⟨_, _, Tryz.func326, F326_ok⟩, ⟨_, _, Tryz.func327, F327_ok⟩, ⟨_, _, Tryz.func328, F328_ok⟩, ⟨_, _, Tryz.func329, F329_ok⟩, ⟨_, _, Tryz.func330, F330_ok⟩, ⟨_, _, Tryz.func331, F331_ok⟩, ⟨_, _, Tryz.func332, F332_ok⟩, ⟨_, _, Tryz.func333, F333_ok⟩, ⟨_, _, Tryz.func334, F334_ok⟩, ⟨_, _, Tryz.func335, F335_ok⟩, ⟨_, _, Tryz.func336, F336_ok⟩, ⟨_, _, Tryz.func337, F337_ok⟩, ⟨_, _, Tryz.func339, F339_ok⟩, fun _ h => by simp at h⟩
def tab6 : List (Nat × SFun) := [(340, F340), (341, F341), (342, F342), (343, F343), (344, F344), (345, F345), (346, F346)]
theorem tab6_ok : ∀ p ∈ tab6, FnOk p := by
  unfold tab6
  simp only [List.forall_mem_cons]
  exact ⟨⟨_, _, Tryz.func340, F340_ok⟩, ⟨_, _, Tryz.func341, F341_ok⟩, ⟨_, _, Tryz.func342, F342_ok⟩, ⟨_, _, Tryz.func343, F343_ok⟩, ⟨_, _, Tryz.func344, F344_ok⟩, ⟨_, _, Tryz.func345, F345_ok⟩, ⟨_, _, Tryz.func346, F346_ok⟩, fun _ h => by simp at h⟩
def tabL : List (Nat × SFun) := tab0 ++ tab1 ++ tab2 ++ tab3 ++ tab4 ++ tab5 ++ tab6
theorem tabL_ok : ∀ p ∈ tabL, FnOk p := by
  intro p hp
  unfold tabL at hp
  simp only [List.mem_append] at hp
  rcases hp with ((((((h | h) | h) | h) | h) | h) | h)
  · exact tab0_ok p h
  · exact tab1_ok p h
  · exact tab2_ok p h
  · exact tab3_ok p h
  · exact tab4_ok p h
  · exact tab5_ok p h
  · exact tab6_ok p h
/-- those that run in the caller's store -/
def impL : List Nat := [101, 102, 105, 107, 110, 146, 148, 158, 164, 167, 168, 169, 183, 209, 212, 219, 221, 222, 225, 227, 228, 236, 239, 244, 246, 247, 255, 256, 265, 273, 285, 288, 301, 302, 303, 307, 321, 322, 324, 325, 326, 334, 338, 340, 341, 343, 344, 346]
theorem lookup_mem {l : List (Nat × SFun)} {f : Nat} {F : SFun} (h : l.lookup f = some F) : (f, F) ∈ l := by
  induction l with
  | nil => simp at h
  | cons p l ih =>
    obtain ⟨k, G⟩ := p
    simp only [List.lookup] at h
    split at h
    · rename_i hk
      simp only [beq_iff_eq] at hk
      injection h with h; subst h; subst hk; exact List.mem_cons_self
    · exact List.mem_cons_of_mem _ (ih h)
/-- a table that holds the functions -/
structure Has (T : Tab) : Prop where
  fn : ∀ f F, tabL.lookup f = some F → T.fn f = some F ∧ T.ext f = none
  imp : ∀ f, T.imp f = impL.contains f
theorem callW {f : Nat} {T : Tab} (h : Has T) {F : SFun} (hF : tabL.lookup f = some F) {args : List AV} {σ : St} {Q : AV → St → Prop} (hn : args.length = F.np)
    (k : wpS T σ.boxes.length F.body (endQ σ.boxes.length F.res Q) (argEnv 0 args) σ) : CallW T f args σ Q := callW_fn (h.fn f F hF).2 (h.fn f F hF).1 hn k
theorem L3 : tabL.lookup 3 = some F3 := by kernel_rfl
theorem L4 : tabL.lookup 4 = some F4 := by kernel_rfl
theorem L5 : tabL.lookup 5 = some F5 := by kernel_rfl
theorem L7 : tabL.lookup 7 = some F7 := by kernel_rfl
theorem L27 : tabL.lookup 27 = some F27 := by kernel_rfl
theorem L28 : tabL.lookup 28 = some F28 := by kernel_rfl
theorem L29 : tabL.lookup 29 = some F29 := by kernel_rfl
theorem L30 : tabL.lookup 30 = some F30 := by kernel_rfl
theorem L31 : tabL.lookup 31 = some F31 := by kernel_rfl
theorem L32 : tabL.lookup 32 = some F32 := by kernel_rfl
theorem L33 : tabL.lookup 33 = some F33 := by kernel_rfl
theorem L34 : tabL.lookup 34 = some F34 := by kernel_rfl
theorem L35 : tabL.lookup 35 = some F35 := by kernel_rfl
theorem L36 : tabL.lookup 36 = some F36 := by kernel_rfl
theorem L37 : tabL.lookup 37 = some F37 := by kernel_rfl
theorem L38 : tabL.lookup 38 = some F38 := by kernel_rfl
theorem L39 : tabL.lookup 39 = some F39 := by kernel_rfl
theorem L40 : tabL.lookup 40 = some F40 := by kernel_rfl
theorem L45 : tabL.lookup 45 = some F45 := by kernel_rfl
theorem L51 : tabL.lookup 51 = some F51 := by kernel_rfl
theorem L53 : tabL.lookup 53 = some F53 := by kernel_rfl
theorem L62 : tabL.lookup 62 = some F62 := by kernel_rfl
theorem L63 : tabL.lookup 63 = some F63 := by kernel_rfl
theorem L64 : tabL.lookup 64 = some F64 := by kernel_rfl
theorem L65 : tabL.lookup 65 = some F65 := by kernel_rfl
theorem L66 : tabL.lookup 66 = some F66 := by kernel_rfl
theorem L67 : tabL.lookup 67 = some F67 := by kernel_rfl
theorem L68 : tabL.lookup 68 = some F68 := by kernel_rfl
theorem L82 : tabL.lookup 82 = some F82 := by kernel_rfl
theorem L99 : tabL.lookup 99 = some F99 := by kernel_rfl
theorem L100 : tabL.lookup 100 = some F100 := by kernel_rfl
theorem L101 : tabL.lookup 101 = some F101 := by kernel_rfl
theorem L102 : tabL.lookup 102 = some F102 := by kernel_rfl
theorem L103 : tabL.lookup 103 = some F103 := by kernel_rfl
theorem L104 : tabL.lookup 104 = some F104 := by kernel_rfl
theorem L105 : tabL.lookup 105 = some F105 := by kernel_rfl
theorem L106 : tabL.lookup 106 = some F106 := by kernel_rfl
theorem L107 : tabL.lookup 107 = some F107 := by kernel_rfl
theorem L108 : tabL.lookup 108 = some F108 := by kernel_rfl
theorem L109 : tabL.lookup 109 = some F109 := by kernel_rfl
theorem L110 : tabL.lookup 110 = some F110 := by kernel_rfl
theorem L111 : tabL.lookup 111 = some F111 := by kernel_rfl
theorem L112 : tabL.lookup 112 = some F112 := by kernel_rfl
theorem L113 : tabL.lookup 113 = some F113 := by kernel_rfl
theorem L115 : tabL.lookup 115 = some F115 := by kernel_rfl
theorem L116 : tabL.lookup 116 = some F116 := by kernel_rfl
theorem L117 : tabL.lookup 117 = some F117 := by kernel_rfl
theorem L118 : tabL.lookup 118 = some F118 := by kernel_rfl
theorem L122 : tabL.lookup 122 = some F122 := by kernel_rfl
theorem L136 : tabL.lookup 136 = some F136 := by kernel_rfl
theorem L137 : tabL.lookup 137 = some F137 := by kernel_rfl
theorem L146 : tabL.lookup 146 = some F146 := by kernel_rfl
theorem L147 : tabL.lookup 147 = some F147 := by kernel_rfl
theorem L148 : tabL.lookup 148 = some F148 := by kernel_rfl
theorem L149 : tabL.lookup 149 = some F149 := by kernel_rfl
theorem L151 : tabL.lookup 151 = some F151 := by kernel_rfl
theorem L153 : tabL.lookup 153 = some F153 := by kernel_rfl
theorem L154 : tabL.lookup 154 = some F154 := by kernel_rfl
theorem L155 : tabL.lookup 155 = some F155 := by kernel_rfl
theorem L156 : tabL.lookup 156 = some F156 := by kernel_rfl
theorem L161 : tabL.lookup 161 = some F161 := by kernel_rfl
theorem L184 : tabL.lookup 184 = some F184 := by kernel_rfl
theorem L185 : tabL.lookup 185 = some F185 := by kernel_rfl
theorem L186 : tabL.lookup 186 = some F186 := by kernel_rfl
theorem L187 : tabL.lookup 187 = some F187 := by kernel_rfl
theorem L188 : tabL.lookup 188 = some F188 := by kernel_rfl
theorem L189 : tabL.lookup 189 = some F189 := by kernel_rfl
theorem L191 : tabL.lookup 191 = some F191 := by kernel_rfl
theorem L192 : tabL.lookup 192 = some F192 := by kernel_rfl
theorem L193 : tabL.lookup 193 = some F193 := by kernel_rfl
theorem L207 : tabL.lookup 207 = some F207 := by kernel_rfl
theorem L208 : tabL.lookup 208 = some F208 := by kernel_rfl
theorem L215 : tabL.lookup 215 = some F215 := by kernel_rfl
theorem L216 : tabL.lookup 216 = some F216 := by kernel_rfl
theorem L217 : tabL.lookup 217 = some F217 := by kernel_rfl
theorem L218 : tabL.lookup 218 = some F218 := by kernel_rfl
theorem L219 : tabL.lookup 219 = some F219 := by kernel_rfl
theorem L220 : tabL.lookup 220 = some F220 := by kernel_rfl
theorem L221 : tabL.lookup 221 = some F221 := by kernel_rfl
theorem L222 : tabL.lookup 222 = some F222 := by kernel_rfl
theorem L225 : tabL.lookup 225 = some F225 := by kernel_rfl
theorem L227 : tabL.lookup 227 = some F227 := by kernel_rfl
theorem L228 : tabL.lookup 228 = some F228 := by kernel_rfl
theorem L229 : tabL.lookup 229 = some F229 := by kernel_rfl
theorem L257 : tabL.lookup 257 = some F257 := by kernel_rfl
theorem L258 : tabL.lookup 258 = some F258 := by kernel_rfl
theorem L263 : tabL.lookup 263 = some F263 := by kernel_rfl
theorem L264 : tabL.lookup 264 = some F264 := by kernel_rfl
theorem L265 : tabL.lookup 265 = some F265 := by kernel_rfl
theorem L266 : tabL.lookup 266 = some F266 := by kernel_rfl
theorem L268 : tabL.lookup 268 = some F268 := by kernel_rfl
theorem L288 : tabL.lookup 288 = some F288 := by kernel_rfl
theorem L289 : tabL.lookup 289 = some F289 := by kernel_rfl
theorem L307 : tabL.lookup 307 = some F307 := by kernel_rfl
theorem L308 : tabL.lookup 308 = some F308 := by kernel_rfl
theorem L309 : tabL.lookup 309 = some F309 := by kernel_rfl
theorem L310 : tabL.lookup 310 = some F310 := by kernel_rfl
theorem L311 : tabL.lookup 311 = some F311 := by kernel_rfl
theorem L312 : tabL.lookup 312 = some F312 := by kernel_rfl
theorem L313 : tabL.lookup 313 = some F313 := by kernel_rfl
theorem L314 : tabL.lookup 314 = some F314 := by kernel_rfl
theorem L315 : tabL.lookup 315 = some F315 := by kernel_rfl
theorem L316 : tabL.lookup 316 = some F316 := by kernel_rfl
theorem L317 : tabL.lookup 317 = some F317 := by kernel_rfl
theorem L318 : tabL.lookup 318 = some F318 := by kernel_rfl
theorem L319 : tabL.lookup 319 = some F319 := by kernel_rfl
theorem L325 : tabL.lookup 325 = some F325 := by kernel_rfl
theorem L326 : tabL.lookup 326 = some F326 := by kernel_rfl
theorem L327 : tabL.lookup 327 = some F327 := by kernel_rfl
theorem L328 : tabL.lookup 328 = some F328 := by kernel_rfl
theorem L329 : tabL.lookup 329 = some F329 := by kernel_rfl
theorem L330 : tabL.lookup 330 = some F330 := by kernel_rfl
theorem L331 : tabL.lookup 331 = some F331 := by kernel_rfl
theorem L332 : tabL.lookup 332 = some F332 := by kernel_rfl
theorem L333 : tabL.lookup 333 = some F333 := by kernel_rfl
theorem L334 : tabL.lookup 334 = some F334 := by kernel_rfl
theorem L335 : tabL.lookup 335 = some F335 := by kernel_rfl
theorem L336 : tabL.lookup 336 = some F336 := by kernel_rfl
theorem L337 : tabL.lookup 337 = some F337 := by kernel_rfl
theorem L339 : tabL.lookup 339 = some F339 := by kernel_rfl
theorem L340 : tabL.lookup 340 = some F340 := by kernel_rfl
theorem L341 : tabL.lookup 341 = some F341 := by kernel_rfl
theorem L342 : tabL.lookup 342 = some F342 := by kernel_rfl
theorem L343 : tabL.lookup 343 = some F343 := by kernel_rfl
theorem L344 : tabL.lookup 344 = some F344 := by kernel_rfl
theorem L345 : tabL.lookup 345 = some F345 := by kernel_rfl
theorem L346 : tabL.lookup 346 = some F346 := by kernel_rfl
end Go.Rb

namespace Go.Rb
set_option linter.unusedVariables false
set_option linter.unusedSimpArgs false
attribute [simp] wpS wpN wpD wanted aop thenQ blockQ Env.put Env.get X.ev argEnv Env.keep resOf packRes endQ St.nil St.push AV.sub AV.mk aUn aBin
attribute [simp] only Foot.conf AV.eqL AV.eq1 AV.closed AV.closedL AV.under AV.underL AV.strip AV.stripL St.load AV.set putCells fillParts fillElems callee footOf quietOk footsOk hiOf

@[simp] theorem okv_int (k : IntKind) (n : Int) : AV.okv (.int k n) = true := rfl
@[simp] theorem one_int (k : IntKind) (n : Int) : AV.one (.int k n) = true := rfl
@[simp] theorem isAgg_int (k : IntKind) (n : Int) : AV.isAgg (.int k n) = false := rfl
@[simp] theorem isB_int (k : IntKind) (n : Int) : AV.isB (.int k n) = false := rfl
@[simp] theorem cells_int (k : IntKind) (n : Int) : AV.cells (.int k n) = [(.int k n)] := rfl
@[simp] theorem okv_bool (b : Bool) : AV.okv (.bool b) = true := rfl
@[simp] theorem one_bool (b : Bool) : AV.one (.bool b) = true := rfl
@[simp] theorem isAgg_bool (b : Bool) : AV.isAgg (.bool b) = false := rfl
@[simp] theorem isB_bool (b : Bool) : AV.isB (.bool b) = false := rfl
@[simp] theorem cells_bool (b : Bool) : AV.cells (.bool b) = [(.bool b)] := rfl
@[simp] theorem okv_str (b : ByteArray) : AV.okv (.str b) = true := rfl
@[simp] theorem one_str (b : ByteArray) : AV.one (.str b) = true := rfl
@[simp] theorem isAgg_str (b : ByteArray) : AV.isAgg (.str b) = false := rfl
@[simp] theorem isB_str (b : ByteArray) : AV.isB (.str b) = false := rfl
@[simp] theorem cells_str (b : ByteArray) : AV.cells (.str b) = [(.str b)] := rfl
@[simp] theorem okv_agg (l : List AV) : AV.okv (.agg l) = true := rfl
@[simp] theorem one_agg (l : List AV) : AV.one (.agg l) = false := rfl
@[simp] theorem isAgg_agg (l : List AV) : AV.isAgg (.agg l) = true := rfl
@[simp] theorem isB_agg (l : List AV) : AV.isB (.agg l) = false := rfl
@[simp] theorem cells_agg (l : List AV) : AV.cells (.agg l) = l := rfl
@[simp] theorem okv_tup (l : List AV) : AV.okv (.tup l) = false := rfl
@[simp] theorem one_tup (l : List AV) : AV.one (.tup l) = false := rfl
@[simp] theorem isAgg_tup (l : List AV) : AV.isAgg (.tup l) = false := rfl
@[simp] theorem isB_tup (l : List AV) : AV.isB (.tup l) = false := rfl
@[simp] theorem cells_tup (l : List AV) : AV.cells (.tup l) = [(.tup l)] := rfl
@[simp] theorem okv_sl (o : Own) (l : List AV) : AV.okv (.sl o l) = true := rfl
@[simp] theorem one_sl (o : Own) (l : List AV) : AV.one (.sl o l) = true := rfl
@[simp] theorem isAgg_sl (o : Own) (l : List AV) : AV.isAgg (.sl o l) = false := rfl
@[simp] theorem isB_sl (o : Own) (l : List AV) : AV.isB (.sl o l) = false := rfl
@[simp] theorem cells_sl (o : Own) (l : List AV) : AV.cells (.sl o l) = [(.sl o l)] := rfl
@[simp] theorem okv_box (i o : Nat) : AV.okv (.box i o) = true := rfl
@[simp] theorem one_box (i o : Nat) : AV.one (.box i o) = true := rfl
@[simp] theorem isAgg_box (i o : Nat) : AV.isAgg (.box i o) = false := rfl
@[simp] theorem isB_box (i o : Nat) : AV.isB (.box i o) = false := rfl
@[simp] theorem cells_box (i o : Nat) : AV.cells (.box i o) = [(.box i o)] := rfl
@[simp] theorem okv_el (v : AV) : AV.okv (.el v) = true := rfl
@[simp] theorem one_el (v : AV) : AV.one (.el v) = true := rfl
@[simp] theorem isAgg_el (v : AV) : AV.isAgg (.el v) = false := rfl
@[simp] theorem isB_el (v : AV) : AV.isB (.el v) = false := rfl
@[simp] theorem cells_el (v : AV) : AV.cells (.el v) = [(.el v)] := rfl
@[simp] theorem okv_fn (f : Fn) (a b : List AV) : AV.okv (.fn f a b) = true := rfl
@[simp] theorem one_fn (f : Fn) (a b : List AV) : AV.one (.fn f a b) = true := rfl
@[simp] theorem isAgg_fn (f : Fn) (a b : List AV) : AV.isAgg (.fn f a b) = false := rfl
@[simp] theorem isB_fn (f : Fn) (a b : List AV) : AV.isB (.fn f a b) = false := rfl
@[simp] theorem cells_fn (f : Fn) (a b : List AV) : AV.cells (.fn f a b) = [(.fn f a b)] := rfl
@[simp] theorem okv_nilfn  : AV.okv .nilfn = true := rfl
@[simp] theorem one_nilfn  : AV.one .nilfn = true := rfl
@[simp] theorem isAgg_nilfn  : AV.isAgg .nilfn = false := rfl
@[simp] theorem isB_nilfn  : AV.isB .nilfn = false := rfl
@[simp] theorem cells_nilfn  : AV.cells .nilfn = [.nilfn] := rfl
@[simp] theorem okv_nilp  : AV.okv .nilp = true := rfl
@[simp] theorem one_nilp  : AV.one .nilp = true := rfl
@[simp] theorem isAgg_nilp  : AV.isAgg .nilp = false := rfl
@[simp] theorem isB_nilp  : AV.isB .nilp = false := rfl
@[simp] theorem cells_nilp  : AV.cells .nilp = [.nilp] := rfl
@[simp] theorem okv_nilm  : AV.okv .nilm = true := rfl
@[simp] theorem one_nilm  : AV.one .nilm = true := rfl
@[simp] theorem isAgg_nilm  : AV.isAgg .nilm = false := rfl
@[simp] theorem isB_nilm  : AV.isB .nilm = false := rfl
@[simp] theorem cells_nilm  : AV.cells .nilm = [.nilm] := rfl
@[simp] theorem okv_skp  : AV.okv .skp = false := rfl
@[simp] theorem one_skp  : AV.one .skp = false := rfl
@[simp] theorem isAgg_skp  : AV.isAgg .skp = false := rfl
@[simp] theorem isB_skp  : AV.isB .skp = false := rfl
@[simp] theorem cells_skp  : AV.cells .skp = [.skp] := rfl
@[simp] theorem okv_undef  : AV.okv .undef = false := rfl
@[simp] theorem one_undef  : AV.one .undef = false := rfl
@[simp] theorem isAgg_undef  : AV.isAgg .undef = false := rfl
@[simp] theorem isB_undef  : AV.isB .undef = false := rfl
@[simp] theorem cells_undef  : AV.cells .undef = [.undef] := rfl
@[simp] theorem okv_bsl (i o n s : Nat) (a : Bool) : AV.okv (.bsl i o n s a) = false := rfl
@[simp] theorem one_bsl (i o n s : Nat) (a : Bool) : AV.one (.bsl i o n s a) = false := rfl
@[simp] theorem isAgg_bsl (i o n s : Nat) (a : Bool) : AV.isAgg (.bsl i o n s a) = false := rfl
@[simp] theorem isB_bsl (i o n s : Nat) (a : Bool) : AV.isB (.bsl i o n s a) = true := rfl
@[simp] theorem cells_bsl (i o n s : Nat) (a : Bool) : AV.cells (.bsl i o n s a) = [(.bsl i o n s a)] := rfl

@[simp] theorem beq_dec (a b : Int) : (a == b) = decide (a = b) := by rw [Bool.eq_iff_iff]; simp
@[simp] theorem bne_dec (a b : Int) : (a != b) = !decide (a = b) := by rw [Bool.eq_iff_iff]; simp
abbrev mkI (n : Int) : AV := .int .i64 n
def w64 (n : Int) : Int := IntKind.wrap .i64 n
def wu (n : Int) : Int := IntKind.wrap .u64 n
@[simp] theorem wrap_i64 (n : Int) : IntKind.wrap .i64 n = w64 n := rfl
@[simp] theorem wrap_u64 (n : Int) : IntKind.wrap .u64 n = wu n := rfl
@[simp] theorem mx_max (a b : Int) : (if a < b then b else a) = max a b := by omega
@[simp] theorem mx_min (a b : Int) : (if b < a then b else a) = min a b := by omega
theorem w64_eq (n : Int) : w64 n = (n + 9223372036854775808) % 18446744073709551616 - 9223372036854775808 := by
  simp only [w64, IntKind.wrap, IntKind.signed, IntKind.bits]
  simp
  split <;> omega
theorem wu_eq (n : Int) : wu n = n % 18446744073709551616 := by
  simp only [wu, IntKind.wrap, IntKind.signed, IntKind.bits]
  simp
theorem w64_id {n : Int} (h1 : -9223372036854775808 ≤ n) (h2 : n < 9223372036854775808) : w64 n = n := by rw [w64_eq]; omega
theorem wu_id {n : Int} (h1 : 0 ≤ n) (h2 : n < 18446744073709551616) : wu n = n := by rw [wu_eq]; omega
@[simp] theorem imp_has {T : Tab} (h : Has T) (f : Nat) : T.imp f = impL.contains f := h.imp f

/-- a call by value -/
noncomputable def CallV (T : Tab) (f : AV) (args : List AV) (σ : St) : Option (AV × St) :=
  match callee f args with
  | some (g, l) => if T.imp g then (lim T).call g l σ else if l.any AV.isB then (boxCall (lim T) g l σ).map fun v => (v, σ) else (pureCall (lim T) g l).map fun v => (v, σ)
  | none => none
@[simp high] theorem aop_call {T : Tab} {fl : Nat} {f : X} {args : List X} {e : Env} {σ : St} : aop T (lim T) fl (.call f args) e σ = CallV T (f.ev e) (args.map (·.ev e)) σ := rfl
@[simp] theorem callV_fn {T : Tab} {g : Nat} {fst cap args : List AV} {σ : St} : CallV T (.fn (.func g) fst cap) args σ = if T.imp g then (lim T).call g (fst ++ args ++ cap) σ else if (fst ++ args ++ cap).any AV.isB then (boxCall (lim T) g (fst ++ args ++ cap) σ).map fun v => (v, σ) else (pureCall (lim T) g (fst ++ args ++ cap)).map fun v => (v, σ) := rfl

/-- numbers that a Go int holds -/
def I64 (n : Int) : Prop := -9223372036854775808 ≤ n ∧ n < 9223372036854775808
end Go.Rb

namespace Go.Rb
set_option linter.unusedVariables false
set_option linter.unusedSimpArgs false
variable {T : Tab}

/-! ### products of 64 bits -/
theorem and_u64 (x : Int) : aBits .and .u64 x 4294967295 = some (.int .u64 (x % 4294967296)) := by
  have h2 : (BitVec.ofInt 64 4294967295).toNat = 2 ^ 32 - 1 := by decide
  have h : (BitVec.ofInt 64 x &&& BitVec.ofInt 64 4294967295).toNat = (x % 4294967296).toNat := by
    rw [BitVec.toNat_and, h2, Nat.and_two_pow_sub_one_eq_mod, BitVec.toNat_ofInt]
    omega
  have h3 : ((BitVec.ofInt 64 x &&& BitVec.ofInt 64 4294967295).toNat : Int) = x % 4294967296 := by rw [h]; omega
  show some (AV.int .u64 (IntKind.wrap .u64 ((BitVec.ofInt 64 x &&& BitVec.ofInt 64 4294967295).toNat : Int))) = _
  rw [h3, wrap_u64, wu_id (by omega) (by omega)]
theorem fdiv32 (x : Int) : Int.fdiv x 4294967296 = x / 4294967296 := Int.fdiv_eq_ediv_of_nonneg _ (by decide)
theorem mul_split (a b : Int) : a * b = ((a / 4294967296) * (b / 4294967296)) * 18446744073709551616 + ((a / 4294967296) * (b % 4294967296) + (a % 4294967296) * (b / 4294967296)) * 4294967296 + (a % 4294967296) * (b % 4294967296) := by
  have ha := Int.mul_ediv_add_emod a 4294967296
  have hb := Int.mul_ediv_add_emod b 4294967296
  generalize a / 4294967296 = x1 at *
  generalize a % 4294967296 = x0 at *
  generalize b / 4294967296 = y1 at *
  generalize b % 4294967296 = y0 at *
  subst ha; subst hb
  grind
theorem prod_le {x y : Int} (h0 : 0 ≤ x) (k0 : 0 ≤ y) (hx : x < 4294967296) (hy : y < 4294967296) : 0 ≤ x * y ∧ x * y ≤ 18446744065119617025 := by
  refine ⟨Int.mul_nonneg h0 k0, ?_⟩
  have := Int.mul_le_mul (show x ≤ 4294967295 by omega) (show y ≤ 4294967295 by omega) k0 (by decide)
  exact this
theorem mul64 (hT : Has T) (a b : Int) (ha0 : 0 ≤ a) (hb0 : 0 ≤ b) (ha : a < 18446744073709551616) (hb : b < 18446744073709551616) :
    Ret T 191 [.int .u64 a, .int .u64 b] (.tup [.int .u64 (a * b / 18446744073709551616), .int .u64 (a * b % 18446744073709551616)]) := by
  refine ret_of (by simp) (callW hT L191 rfl ?_)
  have hm := mul_split a b
  have hx1 : 0 ≤ a / 4294967296 ∧ a / 4294967296 < 4294967296 := by omega
  have hy1 : 0 ≤ b / 4294967296 ∧ b / 4294967296 < 4294967296 := by omega
  have hx0 : 0 ≤ a % 4294967296 ∧ a % 4294967296 < 4294967296 := by omega
  have hy0 : 0 ≤ b % 4294967296 ∧ b % 4294967296 < 4294967296 := by omega
  have p00 := prod_le hx0.1 hy0.1 hx0.2 hy0.2
  have p01 := prod_le hx0.1 hy1.1 hx0.2 hy1.2
  have p10 := prod_le hx1.1 hy0.1 hx1.2 hy0.2
  have p11 := prod_le hx1.1 hy1.1 hx1.2 hy1.2
  simp [F191, and_u64, fdiv32, IntKind.bits, wu_eq]
  rw [hm]
  generalize a / 4294967296 * (b / 4294967296) = A at *
  generalize a / 4294967296 * (b % 4294967296) = B at *
  generalize a % 4294967296 * (b / 4294967296) = C at *
  generalize a % 4294967296 * (b % 4294967296) = D at *
  omega

/-- two numbers multiplied, at most so much -/
def mTimes (a b : Int) : Int := if a * b > 1125899906842624 then 1125899906842624 else a * b
theorem times_ok (hT : Has T) (a b : Int) (ha0 : 0 ≤ a) (hb0 : 0 ≤ b) (ha : a < 9223372036854775808) (hb : b < 9223372036854775808) : Ret T 112 [mkI a, mkI b] (mkI (mTimes a b)) := by
  refine ret_of (by simp) (callW hT L112 rfl ?_)
  have h := mul64 hT a b ha0 hb0 (by omega) (by omega)
  unfold Ret at h
  have hp : 0 ≤ a * b := Int.mul_nonneg ha0 hb0
  by_cases hh : 0 < a * b / 18446744073709551616
  · simp [F112, wu_id, ha0, hb0, show a < 18446744073709551616 by omega, show b < 18446744073709551616 by omega, hT, impL, h, hh, mTimes]
    omega
  · simp [F112, wu_id, ha0, hb0, show a < 18446744073709551616 by omega, show b < 18446744073709551616 by omega, hT, impL, h, hh, mTimes]
    split
    · omega
    · rw [w64_id (by omega) (by omega)]; omega
def mRows (n : Int) : Int := min (max n 0) 1099511627776
theorem rows_ok (hT : Has T) (n : Int) : Ret T 113 [mkI n] (mkI (mRows n)) := by
  refine ret_of (by simp) (callW hT L113 rfl ?_)
  simp [F113, mRows]
theorem mRows_le (n : Int) : 0 ≤ mRows n ∧ mRows n ≤ 1099511627776 := by unfold mRows; omega
def mScan (n : Int) : Int := mTimes 1 (mRows n)
theorem scan_ok (hT : Has T) (n : Int) : Ret T 189 [mkI n] (mkI (mScan n)) := by
  have h1 := rows_ok hT n
  have h2 := times_ok hT 1 (mRows n) (by omega) (mRows_le n).1 (by omega) (by have := mRows_le n; omega)
  unfold Ret at h1 h2
  refine ret_of (by simp) (callW hT L189 rfl ?_)
  simp [F189, hT, impL, h1, h2, mScan]
/-! ### sums -/
def addStep (n x : Int) : Int := min (w64 (n + min (max x 0) 1125899906842624)) 1125899906842624
def mAdd (l : List Int) : Int := l.foldl addStep 0
theorem addStep_eq {n x : Int} (h : 0 ≤ n ∧ n ≤ 1125899906842624) : addStep n x = min (n + min (max x 0) 1125899906842624) 1125899906842624 := by
  unfold addStep
  rw [w64_id (by omega) (by omega)]
theorem addStep_in {n x : Int} (h : 0 ≤ n ∧ n ≤ 1125899906842624) : 0 ≤ addStep n x ∧ addStep n x ≤ 1125899906842624 := by
  rw [addStep_eq h]; omega
theorem add_ok (hT : Has T) (l : List Int) (hl : l.length < 9223372036854775808) : Ret T 34 [.sl .no (l.map mkI)] (mkI (mAdd l)) := by
  refine ret_of (by simp [closedL_all]) (callW hT L34 rfl ?_)
  simp [F34, stripL_map, Function.comp_def]
  have key : ∀ (k : Nat) (i : Nat) (n : Int) (e : Env) (Q : Q3), k + i = l.length → e.get 3 = mkI n → e.get 6 = .sl .no (l.map mkI) → e.get 7 = mkI l.length → e.get 8 = mkI i →
     (∀ e', e'.get 3 = mkI ((l.drop i).foldl addStep n) → Q (.exit 0) e' .nil) → LoopW T 0 [3, 6, 7, 8] (match F34.body with
  | .seq _ (.seq _ (.seq (.seq _ (.block _ (.loop _ c))) _)) => c
  | _ => .skip) Q e .nil := by
    intro k
    induction k with
    | zero =>
      intro i n e Q hk h3 h6 h7 h8 hQ
      have : i = l.length := by omega
      subst this
      refine loopW_round ?_
      simp [F34, h3, h6, h7, h8]
      refine hQ _ ?_
      simp
    | succ k ih =>
      intro i n e Q hk h3 h6 h7 h8 hQ
      have hi : i < l.length := by omega
      refine loopW_round ?_
      simp [F34, h3, h6, h7, h8, hi]
      refine ih (i + 1) (addStep n l[i]) _ Q (by omega) ?_ ?_ ?_ ?_ ?_
      all_goals simp [addStep]
      · rw [w64_id (by omega) (by omega)]
      · intro e' he
        refine hQ e' ?_
        rw [he, List.drop_eq_getElem_cons hi]; rfl
  refine key l.length 0 0 _ _ (by omega) ?_ ?_ ?_ ?_ ?_
  all_goals simp
  intro e' he
  simp [he, mAdd]
end Go.Rb

namespace Go.Rb
set_option linter.unusedVariables false
set_option linter.unusedSimpArgs false
set_option maxRecDepth 8000
variable {T : Tab}

inductive Tree where
  | mk (occ : Int) (l : List Tree)
  deriving Inhabited
def Tree.occ : Tree → Int
  | .mk o _ => o
def Tree.l : Tree → List Tree
  | .mk _ l => l
mutual
def encT : Tree → AV
  | .mk o l => .agg [mkI o, .sl .no (encTL l)]
def encTL : List Tree → List AV
  | [] => []
  | x :: xs => encT x :: encTL xs
end
theorem encTL_map (l : List Tree) : encTL l = l.map encT := by
  induction l with
  | nil => rfl
  | cons x xs ih => simp [encTL, ih]
mutual
theorem encT_closed : ∀ (t : Tree), (encT t).closed = true
  | .mk o l => by simp [encT, encTL_closed l]
theorem encTL_closed : ∀ (l : List Tree), AV.closedL (encTL l) = true
  | [] => rfl
  | x :: xs => by simp [encTL, encT_closed x, encTL_closed xs]
end
mutual
theorem encT_strip : ∀ (t : Tree), (encT t).strip = encT t
  | .mk o l => by simp [encT, encTL_strip l]
theorem encTL_strip : ∀ (l : List Tree), AV.stripL (encTL l) = encTL l
  | [] => rfl
  | x :: xs => by simp [encTL, encT_strip x, encTL_strip xs]
end
attribute [simp] encT_closed encTL_closed encT_strip encTL_strip
@[simp] theorem encT_cells (t : Tree) : (encT t).cells = [mkI t.occ, .sl .no (encTL t.l)] := by cases t; simp [encT, Tree.occ, Tree.l]
@[simp] theorem encT_okv (t : Tree) : (encT t).okv = true := by cases t; simp [encT]
@[simp] theorem encT_isAgg (t : Tree) : (encT t).isAgg = true := by cases t; simp [encT]
@[simp] theorem encT_isB (t : Tree) : (encT t).isB = false := by cases t; simp [encT]
theorem encT_eq (t : Tree) : encT t = .agg [mkI t.occ, .sl .no (encTL t.l)] := by cases t; simp [encT, Tree.occ, Tree.l]

/-! ### sets -/
theorem bv64 (a : Nat) (h : a < 9223372036854775808) : (BitVec.ofInt 64 (a : Int)).toNat = a := by simp; omega
theorem or_i64 (a b : Nat) (ha : a < 9223372036854775808) (hb : b < 9223372036854775808) : aBits .or .i64 a b = some (mkI ((a ||| b : Nat) : Int)) := by
  have h : (BitVec.ofInt 64 (a : Int) ||| BitVec.ofInt 64 (b : Int)).toNat = a ||| b := by rw [BitVec.toNat_or, bv64 a ha, bv64 b hb]
  have hlt : a ||| b < 2 ^ 63 := Nat.or_lt_two_pow (by simpa using ha) (by simpa using hb)
  show some (AV.int .i64 (IntKind.wrap .i64 ((BitVec.ofInt 64 (a : Int) ||| BitVec.ofInt 64 (b : Int)).toNat : Int))) = _
  rw [h, wrap_i64, w64_id (by omega) (by simp at hlt; omega)]
theorem and_i64 (a b : Nat) (ha : a < 9223372036854775808) (hb : b < 9223372036854775808) : aBits .and .i64 a b = some (mkI ((a &&& b : Nat) : Int)) := by
  have h : (BitVec.ofInt 64 (a : Int) &&& BitVec.ofInt 64 (b : Int)).toNat = a &&& b := by rw [BitVec.toNat_and, bv64 a ha, bv64 b hb]
  have hlt : a &&& b ≤ a := Nat.and_le_left
  show some (AV.int .i64 (IntKind.wrap .i64 ((BitVec.ofInt 64 (a : Int) &&& BitVec.ofInt 64 (b : Int)).toNat : Int))) = _
  rw [h, wrap_i64, w64_id (by omega) (by omega)]

def mSet : Nat → Tree → Nat × Bool
  | 0, _ => (0, false)
  | d + 1, .mk o [] => (2 ^ (max (o.tmod 4) 0).toNat, decide (0 ≤ o) && decide (o < 4))
  | d + 1, .mk o [a, b] =>
    if o ≠ 0 then (0, false) else ((mSet d a).1 ||| (mSet d b).1, (mSet d a).2 && (mSet d b).2 && (mSet d a).1 &&& (mSet d b).1 == 0)
  | _ + 1, .mk _ _ => (0, false)
theorem tmod4 (o : Int) : o.tmod 4 < 4 := Int.tmod_lt_of_pos o (by decide)
theorem pow_lt16 (o : Int) : 2 ^ (max (o.tmod 4) 0).toNat < 16 := by
  have h := tmod4 o
  have : (max (o.tmod 4) 0).toNat ≤ 3 := by omega
  have := Nat.pow_le_pow_right (n := 2) (by decide) this
  omega
theorem mSet_lt : ∀ (d : Nat) (t : Tree), (mSet d t).1 < 16
  | 0, _ => by simp [mSet]
  | d + 1, .mk o [] => by simp only [mSet]; exact pow_lt16 o
  | d + 1, .mk o [a, b] => by
    simp only [mSet]
    split
    · decide
    · exact Nat.or_lt_two_pow (n := 4) (mSet_lt d a) (mSet_lt d b)
  | d + 1, .mk o [a] => by simp [mSet]
  | d + 1, .mk o (a :: b :: c :: l) => by simp [mSet]

def SetAt (T : Tab) (d : Nat) (t : Tree) : Prop := Ret T 109 [encT t, mkI d] (.tup [mkI (mSet d t).1, .bool (mSet d t).2])
theorem set_zero (hT : Has T) (o : Int) (l : List Tree) : SetAt T 0 (.mk o l) := by
  refine ret_of (by simp) (callW hT L109 rfl ?_)
  simp [F109, mSet]
theorem set_leaf (hT : Has T) (d : Nat) (o : Int) : SetAt T (d + 1) (.mk o []) := by
  refine ret_of (by simp) (callW hT L109 rfl ?_)
  have h1 : ¬ ((d : Int) + 1 = 0) := by omega
  have h2 : min (max (o.tmod 4) 0).toNat 64 = (max (o.tmod 4) 0).toNat := by have := tmod4 o; omega
  have h3 := pow_lt16 o
  have h5 : ¬ max (o.tmod 4) 0 < 0 := by omega
  have h6 : w64 (2 ^ (max (o.tmod 4) 0).toNat) = 2 ^ (max (o.tmod 4) 0).toNat := by
    have : ((2 ^ (max (o.tmod 4) 0).toNat : Nat) : Int) < 16 := by omega
    simp only [Int.natCast_pow] at this
    have h0 : (0 : Int) ≤ 2 ^ (max (o.tmod 4) 0).toNat := Int.pow_nonneg (by decide)
    exact w64_id (by omega) (by simp at this; omega)
  by_cases h4 : 0 ≤ o
  · simp [F109, mSet, encT, encTL, h1, h4, h5, h2, IntKind.bits, h6]
  · simp [F109, mSet, encT, encTL, h1, h4, h5, h2, IntKind.bits, h6]
theorem set_one (hT : Has T) (d : Nat) (o : Int) (a : Tree) : SetAt T (d + 1) (.mk o [a]) := by
  have h1 : ¬ ((d : Int) + 1 = 0) := by omega
  refine ret_of (by simp) (callW hT L109 rfl ?_)
  simp [F109, mSet, encT, encTL, h1]
theorem set_more (hT : Has T) (d : Nat) (o : Int) (a b c : Tree) (l : List Tree) : SetAt T (d + 1) (.mk o (a :: b :: c :: l)) := by
  have h1 : ¬ ((d : Int) + 1 = 0) := by omega
  refine ret_of (by simp) (callW hT L109 rfl ?_)
  have h2 : ¬ (((encTL l).length : Int) + 1 + 1 + 1 = 0) := by omega
  have h3 : ¬ (((encTL l).length : Int) + 1 + 1 + 1 = 2) := by omega
  simp [F109, mSet, encT, encTL, h1, h2, h3]
theorem set_two (hT : Has T) (d : Nat) (o : Int) (a b : Tree) (hd : d + 1 < 1000) (r1 : SetAt T d a) (r2 : SetAt T d b) : SetAt T (d + 1) (.mk o [a, b]) := by
  have h1 : ¬ ((d : Int) + 1 = 0) := by omega
  have q1 := mSet_lt d a
  have q2 := mSet_lt d b
  unfold SetAt Ret at r1 r2
  rw [encT_eq] at r1 r2
  have h6 : w64 (d : Int) = d := w64_id (by omega) (by omega)
  refine ret_of (by simp) (callW hT L109 rfl ?_)
  have e1 := or_i64 (mSet d a).1 (mSet d b).1 (by omega) (by omega)
  have e2 := and_i64 (mSet d a).1 (mSet d b).1 (by omega) (by omega)
  generalize hx : mSet d a = x at *
  generalize hy : mSet d b = y at *
  obtain ⟨x1, x2⟩ := x
  obtain ⟨y1, y2⟩ := y
  by_cases ho : o = 0
  · cases x2 <;> cases y2 <;> simp [F109, mSet, encT, encTL, h1, ho, hT, impL, h6, r1, r2, e1, e2, hx, hy]
    rw [Bool.eq_iff_iff]; simp
  · simp [F109, mSet, encT, encTL, h1, ho]
theorem set_ok (hT : Has T) : ∀ (d : Nat) (t : Tree), d < 1000 → SetAt T d t
  | 0, .mk o l, hd => set_zero hT o l
  | d + 1, .mk o [], hd => set_leaf hT d o
  | d + 1, .mk o [a], hd => set_one hT d o a
  | d + 1, .mk o [a, b], hd => set_two hT d o a b hd (set_ok hT d a (by omega)) (set_ok hT d b (by omega))
  | d + 1, .mk o (a :: b :: c :: l), hd => set_more hT d o a b c l
def mTreeSet (t : Tree) : Nat := if (mSet 4 t).2 then (mSet 4 t).1 else 0
theorem treeSet_ok (hT : Has T) (t : Tree) : Ret T 33 [encT t] (mkI (mTreeSet t)) := by
  have h := set_ok hT 4 t (by omega)
  unfold SetAt Ret at h
  rw [encT_eq] at h
  refine ret_of (by simp) (callW hT L33 rfl ?_)
  cases hx : (mSet 4 t).2 <;> rw [hx] at h <;> simp [F33, hT, impL, h, encT_eq t, hx, mTreeSet] <;> (simp at h; simp [h, hx])
theorem treeMay_ok (hT : Has T) (t : Tree) : Ret T 63 [encT t] (.bool (mSet 4 t).2) := by
  have h := set_ok hT 4 t (by omega)
  unfold SetAt Ret at h
  rw [encT_eq] at h
  refine ret_of (by simp) (callW hT L63 rfl ?_)
  simp [F63, hT, impL, h, encT_eq t]
  simp at h; simp [h]
theorem leaf_ok (hT : Has T) (o : Int) : Ret T 161 [mkI o] (encT (.mk o [])) := by
  refine ret_of (by simp) (callW hT L161 rfl ?_)
  simp [F161, encT, encTL]
theorem join_ok (hT : Has T) (a b : Tree) : Ret T 64 [encT a, encT b] (encT (.mk 0 [a, b])) := by
  refine ret_of (by simp) (callW hT L64 rfl ?_)
  simp [F64, encT, encTL, encT_eq a, encT_eq b]
end Go.Rb

namespace Go.Rb
set_option linter.unusedVariables false
set_option linter.unusedSimpArgs false
set_option maxRecDepth 8000
variable {T : Tab}

inductive Plan where
  | mk (op occ p0 p1 : Int) (l : List Plan)
  deriving Inhabited
namespace Plan
def op : Plan → Int | .mk o _ _ _ _ => o
def occ : Plan → Int | .mk _ o _ _ _ => o
def p0 : Plan → Int | .mk _ _ o _ _ => o
def p1 : Plan → Int | .mk _ _ _ o _ => o
def l : Plan → List Plan | .mk _ _ _ _ l => l
end Plan
mutual
def encP : Plan → AV
  | .mk o c a b l => .agg [mkI o, mkI c, mkI a, mkI b, .sl .no (encPL l)]
def encPL : List Plan → List AV
  | [] => []
  | x :: xs => encP x :: encPL xs
end
theorem encPL_map (l : List Plan) : encPL l = l.map encP := by
  induction l with
  | nil => rfl
  | cons x xs ih => simp [encPL, ih]
mutual
theorem encP_closed : ∀ (t : Plan), (encP t).closed = true
  | .mk o c a b l => by simp [encP, encPL_closed l]
theorem encPL_closed : ∀ (l : List Plan), AV.closedL (encPL l) = true
  | [] => rfl
  | x :: xs => by simp [encPL, encP_closed x, encPL_closed xs]
end
mutual
theorem encP_strip : ∀ (t : Plan), (encP t).strip = encP t
  | .mk o c a b l => by simp [encP, encPL_strip l]
theorem encPL_strip : ∀ (l : List Plan), AV.stripL (encPL l) = encPL l
  | [] => rfl
  | x :: xs => by simp [encPL, encP_strip x, encPL_strip xs]
end
attribute [simp] encP_closed encPL_closed encP_strip encPL_strip
theorem encP_eq (t : Plan) : encP t = .agg [mkI t.op, mkI t.occ, mkI t.p0, mkI t.p1, .sl .no (encPL t.l)] := by cases t; simp [encP, Plan.op, Plan.occ, Plan.p0, Plan.p1, Plan.l]
@[simp] theorem encP_cells (t : Plan) : (encP t).cells = [mkI t.op, mkI t.occ, mkI t.p0, mkI t.p1, .sl .no (encPL t.l)] := by rw [encP_eq]; rfl
@[simp] theorem encP_okv (t : Plan) : (encP t).okv = true := by rw [encP_eq]; rfl
@[simp] theorem encP_isAgg (t : Plan) : (encP t).isAgg = true := by rw [encP_eq]; rfl
@[simp] theorem encP_isB (t : Plan) : (encP t).isB = false := by rw [encP_eq]; rfl
@[simp] theorem encPL_length (l : List Plan) : (encPL l).length = l.length := by rw [encPL_map, List.length_map]

/-! ### how many plans one has; its form -/
def mPlans (p : Plan) : Int := if p.op = 0 then 0 else if p.op = 4 then 1 else 2
theorem plans_ok (hT : Has T) (p : Plan) : Ret T 187 [encP p] (mkI (mPlans p)) := by
  refine ret_of (by simp) (callW hT L187 rfl ?_)
  rw [encP_eq]
  by_cases h0 : p.op = 0
  · simp [F187, h0, mPlans]
  · by_cases h4 : p.op = 4 <;> simp [F187, h0, h4, mPlans]
def mOcc (p : Plan) : Bool := decide (p.op = 0) || decide (p.occ = 0)
def mPair (p : Plan) : Bool := (decide (p.p0 = 0) && decide (p.p1 = 0)) || decide (p.op = 2) || decide (p.op = 3) || (decide (p.op = 4) && decide (p.p1 = 0))
def mForm (p : Plan) : Bool := decide (0 ≤ p.op) && decide (p.op < 5) && decide ((p.l.length : Int) = mPlans p) && mOcc p && mPair p
theorem form_ok (hT : Has T) (p : Plan) : Ret T 106 [encP p] (.bool (mForm p)) := by
  have hp := plans_ok hT p
  unfold Ret at hp
  rw [encP_eq] at hp
  refine ret_of (by simp) (callW hT L106 rfl ?_)
  rw [encP_eq]
  refine wpS_cut (fun e σ => e.get 1 = .box 0 0 ∧ σ = ⟨[encP p], []⟩) (by simp [encP_eq p]) ?_
  rintro e σ ⟨h1, rfl⟩
  refine wpS_cut (fun e σ => e.get 1 = .box 0 0 ∧ e.get 3 = .bool (mOcc p) ∧ σ = ⟨[encP p], []⟩) ?_ ?_
  · by_cases q : p.op = 0
    · simp [h1, q, mOcc]
    · simp [h1, q, mOcc]
  rintro e σ ⟨h1, h3, rfl⟩
  refine wpS_cut (fun e σ => e.get 1 = .box 0 0 ∧ e.get 3 = .bool (mOcc p) ∧ e.get 4 = .bool (mPair p) ∧ σ = ⟨[encP p], []⟩) ?_ ?_
  · by_cases q : p.p0 = 0 ∧ p.p1 = 0
    · simp [h1, h3, q, mPair]
    · have q' : (decide (p.p0 = 0) && decide (p.p1 = 0)) = false := by simpa using q
      by_cases q2 : p.op = 2
      · simp [h1, h3, q', q2, mPair]
      · by_cases q3 : p.op = 3
        · simp [h1, h3, q', q2, q3, mPair]
        · by_cases q4 : p.op = 4
          · simp [h1, h3, q', q2, q3, q4, mPair]
          · simp [h1, h3, q', q2, q3, q4, mPair]
  rintro e σ ⟨h1, h3, h4, rfl⟩
  by_cases q0 : 0 ≤ p.op
  · by_cases q5 : p.op < 5
    · by_cases ql : (p.l.length : Int) = mPlans p
      · cases ho : mOcc p <;> rw [ho] at h3
        · simp [F106, h1, h3, h4, q0, q5, ql, hT, impL, encP_eq p, hp, mForm, ho]
        · simp [F106, h1, h3, h4, q0, q5, ql, hT, impL, encP_eq p, hp, mForm, ho]
      · simp [F106, h1, h3, h4, q0, q5, ql, hT, impL, encP_eq p, hp, mForm]
    · simp [F106, h1, h3, h4, q0, q5, mForm]
  · simp [F106, h1, h3, h4, q0, mForm]
end Go.Rb

namespace Go.Rb
set_option linter.unusedVariables false
set_option linter.unusedSimpArgs false
set_option maxRecDepth 8000
variable {T : Tab}

mutual
theorem closed_under (n : Nat) : ∀ (x : AV), x.closed = true → x.under n = true
  | .undef, _ => rfl
  | .int _ _, _ => rfl
  | .bool _, _ => rfl
  | .str _, _ => rfl
  | .agg cs, h => by simp at h ⊢; exact closedL_under n cs h
  | .tup cs, h => by simp at h ⊢; exact closedL_under n cs h
  | .sl _ cs, h => by simp at h ⊢; exact closedL_under n cs h
  | .box _ _, h => by simp at h
  | .el v, h => by simp at h ⊢; exact closed_under n v h
  | .fn _ a b, h => by simp at h ⊢; exact ⟨closedL_under n a h.1, closedL_under n b h.2⟩
  | .nilfn, _ => rfl
  | .nilp, _ => rfl
  | .nilm, _ => rfl
  | .skp, _ => rfl
  | .bsl .., h => by simp at h
theorem closedL_under (n : Nat) : ∀ (l : List AV), AV.closedL l = true → AV.underL n l = true
  | [], _ => rfl
  | x :: xs, h => by simp at h ⊢; exact ⟨closed_under n x h.1, closedL_under n xs h.2⟩
end
theorem closedL_append {a b : List AV} : AV.closedL (a ++ b) = (AV.closedL a && AV.closedL b) := by simp [closedL_all]
theorem closedL_take {a : List AV} (n : Nat) (h : AV.closedL a = true) : AV.closedL (a.take n) = true := by
  rw [closedL_all, List.all_eq_true] at h ⊢
  intro x hx; exact h x (List.mem_of_mem_take hx)

/-- a state that lies in the caller's variables: what a closure turns -/
structure Lay (S : Type) where
  boxes : S → List AV
  rows : S → List Row
def Lay.st {S : Type} (L : Lay S) (s : S) (extra : List AV) : St := ⟨L.boxes s ++ extra, L.rows s⟩
structure Lay.Ok {S : Type} (L : Lay S) (I : S → Prop) (n : Nat) : Prop where
  closed : ∀ s, I s → AV.closedL (L.boxes s) = true
  len : ∀ s, I s → (L.boxes s).length = n

mutual
def Plan.nodes : Plan → Nat
  | .mk _ _ _ _ l => 1 + Plan.nodesL l
def Plan.nodesL : List Plan → Nat
  | [] => 0
  | x :: xs => x.nodes + Plan.nodesL xs
end
/-- a closure over a plan's part, as a step; I k: k more steps may be taken -/
structure CloP (T : Tab) {S : Type} (L : Lay S) (I : Nat → S → Prop) (J : Plan → Prop) (g : Nat) (fst cap : List AV) (st : Plan → S → Bool × S) : Prop where
  imp : T.imp g = true
  mono : ∀ k s, I (k + 1) s → I k s
  inv : ∀ p k s, I (k + 1) s → I k (st p s).2
  call : ∀ p s extra, J p → I 1 s → AV.closedL extra = true → (lim T).call g (fst ++ encP p :: cap) (L.st s extra) = some (.bool (st p s).1, L.st (st p s).2 extra)

mutual
def mEach {S : Type} (st : Plan → S → Bool × S) : Plan → S → Bool × S
  | .mk o c a b l, s => if (st (.mk o c a b l) s).1 then mEachL st l (st (.mk o c a b l) s).2 else (false, (st (.mk o c a b l) s).2)
def mEachL {S : Type} (st : Plan → S → Bool × S) : List Plan → S → Bool × S
  | [], s => (true, s)
  | x :: xs, s => if (mEach st x s).1 then mEachL st xs (mEach st x s).2 else (false, (mEach st x s).2)
end

def body101 : SCode := match F101.body with
  | .seq _ (.seq _ (.seq (.seq _ (.block _ (.loop _ c))) _)) => c
  | _ => .skip

section
variable {S : Type} {L : Lay S} {I : Nat → S → Prop} {J : Plan → Prop} {n g : Nat} {fst cap : List AV} {st : Plan → S → Bool × S}

theorem CloP.le (C : CloP T L I J g fst cap st) {s : S} : ∀ (d k : Nat), I (k + d) s → I k s
  | 0, k, h => h
  | d + 1, k, h => CloP.le C d k (C.mono _ _ h)
mutual
theorem mEach_inv (C : CloP T L I J g fst cap st) : ∀ (p : Plan) (k : Nat) (s : S), I (p.nodes + k) s → I k (mEach st p s).2
  | .mk o c a b l, k, s, h => by
    simp only [Plan.nodes] at h
    have h1 := C.inv (.mk o c a b l) (Plan.nodesL l + k) s (by rw [show Plan.nodesL l + k + 1 = 1 + Plan.nodesL l + k by omega]; exact h)
    simp only [mEach]
    split
    · exact mEachL_inv C l k _ h1
    · exact C.le (Plan.nodesL l) k (by rw [Nat.add_comm]; exact h1)
theorem mEachL_inv (C : CloP T L I J g fst cap st) : ∀ (l : List Plan) (k : Nat) (s : S), I (Plan.nodesL l + k) s → I k (mEachL st l s).2
  | [], k, s, h => by simpa [Plan.nodesL, mEachL] using h
  | x :: xs, k, s, h => by
    simp only [Plan.nodesL] at h
    have h1 := mEach_inv C x (Plan.nodesL xs + k) s (by rw [← Nat.add_assoc]; exact h)
    simp only [mEachL]
    split
    · exact mEachL_inv C xs k _ h1
    · exact C.le (Plan.nodesL xs) k (by rw [Nat.add_comm]; exact h1)
end

def EachAt (T : Tab) (L : Lay S) (I : Nat → S → Prop) (g : Nat) (fst cap : List AV) (st : Plan → S → Bool × S) (p : Plan) : Prop :=
  ∀ s extra, I p.nodes s → AV.closedL extra = true → (lim T).call 101 [encP p, .fn (.func g) fst cap] (L.st s extra) = some (.bool (mEach st p s).1, L.st (mEach st p s).2 extra)

theorem each_loop (hT : Has T) (O : L.Ok (I 0) n) (C : CloP T L I J g fst cap st) (p : Plan) (extra : List AV) (hex : AV.closedL extra = true) (fl : Nat) : ∀ (l : List Plan), (∀ q ∈ l, EachAt T L I g fst cap st q) → ∀ (i : Nat) (s : S) (e : Env) (more : List AV) (Q : Q3), I (Plan.nodesL l) s → AV.closedL more = true → i + l.length = p.l.length → p.l.drop i = l →
    e.get 1 = .fn (.func g) fst cap → e.get 13 = .sl .no (encPL p.l) → e.get 14 = mkI p.l.length → e.get 15 = mkI i → p.l.length < 9223372036854775808 →
    ((mEachL st l s).1 = true → ∀ e' more', AV.closedL more' = true → Q (.exit 0) e' (L.st (mEachL st l s).2 (extra ++ more'))) →
    ((mEachL st l s).1 = false → ∀ e' more', AV.closedL more' = true → e'.get 4 = .bool false → Q .ret e' (L.st (mEachL st l s).2 (extra ++ more'))) →
    LoopW T fl [1, 13, 14, 15] body101 Q e (L.st s (extra ++ more)) := by
  intro l
  induction l with
  | nil =>
    intro hl i s e more Q hI hm hi hd h1 h13 h14 h15 hlen hQ1 hQ2
    refine loopW_round ?_
    have : i = p.l.length := by simpa using hi
    subst this
    simp [body101, F101, h1, h13, h14, h15]
    exact hQ1 rfl _ more hm
  | cons q l ih =>
    intro hl i s e more Q hI hm hi hd h1 h13 h14 h15 hlen hQ1 hQ2
    have hlt : i < p.l.length := by simp at hi; omega
    have hq : p.l[i] = q := by
      have := List.drop_eq_getElem_cons hlt
      rw [hd] at this; injection this with this _; exact this.symm
    have hq' : (encPL p.l)[i]? = some (encP q) := by rw [encPL_map, List.getElem?_map, List.getElem?_eq_getElem hlt, hq]; rfl
    have hg : ∀ h, (encPL p.l)[i]'h = encP q := by intro h; simp [encPL_map, hq]
    have hd' : p.l.drop (i + 1) = l := by
      have := List.drop_eq_getElem_cons hlt
      rw [hd] at this; injection this with _ this; exact this.symm
    refine loopW_round ?_
    have hI1 : I q.nodes s := C.le (Plan.nodesL l) _ hI
    have hcall := hl q (by simp) s (extra ++ more ++ [encP q]) hI1 (by simp [closedL_append, hex, hm])
    have himp : T.imp 101 = true := by rw [imp_has hT]; rfl
    obtain ⟨A, hA⟩ : ∃ A, A = L.boxes s ++ (extra ++ more) := ⟨_, rfl⟩
    have hst : L.st s (extra ++ more ++ [encP q]) = ⟨A ++ [encP q], L.rows s⟩ := by simp [Lay.st, hA]
    have hst0 : L.st s (extra ++ more) = ⟨A, L.rows s⟩ := by simp [Lay.st, hA]
    have hassoc : L.st (mEach st q s).2 (extra ++ more ++ [encP q]) = L.st (mEach st q s).2 (extra ++ (more ++ [encP q])) := by simp
    obtain ⟨M, hM⟩ : ∃ M, M = more ++ [encP q] := ⟨_, rfl⟩
    have hMc : AV.closedL M = true := by rw [hM]; simp [closedL_append, hm]
    rw [hassoc, hst, ← hM, encP_eq] at hcall
    rw [hst0]
    have hset : ∀ x y : AV, (A ++ [x]).set A.length y = A ++ [y] := by intro x y; simp
    have hw : w64 ((i : Int) + 1) = ((i + 1 : Nat) : Int) := by rw [w64_id (by omega) (by omega)]; simp
    cases hb : (mEach st q s).1 with
    | true =>
      have hm' : mEachL st (q :: l) s = mEachL st l (mEach st q s).2 := by simp only [mEachL, hb, if_true]
      rw [hm'] at hQ1 hQ2
      rw [hb] at hcall
      simp [body101, F101, h1, h13, h14, h15, hlt, hg, encP_eq q, himp, hcall, hset, hw]
      refine ih (fun x hx => hl x (by simp [hx])) (i + 1) _ _ M Q (mEach_inv C q _ s hI) hMc (by simp at hi; omega) hd' ?_ ?_ ?_ ?_ hlen hQ1 hQ2
      all_goals simp [h1, h13, h14]
    | false =>
      have hm' : mEachL st (q :: l) s = (false, (mEach st q s).2) := by simp only [mEachL, hb]; simp
      rw [hm'] at hQ1 hQ2
      rw [hb] at hcall
      simp [body101, F101, h1, h13, h14, h15, hlt, hg, encP_eq q, himp, hcall, hset]
      exact hQ2 rfl _ M hMc (by simp)
/-- a function's end that gives one plain value, its own variables forgotten -/
theorem end_bool {I : S → Prop} (O : L.Ok I n) {s s' : S} {extra more : List AV} (hI : I s) (hI' : I s') (hex : AV.closedL extra = true) (hm : AV.closedL more = true) {e : Env} {t : Nat} {b : Bool} (he : e.get t = .bool b) {x : SExit} (hx : x = .normal ∨ x = .ret) :
    endQ (L.st s extra).boxes.length [.tmp t] (fun v σ' => v = .bool b ∧ σ' = L.st s' extra) x e (L.st s' (extra ++ more)) := by
  have hl : (L.st s extra).boxes.length = (L.boxes s' ++ extra).length := by simp [Lay.st, O.len s hI, O.len s' hI']
  have ht : (L.st s' (extra ++ more)).boxes.take (L.st s extra).boxes.length = L.boxes s' ++ extra := by
    rw [hl]; simp [Lay.st, ← List.append_assoc]
  have hu : AV.underL (L.st s extra).boxes.length (L.boxes s' ++ extra) = true := closedL_under _ _ (by simp [closedL_append, O.closed s' hI', hex])
  rcases hx with rfl | rfl <;> simp only [endQ] <;> refine ⟨[.bool b], by simp [he], ?_⟩ <;> rw [ht, hu] <;> simp [Lay.st]
mutual
/-- no list is longer than a Go slice can be -/
def Plan.Fit : Plan → Prop
  | .mk _ _ _ _ l => l.length < 9223372036854775808 ∧ Plan.FitL l
def Plan.FitL : List Plan → Prop
  | [] => True
  | x :: xs => x.Fit ∧ Plan.FitL xs
end
mutual
/-- all parts are so -/
def Plan.Parts (J : Plan → Prop) : Plan → Prop
  | .mk o c a b l => J (.mk o c a b l) ∧ Plan.PartsL J l
def Plan.PartsL (J : Plan → Prop) : List Plan → Prop
  | [] => True
  | x :: xs => x.Parts J ∧ Plan.PartsL J xs
end
mutual
theorem parts_true : ∀ (p : Plan), p.Parts fun _ => True
  | .mk o c a b l => ⟨trivial, parts_trueL l⟩
theorem parts_trueL : ∀ (l : List Plan), Plan.PartsL (fun _ => True) l
  | [] => trivial
  | x :: xs => ⟨parts_true x, parts_trueL xs⟩
end
theorem eachAt_of (hT : Has T) (O : L.Ok (I 0) n) (C : CloP T L I J g fst cap st) (p : Plan) (hJ : J p) (hlen : p.l.length < 9223372036854775808) (hl : ∀ q ∈ p.l, EachAt T L I g fst cap st q) : EachAt T L I g fst cap st p := by
  intro s extra hI hex
  have hnodes : p.nodes = 1 + Plan.nodesL p.l := by cases p; rfl
  rw [hnodes] at hI
  have hIs : I 1 s := C.le _ _ hI
  have hI0 : I 0 s := C.mono _ _ hIs
  have hIl : I (Plan.nodesL p.l) (st p s).2 := C.inv p _ s (by rw [Nat.add_comm]; exact hI)
  have hw : CallW T 101 [encP p, .fn (.func g) fst cap] (L.st s extra) (fun v σ' => v = .bool (mEach st p s).1 ∧ σ' = L.st (mEach st p s).2 extra) := by
    have hcall := C.call p s (extra ++ [encP p]) hJ hIs (by simp [closedL_append, hex])
    have hst : L.st s (extra ++ [encP p]) = ⟨(L.st s extra).boxes ++ [encP p], (L.st s extra).rows⟩ := by simp [Lay.st]
    have hI2 : I 0 (st p s).2 := C.le (Plan.nodesL p.l) 0 (by rw [Nat.zero_add]; exact hIl)
    rw [hst] at hcall
    refine callW hT L101 rfl ?_
    refine wpS_cut (fun e σ => e.get 1 = .fn (.func g) fst cap ∧ e.get 2 = .box (L.st s extra).boxes.length 0 ∧ σ = ⟨(L.st s extra).boxes ++ [encP p], (L.st s extra).rows⟩) (by simp) ?_
    rintro e σ ⟨h1, h2, rfl⟩
    have hme : mEach st p s = if (st p s).1 then mEachL st p.l (st p s).2 else (false, (st p s).2) := by cases p; simp only [mEach, Plan.l]
    cases hb : (st p s).1 with
    | false =>
      rw [hb] at hcall
      have hme' : mEach st p s = (false, (st p s).2) := by rw [hme, hb]; simp
      rw [encP_eq] at hcall ⊢
      simp [-endQ, h1, h2, C.imp, hcall]
      rw [hme']
      refine end_bool (more := [.agg [mkI p.op, mkI p.occ, mkI p.p0, mkI p.p1, .sl .no (encPL p.l)]]) O hI0 hI2 hex (by simp) ?_ (.inr rfl)
      simp
    | true =>
      rw [hb] at hcall
      have hme' : mEach st p s = mEachL st p.l (st p s).2 := by rw [hme, hb]; simp
      have hI3 : I 0 (mEachL st p.l (st p s).2).2 := mEachL_inv C p.l 0 (st p s).2 hIl
      rw [encP_eq] at hcall ⊢
      have hlb : (L.boxes (st p s).2).length = (L.boxes s).length := by rw [O.len _ hI2, O.len _ hI0]
      have hbx : (L.boxes (st p s).2 ++ (extra ++ [AV.agg [mkI p.op, mkI p.occ, mkI p.p0, mkI p.p1, .sl .no (encPL p.l)]]))[(L.st s extra).boxes.length]? = some (AV.agg [mkI p.op, mkI p.occ, mkI p.p0, mkI p.p1, .sl .no (encPL p.l)]) := by
        have : (L.st s extra).boxes.length = (L.boxes (st p s).2 ++ extra).length := by simp [Lay.st, hlb]
        rw [this, ← List.append_assoc]; simp
      have hb0 : ∀ x : AV, ((L.st s extra).boxes ++ [x])[(L.st s extra).boxes.length]? = some x := by intro x; simp
      have hend := fun {more : List AV} => @end_bool S L n (I 0) O s (mEachL st p.l (st p s).2).2 extra more hI0 hI3 hex
      generalize hN : (L.st s extra).boxes.length = N at *
      have hbx' : (L.st (st p s).2 (extra ++ [AV.agg [mkI p.op, mkI p.occ, mkI p.p0, mkI p.p1, .sl .no (encPL p.l)]])).boxes[N]? = some (AV.agg [mkI p.op, mkI p.occ, mkI p.p0, mkI p.p1, .sl .no (encPL p.l)]) := hbx
      simp [-endQ, h1, h2, C.imp, hcall, hbx', hb0]
      rw [hme']
      refine each_loop hT O C p extra hex N p.l hl 0 (st p s).2 _ [.agg [mkI p.op, mkI p.occ, mkI p.p0, mkI p.p1, .sl .no (encPL p.l)]] _ hIl (by simp) (by simp) (by simp) ?_ ?_ ?_ ?_ hlen ?_ ?_
      · simp [h1]
      · simp
      · simp
      · simp
      · intro hb e' more' hm'
        simp only [blockQ, if_true, thenQ]
        rw [hb]
        exact hend hm' (by simp) (.inr rfl)
      · intro hb e' more' hm' he
        simp only [blockQ, thenQ]
        rw [hb]
        exact hend hm' he (.inr rfl)
  obtain ⟨v, σ', h1, h2, h3⟩ := hw
  rw [h1, h2, h3]
mutual
theorem each_ok (hT : Has T) (O : L.Ok (I 0) n) (C : CloP T L I J g fst cap st) : ∀ (p : Plan), p.Fit → p.Parts J → EachAt T L I g fst cap st p
  | .mk o c a b l, h, hj => by
    simp only [Plan.Fit] at h
    simp only [Plan.Parts] at hj
    exact eachAt_of hT O C (.mk o c a b l) hj.1 h.1 (eachL_ok hT O C l h.2 hj.2)
theorem eachL_ok (hT : Has T) (O : L.Ok (I 0) n) (C : CloP T L I J g fst cap st) : ∀ (l : List Plan), Plan.FitL l → Plan.PartsL J l → ∀ q ∈ l, EachAt T L I g fst cap st q
  | [], _, _ => by simp
  | x :: xs, h, hj => by
    simp only [Plan.FitL] at h
    simp only [Plan.PartsL] at hj
    intro q hq
    rcases List.mem_cons.1 hq with hqx | hq
    · rw [hqx]; exact each_ok hT O C x h.1 hj.1
    · exact eachL_ok hT O C xs h.2 hj.2 q hq
end
end

/-! ### has a plan its form? -/
/-- the closure's step: how many parts there were, and are they few, and of their form? -/
def stFew (p : Plan) (n : Int) : Bool × Int := (decide (w64 (n + 1) ≤ 20) && mForm p, w64 (n + 1))
def layFew (p0 : Plan) : Lay Int := ⟨fun n => [encP p0, mkI n], fun _ => []⟩
theorem layFew_ok (p0 : Plan) : (layFew p0).Ok (fun _ => True) 2 := ⟨fun s _ => by simp [layFew], fun s _ => by simp [layFew]⟩
theorem few1_ok (hT : Has T) (p0 : Plan) : CloP T (layFew p0) (fun _ _ => True) (fun _ => True) 105 [] [.box 1 0] stFew := by
  refine ⟨by rw [imp_has hT]; rfl, fun _ _ _ => trivial, fun _ _ _ _ => trivial, ?_⟩
  intro p n extra _ _ hex
  have hf := form_ok hT p
  unfold Ret at hf
  rw [encP_eq] at hf
  have hw : CallW T 105 [encP p, .box 1 0] ((layFew p0).st n extra) (fun v σ' => v = .bool (stFew p n).1 ∧ σ' = (layFew p0).st (stFew p n).2 extra) := by
    refine callW hT L105 rfl ?_
    rw [encP_eq]
    by_cases hn : w64 (n + 1) ≤ 20
    · simp [-endQ, F105, layFew, Lay.st, stFew, hn, hT, impL, hf]
      exact end_bool (layFew_ok p0) (s := n) (s' := w64 (n + 1)) (more := [_]) (t := 3) trivial trivial hex (by simp) rfl (.inr rfl)
    · simp [-endQ, F105, layFew, Lay.st, stFew, hn, hT, impL, hf]
      exact end_bool (layFew_ok p0) (s := n) (s' := w64 (n + 1)) (more := [_]) (t := 3) trivial trivial hex (by simp) rfl (.inr rfl)
  obtain ⟨v, σ', h1, h2, h3⟩ := hw
  simp only [List.nil_append]
  rw [h1, h2, h3]
def mFew (p : Plan) : Bool := (mEach stFew p 0).1
theorem few_ok (hT : Has T) (p : Plan) (hf : p.Fit) : Ret T 31 [encP p] (.bool (mFew p)) := by
  have h := each_ok hT (layFew_ok p) (few1_ok hT p) p hf (parts_true p) 0 [] trivial (by simp)
  refine ret_of (by simp) (callW hT L31 rfl ?_)
  have hs : (layFew p).st 0 [] = ⟨[encP p, mkI 0], []⟩ := by simp [layFew, Lay.st]
  rw [hs, encP_eq] at h
  rw [encP_eq]
  simp [F31, hT, impL]
  simp [encP_eq, h, mFew]
end Go.Rb

namespace Go.Rb
set_option linter.unusedVariables false
set_option linter.unusedSimpArgs false
set_option maxRecDepth 8000
variable {T : Tab}

mutual
/-- all parts have their form -/
def Plan.AllForm : Plan → Prop
  | .mk o c a b l => mForm (.mk o c a b l) = true ∧ Plan.AllFormL l
def Plan.AllFormL : List Plan → Prop
  | [] => True
  | x :: xs => x.AllForm ∧ Plan.AllFormL xs
end
mutual
theorem few_all : ∀ (p : Plan) (n : Int), (mEach stFew p n).1 = true → p.AllForm
  | .mk o c a b l, n, h => by
    simp only [mEach] at h
    split at h
    · rename_i h1
      simp only [Plan.AllForm]
      refine ⟨?_, few_allL l _ h⟩
      simp only [stFew, Bool.and_eq_true] at h1
      exact h1.2
    · cases h
theorem few_allL : ∀ (l : List Plan) (n : Int), (mEachL stFew l n).1 = true → Plan.AllFormL l
  | [], n, h => trivial
  | x :: xs, n, h => by
    simp only [mEachL] at h
    split at h
    · rename_i h1
      exact ⟨few_all x n h1, few_allL xs _ h⟩
    · cases h
end
theorem form_len {o c a b : Int} {l : List Plan} (h : mForm (.mk o c a b l) = true) : (o = 0 ∧ l = []) ∨ (o = 4 ∧ ∃ x, l = [x]) ∨ (o ≠ 0 ∧ o ≠ 4 ∧ ∃ x y, l = [x, y]) := by
  simp only [mForm, Bool.and_eq_true, decide_eq_true_eq] at h
  have hl := h.1.1.2
  simp only [mPlans, Plan.op, Plan.l] at hl
  replace hl : (l.length : Int) = if o = 0 then 0 else if o = 4 then 1 else 2 := hl
  by_cases h0 : o = 0
  · rw [if_pos h0] at hl
    exact .inl ⟨h0, List.eq_nil_of_length_eq_zero (by omega)⟩
  · rw [if_neg h0] at hl
    by_cases h4 : o = 4
    · rw [if_pos h4] at hl
      refine .inr (.inl ⟨h4, ?_⟩)
      match l, hl with
      | [x], _ => exact ⟨x, rfl⟩
      | [], h => simp at h
      | x :: y :: l, h => simp at h; omega
    · rw [if_neg h4] at hl
      refine .inr (.inr ⟨h0, h4, ?_⟩)
      match l, hl with
      | [x, y], _ => exact ⟨x, y, rfl⟩
      | [], h => simp at h
      | [x], h => simp at h
      | x :: y :: z :: l, h => simp at h; omega

def mTreeOf : Plan → Tree
  | .mk o c _ _ [] => .mk c []
  | .mk o c _ _ [x] => mTreeOf x
  | .mk o c _ _ (x :: y :: _) => .mk 0 [mTreeOf x, mTreeOf y]
theorem treeOf_ok (hT : Has T) : ∀ (p : Plan), p.AllForm → Ret T 104 [encP p] (encT (mTreeOf p))
  | .mk o c a b [], h => by
    rcases form_len h.1 with ⟨rfl, _⟩ | ⟨_, x, h2⟩ | ⟨_, _, x, y, h2⟩
    · have hl := leaf_ok hT c
      unfold Ret at hl
      refine ret_of (by simp) (callW hT L104 rfl ?_)
      simp [F104, encP, encPL, mTreeOf, hT, impL, hl, encT, encTL]
    · cases h2
    · cases h2
  | .mk o c a b [x], h => by
    rcases form_len h.1 with ⟨_, h2⟩ | ⟨rfl, y, h2⟩ | ⟨_, _, y, z, h2⟩
    · cases h2
    · have ih := treeOf_ok hT x h.2.1
      unfold Ret at ih
      rw [encP_eq] at ih
      refine ret_of (by simp) (callW hT L104 rfl ?_)
      simp [F104, encP, encPL, mTreeOf, hT, impL, encP_eq x, ih]
      simp [encT_eq]
    · cases h2
  | .mk o c a b (x :: y :: l), h => by
    rcases form_len h.1 with ⟨_, h2⟩ | ⟨_, z, h2⟩ | ⟨h0, h4, z, z', h2⟩
    · cases h2
    · cases h2
    · have ih1 := treeOf_ok hT x h.2.1
      have ih2 := treeOf_ok hT y h.2.2.1
      have hj := join_ok hT (mTreeOf x) (mTreeOf y)
      unfold Ret at ih1 ih2 hj
      rw [encP_eq] at ih1 ih2
      refine ret_of (by simp) (callW hT L104 rfl ?_)
      simp [F104, encP, encPL, mTreeOf, hT, impL, h0, h4, encP_eq x, encP_eq y, ih1, ih2, hj]
      simp [encT_eq]
def mTree (p : Plan) : Tree × Bool := if mFew p = true ∧ (mSet 4 (mTreeOf p)).2 = true then (mTreeOf p, true) else (.mk 0 [], false)
theorem tree_ok (hT : Has T) (p : Plan) (hf : p.Fit) : Ret T 30 [encP p] (.tup [encT (mTree p).1, .bool (mTree p).2]) := by
  have h1 := few_ok hT p hf
  unfold Ret at h1
  refine ret_of (by simp) (callW hT L30 rfl ?_)
  rw [encP_eq] at h1 ⊢
  cases hm : mFew p with
  | false =>
    rw [hm] at h1
    simp [F30, hT, impL, h1, mTree, hm, encT, encTL]
  | true =>
    rw [hm] at h1
    have h2 := treeOf_ok hT p (few_all p 0 hm)
    have h3 := treeMay_ok hT (mTreeOf p)
    unfold Ret at h2 h3
    rw [encP_eq] at h2
    rw [encT_eq] at h2 h3
    cases hs : (mSet 4 (mTreeOf p)).2 with
    | false =>
      rw [hs] at h3
      simp [F30, hT, impL, h1, h2, h3, mTree, hm, hs, encT, encTL]
    | true =>
      rw [hs] at h3
      simp [F30, hT, impL, h1, h2, h3, mTree, hm, hs]
      simp [encT_eq]

/-! ### the order -/
/-- the leftmost part that is no Nest -/
def mLeft : Plan → Plan
  | .mk o c a b [] => .mk o c a b []
  | .mk o c a b (x :: l) => if o = 1 then mLeft x else .mk o c a b (x :: l)
def mOrder (p : Plan) : Int := if mFew p = true then (if (mLeft p).op = 4 ∨ (mLeft p).op = 3 then (mLeft p).p0 else -1) else -1
def body38 : SCode := match F38.body with
  | .seq _ (.seq _ (.seq (.block _ (.loop _ c)) _)) => c
  | _ => .skip
theorem order_loop (hT : Has T) : ∀ (p : Plan), p.AllForm → ∀ (e : Env) (Q : Q3) (fl : Nat), e.get 1 = .box 0 0 → (∀ e', e'.get 1 = .box 0 0 → Q (.exit 0) e' ⟨[encP (mLeft p)], []⟩) → LoopW T fl [1] body38 Q e ⟨[encP p], []⟩
  | .mk o c a b [], h, e, Q, fl, h1, hQ => by
    rcases form_len h.1 with ⟨rfl, _⟩ | ⟨_, x, h2⟩ | ⟨_, _, x, y, h2⟩
    · refine loopW_round ?_
      simp [body38, F38, h1, encP, encPL]
      simp [mLeft, encP, encPL] at hQ
      exact hQ _ (by simp)
    · cases h2
    · cases h2
  | .mk o c a b (x :: l), h, e, Q, fl, h1, hQ => by
    by_cases ho : o = 1
    · simp only [mLeft, if_pos ho] at hQ
      have ih := order_loop hT x h.2.1
      refine loopW_round ?_
      rw [encP_eq x] at ih
      simp [body38, F38, h1, encP, encPL, ho, encP_eq x]
      refine ih _ Q fl ?_ hQ
      simp
    · simp only [mLeft, if_neg ho] at hQ
      refine loopW_round ?_
      simp [body38, F38, h1, encP, encPL, ho]
      simp [encP, encPL] at hQ
      exact hQ _ (by simp)
theorem order_ok (hT : Has T) (p : Plan) (hf : p.Fit) : Ret T 38 [encP p] (mkI (mOrder p)) := by
  have h1 := few_ok hT p hf
  unfold Ret at h1
  refine ret_of (by simp) (callW hT L38 rfl ?_)
  rw [encP_eq] at h1
  cases hm : mFew p with
  | false =>
    rw [hm] at h1
    rw [encP_eq]
    simp [F38, hT, impL, h1, mOrder, hm]
  | true =>
    rw [hm] at h1
    have hl := order_loop hT p (few_all p 0 hm)
    rw [encP_eq p] at hl ⊢
    simp [F38, hT, impL, h1, hm]
    refine hl _ _ 0 ?_ ?_
    · simp
    intro e' he
    by_cases q4 : (mLeft p).op = 4
    · simp [he, encP_eq, q4, mOrder, hm]
    · by_cases q3 : (mLeft p).op = 3
      · simp [he, encP_eq, q4, q3, mOrder, hm]
      · simp [he, encP_eq, q4, q3, mOrder, hm]
end Go.Rb

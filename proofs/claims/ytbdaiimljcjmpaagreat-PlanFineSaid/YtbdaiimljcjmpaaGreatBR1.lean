/- Closed facts of the program, once for all rows. -/
import Derived.Test.YtbdaiimljcjmpaaGreatRows
import Derived.WalkKit
import Derived.ProofKit
namespace Go.Proofs.YtbdaiimljcjmpaaGreat
set_option linter.unusedVariables false
set_option linter.unusedSimpArgs false
set_option maxRecDepth 100000
theorem own : ownKnob Tryz.prog.godebug = none := by kernel_rfl
theorem laidOut : laidOutB Tryz.prog = true := by kernel_rfl
theorem j_maps : mapsRowed Tryz.prog = true := by kernel_rfl
theorem j_stops : Tryz.prog.stops = [] := by kernel_rfl
theorem j_knobs : Tryz.prog.stopKnobs = [] := by kernel_rfl
theorem j_plain : Tryz.prog.plainKeys = false := by kernel_rfl
theorem j_heard : Tryz.prog.stopsHeard = true := by
  have h : Tryz.prog.funcs.all (fun fn => !fn.norace) = true := by kernel_rfl
  unfold Program.stopsHeard
  rw [Array.all_eq_true] at h ⊢
  intro i hi
  rw [h i hi, Bool.or_true]
/-- the translation's own word, letter by letter -/
def order : List Char := [104, 97, 114, 110, 101, 115, 115, 32, 102, 51, 49, 57, 51, 101, 102, 99, 54, 101, 57, 56, 99, 100, 99, 52, 100, 50, 51, 98, 57, 100, 100, 101, 100, 49, 101, 52, 49, 97, 98, 102, 55, 49, 102, 53, 51,
  101, 98, 98, 49, 97, 53, 48, 48, 56, 97, 102, 50, 50, 99, 99, 52, 101, 52, 56, 52, 100, 100, 55, 100, 97, 49, 101, 32, 99, 117, 116, 32, 97, 116, 32, 114, 111, 97, 100, 98, 111, 111, 107, 47, 114,
  111, 97, 100, 98, 111, 111, 107, 108, 97, 119, 49, 49, 46, 80, 108, 97, 110, 83, 111, 114, 116, 32, 114, 111, 97, 100, 98, 111, 111, 107, 47, 114, 111, 97, 100, 98, 111, 111, 107, 108, 97, 119, 49,
  49, 46, 80, 108, 97, 110, 70, 105, 110, 101, 32, 114, 111, 97, 100, 98, 111, 111, 107, 47, 114, 111, 97, 100, 98, 111, 111, 107, 108, 97, 119, 49, 49, 46, 80, 108, 97, 110, 66, 97, 99, 107, 32, 114,
  111, 97, 100, 98, 111, 111, 107, 47, 114, 111, 97, 100, 98, 111, 111, 107, 108, 97, 119, 49, 49, 46, 80, 108, 97, 110, 84, 101, 108, 108, 115, 32, 114, 111, 97, 100, 98, 111, 111, 107, 47, 114, 111,
  97, 100, 98, 111, 111, 107, 108, 97, 119, 49, 49, 46, 80, 108, 97, 110, 70, 111, 114, 109, 32, 114, 111, 97, 100, 98, 111, 111, 107, 47, 114, 111, 97, 100, 98, 111, 111, 107, 108, 97, 119, 49, 51, 46,
  73, 109, 112, 108, 84, 101, 108, 108, 115, 32, 114, 111, 97, 100, 98, 111, 111, 107, 47, 114, 111, 97, 100, 98, 111, 111, 107, 108, 97, 119, 49, 51, 46, 73, 109, 112, 108, 78, 111, 110, 101, 32, 114,
  111, 97, 100, 98, 111, 111, 107, 47, 114, 111, 97, 100, 98, 111, 111, 107, 108, 97, 119, 49, 51, 46, 73, 109, 112, 108, 84, 119, 111, 32, 114, 111, 97, 100, 98, 111, 111, 107, 47, 114, 111, 97, 100,
  98, 111, 111, 107, 108, 97, 119, 49, 51, 46, 73, 109, 112, 108, 87, 97, 121, 115, 32, 114, 111, 97, 100, 98, 111, 111, 107, 47, 114, 111, 97, 100, 98, 111, 111, 107, 108, 97, 119, 49, 51, 46, 73, 109,
  112, 108, 66, 101, 115, 116, 32, 114, 111, 97, 100, 98, 111, 111, 107, 47, 114, 111, 97, 100, 98, 111, 111, 107, 108, 97, 119, 49, 52, 46, 79, 112, 116, 84, 101, 108, 108, 115, 32, 114, 111, 97, 100,
  98, 111, 111, 107, 47, 114, 111, 97, 100, 98, 111, 111, 107, 108, 97, 119, 49, 52, 46, 79, 112, 116, 84, 114, 101, 101, 32, 114, 111, 97, 100, 98, 111, 111, 107, 47, 114, 111, 97, 100, 98, 111, 111,
  107, 108, 97, 119, 49, 52, 46, 79, 112, 116, 79, 114, 100, 101, 114, 32, 114, 111, 97, 100, 98, 111, 111, 107, 47, 114, 111, 97, 100, 98, 111, 111, 107, 108, 97, 119, 49, 52, 46, 79, 112, 116, 76,
  101, 115, 115, 32, 114, 111, 97, 100, 98, 111, 111, 107, 47, 114, 111, 97, 100, 98, 111, 111, 107, 108, 97, 119, 49, 52, 46, 79, 112, 116, 65, 108, 111, 110, 101, 32, 114, 111, 97, 100, 98, 111, 111,
  107, 47, 114, 111, 97, 100, 98, 111, 111, 107, 108, 97, 119, 49, 52, 46, 79, 112, 116, 66, 101, 115, 116, 32, 114, 111, 97, 100, 98, 111, 111, 107, 47, 114, 111, 97, 100, 98, 111, 111, 107, 108, 97,
  119, 49, 52, 46, 79, 112, 116, 69, 110, 100, 115, 32, 114, 111, 97, 100, 98, 111, 111, 107, 47, 114, 111, 97, 100, 98, 111, 111, 107, 108, 97, 119, 49, 56, 46, 87, 105, 110, 84, 101, 108, 108, 115,
  32, 114, 111, 97, 100, 98, 111, 111, 107, 47, 114, 111, 97, 100, 98, 111, 111, 107, 108, 97, 119, 49, 56, 46, 87, 105, 110, 79, 114, 100, 101, 114, 32, 114, 111, 97, 100, 98, 111, 111, 107, 47, 114,
  111, 97, 100, 98, 111, 111, 107, 108, 97, 119, 49, 56, 46, 87, 105, 110, 77, 111, 114, 101, 32, 114, 111, 97, 100, 98, 111, 111, 107, 47, 114, 111, 97, 100, 98, 111, 111, 107, 108, 97, 119, 49, 56,
  46, 87, 105, 110, 83, 101, 116, 115, 32, 114, 111, 97, 100, 98, 111, 111, 107, 47, 114, 111, 97, 100, 98, 111, 111, 107, 108, 97, 119, 49, 56, 46, 87, 105, 110, 70, 105, 110, 101, 32, 114, 111, 97,
  100, 98, 111, 111, 107, 47, 114, 111, 97, 100, 98, 111, 111, 107, 108, 97, 119, 49, 56, 46, 87, 105, 110, 84, 114, 101, 101, 115, 32, 114, 111, 97, 100, 98, 111, 111, 107, 47, 114, 111, 97, 100, 98,
  111, 111, 107, 108, 97, 119, 49, 56, 46, 87, 105, 110, 79, 112, 116].map Char.ofNat
theorem j_order : Tryz.prog.initOrder.toList = order := by
  have h : Tryz.prog.initOrder = String.ofList order := by kernel_rfl
  rw [h, String.toList_ofList]
theorem j_later : Tryz.prog.laysLater = false := by kernel_rfl
theorem j_refl : Tryz.prog.bearsReflect = false := by kernel_rfl
theorem j_door : Tryz.prog.doorRows = [] := by kernel_rfl
theorem j_fit : Tryz.prog.doorFits [] = true := by
  unfold Program.doorFits
  rw [j_door]
  kernel_rfl
def cutW : List Char := [99, 117, 116].map Char.ofNat
def restW : List (List Char) := (behindMainWord (wordsSigns order)).tail
theorem j_words : behindMainWord (wordsSigns order) = cutW :: restW := by kernel_rfl
theorem j_strip : stripLifts liftWords (cutW :: restW) = ([], cutW :: restW) := by kernel_rfl
theorem j_cut : ((cutW :: restW).head? == some "cut".toList) = true := by kernel_rfl
theorem enter_of {P : Program} {l : List Char} {c : List Char} {rest : List (List Char)} (ho : P.initOrder.toList = l) (hw : behindMainWord (wordsSigns l) = c :: rest) (hs : stripLifts liftWords (c :: rest) = ([], c :: rest)) (hc : ((c :: rest).head? == some "cut".toList) = true) (h1 : P.laysLater = false) (h2 : P.bearsReflect = false) (h3 : P.doorFits [] = true) : P.mayEnter = true := by
  unfold Program.mayEnter
  rw [ho, hw]
  show ((_ || _) || _) = true
  rw [hs]
  show ((_ || _) || ((c :: rest).head? == some "cut".toList && _ && _ && _ && _)) = true
  rw [hc, h1, h2, h3]
  simp
theorem j_enter : Tryz.prog.mayEnter = true := enter_of j_order j_words j_strip j_cut j_later j_refl j_fit
theorem j_lifts : Tryz.prog.liftsFinal = false := by
  unfold Program.liftsFinal Program.headLifts
  rw [j_order]
  kernel_rfl
theorem make_of {P : Program} {l : List Char} {c : List Char} {rest : List (List Char)} (ho : P.initOrder.toList = l) (hw : behindMainWord (wordsSigns l) = c :: rest) (h1 : (c == "gc".toList || c == "spec".toList) = false) (h2 : (c == "cut".toList) = true) : P.make = some .cut := by
  unfold Program.make
  rw [ho, hw]
  show (if (c == "gc".toList || c == "spec".toList) = true then _ else if (c == "cut".toList || _) = true then some Make.cut else _) = _
  rw [h1, h2]
  simp
theorem j_make : Tryz.prog.make = some .cut := make_of j_order j_words (by kernel_rfl) (by kernel_rfl)
end Go.Proofs.YtbdaiimljcjmpaaGreat

/-
  NARROWER THAN 'FOR EVERY INPUT', by the rows' own cells (each row's printed sentence says how): PlanSort: loops · PlanFine: loops · PlanBack: loops · PlanTells: loops · PlanForm: loops · ImplTells: loops · ImplNone: loops · ImplTwo: loops · ImplWays: loops · ImplBest: loops · OptTells: loops · OptTree: loops · OptOrder: loops · OptLess: loops · OptAlone: loops · OptBest: loops · OptEnds: loops · WinTells: loops · WinOrder: loops · WinMore: loops · WinSets: loops · WinFine: loops · WinTrees: loops · WinOpt: loops.
  DERIVED. THE GIVEN ROWS OF THIS SEAT. 24 by the template 'for every input the law returns true; each argument reads behind the call as it read before'; 0 by the template 'total and deterministic' (their statements: YtbdaiimljcjmpaaGreatTotals.lean).
  GIVEN WITH THE SEED: the statements are not yours to turn. If you find one false, say at which input.
  Laid BY PROGRAM, IN A SANDBOX (cutbox-rows.mjs): the forced cells as the released guide's own fill.sh prints them over the translation b91ea6bc361abc70… (all of the seat's roots in one cut). By AI agents, Wed Nov 11 2026. No macro, syntax, notation, axiom, sorry.
-/
import Derived.Test.YtbdaiimljcjmpaaGreatChecked
import GoSem.Claim
import GoSem.ClaimJoined
import GoSem.ClaimMapViews
import Derived.JoinedTies
import Derived.KernelRfl
namespace Go.Proofs.YtbdaiimljcjmpaaGreat
/- THE CELL 'sum', in the pinned program and in every row, IS THE sha256 OF THE DUMP (.gsa) THAT YtbdaiimljcjmpaaGreatProg.lean LOADS. Nothing in Lean hashes anything: it is a label: what it is worth is what the hold of that sum in a sandbox is worth. -/
noncomputable def Tryz.pinned : Pinned := { name := "ytbdaiimljcjmpaagreat", sum := "b91ea6bc361abc702cfdc1606493369cd2b70f3d47ec477d008d0cf32110552c", checked := Tryz.checked }
namespace Rows
def none {H : Type} : Left H := { results := [], args := [] }

/-- 'roadbooklaw11.PlanSort': WHATEVER THE INPUT: true; the input reads as it did. -/
def planSortSpec : ChangeSpec := { name := "planSort", fn := fun _ => fun
  | [d1, d2, d3, d4] => { results := [.lit (.bool true)], args := [d1, d2, d3, d4] }
  | _ => none }
def planSortRow : OpenClaim := { program := "ytbdaiimljcjmpaagreat", sum := "b91ea6bc361abc702cfdc1606493369cd2b70f3d47ec477d008d0cf32110552c", func := "roadbook/roadbooklaw11.PlanSort", spec := "planSort", unfollowed := true, recurses := true, loops := true, plainKeys := false, apart := false }
def PlanSortSaid : Prop := planSortRow.holds Tryz.pinned (OpenSpec.ofChange planSortSpec)

/-- ITS FALSE NEIGHBOUR: 'it returns false'. Refute it at one input. -/
def planSortWrong : ChangeSpec := { name := "planSort", fn := fun _ => fun
  | [d1, d2, d3, d4] => { results := [.lit (.bool false)], args := [d1, d2, d3, d4] }
  | _ => none }
def PlanSortWrongFalsely : Prop := planSortRow.holds Tryz.pinned (OpenSpec.ofChange planSortWrong)

/-- 'roadbooklaw11.PlanFine': WHATEVER THE INPUT: true; the input reads as it did. -/
def planFineSpec : ChangeSpec := { name := "planFine", fn := fun _ => fun
  | [d1, d2, d3] => { results := [.lit (.bool true)], args := [d1, d2, d3] }
  | _ => none }
def planFineRow : OpenClaim := { program := "ytbdaiimljcjmpaagreat", sum := "b91ea6bc361abc702cfdc1606493369cd2b70f3d47ec477d008d0cf32110552c", func := "roadbook/roadbooklaw11.PlanFine", spec := "planFine", unfollowed := true, recurses := true, loops := true, plainKeys := false, apart := false }
def PlanFineSaid : Prop := planFineRow.holds Tryz.pinned (OpenSpec.ofChange planFineSpec)

/-- ITS FALSE NEIGHBOUR: 'it returns false'. Refute it at one input. -/
def planFineWrong : ChangeSpec := { name := "planFine", fn := fun _ => fun
  | [d1, d2, d3] => { results := [.lit (.bool false)], args := [d1, d2, d3] }
  | _ => none }
def PlanFineWrongFalsely : Prop := planFineRow.holds Tryz.pinned (OpenSpec.ofChange planFineWrong)

/-- 'roadbooklaw11.PlanBack': WHATEVER THE INPUT: true; the input reads as it did. -/
def planBackSpec : ChangeSpec := { name := "planBack", fn := fun _ => fun
  | [d1, d2, d3] => { results := [.lit (.bool true)], args := [d1, d2, d3] }
  | _ => none }
def planBackRow : OpenClaim := { program := "ytbdaiimljcjmpaagreat", sum := "b91ea6bc361abc702cfdc1606493369cd2b70f3d47ec477d008d0cf32110552c", func := "roadbook/roadbooklaw11.PlanBack", spec := "planBack", unfollowed := true, recurses := true, loops := true, plainKeys := false, apart := false }
def PlanBackSaid : Prop := planBackRow.holds Tryz.pinned (OpenSpec.ofChange planBackSpec)

/-- ITS FALSE NEIGHBOUR: 'it returns false'. Refute it at one input. -/
def planBackWrong : ChangeSpec := { name := "planBack", fn := fun _ => fun
  | [d1, d2, d3] => { results := [.lit (.bool false)], args := [d1, d2, d3] }
  | _ => none }
def PlanBackWrongFalsely : Prop := planBackRow.holds Tryz.pinned (OpenSpec.ofChange planBackWrong)

/-- 'roadbooklaw11.PlanTells': WHATEVER THE INPUT: true; the input reads as it did. -/
def planTellsSpec : ChangeSpec := { name := "planTells", fn := fun _ => fun
  | [d1, d2, d3, d4] => { results := [.lit (.bool true)], args := [d1, d2, d3, d4] }
  | _ => none }
def planTellsRow : OpenClaim := { program := "ytbdaiimljcjmpaagreat", sum := "b91ea6bc361abc702cfdc1606493369cd2b70f3d47ec477d008d0cf32110552c", func := "roadbook/roadbooklaw11.PlanTells", spec := "planTells", unfollowed := true, recurses := true, loops := true, plainKeys := false, apart := false }
def PlanTellsSaid : Prop := planTellsRow.holds Tryz.pinned (OpenSpec.ofChange planTellsSpec)

/-- ITS FALSE NEIGHBOUR: 'it returns false'. Refute it at one input. -/
def planTellsWrong : ChangeSpec := { name := "planTells", fn := fun _ => fun
  | [d1, d2, d3, d4] => { results := [.lit (.bool false)], args := [d1, d2, d3, d4] }
  | _ => none }
def PlanTellsWrongFalsely : Prop := planTellsRow.holds Tryz.pinned (OpenSpec.ofChange planTellsWrong)

/-- 'roadbooklaw11.PlanForm': WHATEVER THE INPUT: true; the input reads as it did. -/
def planFormSpec : ChangeSpec := { name := "planForm", fn := fun _ => fun
  | [d1, d2, d3, d4] => { results := [.lit (.bool true)], args := [d1, d2, d3, d4] }
  | _ => none }
def planFormRow : OpenClaim := { program := "ytbdaiimljcjmpaagreat", sum := "b91ea6bc361abc702cfdc1606493369cd2b70f3d47ec477d008d0cf32110552c", func := "roadbook/roadbooklaw11.PlanForm", spec := "planForm", unfollowed := true, recurses := true, loops := true, plainKeys := false, apart := false }
def PlanFormSaid : Prop := planFormRow.holds Tryz.pinned (OpenSpec.ofChange planFormSpec)

/-- ITS FALSE NEIGHBOUR: 'it returns false'. Refute it at one input. -/
def planFormWrong : ChangeSpec := { name := "planForm", fn := fun _ => fun
  | [d1, d2, d3, d4] => { results := [.lit (.bool false)], args := [d1, d2, d3, d4] }
  | _ => none }
def PlanFormWrongFalsely : Prop := planFormRow.holds Tryz.pinned (OpenSpec.ofChange planFormWrong)

/-- 'roadbooklaw13.ImplTells': WHATEVER THE INPUT: true; the input reads as it did. -/
def implTellsSpec : ChangeSpec := { name := "implTells", fn := fun _ => fun
  | [d1, d2, d3, d4, d5, d6] => { results := [.lit (.bool true)], args := [d1, d2, d3, d4, d5, d6] }
  | _ => none }
def implTellsRow : OpenClaim := { program := "ytbdaiimljcjmpaagreat", sum := "b91ea6bc361abc702cfdc1606493369cd2b70f3d47ec477d008d0cf32110552c", func := "roadbook/roadbooklaw13.ImplTells", spec := "implTells", unfollowed := true, recurses := true, loops := true, plainKeys := false, apart := false }
def ImplTellsSaid : Prop := implTellsRow.holds Tryz.pinned (OpenSpec.ofChange implTellsSpec)

/-- ITS FALSE NEIGHBOUR: 'it returns false'. Refute it at one input. -/
def implTellsWrong : ChangeSpec := { name := "implTells", fn := fun _ => fun
  | [d1, d2, d3, d4, d5, d6] => { results := [.lit (.bool false)], args := [d1, d2, d3, d4, d5, d6] }
  | _ => none }
def ImplTellsWrongFalsely : Prop := implTellsRow.holds Tryz.pinned (OpenSpec.ofChange implTellsWrong)

/-- 'roadbooklaw13.ImplNone': WHATEVER THE INPUT: true; the input reads as it did. -/
def implNoneSpec : ChangeSpec := { name := "implNone", fn := fun _ => fun
  | [d1, d2, d3, d4] => { results := [.lit (.bool true)], args := [d1, d2, d3, d4] }
  | _ => none }
def implNoneRow : OpenClaim := { program := "ytbdaiimljcjmpaagreat", sum := "b91ea6bc361abc702cfdc1606493369cd2b70f3d47ec477d008d0cf32110552c", func := "roadbook/roadbooklaw13.ImplNone", spec := "implNone", unfollowed := true, recurses := true, loops := true, plainKeys := false, apart := false }
def ImplNoneSaid : Prop := implNoneRow.holds Tryz.pinned (OpenSpec.ofChange implNoneSpec)

/-- ITS FALSE NEIGHBOUR: 'it returns false'. Refute it at one input. -/
def implNoneWrong : ChangeSpec := { name := "implNone", fn := fun _ => fun
  | [d1, d2, d3, d4] => { results := [.lit (.bool false)], args := [d1, d2, d3, d4] }
  | _ => none }
def ImplNoneWrongFalsely : Prop := implNoneRow.holds Tryz.pinned (OpenSpec.ofChange implNoneWrong)

/-- 'roadbooklaw13.ImplTwo': WHATEVER THE INPUT: true; the input reads as it did. -/
def implTwoSpec : ChangeSpec := { name := "implTwo", fn := fun _ => fun
  | [d1, d2, d3, d4] => { results := [.lit (.bool true)], args := [d1, d2, d3, d4] }
  | _ => none }
def implTwoRow : OpenClaim := { program := "ytbdaiimljcjmpaagreat", sum := "b91ea6bc361abc702cfdc1606493369cd2b70f3d47ec477d008d0cf32110552c", func := "roadbook/roadbooklaw13.ImplTwo", spec := "implTwo", unfollowed := true, recurses := true, loops := true, plainKeys := false, apart := false }
def ImplTwoSaid : Prop := implTwoRow.holds Tryz.pinned (OpenSpec.ofChange implTwoSpec)

/-- ITS FALSE NEIGHBOUR: 'it returns false'. Refute it at one input. -/
def implTwoWrong : ChangeSpec := { name := "implTwo", fn := fun _ => fun
  | [d1, d2, d3, d4] => { results := [.lit (.bool false)], args := [d1, d2, d3, d4] }
  | _ => none }
def ImplTwoWrongFalsely : Prop := implTwoRow.holds Tryz.pinned (OpenSpec.ofChange implTwoWrong)

/-- 'roadbooklaw13.ImplWays': WHATEVER THE INPUT: true; the input reads as it did. -/
def implWaysSpec : ChangeSpec := { name := "implWays", fn := fun _ => fun
  | [d1, d2, d3, d4, d5] => { results := [.lit (.bool true)], args := [d1, d2, d3, d4, d5] }
  | _ => none }
def implWaysRow : OpenClaim := { program := "ytbdaiimljcjmpaagreat", sum := "b91ea6bc361abc702cfdc1606493369cd2b70f3d47ec477d008d0cf32110552c", func := "roadbook/roadbooklaw13.ImplWays", spec := "implWays", unfollowed := true, recurses := true, loops := true, plainKeys := false, apart := false }
def ImplWaysSaid : Prop := implWaysRow.holds Tryz.pinned (OpenSpec.ofChange implWaysSpec)

/-- ITS FALSE NEIGHBOUR: 'it returns false'. Refute it at one input. -/
def implWaysWrong : ChangeSpec := { name := "implWays", fn := fun _ => fun
  | [d1, d2, d3, d4, d5] => { results := [.lit (.bool false)], args := [d1, d2, d3, d4, d5] }
  | _ => none }
def ImplWaysWrongFalsely : Prop := implWaysRow.holds Tryz.pinned (OpenSpec.ofChange implWaysWrong)

/-- 'roadbooklaw13.ImplBest': WHATEVER THE INPUT: true; the input reads as it did. -/
def implBestSpec : ChangeSpec := { name := "implBest", fn := fun _ => fun
  | [d1, d2, d3, d4, d5] => { results := [.lit (.bool true)], args := [d1, d2, d3, d4, d5] }
  | _ => none }
def implBestRow : OpenClaim := { program := "ytbdaiimljcjmpaagreat", sum := "b91ea6bc361abc702cfdc1606493369cd2b70f3d47ec477d008d0cf32110552c", func := "roadbook/roadbooklaw13.ImplBest", spec := "implBest", unfollowed := true, recurses := true, loops := true, plainKeys := false, apart := false }
def ImplBestSaid : Prop := implBestRow.holds Tryz.pinned (OpenSpec.ofChange implBestSpec)

/-- ITS FALSE NEIGHBOUR: 'it returns false'. Refute it at one input. -/
def implBestWrong : ChangeSpec := { name := "implBest", fn := fun _ => fun
  | [d1, d2, d3, d4, d5] => { results := [.lit (.bool false)], args := [d1, d2, d3, d4, d5] }
  | _ => none }
def ImplBestWrongFalsely : Prop := implBestRow.holds Tryz.pinned (OpenSpec.ofChange implBestWrong)

/-- 'roadbooklaw14.OptTells': WHATEVER THE INPUT: true; the input reads as it did. -/
def optTellsSpec : ChangeSpec := { name := "optTells", fn := fun _ => fun
  | [d1, d2, d3] => { results := [.lit (.bool true)], args := [d1, d2, d3] }
  | _ => none }
def optTellsRow : OpenClaim := { program := "ytbdaiimljcjmpaagreat", sum := "b91ea6bc361abc702cfdc1606493369cd2b70f3d47ec477d008d0cf32110552c", func := "roadbook/roadbooklaw14.OptTells", spec := "optTells", unfollowed := true, recurses := true, loops := true, plainKeys := false, apart := false }
def OptTellsSaid : Prop := optTellsRow.holds Tryz.pinned (OpenSpec.ofChange optTellsSpec)

/-- ITS FALSE NEIGHBOUR: 'it returns false'. Refute it at one input. -/
def optTellsWrong : ChangeSpec := { name := "optTells", fn := fun _ => fun
  | [d1, d2, d3] => { results := [.lit (.bool false)], args := [d1, d2, d3] }
  | _ => none }
def OptTellsWrongFalsely : Prop := optTellsRow.holds Tryz.pinned (OpenSpec.ofChange optTellsWrong)

/-- 'roadbooklaw14.OptTree': WHATEVER THE INPUT: true; the input reads as it did. -/
def optTreeSpec : ChangeSpec := { name := "optTree", fn := fun _ => fun
  | [d1, d2, d3] => { results := [.lit (.bool true)], args := [d1, d2, d3] }
  | _ => none }
def optTreeRow : OpenClaim := { program := "ytbdaiimljcjmpaagreat", sum := "b91ea6bc361abc702cfdc1606493369cd2b70f3d47ec477d008d0cf32110552c", func := "roadbook/roadbooklaw14.OptTree", spec := "optTree", unfollowed := true, recurses := true, loops := true, plainKeys := false, apart := false }
def OptTreeSaid : Prop := optTreeRow.holds Tryz.pinned (OpenSpec.ofChange optTreeSpec)

/-- ITS FALSE NEIGHBOUR: 'it returns false'. Refute it at one input. -/
def optTreeWrong : ChangeSpec := { name := "optTree", fn := fun _ => fun
  | [d1, d2, d3] => { results := [.lit (.bool false)], args := [d1, d2, d3] }
  | _ => none }
def OptTreeWrongFalsely : Prop := optTreeRow.holds Tryz.pinned (OpenSpec.ofChange optTreeWrong)

/-- 'roadbooklaw14.OptOrder': WHATEVER THE INPUT: true; the input reads as it did. -/
def optOrderSpec : ChangeSpec := { name := "optOrder", fn := fun _ => fun
  | [d1, d2] => { results := [.lit (.bool true)], args := [d1, d2] }
  | _ => none }
def optOrderRow : OpenClaim := { program := "ytbdaiimljcjmpaagreat", sum := "b91ea6bc361abc702cfdc1606493369cd2b70f3d47ec477d008d0cf32110552c", func := "roadbook/roadbooklaw14.OptOrder", spec := "optOrder", unfollowed := true, recurses := true, loops := true, plainKeys := false, apart := false }
def OptOrderSaid : Prop := optOrderRow.holds Tryz.pinned (OpenSpec.ofChange optOrderSpec)

/-- ITS FALSE NEIGHBOUR: 'it returns false'. Refute it at one input. -/
def optOrderWrong : ChangeSpec := { name := "optOrder", fn := fun _ => fun
  | [d1, d2] => { results := [.lit (.bool false)], args := [d1, d2] }
  | _ => none }
def OptOrderWrongFalsely : Prop := optOrderRow.holds Tryz.pinned (OpenSpec.ofChange optOrderWrong)

/-- 'roadbooklaw14.OptLess': WHATEVER THE INPUT: true; the input reads as it did. -/
def optLessSpec : ChangeSpec := { name := "optLess", fn := fun _ => fun
  | [d1, d2, d3, d4] => { results := [.lit (.bool true)], args := [d1, d2, d3, d4] }
  | _ => none }
def optLessRow : OpenClaim := { program := "ytbdaiimljcjmpaagreat", sum := "b91ea6bc361abc702cfdc1606493369cd2b70f3d47ec477d008d0cf32110552c", func := "roadbook/roadbooklaw14.OptLess", spec := "optLess", unfollowed := true, recurses := true, loops := true, plainKeys := false, apart := false }
def OptLessSaid : Prop := optLessRow.holds Tryz.pinned (OpenSpec.ofChange optLessSpec)

/-- ITS FALSE NEIGHBOUR: 'it returns false'. Refute it at one input. -/
def optLessWrong : ChangeSpec := { name := "optLess", fn := fun _ => fun
  | [d1, d2, d3, d4] => { results := [.lit (.bool false)], args := [d1, d2, d3, d4] }
  | _ => none }
def OptLessWrongFalsely : Prop := optLessRow.holds Tryz.pinned (OpenSpec.ofChange optLessWrong)

/-- 'roadbooklaw14.OptAlone': WHATEVER THE INPUT: true; the input reads as it did. -/
def optAloneSpec : ChangeSpec := { name := "optAlone", fn := fun _ => fun
  | [d1, d2] => { results := [.lit (.bool true)], args := [d1, d2] }
  | _ => none }
def optAloneRow : OpenClaim := { program := "ytbdaiimljcjmpaagreat", sum := "b91ea6bc361abc702cfdc1606493369cd2b70f3d47ec477d008d0cf32110552c", func := "roadbook/roadbooklaw14.OptAlone", spec := "optAlone", unfollowed := true, recurses := true, loops := true, plainKeys := false, apart := false }
def OptAloneSaid : Prop := optAloneRow.holds Tryz.pinned (OpenSpec.ofChange optAloneSpec)

/-- ITS FALSE NEIGHBOUR: 'it returns false'. Refute it at one input. -/
def optAloneWrong : ChangeSpec := { name := "optAlone", fn := fun _ => fun
  | [d1, d2] => { results := [.lit (.bool false)], args := [d1, d2] }
  | _ => none }
def OptAloneWrongFalsely : Prop := optAloneRow.holds Tryz.pinned (OpenSpec.ofChange optAloneWrong)

/-- 'roadbooklaw14.OptBest': WHATEVER THE INPUT: true; the input reads as it did. -/
def optBestSpec : ChangeSpec := { name := "optBest", fn := fun _ => fun
  | [d1, d2, d3] => { results := [.lit (.bool true)], args := [d1, d2, d3] }
  | _ => none }
def optBestRow : OpenClaim := { program := "ytbdaiimljcjmpaagreat", sum := "b91ea6bc361abc702cfdc1606493369cd2b70f3d47ec477d008d0cf32110552c", func := "roadbook/roadbooklaw14.OptBest", spec := "optBest", unfollowed := true, recurses := true, loops := true, plainKeys := false, apart := false }
def OptBestSaid : Prop := optBestRow.holds Tryz.pinned (OpenSpec.ofChange optBestSpec)

/-- ITS FALSE NEIGHBOUR: 'it returns false'. Refute it at one input. -/
def optBestWrong : ChangeSpec := { name := "optBest", fn := fun _ => fun
  | [d1, d2, d3] => { results := [.lit (.bool false)], args := [d1, d2, d3] }
  | _ => none }
def OptBestWrongFalsely : Prop := optBestRow.holds Tryz.pinned (OpenSpec.ofChange optBestWrong)

/-- 'roadbooklaw14.OptEnds': WHATEVER THE INPUT: true; the input reads as it did. -/
def optEndsSpec : ChangeSpec := { name := "optEnds", fn := fun _ => fun
  | [d1, d2, d3] => { results := [.lit (.bool true)], args := [d1, d2, d3] }
  | _ => none }
def optEndsRow : OpenClaim := { program := "ytbdaiimljcjmpaagreat", sum := "b91ea6bc361abc702cfdc1606493369cd2b70f3d47ec477d008d0cf32110552c", func := "roadbook/roadbooklaw14.OptEnds", spec := "optEnds", unfollowed := true, recurses := true, loops := true, plainKeys := false, apart := false }
def OptEndsSaid : Prop := optEndsRow.holds Tryz.pinned (OpenSpec.ofChange optEndsSpec)

/-- ITS FALSE NEIGHBOUR: 'it returns false'. Refute it at one input. -/
def optEndsWrong : ChangeSpec := { name := "optEnds", fn := fun _ => fun
  | [d1, d2, d3] => { results := [.lit (.bool false)], args := [d1, d2, d3] }
  | _ => none }
def OptEndsWrongFalsely : Prop := optEndsRow.holds Tryz.pinned (OpenSpec.ofChange optEndsWrong)

/-- 'roadbooklaw18.WinTells': WHATEVER THE INPUT: true; the input reads as it did. -/
def winTellsSpec : ChangeSpec := { name := "winTells", fn := fun _ => fun
  | [d1, d2, d3, d4, d5] => { results := [.lit (.bool true)], args := [d1, d2, d3, d4, d5] }
  | _ => none }
def winTellsRow : OpenClaim := { program := "ytbdaiimljcjmpaagreat", sum := "b91ea6bc361abc702cfdc1606493369cd2b70f3d47ec477d008d0cf32110552c", func := "roadbook/roadbooklaw18.WinTells", spec := "winTells", unfollowed := true, recurses := true, loops := true, plainKeys := false, apart := false }
def WinTellsSaid : Prop := winTellsRow.holds Tryz.pinned (OpenSpec.ofChange winTellsSpec)

/-- ITS FALSE NEIGHBOUR: 'it returns false'. Refute it at one input. -/
def winTellsWrong : ChangeSpec := { name := "winTells", fn := fun _ => fun
  | [d1, d2, d3, d4, d5] => { results := [.lit (.bool false)], args := [d1, d2, d3, d4, d5] }
  | _ => none }
def WinTellsWrongFalsely : Prop := winTellsRow.holds Tryz.pinned (OpenSpec.ofChange winTellsWrong)

/-- 'roadbooklaw18.WinOrder': WHATEVER THE INPUT: true; the input reads as it did. -/
def winOrderSpec : ChangeSpec := { name := "winOrder", fn := fun _ => fun
  | [d1, d2, d3, d4, d5] => { results := [.lit (.bool true)], args := [d1, d2, d3, d4, d5] }
  | _ => none }
def winOrderRow : OpenClaim := { program := "ytbdaiimljcjmpaagreat", sum := "b91ea6bc361abc702cfdc1606493369cd2b70f3d47ec477d008d0cf32110552c", func := "roadbook/roadbooklaw18.WinOrder", spec := "winOrder", unfollowed := true, recurses := true, loops := true, plainKeys := false, apart := false }
def WinOrderSaid : Prop := winOrderRow.holds Tryz.pinned (OpenSpec.ofChange winOrderSpec)

/-- ITS FALSE NEIGHBOUR: 'it returns false'. Refute it at one input. -/
def winOrderWrong : ChangeSpec := { name := "winOrder", fn := fun _ => fun
  | [d1, d2, d3, d4, d5] => { results := [.lit (.bool false)], args := [d1, d2, d3, d4, d5] }
  | _ => none }
def WinOrderWrongFalsely : Prop := winOrderRow.holds Tryz.pinned (OpenSpec.ofChange winOrderWrong)

/-- 'roadbooklaw18.WinMore': WHATEVER THE INPUT: true; the input reads as it did. -/
def winMoreSpec : ChangeSpec := { name := "winMore", fn := fun _ => fun
  | [d1, d2, d3, d4, d5, d6] => { results := [.lit (.bool true)], args := [d1, d2, d3, d4, d5, d6] }
  | _ => none }
def winMoreRow : OpenClaim := { program := "ytbdaiimljcjmpaagreat", sum := "b91ea6bc361abc702cfdc1606493369cd2b70f3d47ec477d008d0cf32110552c", func := "roadbook/roadbooklaw18.WinMore", spec := "winMore", unfollowed := true, recurses := true, loops := true, plainKeys := false, apart := false }
def WinMoreSaid : Prop := winMoreRow.holds Tryz.pinned (OpenSpec.ofChange winMoreSpec)

/-- ITS FALSE NEIGHBOUR: 'it returns false'. Refute it at one input. -/
def winMoreWrong : ChangeSpec := { name := "winMore", fn := fun _ => fun
  | [d1, d2, d3, d4, d5, d6] => { results := [.lit (.bool false)], args := [d1, d2, d3, d4, d5, d6] }
  | _ => none }
def WinMoreWrongFalsely : Prop := winMoreRow.holds Tryz.pinned (OpenSpec.ofChange winMoreWrong)

/-- 'roadbooklaw18.WinSets': WHATEVER THE INPUT: true; the input reads as it did. -/
def winSetsSpec : ChangeSpec := { name := "winSets", fn := fun _ => fun
  | [d1, d2, d3, d4] => { results := [.lit (.bool true)], args := [d1, d2, d3, d4] }
  | _ => none }
def winSetsRow : OpenClaim := { program := "ytbdaiimljcjmpaagreat", sum := "b91ea6bc361abc702cfdc1606493369cd2b70f3d47ec477d008d0cf32110552c", func := "roadbook/roadbooklaw18.WinSets", spec := "winSets", unfollowed := true, recurses := true, loops := true, plainKeys := false, apart := false }
def WinSetsSaid : Prop := winSetsRow.holds Tryz.pinned (OpenSpec.ofChange winSetsSpec)

/-- ITS FALSE NEIGHBOUR: 'it returns false'. Refute it at one input. -/
def winSetsWrong : ChangeSpec := { name := "winSets", fn := fun _ => fun
  | [d1, d2, d3, d4] => { results := [.lit (.bool false)], args := [d1, d2, d3, d4] }
  | _ => none }
def WinSetsWrongFalsely : Prop := winSetsRow.holds Tryz.pinned (OpenSpec.ofChange winSetsWrong)

/-- 'roadbooklaw18.WinFine': WHATEVER THE INPUT: true; the input reads as it did. -/
def winFineSpec : ChangeSpec := { name := "winFine", fn := fun _ => fun
  | [d1, d2, d3, d4, d5] => { results := [.lit (.bool true)], args := [d1, d2, d3, d4, d5] }
  | _ => none }
def winFineRow : OpenClaim := { program := "ytbdaiimljcjmpaagreat", sum := "b91ea6bc361abc702cfdc1606493369cd2b70f3d47ec477d008d0cf32110552c", func := "roadbook/roadbooklaw18.WinFine", spec := "winFine", unfollowed := true, recurses := true, loops := true, plainKeys := false, apart := false }
def WinFineSaid : Prop := winFineRow.holds Tryz.pinned (OpenSpec.ofChange winFineSpec)

/-- ITS FALSE NEIGHBOUR: 'it returns false'. Refute it at one input. -/
def winFineWrong : ChangeSpec := { name := "winFine", fn := fun _ => fun
  | [d1, d2, d3, d4, d5] => { results := [.lit (.bool false)], args := [d1, d2, d3, d4, d5] }
  | _ => none }
def WinFineWrongFalsely : Prop := winFineRow.holds Tryz.pinned (OpenSpec.ofChange winFineWrong)

/-- 'roadbooklaw18.WinTrees': WHATEVER THE INPUT: true; the input reads as it did. -/
def winTreesSpec : ChangeSpec := { name := "winTrees", fn := fun _ => fun
  | [d1, d2, d3, d4, d5] => { results := [.lit (.bool true)], args := [d1, d2, d3, d4, d5] }
  | _ => none }
def winTreesRow : OpenClaim := { program := "ytbdaiimljcjmpaagreat", sum := "b91ea6bc361abc702cfdc1606493369cd2b70f3d47ec477d008d0cf32110552c", func := "roadbook/roadbooklaw18.WinTrees", spec := "winTrees", unfollowed := true, recurses := true, loops := true, plainKeys := false, apart := false }
def WinTreesSaid : Prop := winTreesRow.holds Tryz.pinned (OpenSpec.ofChange winTreesSpec)

/-- ITS FALSE NEIGHBOUR: 'it returns false'. Refute it at one input. -/
def winTreesWrong : ChangeSpec := { name := "winTrees", fn := fun _ => fun
  | [d1, d2, d3, d4, d5] => { results := [.lit (.bool false)], args := [d1, d2, d3, d4, d5] }
  | _ => none }
def WinTreesWrongFalsely : Prop := winTreesRow.holds Tryz.pinned (OpenSpec.ofChange winTreesWrong)

/-- 'roadbooklaw18.WinOpt': WHATEVER THE INPUT: true; the input reads as it did. -/
def winOptSpec : ChangeSpec := { name := "winOpt", fn := fun _ => fun
  | [d1, d2, d3] => { results := [.lit (.bool true)], args := [d1, d2, d3] }
  | _ => none }
def winOptRow : OpenClaim := { program := "ytbdaiimljcjmpaagreat", sum := "b91ea6bc361abc702cfdc1606493369cd2b70f3d47ec477d008d0cf32110552c", func := "roadbook/roadbooklaw18.WinOpt", spec := "winOpt", unfollowed := true, recurses := true, loops := true, plainKeys := false, apart := false }
def WinOptSaid : Prop := winOptRow.holds Tryz.pinned (OpenSpec.ofChange winOptSpec)

/-- ITS FALSE NEIGHBOUR: 'it returns false'. Refute it at one input. -/
def winOptWrong : ChangeSpec := { name := "winOpt", fn := fun _ => fun
  | [d1, d2, d3] => { results := [.lit (.bool false)], args := [d1, d2, d3] }
  | _ => none }
def WinOptWrongFalsely : Prop := winOptRow.holds Tryz.pinned (OpenSpec.ofChange winOptWrong)

/- THE SECOND FORM. 'bulk': how many values and letters a reading holds, each counted each time it is reached (what is shared counts as often as it is met; a slice's spare places count too). A statement '..UptoSaid' is the law's where the arguments, and the package variables that the reading takes, are together of bulk at most 1048576: NARROWER than '..Said'. Prove '..Said' where nothing that the law and all that it calls make is longer than what came in: it says more and counts as full. Else prove '..UptoSaid'. A law counts once. -/
mutual
def uptoBulk {H : Type} : DataW H → Nat
  | .lit (.string bytes) => bytes.length + 1
  | .lit _ => 1
  | .nil => 1
  | .ptr d => uptoBulk d + 1
  | .slice elems spare => uptoBulkAll elems + uptoBulkAll spare + 1
  | .agg parts => uptoBulkAll parts + 1
  | .iface _ d => uptoBulk d + 1
  | .map entries => uptoBulkEntries entries + 1
  | .held _ => 1
def uptoBulkAll {H : Type} : List (DataW H) → Nat
  | [] => 0
  | d :: r => uptoBulk d + uptoBulkAll r
def uptoBulkEntries {H : Type} : List (Lit × DataW H) → Nat
  | [] => 0
  | x :: r => uptoBulkEntry x + uptoBulkEntries r
def uptoBulkEntry {H : Type} : Lit × DataW H → Nat
  | (.string bytes, d) => bytes.length + uptoBulk d + 1
  | (_, d) => uptoBulk d + 1
 end
def uptoSmall : (H : Type) → List (DataW H) → Bool := fun _ ds => decide (uptoBulkAll ds ≤ 1048576)
def OpenSpec.upto (s : _root_.Go.ChangeSpec) : _root_.Go.OpenSpec := { _root_.Go.OpenSpec.ofChange s with cond := some uptoSmall }

/-- 'roadbooklaw11.PlanSort', WHERE WHAT IT READS IS OF BULK AT MOST 1048576: true; the input reads as it did. -/
def planSortUptoRow : OpenClaim := { program := "ytbdaiimljcjmpaagreat", sum := "b91ea6bc361abc702cfdc1606493369cd2b70f3d47ec477d008d0cf32110552c", func := "roadbook/roadbooklaw11.PlanSort", spec := "planSort", unfollowed := true, recurses := true, loops := true, plainKeys := false, apart := false, narrowed := true }
def PlanSortUptoSaid : Prop := planSortUptoRow.holds Tryz.pinned (OpenSpec.upto planSortSpec)

/-- 'roadbooklaw11.PlanFine', WHERE WHAT IT READS IS OF BULK AT MOST 1048576: true; the input reads as it did. -/
def planFineUptoRow : OpenClaim := { program := "ytbdaiimljcjmpaagreat", sum := "b91ea6bc361abc702cfdc1606493369cd2b70f3d47ec477d008d0cf32110552c", func := "roadbook/roadbooklaw11.PlanFine", spec := "planFine", unfollowed := true, recurses := true, loops := true, plainKeys := false, apart := false, narrowed := true }
def PlanFineUptoSaid : Prop := planFineUptoRow.holds Tryz.pinned (OpenSpec.upto planFineSpec)

/-- 'roadbooklaw11.PlanBack', WHERE WHAT IT READS IS OF BULK AT MOST 1048576: true; the input reads as it did. -/
def planBackUptoRow : OpenClaim := { program := "ytbdaiimljcjmpaagreat", sum := "b91ea6bc361abc702cfdc1606493369cd2b70f3d47ec477d008d0cf32110552c", func := "roadbook/roadbooklaw11.PlanBack", spec := "planBack", unfollowed := true, recurses := true, loops := true, plainKeys := false, apart := false, narrowed := true }
def PlanBackUptoSaid : Prop := planBackUptoRow.holds Tryz.pinned (OpenSpec.upto planBackSpec)

/-- 'roadbooklaw11.PlanTells', WHERE WHAT IT READS IS OF BULK AT MOST 1048576: true; the input reads as it did. -/
def planTellsUptoRow : OpenClaim := { program := "ytbdaiimljcjmpaagreat", sum := "b91ea6bc361abc702cfdc1606493369cd2b70f3d47ec477d008d0cf32110552c", func := "roadbook/roadbooklaw11.PlanTells", spec := "planTells", unfollowed := true, recurses := true, loops := true, plainKeys := false, apart := false, narrowed := true }
def PlanTellsUptoSaid : Prop := planTellsUptoRow.holds Tryz.pinned (OpenSpec.upto planTellsSpec)

/-- 'roadbooklaw11.PlanForm', WHERE WHAT IT READS IS OF BULK AT MOST 1048576: true; the input reads as it did. -/
def planFormUptoRow : OpenClaim := { program := "ytbdaiimljcjmpaagreat", sum := "b91ea6bc361abc702cfdc1606493369cd2b70f3d47ec477d008d0cf32110552c", func := "roadbook/roadbooklaw11.PlanForm", spec := "planForm", unfollowed := true, recurses := true, loops := true, plainKeys := false, apart := false, narrowed := true }
def PlanFormUptoSaid : Prop := planFormUptoRow.holds Tryz.pinned (OpenSpec.upto planFormSpec)

/-- 'roadbooklaw13.ImplTells', WHERE WHAT IT READS IS OF BULK AT MOST 1048576: true; the input reads as it did. -/
def implTellsUptoRow : OpenClaim := { program := "ytbdaiimljcjmpaagreat", sum := "b91ea6bc361abc702cfdc1606493369cd2b70f3d47ec477d008d0cf32110552c", func := "roadbook/roadbooklaw13.ImplTells", spec := "implTells", unfollowed := true, recurses := true, loops := true, plainKeys := false, apart := false, narrowed := true }
def ImplTellsUptoSaid : Prop := implTellsUptoRow.holds Tryz.pinned (OpenSpec.upto implTellsSpec)

/-- 'roadbooklaw13.ImplNone', WHERE WHAT IT READS IS OF BULK AT MOST 1048576: true; the input reads as it did. -/
def implNoneUptoRow : OpenClaim := { program := "ytbdaiimljcjmpaagreat", sum := "b91ea6bc361abc702cfdc1606493369cd2b70f3d47ec477d008d0cf32110552c", func := "roadbook/roadbooklaw13.ImplNone", spec := "implNone", unfollowed := true, recurses := true, loops := true, plainKeys := false, apart := false, narrowed := true }
def ImplNoneUptoSaid : Prop := implNoneUptoRow.holds Tryz.pinned (OpenSpec.upto implNoneSpec)

/-- 'roadbooklaw13.ImplTwo', WHERE WHAT IT READS IS OF BULK AT MOST 1048576: true; the input reads as it did. -/
def implTwoUptoRow : OpenClaim := { program := "ytbdaiimljcjmpaagreat", sum := "b91ea6bc361abc702cfdc1606493369cd2b70f3d47ec477d008d0cf32110552c", func := "roadbook/roadbooklaw13.ImplTwo", spec := "implTwo", unfollowed := true, recurses := true, loops := true, plainKeys := false, apart := false, narrowed := true }
def ImplTwoUptoSaid : Prop := implTwoUptoRow.holds Tryz.pinned (OpenSpec.upto implTwoSpec)

/-- 'roadbooklaw13.ImplWays', WHERE WHAT IT READS IS OF BULK AT MOST 1048576: true; the input reads as it did. -/
def implWaysUptoRow : OpenClaim := { program := "ytbdaiimljcjmpaagreat", sum := "b91ea6bc361abc702cfdc1606493369cd2b70f3d47ec477d008d0cf32110552c", func := "roadbook/roadbooklaw13.ImplWays", spec := "implWays", unfollowed := true, recurses := true, loops := true, plainKeys := false, apart := false, narrowed := true }
def ImplWaysUptoSaid : Prop := implWaysUptoRow.holds Tryz.pinned (OpenSpec.upto implWaysSpec)

/-- 'roadbooklaw13.ImplBest', WHERE WHAT IT READS IS OF BULK AT MOST 1048576: true; the input reads as it did. -/
def implBestUptoRow : OpenClaim := { program := "ytbdaiimljcjmpaagreat", sum := "b91ea6bc361abc702cfdc1606493369cd2b70f3d47ec477d008d0cf32110552c", func := "roadbook/roadbooklaw13.ImplBest", spec := "implBest", unfollowed := true, recurses := true, loops := true, plainKeys := false, apart := false, narrowed := true }
def ImplBestUptoSaid : Prop := implBestUptoRow.holds Tryz.pinned (OpenSpec.upto implBestSpec)

/-- 'roadbooklaw14.OptTells', WHERE WHAT IT READS IS OF BULK AT MOST 1048576: true; the input reads as it did. -/
def optTellsUptoRow : OpenClaim := { program := "ytbdaiimljcjmpaagreat", sum := "b91ea6bc361abc702cfdc1606493369cd2b70f3d47ec477d008d0cf32110552c", func := "roadbook/roadbooklaw14.OptTells", spec := "optTells", unfollowed := true, recurses := true, loops := true, plainKeys := false, apart := false, narrowed := true }
def OptTellsUptoSaid : Prop := optTellsUptoRow.holds Tryz.pinned (OpenSpec.upto optTellsSpec)

/-- 'roadbooklaw14.OptTree', WHERE WHAT IT READS IS OF BULK AT MOST 1048576: true; the input reads as it did. -/
def optTreeUptoRow : OpenClaim := { program := "ytbdaiimljcjmpaagreat", sum := "b91ea6bc361abc702cfdc1606493369cd2b70f3d47ec477d008d0cf32110552c", func := "roadbook/roadbooklaw14.OptTree", spec := "optTree", unfollowed := true, recurses := true, loops := true, plainKeys := false, apart := false, narrowed := true }
def OptTreeUptoSaid : Prop := optTreeUptoRow.holds Tryz.pinned (OpenSpec.upto optTreeSpec)

/-- 'roadbooklaw14.OptOrder', WHERE WHAT IT READS IS OF BULK AT MOST 1048576: true; the input reads as it did. -/
def optOrderUptoRow : OpenClaim := { program := "ytbdaiimljcjmpaagreat", sum := "b91ea6bc361abc702cfdc1606493369cd2b70f3d47ec477d008d0cf32110552c", func := "roadbook/roadbooklaw14.OptOrder", spec := "optOrder", unfollowed := true, recurses := true, loops := true, plainKeys := false, apart := false, narrowed := true }
def OptOrderUptoSaid : Prop := optOrderUptoRow.holds Tryz.pinned (OpenSpec.upto optOrderSpec)

/-- 'roadbooklaw14.OptLess', WHERE WHAT IT READS IS OF BULK AT MOST 1048576: true; the input reads as it did. -/
def optLessUptoRow : OpenClaim := { program := "ytbdaiimljcjmpaagreat", sum := "b91ea6bc361abc702cfdc1606493369cd2b70f3d47ec477d008d0cf32110552c", func := "roadbook/roadbooklaw14.OptLess", spec := "optLess", unfollowed := true, recurses := true, loops := true, plainKeys := false, apart := false, narrowed := true }
def OptLessUptoSaid : Prop := optLessUptoRow.holds Tryz.pinned (OpenSpec.upto optLessSpec)

/-- 'roadbooklaw14.OptAlone', WHERE WHAT IT READS IS OF BULK AT MOST 1048576: true; the input reads as it did. -/
def optAloneUptoRow : OpenClaim := { program := "ytbdaiimljcjmpaagreat", sum := "b91ea6bc361abc702cfdc1606493369cd2b70f3d47ec477d008d0cf32110552c", func := "roadbook/roadbooklaw14.OptAlone", spec := "optAlone", unfollowed := true, recurses := true, loops := true, plainKeys := false, apart := false, narrowed := true }
def OptAloneUptoSaid : Prop := optAloneUptoRow.holds Tryz.pinned (OpenSpec.upto optAloneSpec)

/-- 'roadbooklaw14.OptBest', WHERE WHAT IT READS IS OF BULK AT MOST 1048576: true; the input reads as it did. -/
def optBestUptoRow : OpenClaim := { program := "ytbdaiimljcjmpaagreat", sum := "b91ea6bc361abc702cfdc1606493369cd2b70f3d47ec477d008d0cf32110552c", func := "roadbook/roadbooklaw14.OptBest", spec := "optBest", unfollowed := true, recurses := true, loops := true, plainKeys := false, apart := false, narrowed := true }
def OptBestUptoSaid : Prop := optBestUptoRow.holds Tryz.pinned (OpenSpec.upto optBestSpec)

/-- 'roadbooklaw14.OptEnds', WHERE WHAT IT READS IS OF BULK AT MOST 1048576: true; the input reads as it did. -/
def optEndsUptoRow : OpenClaim := { program := "ytbdaiimljcjmpaagreat", sum := "b91ea6bc361abc702cfdc1606493369cd2b70f3d47ec477d008d0cf32110552c", func := "roadbook/roadbooklaw14.OptEnds", spec := "optEnds", unfollowed := true, recurses := true, loops := true, plainKeys := false, apart := false, narrowed := true }
def OptEndsUptoSaid : Prop := optEndsUptoRow.holds Tryz.pinned (OpenSpec.upto optEndsSpec)

/-- 'roadbooklaw18.WinTells', WHERE WHAT IT READS IS OF BULK AT MOST 1048576: true; the input reads as it did. -/
def winTellsUptoRow : OpenClaim := { program := "ytbdaiimljcjmpaagreat", sum := "b91ea6bc361abc702cfdc1606493369cd2b70f3d47ec477d008d0cf32110552c", func := "roadbook/roadbooklaw18.WinTells", spec := "winTells", unfollowed := true, recurses := true, loops := true, plainKeys := false, apart := false, narrowed := true }
def WinTellsUptoSaid : Prop := winTellsUptoRow.holds Tryz.pinned (OpenSpec.upto winTellsSpec)

/-- 'roadbooklaw18.WinOrder', WHERE WHAT IT READS IS OF BULK AT MOST 1048576: true; the input reads as it did. -/
def winOrderUptoRow : OpenClaim := { program := "ytbdaiimljcjmpaagreat", sum := "b91ea6bc361abc702cfdc1606493369cd2b70f3d47ec477d008d0cf32110552c", func := "roadbook/roadbooklaw18.WinOrder", spec := "winOrder", unfollowed := true, recurses := true, loops := true, plainKeys := false, apart := false, narrowed := true }
def WinOrderUptoSaid : Prop := winOrderUptoRow.holds Tryz.pinned (OpenSpec.upto winOrderSpec)

/-- 'roadbooklaw18.WinMore', WHERE WHAT IT READS IS OF BULK AT MOST 1048576: true; the input reads as it did. -/
def winMoreUptoRow : OpenClaim := { program := "ytbdaiimljcjmpaagreat", sum := "b91ea6bc361abc702cfdc1606493369cd2b70f3d47ec477d008d0cf32110552c", func := "roadbook/roadbooklaw18.WinMore", spec := "winMore", unfollowed := true, recurses := true, loops := true, plainKeys := false, apart := false, narrowed := true }
def WinMoreUptoSaid : Prop := winMoreUptoRow.holds Tryz.pinned (OpenSpec.upto winMoreSpec)

/-- 'roadbooklaw18.WinSets', WHERE WHAT IT READS IS OF BULK AT MOST 1048576: true; the input reads as it did. -/
def winSetsUptoRow : OpenClaim := { program := "ytbdaiimljcjmpaagreat", sum := "b91ea6bc361abc702cfdc1606493369cd2b70f3d47ec477d008d0cf32110552c", func := "roadbook/roadbooklaw18.WinSets", spec := "winSets", unfollowed := true, recurses := true, loops := true, plainKeys := false, apart := false, narrowed := true }
def WinSetsUptoSaid : Prop := winSetsUptoRow.holds Tryz.pinned (OpenSpec.upto winSetsSpec)

/-- 'roadbooklaw18.WinFine', WHERE WHAT IT READS IS OF BULK AT MOST 1048576: true; the input reads as it did. -/
def winFineUptoRow : OpenClaim := { program := "ytbdaiimljcjmpaagreat", sum := "b91ea6bc361abc702cfdc1606493369cd2b70f3d47ec477d008d0cf32110552c", func := "roadbook/roadbooklaw18.WinFine", spec := "winFine", unfollowed := true, recurses := true, loops := true, plainKeys := false, apart := false, narrowed := true }
def WinFineUptoSaid : Prop := winFineUptoRow.holds Tryz.pinned (OpenSpec.upto winFineSpec)

/-- 'roadbooklaw18.WinTrees', WHERE WHAT IT READS IS OF BULK AT MOST 1048576: true; the input reads as it did. -/
def winTreesUptoRow : OpenClaim := { program := "ytbdaiimljcjmpaagreat", sum := "b91ea6bc361abc702cfdc1606493369cd2b70f3d47ec477d008d0cf32110552c", func := "roadbook/roadbooklaw18.WinTrees", spec := "winTrees", unfollowed := true, recurses := true, loops := true, plainKeys := false, apart := false, narrowed := true }
def WinTreesUptoSaid : Prop := winTreesUptoRow.holds Tryz.pinned (OpenSpec.upto winTreesSpec)

/-- 'roadbooklaw18.WinOpt', WHERE WHAT IT READS IS OF BULK AT MOST 1048576: true; the input reads as it did. -/
def winOptUptoRow : OpenClaim := { program := "ytbdaiimljcjmpaagreat", sum := "b91ea6bc361abc702cfdc1606493369cd2b70f3d47ec477d008d0cf32110552c", func := "roadbook/roadbooklaw18.WinOpt", spec := "winOpt", unfollowed := true, recurses := true, loops := true, plainKeys := false, apart := false, narrowed := true }
def WinOptUptoSaid : Prop := winOptUptoRow.holds Tryz.pinned (OpenSpec.upto winOptSpec)

end Rows
end Go.Proofs.YtbdaiimljcjmpaaGreat

/- PlanBack: closed facts of the row. -/
import Derived.Test.YtbdaiimljcjmpaaGreatBR1
namespace Go.Proofs.YtbdaiimljcjmpaaGreat
set_option linter.unusedVariables false
set_option linter.unusedSimpArgs false
set_option maxRecDepth 100000
theorem back_fn : Tryz.prog.funcNamed Rows.planBackRow.func = some 5 := by kernel_rfl
theorem back_place : Tryz.prog.inPlace 5 = Rows.planBackRow.inPlace := by kernel_rfl
theorem back_unf : Tryz.prog.unfollowed 5 = true := by kernel_rfl
theorem back_rec : Tryz.prog.recurses 5 = true := by kernel_rfl
theorem back_named : Tryz.prog.varsNamed 5 = Rows.planBackRow.named := by kernel_rfl
theorem back_closed : joinedFacts Tryz.prog 5 Tryz.f5 Rows.planBackSpec Rows.planBackRow = true := by
  unfold joinedFacts
  rw [laidOut, j_maps, j_stops, j_knobs, j_plain, j_heard, j_enter, j_lifts, j_make, back_place, back_unf, back_rec, back_named]
  kernel_rfl
end Go.Proofs.YtbdaiimljcjmpaaGreat

/- PlanFine: closed facts of the row. -/
import Derived.Test.YtbdaiimljcjmpaaGreatBR1
namespace Go.Proofs.YtbdaiimljcjmpaaGreat
set_option linter.unusedVariables false
set_option linter.unusedSimpArgs false
set_option maxRecDepth 100000
theorem fine_fn : Tryz.prog.funcNamed Rows.planFineRow.func = some 4 := by kernel_rfl
theorem fine_place : Tryz.prog.inPlace 4 = Rows.planFineRow.inPlace := by kernel_rfl
theorem fine_unf : Tryz.prog.unfollowed 4 = true := by kernel_rfl
theorem fine_rec : Tryz.prog.recurses 4 = true := by kernel_rfl
theorem fine_named : Tryz.prog.varsNamed 4 = Rows.planFineRow.named := by kernel_rfl
theorem fine_closed : joinedFacts Tryz.prog 4 Tryz.f4 Rows.planFineSpec Rows.planFineRow = true := by
  unfold joinedFacts
  rw [laidOut, j_maps, j_stops, j_knobs, j_plain, j_heard, j_enter, j_lifts, j_make, fine_place, fine_unf, fine_rec, fine_named]
  kernel_rfl
end Go.Proofs.YtbdaiimljcjmpaaGreat

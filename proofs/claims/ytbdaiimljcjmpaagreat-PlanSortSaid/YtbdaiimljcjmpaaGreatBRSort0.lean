/- PlanSort: closed facts of the row. -/
import Derived.Test.YtbdaiimljcjmpaaGreatBR1
namespace Go.Proofs.YtbdaiimljcjmpaaGreat
set_option linter.unusedVariables false
set_option linter.unusedSimpArgs false
set_option maxRecDepth 100000
theorem sort_fn : Tryz.prog.funcNamed Rows.planSortRow.func = some 3 := by kernel_rfl
theorem sort_place : Tryz.prog.inPlace 3 = Rows.planSortRow.inPlace := by kernel_rfl
theorem sort_unf : Tryz.prog.unfollowed 3 = true := by kernel_rfl
theorem sort_rec : Tryz.prog.recurses 3 = true := by kernel_rfl
theorem sort_named : Tryz.prog.varsNamed 3 = Rows.planSortRow.named := by kernel_rfl
theorem sort_closed : joinedFacts Tryz.prog 3 Tryz.f3 Rows.planSortSpec Rows.planSortRow = true := by
  unfold joinedFacts
  rw [laidOut, j_maps, j_stops, j_knobs, j_plain, j_heard, j_enter, j_lifts, j_make, sort_place, sort_unf, sort_rec, sort_named]
  kernel_rfl
end Go.Proofs.YtbdaiimljcjmpaaGreat

/- What the laws' rows have in common. -/
import Derived.Test.YtbdaiimljcjmpaaGreatBT17
import Derived.Test.YtbdaiimljcjmpaaGreatBR1
import Derived.Test.YtbdaiimljcjmpaaGreatRows
import Derived.WalkKit
import Derived.ProofKit
import Derived.OpenShut
import Derived.ShutString
import Derived.ChangeOld
import Derived.Below
import Derived.Carry
namespace Go.Proofs.YtbdaiimljcjmpaaGreat
set_option linter.unusedSimpArgs false
open Go.ChangeShapes Go.WideShapes Go.ChangeAt Go.RowKit
open Go.Rb
set_option linter.unusedVariables false

theorem okWide_agg {P : Program} {w : World} {r : Reach} {base : Nat} {t : TypeId} {v : Value} {fs : Array Field} (ht : P.underlying t = some (.struct fs)) (h : Value.okWide P w r base t v) : ∃ c : Array Value, v = .agg c := by
  unfold Value.okWide at h
  rw [ht] at h
  cases v <;> simp_all
section
variable {H : Type} {enc : TypeId × Value → H} {W : World} {v : Value} {d : DataW H} {p : List MemPlace}
theorem seen_value {x : AV} {v : Value} (ha : ∃ c : Array Value, v = .agg c) (hx : ∃ cs, x = .agg cs) (h : Seen W x v.cells.toList) : Rep (C0 W) x v := by
  obtain ⟨_, V, h1, h2⟩ := h
  obtain ⟨cs, rfl⟩ := hx
  obtain ⟨c, rfl⟩ := ha
  have h3 := h2
  simp only [Rep] at h3
  obtain ⟨⟨arr, rfl, _⟩, _⟩ := h3
  have : arr = c := by
    simp only [Value.cells] at h1
    exact Array.toList_inj.1 h1
  rw [← this]; exact h2
theorem arg_cat (ha : ∃ c : Array Value, v = .agg c) (h : DataW.Trod enc Tryz.prog W 0 (fun _ => true) true 24 v d p) : ∃ c : Cat, c.length < 9223372036854775808 ∧ Rep (C0 W) (encC c) v := by
  obtain ⟨fuel, h⟩ := h
  obtain ⟨c, h1, h2⟩ := open_cat h
  exact ⟨c, by unfold maxLen at h1; omega, seen_value ha ⟨_, rfl⟩ h2⟩
theorem arg_query (ha : ∃ c : Array Value, v = .agg c) (h : DataW.Trod enc Tryz.prog W 0 (fun _ => true) true 28 v d p) : ∃ q : Query, q.Fit ∧ Rep (C0 W) (encQ q) v := by
  obtain ⟨fuel, h⟩ := h
  obtain ⟨q, h1, h2⟩ := open_query h
  exact ⟨q, h1, seen_value ha ⟨_, rfl⟩ h2⟩
theorem arg_plan (ha : ∃ c : Array Value, v = .agg c) (h : DataW.Trod enc Tryz.prog W 0 (fun _ => true) true 32 v d p) : ∃ q : Plan, q.Fit ∧ Rep (C0 W) (encP q) v := by
  obtain ⟨fuel, h⟩ := h
  obtain ⟨q, h1, h2⟩ := open_plan fuel h
  exact ⟨q, h1, seen_value ha ⟨_, encP_eq q⟩ h2⟩
end
end Go.Proofs.YtbdaiimljcjmpaaGreat

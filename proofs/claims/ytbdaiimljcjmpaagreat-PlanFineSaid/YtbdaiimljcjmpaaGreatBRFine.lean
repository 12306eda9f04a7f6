/- PlanFine: what the statement says of the program holds at every input. -/
import Derived.Test.YtbdaiimljcjmpaaGreatBR0
import Derived.Test.YtbdaiimljcjmpaaGreatBT25
import Derived.Test.YtbdaiimljcjmpaaGreatBRFine0
namespace Go.Proofs.YtbdaiimljcjmpaaGreat
set_option linter.unusedSimpArgs false
open Go.ChangeShapes Go.WideShapes Go.ChangeAt Go.RowKit
open Go.Rb
set_option linter.unusedVariables false
theorem arg_whole {H : Type} {enc : TypeId × Value → H} {W : World} {v : Value} {d : DataW H} {p : List MemPlace} (ha : ∃ c : Array Value, v = .agg c) (h : DataW.Trod enc Tryz.prog W 0 (fun _ => true) true 50 v d p) : ∃ q : Whole, q.p.Fit ∧ Rep (C0 W) (encW q) v := by
  obtain ⟨fuel, h⟩ := h
  obtain ⟨q, h1, h2⟩ := open_whole h
  exact ⟨q, h1, seen_value ha ⟨_, rfl⟩ h2⟩
set_option maxRecDepth 100000 in
theorem planFine_lifted (os : Os) (started : os.Started) (H : Type) (enc : TypeId × Value → H) :
    ReturnsInHanded {} Tryz.checked os 4 .any (Rows.planFineSpec.pre6 enc Tryz.prog Tryz.f4 Rows.planFineRow.domain false) (Rows.planFineSpec.post enc Tryz.prog Tryz.f4 false true false false) := by
  refine returnsInHanded_of_change (C := Tryz.checked) own started (by kernel_rfl) Tryz.func4
    (ChangeSpec.witness6 (enc := enc) (C := Tryz.checked) false ⟨#[], #[.agg #[.slice none 0 0], .agg #[.slice none 0 0, .slice none 0 0, .int .i64 0, .slice none 0 0, .slice none 0 0, .int .i64 0], .agg #[.int .i64 0, .int .i64 0, .int .i64 0, .int .i64 0, .slice none 0 0, .int .i64 0, .bool false]], []⟩ 8 (by kernel_rfl) (by kernel_rfl) (by kernel_rfl) (by kernel_rfl)) ?_
  intro W base args ds gs before hval0 hW hcnd _
  have hval : ∀ (j : Nat) t v, Tryz.f4.params[j]? = some t → args[j]? = some v → Value.okWide Tryz.prog W .any base t v := hval0
  have hW' := hW
  obtain ⟨p, q, hA0, hV, rfl, hfz, hnd⟩ := hW
  have hA : DataW.TrodAll enc Tryz.prog W 0 (fun _ => true) true Tryz.f4.params.toList args.toList ds p := hA0
  rw [Tryz.params4] at hA hval
  obtain ⟨v0, v1, v2, d0, d1, d2, p0, p1, p2, rfl, rfl, rfl, h0, h1, h2⟩ := trodAll_three hA
  obtain ⟨rfl, rfl⟩ := trodVars_none hV
  have k0 := h0
  have k1 := h1
  have k2 := h2
  have l0 : ∀ x ∈ p0, x.block < W.heap.size := by obtain ⟨m, hm⟩ := k0; exact DataW.trod_lt m _ _ _ hm
  have l1 : ∀ x ∈ p1, x.block < W.heap.size := by obtain ⟨m, hm⟩ := k1; exact DataW.trod_lt m _ _ _ hm
  have l2 : ∀ x ∈ p2, x.block < W.heap.size := by obtain ⟨m, hm⟩ := k2; exact DataW.trod_lt m _ _ _ hm
  obtain ⟨c, hc, r0⟩ := arg_cat (okWide_agg Tryz.underlying24 (hval 0 24 v0 rfl rfl)) h0
  obtain ⟨qq, hq, r1⟩ := arg_query (okWide_agg Tryz.underlying28 (hval 1 28 v1 rfl rfl)) h1
  obtain ⟨pl, hp, r2⟩ := arg_whole (okWide_agg Tryz.underlying50 (hval 2 50 v2 rfl rfl)) h2
  clear hA0 hval0
  refine (law_walk (planFine_ok c hc qq hq pl hp) (vals := #[v0, v1, v2]) ⟨_, _, rfl, r0, _, _, rfl, r1, _, _, rfl, r2, rfl⟩).mono fun e W' ⟨he, bel⟩ => ?_
  subst he
  exact ⟨_, rfl, _, _, _, [], _, [], hW', trodAll_mk1 (shut_bool Tryz.underlying4 _), trodAll_cons_mk (Below.trod laidOut (by kernel_rfl) (of_decide_eq_true (by kernel_rfl)) k0 bel l0) (trodAll_cons_mk (Below.trod laidOut (by kernel_rfl) (of_decide_eq_true (by kernel_rfl)) k1 bel l1) (trodAll_cons_mk (Below.trod laidOut (by kernel_rfl) (of_decide_eq_true (by kernel_rfl)) k2 bel l2) trodAll_mk0)), rfl, bel.frame _, fun h => by cases h⟩
theorem planFine_holds : Rows.PlanFineSaid :=
  OpenClaim.holds_of_wide 4 Tryz.f4 rfl rfl rfl rfl rfl rfl rfl ⟨rfl, rfl, rfl, rfl, rfl⟩ rfl rfl rfl rfl rfl fine_fn Tryz.func4 fine_closed
    (of_decide_eq_true (by kernel_rfl)) (by unfold Func.isWrapper; first | (rw [if_pos (by decide +kernel)]; kernel_rfl) | (rw [if_neg (by decide +kernel)]; exact ⟨rfl, rfl⟩))
    (fun os started H enc _ => planFine_lifted os started H enc)
#print axioms planFine_holds
end Go.Proofs.YtbdaiimljcjmpaaGreat

/- Groups; the whole of how a query is done. How a query is done, as it comes in. May a query be done so? What a query costs, done so. The statement on how a query is done: the law, and the walk. -/
import Derived.Test.YtbdaiimljcjmpaaGreatBT22
import Derived.Test.YtbdaiimljcjmpaaGreatBT17
namespace Go.Rb
set_option linter.unusedVariables false
set_option linter.unusedSimpArgs false
set_option maxRecDepth 8000
variable {T : Tab}

structure Whole where
  p : Plan
  end_ : Int
  sort : Bool
  deriving Inhabited
def encW (w : Whole) : AV := .agg [mkI w.p.op, mkI w.p.occ, mkI w.p.p0, mkI w.p.p1, .sl .no (encPL w.p.l), mkI w.end_, .bool w.sort]
@[simp] theorem encW_closed (w : Whole) : (encW w).closed = true := by simp [encW]
@[simp] theorem encW_strip (w : Whole) : (encW w).strip = encW w := by simp [encW]
theorem shl_small {n : Nat} (h : n ≤ 4) : w64 (1 * 2 ^ min n 64) = ((2 ^ n : Nat) : Int) := by
  have h1 : min n 64 = n := by omega
  have h2 : (2 : Nat) ^ n ≤ 2 ^ 4 := Nat.pow_le_pow_right (by decide) h
  have h3 : ((2 : Int) ^ n) = ((2 ^ n : Nat) : Int) := by simp
  rw [h1, Int.one_mul, h3]
  generalize 2 ^ n = X at *
  exact w64_id (by omega) (by omega)
def fullN (q : Query) : Nat := 2 ^ q.occ.length - 1
def mGroups (c : Cat) (q : Query) : Int := if mQMay c q = true then max 1 ((mRowsQ c q (fullN q)).tdiv 5) else 0
theorem full_lt {c : Cat} {q : Query} (h : mQMay c q = true) : fullN q < 16 ∧ ((fullN q : Nat) : Int) = ((2 ^ q.occ.length : Nat) : Int) - 1 := by
  have ho := mQMay_occ h
  have h2 : (2 : Nat) ^ q.occ.length ≤ 2 ^ 4 := Nat.pow_le_pow_right (by decide) ho.2
  have h3 : 1 ≤ (2 : Nat) ^ q.occ.length := Nat.one_le_two_pow
  unfold fullN
  omega
theorem groups_ok (hT : HasX T) (c : Cat) (hc : c.length < 9223372036854775808) (q : Query) (hq : q.Fit) : Ret T 118 [encC c, encQ q] (mkI (mGroups c q)) := by
  have hT' := hT.toHas
  have w := qmay_ok hT c hc q hq
  unfold Ret at w
  have e1 : encC c = encCv c := rfl
  rw [e1, encQ_v] at w
  refine ret_of (by simp) (callW hT' L118 rfl ?_)
  rw [AV.stripL, AV.stripL, encC_strip, encQ_strip, e1, encQ_v]
  cases hm : mQMay c q <;> rw [hm] at w
  · simp [F118, hT', impL, w, mGroups, hm]
  · have ho := mQMay_occ hm
    have hf := full_lt hm
    have hs := shl_small ho.2
    have w2 := rowsQ_ok hT c hc q hq (fullN q) (by omega)
    unfold Ret at w2
    rw [e1, encQ_v] at w2
    have hr := rowsQ_in c q (fullN q)
    have h0 : ¬ ((q.occ.length : Int) < 0) := by omega
    have hsub : w64 (((2 ^ q.occ.length : Nat) : Int) - 1) = ((fullN q : Nat) : Int) := by rw [← hf.2, w64_id (by omega) (by omega)]
    have hd : (mRowsQ c q (fullN q)).tdiv 5 = mRowsQ c q (fullN q) / 5 := Int.tdiv_eq_ediv_of_nonneg hr.1
    have hw : w64 ((mRowsQ c q (fullN q)).tdiv 5) = (mRowsQ c q (fullN q)).tdiv 5 := w64_id (by omega) (by omega)
    rw [Int.one_mul] at hs
    simp only [encQv, sl, encCv] at w w2 ⊢
    generalize hX : ((2 ^ q.occ.length : Nat) : Int) = X at *
    simp [F118, hT', impL, w, h0, IntKind.bits, hs, hsub, w2, hw, mGroups, hm]
end Go.Rb

namespace Go.Rb
set_option linter.unusedVariables false
set_option linter.unusedSimpArgs false
open Go.Proofs
theorem len7 {α : Type} {l : List α} (h : l.length = 7) : ∃ a b c d e f g, l = [a, b, c, d, e, f, g] := by
  match l, h with
  | [a, b, c, d, e, f, g], _ => exact ⟨a, b, c, d, e, f, g, rfl⟩
section
variable {H : Type} {enc : TypeId × Value → H} {w : World} {spare : Nat → Bool} {held : Bool}
theorem open_whole {fuel : Nat} {cs : List Value} {x : DataW H × List MemPlace} (h : Trd enc w spare held fuel 50 cs = some x) : ∃ e : Whole, e.p.Fit ∧ Seen w (encW e) cs := by
  obtain ⟨xs, n, rfl, _, hl, hx, hf⟩ := DataW.trod_struct Tryz.underlying50 h
  have hc : Tryz.prog.cellsOf 50 = 7 := by kernel_rfl
  have h3 : Tryz.prog.cellsOf 3 = 1 := by kernel_rfl
  have h4 : Tryz.prog.cellsOf 4 = 1 := by kernel_rfl
  have h32 : Tryz.prog.cellsOf 32 = 5 := by kernel_rfl
  rw [hc] at hl
  obtain ⟨c0, c1, c2, c3, c4, c5, c6, rfl⟩ := len7 hl
  obtain ⟨y0, f0⟩ := fld hf 0 32 0 5 rfl (by kernel_rfl) (by rw [hx]; decide)
  obtain ⟨y1, f1⟩ := fld hf 1 3 5 1 rfl (by kernel_rfl) (by rw [hx]; decide)
  obtain ⟨y2, f2⟩ := fld hf 2 4 6 1 rfl (by kernel_rfl) (by rw [hx]; decide)
  obtain ⟨p, hp, _, V, hV, hr⟩ := open_plan n f0
  obtain ⟨k, hk⟩ := seen_int Tryz.underlying3 f1
  obtain ⟨b, hb, _⟩ := DataW.trod_bool Tryz.underlying4 f2
  simp at hk hb hV
  subst hk hb
  obtain ⟨a, o, p0, p1, l⟩ := p
  refine ⟨⟨.mk a o p0 p1 l, k, b⟩, hp, by simp [encW], .agg #[c0, c1, c2, c3, c4, .int .i64 k, .bool b], rfl, ?_⟩
  rw [encP_eq] at hr
  simp only [Rep] at hr
  obtain ⟨⟨arr, rfl, hr⟩, _⟩ := hr
  simp only [Value.cells] at hV
  rw [hV] at hr
  obtain ⟨_, _, e0, r0, _, _, e1, r1, _, _, e2, r2, _, _, e3, r3, _, _, e4, r4, e5⟩ := hr
  simp at e0 e1 e2 e3 e4 e5
  obtain ⟨rfl, rfl⟩ := e0
  obtain ⟨rfl, rfl⟩ := e1
  obtain ⟨rfl, rfl⟩ := e2
  obtain ⟨rfl, rfl⟩ := e3
  obtain ⟨rfl, rfl⟩ := e4
  simp only [encW, Rep]
  exact ⟨⟨_, rfl, _, _, rfl, r0, _, _, rfl, r1, _, _, rfl, r2, _, _, rfl, r3, _, _, rfl, r4, _, _, rfl, rep_int k, _, _, rfl, rfl, rfl⟩, by simp⟩
end
end Go.Rb

namespace Go.Rb
set_option linter.unusedVariables false
set_option linter.unusedSimpArgs false
set_option maxRecDepth 8000
variable {T : Tab}

def mFineHead (c : Cat) (q : Query) (w : Whole) : Bool :=
  mPlanMay c q w.p && decide (((mTreeSet (mTree w.p).1 : Nat) : Int) = ((fullN q : Nat) : Int)) && decide (0 ≤ w.end_) && decide (w.end_ < 3) && (decide (w.end_ = 0) == decide (q.by_ = -1))
def mFineTail (q : Query) (w : Whole) : Bool :=
  if w.sort = true then !decide (q.ord = -1) && decide (w.end_ = 1)
  else if w.end_ = 2 then decide (mOrder w.p = q.by_)
  else if q.ord = -1 then true
  else decide (w.end_ = 0) && decide (mOrder w.p = q.ord)
def mFine (c : Cat) (q : Query) (w : Whole) : Bool := mFineHead c q w && mFineTail q w
def fn0 : SCode := match F40.body with
  | .seq a _ => a
  | _ => .skip
def fn1 : SCode := match F40.body with
  | .seq _ (.seq a _) => a
  | _ => .skip
def fn2 : SCode := match F40.body with
  | .seq _ (.seq _ (.seq a _)) => a
  | _ => .skip
def fn3 : SCode := match F40.body with
  | .seq _ (.seq _ (.seq _ (.seq a _))) => a
  | _ => .skip
def fn4 : SCode := match F40.body with
  | .seq _ (.seq _ (.seq _ (.seq _ a))) => a
  | _ => .skip
theorem fn_body : F40.body = .seq fn0 (.seq fn1 (.seq fn2 (.seq fn3 fn4))) := rfl
theorem fn_res : F40.res = [.tmp 6] := rfl
theorem fn_1 (hT : Has T) (c q : AV) (w : Whole) (hf : w.p.Fit) (e : Env) (g3 : e.get 3 = .box 0 0) (g4 : e.get 4 = .box 1 0) (g5 : e.get 5 = .box 2 0) :
    wpS T 0 fn1 (only fun e σ => e.get 3 = .box 0 0 ∧ e.get 4 = .box 1 0 ∧ e.get 5 = .box 2 0 ∧ e.get 7 = .box 3 0 ∧ σ = ⟨[c, q, encW w, encT (mTree w.p).1], []⟩) e ⟨[c, q, encW w], []⟩ := by
  have v := tree_ok hT w.p hf
  unfold Ret at v
  rw [encP_eq, encT_eq] at v
  simp only [encW]
  simp [fn1, F40, g3, g4, g5, hT, impL, v, encT_eq]
theorem fn_2 (hT : HasX T) (c : Cat) (hc : c.length < 9223372036854775808) (q : Query) (hq : q.Fit) (w : Whole) (hf : w.p.Fit) (e : Env) (g3 : e.get 3 = .box 0 0) (g4 : e.get 4 = .box 1 0) (g5 : e.get 5 = .box 2 0) (g7 : e.get 7 = .box 3 0) (Q : Q3)
    (hY : mFineHead c q w = true → ∀ e', e'.get 4 = .box 1 0 → e'.get 5 = .box 2 0 → Q .normal e' ⟨[encCv c, encQv q, encW w, encT (mTree w.p).1], []⟩)
    (hN : mFineHead c q w = false → ∀ e' σ', e'.get 6 = .bool false → Q .ret e' σ') :
    wpS T 0 fn2 Q e ⟨[encCv c, encQv q, encW w, encT (mTree w.p).1], []⟩ := by
  have hT' := hT.toHas
  have v1 := planMay_ok hT c hc q hq w.p hf
  have v2 := treeSet_ok hT' (mTree w.p).1
  unfold Ret at v1 v2
  have e1 : encC c = encCv c := rfl
  rw [e1, encQ_v, encP_eq] at v1
  rw [encT_eq] at v2 hY ⊢
  unfold mFineHead at hY hN
  simp only [encW] at hY ⊢
  simp only [encQv, sl, encCv] at v1 hY ⊢
  cases hm : mPlanMay c q w.p <;> rw [hm] at v1 hY hN
  · simp [fn2, F40, g3, g4, g5, g7, hT', impL, v1]
    exact hN (by simp) _ _ (by simp)
  · have hqm : mQMay c q = true := by
      unfold mPlanMay at hm
      simp only [Bool.and_eq_true] at hm
      exact hm.1.1.2
    have ho := mQMay_occ hqm
    have hfl := full_lt hqm
    have hs := shl_small ho.2
    have h0 : ¬ ((q.occ.length : Int) < 0) := by omega
    have hsub : w64 (((2 ^ q.occ.length : Nat) : Int) - 1) = ((fullN q : Nat) : Int) := by rw [← hfl.2, w64_id (by omega) (by omega)]
    rw [Int.one_mul] at hs
    generalize hX : ((2 ^ q.occ.length : Nat) : Int) = X at *
    generalize hS : ((mTreeSet (mTree w.p).1 : Nat) : Int) = S at *
    generalize hF : ((fullN q : Nat) : Int) = F at *
    by_cases q1 : S = F
    · by_cases q2 : w.end_ < 0
      · simp [fn2, F40, g3, g4, g5, g7, hT', impL, v1, v2, h0, IntKind.bits, hs, hsub, q1, q2]
        exact hN (by simp; omega) _ _ (by simp)
      · by_cases q3 : 3 ≤ w.end_
        · simp [fn2, F40, g3, g4, g5, g7, hT', impL, v1, v2, h0, IntKind.bits, hs, hsub, q1, q2, q3]
          exact hN (by simp; omega) _ _ (by simp)
        · have q2' : 0 ≤ w.end_ := by omega
          have q3' : w.end_ < 3 := by omega
          simp [fn2, F40, g3, g4, g5, g7, hT', impL, v1, v2, h0, IntKind.bits, hs, hsub, q1, q2, q3]
          split
          · rename_i h
            exact hY (by simp [q1, q2', q3']; exact h) _ (by simp [g4]) (by simp [g5])
          · rename_i h
            exact hN (by simp [q1, q2', q3']; exact h) _ _ (by simp)
    · simp [fn2, F40, g3, g4, g5, g7, hT', impL, v1, v2, h0, IntKind.bits, hs, hsub, q1]
      exact hN (by simp [q1]) _ _ (by simp)
theorem fn_34 (hT : Has T) (q : Query) (c t : AV) (w : Whole) (hf : w.p.Fit) (e : Env) (g4 : e.get 4 = .box 1 0) (g5 : e.get 5 = .box 2 0) (Q : Q3) (hQ : ∀ e' σ', e'.get 6 = .bool (mFineTail q w) → Q .ret e' σ') :
    wpS T 0 (.seq fn3 fn4) Q e ⟨[c, encQv q, encW w, t], []⟩ := by
  have v := order_ok hT w.p hf
  unfold Ret at v
  rw [encP_eq] at v
  refine wpS_cut (fun e σ => e.get 4 = .box 1 0 ∧ e.get 5 = .box 2 0 ∧ e.get 9 = mkI (mOrder w.p) ∧ σ = ⟨[c, encQv q, encW w, t], []⟩) (by simp only [encW]; simp [fn3, F40, g4, g5, hT, impL, v]) ?_
  clear g4 g5 e
  rintro e σ ⟨g4, g5, g9, rfl⟩
  unfold mFineTail at hQ
  simp only [encW]
  generalize hO : mOrder w.p = O at *
  cases hs : w.sort
  · rw [hs] at hQ
    by_cases h2 : w.end_ = 2
    · simp [fn4, F40, g4, g5, g9, hs, h2]
      exact hQ _ _ (by simp [h2])
    · by_cases h3 : q.ord = -1
      · simp [fn4, F40, g4, g5, g9, hs, h2, h3]
        exact hQ _ _ (by simp [h2, h3])
      · by_cases h4 : w.end_ = 0
        · simp [fn4, F40, g4, g5, g9, hs, h2, h3, h4]
          exact hQ _ _ (by simp [h2, h3, h4])
        · simp [fn4, F40, g4, g5, g9, hs, h2, h3, h4]
          exact hQ _ _ (by simp [h2, h3, h4])
  · rw [hs] at hQ
    by_cases h3 : q.ord = -1
    · simp [fn4, F40, g4, g5, g9, hs, h3]
      exact hQ _ _ (by simp [h3])
    · simp [fn4, F40, g4, g5, g9, hs, h3]
      exact hQ _ _ (by simp [h3])
theorem fine_ok (hT : HasX T) (c : Cat) (hc : c.length < 9223372036854775808) (q : Query) (hq : q.Fit) (w : Whole) (hf : w.p.Fit) : Ret T 40 [encC c, encQ q, encW w] (.bool (mFine c q w)) := by
  have hT' := hT.toHas
  have e1 : encC c = encCv c := rfl
  refine ret_of (by simp) (callW hT' L40 rfl ?_)
  rw [AV.stripL, AV.stripL, AV.stripL, encC_strip, encQ_strip, encW_strip, e1, encQ_v, fn_body, fn_res]
  refine wpS_cut (fun e σ => e.get 3 = .box 0 0 ∧ e.get 4 = .box 1 0 ∧ e.get 5 = .box 2 0 ∧ σ = ⟨[encCv c, encQv q, encW w], []⟩) (by simp only [encW]; simp [fn0, F40]) ?_
  rintro e σ ⟨g3, g4, g5, rfl⟩
  refine wpS_cut _ (fn_1 hT' (encCv c) (encQv q) w hf e g3 g4 g5) ?_
  clear g3 g4 g5 e
  rintro e σ ⟨g3, g4, g5, g7, rfl⟩
  have hend : ∀ (b : Bool) (e' : Env) (σ' : St), b = mFine c q w → e'.get 6 = .bool b → endQ 0 [SRes.tmp 6] (fun u _ => u.closed = true ∧ u.strip = .bool (mFine c q w)) .ret e' σ' := by
    intro b e' σ' hb h6
    simp [h6, hb]
  show wpS T 0 fn2 (thenQ (wpS T 0 (.seq fn3 fn4) _) _) e _
  refine fn_2 hT c hc q hq w hf e g3 g4 g5 g7 _ ?_ ?_
  · intro hy e' q4 q5
    refine fn_34 hT' q (encCv c) _ w hf e' q4 q5 _ ?_
    intro e'' σ'' h6
    exact hend _ e'' σ'' (by unfold mFine; rw [hy]; simp) h6
  · intro hn e' σ' h6
    exact hend false e' σ' (by unfold mFine; rw [hn]; rfl) h6
end Go.Rb

namespace Go.Rb
set_option linter.unusedVariables false
set_option linter.unusedSimpArgs false
set_option maxRecDepth 8000
variable {T : Tab}

def mParts (c : Cat) (q : Query) (w : Whole) : List Int :=
  mCost c q w.p :: ((if w.end_ = 0 then [] else [mGroupC (mRowsQ c q (fullN q)) (decide (w.end_ = 1))]) ++ (if w.sort = true then [mSortC (mGroups c q)] else []))
def mAllC (c : Cat) (q : Query) (w : Whole) : Int := if mFine c q w = true then mAdd (mParts c q w) else 1125899906842624
def al0 : SCode := match F39.body with
  | .seq a _ => a
  | _ => .skip
def al1 : SCode := match F39.body with
  | .seq _ (.seq a _) => a
  | _ => .skip
def al2 : SCode := match F39.body with
  | .seq _ (.seq _ (.seq a _)) => a
  | _ => .skip
def al3 : SCode := match F39.body with
  | .seq _ (.seq _ (.seq _ (.seq a _))) => a
  | _ => .skip
def al4 : SCode := match F39.body with
  | .seq _ (.seq _ (.seq _ (.seq _ a))) => a
  | _ => .skip
theorem al_body : F39.body = .seq al0 (.seq al1 (.seq al2 (.seq al3 al4))) := rfl
theorem al_res : F39.res = [.tmp 6] := rfl
theorem mFine_may {c : Cat} {q : Query} {w : Whole} (h : mFine c q w = true) : mPlanMay c q w.p = true := by
  unfold mFine mFineHead at h
  simp only [Bool.and_eq_true] at h
  exact h.1.1.1.1.1
theorem mPlanMay_q {c : Cat} {q : Query} {p : Plan} (h : mPlanMay c q p = true) : mQMay c q = true := by
  unfold mPlanMay at h
  simp only [Bool.and_eq_true] at h
  exact h.1.1.2
theorem allC_ok (hT : HasX T) (c : Cat) (hc : c.length < 9223372036854775808) (q : Query) (hq : q.Fit) (w : Whole) (hf : w.p.Fit) : Ret T 39 [encC c, encQ q, encW w] (mkI (mAllC c q w)) := by
  have hT' := hT.toHas
  have e1 : encC c = encCv c := rfl
  have v1 := fine_ok hT c hc q hq w hf
  unfold Ret at v1
  rw [e1, encQ_v] at v1
  refine ret_of (by simp) (callW hT' L39 rfl ?_)
  rw [AV.stripL, AV.stripL, AV.stripL, encC_strip, encQ_strip, encW_strip, e1, encQ_v, al_body, al_res]
  refine wpS_cut (fun e σ => e.get 3 = .box 0 0 ∧ e.get 4 = .box 1 0 ∧ e.get 5 = .box 2 0 ∧ σ = ⟨[encCv c, encQv q, encW w], []⟩) (by simp only [encW]; simp [al0, F39]) ?_
  rintro e σ ⟨g3, g4, g5, rfl⟩
  cases hm : mFine c q w <;> rw [hm] at v1
  · simp only [encW] at v1 ⊢
    simp [al1, F39, g3, g4, g5, hT', impL, v1, mAllC, hm]
  · refine wpS_cut (fun e σ => e.get 3 = .box 0 0 ∧ e.get 4 = .box 1 0 ∧ e.get 5 = .box 2 0 ∧ σ = ⟨[encCv c, encQv q, encW w], []⟩) (by simp only [encW] at v1 ⊢; simp [al1, F39, g3, g4, g5, hT', impL, v1]) ?_
    clear g3 g4 g5 v1 e
    rintro e σ ⟨g3, g4, g5, rfl⟩
    have hqm := mPlanMay_q (mFine_may hm)
    have ho := mQMay_occ hqm
    have hfl := full_lt hqm
    have hs := shl_small ho.2
    have h0 : ¬ ((q.occ.length : Int) < 0) := by omega
    have hsub : w64 (((2 ^ q.occ.length : Nat) : Int) - 1) = ((fullN q : Nat) : Int) := by rw [← hfl.2, w64_id (by omega) (by omega)]
    rw [Int.one_mul] at hs
    have u1 := cost_ok hT c hc q hq w.p hf
    have u2 := rowsQ_ok hT c hc q hq (fullN q) (by omega)
    have u3 := groupC_ok hT (mRowsQ c q (fullN q)) (decide (w.end_ = 1))
    have u4 := groups_ok hT c hc q hq
    have u5 := sortC_ok hT (mGroups c q)
    unfold Ret at u1 u2 u3 u4 u5
    rw [e1, encQ_v] at u1 u2 u4
    rw [encP_eq] at u1
    have hv : mAllC c q w = mAdd (mParts c q w) := by unfold mAllC; rw [if_pos hm]
    rw [hv]
    have u6 := add_ok hT' (mParts c q w) (by unfold mParts; split <;> split <;> simp)
    unfold Ret at u6
    unfold mParts at u6 ⊢
    simp only [encQv, sl, encCv, encW] at u1 u2 u4 ⊢
    generalize hX : ((2 ^ q.occ.length : Nat) : Int) = X at *
    generalize mCost c q w.p = C1 at *
    generalize hF : ((fullN q : Nat) : Int) = F at *
    generalize mRowsQ c q (fullN q) = C2 at *
    generalize hG : mGroupC C2 (decide (w.end_ = 1)) = C3 at *
    generalize mGroups c q = C4 at *
    generalize mSortC C4 = C5 at *
    generalize hB : [AV.agg [AV.sl Own.no (List.map encD c)], AV.agg [AV.sl Own.no (List.map mkI q.occ), AV.sl Own.no (encEL q.p), mkI q.by_, AV.sl Own.no (List.map mkI q.sums), AV.sl Own.no (List.map mkI q.out), mkI q.ord], AV.agg [mkI w.p.op, mkI w.p.occ, mkI w.p.p0, mkI w.p.p1, AV.sl Own.no (encPL w.p.l), mkI w.end_, AV.bool w.sort]] = B at *
    refine wpS_cut (fun e σ => e.get 3 = .box 0 0 ∧ e.get 4 = .box 1 0 ∧ e.get 5 = .box 2 0 ∧ e.get 7 = .sl .full [mkI C1] ∧ σ = ⟨B, []⟩) (by rw [← hB]; simp [al2, F39, g3, g4, g5, hT', impL, u1]) ?_
    clear g3 g4 g5 u1 e
    rintro e σ ⟨g3, g4, g5, g7, rfl⟩
    by_cases q1 : w.end_ = 0
    · rw [if_pos q1] at u6 ⊢
      refine wpS_cut (fun e σ => e.get 3 = .box 0 0 ∧ e.get 4 = .box 1 0 ∧ e.get 5 = .box 2 0 ∧ e.get 7 = .sl .full [mkI C1] ∧ σ = ⟨B, []⟩) (by rw [← hB]; simp [al3, F39, g3, g4, g5, g7, q1]) ?_
      clear g3 g4 g5 g7 u2 u3 e
      rintro e σ ⟨g3, g4, g5, g7, rfl⟩
      subst hB
      cases q2 : w.sort <;> rw [q2] at u6
      · have u7 := pure_own (m := [.sl .full [mkI C1]]) u6 (by simp) (by simp)
        simp only [Bool.false_eq_true, if_false, List.append_nil] at u7
        simp [al4, F39, g3, g4, g5, g7, hT', impL, q2, u7]
      · have u7 := pure_own (m := [.sl (.row 0 0) [mkI C1, mkI C5]]) u6 (by simp) (by simp)
        simp only [if_true, List.nil_append] at u7
        simp [al4, F39, g3, g4, g5, g7, hT', impL, u4, u5, q2, aAppend, mostBytes, u7]
    · rw [if_neg q1] at u6 ⊢
      refine wpS_cut (fun e σ => e.get 3 = .box 0 0 ∧ e.get 4 = .box 1 0 ∧ e.get 5 = .box 2 0 ∧ e.get 7 = .sl (.row 0 0) [mkI C1, mkI C3] ∧ σ = ⟨B, [⟨3, 1, 0⟩]⟩) (by rw [← hB]; simp [al3, F39, g3, g4, g5, g7, hT', impL, h0, IntKind.bits, hs, hsub, u2, u3, q1, aAppend, mostBytes]) ?_
      clear g3 g4 g5 g7 u2 u3 e
      rintro e σ ⟨g3, g4, g5, g7, rfl⟩
      subst hB
      cases q2 : w.sort <;> rw [q2] at u6
      · have u7 := pure_own (m := [.sl (.row 0 0) [mkI C1, mkI C3]]) u6 (by simp) (by simp)
        simp only [Bool.false_eq_true, if_false, List.append_nil] at u7
        simp [al4, F39, g3, g4, g5, g7, hT', impL, q2, u7]
      · have u7 := pure_own (m := [.sl (.row 0 1) [mkI C1, mkI C3, mkI C5]]) u6 (by simp) (by simp)
        simp only [if_true, List.cons_append, List.nil_append] at u7
        simp [al4, F39, g3, g4, g5, g7, hT', impL, u4, u5, q2, aAppend, mostBytes, u7]
end Go.Rb

namespace Go.Rb
set_option linter.unusedVariables false
set_option linter.unusedSimpArgs false
set_option maxRecDepth 8000
variable {T : Tab}

theorem mCost_in (c : Cat) (q : Query) (p : Plan) : 0 ≤ mCost c q p ∧ mCost c q p ≤ 1125899906842624 := by
  unfold mCost
  split
  · exact mAdd_in _
  · decide
theorem all_ge {c : Cat} {q : Query} {w : Whole} (h : mFine c q w = true) : mCost c q w.p ≤ mAllC c q w := by
  unfold mAllC
  rw [if_pos h]
  unfold mParts
  rw [mAdd_eq]
  simp only [csum]
  have h1 := mCost_in c q w.p
  have h2 := csum_nn ((if w.end_ = 0 then [] else [mGroupC (mRowsQ c q (fullN q)) (decide (w.end_ = 1))]) ++ (if w.sort = true then [mSortC (mGroups c q)] else []))
  unfold clampC
  omega
structure FineYes (c : Cat) (q : Query) (w : Whole) : Prop where
  may : mPlanMay c q w.p = true
  set : ((mTreeSet (mTree w.p).1 : Nat) : Int) = ((2 ^ q.occ.length : Nat) : Int) - 1
  cost : mCost c q w.p ≤ mAllC c q w
  kind : (decide (w.end_ = 0) == decide (q.by_ = -1)) = true
theorem fine_yes {c : Cat} {q : Query} {w : Whole} (h : mFine c q w = true) : FineYes c q w := by
  have hm := mFine_may h
  have hf := full_lt (mPlanMay_q hm)
  have hc := all_ge h
  unfold mFine mFineHead at h
  simp only [Bool.and_eq_true, decide_eq_true_eq] at h
  exact ⟨hm, by rw [← hf.2]; exact h.1.1.1.1.2, hc, h.1.2⟩
theorem fine_no {c : Cat} {q : Query} {w : Whole} (h : mFine c q w = false) (h1 : q.by_ = -1) (h2 : q.ord = -1) (h3 : w.end_ = 0) (h4 : w.sort = false) (h5 : mPlanMay c q w.p = true) : ((mTreeSet (mTree w.p).1 : Nat) : Int) ≠ ((2 ^ q.occ.length : Nat) : Int) - 1 := by
  intro hs
  have hf := full_lt (mPlanMay_q h5)
  rw [← hf.2] at hs
  have : mFine c q w = true := by
    unfold mFine mFineHead mFineTail
    simp [h1, h2, h3, h4, h5, hs]
  rw [h] at this; cases this
def fi (n : Nat) : SCode := match n, F4.body with
  | 0, .seq a _ => a
  | 1, .seq _ (.seq a _) => a
  | 2, .seq _ (.seq _ (.seq a _)) => a
  | 3, .seq _ (.seq _ (.seq _ (.seq a _))) => a
  | 4, .seq _ (.seq _ (.seq _ (.seq _ (.seq a _)))) => a
  | 5, .seq _ (.seq _ (.seq _ (.seq _ (.seq _ (.seq a _))))) => a
  | 6, .seq _ (.seq _ (.seq _ (.seq _ (.seq _ (.seq _ (.seq a _)))))) => a
  | 7, .seq _ (.seq _ (.seq _ (.seq _ (.seq _ (.seq _ (.seq _ (.seq a _))))))) => a
  | 8, .seq _ (.seq _ (.seq _ (.seq _ (.seq _ (.seq _ (.seq _ (.seq _ (.seq a _)))))))) => a
  | 9, .seq _ (.seq _ (.seq _ (.seq _ (.seq _ (.seq _ (.seq _ (.seq _ (.seq _ a)))))))) => a
  | _, _ => .skip
theorem fi_body : F4.body = .seq (fi 0) (.seq (fi 1) (.seq (fi 2) (.seq (fi 3) (.seq (fi 4) (.seq (fi 5) (.seq (fi 6) (.seq (fi 7) (.seq (fi 8) (fi 9))))))))) := rfl
theorem fi_res : F4.res = [.tmp 6] := rfl
def bodyF : SCode := match fi 7 with
  | .seq _ (.block _ (.loop _ c)) => c
  | _ => .skip
theorem pow_step {i : Nat} (h : i < 20) : w64 (2 * ((2 ^ i : Nat) : Int)) = ((2 ^ (i + 1) : Nat) : Int) := by
  have h2 : (2 : Nat) ^ i ≤ 1048576 := Nat.le_trans (Nat.pow_le_pow_right (by decide) (Nat.le_of_lt h)) (by decide)
  have h3 : (2 : Nat) ^ (i + 1) = 2 * 2 ^ i := by rw [Nat.pow_succ, Nat.mul_comm]
  rw [h3]
  generalize 2 ^ i = Y at *
  rw [w64_id (by omega) (by omega)]
  push_cast; rfl
theorem fi_loop (fl : Nat) (c t w : AV) (q : Query) (hl : q.occ.length < 9223372036854775807) (n : Int) (f : Nat → Int) (hf : ∀ i, i < q.occ.length → w64 (2 * f i) = f (i + 1)) : ∀ (k i : Nat) (e : Env) (Q : Q3), k + i = q.occ.length →
    e.get 3 = .box 0 0 → e.get 4 = .box 1 0 → e.get 5 = .box 2 0 → e.get 9 = mkI n → e.get 10 = .box 3 0 → e.get 12 = mkI (f i) → e.get 13 = mkI i →
    (∀ e', e'.get 3 = .box 0 0 → e'.get 4 = .box 1 0 → e'.get 5 = .box 2 0 → e'.get 9 = mkI n → e'.get 10 = .box 3 0 → e'.get 12 = mkI (f q.occ.length) → Q (.exit 0) e' ⟨[c, encQv q, w, t], []⟩) → LoopW T fl [3, 4, 5, 9, 10, 12, 13] bodyF Q e ⟨[c, encQv q, w, t], []⟩ := by
  intro k
  induction k with
  | zero =>
    intro i e Q hk g3 g4 g5 g9 g10 g12 g13 hQ
    have : i = q.occ.length := by omega
    subst this
    refine loopW_round ?_
    simp [bodyF, fi, F4, g3, g4, g5, g9, g10, g12, g13, sl]
    refine hQ _ ?_ ?_ ?_ ?_ ?_ ?_ <;> simp
  | succ k ih =>
    intro i e Q hk g3 g4 g5 g9 g10 g12 g13 hQ
    have hi : i < q.occ.length := by omega
    have hw : w64 ((i : Int) + 1) = ((i + 1 : Nat) : Int) := by rw [w64_id (by omega) (by omega)]; simp
    have hm := hf i hi
    refine loopW_round ?_
    simp [bodyF, fi, F4, g3, g4, g5, g9, g10, g12, g13, sl, hi, hw, hm]
    refine ih (i + 1) _ Q (by omega) ?_ ?_ ?_ ?_ ?_ ?_ ?_ hQ
    all_goals simp
theorem wpN_app {fl : Nat} {K : Env → St → Prop} : ∀ {a b : List SOper} {e : Env} {σ : St}, wpN T fl a (wpN T fl b K) e σ → wpN T fl (a ++ b) K e σ
  | [], b, e, σ, h => h
  | o :: a, b, e, σ, h => by
    simp only [wpN, List.cons_append] at h ⊢
    split at h
    · split at h
      · exact wpN_app h
      · exact h.elim
    · exact wpN_app h
    · exact h.elim
theorem wpN_cut {fl : Nat} {K : Env → St → Prop} {l : List SOper} {e : Env} {σ : St} (n : Nat) (M : Env → St → Prop) (h1 : wpN T fl (l.take n) M e σ) (h2 : ∀ e σ, M e σ → wpN T fl (l.drop n) K e σ) : wpN T fl l K e σ := by
  rw [← List.take_append_drop n l]
  exact wpN_app (wpN_mono h2 h1)
def opsY : List SOper := match fi 8 with
  | .seq _ (.cond _ (.seq (.region _ l) _) _) => l
  | _ => []
theorem fi8_eq : fi 8 = .seq (match fi 8 with | .seq a _ => a | _ => .skip) (.cond (.t 49) (.seq (.region false opsY) .ret) .skip) := rfl
abbrev st8 (x s1 s2 s3 s4 t1 t2 l : AV) (by_ ord o oc a b en : Int) (so : Bool) : St := ⟨[.agg [x], .agg [s1, s2, mkI by_, s3, s4, mkI ord], .agg [mkI o, mkI oc, mkI a, mkI b, l, mkI en, .bool so], .agg [t1, t2]], []⟩
theorem fi_8a (hT : Has T) (x s1 s2 s3 s4 t1 t2 l : AV) (by_ ord o oc a b en N X X1 : Int) (so : Bool) (hX : w64 (X - 1) = X1)
    (w2 : pureCall (lim T) 29 [.agg [x], .agg [s1, s2, mkI by_, s3, s4, mkI ord], .agg [mkI o, mkI oc, mkI a, mkI b, l]] = some (.bool true))
    (w3 : pureCall (lim T) 33 [.agg [t1, t2]] = some (mkI X1))
    (e : Env) (g3 : e.get 3 = .box 0 0) (g4 : e.get 4 = .box 1 0) (g5 : e.get 5 = .box 2 0) (g9 : e.get 9 = mkI N) (g10 : e.get 10 = .box 3 0) (g12 : e.get 12 = mkI X) :
    wpN T 0 (opsY.take 12) (fun e σ => e.get 3 = .box 0 0 ∧ e.get 4 = .box 1 0 ∧ e.get 5 = .box 2 0 ∧ e.get 9 = mkI N ∧ e.get 61 = .bool true ∧ σ = st8 x s1 s2 s3 s4 t1 t2 l by_ ord o oc a b en so) e (st8 x s1 s2 s3 s4 t1 t2 l by_ ord o oc a b en so) := by
  simp [opsY, fi, F4, g3, g4, g5, g9, g10, g12, hT, impL, w2, w3, hX]
theorem fi_8b (hT : Has T) (x s1 s2 s3 s4 t1 t2 l : AV) (by_ ord o oc a b en N M : Int) (so : Bool) (hM : M ≤ N)
    (w4 : pureCall (lim T) 35 [.agg [x], .agg [s1, s2, mkI by_, s3, s4, mkI ord], .agg [mkI o, mkI oc, mkI a, mkI b, l]] = some (mkI M))
    (e : Env) (g3 : e.get 3 = .box 0 0) (g4 : e.get 4 = .box 1 0) (g5 : e.get 5 = .box 2 0) (g9 : e.get 9 = mkI N) (g61 : e.get 61 = .bool true) :
    wpN T 0 ((opsY.drop 12).take 9) (fun e σ => e.get 4 = .box 1 0 ∧ e.get 5 = .box 2 0 ∧ e.get 70 = .bool true ∧ σ = st8 x s1 s2 s3 s4 t1 t2 l by_ ord o oc a b en so) e (st8 x s1 s2 s3 s4 t1 t2 l by_ ord o oc a b en so) := by
  simp [opsY, fi, F4, g3, g4, g5, g9, g61, hT, impL, w4, hM]
theorem fi_8c (x s1 s2 s3 s4 t1 t2 l : AV) (by_ ord o oc a b en : Int) (so : Bool) (kind : (decide (en = 0) == decide (by_ = -1)) = true)
    (e : Env) (g4 : e.get 4 = .box 1 0) (g5 : e.get 5 = .box 2 0) (g70 : e.get 70 = .bool true) :
    wpN T 0 ((opsY.drop 12).drop 9) (fun e σ => e.get 6 = .bool true) e (st8 x s1 s2 s3 s4 t1 t2 l by_ ord o oc a b en so) := by
  obtain ⟨B, hB⟩ : ∃ B, decide (en = 0) = B := ⟨_, rfl⟩
  obtain ⟨D, hD⟩ : ∃ D, decide (by_ = -1) = D := ⟨_, rfl⟩
  rw [hB, hD] at kind
  have hk' : B = D := by simpa using kind
  subst hk'
  simp [opsY, fi, F4, g4, g5, g70, hB, hD]
theorem fi_8y (hT : Has T) (x s1 s2 s3 s4 t1 t2 l : AV) (by_ ord o oc a b en N M X X1 : Int) (so : Bool) (kind : en = 0 ↔ by_ = -1) (hX : w64 (X - 1) = X1) (hM : M ≤ N)
    (w1 : pureCall (lim T) 40 [.agg [x], .agg [s1, s2, mkI by_, s3, s4, mkI ord], .agg [mkI o, mkI oc, mkI a, mkI b, l, mkI en, .bool so]] = some (.bool true))
    (w2 : pureCall (lim T) 29 [.agg [x], .agg [s1, s2, mkI by_, s3, s4, mkI ord], .agg [mkI o, mkI oc, mkI a, mkI b, l]] = some (.bool true))
    (w3 : pureCall (lim T) 33 [.agg [t1, t2]] = some (mkI X1))
    (w4 : pureCall (lim T) 35 [.agg [x], .agg [s1, s2, mkI by_, s3, s4, mkI ord], .agg [mkI o, mkI oc, mkI a, mkI b, l]] = some (mkI M))
    (e : Env) (g3 : e.get 3 = .box 0 0) (g4 : e.get 4 = .box 1 0) (g5 : e.get 5 = .box 2 0) (g9 : e.get 9 = mkI N) (g10 : e.get 10 = .box 3 0) (g12 : e.get 12 = mkI X) (Q : Q3)
    (hQ : ∀ e' σ', e'.get 6 = .bool true → Q .ret e' σ') : wpS T 0 (fi 8) Q e (st8 x s1 s2 s3 s4 t1 t2 l by_ ord o oc a b en so) := by
  have hk : (decide (en = 0) == decide (by_ = -1)) = true := by simp [kind]
  rw [fi8_eq]
  refine wpS_cut (fun e σ => e.get 3 = .box 0 0 ∧ e.get 4 = .box 1 0 ∧ e.get 5 = .box 2 0 ∧ e.get 9 = mkI N ∧ e.get 10 = .box 3 0 ∧ e.get 12 = mkI X ∧ e.get 49 = .bool true ∧ σ = st8 x s1 s2 s3 s4 t1 t2 l by_ ord o oc a b en so) (by simp [fi, F4, g3, g4, g5, g9, g10, g12, hT, impL, w1]) ?_
  clear g3 g4 g5 g9 g10 g12 e
  rintro e σ ⟨g3, g4, g5, g9, g10, g12, g49, rfl⟩
  have h : wpN T 0 opsY (fun e σ => e.get 6 = .bool true) e (st8 x s1 s2 s3 s4 t1 t2 l by_ ord o oc a b en so) := by
    refine wpN_cut 12 _ (fi_8a hT x s1 s2 s3 s4 t1 t2 l by_ ord o oc a b en N X X1 so hX w2 w3 e g3 g4 g5 g9 g10 g12) ?_
    clear g3 g4 g5 g9 g10 g12 g49 e
    rintro e σ ⟨g3, g4, g5, g9, g61, rfl⟩
    refine wpN_cut 9 _ (fi_8b hT x s1 s2 s3 s4 t1 t2 l by_ ord o oc a b en N M so hM w4 e g3 g4 g5 g9 g61) ?_
    clear g3 g4 g5 g9 g61 e
    rintro e σ ⟨g4, g5, g70, rfl⟩
    exact fi_8c x s1 s2 s3 s4 t1 t2 l by_ ord o oc a b en so hk e g4 g5 g70
  have h2 : wpS T 0 (.seq (.region false opsY) .ret) Q e (st8 x s1 s2 s3 s4 t1 t2 l by_ ord o oc a b en so) := by
    show wpN T 0 opsY _ e _
    exact wpN_mono (fun e' σ' h => hQ e' σ' h) h
  show (match e.get 49 with | .bool t => if t = true then _ else _ | _ => False)
  rw [g49]
  exact h2
theorem fi_8 (hT : HasX T) (c : Cat) (hc : c.length < 9223372036854775808) (q : Query) (hq : q.Fit) (w : Whole) (hf : w.p.Fit) (X : Int) (hX : ((2 ^ q.occ.length : Nat) : Int) = X) (hX1 : w64 (X - 1) = X - 1) (e : Env) (g3 : e.get 3 = .box 0 0) (g4 : e.get 4 = .box 1 0) (g5 : e.get 5 = .box 2 0) (g9 : e.get 9 = mkI (mAllC c q w)) (g10 : e.get 10 = .box 3 0) (g12 : e.get 12 = mkI X) (Q : Q3)
    (hN : mFine c q w = false → ∀ e', e'.get 3 = .box 0 0 → e'.get 4 = .box 1 0 → e'.get 5 = .box 2 0 → e'.get 9 = mkI (mAllC c q w) → e'.get 10 = .box 3 0 → e'.get 12 = mkI X → Q .normal e' ⟨[encCv c, encQv q, encW w, encT (mTree w.p).1], []⟩)
    (hQ : ∀ e' σ', e'.get 6 = .bool true → Q .ret e' σ') : wpS T 0 (fi 8) Q e ⟨[encCv c, encQv q, encW w, encT (mTree w.p).1], []⟩ := by
  have hT' := hT.toHas
  have w1 := fine_ok hT c hc q hq w hf
  have w2 := planMay_ok hT c hc q hq w.p hf
  have w3 := treeSet_ok hT' (mTree w.p).1
  have w4 := cost_ok hT c hc q hq w.p hf
  unfold Ret at w1 w2 w3 w4
  have e1 : encC c = encCv c := rfl
  rw [e1, encQ_v] at w1 w2 w4
  rw [encP_eq] at w2 w4
  rw [encT_eq] at w3 hN ⊢
  cases hm : mFine c q w <;> rw [hm] at w1
  · simp only [encW] at w1 hN ⊢
    simp [fi, F4, g3, g4, g5, g9, g10, g12, hT', impL, w1]
    exact hN hm _ (by simp [g3]) (by simp [g4]) (by simp [g5]) (by simp [g9]) (by simp [g10]) (by simp [g12])
  · have Y := fine_yes hm
    have y1 := Y.may
    have y2 := Y.set
    have y3 := Y.cost
    have y4 := Y.kind
    rw [y1] at w2
    rw [hX] at y2
    rw [y2] at w3
    have hX3 : w64 (X - 1) = X - 1 := hX1
    have kind : w.end_ = 0 ↔ q.by_ = -1 := by simpa using y4
    simp only [encQv, sl, encCv, encW] at w1 w2 w4 ⊢
    exact fi_8y hT' _ _ _ _ _ _ _ _ q.by_ q.ord w.p.op w.p.occ w.p.p0 w.p.p1 w.end_ (mAllC c q w) (mCost c q w.p) X (X - 1) w.sort kind hX3 y3 w1 w2 w3 w4 e g3 g4 g5 g9 g10 g12 Q hQ
theorem fi_9 (hT : HasX T) (c : Cat) (hc : c.length < 9223372036854775808) (q : Query) (hq : q.Fit) (w : Whole) (hf : w.p.Fit) (X : Int) (hX : ((2 ^ q.occ.length : Nat) : Int) = X) (hX1 : w64 (X - 1) = X - 1) (hm : mFine c q w = false) (e : Env) (g3 : e.get 3 = .box 0 0) (g4 : e.get 4 = .box 1 0) (g5 : e.get 5 = .box 2 0) (g9 : e.get 9 = mkI (mAllC c q w)) (g10 : e.get 10 = .box 3 0) (g12 : e.get 12 = mkI X) (Q : Q3)
    (hQ : ∀ e' σ', e'.get 6 = .bool true → Q .ret e' σ') : wpS T 0 (fi 9) Q e ⟨[encCv c, encQv q, encW w, encT (mTree w.p).1], []⟩ := by
  have hT' := hT.toHas
  have w2 := planMay_ok hT c hc q hq w.p hf
  have w3 := treeSet_ok hT' (mTree w.p).1
  unfold Ret at w2 w3
  have e1 : encC c = encCv c := rfl
  rw [e1, encQ_v] at w2
  rw [encP_eq] at w2
  have hv : mAllC c q w = 1125899906842624 := by unfold mAllC; rw [hm]; rfl
  rw [hv] at g9
  have hno := fine_no hm
  rw [hX] at hno
  rw [encT_eq] at w3 ⊢
  simp only [encQv, sl, encCv, encW] at w2 ⊢
  generalize ((mTreeSet (mTree w.p).1 : Nat) : Int) = S at *
  by_cases q1 : q.by_ = -1
  · by_cases q2 : q.ord = -1
    · by_cases q3 : w.end_ = 0
      · cases q4 : w.sort
        · cases q5 : mPlanMay c q w.p <;> rw [q5] at w2
          · rw [q1, q2] at w2
            simp [fi, F4, g3, g4, g5, g9, g10, g12, hT', impL, q1, q2, q3, q4, w2]
            exact hQ _ _ (by simp)
          · have hS := hno q1 q2 q3 q4 q5
            rw [q1, q2] at w2
            simp [fi, F4, g3, g4, g5, g9, g10, g12, hT', impL, q1, q2, q3, q4, w2, w3, hX1, hS]
            exact hQ _ _ (by simp)
        · simp [fi, F4, g3, g4, g5, g9, g10, g12, q1, q2, q3, q4]
          exact hQ _ _ (by simp)
      · simp [fi, F4, g3, g4, g5, g9, g10, g12, q1, q2, q3]
        exact hQ _ _ (by simp)
    · simp [fi, F4, g3, g4, g5, g9, g10, g12, q1, q2]
      exact hQ _ _ (by simp)
  · simp [fi, F4, g3, g4, g5, g9, g10, g12, q1]
    exact hQ _ _ (by simp)
theorem fi_end {σ' : St} {e' : Env} (h6 : e'.get 6 = .bool true) : endQ 0 F4.res (fun u _ => u.closed = true ∧ u.strip = .bool true) .ret e' σ' := by
  rw [fi_res]; simp [h6]
theorem fi_7 (c t w : AV) (q : Query) (hl : q.occ.length ≤ 20) (n : Int) (e : Env) (g3 : e.get 3 = .box 0 0) (g4 : e.get 4 = .box 1 0) (g5 : e.get 5 = .box 2 0) (g9 : e.get 9 = mkI n) (g10 : e.get 10 = .box 3 0) :
    wpS T 0 (.seq (fi 6) (fi 7)) (only fun e σ => e.get 3 = .box 0 0 ∧ e.get 4 = .box 1 0 ∧ e.get 5 = .box 2 0 ∧ e.get 9 = mkI n ∧ e.get 10 = .box 3 0 ∧ e.get 12 = mkI ((2 ^ q.occ.length : Nat) : Int) ∧ σ = ⟨[c, encQv q, w, t], []⟩) e ⟨[c, encQv q, w, t], []⟩ := by
  refine wpS_cut (fun e σ => e.get 3 = .box 0 0 ∧ e.get 4 = .box 1 0 ∧ e.get 5 = .box 2 0 ∧ e.get 9 = mkI n ∧ e.get 10 = .box 3 0 ∧ e.get 12 = mkI 1 ∧ σ = ⟨[c, encQv q, w, t], []⟩) (by simp [fi, F4, g3, g4, g5, g9, g10]) ?_
  clear g3 g4 g5 g9 g10 e
  rintro e σ ⟨g3, g4, g5, g9, g10, g12, rfl⟩
  obtain ⟨P, hP⟩ : ∃ P : Nat → Int, ∀ i, P i = ((2 ^ i : Nat) : Int) := ⟨_, fun _ => rfl⟩
  have key := fi_loop (T := T) 0 c t w q (by omega) n P (fun i hi => by rw [hP, hP]; exact pow_step (by omega)) q.occ.length 0
  have h0 : P 0 = 1 := by rw [hP]; rfl
  rw [← hP]
  clear hP
  rw [h0] at key
  simp only [fi, F4]
  simp [g3, g4, g5, g9, g10, g12]
  refine key _ _ (by omega) ?_ ?_ ?_ ?_ ?_ ?_ ?_ ?_
  all_goals (try simp [g3, g4, g5, g9, g10, g12])
  intro e' q3 q4 q5 q9 q10 q12
  exact ⟨q3, q4, q5, q9, q10, q12⟩
theorem planFine_ok (c : Cat) (hc : c.length < 9223372036854775808) (q : Query) (hq : q.Fit) (w : Whole) (hf : w.p.Fit) : Ret TAB 4 [encC c, encQ q, encW w] (.bool true) := by
  have hT := tab_hasX
  have hT' := hT.toHas
  have e1 : encC c = encCv c := rfl
  obtain ⟨b, hb, hsm⟩ := small_ok hT' c q hq w.p hf
  have ha := awake11
  have hall := allC_ok hT c hc q hq w hf
  have htree := tree_ok hT' w.p hf
  unfold Ret at hb ha hall htree
  rw [e1, encQ_v] at hb hall
  rw [encP_eq] at hb htree
  refine ret_of (by simp) (callW hT' L4 rfl ?_)
  rw [AV.stripL, AV.stripL, AV.stripL, encC_strip, encQ_strip, encW_strip, e1, encQ_v, fi_body]
  refine wpS_cut (fun e σ => e.get 3 = .box 0 0 ∧ e.get 4 = .box 1 0 ∧ e.get 5 = .box 2 0 ∧ σ = ⟨[encCv c, encQv q, encW w], []⟩) (by simp only [encW]; simp [fi, F4]) ?_
  rintro e σ ⟨g3, g4, g5, rfl⟩
  refine wpS_cut (fun e σ => e.get 3 = .box 0 0 ∧ e.get 4 = .box 1 0 ∧ e.get 5 = .box 2 0 ∧ e.get 7 = .bool true ∧ σ = ⟨[encCv c, encQv q, encW w], []⟩) (by simp [fi, F4, g3, g4, g5, hT', impL, ha]) ?_
  clear g3 g4 g5 e
  rintro e σ ⟨g3, g4, g5, g7, rfl⟩
  refine wpS_cut (fun e σ => e.get 3 = .box 0 0 ∧ e.get 4 = .box 1 0 ∧ e.get 5 = .box 2 0 ∧ e.get 7 = .bool true ∧ e.get 8 = .bool b ∧ σ = ⟨[encCv c, encQv q, encW w], []⟩) (by simp only [encW]; simp [fi, F4, g3, g4, g5, g7, hT', impL, hb]) ?_
  clear g3 g4 g5 g7 e
  rintro e σ ⟨g3, g4, g5, g7, g8, rfl⟩
  cases b with
  | false =>
    show wpS TAB 0 (fi 3) (thenQ _ _) e _
    simp only [fi, F4]
    simp [-endQ, g7, g8]
    exact fi_end (by simp)
  | true =>
    have hs := hsm rfl
    refine wpS_cut (fun e σ => e.get 3 = .box 0 0 ∧ e.get 4 = .box 1 0 ∧ e.get 5 = .box 2 0 ∧ σ = ⟨[encCv c, encQv q, encW w], []⟩) (by simp [fi, F4, g3, g4, g5, g7, g8]) ?_
    clear g3 g4 g5 g7 g8 e
    rintro e σ ⟨g3, g4, g5, rfl⟩
    refine wpS_cut (fun e σ => e.get 3 = .box 0 0 ∧ e.get 4 = .box 1 0 ∧ e.get 5 = .box 2 0 ∧ e.get 9 = mkI (mAllC c q w) ∧ σ = ⟨[encCv c, encQv q, encW w], []⟩) (by simp only [encW] at hall ⊢; simp [fi, F4, g3, g4, g5, hT', impL, hall]) ?_
    clear g3 g4 g5 e
    rintro e σ ⟨g3, g4, g5, g9, rfl⟩
    refine wpS_cut (fun e σ => e.get 3 = .box 0 0 ∧ e.get 4 = .box 1 0 ∧ e.get 5 = .box 2 0 ∧ e.get 9 = mkI (mAllC c q w) ∧ e.get 10 = .box 3 0 ∧ σ = ⟨[encCv c, encQv q, encW w, encT (mTree w.p).1], []⟩) (by rw [encT_eq] at htree; simp only [encW]; simp [fi, F4, g3, g4, g5, g9, hT', impL, htree, encT_eq]) ?_
    clear g3 g4 g5 g9 e
    rintro e σ ⟨g3, g4, g5, g9, g10, rfl⟩
    refine wpS_seq2 (fi_7 (encCv c) _ (encW w) q hs.2.1 _ e g3 g4 g5 g9 g10) ?_
    clear g3 g4 g5 g9 g10 e
    rintro e σ ⟨g3, g4, g5, g9, g10, g12, rfl⟩
    obtain ⟨X, hX⟩ : ∃ X, ((2 ^ q.occ.length : Nat) : Int) = X := ⟨_, rfl⟩
    have hX1 : w64 (X - 1) = X - 1 := by
      have h2 : (2 : Nat) ^ q.occ.length ≤ 1048576 := Nat.le_trans (Nat.pow_le_pow_right (by decide) hs.2.1) (by decide)
      have h3 : 1 ≤ (2 : Nat) ^ q.occ.length := Nat.one_le_two_pow
      rw [← hX]
      generalize 2 ^ q.occ.length = Y at *
      exact w64_id (by omega) (by omega)
    rw [hX] at g12
    show wpS TAB 0 (fi 8) (thenQ (wpS TAB 0 (fi 9) _) _) e _
    refine fi_8 hT c hc q hq w hf X hX hX1 e g3 g4 g5 g9 g10 g12 _ ?_ (fun e' σ' h => fi_end h)
    intro hm e' q3 q4 q5 q9 q10 q12
    exact fi_9 hT c hc q hq w hf X hX hX1 hm e' q3 q4 q5 q9 q10 q12 _ (fun e' σ' h => fi_end h)
end Go.Rb

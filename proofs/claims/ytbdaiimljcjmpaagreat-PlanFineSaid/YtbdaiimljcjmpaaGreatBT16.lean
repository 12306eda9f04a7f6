/- May something be asked? The whole. A set's columns; the places of expressions by their sets. Which columns must be the same. May a part of a plan be? May a part of a plan be? The whole. May a plan be? The statements' guards: sizes. Here it is enough that they answer. The statements' guards: few, far, small. -/
import Derived.Test.YtbdaiimljcjmpaaGreatBT15
namespace Go.Rb
set_option linter.unusedVariables false
set_option linter.unusedSimpArgs false
set_option maxRecDepth 8000
variable {T : Tab}
theorem qmay_ok (hT : HasX T) (c : Cat) (hc : c.length < 9223372036854775808) (q : Query) (hf : q.Fit) : Ret T 62 [encC c, encQ q] (.bool (mQMay c q)) := by
  have hT' := hT.toHas
  have h1 := dataMay_ok hT' c hc
  unfold Ret at h1
  have h2 := anyInt_ok hT' q.occ 146 [] [.box 0 0] (outside c) .no ⟨[encC c, encQv q], []⟩ (by rw [imp_has hT']; rfl) (fun x _ => table_ok hT' c [encQv q] x) hf.1
  refine ret_of (by simp) (callW hT' L62 rfl ?_)
  obtain ⟨N1, n1⟩ : ∃ N1 : Int, (q.occ.length : Int) = N1 := ⟨_, rfl⟩
  obtain ⟨N2, n2⟩ : ∃ N2 : Int, (q.p.length : Int) = N2 := ⟨_, rfl⟩
  have hmay : mHead c q = (mDataMay c && decide (1 ≤ N1) && decide (N1 ≤ 4) && !q.occ.any (outside c) && decide (N2 ≤ 6)) := by
    unfold mHead
    have e1 : decide (1 ≤ q.occ.length) = decide (1 ≤ N1) := by rw [decide_eq_decide]; omega
    have e2 : decide (q.occ.length ≤ 4) = decide (N1 ≤ 4) := by rw [decide_eq_decide]; omega
    have e3 : decide (q.p.length ≤ 6) = decide (N2 ≤ 6) := by rw [decide_eq_decide]; omega
    rw [e1, e2, e3]
  refine wpS_cut (fun e σ => e.get 2 = .box 0 0 ∧ e.get 3 = .box 1 0 ∧ σ = ⟨[encC c, encQv q], []⟩) (by simp [encC, encQ]) ?_
  rintro e σ ⟨g2, g3, rfl⟩
  refine wpS_cut (fun e σ => e.get 2 = .box 0 0 ∧ e.get 3 = .box 1 0 ∧ e.get 5 = .fn (.func 146) [] [.box 0 0] ∧ σ = ⟨[encC c, encQv q], []⟩) (by simp [g2, g3]) ?_
  clear g2 g3 e
  rintro e σ ⟨g2, g3, g5, rfl⟩
  simp only [encC, encQv, sl] at h1 h2 ⊢
  by_cases hh : mHead c q = true
  · have hm : mQMay c q = (mPreds c q && mTail c q) := by unfold mQMay; rw [hh]; simp
    rw [hmay] at hh
    simp only [Bool.and_eq_true, Bool.not_eq_true', decide_eq_true_eq] at hh
    obtain ⟨⟨⟨⟨q1, q2⟩, q3⟩, q4⟩, q5⟩ := hh
    rw [q1] at h1; rw [q4] at h2
    have q2' : ¬ N1 < 1 := by omega
    have q3' : ¬ 4 < N1 := by omega
    have q5' : ¬ 6 < N2 := by omega
    refine wpS_cut (fun e σ => e.get 2 = .box 0 0 ∧ e.get 3 = .box 1 0 ∧ σ = ⟨[encC c, encQv q], []⟩) ?_ ?_
    · simp [F62, g2, g3, g5, hT', impL, h1, sl, n1, n2, q2', q3', h2, q5', encC]
    clear g2 g3 g5 h1 h2 e
    rintro e σ ⟨g2, g3, rfl⟩
    have h107 := all_ok hT' c q1 q 149 [] (fun _ => true) (by rw [imp_has hT']; rfl) (by simp) (fun o _ => true_ok hT' o) [encC c, encQv q] [] (by simp)
    obtain ⟨v, rows, hcall, hg⟩ := h107
    obtain ⟨o, hv⟩ := grown_sl hg
    refine wpS_cut (fun e σ => e.get 3 = .box 1 0 ∧ e.get 6 = .sl o ((mTellsAll c q).map mkI) ∧ σ = ⟨[encC c, encQv q], rows⟩) ?_ ?_
    · simp only [encC, encQ] at hcall
      simp [g2, g3, hT', impL, hcall, hv, encC, mTellsAll]
    clear g2 g3 hcall e
    rintro e σ ⟨g3, g6, rfl⟩
    have hA : (mTellsAll c q).length ≤ 16 := mAllAt_all c q1 q _
    change wpS T 0 (.seq loop62 tail62) _ e _
    show wpS T 0 loop62 (thenQ (wpS T 0 tail62 _) _) e _
    have hlp : (encEL q.p).length = q.p.length := encEL_length _
    simp only [loop62, F62]
    simp [-endQ, g3, g6]
    refine preds_loop hT 0 q hf (mTellsAll c q) (by omega) o (encC c) q.p.length 0 _ [] rows _ (by omega) ?_ ?_ ?_ ?_ ?_ ?_ ?_
    all_goals simp [-endQ, g3, g6]
    · intro hp e' more' h3 h6
      refine qmay_tail hT c q1 q hf o e' more' rows _ h3 h6 ?_
      intro e'' σ'' h4
      have : mPreds c q = true := by unfold mPreds; simpa using hp
      simp [h4, hm, this, F62]
    · intro x hx hxx e' σ' h4
      have : mPreds c q = false := by
        rw [Bool.eq_false_iff]; intro hp
        unfold mPreds at hp
        simp only [List.all_eq_true, Bool.and_eq_true, Bool.not_eq_true', List.isEmpty_eq_false_iff] at hp
        have := hp x hx
        have h5 := hxx this.1
        rw [this.2] at h5; cases h5
      simp [h4, hm, this, F62]
  · have hm : mQMay c q = false := by unfold mQMay; simp [hh]
    rw [hm]
    cases q1 : mDataMay c <;> rw [q1] at h1
    · simp [F62, g2, g3, hT', impL, h1]
    · by_cases q2 : N1 < 1
      · simp [F62, g2, g3, hT', impL, h1, sl, n1, n2, q2]
      · by_cases q3 : 4 < N1
        · simp [F62, g2, g3, hT', impL, h1, sl, n1, n2, q2, q3]
        · cases q4 : q.occ.any (outside c) <;> rw [q4] at h2
          · by_cases q5 : 6 < N2
            · simp [F62, g2, g3, g5, hT', impL, h1, sl, n1, n2, q2, q3, h2, q5]
            · exact absurd (by rw [hmay, q1, q4]; simp; omega) hh
          · simp [F62, g2, g3, g5, hT', impL, h1, sl, n1, n2, q2, q3, h2]
end Go.Rb

namespace Go.Rb
set_option linter.unusedVariables false
set_option linter.unusedSimpArgs false
set_option maxRecDepth 8000
variable {T : Tab}

theorem mHead_data {c : Cat} {q : Query} (h : mHead c q = true) : mDataMay c = true := by
  unfold mHead at h; simp only [Bool.and_eq_true] at h; exact h.1.1.1.1
theorem mQMay_head {c : Cat} {q : Query} (h : mQMay c q = true) : mHead c q = true := by
  unfold mQMay at h; simp only [Bool.and_eq_true] at h; exact h.1.1
theorem mQMay_p {c : Cat} {q : Query} (h : mQMay c q = true) : q.p.length ≤ 6 := by
  have := mQMay_head h
  unfold mHead at this; simp only [Bool.and_eq_true, decide_eq_true_eq] at this; exact this.2
theorem mQMay_occ {c : Cat} {q : Query} (h : mQMay c q = true) : 1 ≤ q.occ.length ∧ q.occ.length ≤ 4 := by
  have := mQMay_head h
  unfold mHead at this; simp only [Bool.and_eq_true, decide_eq_true_eq] at this; exact ⟨this.1.1.1.2, this.1.1.2⟩
def hasBit (s : Nat) (o : Nat) : Bool := decide (s / 2 ^ o % 2 = 1)
def mColsQ (c : Cat) (q : Query) (s : Nat) : List Int := if mQMay c q = true then mAll c q (hasBit s) else []
theorem mColsQ_len (c : Cat) (q : Query) (s : Nat) : (mColsQ c q s).length ≤ 16 := by
  unfold mColsQ
  split
  · rename_i h; exact mAllAt_all c (mHead_data (mQMay_head h)) q _
  · simp
theorem colsQ_ok (hT : HasX T) (c : Cat) (hc : c.length < 9223372036854775808) (q : Query) (hf : q.Fit) (s : Nat) (hs : s < 9223372036854775808) : Ret T 32 [encC c, encQ q, mkI s] (sl (mColsQ c q s)) := by
  have hT' := hT.toHas
  have h1 := qmay_ok hT c hc q hf
  unfold Ret at h1
  refine ret_of (by simp) (callW hT' L32 rfl ?_)
  have e1 : encC c = .agg [.sl .no (c.map encD)] := rfl
  have e2 : encQ q = encQv q := rfl
  rw [e1, e2] at h1 ⊢
  cases hm : mQMay c q <;> rw [hm] at h1
  · simp [F32, hT', impL, h1, mColsQ, hm]
    simp [sl]
  · have h107 := all_ok hT' c (mHead_data (mQMay_head hm)) q 108 [mkI s] (hasBit s) (by rw [imp_has hT']; rfl) (by simp) (fun o ho => has_ok hT' s o hs (by omega)) [encC c, encQv q] [] (by simp)
    obtain ⟨v, rows, hcall, hg⟩ := h107
    rw [e1, e2] at hcall
    have hcl := grown_closed hg (closedI _)
    have hst := grown_strip hg
    simp [-endQ, F32, hT', impL, h1, hcall]
    exact end_boxes (B := []) (more := [_, _]) rfl (.inr rfl) (by simp) hcl (by simp) ⟨hcl, by rw [hst, mColsQ, if_pos hm]⟩

def mSetE (e : Expr) : Nat := mOf (mCols e)
theorem mOf_lt (l : List Int) : mOf l < 16 := by
  unfold mOf
  have : ∀ (l : List Int) (s : Nat), s < 16 → l.foldl (fun s c => s ||| 2 ^ occOf c) s < 16 := by
    intro l
    induction l with
    | nil => intro s h; exact h
    | cons x xs ih => intro s h; exact ih _ (or16 h (pow_occ x))
  exact this l 0 (by decide)
theorem ofE_ok (hT : HasX T) (e : Expr) : Ret T 268 [encE e] (mkI (mSetE e)) := by
  have hT' := hT.toHas
  have h1 := exprCols_ok hT e
  have h2 := of_ok hT' (mCols e) (by have := mCols_len e; omega)
  unfold Ret at h1 h2
  refine ret_of (by simp) (callW hT' L268 rfl ?_)
  rw [encE_eq] at h1 ⊢
  rw [sl] at h1
  simp [F268, hT', impL, h1, h2, mSetE]

def mSomeFrom (is : Nat → Bool) : List Expr → Nat → List Int
  | [], _ => []
  | e :: es, i => (if is (mSetE e) then [(i : Int)] else []) ++ mSomeFrom is es (i + 1)
def mSome (q : Query) (is : Nat → Bool) : List Int := mSomeFrom is q.p 0
theorem mSomeFrom_len (is : Nat → Bool) : ∀ (l : List Expr) (i : Nat), (mSomeFrom is l i).length ≤ l.length
  | [], _ => by simp [mSomeFrom]
  | e :: es, i => by
    have := mSomeFrom_len is es (i + 1)
    simp only [mSomeFrom, List.length_append, List.length_cons]
    split <;> simp <;> omega
theorem mSomeFrom_in (is : Nat → Bool) : ∀ (l : List Expr) (i : Nat) (x : Int), x ∈ mSomeFrom is l i → (i : Int) ≤ x ∧ x < i + l.length
  | [], _, x, h => by simp [mSomeFrom] at h
  | e :: es, i, x, h => by
    simp only [mSomeFrom, List.mem_append] at h
    rcases h with h | h
    · split at h
      · simp at h; subst h; simp; omega
      · simp at h
    · have := mSomeFrom_in is es (i + 1) x h
      simp only [List.length_cons]; push_cast at this ⊢; omega
/-- a closure that looks at a set, in the caller's store or beside it -/
def CloS (T : Tab) (g : Nat) (fst cap : List AV) (is : Nat → Bool) (B : List AV) : Prop :=
  (T.imp g = true ∧ ∀ (s : Nat) extra rows, s < 16 → (lim T).call g (fst ++ mkI s :: cap) ⟨B ++ extra, rows⟩ = some (.bool (is s), ⟨B ++ extra, rows⟩)) ∨
  (T.imp g = false ∧ fst.any AV.isB = false ∧ cap = [] ∧ ∀ (s : Nat), s < 16 → pureCall (lim T) g (fst ++ [mkI s]) = some (.bool (is s)))
def body227 : SCode := match F227.body with
  | .seq _ (.seq _ (.seq (.seq _ (.block _ (.loop _ c))) _)) => c
  | _ => .skip
theorem some_loop (hT : HasX T) (fl : Nat) (q : Query) (hq : q.p.length ≤ 1000) (g : Nat) (fst cap : List AV) (is : Nat → Bool) (B : List AV) (R : List Row)
    (H : CloS T g fst cap is B) : ∀ (k i : Nat) (rows : List Row) (v : AV) (es : List Int) (e : Env) (more : List AV) (Q : Q3), k + i = q.p.length → Grown 3 1 R rows v (es.map mkI) → es.length ≤ i →
    e.get 1 = .fn (.func g) fst cap → e.get 5 = v → e.get 9 = .sl .no (encEL q.p) → e.get 10 = mkI q.p.length → e.get 11 = mkI i →
    (∀ e' v' rows' more', Grown 3 1 R rows' v' ((es ++ mSomeFrom is (q.p.drop i) i).map mkI) → e'.get 5 = v' → Q (.exit 0) e' ⟨B ++ more', rows'⟩) →
    LoopW T fl [1, 5, 9, 10, 11] body227 Q e ⟨B ++ more, rows⟩ := by
  have hT' := hT.toHas
  intro k
  induction k with
  | zero =>
    intro i rows v es e more Q hk hg hl h1 h5 h9 h10 h11 hQ
    have : i = q.p.length := by omega
    subst this
    refine loopW_round ?_
    simp [body227, F227, h1, h5, h9, h10, h11]
    refine hQ _ v rows more (by simpa [mSomeFrom] using hg) ?_
    simp
  | succ k ih =>
    intro i rows v es e more Q hk hg hl h1 h5 h9 h10 h11 hQ
    have hi : i < q.p.length := by omega
    have hw : w64 ((i : Int) + 1) = ((i + 1 : Nat) : Int) := by rw [w64_id (by omega) (by omega)]; simp
    have hp : (encEL q.p)[i]? = some (encE q.p[i]) := by rw [encEL_map]; simp [hi]
    have hp' : ∀ h, (encEL q.p)[i]'h = encE q.p[i] := by intro h; rw [List.getElem?_eq_getElem h] at hp; simpa using hp
    rw [List.drop_eq_getElem_cons hi] at hQ
    simp only [mSomeFrom] at hQ
    have h2 := ofE_ok hT q.p[i]
    unfold Ret at h2
    generalize q.p[i] = p at *
    have i268 : T.imp 268 = false := by rw [imp_has hT']; rfl
    rw [encE_eq] at h2
    refine loopW_round ?_
    cases hb : is (mSetE p) with
    | false =>
      have hfin : ∀ e', e'.get 1 = .fn (.func g) fst cap → e'.get 5 = v → e'.get 9 = .sl .no (encEL q.p) → e'.get 10 = mkI q.p.length → e'.get 11 = mkI (i + 1 : Nat) → LoopW T fl [1, 5, 9, 10, 11] body227 Q e' ⟨B ++ (more ++ [encE p]), rows⟩ := by
        intro e' g1 g5 g9 g10 g11
        refine ih (i + 1) rows v es e' (more ++ [encE p]) Q (by omega) hg (by omega) g1 g5 g9 g10 g11 ?_
        simpa [hb] using hQ
      rw [encE_eq] at hfin
      rcases H with ⟨hg, H⟩ | ⟨hg, hn, rfl, H⟩
      · have hHH := H (mSetE p) (more ++ [encE p]) rows (mOf_lt _)
        rw [hb, encE_eq] at hHH
        simp [body227, F227, h1, h5, h9, h10, h11, hi, hp', i268, hg, h2, encE_eq, hHH, hw]
        refine hfin _ ?_ ?_ ?_ ?_ ?_ <;> simp [h9, h10]
      · have hHH := H (mSetE p) (mOf_lt _)
        rw [hb] at hHH
        simp [body227, F227, h1, h5, h9, h10, h11, hi, hp', i268, hg, hn, h2, encE_eq, hHH, hw]
        refine hfin _ ?_ ?_ ?_ ?_ ?_ <;> simp [h9, h10]
    | true =>
      obtain ⟨v', rows', ha, hg'⟩ := hg.append (B := B ++ (more ++ [encE p])) (o := .full) (bytes := 8) (ys := [mkI i]) (by simp) (by simp [mostBytes]; omega) (by simp) (by simp)
      have hfin : ∀ e', e'.get 1 = .fn (.func g) fst cap → e'.get 5 = v' → e'.get 9 = .sl .no (encEL q.p) → e'.get 10 = mkI q.p.length → e'.get 11 = mkI (i + 1 : Nat) → LoopW T fl [1, 5, 9, 10, 11] body227 Q e' ⟨B ++ (more ++ [encE p]), rows'⟩ := by
        intro e' g1 g5 g9 g10 g11
        refine ih (i + 1) rows' v' (es ++ [(i : Int)]) e' (more ++ [encE p]) Q (by omega) (by simpa using hg') (by simp; omega) g1 g5 g9 g10 g11 ?_
        simpa [hb] using hQ
      rw [encE_eq] at hfin ha
      rcases H with ⟨hg, H⟩ | ⟨hg, hn, rfl, H⟩
      · have hHH := H (mSetE p) (more ++ [encE p]) rows (mOf_lt _)
        rw [hb, encE_eq] at hHH
        simp [body227, F227, h1, h5, h9, h10, h11, hi, hp', i268, hg, h2, encE_eq, hHH, hw, ha]
        refine hfin _ ?_ ?_ ?_ ?_ ?_ <;> simp [h9, h10]
      · have hHH := H (mSetE p) (mOf_lt _)
        rw [hb] at hHH
        simp [body227, F227, h1, h5, h9, h10, h11, hi, hp', i268, hg, hn, h2, encE_eq, hHH, hw, ha]
        refine hfin _ ?_ ?_ ?_ ?_ ?_ <;> simp [h9, h10]
theorem some_ok (hT : HasX T) (q : Query) (hq : q.p.length ≤ 1000) (g : Nat) (fst cap : List AV) (is : Nat → Bool) (B : List AV) (R : List Row) (hB : AV.closedL B = true)
    (H : CloS T g fst cap is B) :
    ∃ v rows', (lim T).call 227 [encQ q, .fn (.func g) fst cap] ⟨B, R⟩ = some (v, ⟨B, rows'⟩) ∧ Grown 3 1 R rows' v ((mSome q is).map mkI) := by
  have hT' := hT.toHas
  have hw : CallW T 227 [encQ q, .fn (.func g) fst cap] ⟨B, R⟩ (fun v σ' => ∃ rows', σ' = ⟨B, rows'⟩ ∧ Grown 3 1 R rows' v ((mSome q is).map mkI)) := by
    refine callW hT' L227 rfl ?_
    simp [-endQ, F227, encQ]
    refine some_loop hT B.length q hq g fst cap is B R H q.p.length 0 R (.sl .full []) [] _ [_] _ (by omega) (grown_nil _ _ _) (by simp) ?_ ?_ ?_ ?_ ?_ ?_
    all_goals simp [-endQ]
    intro e' v' rows' more' hg h5
    have hcl := grown_closed hg (by have := closedI (mSome q is); simpa [mSome] using this)
    refine end_boxes rfl (.inr rfl) (by simp [h5]) hcl hB ⟨rows', rfl, ?_⟩
    simpa [mSome] using hg
  obtain ⟨v, σ', h1, rows', h2, h3⟩ := hw
  exact ⟨v, rows', by rw [h1, h2], h3⟩
def holds (s t : Nat) : Bool := decide (s &&& t = t)
def mOwn (q : Query) (s : Nat) : List Int := mSome q (holds s)
theorem own_ok (hT : HasX T) (q : Query) (hq : q.p.length ≤ 1000) (s : Nat) (hs : s < 9223372036854775808) : Ret T 192 [encQ q, mkI s] (sl (mOwn q s)) := by
  have hT' := hT.toHas
  have h := some_ok hT q hq 155 [mkI s] [] (holds s) [encQv q] [] (by simp) (.inr ⟨by rw [imp_has hT']; rfl, by simp, rfl, fun t ht => holds_ok hT' s t hs (by omega)⟩)
  obtain ⟨v, rows, hcall, hg⟩ := h
  have e2 : encQ q = encQv q := rfl
  rw [e2] at hcall
  have hcl := grown_closed hg (closedI _)
  have hst := grown_strip hg
  refine ret_of (by simp) (callW hT' L192 rfl ?_)
  rw [e2]
  simp [-endQ, F192, hT', impL, hcall]
  exact end_boxes (B := []) (more := [_]) rfl (.inr rfl) (by simp) hcl (by simp) ⟨hcl, by rw [hst]; rfl⟩
def newIs (a b : Nat) (t : Nat) : Bool := holds (a ||| b) t && !holds a t && !holds b t
def mNew (q : Query) (a b : Nat) : List Int := mSome q (newIs a b)
theorem new1_ok (hT : Has T) (q : Query) (a b : Nat) (ha : a < 16) (hb : b < 16) (t : Nat) (extra : List AV) (rows : List Row) (ht : t < 16) :
    (lim T).call 228 ([] ++ mkI t :: [.box 3 0, .box 1 0, .box 2 0]) ⟨[encQv q, mkI a, mkI b, mkI (a ||| b : Nat)] ++ extra, rows⟩ = some (.bool (newIs a b t), ⟨[encQv q, mkI a, mkI b, mkI (a ||| b : Nat)] ++ extra, rows⟩) := by
  have w1 := holds_ok hT (a ||| b) t (by have := or16 ha hb; omega) (by omega)
  have w2 := holds_ok hT a t (by omega) (by omega)
  have w3 := holds_ok hT b t (by omega) (by omega)
  unfold Ret at w1 w2 w3
  change pureCall _ _ _ = some (.bool (holds (a ||| b) t)) at w1
  change pureCall _ _ _ = some (.bool (holds a t)) at w2
  change pureCall _ _ _ = some (.bool (holds b t)) at w3
  have hw : CallW T 228 [mkI t, .box 3 0, .box 1 0, .box 2 0] ⟨[encQv q, mkI a, mkI b, mkI (a ||| b : Nat)] ++ extra, rows⟩ (fun v σ' => v = .bool (newIs a b t) ∧ σ' = ⟨[encQv q, mkI a, mkI b, mkI (a ||| b : Nat)] ++ extra, rows⟩) := by
    refine callW hT L228 rfl ?_
    unfold newIs
    generalize holds (a ||| b) t = W1 at *
    generalize holds a t = W2 at *
    generalize holds b t = W3 at *
    cases W1
    · simp [-endQ, F228, hT, impL, w1]
      exact end_same (v := .bool false) (σ := ⟨[encQv q, mkI a, mkI b, mkI (a ||| b : Nat)] ++ extra, rows⟩) (.inr rfl) (by simp) ⟨rfl, rfl⟩
    · cases W2
      · simp [-endQ, F228, hT, impL, w1, w2, w3]
        exact end_same (v := .bool (!W3)) (σ := ⟨[encQv q, mkI a, mkI b, mkI (a ||| b : Nat)] ++ extra, rows⟩) (.inr rfl) (by simp) ⟨by simp, rfl⟩
      · simp [-endQ, F228, hT, impL, w1, w2, w3]
        exact end_same (v := .bool false) (σ := ⟨[encQv q, mkI a, mkI b, mkI (a ||| b : Nat)] ++ extra, rows⟩) (.inr rfl) (by simp) ⟨rfl, rfl⟩
  obtain ⟨v, σ', h1, h2, h3⟩ := hw
  have := h1
  rw [h2, h3] at this
  exact this
theorem new_ok (hT : HasX T) (q : Query) (hq : q.p.length ≤ 1000) (a b : Nat) (ha : a < 16) (hb : b < 16) : Ret T 153 [encQ q, mkI a, mkI b] (sl (mNew q a b)) := by
  have hT' := hT.toHas
  have h := some_ok hT q hq 228 [] [.box 3 0, .box 1 0, .box 2 0] (newIs a b) [encQv q, mkI a, mkI b, mkI (a ||| b : Nat)] [] (by simp) (.inl ⟨by rw [imp_has hT']; rfl, fun t extra rows ht => new1_ok hT' q a b ha hb t extra rows ht⟩)
  obtain ⟨v, rows, hcall, hg⟩ := h
  have e2 : encQ q = encQv q := rfl
  rw [e2] at hcall
  have hcl := grown_closed hg (closedI _)
  have hst := grown_strip hg
  have hor := or_i64 a b (by omega) (by omega)
  refine ret_of (by simp) (callW hT' L153 rfl ?_)
  rw [e2]
  simp [-endQ, F153, hT', impL, hor, hcall]
  exact end_boxes (B := []) (more := [_, _, _, _]) rfl (.inr rfl) (by simp) hcl (by simp) ⟨hcl, by rw [hst]; rfl⟩
end Go.Rb

namespace Go.Rb
set_option linter.unusedVariables false
set_option linter.unusedSimpArgs false
set_option maxRecDepth 8000
variable {T : Tab}

theorem strip_flat {u : AV} (h : u.strip.flat = true) : u.strip = u := by cases u <;> simp [AV.flat] at h ⊢
theorem boxCall_of {f : Nat} {l m : List AV} {σ : St} {v : AV} (hs : snapL σ l = some m) (h : Ret T f m v) (hv : v.flat = true) : boxCall (lim T) f l σ = some v := by
  unfold Ret pureCall at h
  unfold boxCall
  rw [hs]
  split at h
  · rename_i hc
    simp only [hc, if_true]
    split at h
    · rename_i u x hu
      split at h
      · injection h with h
        subst h
        have := strip_flat hv
        rw [this] at hv
        simp only [hv, if_true, this]
      · cases h
    · cases h
  · cases h
def pairIs (a b : Nat) (p : Int × Int) : Bool := holds a (mOf [p.1]) && holds b (mOf [p.2])
def encPr (p : Int × Int) : AV := .agg [mkI p.1, mkI p.2]
def body66 : SCode := match F66.body with
  | .seq _ (.seq _ (.seq (.seq _ (.block _ (.loop _ c))) _)) => c
  | _ => .skip
def inner66 : SCode := match body66 with
  | .seq _ (.seq _ (.seq (.block _ (.seq _ (.seq _ (.seq _ (.seq _ (.block _ (.loop _ c))))))) _)) => c
  | _ => .skip
theorem pairs_inner (hT : Has T) (fl : Nat) (b0 : AV) (R : List Row) (a b : Nat) (ha : a < 16) (hb : b < 16) (g3 g18 g19 g20 : AV) (l : List (Int × Int)) (hl : l.length ≤ 1000) (v : AV) (rows : List Row) (es : List (Int × Int)) (hes : es.length ≤ 1000) (hg : Grown 29 2 R rows v (es.map encPr)) : ∀ (k i : Nat) (e : Env) (more : List AV) (Q : Q3), k + i = l.length →
    e.get 1 = mkI a → e.get 2 = mkI b → e.get 3 = g3 → e.get 7 = v → e.get 18 = g18 → e.get 19 = g19 → e.get 20 = g20 → e.get 42 = .sl .full (l.map encPr) → e.get 43 = mkI l.length → e.get 44 = mkI i →
    (∀ e' v' rows' more', Grown 29 2 R rows' v' ((es ++ ((l.drop i).find? (pairIs a b)).toList).map encPr) → e'.get 1 = mkI a → e'.get 2 = mkI b → e'.get 3 = g3 → e'.get 7 = v' → e'.get 18 = g18 → e'.get 19 = g19 → e'.get 20 = g20 → Q (.exit 2) e' ⟨b0 :: more', rows'⟩) →
    LoopW T fl [1, 2, 3, 7, 18, 19, 20, 42, 43, 44] inner66 Q e ⟨b0 :: more, rows⟩ := by
  intro k
  induction k with
  | zero =>
    intro i e more Q hk h1 h2 h3 h7 h18 h19 h20 h42 h43 h44 hQ
    have : i = l.length := by omega
    subst this
    refine loopW_round ?_
    simp [inner66, body66, F66, h1, h2, h3, h7, h18, h19, h20, h42, h43, h44]
    refine hQ _ v rows more (by simpa using hg) ?_ ?_ ?_ ?_ ?_ ?_ ?_
    all_goals simp
  | succ k ih =>
    intro i e more Q hk h1 h2 h3 h7 h18 h19 h20 h42 h43 h44 hQ
    have hi : i < l.length := by omega
    have hw : w64 ((i : Int) + 1) = ((i + 1 : Nat) : Int) := by rw [w64_id (by omega) (by omega)]; simp
    obtain ⟨p, hp⟩ : ∃ p, l[i]'hi = p := ⟨_, rfl⟩
    have hp' : ∀ h, l[i]'h = p := fun _ => hp
    rw [List.drop_eq_getElem_cons hi, hp, List.find?_cons] at hQ
    have w1 := of_ok hT [p.1] (by simp)
    have w2 := of_ok hT [p.2] (by simp)
    have hx1 : boxCall (lim T) 156 [.bsl (more.length + 1) 0 1 1 false] ⟨b0 :: (more ++ [.agg [mkI p.1, mkI p.2]]), rows⟩ = some (mkI (mOf [p.1])) := by
      refine boxCall_of ?_ w1 rfl
      simp [snapL, snap, snapEls]
    have hx2 : boxCall (lim T) 156 [.bsl (more.length + 1) 1 1 1 false] ⟨b0 :: (more ++ [.agg [mkI p.1, mkI p.2]]), rows⟩ = some (mkI (mOf [p.2])) := by
      refine boxCall_of ?_ w2 rfl
      simp [snapL, snap, snapEls]
    have w3 := holds_ok hT a (mOf [p.1]) (by omega) (by have := mOf_lt [p.1]; omega)
    have w4 := holds_ok hT b (mOf [p.2]) (by omega) (by have := mOf_lt [p.2]; omega)
    unfold Ret at w3 w4
    change pureCall _ _ _ = some (.bool (holds a (mOf [p.1]))) at w3
    change pureCall _ _ _ = some (.bool (holds b (mOf [p.2]))) at w4
    have hno : pairIs a b p = false → ∀ e', e'.get 1 = mkI a → e'.get 2 = mkI b → e'.get 3 = g3 → e'.get 7 = v → e'.get 18 = g18 → e'.get 19 = g19 → e'.get 20 = g20 → e'.get 42 = .sl .full (l.map encPr) → e'.get 43 = mkI l.length → e'.get 44 = mkI (i + 1 : Nat) → LoopW T fl [1, 2, 3, 7, 18, 19, 20, 42, 43, 44] inner66 Q e' ⟨b0 :: (more ++ [.agg [mkI p.1, mkI p.2]]), rows⟩ := by
      intro hf e' q1 q2 q3 q7 q18 q19 q20 q42 q43 q44
      rw [hf] at hQ
      exact ih (i + 1) e' _ Q (by omega) q1 q2 q3 q7 q18 q19 q20 q42 q43 q44 hQ
    obtain ⟨v', rows', hap, hg'⟩ := hg.append (B := b0 :: (more ++ [.agg [mkI p.1, mkI p.2]])) (o := .full) (bytes := 16) (ys := [.agg [mkI p.1, mkI p.2]]) (by simp) (by simp [mostBytes]; omega) (by simp) (by intro y hy; obtain ⟨z, _, rfl⟩ := List.mem_map.1 hy; rfl)
    have hyes : pairIs a b p = true → ∀ e', e'.get 1 = mkI a → e'.get 2 = mkI b → e'.get 3 = g3 → e'.get 7 = v' → e'.get 18 = g18 → e'.get 19 = g19 → e'.get 20 = g20 → Q (.exit 2) e' ⟨b0 :: (more ++ [.agg [mkI p.1, mkI p.2]]), rows'⟩ := by
      intro hf e' q1 q2 q3 q7 q18 q19 q20
      rw [hf] at hQ
      refine hQ e' v' rows' _ ?_ q1 q2 q3 q7 q18 q19 q20
      simpa [encPr] using hg'
    unfold pairIs at hno hyes
    refine loopW_round ?_
    generalize hW1 : holds a (mOf [p.1]) = W1 at *
    generalize hW2 : holds b (mOf [p.2]) = W2 at *
    cases W1
    · simp [inner66, body66, F66, h1, h2, h3, h7, h18, h19, h20, h42, h43, h44, hi, hp', encPr, hT, impL, hx1, hx2, w3, w4, hw]
      refine hno (by simp) _ ?_ ?_ ?_ ?_ ?_ ?_ ?_ ?_ ?_ ?_ <;> simp [encPr, h18, h19, h20, h42]
    · cases W2
      · simp [inner66, body66, F66, h1, h2, h3, h7, h18, h19, h20, h42, h43, h44, hi, hp', encPr, hT, impL, hx1, hx2, w3, w4, hw]
        refine hno (by simp) _ ?_ ?_ ?_ ?_ ?_ ?_ ?_ ?_ ?_ ?_ <;> simp [encPr, h18, h19, h20, h42]
      · simp [inner66, body66, F66, h1, h2, h3, h7, h18, h19, h20, h42, h43, h44, hi, hp', encPr, hT, impL, hx1, hx2, w3, w4, hw, hap]
        refine hyes (by simp) _ ?_ ?_ ?_ ?_ ?_ ?_ ?_ <;> simp [h18, h19, h20]

def swaps (x : Int × Int × Bool) : List (Int × Int) := if x.2.2 = true then [(x.1, x.2.1), (x.2.1, x.1)] else []
def mPairAt (q : Query) (a b : Nat) (i : Int) : List (Int × Int) :=
  match q.p[i.toNat]? with
  | some e => ((swaps (mExprPair e)).find? (pairIs a b)).toList
  | none => []
def mPairs (q : Query) (a b : Nat) : List (Int × Int) := (mNew q a b).flatMap (mPairAt q a b)
theorem mPairAt_len (q : Query) (a b : Nat) (i : Int) : (mPairAt q a b i).length ≤ 1 := by
  unfold mPairAt
  split
  · cases List.find? (pairIs a b) (swaps (mExprPair _)) <;> simp
  · simp
theorem pairs_loop (hT : HasX T) (fl : Nat) (q : Query) (hf : q.Fit) (a b : Nat) (ha : a < 16) (hb : b < 16) (R : List Row) (l : List Int) (hl : l.length ≤ 900) (hin : ∀ x ∈ l, 0 ≤ x ∧ x < q.p.length) : ∀ (k i : Nat) (rows : List Row) (v : AV) (es : List (Int × Int)) (e : Env) (more : List AV) (Q : Q3), k + i = l.length → Grown 29 2 R rows v (es.map encPr) → es.length ≤ i →
    e.get 1 = mkI a → e.get 2 = mkI b → e.get 3 = .box 0 0 → e.get 7 = v → e.get 18 = .sl .no (l.map mkI) → e.get 19 = mkI l.length → e.get 20 = mkI i →
    (∀ e' v' rows' more', Grown 29 2 R rows' v' ((es ++ (l.drop i).flatMap (mPairAt q a b)).map encPr) → e'.get 7 = v' → Q (.exit 0) e' ⟨encQv q :: more', rows'⟩) →
    LoopW T fl [1, 2, 3, 7, 18, 19, 20] body66 Q e ⟨encQv q :: more, rows⟩ := by
  have hT' := hT.toHas
  intro k
  induction k with
  | zero =>
    intro i rows v es e more Q hk hg hes h1 h2 h3 h7 h18 h19 h20 hQ
    have : i = l.length := by omega
    subst this
    refine loopW_round ?_
    simp [body66, F66, h1, h2, h3, h7, h18, h19, h20]
    refine hQ _ v rows more (by simpa using hg) ?_
    simp
  | succ k ih =>
    intro i rows v es e more Q hk hg hes h1 h2 h3 h7 h18 h19 h20 hQ
    have hi : i < l.length := by omega
    have hw : w64 ((i : Int) + 1) = ((i + 1 : Nat) : Int) := by rw [w64_id (by omega) (by omega)]; simp
    obtain ⟨n, hn⟩ : ∃ n, l[i]'hi = n := ⟨_, rfl⟩
    have hn' : ∀ h, l[i]'h = n := fun _ => hn
    have hnin := hin n (by rw [← hn]; exact List.getElem_mem _)
    rw [List.drop_eq_getElem_cons hi, hn, List.flatMap_cons] at hQ
    have hn1 : n.toNat < q.p.length := by omega
    obtain ⟨p, hp⟩ : ∃ p, q.p[n.toNat]'hn1 = p := ⟨_, rfl⟩
    have hp1 : q.p[n.toNat]? = some p := by rw [List.getElem?_eq_getElem hn1, hp]
    have hpe : (encEL q.p)[n.toNat]? = some (encE p) := by rw [encEL_map]; simp [hp1]
    have hp' : ∀ h, (encEL q.p)[n.toNat]'h = encE p := by intro h; rw [List.getElem?_eq_getElem h] at hpe; simpa using hpe
    have hat : mPairAt q a b n = ((swaps (mExprPair p)).find? (pairIs a b)).toList := by unfold mPairAt; rw [hp1]
    have hpf : p.Fit := hf.2.2.2.2 p (by rw [← hp]; exact List.getElem_mem _)
    have w1 := exprPair_ok hT' p hpf
    unfold Ret at w1
    rw [encE_eq] at w1
    generalize hx : mExprPair p = x at *
    obtain ⟨x, y, is⟩ := x
    simp only at w1
    have h0n : 0 ≤ n := hnin.1
    refine loopW_round ?_
    cases is with
    | false =>
      have hat' : mPairAt q a b n = [] := by rw [hat]; simp [swaps]
      rw [hat'] at hQ
      simp [body66, F66, h1, h2, h3, h7, h18, h19, h20, hi, hn', h0n, hn1, hp', encE_eq, hT', impL, w1, hw]
      refine ih (i + 1) rows v es _ more Q (by omega) hg (by omega) ?_ ?_ ?_ ?_ ?_ ?_ ?_ (by simpa using hQ)
      all_goals simp [h18, h19]
    | true =>
      simp [body66, F66, h1, h2, h3, h7, h18, h19, h20, hi, hn', h0n, hn1, hp', encE_eq, hT', impL, w1]
      refine pairs_inner hT' fl (encQv q) R a b ha hb (.box 0 0) (.sl .no (l.map mkI)) (mkI l.length) (mkI i) [(x, y), (y, x)] (by simp) v rows es (by omega) hg 2 0 _ more _ (by simp) ?_ ?_ ?_ ?_ ?_ ?_ ?_ ?_ ?_ ?_ ?_
      all_goals simp [encPr]
      intro e' v' rows' more' hg' g1 g2 g3 g7 g18 g19 g20
      simp [g1, g2, g3, g7, g18, g19, g20, hw]
      refine ih (i + 1) rows' v' (es ++ mPairAt q a b n) _ more' Q (by omega) (by rw [hat]; simpa [swaps] using hg') ?_ ?_ ?_ ?_ ?_ ?_ ?_ ?_ ?_
      · have := mPairAt_len q a b n
        simp; omega
      all_goals simp [g1, g2, g3, g7, g18, g19]
      intro e'' v'' rows'' more'' hg'' g7''
      exact hQ e'' v'' rows'' more'' (by simpa using hg'') g7''
def slPr (l : List (Int × Int)) : AV := .sl .no (l.map encPr)
@[simp] theorem encPr_closed (p : Int × Int) : (encPr p).closed = true := by simp [encPr]
@[simp] theorem encPr_strip (p : Int × Int) : (encPr p).strip = encPr p := by simp [encPr]
theorem closedPr (l : List (Int × Int)) : AV.closedL (l.map encPr) = true := by simp [closedL_all]
theorem grown_stripPr {e size : Nat} {R rows : List Row} {v : AV} {l : List (Int × Int)} (h : Grown e size R rows v (l.map encPr)) : v.strip = slPr l := by
  rcases h with ⟨hl, rfl, rfl⟩ | ⟨ver, rfl, rfl⟩
  · simp at hl; subst hl; simp [slPr]
  · simp [slPr, stripL_map, Function.comp_def]
theorem pairs_ok (hT : HasX T) (q : Query) (hf : q.Fit) (hq : q.p.length ≤ 900) (a b : Nat) (ha : a < 16) (hb : b < 16) : Ret T 66 [encQ q, mkI a, mkI b] (slPr (mPairs q a b)) := by
  have hT' := hT.toHas
  have w1 := new_ok hT q (by omega) a b ha hb
  unfold Ret at w1
  have e2 : encQ q = encQv q := rfl
  rw [e2] at w1
  rw [sl] at w1
  refine ret_of (by simp) (callW hT' L66 rfl ?_)
  rw [AV.stripL, encQ_strip, e2]
  simp [-endQ, F66, hT', impL, w1]
  refine pairs_loop hT 0 q hf a b ha hb [] (mNew q a b) ?_ ?_ (mNew q a b).length 0 [] (.sl .full []) [] _ [] _ (by omega) (grown_nil _ _ _) (by simp) ?_ ?_ ?_ ?_ ?_ ?_ ?_ ?_
  · have := mSomeFrom_len (newIs a b) q.p 0
    unfold mNew mSome; omega
  · intro x hx
    have := mSomeFrom_in (newIs a b) q.p 0 x hx
    simpa using this
  all_goals simp [-endQ]
  intro e' v' rows' more' hg h7
  have hg2 : Grown 29 2 [] rows' v' ((mPairs q a b).map encPr) := by simpa [mPairs] using hg
  have hcl := grown_closed hg2 (closedPr _)
  have hst := grown_stripPr hg2
  exact end_boxes (B := []) (more := _ :: _) rfl (.inr rfl) (by simp [h7]) hcl (by simp) ⟨hcl, hst⟩
end Go.Rb

namespace Go.Rb
set_option linter.unusedVariables false
set_option linter.unusedSimpArgs false
set_option maxRecDepth 8000
variable {T : Tab}

@[simp] theorem slPr_isB (l : List (Int × Int)) : (slPr l).isB = false := rfl
@[simp] theorem sl_isB (l : List Int) : (sl l).isB = false := rfl
def body257 : SCode := match F257.body with
  | .seq _ (.seq (.seq _ (.block _ (.loop _ c))) _) => c
  | _ => .skip
theorem idxPr_loop (hT : Has T) (fl : Nat) (l : List (Int × Int)) (p : Int × Int) (hlen : l.length < 9223372036854775808) : ∀ (k i : Nat) (e : Env) (Q : Q3), k + i = l.length → e.get 0 = slPr l → e.get 3 = .box 0 0 → e.get 7 = mkI l.length → e.get 8 = mkI i →
    (mFind (fun x => decide (p = x)) (l.drop i) i = -1 → ∀ e', Q (.exit 0) e' ⟨[encPr p], []⟩) → (∀ e', e'.get 4 = mkI (mFind (fun x => decide (p = x)) (l.drop i) i) → Q .ret e' ⟨[encPr p], []⟩) → LoopW T fl [0, 3, 7, 8] body257 Q e ⟨[encPr p], []⟩ := by
  intro k
  induction k with
  | zero =>
    intro i e Q hk h0 h1 h7 h8 hQ1 hQ2
    have : i = l.length := by omega
    subst this
    refine loopW_round ?_
    simp [body257, F257, h0, h1, h7, h8]
    exact hQ1 (by simp [mFind]) _
  | succ k ih =>
    intro i e Q hk h0 h1 h7 h8 hQ1 hQ2
    have hi : i < l.length := by omega
    have hw : w64 ((i : Int) + 1) = ((i + 1 : Nat) : Int) := by rw [w64_id (by omega) (by omega)]; simp
    rw [List.drop_eq_getElem_cons hi] at hQ1 hQ2
    simp only [mFind] at hQ1 hQ2
    have hx' : ∀ h, l[i]'h = l[i]'hi := fun _ => rfl
    generalize l[i]'hi = x at *
    obtain ⟨x1, x2⟩ := x
    obtain ⟨p1, p2⟩ := p
    refine loopW_round ?_
    by_cases hv : p1 = x1 ∧ p2 = x2
    · obtain ⟨rfl, rfl⟩ := hv
      simp at hQ2
      simp [body257, F257, h0, slPr, encPr, h1, h7, h8, hi, hx']
      refine hQ2 _ ?_
      simp
    · have hd : (decide (p1 = x1) && decide (p2 = x2)) = false := by simpa using hv
      have hne : ¬ ((p1, p2) = (x1, x2)) := by simpa using hv
      simp only [decide_eq_true_eq, hne, if_false] at hQ1 hQ2
      simp [body257, F257, h0, slPr, encPr, h1, h7, h8, hi, hx', hd, hw]
      refine ih (i + 1) _ Q (by omega) ?_ ?_ ?_ ?_ (by simpa using hQ1) (by simpa using hQ2)
      all_goals simp [h0, h1, h7, slPr]
theorem idxPr_ok (hT : Has T) (l : List (Int × Int)) (p : Int × Int) (hlen : l.length < 9223372036854775808) : Ret T 257 [slPr l, encPr p] (mkI (mFind (fun x => decide (p = x)) l 0)) := by
  refine ret_of (by simp [slPr, closedPr]) (callW hT L257 rfl ?_)
  have hs : (slPr l).strip = slPr l := by simp [slPr, stripL_map, Function.comp_def]
  have hk := idxPr_loop hT 0 l p hlen l.length 0
  rw [encPr] at hk ⊢
  simp [F257, hs]
  simp [slPr]
  refine hk _ _ (by omega) ?_ ?_ ?_ ?_ ?_ ?_
  all_goals simp [slPr]
  · intro h; rw [h]
  · intro e' he; simp [he]
theorem hasPr_ok (hT : Has T) (l : List (Int × Int)) (p : Int × Int) (hlen : l.length < 9223372036854775808) : Ret T 186 [slPr l, encPr p] (.bool (decide (p ∈ l))) := by
  have h := idxPr_ok hT l p hlen
  unfold Ret at h
  refine ret_of (by simp [slPr, closedPr]) (callW hT L186 rfl ?_)
  have hm := mFind_any (fun x => decide (p = x)) l 0 (by decide)
  have hmm : (l.any fun x => decide (p = x)) = decide (p ∈ l) := by rw [Bool.eq_iff_iff]; simp
  rw [hmm] at hm
  have hs : (slPr l).strip = slPr l := by simp [slPr, stripL_map, Function.comp_def]
  rw [encPr] at h ⊢
  simp [F186, hs, hT, impL, h, hm]

/-! ### a part, in a query -/
def setP (p : Plan) : Nat := mTreeSet (mTreeOf p)
theorem setP_lt (p : Plan) : setP p < 16 := by
  unfold setP mTreeSet
  split
  · exact mSet_lt _ _
  · decide
def mFits (c : Cat) (q : Query) (p : Plan) : Bool :=
  if p.op = 0 ∨ p.op = 1 then true
  else if p.op = 4 then decide (p.p0 ∈ mColsQ c q (setP p))
  else match p.l with
    | [a, b] => decide ((p.p0, p.p1) ∈ mPairs q (setP a) (setP b)) && (decide (p.op = 2) || (decide (mOrder a = p.p0) && decide (mOrder b = p.p1)))
    | _ => false
theorem allForm_form : ∀ (p : Plan), p.AllForm → mForm p = true
  | .mk _ _ _ _ _, h => h.1
theorem fit_l : ∀ (p : Plan), p.Fit → ∀ x ∈ p.l, x.Fit
  | .mk o c a b l, h, x, hx => by
    have : ∀ (l : List Plan), Plan.FitL l → ∀ x ∈ l, x.Fit := by
      intro l
      induction l with
      | nil => intro _ x hx; cases hx
      | cons y ys ih => intro h x hx; rcases List.mem_cons.1 hx with rfl | hx; exact h.1; exact ih h.2 x hx
    exact this l h.2 x hx
theorem allForm_l : ∀ (p : Plan), p.AllForm → ∀ x ∈ p.l, x.AllForm
  | .mk o c a b l, h, x, hx => by
    have : ∀ (l : List Plan), Plan.AllFormL l → ∀ x ∈ l, x.AllForm := by
      intro l
      induction l with
      | nil => intro _ x hx; cases hx
      | cons y ys ih => intro h x hx; rcases List.mem_cons.1 hx with rfl | hx; exact h.1; exact ih h.2 x hx
    exact this l h.2 x hx
theorem form_two (p : Plan) (h : mForm p = true) (h0 : p.op ≠ 0) (h4 : p.op ≠ 4) : ∃ a b, p.l = [a, b] := by
  cases p with
  | mk o c a b l =>
    rcases form_len h with ⟨h1, _⟩ | ⟨h1, _⟩ | ⟨_, _, x, y, h2⟩
    · exact absurd h1 h0
    · exact absurd h1 h4
    · exact ⟨x, y, h2⟩
theorem mPairs_len (q : Query) (a b : Nat) : (mPairs q a b).length ≤ q.p.length := by
  unfold mPairs
  have h := mSomeFrom_len (newIs a b) q.p 0
  have : ∀ (l : List Int), (l.flatMap (mPairAt q a b)).length ≤ l.length := by
    intro l
    induction l with
    | nil => simp
    | cons x xs ih => have := mPairAt_len q a b x; simp only [List.flatMap_cons, List.length_append, List.length_cons]; omega
  exact Nat.le_trans (this _) h
abbrev encPv (p : Plan) : AV := .agg [mkI p.op, mkI p.occ, mkI p.p0, mkI p.p1, .sl .no (encPL p.l)]
abbrev encCv (c : Cat) : AV := .agg [.sl .no (c.map encD)]
end Go.Rb

namespace Go.Rb
set_option linter.unusedVariables false
set_option linter.unusedSimpArgs false
set_option maxRecDepth 8000
variable {T : Tab}

def fitsD : SCode := match F103.body with
  | .seq _ (.seq _ (.seq _ (.seq _ d))) => d
  | _ => .skip
def fitsC : SCode := match F103.body with
  | .seq _ (.seq _ (.seq _ (.seq c _))) => c
  | _ => .skip
def fitsB : SCode := match F103.body with
  | .seq _ (.seq _ (.seq b _)) => b
  | _ => .skip
def fitsA : SCode := match F103.body with
  | .seq _ (.seq a _) => a
  | _ => .skip

theorem fits_D (hT : Has T) (p a b : Plan) (x y : AV) (W : Bool) (hfa : a.Fit) (hfb : b.Fit) (e : Env) (Q : Q3) (g3 : e.get 3 = .box 0 0) (g7 : e.get 7 = .box 3 0) (g8 : e.get 8 = .box 4 0) (g9 : e.get 9 = .bool W)
    (hQ : ∀ e' σ', e'.get 6 = .bool (W && (decide (p.op = 2) || (decide (mOrder a = p.p0) && decide (mOrder b = p.p1)))) → Q .ret e' σ') : wpS T 0 fitsD Q e ⟨[encPv p, x, y, encPv a, encPv b], []⟩ := by
  have v5 := order_ok hT a hfa
  have v6 := order_ok hT b hfb
  unfold Ret at v5 v6
  rw [encP_eq] at v5 v6
  cases W
  · simp [fitsD, F103, g3, g7, g8, g9]
    exact hQ _ _ (by simp)
  · by_cases q2 : p.op = 2
    · simp [fitsD, F103, g3, g7, g8, g9, q2]
      exact hQ _ _ (by simp [q2])
    · by_cases q3 : mOrder a = p.p0
      · simp [fitsD, F103, g3, g7, g8, g9, q2, hT, impL, v5, v6, q3]
        exact hQ _ _ (by simp [q2, q3])
      · simp [fitsD, F103, g3, g7, g8, g9, q2, hT, impL, v5, v6, q3]
        exact hQ _ _ (by simp [q2, q3])

theorem fits_B (p a b : Plan) (x y : AV) (hl : p.l = [a, b]) (e : Env) (g3 : e.get 3 = .box 0 0) (g5 : e.get 5 = .box 2 0) :
    wpS T 0 fitsB (only fun e σ => e.get 3 = .box 0 0 ∧ e.get 5 = .box 2 0 ∧ e.get 7 = .box 3 0 ∧ e.get 8 = .box 4 0 ∧ σ = ⟨[encPv p, x, y, encPv a, encPv b], []⟩) e ⟨[encPv p, x, y], []⟩ := by
  have hE : encPL p.l = [encP a, encP b] := by rw [hl]; rfl
  simp [fitsB, F103, g3, g5, hE, encP_eq]
theorem fits_C (hT : HasX T) (q : Query) (hq : q.Fit) (hq6 : q.p.length ≤ 6) (p a b : Plan) (x : AV) (haa : a.AllForm) (hab : b.AllForm) (e : Env) (g3 : e.get 3 = .box 0 0) (g5 : e.get 5 = .box 2 0) (g7 : e.get 7 = .box 3 0) (g8 : e.get 8 = .box 4 0) :
    wpS T 0 fitsC (only fun e σ => e.get 3 = .box 0 0 ∧ e.get 7 = .box 3 0 ∧ e.get 8 = .box 4 0 ∧ e.get 9 = .bool (decide ((p.p0, p.p1) ∈ mPairs q (setP a) (setP b))) ∧ σ = ⟨[encPv p, x, encQv q, encPv a, encPv b], []⟩) e ⟨[encPv p, x, encQv q, encPv a, encPv b], []⟩ := by
  have hT' := hT.toHas
  have v1 := planSet_ok hT' a haa
  change Ret T 185 [encP a] (mkI (setP a)) at v1
  have v2 := planSet_ok hT' b hab
  change Ret T 185 [encP b] (mkI (setP b)) at v2
  have v3 := pairs_ok hT q hq (by omega) (setP a) (setP b) (setP_lt a) (setP_lt b)
  have v4 := hasPr_ok hT' (mPairs q (setP a) (setP b)) (p.p0, p.p1) (by have := mPairs_len q (setP a) (setP b); omega)
  unfold Ret at v1 v2 v3 v4
  rw [encQ_v] at v3
  rw [encPr] at v4
  simp only at v4
  rw [encP_eq] at v1 v2
  simp [fitsC, F103, g3, g5, g7, g8, hT', impL, v1, v2, v3, v4]
theorem fits_A (hT : HasX T) (c : Cat) (hc : c.length < 9223372036854775808) (q : Query) (hq : q.Fit) (p : Plan) (ha : p.AllForm) (e : Env) (Q : Q3) (g3 : e.get 3 = .box 0 0) (g4 : e.get 4 = .box 1 0) (g5 : e.get 5 = .box 2 0)
    (h : p.op = 0 ∨ p.op = 1 ∨ p.op = 4) (hQ : ∀ e' σ', e'.get 6 = .bool (mFits c q p) → Q .ret e' σ') : wpS T 0 fitsA Q e ⟨[encPv p, encCv c, encQv q], []⟩ := by
  have hT' := hT.toHas
  have w1 := planSet_ok hT' p ha
  change Ret T 185 [encP p] (mkI (setP p)) at w1
  have w2 := colsQ_ok hT c hc q hq (setP p) (by have := setP_lt p; omega)
  have w3 := contains_ok hT' (mColsQ c q (setP p)) p.p0 (by have := mColsQ_len c q (setP p); omega)
  unfold Ret at w1 w2 w3
  have e1 : encC c = encCv c := rfl
  rw [e1, encQ_v] at w2
  rw [encP_eq] at w1
  rw [sl] at w2
  rcases h with h | h | h
  · simp [fitsA, F103, g3, g4, g5, h]
    exact hQ _ _ (by simp [mFits, h])
  · simp [fitsA, F103, g3, g4, g5, h]
    exact hQ _ _ (by simp [mFits, h])
  · rw [h] at w1
    simp [fitsA, F103, g3, g4, g5, h, hT', impL, w1, w2, w3]
    exact hQ _ _ (by simp [mFits, h])
theorem fits_A' (c : Cat) (q : Query) (p : Plan) (e : Env) (g3 : e.get 3 = .box 0 0) (g4 : e.get 4 = .box 1 0) (g5 : e.get 5 = .box 2 0)
    (h0 : p.op ≠ 0) (h1 : p.op ≠ 1) (h4 : p.op ≠ 4) : wpS T 0 fitsA (only fun e σ => e.get 3 = .box 0 0 ∧ e.get 5 = .box 2 0 ∧ σ = ⟨[encPv p, encCv c, encQv q], []⟩) e ⟨[encPv p, encCv c, encQv q], []⟩ := by
  simp [fitsA, F103, g3, g4, g5, h0, h1, h4]
def fits0 : SCode := match F103.body with
  | .seq a _ => a
  | _ => .skip
theorem fits_body : F103.body = .seq fits0 (.seq fitsA (.seq fitsB (.seq fitsC fitsD))) := rfl
theorem fits_res : F103.res = [.tmp 6] := rfl
theorem fits_ok (hT : HasX T) (c : Cat) (hc : c.length < 9223372036854775808) (q : Query) (hq : q.Fit) (hm : mQMay c q = true) (p : Plan) (hf : p.Fit) (ha : p.AllForm) : Ret T 103 [encP p, encC c, encQ q] (.bool (mFits c q p)) := by
  have hT' := hT.toHas
  have e1 : encC c = encCv c := rfl
  refine ret_of (by simp) (callW hT' L103 rfl ?_)
  rw [AV.stripL, AV.stripL, AV.stripL, encP_strip, encC_strip, encQ_strip, e1, encQ_v, encP_eq, fits_body, fits_res]
  refine wpS_cut (fun e σ => e.get 3 = .box 0 0 ∧ e.get 4 = .box 1 0 ∧ e.get 5 = .box 2 0 ∧ σ = ⟨[encPv p, encCv c, encQv q], []⟩) (by simp [fits0, F103]) ?_
  rintro e σ ⟨g3, g4, g5, rfl⟩
  have hend : ∀ (e' : Env) (σ' : St), e'.get 6 = .bool (mFits c q p) → endQ 0 [SRes.tmp 6] (fun u _ => u.closed = true ∧ u.strip = .bool (mFits c q p)) .ret e' σ' := by
    intro e' σ' h6
    simp [h6]
  by_cases h : p.op = 0 ∨ p.op = 1 ∨ p.op = 4
  · refine fits_A hT c hc q hq p ha e _ g3 g4 g5 h ?_
    exact hend
  · have h0 : p.op ≠ 0 := fun x => h (.inl x)
    have h1 : p.op ≠ 1 := fun x => h (.inr (.inl x))
    have h4 : p.op ≠ 4 := fun x => h (.inr (.inr x))
    obtain ⟨a, b, hl⟩ := form_two p (allForm_form p ha) h0 h4
    have haa := allForm_l p ha a (by simp [hl])
    have hab := allForm_l p ha b (by simp [hl])
    have hfa := fit_l p hf a (by simp [hl])
    have hfb := fit_l p hf b (by simp [hl])
    have hmf : mFits c q p = (decide ((p.p0, p.p1) ∈ mPairs q (setP a) (setP b)) && (decide (p.op = 2) || (decide (mOrder a = p.p0) && decide (mOrder b = p.p1)))) := by
      unfold mFits; rw [if_neg (by simp [h0, h1]), if_neg h4, hl]
    refine wpS_cut _ (fits_A' c q p e g3 g4 g5 h0 h1 h4) ?_
    clear g3 g4 g5 e
    rintro e σ ⟨g3, g5, rfl⟩
    refine wpS_cut _ (fits_B p a b (encCv c) (encQv q) hl e g3 g5) ?_
    clear g3 g5 e
    rintro e σ ⟨g3, g5, g7, g8, rfl⟩
    refine wpS_cut _ (fits_C hT q hq (mQMay_p hm) p a b (encCv c) haa hab e g3 g5 g7 g8) ?_
    clear g3 g5 g7 g8 e
    rintro e σ ⟨g3, g7, g8, g9, rfl⟩
    refine fits_D hT' p a b _ _ _ hfa hfb e _ g3 g7 g8 g9 ?_
    intro e' σ' h6
    exact hend e' σ' (by rw [h6, hmf])
end Go.Rb

namespace Go.Rb
set_option linter.unusedVariables false
set_option linter.unusedSimpArgs false
set_option maxRecDepth 8000
variable {T : Tab}

mutual
theorem parts_of : ∀ (p : Plan), p.Fit → p.AllForm → p.Parts fun p => p.Fit ∧ p.AllForm
  | .mk o c a b l, hf, ha => ⟨⟨hf, ha⟩, parts_ofL l hf.2 ha.2⟩
theorem parts_ofL : ∀ (l : List Plan), Plan.FitL l → Plan.AllFormL l → Plan.PartsL (fun p => p.Fit ∧ p.AllForm) l
  | [], _, _ => trivial
  | x :: xs, hf, ha => ⟨parts_of x hf.1 ha.1, parts_ofL xs hf.2 ha.2⟩
end
mutual
def mAllP (f : Plan → Bool) : Plan → Bool
  | .mk o c a b l => f (.mk o c a b l) && mAllPL f l
def mAllPL (f : Plan → Bool) : List Plan → Bool
  | [] => true
  | x :: xs => mAllP f x && mAllPL f xs
end
mutual
theorem mEach_unit (f : Plan → Bool) : ∀ (p : Plan), (mEach (fun p (s : Unit) => (f p, s)) p ()).1 = mAllP f p
  | .mk o c a b l => by
    simp only [mEach, mAllP]
    cases f (.mk o c a b l) with
    | true => simpa using mEach_unitL f l
    | false => simp
theorem mEach_unitL (f : Plan → Bool) : ∀ (l : List Plan), (mEachL (fun p (s : Unit) => (f p, s)) l ()).1 = mAllPL f l
  | [] => rfl
  | x :: xs => by
    simp only [mEachL, mAllPL]
    rw [← mEach_unit f x]
    cases (mEach (fun p (s : Unit) => (f p, s)) x ()).1 with
    | true => simpa using mEach_unitL f xs
    | false => simp
end
def layMayP (B : List AV) : Lay Unit := ⟨fun _ => B, fun _ => []⟩
theorem layMayP_ok (B : List AV) (h : AV.closedL B = true) : (layMayP B).Ok (fun _ => True) B.length := ⟨fun _ _ => h, fun _ _ => rfl⟩
theorem fitsClo_ok (hT : HasX T) (c : Cat) (hc : c.length < 9223372036854775808) (q : Query) (hq : q.Fit) (hm : mQMay c q = true) (B : List AV) (hB : AV.closedL B = true) :
    CloP T (layMayP (encCv c :: encQv q :: B)) (fun _ _ => True) (fun p => p.Fit ∧ p.AllForm) 102 [] [.box 0 0, .box 1 0] (fun p s => (mFits c q p, s)) := by
  have hT' := hT.toHas
  refine ⟨by rw [imp_has hT']; rfl, fun _ _ _ => trivial, fun _ _ _ _ => trivial, ?_⟩
  rintro p ⟨⟩ extra ⟨hf, ha⟩ _ hex
  have w := fits_ok hT c hc q hq hm p hf ha
  unfold Ret at w
  have e1 : encC c = encCv c := rfl
  rw [e1, encQ_v, encP_eq] at w
  have hw : CallW T 102 [encP p, .box 0 0, .box 1 0] ((layMayP (encCv c :: encQv q :: B)).st () extra) (fun v σ' => v = .bool (mFits c q p) ∧ σ' = (layMayP (encCv c :: encQv q :: B)).st () extra) := by
    refine callW hT' L102 rfl ?_
    rw [encP_eq]
    simp [-endQ, F102, layMayP, Lay.st, hT', impL, w]
    have hcl : AV.closedL (encCv c :: encQv q :: (B ++ extra)) = true := by
      have h1 : (encCv c).closed = true := encC_closed c
      have h2 : (encQv q).closed = true := encQ_closed q
      simp only [AV.closedL, h1, h2, closedL_append, hB, hex, Bool.and_self]
    have hsh : encCv c :: encQv q :: (B ++ (extra ++ [encPv p])) = (encCv c :: encQv q :: (B ++ extra)) ++ [encPv p] := by simp
    rw [hsh]
    exact end_boxes (by simp) (.inr rfl) (by simp) (by simp) hcl ⟨rfl, rfl⟩
  obtain ⟨v, σ', h1, h2, h3⟩ := hw
  simp only [List.nil_append]
  rw [h1, h2, h3]
def mPlanMay (c : Cat) (q : Query) (p : Plan) : Bool :=
  (mTree p).2 && mQMay c q && decide (mTreeSet (mTree p).1 / 2 ^ q.occ.length = 0) && mAllP (mFits c q) p
def may0 : SCode := match F29.body with
  | .seq a _ => a
  | _ => .skip
def may1 : SCode := match F29.body with
  | .seq _ (.seq a _) => a
  | _ => .skip
def may2 : SCode := match F29.body with
  | .seq _ (.seq _ (.seq a _)) => a
  | _ => .skip
def may3 : SCode := match F29.body with
  | .seq _ (.seq _ (.seq _ a)) => a
  | _ => .skip
theorem may_body : F29.body = .seq may0 (.seq may1 (.seq may2 may3)) := rfl
theorem may_res : F29.res = [.tmp 6] := rfl
theorem may_1 (hT : Has T) (c : Cat) (q : Query) (p : Plan) (hf : p.Fit) (e : Env) (g3 : e.get 3 = .box 0 0) (g4 : e.get 4 = .box 1 0) (g5 : e.get 5 = .box 2 0) :
    wpS T 0 may1 (only fun e σ => e.get 3 = .box 0 0 ∧ e.get 4 = .box 1 0 ∧ e.get 5 = .box 2 0 ∧ e.get 7 = .box 3 0 ∧ e.get 8 = .bool (mTree p).2 ∧ σ = ⟨[encCv c, encQv q, encPv p, encT (mTree p).1], []⟩) e ⟨[encCv c, encQv q, encPv p], []⟩ := by
  have w := tree_ok hT p hf
  unfold Ret at w
  rw [encP_eq, encT_eq] at w
  simp [may1, F29, g3, g4, g5, hT, impL, w, encT_eq]
theorem may_2 (hT : HasX T) (c : Cat) (hc : c.length < 9223372036854775808) (q : Query) (hq : q.Fit) (p : Plan) (t : Tree) (ht : mTreeSet t < 16) (b8 : Bool) (e : Env) (g3 : e.get 3 = .box 0 0) (g4 : e.get 4 = .box 1 0) (g5 : e.get 5 = .box 2 0) (g7 : e.get 7 = .box 3 0) (g8 : e.get 8 = .bool b8) (Q : Q3)
    (hY : (b8 && mQMay c q && decide (mTreeSet t / 2 ^ q.occ.length = 0)) = true → ∀ e', e'.get 3 = .box 0 0 → e'.get 4 = .box 1 0 → e'.get 5 = .box 2 0 → Q .normal e' ⟨[encCv c, encQv q, encPv p, encT t], []⟩)
    (hN : (b8 && mQMay c q && decide (mTreeSet t / 2 ^ q.occ.length = 0)) = false → ∀ e' σ', e'.get 6 = .bool false → Q .ret e' σ') :
    wpS T 0 may2 Q e ⟨[encCv c, encQv q, encPv p, encT t], []⟩ := by
  have hT' := hT.toHas
  have w1 := qmay_ok hT c hc q hq
  have w2 := treeSet_ok hT' t
  unfold Ret at w1 w2
  have e1 : encC c = encCv c := rfl
  rw [e1, encQ_v] at w1
  rw [encT_eq] at w2 hY ⊢
  simp only [encQv, sl, encCv] at w1 hY ⊢
  cases b8
  · simp [may2, F29, g3, g4, g5, g7, g8]
    exact hN (by simp) _ _ (by simp)
  · cases hm : mQMay c q <;> rw [hm] at w1 hY hN
    · simp [may2, F29, g3, g4, g5, g7, g8, hT', impL, w1]
      exact hN (by simp) _ _ (by simp)
    · have ho := mQMay_occ hm
      have h1 : min q.occ.length 64 = q.occ.length := by omega
      have h2 : Int.fdiv (mTreeSet t : Int) (2 ^ q.occ.length) = ((mTreeSet t / 2 ^ q.occ.length : Nat) : Int) := by
        rw [Int.fdiv_eq_ediv_of_nonneg _ (Int.pow_nonneg (by decide))]
        simp
      have h0 : ¬ ((q.occ.length : Int) < 0) := by omega
      by_cases hz : mTreeSet t / 2 ^ q.occ.length = 0
      · rw [hz] at h2 hY hN
        simp [may2, F29, g3, g4, g5, g7, g8, hT', impL, w1, w2, sl, h0, IntKind.bits, h1, h2]
        refine hY (by simp) _ ?_ ?_ ?_ <;> simp [g3, g4, g5]
      · generalize mTreeSet t / 2 ^ q.occ.length = X at *
        have hX : ¬ ((X : Int) ≤ 0) := by omega
        have hX' : (0 : Int) < (X : Int) := by omega
        have hX2 : 0 < X := by omega
        simp [may2, F29, g3, g4, g5, g7, g8, hT', impL, w1, w2, sl, h0, IntKind.bits, h1, h2, hX', hX2]
        refine hN (by simp [hz]) _ _ ?_
        simp
theorem mTree_form {p : Plan} (h : (mTree p).2 = true) : p.AllForm ∧ mTreeSet (mTree p).1 < 16 := by
  unfold mTree at h ⊢
  split at h
  · rename_i h1
    rw [if_pos h1]
    exact ⟨few_all p 0 h1.1, setP_lt p⟩
  · cases h
theorem treeSet_lt (t : Tree) : mTreeSet t < 16 := by
  unfold mTreeSet
  split
  · exact mSet_lt _ _
  · decide
theorem planMay_ok (hT : HasX T) (c : Cat) (hc : c.length < 9223372036854775808) (q : Query) (hq : q.Fit) (p : Plan) (hf : p.Fit) : Ret T 29 [encC c, encQ q, encP p] (.bool (mPlanMay c q p)) := by
  have hT' := hT.toHas
  have e1 : encC c = encCv c := rfl
  refine ret_of (by simp) (callW hT' L29 rfl ?_)
  rw [AV.stripL, AV.stripL, AV.stripL, encP_strip, encC_strip, encQ_strip, e1, encQ_v, encP_eq, may_body, may_res]
  refine wpS_cut (fun e σ => e.get 3 = .box 0 0 ∧ e.get 4 = .box 1 0 ∧ e.get 5 = .box 2 0 ∧ σ = ⟨[encCv c, encQv q, encPv p], []⟩) (by simp [may0, F29]) ?_
  rintro e σ ⟨g3, g4, g5, rfl⟩
  refine wpS_cut _ (may_1 hT' c q p hf e g3 g4 g5) ?_
  clear g3 g4 g5 e
  rintro e σ ⟨g3, g4, g5, g7, g8, rfl⟩
  have hend : ∀ (b : Bool) (e' : Env) (σ' : St), b = mPlanMay c q p → e'.get 6 = .bool b → endQ 0 [SRes.tmp 6] (fun u _ => u.closed = true ∧ u.strip = .bool (mPlanMay c q p)) .ret e' σ' := by
    intro b e' σ' hb h6
    simp [h6, hb]
  show wpS T 0 may2 (thenQ (wpS T 0 may3 _) _) e _
  refine may_2 hT c hc q hq p _ (treeSet_lt _) _ e g3 g4 g5 g7 g8 _ ?_ ?_
  · intro hy e' q3 q4 q5
    simp only [Bool.and_eq_true, decide_eq_true_eq] at hy
    obtain ⟨⟨y1, y2⟩, y3⟩ := hy
    have hcall := each_ok hT' (layMayP_ok (encCv c :: encQv q :: [encPv p, encT (mTree p).1]) (by
      have h1 : (encCv c).closed = true := encC_closed c
      have h2 : (encQv q).closed = true := encQ_closed q
      have h3 : (encPv p).closed = true := by have h := encP_closed p; rw [encP_eq] at h; exact h
      simp only [AV.closedL, h1, h2, h3, encT_closed, Bool.and_self])) (fitsClo_ok hT c hc q hq y2 [encPv p, encT (mTree p).1] (by
      have h3 : (encPv p).closed = true := by have h := encP_closed p; rw [encP_eq] at h; exact h
      simp only [AV.closedL, h3, encT_closed, Bool.and_self])) p hf (parts_of p hf (mTree_form y1).1) () [] trivial rfl
    rw [mEach_unit] at hcall
    have hst : (layMayP (encCv c :: encQv q :: [encPv p, encT (mTree p).1])).st () [] = ⟨[encCv c, encQv q, encPv p, encT (mTree p).1], []⟩ := by simp [layMayP, Lay.st]
    rw [hst] at hcall
    rw [encP_eq] at hcall
    have hb : mAllP (mFits c q) p = mPlanMay c q p := by unfold mPlanMay; rw [y1, y2, y3]; simp
    simp [-endQ, may3, F29, q3, q4, q5, hT', impL, hcall]
    exact hend _ _ _ hb (by simp)
  · intro hn e' σ' h6
    refine hend false e' σ' ?_ h6
    unfold mPlanMay; rw [hn]; rfl
end Go.Rb

namespace Go.Rb
set_option linter.unusedVariables false
set_option linter.unusedSimpArgs false
set_option maxRecDepth 8000
variable {T : Tab}

abbrev encEv (t : Expr) : AV := .agg [mkI t.op, mkI t.col, mkI t.k, mkI t.n, .sl .no (encEL t.l)]
def body68 : SCode := match F68.body with
  | .seq _ (.seq _ (.seq (.seq _ (.block _ (.loop _ c))) _)) => c
  | _ => .skip
theorem sizeP_loop (hT : Has T) (fl : Nat) (p : Plan) (hf : p.Fit) (hl : p.l.length < 9223372036854775808) (H : ∀ x ∈ p.l, ∀ m, ∃ v, Ret T 68 [encP x, mkI m] (mkI v)) (m : Int) : ∀ (k i : Nat) (n : Int) (e : Env) (Q : Q3), k + i = p.l.length →
    e.get 1 = mkI m → e.get 2 = .box 0 0 → e.get 5 = mkI n → e.get 6 = mkI i →
    (∀ e' n', e'.get 5 = mkI n' → Q (.exit 0) e' ⟨[encPv p], []⟩) → LoopW T fl [1, 2, 5, 6] body68 Q e ⟨[encPv p], []⟩ := by
  intro k
  induction k with
  | zero =>
    intro i n e Q hk h1 h2 h5 h6 hQ
    have : i = p.l.length := by omega
    subst this
    refine loopW_round ?_
    simp [body68, F68, h1, h2, h5, h6]
    exact hQ _ n (by simp)
  | succ k ih =>
    intro i n e Q hk h1 h2 h5 h6 hQ
    have hi : i < p.l.length := by omega
    have hw : w64 ((i : Int) + 1) = ((i + 1 : Nat) : Int) := by rw [w64_id (by omega) (by omega)]; simp
    have hp : (encPL p.l)[i]? = some (encP p.l[i]) := by rw [encPL_map]; simp [hi]
    have hp' : ∀ h, (encPL p.l)[i]'h = encP p.l[i] := by intro h; rw [List.getElem?_eq_getElem h] at hp; simpa using hp
    obtain ⟨v, hv⟩ := H p.l[i] (List.getElem_mem _) (w64 (m - n))
    unfold Ret at hv
    rw [encP_eq] at hv
    refine loopW_round ?_
    by_cases hn : n ≤ m
    · simp [body68, F68, h1, h2, h5, h6, hi, hn, hp', encP_eq, hT, impL, hv, hw]
      refine ih (i + 1) (w64 (n + v)) _ Q (by omega) ?_ ?_ ?_ ?_ hQ
      all_goals simp
    · simp [body68, F68, h1, h2, h5, h6, hi, hn]
      exact hQ _ n (by simp)
mutual
theorem sizeP_ok (hT : Has T) : ∀ (p : Plan), p.Fit → ∀ m, ∃ v, Ret T 68 [encP p, mkI m] (mkI v)
  | .mk o c a b l, hf, m => by
    have H := sizePL_ok hT l hf.2
    obtain ⟨v, hv⟩ : ∃ v, CallW T 68 [encP (.mk o c a b l), mkI m] .nil fun u _ => u = mkI v := by
      have hw : CallW T 68 [encP (.mk o c a b l), mkI m] .nil fun u _ => ∃ v, u = mkI v := by
        refine callW hT L68 rfl ?_
        rw [encP_eq]
        simp [F68]
        refine sizeP_loop hT 0 (.mk o c a b l) hf hf.1 H m l.length 0 1 _ _ (by simp [Plan.l]) ?_ ?_ ?_ ?_ ?_
        all_goals simp
        intro e' n' h
        simp [h]
      obtain ⟨u, σ, h1, v, h2⟩ := hw
      exact ⟨v, u, σ, h1, h2⟩
    refine ⟨v, ret_of (by simp) ?_⟩
    obtain ⟨u, σ, h1, h2⟩ := hv
    refine ⟨u, σ, by simpa using h1, ?_, ?_⟩ <;> rw [h2] <;> simp
theorem sizePL_ok (hT : Has T) : ∀ (l : List Plan), Plan.FitL l → ∀ x ∈ l, ∀ m, ∃ v, Ret T 68 [encP x, mkI m] (mkI v)
  | [], _, x, hx, m => by cases hx
  | y :: ys, hf, x, hx, m => by
    rcases List.mem_cons.1 hx with h | h
    · rw [h]; exact sizeP_ok hT y hf.1 m
    · exact sizePL_ok hT ys hf.2 x h m
end
def body263 : SCode := match F263.body with
  | .seq _ (.seq _ (.seq (.seq _ (.block _ (.loop _ c))) _)) => c
  | _ => .skip
theorem sizeE_loop (hT : Has T) (fl : Nat) (p : Expr) (hf : p.Fit) (hl : p.l.length < 9223372036854775808) (H : ∀ x ∈ p.l, ∀ m, ∃ v, Ret T 263 [encE x, mkI m] (mkI v)) (m : Int) : ∀ (k i : Nat) (n : Int) (e : Env) (Q : Q3), k + i = p.l.length →
    e.get 1 = mkI m → e.get 2 = .box 0 0 → e.get 5 = mkI n → e.get 6 = mkI i →
    (∀ e' n', e'.get 5 = mkI n' → Q (.exit 0) e' ⟨[encEv p], []⟩) → LoopW T fl [1, 2, 5, 6] body263 Q e ⟨[encEv p], []⟩ := by
  intro k
  induction k with
  | zero =>
    intro i n e Q hk h1 h2 h5 h6 hQ
    have : i = p.l.length := by omega
    subst this
    refine loopW_round ?_
    simp [body263, F263, h1, h2, h5, h6]
    exact hQ _ n (by simp)
  | succ k ih =>
    intro i n e Q hk h1 h2 h5 h6 hQ
    have hi : i < p.l.length := by omega
    have hw : w64 ((i : Int) + 1) = ((i + 1 : Nat) : Int) := by rw [w64_id (by omega) (by omega)]; simp
    have hp : (encEL p.l)[i]? = some (encE p.l[i]) := by rw [encEL_map]; simp [hi]
    have hp' : ∀ h, (encEL p.l)[i]'h = encE p.l[i] := by intro h; rw [List.getElem?_eq_getElem h] at hp; simpa using hp
    obtain ⟨v, hv⟩ := H p.l[i] (List.getElem_mem _) (w64 (m - n))
    unfold Ret at hv
    rw [encE_eq] at hv
    refine loopW_round ?_
    by_cases hn : n ≤ m
    · simp [body263, F263, h1, h2, h5, h6, hi, hn, hp', encE_eq, hT, impL, hv, hw]
      refine ih (i + 1) (w64 (n + v)) _ Q (by omega) ?_ ?_ ?_ ?_ hQ
      all_goals simp
    · simp [body263, F263, h1, h2, h5, h6, hi, hn]
      exact hQ _ n (by simp)
mutual
theorem sizeE_ok (hT : Has T) : ∀ (p : Expr), p.Fit → ∀ m, ∃ v, Ret T 263 [encE p, mkI m] (mkI v)
  | .mk o c a b l, hf, m => by
    have H := sizeEL_ok hT l hf.2
    obtain ⟨v, hv⟩ : ∃ v, CallW T 263 [encE (.mk o c a b l), mkI m] .nil fun u _ => u = mkI v := by
      have hw : CallW T 263 [encE (.mk o c a b l), mkI m] .nil fun u _ => ∃ v, u = mkI v := by
        refine callW hT L263 rfl ?_
        rw [encE_eq]
        simp [F263]
        refine sizeE_loop hT 0 (.mk o c a b l) hf hf.1 H m l.length 0 1 _ _ (by simp [Expr.l]) ?_ ?_ ?_ ?_ ?_
        all_goals simp
        intro e' n' h
        simp [h]
      obtain ⟨u, σ, h1, v, h2⟩ := hw
      exact ⟨v, u, σ, h1, h2⟩
    refine ⟨v, ret_of (by simp) ?_⟩
    obtain ⟨u, σ, h1, h2⟩ := hv
    refine ⟨u, σ, by simpa using h1, ?_, ?_⟩ <;> rw [h2] <;> simp
theorem sizeEL_ok (hT : Has T) : ∀ (l : List Expr), Expr.FitL l → ∀ x ∈ l, ∀ m, ∃ v, Ret T 263 [encE x, mkI m] (mkI v)
  | [], _, x, hx, m => by cases hx
  | y :: ys, hf, x, hx, m => by
    rcases List.mem_cons.1 hx with h | h
    · rw [h]; exact sizeE_ok hT y hf.1 m
    · exact sizeEL_ok hT ys hf.2 x h m
end
end Go.Rb

namespace Go.Rb
set_option linter.unusedVariables false
set_option linter.unusedSimpArgs false
set_option maxRecDepth 8000
variable {T : Tab}

/-- a closed plain answer of some kind: out of a call that ends so -/
theorem retB_of {f : Nat} {args : List AV} {P : Bool → Prop} (hc : AV.closedL args = true) (hs : AV.stripL args = args) (h : CallW T f args .nil fun u _ => ∃ b : Bool, u = .bool b ∧ P b) : ∃ b, Ret T f args (.bool b) ∧ P b := by
  obtain ⟨u, σ, h1, b, h2, h3⟩ := h
  refine ⟨b, ret_of hc ?_, h3⟩
  rw [hs]
  exact ⟨u, σ, h1, by rw [h2]; rfl, by rw [h2]; rfl⟩
theorem retI_of {f : Nat} {args : List AV} {P : Int → Prop} (hc : AV.closedL args = true) (hs : AV.stripL args = args) (h : CallW T f args .nil fun u _ => ∃ b : Int, u = mkI b ∧ P b) : ∃ b, Ret T f args (mkI b) ∧ P b := by
  obtain ⟨u, σ, h1, b, h2, h3⟩ := h
  refine ⟨b, ret_of hc ?_, h3⟩
  rw [hs]
  exact ⟨u, σ, h1, by rw [h2]; rfl, by rw [h2]; rfl⟩
theorem fewE_ok (hT : Has T) (e : Expr) (hf : e.Fit) (m : Int) : ∃ b, Ret T 207 [encE e, mkI m] (.bool b) := by
  obtain ⟨v, hv⟩ := sizeE_ok hT e hf m
  unfold Ret at hv
  rw [encE_eq] at hv
  refine ⟨decide (v ≤ m), ret_of (by simp) (callW hT L207 rfl ?_)⟩
  rw [encE_eq]
  simp [F207, hT, impL, hv]
def body136 : SCode := match F136.body with
  | .seq _ (.seq _ (.seq (.seq _ (.block _ (.loop _ c))) _)) => c
  | _ => .skip
theorem few136_loop (hT : Has T) (fl : Nat) (q : Query) (hf : q.Fit) (b0 : AV) : ∀ (k i : Nat) (b : Bool) (e : Env) (Q : Q3), k + i = q.p.length →
    e.get 3 = .box 1 0 → e.get 5 = .bool b → e.get 6 = mkI i →
    (∀ e' b', (b' = true → b = true) → e'.get 5 = .bool b' → Q (.exit 0) e' ⟨[b0, encQv q], []⟩) → LoopW T fl [3, 5, 6] body136 Q e ⟨[b0, encQv q], []⟩ := by
  intro k
  induction k with
  | zero =>
    intro i b e Q hk h3 h5 h6 hQ
    have : i = q.p.length := by omega
    subst this
    refine loopW_round ?_
    simp [body136, F136, h3, h5, h6]
    exact hQ _ b (fun h => h) (by simp)
  | succ k ih =>
    intro i b e Q hk h3 h5 h6 hQ
    have hi : i < q.p.length := by omega
    have hw : w64 ((i : Int) + 1) = ((i + 1 : Nat) : Int) := by rw [w64_id (by omega) (by have := hf.2.1; omega)]; simp
    have hp : (encEL q.p)[i]? = some (encE q.p[i]) := by rw [encEL_map]; simp [hi]
    have hp' : ∀ h, (encEL q.p)[i]'h = encE q.p[i] := by intro h; rw [List.getElem?_eq_getElem h] at hp; simpa using hp
    obtain ⟨v, hv⟩ := fewE_ok hT q.p[i] (hf.2.2.2.2 _ (List.getElem_mem _)) 60
    unfold Ret at hv
    rw [encE_eq] at hv
    refine loopW_round ?_
    cases b with
    | true =>
      simp [body136, F136, h3, h5, h6, hi, hp', encE_eq, hT, impL, hv, hw]
      refine ih (i + 1) v _ Q (by omega) ?_ ?_ ?_ (fun e' b' _ => hQ e' b' (fun _ => rfl))
      all_goals simp [h3]
    | false =>
      simp [body136, F136, h3, h5, h6, hi]
      exact hQ _ false (fun h => h) (by simp)
def Small (c : Cat) (q : Query) : Prop := c.length ≤ 10 ∧ q.occ.length ≤ 20 ∧ q.p.length ≤ 8 ∧ q.sums.length ≤ 20 ∧ q.out.length ≤ 20
def few0 : SCode := match F136.body with
  | .seq _ (.seq a _) => a
  | _ => .skip
theorem few_0 (c : Cat) (q : Query) (e : Env) (g2 : e.get 2 = .box 0 0) (g3 : e.get 3 = .box 1 0) :
    wpS T 0 few0 (only fun e σ => e.get 3 = .box 1 0 ∧ σ = ⟨[encCv c, encQv q], []⟩ ∧ ∃ b, e.get 5 = .bool b ∧ (b = true → Small c q)) e ⟨[encCv c, encQv q], []⟩ := by
  obtain ⟨N0, n0⟩ : ∃ N : Int, (c.length : Int) = N := ⟨_, rfl⟩
  obtain ⟨N1, n1⟩ : ∃ N : Int, (q.occ.length : Int) = N := ⟨_, rfl⟩
  obtain ⟨N2, n2⟩ : ∃ N : Int, (q.p.length : Int) = N := ⟨_, rfl⟩
  obtain ⟨N3, n3⟩ : ∃ N : Int, (q.sums.length : Int) = N := ⟨_, rfl⟩
  obtain ⟨N4, n4⟩ : ∃ N : Int, (q.out.length : Int) = N := ⟨_, rfl⟩
  unfold Small
  by_cases q0 : N0 ≤ 10
  · by_cases q1 : N1 ≤ 20
    · by_cases q2 : N2 ≤ 8
      · by_cases q3 : N3 ≤ 20
        · by_cases q4 : N4 ≤ 20
          · simp [few0, F136, g2, g3, sl, n0, n1, n2, n3, n4, q0, q1, q2, q3, q4]
            omega
          · simp [few0, F136, g2, g3, sl, n0, n1, n2, n3, n4, q0, q1, q2, q3, q4]
        · simp [few0, F136, g2, g3, sl, n0, n1, n2, n3, n4, q0, q1, q2, q3]
      · simp [few0, F136, g2, g3, sl, n0, n1, n2, n3, n4, q0, q1, q2]
    · simp [few0, F136, g2, g3, sl, n0, n1, n2, n3, n4, q0, q1]
  · simp [few0, F136, g2, g3, sl, n0, n1, n2, n3, n4, q0]
theorem few136_ok (hT : Has T) (c : Cat) (q : Query) (hf : q.Fit) : ∃ b, Ret T 136 [encC c, encQ q] (.bool b) ∧ (b = true → Small c q) := by
  refine retB_of (by simp) (by simp) (callW hT L136 rfl ?_)
  have e1 : encC c = encCv c := rfl
  rw [e1, encQ_v]
  refine wpS_cut (fun e σ => e.get 2 = .box 0 0 ∧ e.get 3 = .box 1 0 ∧ σ = ⟨[encCv c, encQv q], []⟩) (by simp) ?_
  rintro e σ ⟨g2, g3, rfl⟩
  refine wpS_cut _ (few_0 c q e g2 g3) ?_
  clear g2 g3 e
  rintro e σ ⟨g3, rfl, b, g5, hb⟩
  simp [-endQ, g3, g5]
  refine few136_loop hT 0 q hf _ q.p.length 0 b _ _ (by omega) ?_ ?_ ?_ ?_
  all_goals simp [-endQ, g3, g5]
  intro e'
  refine ⟨fun h5 => ?_, fun hbb h5 => ?_⟩
  · simp [F136, h5]
  · simp [F136, h5]
    exact hb hbb
theorem far_ok (hT : Has T) (c : Cat) (q : Query) (hf : q.Fit) : ∃ n, Ret T 53 [encC c, encQ q] (mkI n) ∧ (n = 0 → Small c q) := by
  obtain ⟨b, hb, hs⟩ := few136_ok hT c q hf
  unfold Ret at hb
  have e1 : encC c = encCv c := rfl
  rw [e1, encQ_v] at hb
  refine retI_of (by simp) (by simp) (callW hT L53 rfl ?_)
  rw [e1, encQ_v]
  cases b
  · simp [F53, hT, impL, hb]
  · simp [F53, hT, impL, hb]
    exact hs rfl
theorem small_ok (hT : Has T) (c : Cat) (q : Query) (hf : q.Fit) (p : Plan) (hp : p.Fit) : ∃ b, Ret T 28 [encC c, encQ q, encP p] (.bool b) ∧ (b = true → Small c q) := by
  obtain ⟨n, hn, hs⟩ := far_ok hT c q hf
  obtain ⟨m, hm⟩ := sizeP_ok hT p hp 100
  unfold Ret at hn hm
  have e1 : encC c = encCv c := rfl
  rw [e1, encQ_v] at hn
  rw [encP_eq] at hm
  refine retB_of (by simp) (by simp) (callW hT L28 rfl ?_)
  rw [e1, encQ_v, encP_eq]
  by_cases h0 : n = 0
  · rw [h0] at hn
    simp [F28, hT, impL, hn, hm]
    have := hs h0
    by_cases h : 100 < m
    · exact .inl h
    · exact .inr ⟨by omega, this⟩
  · simp [F28, hT, impL, hn, hm, h0]
end Go.Rb

/- What things cost. How many rows there are thought to be. How many rows a set is thought to have; groups. What a part of a plan costs. What a plan costs. The law of plans that are put in order: by plain data. The statement on plans that are put in order: the walk. The statement on plans that are put in order: the walk, its second half. -/
import Derived.Test.YtbdaiimljcjmpaaGreatBT16
import Derived.Test.YtbdaiimljcjmpaaGreatBT15
import Derived.Test.YtbdaiimljcjmpaaGreatBT17
namespace Go.Rb
set_option linter.unusedVariables false
set_option linter.unusedSimpArgs false
set_option maxRecDepth 8000
variable {T : Tab}

theorem bitLenAux_le : ∀ (f x : Nat), Lib.bitLenAux f x ≤ f
  | 0, _ => Nat.le_refl _
  | f + 1, x => by
    unfold Lib.bitLenAux
    split
    · omega
    · have := bitLenAux_le f (x / 2); omega
theorem bitLen_le (x : Nat) : Lib.bitLen x ≤ 64 := bitLenAux_le 64 x
def mSortC (n : Int) : Int := mTimes (mRows n) (Lib.bitLen (mRows n).toNat : Nat)
theorem sortC_ok (hT : HasX T) (n : Int) : Ret T 36 [mkI n] (mkI (mSortC n)) := by
  have hT' := hT.toHas
  have h1 := rows_ok hT' n
  have hr := mRows_le n
  have h2 := len64_ok hT (mRows n).toNat (by omega)
  have hb := bitLen_le (mRows n).toNat
  have h3 := times_ok hT' (mRows n) (Lib.bitLen (mRows n).toNat : Nat) hr.1 (by omega) (by omega) (by omega)
  have e1 : ((mRows n).toNat : Int) = mRows n := Int.toNat_of_nonneg hr.1
  have e2 : wu (mRows n) = mRows n := wu_id hr.1 (by omega)
  unfold Ret at h1 h2 h3
  rw [e1] at h2
  refine ret_of (by simp) (callW hT' L36 rfl ?_)
  simp [F36, hT', impL, h1, h2, h3, e2, mSortC]
def mGroupC (n : Int) (b : Bool) : Int := if b = true then mTimes 2 (mRows n) else mScan n
theorem groupC_ok (hT : HasX T) (n : Int) (b : Bool) : Ret T 117 [mkI n, .bool b] (mkI (mGroupC n b)) := by
  have hT' := hT.toHas
  have h1 := rows_ok hT' n
  have hr := mRows_le n
  have h2 := times_ok hT' 2 (mRows n) (by decide) hr.1 (by decide) (by omega)
  have h3 := scan_ok hT' n
  unfold Ret at h1 h2 h3
  refine ret_of (by simp) (callW hT' L117 rfl ?_)
  cases b
  · simp [F117, hT', impL, h1, h2, h3, mGroupC]
  · simp [F117, hT', impL, h1, h2, h3, mGroupC]
def mNestC (a b : Int) : Int := mTimes (mRows a) (mRows b)
theorem nestC_ok (hT : HasX T) (a b : Int) : Ret T 65 [mkI a, mkI b] (mkI (mNestC a b)) := by
  have hT' := hT.toHas
  have h1 := rows_ok hT' a
  have h2 := rows_ok hT' b
  have hr1 := mRows_le a
  have hr2 := mRows_le b
  have h3 := times_ok hT' (mRows a) (mRows b) hr1.1 hr2.1 (by omega) (by omega)
  unfold Ret at h1 h2 h3
  refine ret_of (by simp) (callW hT' L65 rfl ?_)
  simp [F65, hT', impL, h1, h2, h3, mNestC]
def mHashC (a b : Int) : Int := mAdd [mTimes 1 (mRows a), mTimes 2 (mRows b)]
theorem hashC_ok (hT : HasX T) (a b : Int) : Ret T 67 [mkI a, mkI b] (mkI (mHashC a b)) := by
  have hT' := hT.toHas
  have h1 := rows_ok hT' a
  have h2 := rows_ok hT' b
  have hr1 := mRows_le a
  have hr2 := mRows_le b
  have h3 := times_ok hT' 1 (mRows a) (by decide) hr1.1 (by decide) (by omega)
  have h4 := times_ok hT' 2 (mRows b) (by decide) hr2.1 (by decide) (by omega)
  have h5 := add_ok hT' [mTimes 1 (mRows a), mTimes 2 (mRows b)] (by simp)
  unfold Ret at h1 h2 h3 h4 h5
  replace h5 := pure_own (m := [.sl .full [mkI (mTimes 1 (mRows a)), mkI (mTimes 2 (mRows b))]]) h5 (by simp) (by simp)
  refine ret_of (by simp) (callW hT' L67 rfl ?_)
  simp [F67, hT', impL, h1, h2, h3, h4, h5, mHashC]
def mMergeC (a b : Int) : Int := mAdd [mScan a, mScan b]
theorem mergeC_ok (hT : HasX T) (a b : Int) : Ret T 258 [mkI a, mkI b] (mkI (mMergeC a b)) := by
  have hT' := hT.toHas
  have h1 := scan_ok hT' a
  have h2 := scan_ok hT' b
  have h5 := add_ok hT' [mScan a, mScan b] (by simp)
  unfold Ret at h1 h2 h5
  replace h5 := pure_own (m := [.sl .full [mkI (mScan a), mkI (mScan b)]]) h5 (by simp) (by simp)
  refine ret_of (by simp) (callW hT' L258 rfl ?_)
  simp [F258, hT', impL, h1, h2, h5, mMergeC]
theorem divs_ok (hT : Has T) : Ret T 193 [] (.agg [mkI 3, mkI 10]) := by
  refine ret_of (by simp) (callW hT L193 rfl ?_)
  simp [F193]

/-- one factor more -/
def stepT (n x : Int) : Int := min (n * x) 1099511627776
def mMul : List Int → Int → Int
  | [], n => n
  | x :: xs, n => if x ≤ 0 then 0 else mMul xs (stepT n x)
theorem mMul_in : ∀ (l : List Int) (n : Int), 0 ≤ n → n ≤ 1099511627776 → 0 ≤ mMul l n ∧ mMul l n ≤ 1099511627776
  | [], n, h0, h1 => ⟨h0, h1⟩
  | x :: xs, n, h0, h1 => by
    simp only [mMul]
    split
    · decide
    · rename_i hx
      refine mMul_in xs _ ?_ ?_
      · unfold stepT
        have := Int.mul_nonneg h0 (show 0 ≤ x by omega)
        omega
      · unfold stepT; omega
def body115 : SCode := match F115.body with
  | .seq _ (.seq _ (.seq (.seq _ (.block _ (.loop _ c))) _)) => c
  | _ => .skip
theorem times_loop (hT : Has T) (fl : Nat) (l : List Int) (hl : l.length < 9223372036854775808) (hx : ∀ x ∈ l, x < 9223372036854775808) : ∀ (k i : Nat) (n : Int) (e : Env) (σ : St) (Q : Q3), 0 ≤ n → n ≤ 1099511627776 → k + i = l.length →
    e.get 3 = .int .u64 n → e.get 8 = .sl .no (l.map mkI) → e.get 9 = mkI l.length → e.get 10 = mkI i →
    (∀ e', e'.get 3 = .int .u64 (mMul (l.drop i) n) → Q (.exit 0) e' σ) → (mMul (l.drop i) n = 0 → ∀ e', e'.get 2 = mkI 0 → Q .ret e' σ) → LoopW T fl [3, 8, 9, 10] body115 Q e σ := by
  intro k
  induction k with
  | zero =>
    intro i n e σ Q h0 h1 hk h3 h8 h9 h10 hQ1 hQ2
    have : i = l.length := by omega
    subst this
    refine loopW_round ?_
    simp [body115, F115, h3, h8, h9, h10]
    refine hQ1 _ (by simp [mMul])
  | succ k ih =>
    intro i n e σ Q h0 h1 hk h3 h8 h9 h10 hQ1 hQ2
    have hi : i < l.length := by omega
    have hw : w64 ((i : Int) + 1) = ((i + 1 : Nat) : Int) := by rw [w64_id (by omega) (by omega)]; simp
    obtain ⟨x, hxx⟩ : ∃ x, l[i]'hi = x := ⟨_, rfl⟩
    have hx' : ∀ h, l[i]'h = x := fun _ => hxx
    have hxl := hx x (by rw [← hxx]; exact List.getElem_mem _)
    rw [List.drop_eq_getElem_cons hi, hxx] at hQ1 hQ2
    simp only [mMul] at hQ1 hQ2
    refine loopW_round ?_
    by_cases h : x ≤ 0
    · rw [if_pos h] at hQ2
      simp [body115, F115, h3, h8, h9, h10, hi, hx', h]
      exact hQ2 rfl _ (by simp)
    · rw [if_neg h] at hQ1 hQ2
      have hm := mul64 hT n x h0 (by omega) (by omega) (by omega)
      unfold Ret at hm
      have hu : wu x = x := wu_id (by omega) (by omega)
      have hp : 0 ≤ n * x := Int.mul_nonneg h0 (by omega)
      have hs0 : 0 ≤ stepT n x := by unfold stepT; omega
      have hs1 : stepT n x ≤ 1099511627776 := by unfold stepT; omega
      by_cases hh : 0 < n * x / 18446744073709551616
      · have e1 : (1099511627776 : Int) = stepT n x := by unfold stepT; omega
        simp [body115, F115, h3, h8, h9, h10, hi, hx', h, hT, impL, hu, hm, hh, hw]
        refine ih (i + 1) (stepT n x) _ σ Q hs0 hs1 (by omega) ?_ ?_ ?_ ?_ (by simpa using hQ1) (by simpa using hQ2)
        all_goals simp [h8, h9]
        exact e1
      · have e1 : min (n * x % 18446744073709551616) 1099511627776 = stepT n x := by unfold stepT; omega
        simp [body115, F115, h3, h8, h9, h10, hi, hx', h, hT, impL, hu, hm, hh, hw]
        refine ih (i + 1) (stepT n x) _ σ Q hs0 hs1 (by omega) ?_ ?_ ?_ ?_ (by simpa using hQ1) (by simpa using hQ2)
        all_goals simp [h8, h9]
        exact e1
theorem timesL_ok (hT : Has T) (l : List Int) (hl : l.length < 9223372036854775808) (hx : ∀ x ∈ l, x < 9223372036854775808) : Ret T 115 [.sl .no (l.map mkI)] (mkI (mMul l 1)) := by
  have hin := mMul_in l 1 (by decide) (by decide)
  refine ret_of (by simp [closedI]) (callW hT L115 rfl ?_)
  simp [F115, stripL_map, Function.comp_def]
  refine times_loop hT 0 l hl hx l.length 0 1 _ _ _ (by decide) (by decide) (by omega) ?_ ?_ ?_ ?_ ?_ ?_
  all_goals simp
  · intro e' h
    simp [h]
    exact w64_id (by omega) (by omega)
  · intro h e' h2
    simp [h2, h]
end Go.Rb

namespace Go.Rb
set_option linter.unusedVariables false
set_option linter.unusedSimpArgs false
set_option maxRecDepth 8000
variable {T : Tab}

def rowsAt (c : Cat) (t : Int) : Int := match c[t.toNat]? with
  | some d => d.rows
  | none => 0
def mBase (c : Cat) (q : Query) (o : Int) : Int := if mQMay c q = true ∧ 0 ≤ o ∧ o < q.occ.length then rowsAt c (q.occ.getD o.toNat 0) else 0
theorem mHead_in {c : Cat} {q : Query} (h : mHead c q = true) {t : Int} (ht : t ∈ q.occ) : 0 ≤ t ∧ t < c.length := by
  unfold mHead at h
  simp only [Bool.and_eq_true, Bool.not_eq_true', List.any_eq_false] at h
  have := h.1.2 t ht
  simp [outside] at this
  omega
theorem rowsAt_in {c : Cat} (h : mDataMay c = true) (t : Int) : 0 ≤ rowsAt c t ∧ rowsAt c t ≤ 1000000 := by
  unfold rowsAt
  split
  · rename_i d hd
    have := mDataMay_def h (List.mem_of_getElem? hd)
    omega
  · decide
theorem mBase_in (c : Cat) (q : Query) (o : Int) : 0 ≤ mBase c q o ∧ mBase c q o ≤ 1000000 := by
  unfold mBase
  split
  · rename_i h
    exact rowsAt_in (mHead_data (mQMay_head h.1)) _
  · decide
def base0 : SCode := match F82.body with
  | .seq a _ => a
  | _ => .skip
def base1 : SCode := match F82.body with
  | .seq _ (.seq a _) => a
  | _ => .skip
def base2 : SCode := match F82.body with
  | .seq _ (.seq _ a) => a
  | _ => .skip
theorem base_body : F82.body = .seq base0 (.seq base1 base2) := rfl
theorem base_res : F82.res = [.tmp 6] := rfl
theorem base_ok (hT : HasX T) (c : Cat) (hc : c.length < 9223372036854775808) (q : Query) (hq : q.Fit) (o : Int) : Ret T 82 [encC c, encQ q, mkI o] (mkI (mBase c q o)) := by
  have hT' := hT.toHas
  have w := qmay_ok hT c hc q hq
  unfold Ret at w
  have e1 : encC c = encCv c := rfl
  rw [e1, encQ_v] at w
  refine ret_of (by simp) (callW hT' L82 rfl ?_)
  rw [AV.stripL, AV.stripL, AV.stripL, encC_strip, encQ_strip, e1, encQ_v, base_body, base_res]
  simp only [encQv, sl, encCv] at w ⊢
  refine wpS_cut (fun e σ => e.get 2 = mkI o ∧ e.get 3 = .box 0 0 ∧ e.get 4 = .box 1 0 ∧ σ = ⟨[.agg [.sl .no (c.map encD)], .agg [.sl .no (q.occ.map mkI), .sl .no (encEL q.p), mkI q.by_, .sl .no (q.sums.map mkI), .sl .no (q.out.map mkI), mkI q.ord]], []⟩) (by simp [base0, F82]) ?_
  rintro e σ ⟨g2, g3, g4, rfl⟩
  obtain ⟨N, hN⟩ : ∃ N : Int, (q.occ.length : Int) = N := ⟨_, rfl⟩
  cases hm : mQMay c q <;> rw [hm] at w
  · simp [base1, F82, g2, g3, g4, hT', impL, w, mBase, hm]
  · by_cases h0 : o < 0
    · simp [base1, F82, g2, g3, g4, hT', impL, w, h0, mBase, hm]
      omega
    · by_cases h1 : N ≤ o
      · simp [base1, F82, g2, g3, g4, hT', impL, w, h0, hN, h1, mBase, hm]
        omega
      · refine wpS_cut (fun e σ => e.get 2 = mkI o ∧ e.get 3 = .box 0 0 ∧ e.get 4 = .box 1 0 ∧ σ = ⟨[.agg [.sl .no (c.map encD)], .agg [.sl .no (q.occ.map mkI), .sl .no (encEL q.p), mkI q.by_, .sl .no (q.sums.map mkI), .sl .no (q.out.map mkI), mkI q.ord]], []⟩) (by simp [base1, F82, g2, g3, g4, hT', impL, w, h0, hN, h1]) ?_
        clear g2 g3 g4 w e
        rintro e σ ⟨g2, g3, g4, rfl⟩
        have ho : o.toNat < q.occ.length := by omega
        obtain ⟨t, ht⟩ : ∃ t, q.occ[o.toNat]'ho = t := ⟨_, rfl⟩
        have ht' : ∀ h, q.occ[o.toNat]'h = t := fun _ => ht
        have hin := mHead_in (mQMay_head hm) (t := t) (by rw [← ht]; exact List.getElem_mem _)
        have htc : t.toNat < c.length := by omega
        obtain ⟨d, hd⟩ : ∃ d, c[t.toNat]'htc = d := ⟨_, rfl⟩
        have hd' : ∀ h, c[t.toNat]'h = d := fun _ => hd
        have hv : mBase c q o = d.rows := by
          unfold mBase
          rw [if_pos ⟨hm, by omega, by omega⟩]
          simp [rowsAt, List.getD, ho, ht', htc, hd']
        have h0' : 0 ≤ o := by omega
        simp [base2, F82, g2, g3, g4, h0', ho, ht', hin.1, htc, hd', encD, hv]

/-! ### how many times fewer -/
def kindOf (e : Expr) : Int := if (mExprPair e).2.2 = true then 10 else 3
def divAt (q : Query) (i : Int) : Int := match q.p[i.toNat]? with
  | some e => kindOf e
  | none => 1
def mFewer (q : Query) (s : Nat) : Int := (mOwn q s).foldl (fun n i => w64 (n * divAt q i)) 1
def body116 : SCode := match F116.body with
  | .seq _ (.seq _ (.seq (.seq _ (.block _ (.loop _ c))) _)) => c
  | _ => .skip
theorem fewer_loop (hT : HasX T) (fl : Nat) (q : Query) (hf : q.Fit) (b0 : AV) (l : List Int) (hl : l.length < 9223372036854775808) (hin : ∀ x ∈ l, 0 ≤ x ∧ x < q.p.length) : ∀ (k i : Nat) (n : Int) (e : Env) (Q : Q3), k + i = l.length →
    e.get 2 = .box 0 0 → e.get 5 = mkI n → e.get 14 = .sl .no (l.map mkI) → e.get 15 = mkI l.length → e.get 16 = mkI i →
    (∀ e', e'.get 5 = mkI ((l.drop i).foldl (fun n i => w64 (n * divAt q i)) n) → Q (.exit 0) e' ⟨[encQv q], []⟩) → LoopW T fl [2, 5, 14, 15, 16] body116 Q e ⟨[encQv q], []⟩ := by
  have hT' := hT.toHas
  have wd := divs_ok hT'
  unfold Ret at wd
  intro k
  induction k with
  | zero =>
    intro i n e Q hk h2 h5 h14 h15 h16 hQ
    have : i = l.length := by omega
    subst this
    refine loopW_round ?_
    simp [body116, F116, h2, h5, h14, h15, h16]
    refine hQ _ (by simp)
  | succ k ih =>
    intro i n e Q hk h2 h5 h14 h15 h16 hQ
    have hi : i < l.length := by omega
    have hw : w64 ((i : Int) + 1) = ((i + 1 : Nat) : Int) := by rw [w64_id (by omega) (by omega)]; simp
    obtain ⟨x, hxx⟩ : ∃ x, l[i]'hi = x := ⟨_, rfl⟩
    have hx' : ∀ h, l[i]'h = x := fun _ => hxx
    have hxin := hin x (by rw [← hxx]; exact List.getElem_mem _)
    rw [List.drop_eq_getElem_cons hi, hxx, List.foldl_cons] at hQ
    have hn1 : x.toNat < q.p.length := by omega
    obtain ⟨p, hp⟩ : ∃ p, q.p[x.toNat]'hn1 = p := ⟨_, rfl⟩
    have hp1 : q.p[x.toNat]? = some p := by rw [List.getElem?_eq_getElem hn1, hp]
    have hpe : (encEL q.p)[x.toNat]? = some (encE p) := by rw [encEL_map]; simp [hp1]
    have hp' : ∀ h, (encEL q.p)[x.toNat]'h = encE p := by intro h; rw [List.getElem?_eq_getElem h] at hpe; simpa using hpe
    have hat : divAt q x = kindOf p := by unfold divAt; rw [hp1]
    have hpf : p.Fit := hf.2.2.2.2 p (by rw [← hp]; exact List.getElem_mem _)
    have w1 := exprPair_ok hT' p hpf
    unfold Ret at w1
    rw [encE_eq] at w1
    rw [hat] at hQ
    have hx0 : 0 ≤ x := hxin.1
    unfold kindOf at hQ
    generalize hz : mExprPair p = z at *
    obtain ⟨a, b, is⟩ := z
    simp only at w1
    refine loopW_round ?_
    cases is with
    | false =>
      simp at hQ
      simp [body116, F116, h2, h5, h14, h15, h16, hi, hx', hx0, hn1, hp', encE_eq, hT', impL, w1, wd, hw]
      refine ih (i + 1) (w64 (n * 3)) _ Q (by omega) ?_ ?_ ?_ ?_ ?_ (by simpa using hQ)
      all_goals simp [h14, h15]
    | true =>
      simp at hQ
      simp [body116, F116, h2, h5, h14, h15, h16, hi, hx', hx0, hn1, hp', encE_eq, hT', impL, w1, wd, hw]
      refine ih (i + 1) (w64 (n * 10)) _ Q (by omega) ?_ ?_ ?_ ?_ ?_ (by simpa using hQ)
      all_goals simp [h14, h15]
theorem fewer_ok (hT : HasX T) (q : Query) (hf : q.Fit) (hq : q.p.length ≤ 900) (s : Nat) (hs : s < 9223372036854775808) : Ret T 116 [encQ q, mkI s] (mkI (mFewer q s)) := by
  have hT' := hT.toHas
  have w1 := own_ok hT q (by omega) s hs
  unfold Ret at w1
  rw [encQ_v] at w1
  rw [sl] at w1
  refine ret_of (by simp) (callW hT' L116 rfl ?_)
  rw [AV.stripL, encQ_strip, encQ_v]
  simp [-endQ, F116, hT', impL, w1]
  have hlen := mSomeFrom_len (holds s) q.p 0
  refine fewer_loop hT 0 q hf (mkI 0) (mOwn q s) ?_ ?_ (mOwn q s).length 0 1 _ _ (by omega) ?_ ?_ ?_ ?_ ?_ ?_
  · unfold mOwn mSome; omega
  · intro x hx
    have := mSomeFrom_in (holds s) q.p 0 x hx
    simpa using this
  all_goals simp [-endQ]
  intro e' h5
  simp [h5, mFewer]
theorem fold_div (q : Query) : ∀ (l : List Int) (n : Int), l.length ≤ 6 → ∀ m : Nat, m + l.length ≤ 6 → 1 ≤ n → n ≤ 10 ^ m → 1 ≤ l.foldl (fun n i => w64 (n * divAt q i)) n
  | [], n, _, m, _, h1, _ => h1
  | x :: xs, n, hl, m, hm, h1, h2 => by
    simp only [List.length_cons] at hl hm
    rw [List.foldl_cons]
    have hd : 1 ≤ divAt q x ∧ divAt q x ≤ 10 := by
      unfold divAt
      split
      · unfold kindOf; split <;> decide
      · decide
    have hp : (10 : Int) ^ m ≤ 10 ^ 6 := by
      have : (10 : Nat) ^ m ≤ 10 ^ 6 := Nat.pow_le_pow_right (by decide) (by omega)
      exact_mod_cast this
    have a1 : 1 * 1 ≤ n * divAt q x := Int.mul_le_mul h1 hd.1 (by decide) (by omega)
    have a2 : n * divAt q x ≤ 10 ^ m * 10 := Int.mul_le_mul h2 hd.2 (by omega) (by omega)
    have hw : w64 (n * divAt q x) = n * divAt q x := w64_id (by omega) (by omega)
    refine fold_div q xs _ (by omega) (m + 1) (by omega) ?_ ?_
    · rw [hw]; omega
    · rw [hw, Int.pow_succ]; exact a2
theorem mFewer_pos (q : Query) (hq : q.p.length ≤ 6) (s : Nat) : 1 ≤ mFewer q s := by
  unfold mFewer
  have := mSomeFrom_len (holds s) q.p 0
  have hl : (mOwn q s).length ≤ 6 := by unfold mOwn mSome; omega
  exact fold_div q (mOwn q s) 1 hl 0 (by omega) (by decide) (by decide)
end Go.Rb

namespace Go.Rb
set_option linter.unusedVariables false
set_option linter.unusedSimpArgs false
set_option maxRecDepth 8000
variable {T : Tab}

def rowAt (c : Cat) (q : Query) (s : Nat) (o : Nat) : List Int := if hasBit s o then [mBase c q o] else []
def mRowsQ (c : Cat) (q : Query) (s : Nat) : Int := if mQMay c q = true then max 1 ((mMul ((List.range' 0 q.occ.length).flatMap (rowAt c q s)) 1).tdiv (mFewer q s)) else 0
def body37 : SCode := match F37.body with
  | .seq _ (.seq _ (.seq _ (.seq (.seq _ (.block _ (.loop _ c))) _))) => c
  | _ => .skip
theorem rows_loop (hT : HasX T) (fl : Nat) (c : Cat) (hc : c.length < 9223372036854775808) (q : Query) (hq : q.Fit) (s : Nat) (hs : s < 9223372036854775808) (h4 : q.occ.length ≤ 4) : ∀ (k i : Nat) (rows : List Row) (v : AV) (es : List Int) (e : Env) (Q : Q3), k + i = q.occ.length → Grown 3 1 [] rows v (es.map mkI) → es.length ≤ i →
    e.get 2 = mkI s → e.get 3 = .box 0 0 → e.get 4 = .box 1 0 → e.get 7 = v → e.get 15 = mkI q.occ.length → e.get 16 = mkI i →
    (∀ e' v' rows', Grown 3 1 [] rows' v' ((es ++ (List.range' i k).flatMap (rowAt c q s)).map mkI) → e'.get 2 = mkI s → e'.get 4 = .box 1 0 → e'.get 7 = v' → Q (.exit 0) e' ⟨[encCv c, encQv q], rows'⟩) →
    LoopW T fl [2, 3, 4, 7, 15, 16] body37 Q e ⟨[encCv c, encQv q], rows⟩ := by
  have hT' := hT.toHas
  intro k
  induction k with
  | zero =>
    intro i rows v es e Q hk hg hl g2 g3 g4 g7 g15 g16 hQ
    have : i = q.occ.length := by omega
    subst this
    refine loopW_round ?_
    simp [body37, F37, g2, g3, g4, g7, g15, g16]
    refine hQ _ v rows (by simpa using hg) ?_ ?_ ?_ <;> simp
  | succ k ih =>
    intro i rows v es e Q hk hg hl g2 g3 g4 g7 g15 g16 hQ
    have hi : i < q.occ.length := by omega
    have hi' : (i : Int) < (q.occ.length : Int) := by omega
    have hw : w64 ((i : Int) + 1) = ((i + 1 : Nat) : Int) := by rw [w64_id (by omega) (by omega)]; simp
    have wb := base_ok hT c hc q hq i
    unfold Ret at wb
    have e1 : encC c = encCv c := rfl
    rw [e1, encQ_v] at wb
    rw [List.range'_succ, List.flatMap_cons] at hQ
    have h1 : min i 64 = i := by omega
    have h2 : Int.fdiv (s : Int) (2 ^ i) = ((s / 2 ^ i : Nat) : Int) := by
      rw [Int.fdiv_eq_ediv_of_nonneg _ (Int.pow_nonneg (by decide))]
      simp
    have h3 : s / 2 ^ i < 9223372036854775808 := Nat.lt_of_le_of_lt (Nat.div_le_self _ _) hs
    have hand := and_i64 (s / 2 ^ i) 1 h3 (by decide)
    rw [Nat.and_one_is_mod] at hand
    have h0 : ¬ ((i : Int) < 0) := by omega
    replace hand : aBits .and .i64 ((s / 2 ^ i : Nat) : Int) 1 = some (mkI ((s / 2 ^ i % 2 : Nat) : Int)) := hand
    have hbit : hasBit s i = decide (s / 2 ^ i % 2 = 1) := rfl
    generalize s / 2 ^ i = X at *
    refine loopW_round ?_
    by_cases hb : X % 2 = 1
    · have hm : rowAt c q s i = [mBase c q i] := by unfold rowAt; rw [hbit]; simp [hb]
      rw [hb] at hand
      obtain ⟨v', rows', ha, hg'⟩ := hg.append (B := [encCv c, encQv q]) (o := .full) (bytes := 8) (ys := [mkI (mBase c q i)]) (by simp) (by simp [mostBytes]; omega) (by simp) (by simp)
      simp [body37, F37, g2, g3, g4, g7, g15, g16, hi', h0, IntKind.bits, h1, h2, hand, hT', impL, wb, ha, hw]
      refine ih (i + 1) rows' v' (es ++ [mBase c q i]) _ Q (by omega) (by simpa using hg') (by simp; omega) ?_ ?_ ?_ ?_ ?_ ?_ ?_
      all_goals simp [g2, g3, g4, g15]
      rw [hm] at hQ
      intro e' v'' rows'' hg'' q2 q4 q7
      exact hQ e' v'' rows'' (by simpa using hg'') q2 q4 q7
    · have hm : rowAt c q s i = [] := by unfold rowAt; rw [hbit]; simp [hb]
      have hX : ((X % 2 : Nat) : Int) = 0 := by omega
      rw [hX] at hand
      simp [body37, F37, g2, g3, g4, g7, g15, g16, hi', h0, IntKind.bits, h1, h2, hand, hw]
      refine ih (i + 1) rows v es _ Q (by omega) hg (by omega) ?_ ?_ ?_ ?_ ?_ ?_ ?_
      all_goals simp [g2, g3, g4, g15]
      rw [hm] at hQ
      intro e' v'' rows'' hg'' q2 q4 q7
      exact hQ e' v'' rows'' (by simpa using hg'') q2 q4 q7
def rw0 : SCode := match F37.body with
  | .seq a _ => a
  | _ => .skip
def rw1 : SCode := match F37.body with
  | .seq _ (.seq a _) => a
  | _ => .skip
def rw2 : SCode := match F37.body with
  | .seq _ (.seq _ (.seq a _)) => a
  | _ => .skip
def rw3 : SCode := match F37.body with
  | .seq _ (.seq _ (.seq _ (.seq a _))) => a
  | _ => .skip
def rw4 : SCode := match F37.body with
  | .seq _ (.seq _ (.seq _ (.seq _ a))) => a
  | _ => .skip
theorem rw_body : F37.body = .seq rw0 (.seq rw1 (.seq rw2 (.seq rw3 rw4))) := rfl
theorem rw_res : F37.res = [.tmp 6] := rfl
theorem rowsQ_in (c : Cat) (q : Query) (s : Nat) : 0 ≤ mRowsQ c q s ∧ mRowsQ c q s ≤ 1099511627776 := by
  unfold mRowsQ
  split
  · rename_i h
    have h1 := mMul_in ((List.range' 0 q.occ.length).flatMap (rowAt c q s)) 1 (by decide) (by decide)
    have h2 := mFewer_pos q (mQMay_p h) s
    have h3 : (mMul ((List.range' 0 q.occ.length).flatMap (rowAt c q s)) 1).tdiv (mFewer q s) ≤ mMul ((List.range' 0 q.occ.length).flatMap (rowAt c q s)) 1 := by
      rw [Int.tdiv_eq_ediv_of_nonneg h1.1]
      exact Int.ediv_le_self _ h1.1
    omega
  · decide
theorem rowsQ_ok (hT : HasX T) (c : Cat) (hc : c.length < 9223372036854775808) (q : Query) (hq : q.Fit) (s : Nat) (hs : s < 9223372036854775808) : Ret T 37 [encC c, encQ q, mkI s] (mkI (mRowsQ c q s)) := by
  have hT' := hT.toHas
  have w := qmay_ok hT c hc q hq
  unfold Ret at w
  have e1 : encC c = encCv c := rfl
  rw [e1, encQ_v] at w
  refine ret_of (by simp) (callW hT' L37 rfl ?_)
  rw [AV.stripL, AV.stripL, AV.stripL, encC_strip, encQ_strip, e1, encQ_v, rw_body, rw_res]
  refine wpS_cut (fun e σ => e.get 2 = mkI s ∧ e.get 3 = .box 0 0 ∧ e.get 4 = .box 1 0 ∧ σ = ⟨[encCv c, encQv q], []⟩) (by simp [rw0, F37]) ?_
  rintro e σ ⟨g2, g3, g4, rfl⟩
  cases hm : mQMay c q <;> rw [hm] at w
  · simp [rw1, F37, g2, g3, g4, hT', impL, w, mRowsQ, hm]
  · have hocc := mQMay_occ hm
    have hp6 := mQMay_p hm
    refine wpS_cut (fun e σ => e.get 2 = mkI s ∧ e.get 3 = .box 0 0 ∧ e.get 4 = .box 1 0 ∧ σ = ⟨[encCv c, encQv q], []⟩) (by simp [rw1, F37, g2, g3, g4, hT', impL, w]) ?_
    clear g2 g3 g4 w e
    rintro e σ ⟨g2, g3, g4, rfl⟩
    refine wpS_cut (fun e σ => e.get 2 = mkI s ∧ e.get 3 = .box 0 0 ∧ e.get 4 = .box 1 0 ∧ e.get 7 = .sl .full [] ∧ σ = ⟨[encCv c, encQv q], []⟩) (by simp [rw2, F37, g2, g3, g4]) ?_
    clear g2 g3 g4 e
    rintro e σ ⟨g2, g3, g4, g7, rfl⟩
    show wpS T 0 rw3 (thenQ (wpS T 0 rw4 _) _) e _
    simp only [rw3, F37]
    simp [-endQ, g2, g3, g4, g7, sl]
    refine rows_loop hT 0 c hc q hq s hs hocc.2 q.occ.length 0 [] (.sl .full []) [] _ _ (by omega) (grown_nil _ _ _) (by simp) ?_ ?_ ?_ ?_ ?_ ?_ ?_
    all_goals simp [-endQ, g2, g3, g4, g7]
    intro e' v' rows' hg q2 q4 q7
    have hg2 : Grown 3 1 [] rows' v' (((List.range' 0 q.occ.length).flatMap (rowAt c q s)).map mkI) := by simpa using hg
    obtain ⟨L, hL⟩ : ∃ L, (List.range' 0 q.occ.length).flatMap (rowAt c q s) = L := ⟨_, rfl⟩
    rw [hL] at hg2
    obtain ⟨o, hv⟩ := grown_sl hg2
    have hLx : ∀ x ∈ L, x < 9223372036854775808 := by
      intro x hx
      rw [← hL, List.mem_flatMap] at hx
      obtain ⟨y, _, hy⟩ := hx
      unfold rowAt at hy
      split at hy
      · simp at hy; rw [hy]; have := mBase_in c q y; omega
      · cases hy
    have hLl : L.length < 9223372036854775808 := by
      have : ∀ l : List Nat, (l.flatMap (rowAt c q s)).length ≤ l.length := by
        intro l
        induction l with
        | nil => simp
        | cons y ys ih =>
          simp only [List.flatMap_cons, List.length_append, List.length_cons]
          have : (rowAt c q s y).length ≤ 1 := by unfold rowAt; split <;> simp
          omega
      have h := this (List.range' 0 q.occ.length)
      rw [hL, List.length_range'] at h
      omega
    have w1 := timesL_ok hT' L hLl hLx
    have w2 := fewer_ok hT q hq (by omega) s hs
    unfold Ret at w1 w2
    replace w1 := pure_own (m := [.sl o (L.map mkI)]) w1 (by simp) (by simp)
    rw [encQ_v] at w2
    have hpos := mFewer_pos q hp6 s
    have hne : ¬ mFewer q s = 0 := by omega
    have hin := mMul_in L 1 (by decide) (by decide)
    have hle : (mMul L 1).tdiv (mFewer q s) ≤ mMul L 1 := by
      rw [Int.tdiv_eq_ediv_of_nonneg hin.1]
      exact Int.ediv_le_self _ hin.1
    have hge : 0 ≤ (mMul L 1).tdiv (mFewer q s) := by
      rw [Int.tdiv_eq_ediv_of_nonneg hin.1]
      exact Int.ediv_nonneg hin.1 (by omega)
    have hw64 : w64 ((mMul L 1).tdiv (mFewer q s)) = (mMul L 1).tdiv (mFewer q s) := w64_id (by omega) (by omega)
    have hr : mRowsQ c q s = max 1 ((mMul L 1).tdiv (mFewer q s)) := by unfold mRowsQ; rw [if_pos hm, hL]
    rw [hv] at q7
    simp [rw4, F37, q2, q4, q7, hT', impL, w1, w2, hne, hw64, hr]
end Go.Rb

namespace Go.Rb
set_option linter.unusedVariables false
set_option linter.unusedSimpArgs false
set_option maxRecDepth 8000
variable {T : Tab}

def mPrice3 (op a b : Int) : Int := if op = 1 then mNestC a b else if op = 2 then mHashC a b else mMergeC a b
def mPC (c : Cat) (q : Query) (p : Plan) : Int :=
  if p.op = 0 then mScan (mBase c q p.occ)
  else if p.op = 4 then mSortC (mRowsQ c q (setP p))
  else match p.l with
    | [a, b] => mPrice3 p.op (mRowsQ c q (setP a)) (mRowsQ c q (setP b))
    | _ => 0
def pc0 : SCode := match F111.body with
  | .seq a _ => a
  | _ => .skip
def pc1 : SCode := match F111.body with
  | .seq _ (.seq a _) => a
  | _ => .skip
def pc2 : SCode := match F111.body with
  | .seq _ (.seq _ (.seq a _)) => a
  | _ => .skip
def pc3 : SCode := match F111.body with
  | .seq _ (.seq _ (.seq _ a)) => a
  | _ => .skip
theorem pc_body : F111.body = .seq pc0 (.seq pc1 (.seq pc2 pc3)) := rfl
theorem pc_res : F111.res = [.tmp 6] := rfl
theorem pc_1 (hT : HasX T) (c : Cat) (hc : c.length < 9223372036854775808) (q : Query) (hq : q.Fit) (p : Plan) (ha : p.AllForm) (e : Env) (Q : Q3) (g3 : e.get 3 = .box 0 0) (g4 : e.get 4 = .box 1 0) (g5 : e.get 5 = .box 2 0)
    (h : p.op = 0 ∨ p.op = 4) (hQ : ∀ e' σ', e'.get 6 = mkI (mPC c q p) → Q .ret e' σ') : wpS T 0 pc1 Q e ⟨[encPv p, encCv c, encQv q], []⟩ := by
  have hT' := hT.toHas
  have w1 := planSet_ok hT' p ha
  change Ret T 185 [encP p] (mkI (setP p)) at w1
  have w2 := rowsQ_ok hT c hc q hq (setP p) (by have := setP_lt p; omega)
  have w3 := sortC_ok hT (mRowsQ c q (setP p))
  have w4 := base_ok hT c hc q hq p.occ
  have w5 := scan_ok hT' (mBase c q p.occ)
  unfold Ret at w1 w2 w3 w4 w5
  have e1 : encC c = encCv c := rfl
  rw [e1, encQ_v] at w2 w4
  rw [encP_eq] at w1
  rcases h with h | h
  · simp [pc1, F111, g3, g4, g5, h, hT', impL, w4, w5]
    exact hQ _ _ (by simp [mPC, h])
  · rw [h] at w1
    simp [pc1, F111, g3, g4, g5, h, hT', impL, w1, w2, w3]
    exact hQ _ _ (by simp [mPC, h])
theorem pc_1' (c : Cat) (q : Query) (p : Plan) (e : Env) (g3 : e.get 3 = .box 0 0) (g4 : e.get 4 = .box 1 0) (g5 : e.get 5 = .box 2 0)
    (h0 : p.op ≠ 0) (h4 : p.op ≠ 4) : wpS T 0 pc1 (only fun e σ => e.get 3 = .box 0 0 ∧ e.get 4 = .box 1 0 ∧ e.get 5 = .box 2 0 ∧ σ = ⟨[encPv p, encCv c, encQv q], []⟩) e ⟨[encPv p, encCv c, encQv q], []⟩ := by
  simp [pc1, F111, g3, g4, g5, h0, h4]
theorem pc_2 (p a b : Plan) (x y : AV) (hl : p.l = [a, b]) (e : Env) (g3 : e.get 3 = .box 0 0) (g4 : e.get 4 = .box 1 0) (g5 : e.get 5 = .box 2 0) :
    wpS T 0 pc2 (only fun e σ => e.get 3 = .box 0 0 ∧ e.get 4 = .box 1 0 ∧ e.get 5 = .box 2 0 ∧ e.get 7 = .box 3 0 ∧ e.get 8 = .box 4 0 ∧ σ = ⟨[encPv p, x, y, encPv a, encPv b], []⟩) e ⟨[encPv p, x, y], []⟩ := by
  have hE : encPL p.l = [encP a, encP b] := by rw [hl]; rfl
  simp [pc2, F111, g3, g4, g5, hE, encP_eq]
theorem pc_3 (hT : HasX T) (c : Cat) (hc : c.length < 9223372036854775808) (q : Query) (hq : q.Fit) (p a b : Plan) (hop : p.op = 1 ∨ p.op = 2 ∨ p.op = 3) (haa : a.AllForm) (hab : b.AllForm) (e : Env) (Q : Q3) (g3 : e.get 3 = .box 0 0) (g4 : e.get 4 = .box 1 0) (g5 : e.get 5 = .box 2 0) (g7 : e.get 7 = .box 3 0) (g8 : e.get 8 = .box 4 0)
    (hQ : ∀ e' σ', e'.get 6 = mkI (mPrice3 p.op (mRowsQ c q (setP a)) (mRowsQ c q (setP b))) → Q .ret e' σ') : wpS T 0 pc3 Q e ⟨[encPv p, encCv c, encQv q, encPv a, encPv b], []⟩ := by
  have hT' := hT.toHas
  have v1 := planSet_ok hT' a haa
  change Ret T 185 [encP a] (mkI (setP a)) at v1
  have v2 := planSet_ok hT' b hab
  change Ret T 185 [encP b] (mkI (setP b)) at v2
  have v3 := rowsQ_ok hT c hc q hq (setP a) (by have := setP_lt a; omega)
  have v4 := rowsQ_ok hT c hc q hq (setP b) (by have := setP_lt b; omega)
  have v5 := prices_ok hT p.op
  unfold Ret at v1 v2 v3 v4 v5
  have e1 : encC c = encCv c := rfl
  rw [e1, encQ_v] at v3 v4
  rw [encP_eq] at v1 v2
  generalize mRowsQ c q (setP a) = ra at *
  generalize mRowsQ c q (setP b) = rb at *
  have w1 := nestC_ok hT ra rb
  have w2 := hashC_ok hT ra rb
  have w3 := mergeC_ok hT ra rb
  unfold Ret at w1 w2 w3
  rcases hop with h | h | h
  · rw [h] at v5
    simp only [mPrice, if_true] at v5
    simp [pc3, F111, g3, g4, g5, g7, g8, h, hT', impL, v1, v2, v3, v4, v5, w1]
    exact hQ _ _ (by simp [mPrice3, h])
  · rw [h] at v5
    have v5' : pureCall (lim T) 190 [mkI 2] = some (.agg [.fn (.func 67) [] []]) := v5
    simp [pc3, F111, g3, g4, g5, g7, g8, h, hT', impL, v1, v2, v3, v4, v5', w2]
    exact hQ _ _ (by simp [mPrice3, h])
  · rw [h] at v5
    have v5' : pureCall (lim T) 190 [mkI 3] = some (.agg [.fn (.func 258) [] []]) := v5
    simp [pc3, F111, g3, g4, g5, g7, g8, h, hT', impL, v1, v2, v3, v4, v5', w3]
    exact hQ _ _ (by simp [mPrice3, h])
theorem form_op {p : Plan} (h : mForm p = true) (h0 : p.op ≠ 0) (h4 : p.op ≠ 4) : p.op = 1 ∨ p.op = 2 ∨ p.op = 3 := by
  simp only [mForm, Bool.and_eq_true, decide_eq_true_eq] at h
  have := h.1.1.1
  omega
theorem pc_ok (hT : HasX T) (c : Cat) (hc : c.length < 9223372036854775808) (q : Query) (hq : q.Fit) (p : Plan) (ha : p.AllForm) : Ret T 111 [encP p, encC c, encQ q] (mkI (mPC c q p)) := by
  have hT' := hT.toHas
  have e1 : encC c = encCv c := rfl
  refine ret_of (by simp) (callW hT' L111 rfl ?_)
  rw [AV.stripL, AV.stripL, AV.stripL, encP_strip, encC_strip, encQ_strip, e1, encQ_v, encP_eq, pc_body, pc_res]
  refine wpS_cut (fun e σ => e.get 3 = .box 0 0 ∧ e.get 4 = .box 1 0 ∧ e.get 5 = .box 2 0 ∧ σ = ⟨[encPv p, encCv c, encQv q], []⟩) (by simp [pc0, F111]) ?_
  rintro e σ ⟨g3, g4, g5, rfl⟩
  have hend : ∀ (e' : Env) (σ' : St), e'.get 6 = mkI (mPC c q p) → endQ 0 [SRes.tmp 6] (fun u _ => u.closed = true ∧ u.strip = mkI (mPC c q p)) .ret e' σ' := by
    intro e' σ' h6
    simp [h6]
  by_cases h : p.op = 0 ∨ p.op = 4
  · refine pc_1 hT c hc q hq p ha e _ g3 g4 g5 h ?_
    exact hend
  · have h0 : p.op ≠ 0 := fun x => h (.inl x)
    have h4 : p.op ≠ 4 := fun x => h (.inr x)
    have hform := allForm_form p ha
    obtain ⟨a, b, hl⟩ := form_two p hform h0 h4
    have haa := allForm_l p ha a (by simp [hl])
    have hab := allForm_l p ha b (by simp [hl])
    have hmf : mPC c q p = mPrice3 p.op (mRowsQ c q (setP a)) (mRowsQ c q (setP b)) := by
      unfold mPC; rw [if_neg h0, if_neg h4, hl]
    refine wpS_cut _ (pc_1' c q p e g3 g4 g5 h0 h4) ?_
    clear g3 g4 g5 e
    rintro e σ ⟨g3, g4, g5, rfl⟩
    refine wpS_cut _ (pc_2 p a b (encCv c) (encQv q) hl e g3 g4 g5) ?_
    clear g3 g4 g5 e
    rintro e σ ⟨g3, g4, g5, g7, g8, rfl⟩
    refine pc_3 hT c hc q hq p a b (form_op hform h0 h4) haa hab e _ g3 g4 g5 g7 g8 ?_
    intro e' σ' h6
    exact hend e' σ' (by rw [h6, hmf])
end Go.Rb

namespace Go.Rb
set_option linter.unusedVariables false
set_option linter.unusedSimpArgs false
set_option maxRecDepth 8000
variable {T : Tab}

def stCost (c : Cat) (q : Query) (p : Plan) (s : List Int) : Bool × List Int := (true, s ++ [mPC c q p])
def layCost (c : Cat) (q : Query) (p0 : Plan) : Lay (List Int) := ⟨fun s => [encCv c, encQv q, encPv p0, vOf s], rowsOf⟩
theorem encPv_closed (p : Plan) : (encPv p).closed = true := by have h := encP_closed p; rw [encP_eq] at h; exact h
theorem encQv_closed (q : Query) : (encQv q).closed = true := encQ_closed q
theorem encCv_closed (c : Cat) : (encCv c).closed = true := encC_closed c
theorem layCost_ok (c : Cat) (q : Query) (p0 : Plan) : (layCost c q p0).Ok (budget 0) 4 := ⟨fun s _ => by
  simp only [layCost, AV.closedL, encCv_closed, encQv_closed, encPv_closed, vOf_closed, Bool.and_self], fun s _ => rfl⟩
theorem vOf_okv (s : List Int) : (vOf s).okv = true := by unfold vOf; split <;> rfl
theorem vOf_cells (s : List Int) : (vOf s).cells = [vOf s] := by unfold vOf; split <;> rfl
theorem vOf_set (s : List Int) (v : AV) : (vOf s).set 0 [v] = v := by unfold vOf; split <;> rfl
theorem vOf_isB (s : List Int) : (vOf s).isB = false := by unfold vOf; split <;> rfl
theorem cost1_ok (hT : HasX T) (c : Cat) (hc : c.length < 9223372036854775808) (q : Query) (hq : q.Fit) (p0 : Plan) : CloP T (layCost c q p0) budget (fun p => p.Fit ∧ p.AllForm) 110 [] [.box 3 0, .box 0 0, .box 1 0] (stCost c q) := by
  have hT' := hT.toHas
  refine ⟨by rw [imp_has hT']; rfl, fun k s h => by unfold budget at *; omega, ?_, ?_⟩
  · intro p k s h
    unfold budget at *
    unfold stCost
    simp only [List.length_append, List.length_cons, List.length_nil]
    omega
  rintro p s extra ⟨hf, ha⟩ hI hex
  have hI1 : s.length ≤ 1000000 := by unfold budget at hI; omega
  have w := pc_ok hT c hc q hq p ha
  unfold Ret at w
  have e1 : encC c = encCv c := rfl
  rw [e1, encQ_v, encP_eq] at w
  have hw : CallW T 110 [encP p, .box 3 0, .box 0 0, .box 1 0] ((layCost c q p0).st s extra) (fun v σ' => v = .bool true ∧ σ' = (layCost c q p0).st (stCost c q p s).2 extra) := by
    refine callW hT' L110 rfl ?_
    rw [encP_eq]
    have happ := app_ok (encCv c :: encQv q :: encPv p0 :: vOf s :: (extra ++ [encPv p])) s (mPC c q p) hI1
    have hcl := vOf_closed (s ++ [mPC c q p])
    have hokv := vOf_okv (s ++ [mPC c q p])
    have hcs := vOf_cells (s ++ [mPC c q p])
    have hcs' := vOf_cells s
    have hset := vOf_set s
    generalize hP0 : encPv p0 = P0 at *
    have hP0c : P0.closed = true := by rw [← hP0]; exact encPv_closed p0
    simp [-endQ, -AV.set, F110, layCost, Lay.st, stCost, hT', impL, w, happ, hcl, hokv, hcs, hcs', hset, hP0]
    have hsh : ∀ (v x : AV), encCv c :: encQv q :: P0 :: v :: (extra ++ [x]) = (encCv c :: encQv q :: P0 :: v :: extra) ++ [x] := by intro v x; simp
    rw [hsh]
    refine end_boxes (by simp) (.inr rfl) (by simp) (by simp) ?_ ⟨rfl, rfl⟩
    simp only [AV.closedL, encCv_closed, encQv_closed, hP0c, vOf_closed, hex, Bool.and_self]
  obtain ⟨v, σ', h1, h2, h3⟩ := hw
  simp only [List.nil_append]
  rw [h1, h2, h3]; rfl
mutual
def mCosts (c : Cat) (q : Query) : Plan → List Int
  | .mk o a b d l => mPC c q (.mk o a b d l) :: mCostsL c q l
def mCostsL (c : Cat) (q : Query) : List Plan → List Int
  | [] => []
  | x :: xs => mCosts c q x ++ mCostsL c q xs
end
mutual
theorem each_costs (c : Cat) (q : Query) : ∀ (p : Plan) (s : List Int), mEach (stCost c q) p s = (true, s ++ mCosts c q p)
  | .mk o a b d l, s => by
    simp only [mEach, stCost, if_true]
    rw [each_costsL c q l]
    simp [mCosts]
theorem each_costsL (c : Cat) (q : Query) : ∀ (l : List Plan) (s : List Int), mEachL (stCost c q) l s = (true, s ++ mCostsL c q l)
  | [], s => by simp [mEachL, mCostsL]
  | x :: xs, s => by
    simp only [mEachL, each_costs c q x s, if_true, each_costsL c q xs, mCostsL]
    simp
end
mutual
theorem costs_len (c : Cat) (q : Query) : ∀ (p : Plan), (mCosts c q p).length = p.nodes
  | .mk o a b d l => by simp [mCosts, Plan.nodes, costs_lenL c q l]; omega
theorem costs_lenL (c : Cat) (q : Query) : ∀ (l : List Plan), (mCostsL c q l).length = Plan.nodesL l
  | [] => rfl
  | x :: xs => by simp [mCostsL, Plan.nodesL, costs_len c q x, costs_lenL c q xs]
end
def mCost (c : Cat) (q : Query) (p : Plan) : Int := if mPlanMay c q p = true then mAdd (mCosts c q p) else 1125899906842624
def cost0 : SCode := match F35.body with
  | .seq a _ => a
  | _ => .skip
def cost1 : SCode := match F35.body with
  | .seq _ (.seq a _) => a
  | _ => .skip
def cost2 : SCode := match F35.body with
  | .seq _ (.seq _ a) => a
  | _ => .skip
theorem cost_body : F35.body = .seq cost0 (.seq cost1 cost2) := rfl
theorem cost_res : F35.res = [.tmp 6] := rfl
theorem mFew_nodes {p : Plan} (h : mFew p = true) : p.nodes ≤ 20 := by
  have : ∀ (p : Plan) (n : Int), 0 ≤ n → n ≤ 20 → (mEach stFew p n).1 = true → n + p.nodes ≤ 20 := by
    intro p n h0 h20 h
    exact (few_nodes p n h0 h20 h).2
  have := this p 0 (by decide) (by decide) h
  omega
theorem cost_ok (hT : HasX T) (c : Cat) (hc : c.length < 9223372036854775808) (q : Query) (hq : q.Fit) (p : Plan) (hf : p.Fit) : Ret T 35 [encC c, encQ q, encP p] (mkI (mCost c q p)) := by
  have hT' := hT.toHas
  have w := planMay_ok hT c hc q hq p hf
  unfold Ret at w
  have e1 : encC c = encCv c := rfl
  rw [e1, encQ_v, encP_eq] at w
  refine ret_of (by simp) (callW hT' L35 rfl ?_)
  rw [AV.stripL, AV.stripL, AV.stripL, encP_strip, encC_strip, encQ_strip, e1, encQ_v, encP_eq, cost_body, cost_res]
  refine wpS_cut (fun e σ => e.get 3 = .box 0 0 ∧ e.get 4 = .box 1 0 ∧ e.get 5 = .box 2 0 ∧ σ = ⟨[encCv c, encQv q, encPv p], []⟩) (by simp [cost0, F35]) ?_
  rintro e σ ⟨g3, g4, g5, rfl⟩
  cases hm : mPlanMay c q p <;> rw [hm] at w
  · simp [cost1, F35, g3, g4, g5, hT', impL, w, mCost, hm]
  · refine wpS_cut (fun e σ => e.get 3 = .box 0 0 ∧ e.get 4 = .box 1 0 ∧ e.get 5 = .box 2 0 ∧ σ = ⟨[encCv c, encQv q, encPv p], []⟩) (by simp [cost1, F35, g3, g4, g5, hT', impL, w]) ?_
    clear g3 g4 g5 w e
    rintro e σ ⟨g3, g4, g5, rfl⟩
    have hmay := hm
    unfold mPlanMay at hmay
    simp only [Bool.and_eq_true] at hmay
    have ht := hmay.1.1.1
    have hfew : mFew p = true := by
      unfold mTree at ht
      split at ht
      · rename_i h; exact h.1
      · cases ht
    have hn := mFew_nodes hfew
    have hcall := each_ok hT' (layCost_ok c q p) (cost1_ok hT c hc q hq p) p hf (parts_of p hf (mTree_form ht).1) [] [] (by unfold budget; simp only [List.length_nil]; omega) (by simp)
    rw [each_costs] at hcall
    have hst : (layCost c q p).st [] [] = ⟨[encCv c, encQv q, encPv p, .sl .full []], []⟩ := by simp [layCost, Lay.st, vOf, rowsOf]
    have hst2 : (layCost c q p).st ([] ++ mCosts c q p) [] = ⟨[encCv c, encQv q, encPv p, vOf (mCosts c q p)], rowsOf (mCosts c q p)⟩ := by simp [layCost, Lay.st]
    rw [hst, hst2, encP_eq] at hcall
    have hlen := costs_len c q p
    have wa := add_ok hT' (mCosts c q p) (by omega)
    unfold Ret at wa
    have wa' : pureCall (lim T) 34 [vOf (mCosts c q p)] = some (mkI (mAdd (mCosts c q p))) := by
      refine pure_own wa ?_ ?_
      · simp [vOf_closed, closedI]
      · unfold vOf; split <;> simp_all [stripL_map, Function.comp_def]
    have hcs := vOf_cells (mCosts c q p)
    have hib := vOf_isB (mCosts c q p)
    have hv : mCost c q p = mAdd (mCosts c q p) := by unfold mCost; rw [if_pos hm]
    rw [hv]
    simp [cost2, F35, g3, g4, g5, hT', impL, hcall, wa', hcs, hib]
end Go.Rb

namespace Go.Rb
set_option linter.unusedVariables false
set_option linter.unusedSimpArgs false

def clampC (x : Int) : Int := min (max x 0) 1125899906842624
def csum : List Int → Int
  | [] => 0
  | x :: xs => clampC x + csum xs
theorem clampC_in (x : Int) : 0 ≤ clampC x ∧ clampC x ≤ 1125899906842624 := by unfold clampC; omega
theorem csum_nn : ∀ (l : List Int), 0 ≤ csum l
  | [] => by decide
  | x :: xs => by have := clampC_in x; have := csum_nn xs; simp only [csum]; omega
theorem fold_add : ∀ (l : List Int) (n : Int), 0 ≤ n → n ≤ 1125899906842624 → l.foldl addStep n = min (n + csum l) 1125899906842624
  | [], n, h0, h1 => by simp only [List.foldl_nil, csum]; omega
  | x :: xs, n, h0, h1 => by
    have hs := addStep_in (n := n) (x := x) ⟨h0, h1⟩
    rw [List.foldl_cons, fold_add xs _ hs.1 hs.2, addStep_eq ⟨h0, h1⟩]
    have := csum_nn xs
    have := clampC_in x
    simp only [csum]
    unfold clampC at *
    omega
theorem mAdd_eq (l : List Int) : mAdd l = min (csum l) 1125899906842624 := by
  unfold mAdd
  rw [fold_add l 0 (by decide) (by decide)]
  omega
theorem mAdd_in (l : List Int) : 0 ≤ mAdd l ∧ mAdd l ≤ 1125899906842624 := by
  rw [mAdd_eq]; have := csum_nn l; omega
theorem mAdd_swap (x : Int) (l : List Int) : mAdd (x :: l) = mAdd [mAdd l, x] := by
  rw [mAdd_eq, mAdd_eq]
  simp only [csum]
  have h1 := csum_nn l
  have h2 := clampC_in x
  have h3 : clampC (mAdd l) = min (csum l) 1125899906842624 := by
    rw [mAdd_eq]; unfold clampC; omega
  rw [h3]
  omega
def sortOf (a : Plan) (col : Int) : Plan := .mk 4 0 col 0 [a]
theorem sort_tree (a : Plan) (col : Int) : mTreeOf (sortOf a col) = mTreeOf a := by simp [sortOf, mTreeOf]
theorem sort_set (a : Plan) (col : Int) : setP (sortOf a col) = setP a := by unfold setP; rw [sort_tree]
theorem sort_form (a : Plan) (col : Int) : mForm (sortOf a col) = true := by simp [sortOf, mForm, Plan.op, Plan.l, mPlans, mOcc, mPair, Plan.occ, Plan.p1]
theorem sort_fits (c : Cat) (q : Query) (a : Plan) (col : Int) : mFits c q (sortOf a col) = decide (col ∈ mColsQ c q (setP a)) := by
  unfold mFits
  rw [sort_set]
  simp [sortOf, Plan.op, Plan.p0]
  rfl
theorem sort_few (a : Plan) (col : Int) : mFew (sortOf a col) = true ↔ a.AllForm ∧ 1 + a.nodes ≤ 20 := by
  rw [mFew_iff]
  have hf := sort_form a col
  unfold sortOf at hf ⊢
  simp only [Plan.AllForm, Plan.AllFormL, Plan.nodes, Plan.nodesL, hf, true_and, and_true]
  simp
theorem sort_may {c : Cat} {q : Query} {a : Plan} {col : Int} (h : mPlanMay c q a = true) (hf : mFew (sortOf a col) = true) : mPlanMay c q (sortOf a col) = decide (col ∈ mColsQ c q (setP a)) := by
  rw [Bool.eq_iff_iff, planMay_iff, decide_eq_true_eq]
  have h' := (planMay_iff c q a).1 h
  have h1 := (mFew_iff _).1 hf
  have hall : mAllP (mFits c q) (sortOf a col) = (decide (col ∈ mColsQ c q (setP a)) && mAllP (mFits c q) a) := by
    rw [← sort_fits c q a col]
    simp [sortOf, mAllP, mAllPL]
  rw [hall, sort_tree, sort_set, h'.2.2.2.2]
  simp only [Bool.and_true, decide_eq_true_eq]
  exact ⟨fun h => h.2.2.2.2, fun h => ⟨h1, h'.2.1, h'.2.2.1, h'.2.2.2.1, h⟩⟩
theorem sort_notFew {c : Cat} {q : Query} {p : Plan} (h : mFew p = false) : mPlanMay c q p = false := by
  rw [Bool.eq_false_iff]
  intro hm
  have := (mFew_iff p).2 ((planMay_iff c q p).1 hm).1
  rw [h] at this; cases this
theorem sort_order {a : Plan} {col : Int} (hf : mFew (sortOf a col) = true) : mOrder (sortOf a col) = col := by
  unfold mOrder
  rw [if_pos hf]
  simp [sortOf, mLeft, Plan.op, Plan.p0]
theorem sort_cost {c : Cat} {q : Query} {a : Plan} {col : Int} (h : mPlanMay c q a = true) (hp : mPlanMay c q (sortOf a col) = true) : mCost c q (sortOf a col) = mAdd [mCost c q a, mSortC (mRowsQ c q (setP a))] := by
  unfold mCost
  rw [if_pos h, if_pos hp]
  have h1 : mCosts c q (sortOf a col) = mPC c q (sortOf a col) :: mCosts c q a := by simp [sortOf, mCosts, mCostsL]
  have h2 : mPC c q (sortOf a col) = mSortC (mRowsQ c q (setP a)) := by
    unfold mPC
    rw [sort_set]
    simp [sortOf, Plan.op]
  rw [h1, h2, mAdd_swap]
end Go.Rb

namespace Go.Rb
set_option linter.unusedVariables false
set_option linter.unusedSimpArgs false
set_option maxRecDepth 8000
variable {T : Tab}

def so (n : Nat) : SCode := match n, F3.body with
  | 0, .seq a _ => a
  | 1, .seq _ (.seq a _) => a
  | 2, .seq _ (.seq _ (.seq a _)) => a
  | 3, .seq _ (.seq _ (.seq _ (.seq a _))) => a
  | 4, .seq _ (.seq _ (.seq _ (.seq _ (.seq a _)))) => a
  | 5, .seq _ (.seq _ (.seq _ (.seq _ (.seq _ (.seq a _))))) => a
  | 6, .seq _ (.seq _ (.seq _ (.seq _ (.seq _ (.seq _ (.seq a _)))))) => a
  | 7, .seq _ (.seq _ (.seq _ (.seq _ (.seq _ (.seq _ (.seq _ (.seq a _))))))) => a
  | 8, .seq _ (.seq _ (.seq _ (.seq _ (.seq _ (.seq _ (.seq _ (.seq _ (.seq a _)))))))) => a
  | 9, .seq _ (.seq _ (.seq _ (.seq _ (.seq _ (.seq _ (.seq _ (.seq _ (.seq _ (.seq a _))))))))) => a
  | 10, .seq _ (.seq _ (.seq _ (.seq _ (.seq _ (.seq _ (.seq _ (.seq _ (.seq _ (.seq _ (.seq a _)))))))))) => a
  | 11, .seq _ (.seq _ (.seq _ (.seq _ (.seq _ (.seq _ (.seq _ (.seq _ (.seq _ (.seq _ (.seq _ a)))))))))) => a
  | _, _ => .skip
theorem so_body : F3.body = .seq (so 0) (.seq (so 1) (.seq (so 2) (.seq (so 3) (.seq (so 4) (.seq (so 5) (.seq (so 6) (.seq (so 7) (.seq (so 8) (.seq (so 9) (.seq (so 10) (so 11))))))))))) := rfl
theorem so_res : F3.res = [.tmp 8] := rfl
abbrev sortV (a : Plan) (col : Int) : AV := .agg [mkI 4, mkI 0, mkI col, mkI 0, .sl .full [encP a]]
theorem sort_own (a : Plan) (col : Int) {f : Nat} {v : AV} (h : Ret T f [encP (sortOf a col)] v) : pureCall (lim T) f [sortV a col] = some v := by
  refine pure_own h ?_ ?_ <;> simp [sortOf, encP, encPL]
theorem sort_own3 (c q : AV) (a : Plan) (col : Int) {f : Nat} {v : AV} (h : Ret T f [c, q, encP (sortOf a col)] v) : pureCall (lim T) f [c, q, sortV a col] = some v := by
  refine pure_own h ?_ ?_ <;> simp [sortOf, encP, encPL]
def soIn (c : Cat) (q : Query) (p : Plan) (b : Bool) : Bool := b && mPlanMay c q p
theorem so_3 (hT : HasX T) (c : Cat) (hc : c.length < 9223372036854775808) (q : Query) (hq : q.Fit) (p : Plan) (hf : p.Fit) (col : Int) (b : Bool) (e : Env) (g3 : e.get 3 = mkI col) (g4 : e.get 4 = .box 0 0) (g5 : e.get 5 = .box 1 0) (g6 : e.get 6 = .box 2 0) (g9 : e.get 9 = .bool true) (g10 : e.get 10 = .bool b) (Q : Q3)
    (hY : soIn c q p b = true → ∀ e', e'.get 3 = mkI col → e'.get 4 = .box 0 0 → e'.get 5 = .box 1 0 → e'.get 6 = .box 2 0 → Q .normal e' ⟨[encCv c, encQv q, encPv p], []⟩)
    (hN : soIn c q p b = false → ∀ e' σ', e'.get 8 = .bool true → Q .ret e' σ') : wpS T 0 (so 3) Q e ⟨[encCv c, encQv q, encPv p], []⟩ := by
  have hT' := hT.toHas
  have w := planMay_ok hT c hc q hq p hf
  unfold Ret at w
  have e1 : encC c = encCv c := rfl
  rw [e1, encQ_v, encP_eq] at w
  unfold soIn at hY hN
  cases b
  · simp [so, F3, g3, g4, g5, g6, g9, g10]
    exact hN (by simp) _ _ (by simp)
  · cases hm : mPlanMay c q p <;> rw [hm] at w hY hN
    · simp [so, F3, g3, g4, g5, g6, g9, g10, hT', impL, w]
      exact hN (by simp) _ _ (by simp)
    · simp [so, F3, g3, g4, g5, g6, g9, g10, hT', impL, w]
      exact hY (by simp) _ (by simp [g3]) (by simp [g4]) (by simp [g5]) (by simp [g6])
theorem so_45 (hT : Has T) (c q : AV) (p : Plan) (hf : p.Fit) (col : Int) (e : Env) (g3 : e.get 3 = mkI col) (g4 : e.get 4 = .box 0 0) (g5 : e.get 5 = .box 1 0) (g6 : e.get 6 = .box 2 0) :
    wpS T 0 (.seq (so 4) (so 5)) (only fun e σ => e.get 3 = mkI col ∧ e.get 4 = .box 0 0 ∧ e.get 5 = .box 1 0 ∧ e.get 6 = .box 2 0 ∧ e.get 11 = .box 3 0 ∧ e.get 13 = .box 4 0 ∧ σ = ⟨[c, q, encPv p, encT (mTree p).1, sortV p col], []⟩) e ⟨[c, q, encPv p], []⟩ := by
  have w := tree_ok hT p hf
  unfold Ret at w
  rw [encP_eq, encT_eq] at w
  refine wpS_cut (fun e σ => e.get 3 = mkI col ∧ e.get 4 = .box 0 0 ∧ e.get 5 = .box 1 0 ∧ e.get 6 = .box 2 0 ∧ e.get 11 = .box 3 0 ∧ σ = ⟨[c, q, encPv p, encT (mTree p).1], []⟩) (by simp [so, F3, g3, g4, g5, g6, hT, impL, w, encT_eq]) ?_
  clear g3 g4 g5 g6 w e
  rintro e σ ⟨g3, g4, g5, g6, g11, rfl⟩
  simp [so, F3, g3, g4, g5, g6, g11, encP_eq]
theorem so_6 {col : Int} (hT : HasX T) (c : Cat) (hc : c.length < 9223372036854775808) (q : Query) (hq : q.Fit) (p : Plan) (hs : (sortOf p col).Fit) (t : AV) (e : Env) (g3 : e.get 3 = mkI col) (g4 : e.get 4 = .box 0 0) (g5 : e.get 5 = .box 1 0) (g6 : e.get 6 = .box 2 0) (g11 : e.get 11 = .box 3 0) (g13 : e.get 13 = .box 4 0) (Q : Q3)
    (hY : mFew (sortOf p col) = true → ∀ e', e'.get 3 = mkI col → e'.get 4 = .box 0 0 → e'.get 5 = .box 1 0 → e'.get 6 = .box 2 0 → e'.get 11 = .box 3 0 → e'.get 13 = .box 4 0 → Q .normal e' ⟨[encCv c, encQv q, encPv p, t, sortV p col], []⟩)
    (hN : ∀ e' σ', e'.get 8 = .bool true → Q .ret e' σ') : wpS T 0 (so 6) Q e ⟨[encCv c, encQv q, encPv p, t, sortV p col], []⟩ := by
  have hT' := hT.toHas
  have w1 := sort_own p col (few_ok hT' _ hs)
  have w2 := sort_own3 _ _ p col (planMay_ok hT c hc q hq _ hs)
  have e1 : encC c = encCv c := rfl
  rw [e1, encQ_v] at w2
  cases hm : mFew (sortOf p col) <;> rw [hm] at w1
  · rw [sort_notFew hm] at w2
    simp [so, F3, g3, g4, g5, g6, g11, g13, hT', impL, w1, w2]
    exact hN _ _ (by simp)
  · simp [so, F3, g3, g4, g5, g6, g11, g13, hT', impL, w1]
    exact hY hm _ (by simp [g3]) (by simp [g4]) (by simp [g5]) (by simp [g6]) (by simp [g11]) (by simp [g13])
end Go.Rb

namespace Go.Rb
set_option linter.unusedVariables false
set_option linter.unusedSimpArgs false
set_option maxRecDepth 8000
variable {T : Tab}

theorem so_7 (hT : HasX T) (c : Cat) (hc : c.length < 9223372036854775808) (q : Query) (hq : q.Fit) (p t : AV) (tr : Tree) (z : Nat) (hz : mTreeSet tr = z) (hz16 : z < 16) (pv : AV) (col : Int) (e : Env) (g3 : e.get 3 = mkI col) (g4 : e.get 4 = .box 0 0) (g5 : e.get 5 = .box 1 0) (g6 : e.get 6 = .box 2 0) (g11 : e.get 11 = .box 3 0) (g13 : e.get 13 = .box 4 0) :
    wpS T 0 (so 7) (only fun e σ => e.get 3 = mkI col ∧ e.get 4 = .box 0 0 ∧ e.get 5 = .box 1 0 ∧ e.get 6 = .box 2 0 ∧ e.get 11 = .box 3 0 ∧ e.get 13 = .box 4 0 ∧ e.get 14 = sl (mColsQ c q z) ∧ σ = ⟨[encCv c, encQv q, p, encT tr, pv], []⟩) e ⟨[encCv c, encQv q, p, encT tr, pv], []⟩ := by
  have hT' := hT.toHas
  have w1 := treeSet_ok hT' tr
  have w2 := colsQ_ok hT c hc q hq z (by omega)
  unfold Ret at w1 w2
  have e1 : encC c = encCv c := rfl
  rw [e1, encQ_v] at w2
  rw [hz, encT_eq] at w1
  rw [encT_eq]
  simp [so, F3, g3, g4, g5, g6, g11, g13, hT', impL, w1, w2]
def body3 : SCode := match so 9 with
  | .seq _ (.block _ (.loop _ c)) => c
  | _ => .skip
theorem so_loop (hT : Has T) (fl : Nat) (l : List Int) (hl : l.length < 9223372036854775808) (col : Int) (σ : St) : ∀ (k i : Nat) (b : Bool) (e : Env) (Q : Q3), k + i = l.length →
    e.get 3 = mkI col → e.get 4 = .box 0 0 → e.get 5 = .box 1 0 → e.get 6 = .box 2 0 → e.get 11 = .box 3 0 → e.get 13 = .box 4 0 → e.get 14 = sl l → e.get 15 = .bool b → e.get 16 = mkI i →
    (∀ e', e'.get 3 = mkI col → e'.get 4 = .box 0 0 → e'.get 5 = .box 1 0 → e'.get 6 = .box 2 0 → e'.get 11 = .box 3 0 → e'.get 13 = .box 4 0 → e'.get 15 = .bool (b || decide (col ∈ l.drop i)) → Q (.exit 0) e' σ) → LoopW T fl [3, 4, 5, 6, 11, 13, 14, 15, 16] body3 Q e σ := by
  intro k
  induction k with
  | zero =>
    intro i b e Q hk g3 g4 g5 g6 g11 g13 g14 g15 g16 hQ
    have : i = l.length := by omega
    subst this
    refine loopW_round ?_
    simp [body3, so, F3, g3, g4, g5, g6, g11, g13, g14, g15, g16, sl]
    refine hQ _ ?_ ?_ ?_ ?_ ?_ ?_ ?_ <;> simp
  | succ k ih =>
    intro i b e Q hk g3 g4 g5 g6 g11 g13 g14 g15 g16 hQ
    have hi : i < l.length := by omega
    have hw : w64 ((i : Int) + 1) = ((i + 1 : Nat) : Int) := by rw [w64_id (by omega) (by omega)]; simp
    obtain ⟨x, hxx⟩ : ∃ x, l[i]'hi = x := ⟨_, rfl⟩
    have hx' : ∀ h, l[i]'h = x := fun _ => hxx
    rw [List.drop_eq_getElem_cons hi, hxx] at hQ
    refine loopW_round ?_
    cases b with
    | true =>
      simp [body3, so, F3, g3, g4, g5, g6, g11, g13, g14, g15, g16, sl, hi, hw]
      refine ih (i + 1) true _ Q (by omega) ?_ ?_ ?_ ?_ ?_ ?_ ?_ ?_ ?_ ?_
      all_goals (try simp [sl])
      simpa using hQ
    | false =>
      simp [body3, so, F3, g3, g4, g5, g6, g11, g13, g14, g15, g16, sl, hi, hx', hw]
      refine ih (i + 1) (decide (x = col)) _ Q (by omega) ?_ ?_ ?_ ?_ ?_ ?_ ?_ ?_ ?_ ?_
      all_goals (try simp [sl])
      have hd : (decide (x = col) || decide (col ∈ l.drop (i + 1))) = (false || decide (col ∈ x :: l.drop (i + 1))) := by
        by_cases h : x = col
        · subst h; simp
        · have h' : ¬ col = x := fun e => h e.symm
          simp [h, h']
      rw [← hd] at hQ
      simpa using hQ
theorem so_89 (hT : Has T) (l : List Int) (hl : l.length < 9223372036854775808) (col : Int) (σ : St) (e : Env) (g3 : e.get 3 = mkI col) (g4 : e.get 4 = .box 0 0) (g5 : e.get 5 = .box 1 0) (g6 : e.get 6 = .box 2 0) (g11 : e.get 11 = .box 3 0) (g13 : e.get 13 = .box 4 0) (g14 : e.get 14 = sl l) :
    wpS T 0 (.seq (so 8) (so 9)) (only fun e σ' => e.get 3 = mkI col ∧ e.get 4 = .box 0 0 ∧ e.get 5 = .box 1 0 ∧ e.get 6 = .box 2 0 ∧ e.get 11 = .box 3 0 ∧ e.get 13 = .box 4 0 ∧ e.get 15 = .bool (decide (col ∈ l)) ∧ σ' = σ) e σ := by
  refine wpS_cut (fun e σ' => e.get 3 = mkI col ∧ e.get 4 = .box 0 0 ∧ e.get 5 = .box 1 0 ∧ e.get 6 = .box 2 0 ∧ e.get 11 = .box 3 0 ∧ e.get 13 = .box 4 0 ∧ e.get 14 = sl l ∧ e.get 15 = .bool false ∧ σ' = σ) (by simp [so, F3, g3, g4, g5, g6, g11, g13, g14]) ?_
  clear g3 g4 g5 g6 g11 g13 g14 e
  rintro e σ' ⟨g3, g4, g5, g6, g11, g13, g14, g15, rfl⟩
  simp only [so, F3]
  simp [g3, g4, g5, g6, g11, g13, g14, g15]
  refine so_loop hT 0 l hl col σ' l.length 0 false _ _ (by omega) ?_ ?_ ?_ ?_ ?_ ?_ ?_ ?_ ?_ ?_
  all_goals simp [g3, g4, g5, g6, g11, g13, g14, g15]
  intro e' q3 q4 q5 q6 q11 q13 q15
  exact ⟨q3, q4, q5, q6, q11, q13, q15⟩
theorem so_10 (hT : HasX T) (c : Cat) (hc : c.length < 9223372036854775808) (q : Query) (hq : q.Fit) (p : Plan) (hf : p.Fit) (tr : Tree) (z : Nat) (hz : mTreeSet tr = z) (hz16 : z < 16) (pv : AV) (col : Int) (b : Bool) (e : Env) (g3 : e.get 3 = mkI col) (g4 : e.get 4 = .box 0 0) (g5 : e.get 5 = .box 1 0) (g6 : e.get 6 = .box 2 0) (g11 : e.get 11 = .box 3 0) (g13 : e.get 13 = .box 4 0) (g15 : e.get 15 = .bool b) :
    wpS T 0 (so 10) (only fun e σ => e.get 3 = mkI col ∧ e.get 4 = .box 0 0 ∧ e.get 5 = .box 1 0 ∧ e.get 13 = .box 4 0 ∧ e.get 15 = .bool b ∧ e.get 17 = mkI (mAdd [mCost c q p, mSortC (mRowsQ c q z)]) ∧ σ = ⟨[encCv c, encQv q, encPv p, encT tr, pv], []⟩) e ⟨[encCv c, encQv q, encPv p, encT tr, pv], []⟩ := by
  have hT' := hT.toHas
  have w1 := treeSet_ok hT' tr
  have w2 := cost_ok hT c hc q hq p hf
  have w3 := rowsQ_ok hT c hc q hq z (by omega)
  have w4 := sortC_ok hT (mRowsQ c q z)
  have w5 := add_ok hT' [mCost c q p, mSortC (mRowsQ c q z)] (by simp)
  unfold Ret at w1 w2 w3 w4 w5
  replace w5 := pure_own (m := [.sl .full [mkI (mCost c q p), mkI (mSortC (mRowsQ c q z))]]) w5 (by simp) (by simp)
  have e1 : encC c = encCv c := rfl
  rw [e1, encQ_v] at w2 w3
  rw [encP_eq] at w2
  rw [hz, encT_eq] at w1
  rw [encT_eq]
  simp [so, F3, g3, g4, g5, g6, g11, g13, g15, hT', impL, w1, w2, w3, w4, w5]
theorem so_11 (hT : HasX T) (c : Cat) (hc : c.length < 9223372036854775808) (q : Query) (hq : q.Fit) (p : Plan) (col : Int) (hs : (sortOf p col).Fit) (x y : AV) (b : Bool) (n : Int) (h1 : mPlanMay c q (sortOf p col) = b) (h2 : b = true → mOrder (sortOf p col) = col) (h3 : b = true → mCost c q (sortOf p col) = n) (e : Env) (g3 : e.get 3 = mkI col) (g4 : e.get 4 = .box 0 0) (g5 : e.get 5 = .box 1 0) (g13 : e.get 13 = .box 4 0) (g15 : e.get 15 = .bool b) (g17 : e.get 17 = mkI n) (Q : Q3)
    (hQ : ∀ e' σ', e'.get 8 = .bool true → Q .ret e' σ') : wpS T 0 (so 11) Q e ⟨[encCv c, encQv q, x, y, sortV p col], []⟩ := by
  have hT' := hT.toHas
  have w1 := sort_own3 _ _ p col (planMay_ok hT c hc q hq _ hs)
  have w2 := sort_own p col (order_ok hT' _ hs)
  have w3 := sort_own3 _ _ p col (cost_ok hT c hc q hq _ hs)
  have e1 : encC c = encCv c := rfl
  rw [e1, encQ_v] at w1 w3
  rw [h1] at w1
  cases b
  · simp [so, F3, g3, g4, g5, g13, g15, g17, hT', impL, w1]
    exact hQ _ _ (by simp)
  · rw [h2 rfl] at w2
    rw [h3 rfl] at w3
    simp [so, F3, g3, g4, g5, g13, g15, g17, hT', impL, w1, w2, w3]
    exact hQ _ _ (by simp)
theorem so_end {σ' : St} {e' : Env} (h6 : e'.get 8 = .bool true) : endQ 0 F3.res (fun u _ => u.closed = true ∧ u.strip = .bool true) .ret e' σ' := by
  rw [so_res]; simp [h6]
theorem sort_fit {p : Plan} {col : Int} (hf : p.Fit) : (sortOf p col).Fit := by
  simp [sortOf, Plan.Fit, Plan.FitL, hf]
theorem planSort_ok (c : Cat) (hc : c.length < 9223372036854775808) (q : Query) (hq : q.Fit) (p : Plan) (hf : p.Fit) (col : Int) : Ret TAB 3 [encC c, encQ q, encP p, mkI col] (.bool true) := by
  have hT := tab_hasX
  have hT' := hT.toHas
  have e1 : encC c = encCv c := rfl
  obtain ⟨b, hb, _⟩ := small_ok hT' c q hq p hf
  have ha := awake11
  unfold Ret at hb ha
  rw [e1, encQ_v, encP_eq] at hb
  refine ret_of (by simp) (callW hT' L3 rfl ?_)
  rw [AV.stripL, AV.stripL, AV.stripL, encP_strip, encC_strip, encQ_strip, e1, encQ_v, encP_eq, so_body]
  refine wpS_cut (fun e σ => e.get 3 = mkI col ∧ e.get 4 = .box 0 0 ∧ e.get 5 = .box 1 0 ∧ e.get 6 = .box 2 0 ∧ σ = ⟨[encCv c, encQv q, encPv p], []⟩) (by simp [so, F3]) ?_
  rintro e σ ⟨g3, g4, g5, g6, rfl⟩
  refine wpS_cut (fun e σ => e.get 3 = mkI col ∧ e.get 4 = .box 0 0 ∧ e.get 5 = .box 1 0 ∧ e.get 6 = .box 2 0 ∧ e.get 9 = .bool true ∧ σ = ⟨[encCv c, encQv q, encPv p], []⟩) (by simp [so, F3, g3, g4, g5, g6, hT', impL, ha]) ?_
  clear g3 g4 g5 g6 e
  rintro e σ ⟨g3, g4, g5, g6, g9, rfl⟩
  refine wpS_cut (fun e σ => e.get 3 = mkI col ∧ e.get 4 = .box 0 0 ∧ e.get 5 = .box 1 0 ∧ e.get 6 = .box 2 0 ∧ e.get 9 = .bool true ∧ e.get 10 = .bool b ∧ σ = ⟨[encCv c, encQv q, encPv p], []⟩) (by simp [so, F3, g3, g4, g5, g6, g9, hT', impL, hb]) ?_
  clear g3 g4 g5 g6 g9 e
  rintro e σ ⟨g3, g4, g5, g6, g9, g10, rfl⟩
  show wpS TAB 0 (so 3) (thenQ (wpS TAB 0 (.seq (so 4) (.seq (so 5) (.seq (so 6) (.seq (so 7) (.seq (so 8) (.seq (so 9) (.seq (so 10) (so 11)))))))) _) _) e _
  refine so_3 hT c hc q hq p hf col b e g3 g4 g5 g6 g9 g10 _ ?_ ?_
  · intro hin e' q3 q4 q5 q6
    clear g3 g4 g5 g6 g9 g10 e
    simp only [soIn, Bool.and_eq_true] at hin
    have hm := hin.2
    have hset := treeSet_may hm
    have hlt := setP_lt p
    have hsf := sort_fit (col := col) hf
    show wpS TAB 0 (.seq (so 4) (.seq (so 5) (.seq (so 6) (.seq (so 7) (.seq (so 8) (.seq (so 9) (.seq (so 10) (so 11)))))))) _ e' _
    refine wpS_seq2 (so_45 hT' (encCv c) (encQv q) p hf col e' q3 q4 q5 q6) ?_
    rintro e σ ⟨g3, g4, g5, g6, g11, g13, rfl⟩
    show wpS TAB 0 (so 6) (thenQ (wpS TAB 0 (.seq (so 7) (.seq (so 8) (.seq (so 9) (.seq (so 10) (so 11))))) _) _) e _
    refine so_6 hT c hc q hq p hsf _ e g3 g4 g5 g6 g11 g13 _ ?_ ?_
    · intro hfew e2 k3 k4 k5 k6 k11 k13
      clear g3 g4 g5 g6 g11 g13 e
      have hmay := sort_may hm hfew
      show wpS TAB 0 (.seq (so 7) (.seq (so 8) (.seq (so 9) (.seq (so 10) (so 11))))) _ e2 _
      refine wpS_cut _ (so_7 hT c hc q hq (encPv p) .undef (mTree p).1 (setP p) hset hlt (sortV p col) col e2 k3 k4 k5 k6 k11 k13) ?_
      rintro e σ ⟨g3, g4, g5, g6, g11, g13, g14, rfl⟩
      refine wpS_seq2 (so_89 hT' (mColsQ c q (setP p)) (by have := mColsQ_len c q (setP p); omega) col _ e g3 g4 g5 g6 g11 g13 g14) ?_
      clear g3 g4 g5 g6 g11 g13 g14 e
      rintro e σ ⟨g3, g4, g5, g6, g11, g13, g15, rfl⟩
      refine wpS_cut _ (so_10 hT c hc q hq p hf (mTree p).1 (setP p) hset hlt (sortV p col) col _ e g3 g4 g5 g6 g11 g13 g15) ?_
      clear g3 g4 g5 g6 g11 g13 g15 e
      rintro e σ ⟨g3, g4, g5, g13, g15, g17, rfl⟩
      exact so_11 hT c hc q hq p col hsf (encPv p) _ _ _ hmay (fun _ => sort_order hfew) (fun hb => sort_cost hm (by rw [hmay]; exact hb)) e g3 g4 g5 g13 g15 g17 _ (fun e' σ' h => so_end h)
    · intro e' σ' h
      exact so_end h
  · intro _ e' σ' h6
    exact so_end h6
end Go.Rb

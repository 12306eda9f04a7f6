/- Lists of numbers: where one is, whether it is there; catalogs. Lists, by a function. Catalogs that may be. Expressions; going through an expression's parts. A part of an expression; expressions that may be. Expressions that may be. Expressions that may be: the whole. Columns; pairs. Sets of occurrences. Are all of some among others? Queries as data. A plan's set. Slices that a function builds by append. All columns of a query's occurrences. What functions that are told from elsewhere come to: an expression's columns; are all numbers different? what a plan's part costs. -/
import Derived.Test.YtbdaiimljcjmpaaGreatBT13
import Derived.Lib.SlicesCompact
import Derived.Lib.BitFns
namespace Go.Rb
set_option linter.unusedVariables false
set_option linter.unusedSimpArgs false
set_option maxRecDepth 8000
variable {T : Tab}

def mIdx (v : Int) : List Int → Int → Int
  | [], _ => -1
  | x :: xs, i => if v = x then i else mIdx v xs (i + 1)
theorem mIdx_mem (v : Int) : ∀ (l : List Int) (i : Int), 0 ≤ i → (0 ≤ mIdx v l i ↔ v ∈ l)
  | [], i, _ => by simp [mIdx]
  | x :: xs, i, h => by
    simp only [mIdx]
    split
    · rename_i hx; subst hx; simp [h]
    · rename_i hx
      rw [mIdx_mem v xs (i + 1) (by omega)]
      simp [hx]
def body208 : SCode := match F208.body with
  | .seq _ (.seq (.seq _ (.block _ (.loop _ c))) _) => c
  | _ => .skip
theorem index_loop (hT : Has T) (fl : Nat) (l : List Int) (v : Int) (hlen : l.length < 9223372036854775808) : ∀ (k i : Nat) (e : Env) (Q : Q3), k + i = l.length → e.get 0 = .sl .no (l.map mkI) → e.get 1 = mkI v → e.get 7 = mkI l.length → e.get 8 = mkI i →
    (mIdx v (l.drop i) i = -1 → ∀ e', Q (.exit 0) e' .nil) → (∀ e', e'.get 4 = mkI (mIdx v (l.drop i) i) → Q .ret e' .nil) → LoopW T fl [0, 1, 7, 8] body208 Q e .nil := by
  intro k
  induction k with
  | zero =>
    intro i e Q hk h0 h1 h7 h8 hQ1 hQ2
    have : i = l.length := by omega
    subst this
    refine loopW_round ?_
    simp [body208, F208, h0, h1, h7, h8]
    exact hQ1 (by simp [mIdx]) _
  | succ k ih =>
    intro i e Q hk h0 h1 h7 h8 hQ1 hQ2
    have hi : i < l.length := by omega
    have hw : w64 ((i : Int) + 1) = ((i + 1 : Nat) : Int) := by rw [w64_id (by omega) (by omega)]; simp
    rw [List.drop_eq_getElem_cons hi] at hQ1 hQ2
    simp only [mIdx] at hQ1 hQ2
    refine loopW_round ?_
    by_cases hv : v = l[i]
    · simp [body208, F208, h0, h1, h7, h8, hi, hv]
      refine hQ2 _ ?_
      simp [hv]
    · rw [if_neg hv] at hQ1 hQ2
      simp [body208, F208, h0, h1, h7, h8, hi, hv, hw]
      refine ih (i + 1) _ Q (by omega) ?_ ?_ ?_ ?_ (by simpa using hQ1) (by simpa using hQ2)
      all_goals simp [h0, h1, h7]
theorem index_ok (hT : Has T) (l : List Int) (v : Int) (hlen : l.length < 9223372036854775808) : Ret T 208 [.sl .no (l.map mkI), mkI v] (mkI (mIdx v l 0)) := by
  refine ret_of (by simp [closedL_all]) (callW hT L208 rfl ?_)
  simp [F208, stripL_map, Function.comp_def]
  refine index_loop hT 0 l v hlen l.length 0 _ _ (by omega) ?_ ?_ ?_ ?_ ?_ ?_
  all_goals simp
  · intro h; rw [h]
  · intro e' he; simp [he]
theorem contains_ok (hT : Has T) (l : List Int) (v : Int) (hlen : l.length < 9223372036854775808) : Ret T 137 [.sl .no (l.map mkI), mkI v] (.bool (decide (v ∈ l))) := by
  have h := index_ok hT l v hlen
  unfold Ret at h
  refine ret_of (by simp [closedL_all]) (callW hT L137 rfl ?_)
  have hm := mIdx_mem v l 0 (by decide)
  simp [F137, stripL_map, Function.comp_def, hT, impL, h, hm]

/-! ### catalogs -/
structure Def where
  cols : Int
  rows : Int
  deriving Inhabited
def encD (d : Def) : AV := .agg [mkI d.cols, mkI d.rows]
def mIn (n a b : Int) : Bool := decide (a ≤ n) && decide (n ≤ b)
theorem in_ok (hT : Has T) (n a b : Int) : Ret T 215 [mkI n, mkI a, mkI b] (.bool (mIn n a b)) := by
  refine ret_of (by simp) (callW hT L215 rfl ?_)
  by_cases h : a ≤ n <;> simp [F215, h, mIn]
def mOne (d : Def) : Bool := mIn d.cols 1 4 && mIn d.rows 1 1000000
theorem one_ok (hT : Has T) (d : Def) : Ret T 218 [encD d] (.bool (mOne d)) := by
  have h1 := in_ok hT d.cols 1 4
  have h2 := in_ok hT d.rows 1 1000000
  unfold Ret at h1 h2
  refine ret_of (by simp [encD]) (callW hT L218 rfl ?_)
  by_cases h0 : d.cols = 0 ∧ d.rows = 0
  · simp [F218, encD, h0, mOne, mIn]
  · have h0' : (decide (d.cols = 0) && decide (d.rows = 0)) = false := by simpa using h0
    cases hc : mIn d.cols 1 4 <;> rw [hc] at h1
    · simp [F218, encD, h0', hT, impL, h1, mOne, hc]
    · simp [F218, encD, h0', hT, impL, h1, h2, mOne, hc]
end Go.Rb

namespace Go.Rb
set_option linter.unusedVariables false
set_option linter.unusedSimpArgs false
set_option maxRecDepth 8000
variable {T : Tab}

def mFind {α : Type} (p : α → Bool) : List α → Int → Int
  | [], _ => -1
  | x :: xs, i => if p x then i else mFind p xs (i + 1)
theorem mFind_any {α : Type} (p : α → Bool) : ∀ (l : List α) (i : Int), 0 ≤ i → decide (0 ≤ mFind p l i) = l.any p
  | [], i, _ => by simp [mFind]
  | x :: xs, i, h => by
    simp only [mFind]
    split
    · rename_i hx; simp [hx, h]
    · rename_i hx
      rw [mFind_any p xs (i + 1) (by omega)]
      simp [hx]
def body219 : SCode := match F219.body with
  | .seq _ (.seq (.seq _ (.block _ (.loop _ c))) _) => c
  | _ => .skip
theorem find_loop (hT : Has T) (fl : Nat) (l : List Int) (g : Nat) (fst cap : List AV) (p : Int → Bool) (o : Own) (σ : St) (hg : T.imp g = true) (H : ∀ x, x ∈ l → (lim T).call g (fst ++ mkI x :: cap) σ = some (.bool (p x), σ)) (hlen : l.length < 9223372036854775808) : ∀ (k i : Nat) (e : Env) (Q : Q3), k + i = l.length → e.get 0 = .sl o (l.map mkI) → e.get 1 = .fn (.func g) fst cap → e.get 7 = mkI l.length → e.get 8 = mkI i →
    (mFind p (l.drop i) i = -1 → ∀ e', Q (.exit 0) e' σ) → (∀ e', e'.get 4 = mkI (mFind p (l.drop i) i) → Q .ret e' σ) → LoopW T fl [0, 1, 7, 8] body219 Q e σ := by
  intro k
  induction k with
  | zero =>
    intro i e Q hk h0 h1 h7 h8 hQ1 hQ2
    have : i = l.length := by omega
    subst this
    refine loopW_round ?_
    simp [body219, F219, h0, h1, h7, h8]
    exact hQ1 (by simp [mFind]) _
  | succ k ih =>
    intro i e Q hk h0 h1 h7 h8 hQ1 hQ2
    have hi : i < l.length := by omega
    have hw : w64 ((i : Int) + 1) = ((i + 1 : Nat) : Int) := by rw [w64_id (by omega) (by omega)]; simp
    have hc := H l[i] (List.getElem_mem hi)
    rw [List.drop_eq_getElem_cons hi] at hQ1 hQ2
    simp only [mFind] at hQ1 hQ2
    refine loopW_round ?_
    cases hv : p l[i] with
    | true =>
      rw [hv] at hc
      simp [body219, F219, h0, h1, h7, h8, hi, hg, hc]
      refine hQ2 _ ?_
      simp [hv]
    | false =>
      rw [hv] at hQ1 hQ2 hc
      simp [body219, F219, h0, h1, h7, h8, hi, hg, hc, hw]
      refine ih (i + 1) _ Q (by omega) ?_ ?_ ?_ ?_ (by simpa using hQ1) (by simpa using hQ2)
      all_goals simp [h0, h1, h7]
/-- a function's end in the caller's own store -/
theorem end_same {σ : St} {res : List SRes} {Q : AV → St → Prop} {e : Env} {v : AV} {x : SExit} (hx : x = .normal ∨ x = .ret) (hr : resOf e σ res = some [v]) (hq : Q v σ) : endQ σ.boxes.length res Q x e σ := by
  have ht : ({ σ with boxes := σ.boxes.take σ.boxes.length } : St) = σ := by simp
  rcases hx with rfl | rfl <;> simp only [endQ] <;> refine ⟨[v], hr, ?_⟩ <;> rw [ht] <;> split <;> exact hq
theorem findInt_ok (hT : Has T) (l : List Int) (g : Nat) (fst cap : List AV) (p : Int → Bool) (o : Own) (σ : St) (hg : T.imp g = true) (H : ∀ x, x ∈ l → (lim T).call g (fst ++ mkI x :: cap) σ = some (.bool (p x), σ)) (hlen : l.length < 9223372036854775808) : (lim T).call 219 [.sl o (l.map mkI), .fn (.func g) fst cap] σ = some (mkI (mFind p l 0), σ) := by
  have hw : CallW T 219 [.sl o (l.map mkI), .fn (.func g) fst cap] σ (fun v σ' => v = mkI (mFind p l 0) ∧ σ' = σ) := by
    refine callW hT L219 rfl ?_
    simp [-endQ, F219]
    refine find_loop hT _ l g fst cap p o σ hg H hlen l.length 0 _ _ (by omega) ?_ ?_ ?_ ?_ ?_ ?_
    all_goals simp [-endQ]
    · intro h e'; exact end_same (v := mkI (-1)) (.inr rfl) (by simp) ⟨by rw [h], rfl⟩
    · intro e' he; exact end_same (v := mkI (mFind p l 0)) (.inr rfl) (by simp [he]) ⟨rfl, rfl⟩
  obtain ⟨v, σ', h1, h2, h3⟩ := hw
  rw [h1, h2, h3]
theorem anyInt_ok (hT : Has T) (l : List Int) (g : Nat) (fst cap : List AV) (p : Int → Bool) (o : Own) (σ : St) (hg : T.imp g = true) (H : ∀ x, x ∈ l → (lim T).call g (fst ++ mkI x :: cap) σ = some (.bool (p x), σ)) (hlen : l.length < 9223372036854775808) : (lim T).call 148 [.sl o (l.map mkI), .fn (.func g) fst cap] σ = some (.bool (l.any p), σ) := by
  have h := findInt_ok hT l g fst cap p o σ hg H hlen
  have hm := mFind_any p l 0 (by decide)
  have hw : CallW T 148 [.sl o (l.map mkI), .fn (.func g) fst cap] σ (fun v σ' => v = .bool (l.any p) ∧ σ' = σ) := by
    refine callW hT L148 rfl ?_
    simp [-endQ, F148, hT, impL, h, hm]
    exact end_same (.inr rfl) rfl ⟨rfl, rfl⟩
  obtain ⟨v, σ', h1, h2, h3⟩ := hw
  rw [h1, h2, h3]
end Go.Rb

namespace Go.Rb
set_option linter.unusedVariables false
set_option linter.unusedSimpArgs false
set_option maxRecDepth 8000
variable {T : Tab}

@[simp] theorem encD_closed (d : Def) : (encD d).closed = true := by simp [encD]
@[simp] theorem encD_strip (d : Def) : (encD d).strip = encD d := by simp [encD]
@[simp] theorem encD_cells (d : Def) : (encD d).cells = [mkI d.cols, mkI d.rows] := rfl
@[simp] theorem encD_okv (d : Def) : (encD d).okv = true := rfl
@[simp] theorem encD_isB (d : Def) : (encD d).isB = false := rfl
@[simp] theorem mapD_closed (l : List Def) : AV.closedL (l.map encD) = true := by simp [closedL_all]
@[simp] theorem mapD_strip (l : List Def) : AV.stripL (l.map encD) = l.map encD := by simp [stripL_map, Function.comp_def]

theorem notOne_ok (hT : Has T) (d : Def) : Ret T 217 [encD d] (.bool (!mOne d)) := by
  have h := one_ok hT d
  unfold Ret at h
  refine ret_of (by simp) (callW hT L217 rfl ?_)
  simp only [encD] at h ⊢
  simp [F217, hT, impL, h]
def body264 : SCode := match F264.body with
  | .seq _ (.seq (.seq _ (.block _ (.loop _ c))) _) => c
  | _ => .skip
theorem findD_loop (hT : Has T) (fl : Nat) (l : List Def) (hlen : l.length < 9223372036854775808) : ∀ (k i : Nat) (e : Env) (Q : Q3), k + i = l.length → e.get 0 = .sl .no (l.map encD) → e.get 1 = .fn (.func 217) [] [] → e.get 7 = mkI l.length → e.get 8 = mkI i →
    (mFind (fun d => !mOne d) (l.drop i) i = -1 → ∀ e', Q (.exit 0) e' .nil) → (∀ e', e'.get 4 = mkI (mFind (fun d => !mOne d) (l.drop i) i) → Q .ret e' .nil) → LoopW T fl [0, 1, 7, 8] body264 Q e .nil := by
  intro k
  induction k with
  | zero =>
    intro i e Q hk h0 h1 h7 h8 hQ1 hQ2
    have : i = l.length := by omega
    subst this
    refine loopW_round ?_
    simp [body264, F264, h0, h1, h7, h8]
    exact hQ1 (by simp [mFind]) _
  | succ k ih =>
    intro i e Q hk h0 h1 h7 h8 hQ1 hQ2
    have hi : i < l.length := by omega
    have hw : w64 ((i : Int) + 1) = ((i + 1 : Nat) : Int) := by rw [w64_id (by omega) (by omega)]; simp
    have hc := notOne_ok hT l[i]
    unfold Ret at hc
    simp only [encD] at hc
    rw [List.drop_eq_getElem_cons hi] at hQ1 hQ2
    simp only [mFind] at hQ1 hQ2
    refine loopW_round ?_
    cases hv : mOne l[i] with
    | false =>
      rw [hv] at hc
      simp at hc
      simp [body264, F264, h0, h1, h7, h8, hi, hT, impL, hc]
      refine hQ2 _ ?_
      simp [hv]
    | true =>
      rw [hv] at hc
      simp at hc
      simp [hv] at hQ1 hQ2
      simp [body264, F264, h0, h1, h7, h8, hi, hT, impL, hc, hw]
      refine ih (i + 1) _ Q (by omega) ?_ ?_ ?_ ?_ (by simpa using hQ1) (by simpa using hQ2)
      all_goals simp [h0, h1, h7]
theorem findD_ok (hT : Has T) (l : List Def) (hlen : l.length < 9223372036854775808) : Ret T 264 [.sl .no (l.map encD), .fn (.func 217) [] []] (mkI (mFind (fun d => !mOne d) l 0)) := by
  refine ret_of (by simp [mapD_closed]) (callW hT L264 rfl ?_)
  simp [F264, mapD_strip]
  refine findD_loop hT 0 l hlen l.length 0 _ _ (by omega) ?_ ?_ ?_ ?_ ?_ ?_
  all_goals simp
  · intro h; rw [h]
  · intro e' he; simp [he]
theorem anyD_ok (hT : Has T) (l : List Def) (hlen : l.length < 9223372036854775808) : Ret T 216 [.sl .no (l.map encD), .fn (.func 217) [] []] (.bool (l.any fun d => !mOne d)) := by
  have h := findD_ok hT l hlen
  unfold Ret at h
  refine ret_of (by simp [mapD_closed]) (callW hT L216 rfl ?_)
  have hm := mFind_any (fun d => !mOne d) l 0 (by decide)
  simp [F216, mapD_strip, hT, impL, h, hm]

abbrev Cat := List Def
def encC (c : Cat) : AV := .agg [.sl .no (c.map encD)]
@[simp] theorem encC_closed (c : Cat) : (encC c).closed = true := by simp [encC, mapD_closed]
@[simp] theorem encC_strip (c : Cat) : (encC c).strip = encC c := by simp [encC, mapD_strip]
def mDataMay (c : Cat) : Bool := mIn c.length 1 4 && !c.any fun d => !mOne d
theorem dataMay_ok (hT : Has T) (c : Cat) (hlen : c.length < 9223372036854775808) : Ret T 147 [encC c] (.bool (mDataMay c)) := by
  have h := anyD_ok hT c hlen
  have h1 := in_ok hT c.length 1 4
  unfold Ret at h h1
  refine ret_of (by simp) (callW hT L147 rfl ?_)
  cases hc : mIn c.length 1 4 <;> rw [hc] at h1
  · simp [F147, encC, hT, impL, h1, mDataMay, hc]
  · simp [F147, encC, hT, impL, h1, h, mDataMay, hc]
end Go.Rb

namespace Go.Rb
set_option linter.unusedVariables false
set_option linter.unusedSimpArgs false
set_option maxRecDepth 8000
variable {T : Tab}

inductive Expr where
  | mk (op col k n : Int) (l : List Expr)
  deriving Inhabited
namespace Expr
def op : Expr → Int | .mk o _ _ _ _ => o
def col : Expr → Int | .mk _ o _ _ _ => o
def k : Expr → Int | .mk _ _ o _ _ => o
def n : Expr → Int | .mk _ _ _ o _ => o
def l : Expr → List Expr | .mk _ _ _ _ l => l
end Expr
mutual
def encE : Expr → AV
  | .mk o c a b l => .agg [mkI o, mkI c, mkI a, mkI b, .sl .no (encEL l)]
def encEL : List Expr → List AV
  | [] => []
  | x :: xs => encE x :: encEL xs
end
theorem encEL_map (l : List Expr) : encEL l = l.map encE := by
  induction l with
  | nil => rfl
  | cons x xs ih => simp [encEL, ih]
mutual
theorem encE_closed : ∀ (t : Expr), (encE t).closed = true
  | .mk o c a b l => by simp [encE, encEL_closed l]
theorem encEL_closed : ∀ (l : List Expr), AV.closedL (encEL l) = true
  | [] => rfl
  | x :: xs => by simp [encEL, encE_closed x, encEL_closed xs]
end
mutual
theorem encE_strip : ∀ (t : Expr), (encE t).strip = encE t
  | .mk o c a b l => by simp [encE, encEL_strip l]
theorem encEL_strip : ∀ (l : List Expr), AV.stripL (encEL l) = encEL l
  | [] => rfl
  | x :: xs => by simp [encEL, encE_strip x, encEL_strip xs]
end
attribute [simp] encE_closed encEL_closed encE_strip encEL_strip
theorem encE_eq (t : Expr) : encE t = .agg [mkI t.op, mkI t.col, mkI t.k, mkI t.n, .sl .no (encEL t.l)] := by cases t; simp [encE, Expr.op, Expr.col, Expr.k, Expr.n, Expr.l]
@[simp] theorem encE_cells (t : Expr) : (encE t).cells = [mkI t.op, mkI t.col, mkI t.k, mkI t.n, .sl .no (encEL t.l)] := by rw [encE_eq]; rfl
@[simp] theorem encE_okv (t : Expr) : (encE t).okv = true := by rw [encE_eq]; rfl
@[simp] theorem encE_isAgg (t : Expr) : (encE t).isAgg = true := by rw [encE_eq]; rfl
@[simp] theorem encE_isB (t : Expr) : (encE t).isB = false := by rw [encE_eq]; rfl
@[simp] theorem encEL_length (l : List Expr) : (encEL l).length = l.length := by rw [encEL_map, List.length_map]

mutual
def Expr.nodes : Expr → Nat
  | .mk _ _ _ _ l => 1 + Expr.nodesL l
def Expr.nodesL : List Expr → Nat
  | [] => 0
  | x :: xs => x.nodes + Expr.nodesL xs
end
/-- a closure over an expression's part, and how deep it lies, as a step; I k: k more steps may be taken -/
structure CloE (T : Tab) {S : Type} (L : Lay S) (I : Nat → S → Prop) (g : Nat) (fst cap : List AV) (st : Expr → Int → S → Bool × S) : Prop where
  imp : T.imp g = true
  mono : ∀ k s, I (k + 1) s → I k s
  inv : ∀ p d k s, I (k + 1) s → I k (st p d s).2
  call : ∀ p d s extra, I 1 s → AV.closedL extra = true → (lim T).call g (fst ++ encE p :: mkI d :: cap) (L.st s extra) = some (.bool (st p d s).1, L.st (st p d s).2 extra)

mutual
def mEachE {S : Type} (st : Expr → Int → S → Bool × S) : Expr → Int → S → Bool × S
  | .mk o c a b l, d, s => if (st (.mk o c a b l) d s).1 then mEachEL st l d (st (.mk o c a b l) d s).2 else (false, (st (.mk o c a b l) d s).2)
def mEachEL {S : Type} (st : Expr → Int → S → Bool × S) : List Expr → Int → S → Bool × S
  | [], _, s => (true, s)
  | x :: xs, d, s => if (mEachE st x (w64 (d + 1)) s).1 then mEachEL st xs d (mEachE st x (w64 (d + 1)) s).2 else (false, (mEachE st x (w64 (d + 1)) s).2)
end

def body221 : SCode := match F221.body with
  | .seq _ (.seq _ (.seq (.seq _ (.block _ (.loop _ c))) _)) => c
  | _ => .skip

section
variable {S : Type} {L : Lay S} {I : Nat → S → Prop} {n g : Nat} {fst cap : List AV} {st : Expr → Int → S → Bool × S}

theorem CloE.le (C : CloE T L I g fst cap st) {s : S} : ∀ (d k : Nat), I (k + d) s → I k s
  | 0, k, h => h
  | d + 1, k, h => CloE.le C d k (C.mono _ _ h)
mutual
theorem mEachE_inv (C : CloE T L I g fst cap st) : ∀ (p : Expr) (d : Int) (k : Nat) (s : S), I (p.nodes + k) s → I k (mEachE st p d s).2
  | .mk o c a b l, d, k, s, h => by
    simp only [Expr.nodes] at h
    have h1 := C.inv (.mk o c a b l) d (Expr.nodesL l + k) s (by rw [show Expr.nodesL l + k + 1 = 1 + Expr.nodesL l + k by omega]; exact h)
    simp only [mEachE]
    split
    · exact mEachEL_inv C l d k _ h1
    · exact C.le (Expr.nodesL l) k (by rw [Nat.add_comm]; exact h1)
theorem mEachEL_inv (C : CloE T L I g fst cap st) : ∀ (l : List Expr) (d : Int) (k : Nat) (s : S), I (Expr.nodesL l + k) s → I k (mEachEL st l d s).2
  | [], d, k, s, h => by simpa [Expr.nodesL, mEachEL] using h
  | x :: xs, d, k, s, h => by
    simp only [Expr.nodesL] at h
    have h1 := mEachE_inv C x (w64 (d + 1)) (Expr.nodesL xs + k) s (by rw [← Nat.add_assoc]; exact h)
    simp only [mEachEL]
    split
    · exact mEachEL_inv C xs d k _ h1
    · exact C.le (Expr.nodesL xs) k (by rw [Nat.add_comm]; exact h1)
end

def EachEAt (T : Tab) (L : Lay S) (I : Nat → S → Prop) (g : Nat) (fst cap : List AV) (st : Expr → Int → S → Bool × S) (p : Expr) : Prop :=
  ∀ d s extra, I p.nodes s → AV.closedL extra = true → (lim T).call 221 [encE p, mkI d, .fn (.func g) fst cap] (L.st s extra) = some (.bool (mEachE st p d s).1, L.st (mEachE st p d s).2 extra)

theorem eachE_loop (hT : Has T) (O : L.Ok (I 0) n) (C : CloE T L I g fst cap st) (p : Expr) (d : Int) (extra : List AV) (hex : AV.closedL extra = true) (fl : Nat) : ∀ (l : List Expr), (∀ q ∈ l, EachEAt T L I g fst cap st q) → ∀ (i : Nat) (s : S) (e : Env) (more : List AV) (Q : Q3), I (Expr.nodesL l) s → AV.closedL more = true → i + l.length = p.l.length → p.l.drop i = l →
    e.get 1 = mkI d → e.get 2 = .fn (.func g) fst cap → e.get 15 = .sl .no (encEL p.l) → e.get 16 = mkI p.l.length → e.get 17 = mkI i → p.l.length < 9223372036854775808 →
    ((mEachEL st l d s).1 = true → ∀ e' more', AV.closedL more' = true → Q (.exit 0) e' (L.st (mEachEL st l d s).2 (extra ++ more'))) →
    ((mEachEL st l d s).1 = false → ∀ e' more', AV.closedL more' = true → e'.get 6 = .bool false → Q .ret e' (L.st (mEachEL st l d s).2 (extra ++ more'))) →
    LoopW T fl [1, 2, 15, 16, 17] body221 Q e (L.st s (extra ++ more)) := by
  intro l
  induction l with
  | nil =>
    intro hl i s e more Q hI hm hi hd h1 h2 h13 h14 h15 hlen hQ1 hQ2
    refine loopW_round ?_
    have : i = p.l.length := by simpa using hi
    subst this
    simp [body221, F221, h1, h2, h13, h14, h15]
    exact hQ1 rfl _ more hm
  | cons q l ih =>
    intro hl i s e more Q hI hm hi hd h1 h2 h13 h14 h15 hlen hQ1 hQ2
    have hlt : i < p.l.length := by simp at hi; omega
    have hq : p.l[i] = q := by
      have := List.drop_eq_getElem_cons hlt
      rw [hd] at this; injection this with this _; exact this.symm
    have hg : ∀ h, (encEL p.l)[i]'h = encE q := by intro h; simp [encEL_map, hq]
    have hd' : p.l.drop (i + 1) = l := by
      have := List.drop_eq_getElem_cons hlt
      rw [hd] at this; injection this with _ this; exact this.symm
    refine loopW_round ?_
    have hI1 : I q.nodes s := C.le (Expr.nodesL l) _ hI
    have hcall := hl q (by simp) (w64 (d + 1)) s (extra ++ more ++ [encE q]) hI1 (by simp [closedL_append, hex, hm])
    have himp : T.imp 221 = true := by rw [imp_has hT]; rfl
    obtain ⟨A, hA⟩ : ∃ A, A = L.boxes s ++ (extra ++ more) := ⟨_, rfl⟩
    have hst : L.st s (extra ++ more ++ [encE q]) = ⟨A ++ [encE q], L.rows s⟩ := by simp [Lay.st, hA]
    have hst0 : L.st s (extra ++ more) = ⟨A, L.rows s⟩ := by simp [Lay.st, hA]
    obtain ⟨r, hr⟩ : ∃ r, r = mEachE st q (w64 (d + 1)) s := ⟨_, rfl⟩
    have hrI : I (Expr.nodesL l) r.2 := by rw [hr]; exact mEachE_inv C q _ _ s hI
    rw [← hr] at hcall
    have hassoc : L.st r.2 (extra ++ more ++ [encE q]) = L.st r.2 (extra ++ (more ++ [encE q])) := by simp
    obtain ⟨M, hM⟩ : ∃ M, M = more ++ [encE q] := ⟨_, rfl⟩
    have hMc : AV.closedL M = true := by rw [hM]; simp [closedL_append, hm]
    rw [hassoc, hst, ← hM, encE_eq] at hcall
    rw [hst0]
    have hset : ∀ x y : AV, (A ++ [x]).set A.length y = A ++ [y] := by intro x y; simp
    have hw : w64 ((i : Int) + 1) = ((i + 1 : Nat) : Int) := by rw [w64_id (by omega) (by omega)]; simp
    cases hb : r.1 with
    | true =>
      have hm' : mEachEL st (q :: l) d s = mEachEL st l d r.2 := by simp only [mEachEL, ← hr, hb, if_true]
      rw [hm'] at hQ1 hQ2
      rw [hb] at hcall
      simp [body221, F221, h1, h2, h13, h14, h15, hlt, hg, encE_eq q, himp, hcall, hset, hw]
      refine ih (fun x hx => hl x (by simp [hx])) (i + 1) _ _ M Q hrI hMc (by simp at hi; omega) hd' ?_ ?_ ?_ ?_ ?_ hlen hQ1 hQ2
      all_goals simp [h1, h2, h13, h14]
    | false =>
      have hm' : mEachEL st (q :: l) d s = (false, r.2) := by simp only [mEachEL, ← hr, hb]; simp
      rw [hm'] at hQ1 hQ2
      rw [hb] at hcall
      simp [body221, F221, h1, h2, h13, h14, h15, hlt, hg, encE_eq q, himp, hcall, hset]
      exact hQ2 rfl _ M hMc (by simp)
mutual
/-- no list is longer than a Go slice can be -/
def Expr.Fit : Expr → Prop
  | .mk _ _ _ _ l => l.length < 9223372036854775808 ∧ Expr.FitL l
def Expr.FitL : List Expr → Prop
  | [] => True
  | x :: xs => x.Fit ∧ Expr.FitL xs
end
theorem eachEAt_of (hT : Has T) (O : L.Ok (I 0) n) (C : CloE T L I g fst cap st) (p : Expr) (hlen : p.l.length < 9223372036854775808) (hl : ∀ q ∈ p.l, EachEAt T L I g fst cap st q) : EachEAt T L I g fst cap st p := by
  intro d s extra hI hex
  have hnodes : p.nodes = 1 + Expr.nodesL p.l := by cases p; rfl
  rw [hnodes] at hI
  have hIs : I 1 s := C.le _ _ hI
  have hI0 : I 0 s := C.mono _ _ hIs
  have hIl : I (Expr.nodesL p.l) (st p d s).2 := C.inv p d _ s (by rw [Nat.add_comm]; exact hI)
  have hw : CallW T 221 [encE p, mkI d, .fn (.func g) fst cap] (L.st s extra) (fun v σ' => v = .bool (mEachE st p d s).1 ∧ σ' = L.st (mEachE st p d s).2 extra) := by
    have hcall := C.call p d s (extra ++ [encE p]) hIs (by simp [closedL_append, hex])
    have hst : L.st s (extra ++ [encE p]) = ⟨(L.st s extra).boxes ++ [encE p], (L.st s extra).rows⟩ := by simp [Lay.st]
    have hI2 : I 0 (st p d s).2 := C.le (Expr.nodesL p.l) 0 (by rw [Nat.zero_add]; exact hIl)
    rw [hst] at hcall
    refine callW hT L221 rfl ?_
    refine wpS_cut (fun e σ => e.get 1 = mkI d ∧ e.get 2 = .fn (.func g) fst cap ∧ e.get 3 = .box (L.st s extra).boxes.length 0 ∧ σ = ⟨(L.st s extra).boxes ++ [encE p], (L.st s extra).rows⟩) (by simp) ?_
    rintro e σ ⟨h1, h2, h3, rfl⟩
    have hme : mEachE st p d s = if (st p d s).1 then mEachEL st p.l d (st p d s).2 else (false, (st p d s).2) := by cases p; simp only [mEachE, Expr.l]
    cases hb : (st p d s).1 with
    | false =>
      rw [hb] at hcall
      have hme' : mEachE st p d s = (false, (st p d s).2) := by rw [hme, hb]; simp
      rw [encE_eq] at hcall ⊢
      simp [-endQ, h1, h2, h3, C.imp, hcall]
      rw [hme']
      refine end_bool (more := [.agg [mkI p.op, mkI p.col, mkI p.k, mkI p.n, .sl .no (encEL p.l)]]) O hI0 hI2 hex (by simp) ?_ (.inr rfl)
      simp
    | true =>
      rw [hb] at hcall
      have hme' : mEachE st p d s = mEachEL st p.l d (st p d s).2 := by rw [hme, hb]; simp
      have hI3 : I 0 (mEachEL st p.l d (st p d s).2).2 := mEachEL_inv C p.l d 0 (st p d s).2 hIl
      rw [encE_eq] at hcall ⊢
      have hlb : (L.boxes (st p d s).2).length = (L.boxes s).length := by rw [O.len _ hI2, O.len _ hI0]
      have hbx : (L.boxes (st p d s).2 ++ (extra ++ [AV.agg [mkI p.op, mkI p.col, mkI p.k, mkI p.n, .sl .no (encEL p.l)]]))[(L.st s extra).boxes.length]? = some (AV.agg [mkI p.op, mkI p.col, mkI p.k, mkI p.n, .sl .no (encEL p.l)]) := by
        have : (L.st s extra).boxes.length = (L.boxes (st p d s).2 ++ extra).length := by simp [Lay.st, hlb]
        rw [this, ← List.append_assoc]; simp
      have hb0 : ∀ x : AV, ((L.st s extra).boxes ++ [x])[(L.st s extra).boxes.length]? = some x := by intro x; simp
      have hend := fun {more : List AV} => @end_bool S L n (I 0) O s (mEachEL st p.l d (st p d s).2).2 extra more hI0 hI3 hex
      generalize hN : (L.st s extra).boxes.length = N at *
      have hbx' : (L.st (st p d s).2 (extra ++ [AV.agg [mkI p.op, mkI p.col, mkI p.k, mkI p.n, .sl .no (encEL p.l)]])).boxes[N]? = some (AV.agg [mkI p.op, mkI p.col, mkI p.k, mkI p.n, .sl .no (encEL p.l)]) := hbx
      simp [-endQ, h1, h2, h3, C.imp, hcall, hbx', hb0]
      rw [hme']
      refine eachE_loop hT O C p d extra hex N p.l hl 0 (st p d s).2 _ [.agg [mkI p.op, mkI p.col, mkI p.k, mkI p.n, .sl .no (encEL p.l)]] _ hIl (by simp) (by simp) (by simp) ?_ ?_ ?_ ?_ ?_ hlen ?_ ?_
      · simp [h1]
      · simp [h2]
      · simp
      · simp
      · simp
      · intro hb e' more' hm'
        simp only [blockQ, if_true, thenQ]
        rw [hb]
        exact hend hm' (by simp) (.inr rfl)
      · intro hb e' more' hm' he
        simp only [blockQ, thenQ]
        rw [hb]
        exact hend hm' he (.inr rfl)
  obtain ⟨v, σ', h1, h2, h3⟩ := hw
  rw [h1, h2, h3]
mutual
theorem eachE_ok (hT : Has T) (O : L.Ok (I 0) n) (C : CloE T L I g fst cap st) : ∀ (p : Expr), p.Fit → EachEAt T L I g fst cap st p
  | .mk o c a b l, h => by
    simp only [Expr.Fit] at h
    exact eachEAt_of hT O C (.mk o c a b l) h.1 (eachEL_ok hT O C l h.2)
theorem eachEL_ok (hT : Has T) (O : L.Ok (I 0) n) (C : CloE T L I g fst cap st) : ∀ (l : List Expr), Expr.FitL l → ∀ q ∈ l, EachEAt T L I g fst cap st q
  | [], _ => by simp
  | x :: xs, h => by
    simp only [Expr.FitL] at h
    intro q hq
    rcases List.mem_cons.1 hq with hqx | hq
    · rw [hqx]; exact eachE_ok hT O C x h.1
    · exact eachEL_ok hT O C xs h.2 q hq
end
end
end Go.Rb

namespace Go.Rb
set_option linter.unusedVariables false
set_option linter.unusedSimpArgs false
set_option maxRecDepth 8000
variable {T : Tab}

def mValMay (k n : Int) : Bool := decide (0 ≤ k) && decide (k < 3) && (decide (k = 0) || decide (n = 0))
theorem valMay_ok (hT : Has T) (k n : Int) : Ret T 289 [.agg [mkI k, mkI n]] (.bool (mValMay k n)) := by
  refine ret_of (by simp) (callW hT L289 rfl ?_)
  by_cases h0 : 0 ≤ k
  · by_cases h3 : k < 3
    · by_cases hk : k = 0
      · subst hk; simp [F289, mValMay]
      · simp [F289, h0, h3, hk, mValMay]
    · simp [F289, h0, h3, mValMay]
  · simp [F289, h0, mValMay]
/-- a way of just two -/
theorem two_ok (hT : Has T) (h : Nat) (x y : AV) : (lim T).call 307 [.fn (.func h) [] []] ⟨[x, y], []⟩ = some (.agg [mkI 2, mkI 2, .fn (.func 325) [] [.box 2 0]], ⟨[x, y, .fn (.func h) [] [], .agg [mkI 2, mkI 2, .fn (.func 325) [] [.box 2 0]]], []⟩) := by
  have hw : CallW T 307 [.fn (.func h) [] []] ⟨[x, y], []⟩ (fun v σ' => v = .agg [mkI 2, mkI 2, .fn (.func 325) [] [.box 2 0]] ∧ σ' = ⟨[x, y, .fn (.func h) [] [], .agg [mkI 2, mkI 2, .fn (.func 325) [] [.box 2 0]]], []⟩) := by
    refine callW hT L307 rfl ?_
    simp [F307]
  obtain ⟨v, σ', h1, h2, h3⟩ := hw
  rw [h1, h2, h3]
def wLow (op : Int) : Int := if 2 ≤ op ∧ op ≤ 7 then 2 else if op = 10 then 1 else 0
def wHigh (op : Int) : Int := if 2 ≤ op ∧ op ≤ 7 then 2 else if op = 8 ∨ op = 9 then 4 else if op = 10 then 1 else 0
theorem ways_ok (hT : Has T) (op : Int) (x : AV) (hx : x.closed = true) : ∃ f more, f.one = true ∧ (lim T).call 288 [mkI op] ⟨[x], []⟩ = some (.agg [mkI (wLow op), mkI (wHigh op), f], ⟨x :: more, []⟩) := by
  have hu : x.under 1 = true := closed_under 1 x hx
  have hw : CallW T 288 [mkI op] ⟨[x], []⟩ (fun v σ' => ∃ f more, f.one = true ∧ v = .agg [mkI (wLow op), mkI (wHigh op), f] ∧ σ' = ⟨x :: more, []⟩) := by
    refine callW hT L288 rfl ?_
    by_cases h2 : op = 2
    · subst h2; simp [F288, hT, impL, two_ok hT, wLow, wHigh, hu]
    by_cases h3 : op = 3
    · subst h3; simp [F288, hT, impL, two_ok hT, wLow, wHigh, hu]
    by_cases h4 : op = 4
    · subst h4; simp [F288, hT, impL, two_ok hT, wLow, wHigh, hu]
    by_cases h5 : op = 5
    · subst h5; simp [F288, hT, impL, two_ok hT, wLow, wHigh, hu]
    by_cases h6 : op = 6
    · subst h6; simp [F288, hT, impL, two_ok hT, wLow, wHigh, hu]
    by_cases h7 : op = 7
    · subst h7; simp [F288, hT, impL, two_ok hT, wLow, wHigh, hu]
    by_cases h8 : op = 8
    · subst h8; simp [F288, hT, impL, wLow, wHigh, hu]
    by_cases h9 : op = 9
    · subst h9; simp [F288, hT, impL, wLow, wHigh, hu]
    by_cases h10 : op = 10
    · subst h10; simp [F288, hT, impL, wLow, wHigh, hu]
    have hn : ¬ (2 ≤ op ∧ op ≤ 7) := by omega
    simp [F288, h2, h3, h4, h5, h6, h7, h8, h9, h10, wLow, wHigh, hn, hu]
  obtain ⟨v, σ', h1, f, more, h2, h3, h4⟩ := hw
  exact ⟨f, more, h2, by rw [h1, h3, h4]⟩
end Go.Rb

namespace Go.Rb
set_option linter.unusedVariables false
set_option linter.unusedSimpArgs false
set_option maxRecDepth 8000
variable {T : Tab}

def eFew (e : Expr) : Bool := decide (wLow e.op ≤ e.l.length) && decide ((e.l.length : Int) ≤ wHigh e.op)
def eCol (e : Expr) : Bool := decide (e.col = 0) || (decide (e.op = 1) && decide (0 < e.col) && decide (e.col ≤ 15))
def eVal (e : Expr) : Bool := (decide (e.k = 0) && decide (e.n = 0)) || (decide (e.op = 0) && mValMay e.k e.n)
def mPart (e : Expr) : Bool := decide (0 ≤ e.op) && decide (e.op < 11) && eFew e && eCol e && eVal e
theorem part_ok (hT : Has T) (p : Expr) : Ret T 266 [encE p] (.bool (mPart p)) := by
  obtain ⟨f, more, hf, hways⟩ := ways_ok hT p.op (encE p) (by simp)
  have hv := valMay_ok hT p.k p.n
  unfold Ret at hv
  have hcf : f.cells = [f] := cells_of_one hf
  have hof : f.okv = true := okv_of_one hf
  refine ret_of (by simp) (callW hT L266 rfl ?_)
  refine wpS_cut (fun e σ => e.get 1 = .box 0 0 ∧ σ = ⟨[encE p], []⟩) (by simp) ?_
  rintro e σ ⟨h1, rfl⟩
  let ws : AV := .agg [mkI (wLow p.op), mkI (wHigh p.op), f]
  refine wpS_cut (fun e σ => e.get 1 = .box 0 0 ∧ e.get 3 = .box (more.length + 1) 0 ∧ σ = ⟨encE p :: (more ++ [ws]), []⟩) ?_ ?_
  · rw [encE_eq] at hways ⊢
    simp [h1, hT, impL, hways, ws]
  rintro e σ ⟨h1, h3, rfl⟩
  have hb3 : (encE p :: (more ++ [ws]))[more.length + 1]? = some ws := by simp
  generalize hB : encE p :: (more ++ [ws]) = B at *
  have hb0 : B[0]? = some (encE p) := by rw [← hB]; rfl
  clear hB hways
  refine wpS_cut (fun e σ => e.get 1 = .box 0 0 ∧ e.get 4 = .bool (eFew p) ∧ σ = ⟨B, []⟩) ?_ ?_
  · rw [encE_eq] at hb0
    by_cases q : wLow p.op ≤ p.l.length
    · simp [h1, h3, hb0, hb3, ws, q, eFew]
    · simp [h1, h3, hb0, hb3, ws, q, eFew]
  rintro e σ ⟨h1, h4, rfl⟩
  refine wpS_cut (fun e σ => e.get 1 = .box 0 0 ∧ e.get 4 = .bool (eFew p) ∧ e.get 5 = .bool (eCol p) ∧ σ = ⟨B, []⟩) ?_ ?_
  · rw [encE_eq] at hb0
    by_cases q : p.col = 0
    · simp [h1, h4, hb0, q, eCol]
    · by_cases q1 : p.op = 1
      · by_cases q2 : 0 < p.col
        · simp [h1, h4, hb0, q, q1, q2, eCol]
        · simp [h1, h4, hb0, q, q1, q2, eCol]
      · simp [h1, h4, hb0, q, q1, eCol]
  rintro e σ ⟨h1, h4, h5, rfl⟩
  refine wpS_cut (fun e σ => e.get 1 = .box 0 0 ∧ e.get 4 = .bool (eFew p) ∧ e.get 5 = .bool (eCol p) ∧ e.get 6 = .bool (eVal p) ∧ σ = ⟨B, []⟩) ?_ ?_
  · rw [encE_eq] at hb0
    by_cases q : p.k = 0 ∧ p.n = 0
    · simp [h1, h4, h5, hb0, q, eVal]
    · have q' : (decide (p.k = 0) && decide (p.n = 0)) = false := by simpa using q
      by_cases q1 : p.op = 0
      · simp [h1, h4, h5, hb0, q', q1, hT, impL, hv, eVal]
      · simp [h1, h4, h5, hb0, q', q1, eVal]
  rintro e σ ⟨h1, h4, h5, h6, rfl⟩
  rw [encE_eq] at hb0
  by_cases q0 : 0 ≤ p.op
  · by_cases q1 : p.op < 11
    · cases hfew : eFew p <;> rw [hfew] at h4
      · simp [F266, h1, h4, h5, h6, hb0, q0, q1, mPart, hfew]
      · cases hcol : eCol p <;> rw [hcol] at h5
        · simp [F266, h1, h4, h5, h6, hb0, q0, q1, mPart, hfew, hcol]
        · simp [F266, h1, h4, h5, h6, hb0, q0, q1, mPart, hfew, hcol]
    · simp [F266, h1, h4, h5, h6, hb0, q0, q1, mPart]
  · simp [F266, h1, h4, h5, h6, hb0, q0, mPart]
end Go.Rb

namespace Go.Rb
set_option linter.unusedVariables false
set_option linter.unusedSimpArgs false
set_option maxRecDepth 8000
variable {T : Tab}

/-- the closure's step: how many parts there were, how deep this one lies, and may it be? -/
def stMay (p : Expr) (d : Int) (n : Int) : Bool × Int := (decide (w64 (n + 1) ≤ 30) && decide (d ≤ 6) && mPart p, w64 (n + 1))
def layMay (p0 : Expr) : Lay Int := ⟨fun n => [encE p0, mkI n], fun _ => []⟩
theorem layMay_ok (p0 : Expr) : (layMay p0).Ok (fun _ => True) 2 := ⟨fun s _ => by simp [layMay], fun s _ => by simp [layMay]⟩
theorem may1_ok (hT : Has T) (p0 : Expr) : CloE T (layMay p0) (fun _ _ => True) 265 [] [.box 1 0] stMay := by
  refine ⟨by rw [imp_has hT]; rfl, fun _ _ _ => trivial, fun _ _ _ _ _ => trivial, ?_⟩
  intro p d n extra _ hex
  have hf := part_ok hT p
  unfold Ret at hf
  rw [encE_eq] at hf
  have hw : CallW T 265 [encE p, mkI d, .box 1 0] ((layMay p0).st n extra) (fun v σ' => v = .bool (stMay p d n).1 ∧ σ' = (layMay p0).st (stMay p d n).2 extra) := by
    refine callW hT L265 rfl ?_
    rw [encE_eq]
    by_cases hn : w64 (n + 1) ≤ 30
    · by_cases hd : d ≤ 6
      · simp [-endQ, F265, layMay, Lay.st, stMay, hn, hd, hT, impL, hf]
        exact end_bool (layMay_ok p0) (s := n) (s' := w64 (n + 1)) (more := [_]) (t := 5) trivial trivial hex (by simp) rfl (.inr rfl)
      · simp [-endQ, F265, layMay, Lay.st, stMay, hn, hd, hT, impL, hf]
        exact end_bool (layMay_ok p0) (s := n) (s' := w64 (n + 1)) (more := [_]) (t := 5) trivial trivial hex (by simp) rfl (.inr rfl)
    · simp [-endQ, F265, layMay, Lay.st, stMay, hn, hT, impL, hf]
      exact end_bool (layMay_ok p0) (s := n) (s' := w64 (n + 1)) (more := [_]) (t := 5) trivial trivial hex (by simp) rfl (.inr rfl)
  obtain ⟨v, σ', h1, h2, h3⟩ := hw
  simp only [List.nil_append]
  rw [h1, h2, h3]
def mExprMay (p : Expr) : Bool := (mEachE stMay p 1 0).1
theorem exprMay_ok (hT : Has T) (p : Expr) (hf : p.Fit) : Ret T 220 [encE p] (.bool (mExprMay p)) := by
  have h := eachE_ok hT (layMay_ok p) (may1_ok hT p) p hf 1 0 [] trivial (by simp)
  refine ret_of (by simp) (callW hT L220 rfl ?_)
  have hs : (layMay p).st 0 [] = ⟨[encE p, mkI 0], []⟩ := by simp [layMay, Lay.st]
  rw [hs, encE_eq] at h
  rw [encE_eq]
  simp [F220, hT, impL]
  simp [encE_eq, h, mExprMay]
end Go.Rb

namespace Go.Rb
set_option linter.unusedVariables false
set_option linter.unusedSimpArgs false
set_option maxRecDepth 8000
variable {T : Tab}

def mCol (occ col : Int) : Int := if mIn occ 0 3 = true ∧ mIn col 0 3 = true then 4 * occ + col else -1
theorem col_ok (hT : Has T) (occ col : Int) : Ret T 188 [mkI occ, mkI col] (mkI (mCol occ col)) := by
  have h1 := in_ok hT occ 0 3
  have h2 := in_ok hT col 0 3
  unfold Ret at h1 h2
  refine ret_of (by simp) (callW hT L188 rfl ?_)
  cases q1 : mIn occ 0 3 <;> rw [q1] at h1
  · simp [F188, hT, impL, h1, mCol, q1]
  · cases q2 : mIn col 0 3 <;> rw [q2] at h2
    · simp [F188, hT, impL, h1, h2, mCol, q1, q2]
    · have hb : (0 ≤ occ ∧ occ ≤ 3) ∧ 0 ≤ col ∧ col ≤ 3 := by simpa [mIn] using And.intro q1 q2
      have e1 : w64 (4 * occ) = 4 * occ := w64_id (by omega) (by omega)
      have e2 : w64 (4 * occ + col) = 4 * occ + col := w64_id (by omega) (by omega)
      simp [F188, hT, impL, h1, h2, mCol, q1, q2, e1, e2]
def mSplit (id : Int) : Int × Int × Bool := if mIn id 0 15 = true then (id / 4, id % 4, true) else (0, 0, false)
theorem split_ok (hT : Has T) (id : Int) : Ret T 229 [mkI id] (.tup [mkI (mSplit id).1, mkI (mSplit id).2.1, .bool (mSplit id).2.2]) := by
  have h1 := in_ok hT id 0 15
  unfold Ret at h1
  refine ret_of (by simp) (callW hT L229 rfl ?_)
  cases q1 : mIn id 0 15 <;> rw [q1] at h1
  · simp [F229, hT, impL, h1, mSplit, q1]
  · have hb : 0 ≤ id ∧ id ≤ 15 := by simpa [mIn] using q1
    have e1 : id.tdiv 4 = id / 4 := Int.tdiv_eq_ediv_of_nonneg hb.1
    have e2 : id.tmod 4 = id % 4 := Int.tmod_eq_emod_of_nonneg hb.1
    have e3 : w64 (id / 4) = id / 4 := w64_id (by omega) (by omega)
    simp [F229, hT, impL, h1, mSplit, q1, e1, e2, e3]

theorem exprMay_part {p : Expr} (h : mExprMay p = true) : mPart p = true := by
  unfold mExprMay at h
  cases p with
  | mk o c a b l =>
    simp only [mEachE] at h
    split at h
    · rename_i h1
      simp only [stMay, Bool.and_eq_true] at h1
      exact h1.2
    · cases h
theorem same_two {p : Expr} (h : mExprMay p = true) (h6 : p.op = 6) : ∃ a b, p.l = [a, b] := by
  have := exprMay_part h
  simp only [mPart, eFew, Bool.and_eq_true, decide_eq_true_eq, h6, wLow, wHigh] at this
  simp at this
  have hl : p.l.length = 2 := by omega
  match hp : p.l, hl with
  | [a, b], _ => exact ⟨a, b, rfl⟩
def mExprPair (p : Expr) : Int × Int × Bool :=
  if mExprMay p = true ∧ p.op = 6 then match p.l with
    | [a, b] => if a.op = 1 ∧ b.op = 1 ∧ a.col ≠ b.col then (a.col, b.col, true) else (0, 0, false)
    | _ => (0, 0, false)
  else (0, 0, false)
theorem exprPair_ok (hT : Has T) (p : Expr) (hf : p.Fit) : Ret T 154 [encE p] (.tup [mkI (mExprPair p).1, mkI (mExprPair p).2.1, .bool (mExprPair p).2.2]) := by
  have h1 := exprMay_ok hT p hf
  unfold Ret at h1
  refine ret_of (by simp) (callW hT L154 rfl ?_)
  rw [encE_eq] at h1 ⊢
  cases hm : mExprMay p <;> rw [hm] at h1
  · simp [F154, hT, impL, h1, mExprPair, hm]
  · by_cases h6 : p.op = 6
    · obtain ⟨a, b, hl⟩ := same_two hm h6
      rw [h6, hl] at h1
      refine wpS_cut (fun e σ => e.get 1 = .box 0 0 ∧ σ = ⟨[.agg [mkI p.op, mkI p.col, mkI p.k, mkI p.n, .sl .no (encEL p.l)]], []⟩) (by simp) ?_
      rintro e σ ⟨g1, rfl⟩
      refine wpS_cut (fun e σ => e.get 1 = .box 0 0 ∧ σ = ⟨[.agg [mkI p.op, mkI p.col, mkI p.k, mkI p.n, .sl .no (encEL p.l)]], []⟩) (by simp [g1, hT, impL, h1, h6, hl]) ?_
      rintro e σ ⟨g1, rfl⟩
      refine wpS_cut (fun e σ => e.get 5 = .box 1 0 ∧ e.get 6 = .box 2 0 ∧ σ = ⟨[.agg [mkI p.op, mkI p.col, mkI p.k, mkI p.n, .sl .no (encEL p.l)], encE a, encE b], []⟩) ?_ ?_
      · simp [g1, hl, encEL, encE_eq]
      rintro e σ ⟨g5, g6, rfl⟩
      clear h1
      by_cases ha : a.op = 1
      · by_cases hb : b.op = 1
        · by_cases hc : a.col = b.col
          · simp [F154, mExprPair, hm, h6, hl, ha, hb, hc, encE_eq, g5, g6]
          · simp [F154, mExprPair, hm, h6, hl, ha, hb, hc, encE_eq, g5, g6]
        · simp [F154, mExprPair, hm, h6, hl, ha, hb, encE_eq, g5, g6]
      · simp [F154, mExprPair, hm, h6, hl, ha, encE_eq, g5, g6]
    · simp [F154, hT, impL, h1, mExprPair, hm, h6]
end Go.Rb

namespace Go.Rb
set_option linter.unusedVariables false
set_option linter.unusedSimpArgs false
set_option maxRecDepth 8000
variable {T : Tab}

theorem holds_ok (hT : Has T) (s t : Nat) (hs : s < 9223372036854775808) (ht : t < 9223372036854775808) : Ret T 155 [mkI s, mkI t] (.bool (decide (s &&& t = t))) := by
  refine ret_of (by simp) (callW hT L155 rfl ?_)
  have h := and_i64 s t hs ht
  simp [F155, h]
  omega
theorem has_ok (hT : Has T) (s o : Nat) (hs : s < 9223372036854775808) (ho : o < 64) : Ret T 108 [mkI s, mkI o] (.bool (decide (s / 2 ^ o % 2 = 1))) := by
  refine ret_of (by simp) (callW hT L108 rfl ?_)
  have h1 : min o 64 = o := by omega
  have h2 : Int.fdiv (s : Int) (2 ^ o) = ((s / 2 ^ o : Nat) : Int) := by
    rw [Int.fdiv_eq_ediv_of_nonneg _ (Int.pow_nonneg (by decide))]
    simp
  have h3 : s / 2 ^ o < 9223372036854775808 := Nat.lt_of_le_of_lt (Nat.div_le_self _ _) hs
  have h4 := and_i64 (s / 2 ^ o) 1 h3 (by decide)
  rw [Nat.and_one_is_mod] at h4
  have h0 : ¬ ((o : Int) < 0) := by omega
  replace h4 : aBits .and .i64 ((s / 2 ^ o : Nat) : Int) 1 = some (mkI ((s / 2 ^ o % 2 : Nat) : Int)) := h4
  generalize s / 2 ^ o = X at *
  simp [F108, h0, IntKind.bits, h1, h2, h4]
  omega
def occOf (c : Int) : Nat := (mSplit c).1.toNat
def mOf (l : List Int) : Nat := l.foldl (fun s c => s ||| 2 ^ occOf c) 0
theorem split_in (c : Int) : 0 ≤ (mSplit c).1 ∧ (mSplit c).1 < 4 := by
  unfold mSplit
  split
  · rename_i h
    have : 0 ≤ c ∧ c ≤ 15 := by simpa [mIn] using h
    simp; omega
  · simp
theorem pow_occ (c : Int) : 2 ^ occOf c < 16 := by
  have := split_in c
  have h : occOf c ≤ 3 := by unfold occOf; omega
  have := Nat.pow_le_pow_right (n := 2) (by decide) h
  omega
theorem or16 {a b : Nat} (ha : a < 16) (hb : b < 16) : a ||| b < 16 := Nat.or_lt_two_pow (n := 4) ha hb
def body156 : SCode := match F156.body with
  | .seq _ (.seq _ (.seq (.seq _ (.block _ (.loop _ c))) _)) => c
  | _ => .skip
theorem of_loop (hT : Has T) (fl : Nat) (l : List Int) (hlen : l.length < 9223372036854775808) : ∀ (k i : Nat) (s : Nat) (e : Env) (Q : Q3), s < 16 → k + i = l.length → e.get 3 = mkI s → e.get 9 = .sl .no (l.map mkI) → e.get 10 = mkI l.length → e.get 11 = mkI i →
    (∀ e', e'.get 3 = mkI (((l.drop i).foldl (fun s c => s ||| 2 ^ occOf c) s : Nat) : Int) → Q (.exit 0) e' .nil) → LoopW T fl [3, 9, 10, 11] body156 Q e .nil := by
  intro k
  induction k with
  | zero =>
    intro i s e Q hs hk h3 h9 h10 h11 hQ
    have : i = l.length := by omega
    subst this
    refine loopW_round ?_
    simp [body156, F156, h3, h9, h10, h11]
    refine hQ _ ?_
    simp
  | succ k ih =>
    intro i s e Q hs hk h3 h9 h10 h11 hQ
    have hi : i < l.length := by omega
    have hw : w64 ((i : Int) + 1) = ((i + 1 : Nat) : Int) := by rw [w64_id (by omega) (by omega)]; simp
    have hc := split_ok hT l[i]
    unfold Ret at hc
    have hin := split_in l[i]
    have hp := pow_occ l[i]
    have hb : ¬ (mSplit l[i]).1 < 0 := by omega
    have hmin : min (mSplit l[i]).1.toNat 64 = occOf l[i] := by unfold occOf; omega
    obtain ⟨X, hX⟩ : ∃ X : Nat, X = 2 ^ occOf l[i] := ⟨_, rfl⟩
    have hXI : (2 : Int) ^ occOf l[i] = (X : Int) := by rw [hX]; simp
    have hX16 : X < 16 := by rw [hX]; exact hp
    have hor := or_i64 s X (by omega) (by omega)
    have hsh' : w64 (X : Int) = X := w64_id (by omega) (by omega)
    refine loopW_round ?_
    simp [body156, F156, h3, h9, h10, h11, hi, hT, impL, hc, hb, hmin, IntKind.bits, hw, hXI, hsh', hor]
    refine ih (i + 1) (s ||| X) _ Q (or16 hs hX16) (by omega) ?_ ?_ ?_ ?_ ?_
    all_goals simp [h9, h10]
    rw [List.drop_eq_getElem_cons hi, List.foldl_cons, ← hX] at hQ
    exact hQ
theorem of_ok (hT : Has T) (l : List Int) (hlen : l.length < 9223372036854775808) : Ret T 156 [.sl .no (l.map mkI)] (mkI (mOf l)) := by
  refine ret_of (by simp [closedL_all]) (callW hT L156 rfl ?_)
  simp [F156, stripL_map, Function.comp_def]
  refine of_loop hT 0 l hlen l.length 0 0 _ _ (by decide) (by omega) ?_ ?_ ?_ ?_ ?_
  all_goals simp
  intro e' he
  simp [he, mOf]
end Go.Rb

namespace Go.Rb
set_option linter.unusedVariables false
set_option linter.unusedSimpArgs false
set_option maxRecDepth 8000
variable {T : Tab}

def mWithin (l o : List Int) : Bool := l.all fun n => decide (n ∈ o)
theorem within1_ok (hT : Has T) (o : List Int) (ho : o.length < 9223372036854775808) (x : Int) : (lim T).call 225 ([] ++ mkI x :: [.box 0 0]) ⟨[.sl .no (o.map mkI)], []⟩ = some (.bool (!decide (x ∈ o)), ⟨[.sl .no (o.map mkI)], []⟩) := by
  have h := contains_ok hT o x ho
  unfold Ret at h
  have hw : CallW T 225 [mkI x, .box 0 0] ⟨[.sl .no (o.map mkI)], []⟩ (fun v σ' => v = .bool (!decide (x ∈ o)) ∧ σ' = ⟨[.sl .no (o.map mkI)], []⟩) := by
    refine callW hT L225 rfl ?_
    simp [-endQ, F225, hT, impL, h]
    exact end_same (v := .bool (!decide (x ∈ o))) (σ := ⟨[.sl .no (o.map mkI)], []⟩) (.inr rfl) (by simp) ⟨by simp, rfl⟩
  obtain ⟨v, σ', h1, h2, h3⟩ := hw
  simp only [List.nil_append]
  rw [h1, h2, h3]
theorem within_ok (hT : Has T) (l o : List Int) (hl : l.length < 9223372036854775808) (ho : o.length < 9223372036854775808) : Ret T 151 [.sl .no (l.map mkI), .sl .no (o.map mkI)] (.bool (mWithin l o)) := by
  have h := anyInt_ok hT l 225 [] [.box 0 0] (fun n => !decide (n ∈ o)) .no ⟨[.sl .no (o.map mkI)], []⟩ (by rw [imp_has hT]; rfl) (fun x _ => within1_ok hT o ho x) hl
  refine ret_of (by simp [closedL_all]) (callW hT L151 rfl ?_)
  have hm : mWithin l o = !l.any fun n => !decide (n ∈ o) := by unfold mWithin; simp [List.all_eq_not_any_not]
  rw [hm]
  simp [F151, stripL_map, Function.comp_def, hT, impL, h]

structure Query where
  occ : List Int
  p : List Expr
  by_ : Int
  sums : List Int
  out : List Int
  ord : Int
  deriving Inhabited
def sl (l : List Int) : AV := .sl .no (l.map mkI)
def encQ (q : Query) : AV := .agg [sl q.occ, .sl .no (encEL q.p), mkI q.by_, sl q.sums, sl q.out, mkI q.ord]
@[simp] theorem sl_closed (l : List Int) : (sl l).closed = true := by simp [sl, closedL_all]
@[simp] theorem sl_strip (l : List Int) : (sl l).strip = sl l := by simp [sl, stripL_map, Function.comp_def]
@[simp] theorem encQ_closed (q : Query) : (encQ q).closed = true := by simp [encQ]
@[simp] theorem encQ_strip (q : Query) : (encQ q).strip = encQ q := by simp [encQ]
end Go.Rb

namespace Go.Rb
set_option linter.unusedVariables false
set_option linter.unusedSimpArgs false
set_option maxRecDepth 8000
variable {T : Tab}

theorem planSet_ok (hT : Has T) (p : Plan) (h : p.AllForm) : Ret T 185 [encP p] (mkI (mTreeSet (mTreeOf p))) := by
  have h1 := treeOf_ok hT p h
  have h2 := treeSet_ok hT (mTreeOf p)
  unfold Ret at h1 h2
  refine ret_of (by simp) (callW hT L185 rfl ?_)
  rw [encP_eq] at h1 ⊢
  rw [encT_eq] at h1 h2
  simp [F185, hT, impL, h1, h2]
end Go.Rb

namespace Go.Rb
set_option linter.unusedVariables false
set_option linter.unusedSimpArgs false
set_option maxRecDepth 8000
variable {T : Tab}

/-- a slice that was built from nothing over the rows R: nothing yet, or the newest row -/
def Grown (e size : Nat) (R : List Row) (rows : List Row) (v : AV) (es : List AV) : Prop :=
  (es = [] ∧ v = .sl .full [] ∧ rows = R) ∨ ∃ ver, v = .sl (.row R.length ver) es ∧ rows = R ++ [⟨e, size, ver⟩]
theorem grown_nil (e size : Nat) (R : List Row) : Grown e size R R (.sl .full []) [] := .inl ⟨rfl, rfl, rfl⟩
theorem Grown.append {e size bytes : Nat} {R rows : List Row} {v : AV} {es ys : List AV} {o : Own} {B : List AV} (h : Grown e size R rows v es) (hy : ys ≠ []) (hs : (es.length + ys.length) * bytes ≤ mostBytes) (h1 : ∀ y ∈ ys, y.cells.length = size) (h2 : ∀ y ∈ es, y.cells.length = size) :
    ∃ v' rows', aAppend e size bytes v (.sl o ys) ⟨B, rows⟩ = some (v', ⟨B, rows'⟩) ∧ Grown e size R rows' v' (es ++ ys) := by
  have hne : ys.isEmpty = false := by cases ys; exact absurd rfl hy; rfl
  have e1 : ys.all (fun y => y.cells.length == size) = true := by simpa using h1
  have e2 : es.all (fun y => y.cells.length == size) = true := by simpa using h2
  rcases h with ⟨rfl, rfl, rfl⟩ | ⟨ver, rfl, rfl⟩
  · refine ⟨.sl (.row rows.length 0) ([] ++ ys), rows ++ [⟨e, size, 0⟩], ?_, .inr ⟨0, rfl, rfl⟩⟩
    unfold aAppend
    simp only [hne, Bool.false_eq_true, if_false, e1, e2, Bool.and_true]
    rw [if_pos (by simpa using hs)]
  · refine ⟨.sl (.row R.length (ver + 1)) (es ++ ys), R ++ [⟨e, size, ver + 1⟩], ?_, .inr ⟨ver + 1, rfl, rfl⟩⟩
    unfold aAppend
    simp only [hne, Bool.false_eq_true, if_false, e1, e2, Bool.and_true]
    rw [if_pos (by simpa using hs)]
    simp
end Go.Rb

namespace Go.Rb
set_option linter.unusedVariables false
set_option linter.unusedSimpArgs false
set_option maxRecDepth 8000
variable {T : Tab}

def colsAt (c : Cat) (q : Query) (occ : Nat) : Nat :=
  match q.occ[occ]? with
  | some t => if t < 0 then 0 else match c[t.toNat]? with
    | some d => d.cols.toNat
    | none => 0
  | none => 0
def mAllAt (c : Cat) (q : Query) (is : Nat → Bool) (occ : Nat) : List Int :=
  if is occ then (List.range' 0 (colsAt c q occ)).map fun (j : Nat) => mCol occ j else []
def mAll (c : Cat) (q : Query) (is : Nat → Bool) : List Int := (List.range' 0 (min q.occ.length 4)).flatMap (mAllAt c q is)

def body107 : SCode := match F107.body with
  | .seq _ (.seq _ (.seq (.seq _ (.block _ (.loop _ c))) _)) => c
  | _ => .skip
def inner107 : SCode := match body107 with
  | .seq _ (.seq _ (.seq (.block _ (.seq _ (.seq _ (.seq _ (.seq _ (.block _ (.loop _ c))))))) _)) => c
  | _ => .skip
theorem all_inner (hT : Has T) (fl : Nat) (B : List AV) (R : List Row) (f b3 b4 m o : AV) (occ : Nat) (n : Nat) (hn : n ≤ 4) (ho : occ < 4) : ∀ (k i : Nat) (rows : List Row) (v : AV) (es : List Int) (e : Env) (Q : Q3), k + i = n → Grown 3 1 R rows v (es.map mkI) → es.length ≤ 1000 - k →
    e.get 2 = f → e.get 3 = b3 → e.get 4 = b4 → e.get 7 = v → e.get 8 = mkI occ → e.get 14 = m → e.get 15 = o → e.get 43 = mkI n → e.get 44 = mkI i →
    (∀ e' v' rows', Grown 3 1 R rows' v' ((es ++ (List.range' i k).map fun (j : Nat) => mCol occ j).map mkI) → e'.get 2 = f → e'.get 3 = b3 → e'.get 4 = b4 → e'.get 7 = v' → e'.get 14 = m → e'.get 15 = o → Q (.exit 2) e' ⟨B, rows'⟩) →
    LoopW T fl [2, 3, 4, 7, 8, 14, 15, 43, 44] inner107 Q e ⟨B, rows⟩ := by
  intro k
  induction k with
  | zero =>
    intro i rows v es e Q hk hg hl h2 h3 h4 h7 h8 h14 h15 h43 h44 hQ
    have : i = n := by omega
    subst this
    refine loopW_round ?_
    simp [inner107, body107, F107, h2, h3, h4, h7, h8, h14, h15, h43, h44]
    refine hQ _ v rows (by simpa using hg) ?_ ?_ ?_ ?_ ?_ ?_
    all_goals simp
  | succ k ih =>
    intro i rows v es e Q hk hg hl h2 h3 h4 h7 h8 h14 h15 h43 h44 hQ
    have hi : i < n := by omega
    have hw : w64 ((i : Int) + 1) = ((i + 1 : Nat) : Int) := by rw [w64_id (by omega) (by omega)]; simp
    have hc := col_ok hT occ i
    unfold Ret at hc
    obtain ⟨v', rows', ha, hg'⟩ := hg.append (B := B) (o := .full) (bytes := 8) (ys := [mkI (mCol occ i)]) (by simp) (by simp [mostBytes]; omega) (by simp) (by simp)
    refine loopW_round ?_
    simp [inner107, body107, F107, h2, h3, h4, h7, h8, h14, h15, h43, h44, hi, hT, impL, hc, ha, hw]
    refine ih (i + 1) rows' v' (es ++ [mCol occ i]) _ Q (by omega) (by simpa using hg') (by simp; omega) ?_ ?_ ?_ ?_ ?_ ?_ ?_ ?_ ?_ ?_
    all_goals simp
    rw [List.range'_succ] at hQ
    intro e' v'' rows'' hg''
    exact hQ e' v'' rows'' (by simpa using hg'')

theorem mDataMay_len {c : Cat} (h : mDataMay c = true) : 1 ≤ c.length ∧ c.length ≤ 4 := by
  simp only [mDataMay, Bool.and_eq_true, mIn, decide_eq_true_eq] at h
  omega
theorem mDataMay_def {c : Cat} (h : mDataMay c = true) {d : Def} (hd : d ∈ c) : 1 ≤ d.cols ∧ d.cols ≤ 4 ∧ 1 ≤ d.rows ∧ d.rows ≤ 1000000 := by
  simp only [mDataMay, Bool.and_eq_true, Bool.not_eq_true', List.any_eq_false] at h
  have := h.2 d hd
  simp [mOne, mIn] at this
  omega
theorem mAllAt_len {c : Cat} (h : mDataMay c = true) (q : Query) (is : Nat → Bool) (o : Nat) : (mAllAt c q is o).length ≤ 4 := by
  unfold mAllAt
  split
  · simp [colsAt]
    split
    · split
      · omega
      · split
        · rename_i d hd
          have := mDataMay_def h (List.mem_of_getElem? hd)
          omega
        · omega
    · omega
  · simp
theorem all_loop (hT : Has T) (fl : Nat) (c : Cat) (hc : mDataMay c = true) (q : Query) (g : Nat) (fst : List AV) (is : Nat → Bool) (hg0 : T.imp g = false) (hB : fst.any AV.isB = false) (H : ∀ o : Nat, o < 4 → pureCall (lim T) g (fst ++ [mkI o]) = some (.bool (is o)))
    (B : List AV) (R : List Row) (b3 b4 : Nat) (h3B : B[b3]? = some (.agg [.sl .no (c.map encD)])) (h4B : B[b4]? = some (.agg [sl q.occ, .sl .no (encEL q.p), mkI q.by_, sl q.sums, sl q.out, mkI q.ord])) : ∀ (k i : Nat) (rows : List Row) (v : AV) (es : List Int) (e : Env) (Q : Q3), k + i = min q.occ.length 4 → Grown 3 1 R rows v (es.map mkI) → es.length ≤ 4 * i →
    e.get 2 = .fn (.func g) fst [] → e.get 3 = .box b3 0 → e.get 4 = .box b4 0 → e.get 7 = v → e.get 14 = mkI (min q.occ.length 4 : Nat) → e.get 15 = mkI i →
    (∀ e' v' rows', Grown 3 1 R rows' v' ((es ++ (List.range' i k).flatMap (mAllAt c q is)).map mkI) → e'.get 7 = v' → Q (.exit 0) e' ⟨B, rows'⟩) →
    LoopW T fl [2, 3, 4, 7, 14, 15] body107 Q e ⟨B, rows⟩ := by
  have hcl := mDataMay_len hc
  intro k
  induction k with
  | zero =>
    intro i rows v es e Q hk hg hl h2 h3 h4 h7 h14 h15 hQ
    have : i = min q.occ.length 4 := by omega
    subst this
    refine loopW_round ?_
    simp [body107, F107, h2, h3, h4, h7, h14, h15]
    refine hQ _ v rows (by simpa using hg) ?_
    all_goals simp
  | succ k ih =>
    intro i rows v es e Q hk hg hl h2 h3 h4 h7 h14 h15 hQ
    have hi : i < min q.occ.length 4 := by omega
    have hi' : i < q.occ.length := by omega
    have hi4 : i < 4 := by omega
    have hw : w64 ((i : Int) + 1) = ((i + 1 : Nat) : Int) := by rw [w64_id (by omega) (by omega)]; simp
    have hH := H i hi4
    obtain ⟨t, ht⟩ : ∃ t, q.occ[i]'hi' = t := ⟨_, rfl⟩
    have ht' : q.occ[i]? = some t := by rw [List.getElem?_eq_getElem hi', ht]
    rw [List.range'_succ, List.flatMap_cons] at hQ
    have hskip : ∀ e', mAllAt c q is i = [] → e'.get 2 = .fn (.func g) fst [] → e'.get 3 = .box b3 0 → e'.get 4 = .box b4 0 → e'.get 7 = v → e'.get 14 = mkI (min q.occ.length 4 : Nat) → e'.get 15 = mkI ((i + 1 : Nat) : Int) → LoopW T fl [2, 3, 4, 7, 14, 15] body107 Q e' ⟨B, rows⟩ := by
      intro e' hm g2 g3 g4 g7 g14 g15
      rw [hm] at hQ
      exact ih (i + 1) rows v es e' Q (by omega) hg (by omega) g2 g3 g4 g7 g14 g15 (by simpa using hQ)
    have hlt : (i : Int) < ((min q.occ.length 4 : Nat) : Int) := by omega
    have hge : ∀ h, q.occ[i]'h = t := fun _ => ht
    refine loopW_round ?_
    rw [sl] at h4B
    generalize hM : ((min q.occ.length 4 : Nat) : Int) = M at *
    cases hb : is i with
    | false =>
      rw [hb] at hH
      simp [body107, F107, h2, h3, h4, h7, h14, h15, hlt, h3B, h4B, hi', hge, hg0, hB, hH, hw]
      refine hskip _ (by simp [mAllAt, hb]) ?_ ?_ ?_ ?_ ?_ ?_
      all_goals simp
    | true =>
    rw [hb] at hH
    by_cases h0 : t < 0
    · simp [body107, F107, h2, h3, h4, h7, h14, h15, hlt, h3B, h4B, hi', hge, hg0, hB, hH, hw, h0]
      refine hskip _ (by simp [mAllAt, hb, colsAt, ht', h0]) ?_ ?_ ?_ ?_ ?_ ?_
      all_goals simp
    by_cases h1 : ¬ t.toNat < c.length
    · have h1' : (c.length : Int) ≤ t := by omega
      simp [body107, F107, h2, h3, h4, h7, h14, h15, hlt, h3B, h4B, hi', hge, hg0, hB, hH, hw, h0, h1']
      refine hskip _ (by simp [mAllAt, hb, colsAt, ht', h0, h1]) ?_ ?_ ?_ ?_ ?_ ?_
      all_goals simp
    replace h1 : t.toNat < c.length := Decidable.not_not.1 h1
    have h1' : ¬ (c.length : Int) ≤ t := by omega
    have h0' : 0 ≤ t := by omega
    obtain ⟨d, hd⟩ : ∃ d, c[t.toNat]'h1 = d := ⟨_, rfl⟩
    have hd' : ∀ h, c[t.toNat]'h = d := fun _ => hd
    have hdd := mDataMay_def hc (d := d) (by rw [← hd]; exact List.getElem_mem _)
    have hn : colsAt c q i = d.cols.toNat := by simp [colsAt, ht', h0, h1, hd]
    simp [body107, F107, h2, h3, h4, h7, h14, h15, hlt, h3B, h4B, hi', hge, hg0, hB, hH, hw, h0, h0', h1', h1, hd', encD]
    refine all_inner hT fl B R (.fn (.func g) fst []) (.box b3 0) (.box b4 0) (mkI M) (mkI i) i d.cols.toNat (by omega) hi4 d.cols.toNat 0 rows v es _ _ (by omega) hg (by omega) ?_ ?_ ?_ ?_ ?_ ?_ ?_ ?_ ?_ ?_
    all_goals simp
    · omega
    intro e' v' rows' hg' g2 g3 g4 g7 g14 g15
    simp [g2, g3, g4, g7, g14, g15, hw]
    have hm : mAllAt c q is i = (List.range' 0 d.cols.toNat).map fun (j : Nat) => mCol i j := by simp [mAllAt, hb, hn]
    refine ih (i + 1) rows' v' (es ++ mAllAt c q is i) _ Q (by omega) (by rw [hm]; simpa using hg') ?_ ?_ ?_ ?_ ?_ ?_ ?_ ?_
    · have := mAllAt_len hc q is i
      simp; omega
    all_goals simp [g2, g3, g4, g7, g14]
    intro e'' v'' rows'' hg''
    exact hQ e'' v'' rows'' (by simpa using hg'')
theorem grown_closed {e size : Nat} {R rows : List Row} {v : AV} {es : List AV} (h : Grown e size R rows v es) (hc : AV.closedL es = true) : v.closed = true := by
  rcases h with ⟨rfl, rfl, rfl⟩ | ⟨ver, rfl, rfl⟩
  · rfl
  · simpa using hc
theorem grown_strip {e size : Nat} {R rows : List Row} {v : AV} {l : List Int} (h : Grown e size R rows v (l.map mkI)) : v.strip = sl l := by
  rcases h with ⟨hl, rfl, rfl⟩ | ⟨ver, rfl, rfl⟩
  · simp at hl; subst hl; simp [sl]
  · simp [sl, stripL_map, Function.comp_def]
theorem closedI (l : List Int) : AV.closedL (l.map mkI) = true := by simp [closedL_all]
/-- a function's end: its own variables forgotten -/
theorem end_boxes {B more : List AV} {rows : List Row} {n : Nat} {res : List SRes} {Q : AV → St → Prop} {e : Env} {v : AV} {x : SExit} (hn : n = B.length) (hx : x = .normal ∨ x = .ret) (hr : resOf e ⟨B ++ more, rows⟩ res = some [v]) (hv : v.closed = true) (hB : AV.closedL B = true) (hq : Q v ⟨B, rows⟩) : endQ n res Q x e ⟨B ++ more, rows⟩ := by
  subst hn
  have ht : (⟨(B ++ more).take B.length, rows⟩ : St) = ⟨B, rows⟩ := by simp
  have h1 : (packRes [v]).under B.length = true := closed_under _ _ hv
  have h2 : AV.underL B.length ((B ++ more).take B.length) = true := by
    rw [List.take_left' rfl]; exact closedL_under _ _ hB
  rcases hx with rfl | rfl <;> simp only [endQ] <;> refine ⟨[v], hr, ?_⟩ <;> rw [if_pos (by rw [h1, h2]; rfl), ht] <;> exact hq
theorem all_ok (hT : Has T) (c : Cat) (hc : mDataMay c = true) (q : Query) (g : Nat) (fst : List AV) (is : Nat → Bool) (hg0 : T.imp g = false) (hB : fst.any AV.isB = false) (H : ∀ o : Nat, o < 4 → pureCall (lim T) g (fst ++ [mkI o]) = some (.bool (is o))) (B : List AV) (R : List Row) (hBc : AV.closedL B = true) :
    ∃ v rows', (lim T).call 107 [encC c, encQ q, .fn (.func g) fst []] ⟨B, R⟩ = some (v, ⟨B, rows'⟩) ∧ Grown 3 1 R rows' v ((mAll c q is).map mkI) := by
  have hw : CallW T 107 [encC c, encQ q, .fn (.func g) fst []] ⟨B, R⟩ (fun v σ' => ∃ rows', σ' = ⟨B, rows'⟩ ∧ Grown 3 1 R rows' v ((mAll c q is).map mkI)) := by
    refine callW hT L107 rfl ?_
    have hm : (if (4 : Int) < (q.occ.length : Int) then (4 : Int) else (q.occ.length : Int)) = ((min q.occ.length 4 : Nat) : Int) := by split <;> omega
    simp [-endQ, F107, encC, encQ]
    simp [-endQ, sl]
    refine all_loop hT B.length c hc q g fst is hg0 hB H (B ++ [.agg [.sl .no (c.map encD)], .agg [sl q.occ, .sl .no (encEL q.p), mkI q.by_, sl q.sums, sl q.out, mkI q.ord]]) R B.length (B.length + 1) (by simp) (by simp) (min q.occ.length 4) 0 R (.sl .full []) [] _ _ (by omega) (grown_nil _ _ _) (by simp) ?_ ?_ ?_ ?_ ?_ ?_ ?_
    all_goals simp [-endQ]
    · omega
    intro e' v' rows' hg h7
    have hcl := grown_closed hg (by have := closedI (mAll c q is); simpa [mAll] using this)
    refine end_boxes rfl (.inr rfl) (by simp [h7]) hcl hBc ⟨rows', rfl, ?_⟩
    simpa [mAll] using hg
  obtain ⟨v, σ', h1, rows', h2, h3⟩ := hw
  exact ⟨v, rows', by rw [h1, h2], h3⟩
end Go.Rb

namespace Go.Rb
set_option linter.unusedVariables false
set_option linter.unusedSimpArgs false
set_option maxRecDepth 8000
variable {T : Tab}

/-- a list of numbers -/
def intL : List AV → Option (List Int)
  | [] => some []
  | x :: xs => match x with
    | .int .i64 n => (intL xs).map fun l => n :: l
    | _ => none
theorem intL_map : ∀ (l : List Int), intL (l.map mkI) = some l
  | [] => rfl
  | x :: xs => by simp [intL, intL_map xs]
theorem intL_eq : ∀ {es : List AV} {l : List Int}, intL es = some l → es = l.map mkI
  | [], l, h => by simp [intL] at h; subst h; rfl
  | x :: xs, l, h => by
    unfold intL at h
    split at h
    · obtain ⟨l', h1, rfl⟩ := Option.map_eq_some_iff.1 h
      rw [intL_eq h1]; rfl
    · cases h
mutual
def decE : AV → Option Expr
  | .agg [.int .i64 o, .int .i64 c, .int .i64 a, .int .i64 b, .sl _ es] => (decEL es).map fun l => .mk o c a b l
  | _ => none
def decEL : List AV → Option (List Expr)
  | [] => some []
  | x :: xs => match decE x, decEL xs with
    | some y, some ys => some (y :: ys)
    | _, _ => none
end
mutual
theorem decE_enc : ∀ (t : Expr), decE (encE t) = some t
  | .mk o c a b l => by simp [encE, decE, decEL_enc l]
theorem decEL_enc : ∀ (l : List Expr), decEL (encEL l) = some l
  | [] => rfl
  | x :: xs => by simp [encEL, decEL, decE_enc x, decEL_enc xs]
end
mutual
theorem decE_eq : ∀ (v : AV) (t : Expr), decE v = some t → v.strip = encE t
  | v, t, h => by
    unfold decE at h
    split at h
    · rename_i o c a b ow es
      obtain ⟨l, h1, rfl⟩ := Option.map_eq_some_iff.1 h
      have := decEL_eq es l h1
      simp [encE, this]
    · cases h
theorem decEL_eq : ∀ (es : List AV) (l : List Expr), decEL es = some l → AV.stripL es = encEL l
  | [], l, h => by simp [decEL] at h; subst h; rfl
  | x :: xs, l, h => by
    unfold decEL at h
    split at h
    · rename_i y ys h1 h2
      injection h with h; subst h
      simp [encEL, decE_eq x y h1, decEL_eq xs ys h2]
    · cases h
end

mutual
/-- the columns of an expression's parts, in the order of the parts -/
def mColsRaw : Expr → List Int
  | .mk o c a b l => (if o = 1 then [c] else []) ++ mColsRawL l
def mColsRawL : List Expr → List Int
  | [] => []
  | x :: xs => mColsRaw x ++ mColsRawL xs
end
def mSorted (l : List Int) : List Int := match l with
  | [] => []
  | [x] => [x]
  | l => l.mergeSort fun x y => decide (x ≤ y)
theorem mSorted_eq (l : List Int) : mSorted l = l.mergeSort fun x y => decide (x ≤ y) := by
  unfold mSorted
  split <;> simp
def mUniq (l : List Int) : List Int := Lib.compact (mSorted l)
def mCols (e : Expr) : List Int := if mExprMay e = true then mUniq (mColsRaw e) else []
def mOnce (l : List Int) : Bool := decide ((mUniq l).length = l.length)
theorem compact_len (l : List Int) : (Lib.compact l).length ≤ l.length := by
  unfold Lib.compact Lib.compactUpTo
  rw [List.length_map]
  refine Nat.le_trans (List.length_filter_le _ _) ?_
  rw [List.length_range]; exact Nat.le_refl _
theorem mUniq_len (l : List Int) : (mUniq l).length ≤ l.length := by
  unfold mUniq
  refine Nat.le_trans (compact_len _) ?_
  rw [mSorted_eq, List.length_mergeSort]
  exact Nat.le_refl _
mutual
theorem may_raw : ∀ (p : Expr) (d n : Int), 0 ≤ n → n ≤ 30 → (mEachE stMay p d n).1 = true → (mEachE stMay p d n).2 ≤ 30 ∧ n + (mColsRaw p).length ≤ (mEachE stMay p d n).2
  | .mk o c a b l, d, n, h0, h30, h => by
    simp only [mEachE] at h ⊢
    split at h
    · rename_i h1
      rw [if_pos h1]
      simp only [stMay, Bool.and_eq_true, decide_eq_true_eq] at h1 h ⊢
      have hw : w64 (n + 1) = n + 1 := w64_id (by omega) (by omega)
      rw [hw] at h h1 ⊢
      have := may_rawL l d (n + 1) (by omega) h1.1.1 h
      refine ⟨this.1, ?_⟩
      simp only [mColsRaw, List.length_append]
      split <;> simp <;> omega
    · cases h
theorem may_rawL : ∀ (l : List Expr) (d n : Int), 0 ≤ n → n ≤ 30 → (mEachEL stMay l d n).1 = true → (mEachEL stMay l d n).2 ≤ 30 ∧ n + (mColsRawL l).length ≤ (mEachEL stMay l d n).2
  | [], d, n, h0, h30, h => by simp [mEachEL, mColsRawL, h30]
  | x :: xs, d, n, h0, h30, h => by
    simp only [mEachEL] at h ⊢
    split at h
    · rename_i h1
      rw [if_pos h1]
      have q := may_raw x (w64 (d + 1)) n h0 h30 h1
      have q2 := may_rawL xs d _ (by omega) q.1 h
      refine ⟨q2.1, ?_⟩
      simp only [mColsRawL, List.length_append]
      have := q2.2
      have := q.2
      push_cast
      omega
    · cases h
end
theorem mCols_len (e : Expr) : (mCols e).length ≤ 30 := by
  unfold mCols
  split
  · rename_i h
    have := may_raw e 1 0 (by decide) (by decide) h
    have := mUniq_len (mColsRaw e)
    omega
  · simp

def x150 (args : List AV) : Option AV := match args with
  | [e] => (decE e).map fun t => sl (mCols t)
  | _ => none
def x152 (args : List AV) : Option AV := match args with
  | [.sl _ es] => match intL es with
    | some l => if 1 ≤ l.length ∧ l.length ≤ 8 then some (.bool (mOnce l)) else none
    | none => none
  | _ => none
def x190 (args : List AV) : Option AV := match args with
  | [.int .i64 n] => some (.agg [if n = 1 then .fn (.func 65) [] [] else if n = 2 then .fn (.func 67) [] [] else if n = 3 then .fn (.func 258) [] [] else .nilfn])
  | _ => none
def x114 (args : List AV) : Option AV := match args with
  | [.int .u64 n] => if 0 ≤ n ∧ n ≤ 18446744073709551615 then some (mkI (Lib.bitLen n.toNat)) else none
  | _ => none
/-- a table that tells the others, too -/
structure HasX (T : Tab) : Prop extends Has T where
  cols : T.ext 150 = some x150
  once : T.ext 152 = some x152
  prices : T.ext 190 = some x190
  bits : T.ext 114 = some x114
theorem callW_ext {f : Nat} {T : Tab} {g : List AV → Option AV} (hE : T.ext f = some g) {args : List AV} {σ : St} {v : AV} (hc : AV.closedL args = true) (hv : g args = some v) (hvc : v.closed = true) : (lim T).call f args σ = some (v.strip, σ) := by
  rw [lim_call_eq]; unfold enter
  simp only [hE]
  rw [if_pos hc]
  simp only [hv]
  rw [if_pos hvc]
theorem ret_ext {f : Nat} {T : Tab} {g : List AV → Option AV} (hE : T.ext f = some g) {args : List AV} {v : AV} (hc : AV.closedL args = true) (hs : AV.stripL args = args) (hv : g args = some v) (hvc : v.closed = true) (hvs : v.strip = v) : Ret T f args v := by
  refine ret_of hc ?_
  rw [hs]
  refine ⟨v.strip, .nil, callW_ext hE hc hv hvc, ?_, ?_⟩
  · rw [hvs]; exact hvc
  · rw [hvs]; exact hvs
theorem exprCols_ok (hT : HasX T) (e : Expr) : Ret T 150 [encE e] (sl (mCols e)) :=
  ret_ext hT.cols (by simp) (by simp) (by simp [x150, decE_enc]) (by simp) (by simp)
theorem once_ok (hT : HasX T) (l : List Int) (h1 : 1 ≤ l.length) (hl : l.length ≤ 8) : Ret T 152 [sl l] (.bool (mOnce l)) :=
  ret_ext hT.once (by simp) (by simp) (by simp [x152, sl, intL_map, h1, hl]) (by simp) (by simp)
theorem len64_ok (hT : HasX T) (n : Nat) (h : n < 18446744073709551616) : Ret T 114 [.int .u64 n] (mkI (Lib.bitLen n)) :=
  ret_ext hT.bits (by simp) (by simp) (by simp [x114]; omega) (by simp) (by simp)
def mPrice (n : Int) : AV := .agg [if n = 1 then .fn (.func 65) [] [] else if n = 2 then .fn (.func 67) [] [] else if n = 3 then .fn (.func 258) [] [] else .nilfn]
theorem prices_ok (hT : HasX T) (n : Int) : Ret T 190 [mkI n] (mPrice n) := by
  refine ret_ext hT.prices (by simp) (by simp) (by simp [x190, mPrice]) ?_ ?_
  · unfold mPrice; (repeat' split) <;> simp
  · unfold mPrice; (repeat' split) <;> simp
end Go.Rb

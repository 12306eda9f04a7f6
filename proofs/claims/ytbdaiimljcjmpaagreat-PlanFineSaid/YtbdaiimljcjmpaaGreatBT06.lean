/- What a piece of code comes to, said of its end: the interpreter without its Option. -/
import Derived.Test.YtbdaiimljcjmpaaGreatBT05
namespace Go.Rb
set_option linter.unusedVariables false
set_option linter.unusedSimpArgs false

section
variable (T : Tab) (fl : Nat)

/-- operations in the order of the text -/
def wpN : List SOper → (Env → St → Prop) → Env → St → Prop
  | [], K, e, σ => K e σ
  | o :: rest, K, e, σ =>
    match wanted o.guard e with
    | some true => match aop T (lim T) fl o.op e σ with
      | some (v, σ') => wpN rest K (e.put o.dst v) σ'
      | none => False
    | some false => wpN rest K (e.put o.dst .skp) σ
    | none => False
def wpD : (i : Nat) → List (Nat × Foot) → List SOper → (Env → St → Prop) → Env → St → Prop
  | _, _, [], K, e, σ => K e σ
  | i, acc, o :: rest, K, e, σ =>
    match wanted o.guard e with
    | some true => match aop T (lim T) fl o.op e σ with
      | some (v, σ') => (footsOk acc o.bef (footOf T o.op e) && quietOk o.op e (footOf T o.op e) σ σ') = true ∧ wpD (i + 1) (if footOf T o.op e = .no then acc else (i, footOf T o.op e) :: acc) rest K (e.put o.dst v) σ'
      | none => False
    | some false => wpD (i + 1) acc rest K (e.put o.dst .skp) σ
    | none => False
abbrev Q3 := SExit → Env → St → Prop
def thenQ (K : Env → St → Prop) (Q : Q3) : Q3
  | .normal, e, σ => K e σ
  | x, e, σ => Q x e σ
def blockQ (id : Nat) (Q : Q3) : Q3
  | .exit i, e, σ => if i = id then Q .normal e σ else Q (.exit i) e σ
  | x, e, σ => Q x e σ
def LoopW (live : List Nat) (c : SCode) (Q : Q3) (e : Env) (σ : St) : Prop := ∃ x e' σ', (lim T).loop fl live c e σ = some (x, e', σ') ∧ Q x e' σ'
def wpS : SCode → Q3 → Env → St → Prop
  | .skip, Q, e, σ => Q .normal e σ
  | .region true l, Q, e, σ => wpD T fl 0 [] l (Q .normal) e σ
  | .region false l, Q, e, σ => wpN T fl l (Q .normal) e σ
  | .seq a b, Q, e, σ => wpS a (thenQ (wpS b Q) Q) e σ
  | .cond x a b, Q, e, σ => match x.ev e with
    | .bool t => if t = true then wpS a Q e σ else wpS b Q e σ
    | _ => False
  | .block id c, Q, e, σ => wpS c (blockQ id Q) e σ
  | .loop live c, Q, e, σ => LoopW T fl live c Q e σ
  | .exit id, Q, e, σ => Q (.exit id) e σ
  | .ret, Q, e, σ => Q .ret e σ
end

section
variable {T : Tab} {fl : Nat}
theorem wpN_sound : ∀ {l : List SOper} {K : Env → St → Prop} {e : Env} {σ : St} {i : Nat} {acc : List (Nat × Foot)}, wpN T fl l K e σ → ∃ e' σ', ops T (lim T) fl false i acc l e σ = some (e', σ') ∧ K e' σ'
  | [], K, e, σ, i, acc, h => ⟨e, σ, rfl, h⟩
  | o :: l, K, e, σ, i, acc, h => by
    simp only [wpN] at h
    simp only [ops]
    split at h
    · rename_i hw
      split at h
      · rename_i v σ' ha
        simp only [hw, ha, Bool.false_eq_true, if_false]
        exact wpN_sound h
      · exact h.elim
    · rename_i hw
      simp only [hw]
      exact wpN_sound h
    · exact h.elim
theorem wpD_sound : ∀ {l : List SOper} {K : Env → St → Prop} {e : Env} {σ : St} {i : Nat} {acc : List (Nat × Foot)}, wpD T fl i acc l K e σ → ∃ e' σ', ops T (lim T) fl true i acc l e σ = some (e', σ') ∧ K e' σ'
  | [], K, e, σ, i, acc, h => ⟨e, σ, rfl, h⟩
  | o :: l, K, e, σ, i, acc, h => by
    simp only [wpD] at h
    simp only [ops]
    split at h
    · rename_i hw
      split at h
      · rename_i v σ' ha
        simp only [hw, ha, if_true]
        rw [if_pos h.1]
        exact wpD_sound h.2
      · exact h.elim
    · rename_i hw
      simp only [hw]
      exact wpD_sound h
    · exact h.elim
theorem wpS_sound : ∀ {c : SCode} {Q : Q3} {e : Env} {σ : St}, wpS T fl c Q e σ → ∃ x e' σ', run T (lim T) fl c e σ = some (x, e', σ') ∧ Q x e' σ' := by
  intro c
  induction c with
  | skip => intro Q e σ h; exact ⟨_, _, _, rfl, h⟩
  | exit id => intro Q e σ h; exact ⟨_, _, _, rfl, h⟩
  | ret => intro Q e σ h; exact ⟨_, _, _, rfl, h⟩
  | region d l =>
    intro Q e σ h
    cases d with
    | true =>
      obtain ⟨e', σ', h1, h2⟩ := wpD_sound (T := T) (fl := fl) (i := 0) (acc := []) h
      exact ⟨.normal, e', σ', by simp only [run, h1], h2⟩
    | false =>
      obtain ⟨e', σ', h1, h2⟩ := wpN_sound (T := T) (fl := fl) (i := 0) (acc := []) h
      exact ⟨.normal, e', σ', by simp only [run, h1], h2⟩
  | seq a b iha ihb =>
    intro Q e σ h
    obtain ⟨x, e1, σ1, h1, h2⟩ := iha h
    cases x with
    | normal =>
      obtain ⟨y, e2, σ2, h3, h4⟩ := ihb h2
      exact ⟨y, e2, σ2, by simp only [run, h1]; exact h3, h4⟩
    | exit id => exact ⟨_, e1, σ1, by simp only [run, h1], h2⟩
    | ret => exact ⟨_, e1, σ1, by simp only [run, h1], h2⟩
  | cond x a b iha ihb =>
    intro Q e σ h
    simp only [wpS] at h
    split at h
    · rename_i t ht
      cases t
      · obtain ⟨y, e2, σ2, h3, h4⟩ := ihb h
        exact ⟨y, e2, σ2, by simp only [run, ht]; exact h3, h4⟩
      · obtain ⟨y, e2, σ2, h3, h4⟩ := iha h
        exact ⟨y, e2, σ2, by simp only [run, ht]; exact h3, h4⟩
    · exact h.elim
  | block id c ih =>
    intro Q e σ h
    obtain ⟨x, e1, σ1, h1, h2⟩ := ih h
    cases x with
    | exit i =>
      simp only [blockQ] at h2
      by_cases hi : i = id
      · rw [if_pos hi] at h2
        exact ⟨.normal, e1, σ1, by simp only [run, h1]; rw [if_pos hi], h2⟩
      · rw [if_neg hi] at h2
        exact ⟨.exit i, e1, σ1, by simp only [run, h1]; rw [if_neg hi], h2⟩
    | normal => exact ⟨_, e1, σ1, by simp only [run, h1], h2⟩
    | ret => exact ⟨_, e1, σ1, by simp only [run, h1], h2⟩
  | loop live c ih => intro Q e σ h; exact h

theorem wpN_mono {K K' : Env → St → Prop} (h : ∀ e σ, K e σ → K' e σ) : ∀ {l : List SOper} {e : Env} {σ : St}, wpN T fl l K e σ → wpN T fl l K' e σ
  | [], e, σ, q => h _ _ q
  | o :: l, e, σ, q => by
    simp only [wpN] at q ⊢
    split at q
    · split at q
      · exact wpN_mono h q
      · exact q.elim
    · exact wpN_mono h q
    · exact q.elim
theorem wpD_mono {K K' : Env → St → Prop} (h : ∀ e σ, K e σ → K' e σ) : ∀ {l : List SOper} {e : Env} {σ : St} {i : Nat} {acc : List (Nat × Foot)}, wpD T fl i acc l K e σ → wpD T fl i acc l K' e σ
  | [], e, σ, i, acc, q => h _ _ q
  | o :: l, e, σ, i, acc, q => by
    simp only [wpD] at q ⊢
    split at q
    · split at q
      · exact ⟨q.1, wpD_mono h q.2⟩
      · exact q.elim
    · exact wpD_mono h q
    · exact q.elim
theorem wpS_mono : ∀ {c : SCode} {Q Q' : Q3} {e : Env} {σ : St}, (∀ x e σ, Q x e σ → Q' x e σ) → wpS T fl c Q e σ → wpS T fl c Q' e σ := by
  intro c
  induction c with
  | skip => intro Q Q' e σ h q; exact h _ _ _ q
  | exit id => intro Q Q' e σ h q; exact h _ _ _ q
  | ret => intro Q Q' e σ h q; exact h _ _ _ q
  | region d l =>
    intro Q Q' e σ h q
    cases d
    · exact wpN_mono (h .normal) q
    · exact wpD_mono (h .normal) q
  | seq a b iha ihb =>
    intro Q Q' e σ h q
    refine iha ?_ q
    intro x e σ hx
    cases x with
    | normal => exact ihb h hx
    | exit _ => exact h _ _ _ hx
    | ret => exact h _ _ _ hx
  | cond x a b iha ihb =>
    intro Q Q' e σ h q
    simp only [wpS] at q ⊢
    split at q
    · split at q
      · rename_i ht; rw [if_pos ht]; exact iha h q
      · rename_i ht; rw [if_neg ht]; exact ihb h q
    · exact q
  | block id c ih =>
    intro Q Q' e σ h q
    refine ih ?_ q
    intro x e σ hx
    cases x with
    | exit i =>
      simp only [blockQ] at hx ⊢
      split
      · rename_i hi; rw [if_pos hi] at hx; exact h _ _ _ hx
      · rename_i hi; rw [if_neg hi] at hx; exact h _ _ _ hx
    | normal => exact h _ _ _ hx
    | ret => exact h _ _ _ hx
  | loop live c ih =>
    intro Q Q' e σ h q
    obtain ⟨x, e', σ', h1, h2⟩ := q
    exact ⟨x, e', σ', h1, h _ _ _ h2⟩
def only (P : Env → St → Prop) : Q3
  | .normal, e, σ => P e σ
  | _, _, _ => False
/-- a cut between two pieces -/
theorem wpS_cut {a b : SCode} {Q : Q3} {e : Env} {σ : St} (P : Env → St → Prop) (h1 : wpS T fl a (only P) e σ) (h2 : ∀ e σ, P e σ → wpS T fl b Q e σ) : wpS T fl (.seq a b) Q e σ := by
  show wpS T fl a (thenQ (wpS T fl b Q) Q) e σ
  refine wpS_mono ?_ h1
  intro x e σ q
  cases x with
  | normal => exact h2 _ _ q
  | exit _ => exact q.elim
  | ret => exact q.elim

/-- one round of a loop -/
theorem loopW_round {live : List Nat} {c : SCode} {Q : Q3} {e : Env} {σ : St} (h : wpS T fl c (thenQ (LoopW T fl live c Q) Q) (e.keep live) σ) : LoopW T fl live c Q e σ := by
  obtain ⟨x, e1, σ1, h1, h2⟩ := wpS_sound h
  cases x with
  | normal =>
    obtain ⟨y, e2, σ2, h3, h4⟩ := h2
    refine ⟨y, e2, σ2, ?_, h4⟩
    rw [lim_loop_eq]; unfold round; rw [h1]; exact h3
  | exit id => exact ⟨_, e1, σ1, by rw [lim_loop_eq]; unfold round; rw [h1], h2⟩
  | ret => exact ⟨_, e1, σ1, by rw [lim_loop_eq]; unfold round; rw [h1], h2⟩

/-- what a call comes to -/
def CallW (T : Tab) (f : Nat) (args : List AV) (σ : St) (Q : AV → St → Prop) : Prop := ∃ v σ', (lim T).call f args σ = some (v, σ') ∧ Q v σ'
/-- a function's end: its results, its own variables forgotten -/
def endQ (n : Nat) (res : List SRes) (Q : AV → St → Prop) : Q3
  | .exit _, _, _ => False
  | _, e, σ => ∃ l, resOf e σ res = some l ∧ if ((packRes l).under n && AV.underL n (σ.boxes.take n)) = true then Q (packRes l) { σ with boxes := σ.boxes.take n } else Q (packRes l) σ
theorem callW_fn {f : Nat} {F : SFun} (hE : T.ext f = none) (hF : T.fn f = some F) {args : List AV} {σ : St} {Q : AV → St → Prop} (hn : args.length = F.np)
    (h : wpS T σ.boxes.length F.body (endQ σ.boxes.length F.res Q) (argEnv 0 args) σ) : CallW T f args σ Q := by
  obtain ⟨x, e1, σ1, h1, h2⟩ := wpS_sound h
  have key : ∀ l, resOf e1 σ1 F.res = some l → (x = .normal ∨ x = .ret) → (if ((packRes l).under σ.boxes.length && AV.underL σ.boxes.length (σ1.boxes.take σ.boxes.length)) = true then Q (packRes l) { σ1 with boxes := σ1.boxes.take σ.boxes.length } else Q (packRes l) σ1) → CallW T f args σ Q := by
    intro l hl hx hq
    by_cases hc : ((packRes l).under σ.boxes.length && AV.underL σ.boxes.length (σ1.boxes.take σ.boxes.length)) = true
    · rw [if_pos hc] at hq
      refine ⟨_, _, ?_, hq⟩
      rw [lim_call_eq]; unfold enter
      simp only [hE, hF]
      rw [if_pos hn, h1]
      simp only [hl]
      rw [if_pos hx, if_pos hc]
    · rw [if_neg hc] at hq
      refine ⟨_, _, ?_, hq⟩
      rw [lim_call_eq]; unfold enter
      simp only [hE, hF]
      rw [if_pos hn, h1]
      simp only [hl]
      rw [if_pos hx, if_neg hc]
  cases x with
  | exit id => exact h2.elim
  | normal => obtain ⟨l, q1, q2⟩ := h2; exact key l q1 (.inl rfl) q2
  | ret => obtain ⟨l, q1, q2⟩ := h2; exact key l q1 (.inr rfl) q2

/-- a pure function's answer -/
def Ret (T : Tab) (f : Nat) (args : List AV) (v : AV) : Prop := pureCall (lim T) f args = some v
theorem ret_of {f : Nat} {args : List AV} {v : AV} (hc : AV.closedL args = true) (h : CallW T f (AV.stripL args) .nil fun u _ => u.closed = true ∧ u.strip = v) : Ret T f args v := by
  obtain ⟨u, σ, h1, h2, h3⟩ := h
  unfold Ret pureCall
  rw [if_pos hc, h1]
  simp only [h2, if_true, h3]
end
end Go.Rb

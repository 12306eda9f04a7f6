/- Calls; one operation, whichever. Regions in the order of the text; code. -/
import Derived.Test.YtbdaiimljcjmpaaGreatBT02
import Derived.LoopN
namespace Go.Rb
set_option linter.unusedVariables false
set_option linter.unusedSimpArgs false

def Enters (P : Program) (f : Nat) : Prop := ∃ fn c, P.funcs[f]? = some fn ∧ fn.body = some c ∧ (fn.name == "runtime.NumGoroutine") = false

def CallPost (Z : Addr → Prop) (w : World) (μ : Mu) (ν : Nu) (σ : St) (v : AV) (σ' : St) (e : Ending) (w' : World) : Prop :=
  ∃ V μ' ν', e = .returned V ∧ Grow σ.boxes.length w μ ν σ.rows w' μ' ν' σ'.rows ∧ Sim Z w' μ' ν' σ' ∧ Rep (ctx Z w' μ' ν' σ'.rows) v V

/-- what is called is sound -/
def CallOk (P : Program) (r : Rec) : Prop := ∀ f args σ v σ', r.call f args σ = some (v, σ') →
  Enters P f ∧ ∀ (Z : Addr → Prop) (w : World) (μ : Mu) (ν : Nu) (vals : Array Value), Sim Z w μ ν σ → RepL (ctx Z w μ ν σ.rows) args vals.toList → Calls P f vals w (CallPost Z w μ ν σ v σ')

section
variable {P : Program} {Z : Addr → Prop} {o : Oper} {a : Act} {w : World} {μ : Mu} {ν : Nu} {σ : St} {T : Tab} {r : Rec}

/-- all blocks that there were stay: whatever is known lives on -/
theorem Sim.keep (S : Sim Z w μ ν σ) {w' : World} (n : Nat) (h1 : w'.os = w.os) (h2 : w'.tape = w.tape) (h3 : w'.output = w.output) (h4 : w.heap.size ≤ w'.heap.size) (hb : ∀ b, b < w.heap.size → w'.heap[b]? = w.heap[b]?) :
    Grow n w μ ν σ.rows w' μ ν σ.rows ∧ Sim Z w' μ ν σ := by
  have G : Grow n w μ ν σ.rows w' μ ν σ.rows :=
    { os := h1, tape := h2, output := h3, size := h4
      blocks := fun b h _ _ => hb b h
      rows := fun r b u v hr off _ => World.cell?_of_block (hb b (S.rlt hr))
      mu := fun _ _ h => h
      mun := fun _ _ h => .inl h
      nun := fun r b u v hr => .inr ⟨u, v, hr, Nat.le_refl _⟩
      vers := fun r cur hc => ⟨cur, hc, rfl, rfl, Nat.le_refl _, fun _ => rfl⟩ }
  refine ⟨G, { inj := S.inj, box := ?_, row := ?_, rinj := S.rinj, disj := S.disj, fresh := fun ad h => S.fresh ad (Nat.le_trans h4 h), rowZ := S.rowZ }⟩
  · intro i b hi
    obtain ⟨d, arr, t', q1, q2, q3, q4, q5⟩ := S.box i b hi
    exact ⟨d, arr, t', q1, q2, q3, by rw [hb b (S.lt hi)]; exact q4, RepL.mono G.le _ _ q5⟩
  · intro s b u v hs
    obtain ⟨cur, n, xs, q1, q2, q3, q4⟩ := S.row s b u v hs
    exact ⟨cur, n, xs, q1, q2, own_other q3 q2 (hb b (S.rlt hs)), q4⟩

def noMu : Mu := fun _ => none
def noNu : Nu := fun _ => none
theorem sim_nil {Z : Addr → Prop} {w : World} (h : ∀ a : Addr, w.heap.size ≤ a.block → Z a) : Sim Z w noMu noNu .nil :=
  { inj := fun i j b h => by simp [noMu] at h
    box := fun i b h => by simp [noMu] at h
    row := fun r b u v h => by simp [noNu] at h
    rinj := fun r s b u v u' v' h => by simp [noNu] at h
    disj := fun i b r u v h => by simp [noMu] at h
    fresh := h
    rowZ := fun r b u v h => by simp [noNu] at h }

theorem pure_ok (H : CallOk P r) {g : Nat} {l : List AV} {v : AV} (h : pureCall r g l = some v) (n : Nat) (S : Sim Z w μ ν σ) {vals : Array Value} (hr : RepL (ctx Z w μ ν σ.rows) l vals.toList) :
    Enters P g ∧ Calls P g vals w (fun e w' => ∃ V, e = .returned V ∧ Grow n w μ ν σ.rows w' μ ν σ.rows ∧ Sim Z w' μ ν σ ∧ Rep (ctx Z w' μ ν σ.rows) v V) := by
  unfold pureCall at h
  split at h
  · rename_i hcl
    split at h
    · rename_i v0 σ0 hcall
      split at h
      · rename_i hv0
        injection h with h; subst h
        obtain ⟨hent, hc⟩ := H _ _ _ _ _ hcall
        refine ⟨hent, ?_⟩
        let Z' : Addr → Prop := fun ad => (∀ i, μ i ≠ some ad.block) ∧ (∀ r u v, ν r = some (ad.block, u, v) → ad.off < u) ∧ Z ad
        have hS' : Sim Z' w noMu noNu .nil := sim_nil fun ad had => ⟨fun i hi => by have := S.lt hi; omega, fun r u v hr => by have := S.rlt hr; omega, S.fresh ad had⟩
        have hle : (ctx Z w μ ν σ.rows).LeC (ctx Z' w noMu noNu []) := ⟨fun ad x hc => ⟨hc.1, fun i hi => by simp [noMu] at hi, fun r u v hr => by simp [noNu] at hr, hc.2.1, hc.2.2.1, hc.2.2.2⟩⟩
        refine (hc Z' w noMu noNu vals hS' (RepL.strip hle _ _ hcl hr)).mono ?_
        rintro e w' ⟨V, μ', ν', rfl, G, S', hV⟩
        have hb : ∀ b, b < w.heap.size → w'.heap[b]? = w.heap[b]? := fun b hb => G.blocks b hb (fun i hi => by simp [noMu] at hi) (fun r u v hr => by simp [noNu] at hr)
        obtain ⟨G2, S2⟩ := S.keep n G.os G.tape G.output G.size hb
        refine ⟨V, rfl, G2, S2, ?_⟩
        refine Rep.strip (R := ctx Z' w' μ' ν' σ0.rows) (R' := ctx Z w' μ ν σ.rows) ⟨fun ad x hc => ⟨hc.1, hc.2.2.2.1, hc.2.2.2.2.1, hc.2.2.2.2.2⟩⟩ _ _ hv0 hV
      · cases h
    · cases h
  · cases h

theorem snapEls_rep {R R' : Ctx} (hle : R.LeC R') {b : Nat} {t : TypeId} {w : World} {cs : List AV} {vs : List Value} (hh : w.heap[b]? = some (.cells vs.toArray t (0, 0))) (hr : RepL R cs vs) (hone : ∀ c ∈ cs, c.one = true) (hcell : ∀ off x, w.cell? ⟨b, off, none⟩ = some x → R'.cell ⟨b, off, none⟩ x) {sz : Nat} {g : Bool} :
    ∀ (n off i o0 : Nat) (es : List AV), snapEls cs off sz g n = some es → AV.closedL es = true → off = o0 + i * sz → es.length = n ∧ RepEls R' ⟨b, o0, none⟩ sz i (AV.stripL es)
  | 0, off, i, o0, es, h, hc, ho => by simp only [snapEls, Option.some.injEq] at h; subst h; simp [AV.stripL, RepEls]
  | n + 1, off, i, o0, es, h, hc, ho => by
    simp only [snapEls] at h
    split at h
    · rename_i hl
      split at h
      · rename_i v r' hv hr'
        injection h with h; subst h
        simp only [AV.closedL, Bool.and_eq_true] at hc
        obtain ⟨q1, q2⟩ := snapEls_rep hle hh hr hone hcell n (off + sz) (i + 1) o0 r' hr' hc.2 (by rw [ho, Nat.add_mul]; omega)
        refine ⟨by simp [q1], ?_⟩
        have hp := (hr.drop off).take sz
        have hm := Rep.mk hv (fun c hc => hone c (List.mem_of_mem_drop (List.mem_of_mem_take hc))) hp
        simp only [AV.stripL, RepEls]
        refine ⟨⟨by rw [okv_strip]; exact hm.2.1, _, Rep.strip hle _ _ hc.1 hm.1, ?_, ?_⟩, q2⟩
        · have := hm.1.size hm.2.1
          rw [this, hm.2.2.1, hl]
        · rw [hm.2.2.2]
          intro j x hj
          rw [plain_add, plain_add]
          refine hcell _ _ ?_
          rw [cell_of_row w b _ _ t (0, 0) hh]
          rw [List.getElem?_take] at hj
          split at hj
          · rw [List.getElem?_drop] at hj
            simpa [ho, Nat.add_assoc] using hj
          · cases hj
      · cases h
    · cases h
/-- slices over variables, as a callee in a store of its own sees them -/
theorem snapL_rep (S : Sim Z w μ ν σ) : ∀ {l l' : List AV} {vals : List Value}, snapL σ l = some l' → AV.closedL l' = true → RepL (ctx Z w μ ν σ.rows) l vals → RepL (ctx (fun _ => True) w noMu noNu []) (AV.stripL l') vals
  | [], l', vals, h, hc, hr => by
    simp only [snapL, Option.some.injEq] at h; subst h
    simpa only [AV.stripL, RepL] using hr
  | x :: xs, l', vals, h, hc, hr => by
    simp only [snapL] at h
    split at h
    · rename_i y ys hy hys
      injection h with h; subst h
      simp only [AV.closedL, Bool.and_eq_true] at hc
      simp only [RepL] at hr
      obtain ⟨v, us, rfl, h1, h2⟩ := hr
      simp only [AV.stripL, RepL]
      refine ⟨v, us, rfl, ?_, snapL_rep S hys hc.2 h2⟩
      have hle : (ctx Z w μ ν σ.rows).LeC (ctx (fun _ => True) w noMu noNu []) := ⟨fun ad x hc => ⟨hc.1, fun i hi => by simp [noMu] at hi, fun r u v hr => by simp [noNu] at hr, trivial⟩⟩
      have other : snap σ x = some x → Rep (ctx (fun _ => True) w noMu noNu []) y.strip v := by
        intro hs
        rw [hs] at hy; injection hy with hy; subst hy
        exact Rep.strip hle _ _ hc.1 h1
      cases x
      case bsl id off n sz g =>
        simp only [snap] at hy
        split at hy
        · rename_i c hbx
          obtain ⟨es, hes, rfl⟩ := Option.map_eq_some_iff.1 hy
          simp only [Rep] at h1
          obtain ⟨b, cp, hb, rfl, hn, hcp⟩ := h1
          obtain ⟨vs, hr', hone, hok, tt, hh⟩ := Sim.cells (S := S) hb hbx
          have hcl : AV.closedL es = true := by simpa only [AV.closed] using hc.1
          obtain ⟨q1, q2⟩ := snapEls_rep hle (R' := ctx (fun _ => True) w noMu noNu []) hh hr' hone (fun off x hx => ⟨hx, fun i hi => by simp [noMu] at hi, fun r u v hr => by simp [noNu] at hr, trivial⟩) n off 0 off es hes hcl (by omega)
          have hlen : (AV.stripL es).length = n := by rw [stripL_map, List.length_map, q1]
          simp only [AV.strip, Rep]
          exact ⟨_, cp, by rw [hlen], by rw [hlen]; exact hn, by rw [hlen]; exact hcp, OwnOk.no, _, sz, fun _ => rfl, q2⟩
        · cases hy
      all_goals exact other rfl
    · cases h
theorem box_ok (H : CallOk P r) {g : Nat} {l : List AV} {v : AV} (h : boxCall r g l σ = some v) (n : Nat) (S : Sim Z w μ ν σ) {vals : Array Value} (hr : RepL (ctx Z w μ ν σ.rows) l vals.toList) :
    Enters P g ∧ Calls P g vals w (fun e w' => ∃ V, e = .returned V ∧ Grow n w μ ν σ.rows w' μ ν σ.rows ∧ Sim Z w' μ ν σ ∧ Rep (ctx Z w' μ ν σ.rows) v V) := by
  unfold boxCall at h
  split at h
  · rename_i l' hl'
    split at h
    · rename_i hcl
      split at h
      · rename_i v0 σ0 hcall
        split at h
        · rename_i hfl
          injection h with h; subst h
          obtain ⟨hent, hc⟩ := H _ _ _ _ _ hcall
          refine ⟨hent, ?_⟩
          refine (hc (fun _ => True) w noMu noNu vals (sim_nil fun _ _ => trivial) (snapL_rep S hl' hcl hr)).mono ?_
          rintro e w' ⟨V, μ', ν', rfl, G, S', hV⟩
          have hb : ∀ b, b < w.heap.size → w'.heap[b]? = w.heap[b]? := fun b hb => G.blocks b hb (fun i hi => by simp [noMu] at hi) (fun r u v hr => by simp [noNu] at hr)
          obtain ⟨G2, S2⟩ := S.keep n G.os G.tape G.output G.size hb
          refine ⟨V, rfl, G2, S2, ?_⟩
          cases v0 <;> simp only [AV.flat] at hfl <;> first | (cases hfl; done) | skip
          all_goals (simp only [Rep] at hV ⊢; exact hV)
        · cases h
      · cases h
    · cases h
  · cases h

theorem run_callFunc {f : Nat} (h : Enters P f) (args : Array Value) : (callFunc f args).run P w = .ok (.enter f args) w := by
  obtain ⟨fn, c, h1, h2, h3⟩ := h
  have h3' : ¬ fn.name = "runtime.NumGoroutine" := by simpa using h3
  unfold callFunc
  simp [Sem.run_bind, h1, h2, h3']
theorem run_call_value {c : Call} {f : Operand} {g : Nat} {A B : Array Value} (ho : o.op = .call c) (hc : c.callee = .value f) (hf : a.eval f = .func (.func g) A B) (h : Enters P g) :
    (execOp a.eval o).run P w = .ok (.enter g (A ++ c.args.map a.eval ++ B)) w := by
  simp [execOp, ho, resolve, hc, hf, Deferred.ofValue, invoke, Sem.run_bind, run_callFunc h]

theorem ok_call (H : CallOk P r) {c : Call} {f : Operand} {f' : X} {args' : List X} {E : Env} {g : Nat} {l : List AV} {v : AV} {σ' : St} (ho : o.op = .call c) (hc : c.callee = .value f) (hf : compX f = some f') (ha : compXs c.args.toList = some args') (S : Sim Z w μ ν σ)
    (hE : EnvRep (ctx Z w μ ν σ.rows) E a.tmps) (hcal : callee (f'.ev E) (args'.map (·.ev E)) = some (g, l))
    (h : (r.call g l σ = some (v, σ')) ∨ (pureCall r g l = some v ∧ σ' = σ) ∨ (boxCall r g l σ = some v ∧ σ' = σ)) : OpOk P Z o a w μ ν σ v σ' := by
  have hp := compX_rep hE hf
  have hq := compXs_rep hE ha
  unfold callee at hcal
  split at hcal
  · rename_i g' fst cap hfn
    simp only [Option.some.injEq, Prod.mk.injEq] at hcal
    obtain ⟨rfl, rfl⟩ := hcal
    rw [hfn] at hp
    simp only [Rep] at hp
    obtain ⟨A, B, hv, hA, hB⟩ := hp
    have hvals : RepL (ctx Z w μ ν σ.rows) (fst ++ args'.map (·.ev E) ++ cap) (A ++ c.args.map a.eval ++ B).toList := by
      simp only [Array.toList_append, Array.toList_map]
      exact (hA.append hq).append hB
    intro K Q hK
    unfold Oper.wp
    rcases h with h | ⟨h, rfl⟩ | ⟨h, rfl⟩
    · obtain ⟨hent, hcalls⟩ := H _ _ _ _ _ h
      rw [run_call_value ho hc hv hent]
      refine (hcalls Z w μ ν _ S hvals).mono ?_
      rintro e w' ⟨V, μ', ν', rfl, G, S', hV⟩
      exact hK w' μ' ν' V G S' hV
    · obtain ⟨hent, hcalls⟩ := pure_ok H h σ'.boxes.length S hvals
      rw [run_call_value ho hc hv hent]
      refine hcalls.mono ?_
      rintro e w' ⟨V, rfl, G, S', hV⟩
      exact hK w' μ ν V G S' hV
    · obtain ⟨hent, hcalls⟩ := box_ok H h σ'.boxes.length S hvals
      rw [run_call_value ho hc hv hent]
      refine hcalls.mono ?_
      rintro e w' ⟨V, rfl, G, S', hV⟩
      exact hK w' μ ν V G S' hV
  · cases hcal

/-- one operation -/
theorem aop_ok (H : CallOk P r) {fl : Nat} {s : SOp} {E : Env} {v : AV} {σ' : St} (hc : compOp P o.op = some s) (S : Sim Z w μ ν σ) (hE : EnvRep (ctx Z w μ ν σ.rows) E a.tmps) (h : aop T r fl s E σ = some (v, σ')) : OpOk P Z o a w μ ν σ v σ' := by
  have hc0 := hc
  cases ho : o.op <;> rw [ho] at hc <;> simp only [compOp] at hc <;> first | (cases hc; done) | skip
  case move x =>
    obtain ⟨y, hx, rfl⟩ := Option.map_eq_some_iff.1 hc
    simp only [aop, Option.some.injEq, Prod.mk.injEq] at h; obtain ⟨rfl, rfl⟩ := h
    exact ok_mov (.inl ho) hx S hE
  case assign x =>
    obtain ⟨y, hx, rfl⟩ := Option.map_eq_some_iff.1 hc
    simp only [aop, Option.some.injEq, Prod.mk.injEq] at h; obtain ⟨rfl, rfl⟩ := h
    exact ok_mov (.inr ho) hx S hE
  case pick c x y =>
    split at hc
    · rename_i c' x' y' h1 h2 h3
      injection hc with hc; subst hc
      simp only [aop] at h
      split at h
      · rename_i t ht
        simp only [Option.some.injEq, Prod.mk.injEq] at h; obtain ⟨rfl, rfl⟩ := h
        exact ok_pick ho h1 h2 h3 S hE ht
      · cases h
    · cases hc
  case alloc e =>
    split at hc
    · rename_i p z hs hz
      obtain ⟨c, hcv, rfl⟩ := Option.map_eq_some_iff.1 hc
      simp only [aop, Option.some.injEq] at h
      have := ok_alloc (a := a) ho hs hz hcv S
      rw [h] at this; exact this
    · cases hc
  case box e x =>
    obtain ⟨y, hx, rfl⟩ := Option.map_eq_some_iff.1 hc
    simp only [aop] at h
    split at h
    · rename_i hok
      simp only [Option.some.injEq] at h
      have := ok_box (P := P) ho hx S hE hok
      rw [h] at this; exact this
    · cases h
  case build t parts =>
    have hsh : ∃ l qs, s = .build l qs := by
      split at hc
      · split at hc
        · injection hc with hc; exact ⟨_, _, hc.symm⟩
        · cases hc
      · split at hc
        · obtain ⟨y, _, rfl⟩ := Option.map_eq_some_iff.1 hc; exact ⟨_, _, rfl⟩
        · cases hc
      · cases hc
    obtain ⟨l, qs, rfl⟩ := hsh
    simp only [aop] at h
    obtain ⟨l', hl, he⟩ := Option.map_eq_some_iff.1 h
    simp only [Prod.mk.injEq] at he; obtain ⟨rfl, rfl⟩ := he
    exact ok_build (so := .build l qs) ho hc0 S hE hl
  case buildSlice t len parts =>
    have hsh : ∃ sz z ln qs, s = .bslice sz z ln qs ∧ ln = len := by
      split at hc
      · split at hc
        · split at hc
          · injection hc with hc; exact ⟨_, _, _, _, hc.symm, rfl⟩
          · cases hc
        · cases hc
      · cases hc
    obtain ⟨sz, z, ln, qs, rfl, rfl⟩ := hsh
    simp only [aop] at h
    obtain ⟨l', hl, he⟩ := Option.map_eq_some_iff.1 h
    simp only [Prod.mk.injEq] at he; obtain ⟨rfl, rfl⟩ := he
    exact ok_bslice ho hc0 S hE hl
  case load t x =>
    split at hc
    · rename_i sz g y hs hx
      injection hc with hc; subst hc
      simp only [aop] at h
      split at h
      · rename_i id off hy
        obtain ⟨u, hu, he⟩ := Option.map_eq_some_iff.1 h
        simp only [Prod.mk.injEq] at he; obtain ⟨rfl, rfl⟩ := he
        exact ok_load ho hs hx S hE (.inl ⟨id, off, hy, hu⟩)
      · rename_i u0 hy
        obtain ⟨u, hu, he⟩ := Option.map_eq_some_iff.1 h
        simp only [Prod.mk.injEq] at he; obtain ⟨rfl, rfl⟩ := he
        exact ok_load ho hs hx S hE (.inr ⟨u0, hy, hu⟩)
      · cases h
    · cases hc
  case store t x y =>
    split at hc
    · rename_i sz g x' y' hs hx hy
      injection hc with hc; subst hc
      simp only [aop] at h
      split at h
      · rename_i id off hxe
        split at h
        · rename_i c hcb
          split at h
          · rename_i hcond
            simp only [Bool.and_eq_true, decide_eq_true_eq] at hcond
            simp only [Option.some.injEq, Prod.mk.injEq] at h; obtain ⟨rfl, rfl⟩ := h
            exact ok_store ho hs hx hy S hE hxe hcb hcond.1.1.1 hcond.1.1.2 hcond.1.2
          · cases h
        · cases h
      · cases h
    · cases hc
  case nilCheck x =>
    obtain ⟨y, hx, rfl⟩ := Option.map_eq_some_iff.1 hc
    simp only [aop] at h
    split at h
    · rename_i id off hy
      simp only [Option.some.injEq, Prod.mk.injEq] at h; obtain ⟨rfl, rfl⟩ := h
      have := ok_nilck (P := P) ho hx S hE (.inl ⟨id, off, hy⟩)
      rw [hy] at this; exact this
    · rename_i u hy
      simp only [Option.some.injEq, Prod.mk.injEq] at h; obtain ⟨rfl, rfl⟩ := h
      have := ok_nilck (P := P) ho hx S hE (.inr (.inl ⟨u, hy⟩))
      rw [hy] at this; exact this
    · rename_i g p q hy
      simp only [Option.some.injEq, Prod.mk.injEq] at h; obtain ⟨rfl, rfl⟩ := h
      have := ok_nilck (P := P) ho hx S hE (.inr (.inr ⟨g, p, q, hy⟩))
      rw [hy] at this; exact this
    · cases h
  case binOp op t x y yt =>
    have hc1 := hc
    split at hc
    · rename_i x' y' hx hy
      split at hc
      · injection hc with hc; subst hc
        simp only [aop] at h
        obtain ⟨u, hu, he⟩ := Option.map_eq_some_iff.1 h
        simp only [Prod.mk.injEq] at he; obtain ⟨rfl, rfl⟩ := he
        exact ok_bin ho hx hy S hE hu
      · rename_i ht
        have heqb : ∀ neg, s = .eqb neg x' y' → op = (if neg then .neq else .eql) → OpOk P Z o a w μ ν σ v σ' := by
          rintro neg rfl hop
          simp only [aop] at h
          split at h
          · rename_i b c hb hcc
            simp only [Option.some.injEq, Prod.mk.injEq] at h; obtain ⟨rfl, rfl⟩ := h
            exact ok_eqb neg hop ho ht hx hy S hE hb hcc
          · cases h
        split at hc
        · injection hc with hc; exact heqb false hc.symm rfl
        · injection hc with hc; exact heqb true hc.symm rfl
        · cases hc
      · rename_i ht
        have heqs : ∀ neg, s = .eqs neg x' y' → op = (if neg then .neq else .eql) → OpOk P Z o a w μ ν σ v σ' := by
          rintro neg rfl hop
          simp only [aop] at h
          split at h
          · rename_i b c hb hcc
            simp only [Option.some.injEq, Prod.mk.injEq] at h; obtain ⟨rfl, rfl⟩ := h
            exact ok_eqs neg hop ho ht hx hy S hE hb hcc
          · cases h
        split at hc
        · injection hc with hc; exact heqs false hc.symm rfl
        · injection hc with hc; exact heqs true hc.symm rfl
        · injection hc with hc; subst hc
          simp only [aop] at h
          split at h
          · rename_i b c hb hcc
            split at h
            · rename_i hsz
              simp only [Option.some.injEq, Prod.mk.injEq] at h; obtain ⟨rfl, rfl⟩ := h
              exact ok_sadd ho hx hy S hE hb hcc hsz.1 hsz.2
            · cases h
          · cases h
        · cases hc
      · have hsh : ∃ neg ks, s = .eqa neg ks x' y' := by
          split at hc
          · split at hc
            · split at hc
              · injection hc with hc; exact ⟨_, _, hc.symm⟩
              · injection hc with hc; exact ⟨_, _, hc.symm⟩
              · cases hc
            · cases hc
          · cases hc
        obtain ⟨neg, ks, rfl⟩ := hsh
        simp only [aop] at h
        split at h
        · rename_i as bs h1 h2
          obtain ⟨u, hu, he⟩ := Option.map_eq_some_iff.1 h
          simp only [Prod.mk.injEq] at he; obtain ⟨rfl, rfl⟩ := he
          exact ok_eqa (so := .eqa neg ks x' y') ho hc0 S hE h1 h2 hu
        · cases h
      · have hsh : ∃ neg ks, s = .eqa neg ks x' y' := by
          split at hc
          · split at hc
            · split at hc
              · injection hc with hc; exact ⟨_, _, hc.symm⟩
              · injection hc with hc; exact ⟨_, _, hc.symm⟩
              · cases hc
            · cases hc
          · cases hc
        obtain ⟨neg, ks, rfl⟩ := hsh
        simp only [aop] at h
        split at h
        · rename_i as bs h1 h2
          obtain ⟨u, hu, he⟩ := Option.map_eq_some_iff.1 h
          simp only [Prod.mk.injEq] at he; obtain ⟨rfl, rfl⟩ := he
          exact ok_eqa (so := .eqa neg ks x' y') ho hc0 S hE h1 h2 hu
        · cases h
      · cases hc
    · cases hc
  case unOp op t x =>
    obtain ⟨y, hx, rfl⟩ := Option.map_eq_some_iff.1 hc
    simp only [aop] at h
    obtain ⟨u, hu, he⟩ := Option.map_eq_some_iff.1 h
    simp only [Prod.mk.injEq] at he; obtain ⟨rfl, rfl⟩ := he
    exact ok_un ho hx S hE hu
  case convert s1 d x =>
    split at hc
    · rename_i k' k y hs hd hx
      injection hc with hc; subst hc
      simp only [aop] at h
      split at h
      · rename_i j n hy
        simp only [Option.some.injEq, Prod.mk.injEq] at h; obtain ⟨rfl, rfl⟩ := h
        exact ok_conv ho hs hd hx S hE hy
      · cases h
    · rename_i k' y hs hd hx
      injection hc with hc; subst hc
      simp only [aop] at h
      split at h
      · rename_i j n hy
        simp only [Option.some.injEq, Prod.mk.injEq] at h; obtain ⟨rfl, rfl⟩ := h
        exact ok_chr ho hs hd hx S hE hy
      · cases h
    · cases hc
  case slice t x lo hi mx =>
    have hbox : ∀ {n e sz : Nat} {g : Bool} {y yl yh : X}, s = .slbox n sz g y yl yh → P.underlying t = some (.array n e) → sizeA P e = some (sz, g) → n ≤ 16777216 → compX x = some y → mx = none →
        (∀ k1 k2 l h, yl.ev E = .int k1 l → yh.ev E = .int k2 h → 0 ≤ l → l ≤ h → h ≤ n → l < n → (Instr.sliceBounds false n n (lo.map a.eval) (hi.map a.eval) none).run P w = .ok (l.toNat, h.toNat, n) w) → OpOk P Z o a w μ ν σ v σ' := by
      rintro n e sz g y yl yh rfl ht hs hn hx rfl hb
      simp only [aop] at h
      split at h
      · rename_i id off k1 l k2 h' hy hl hh
        split at h
        · rename_i hcd
          simp only [Option.some.injEq, Prod.mk.injEq] at h; obtain ⟨rfl, rfl⟩ := h
          exact ok_slbox ho ht hs hn hx S hE hy hcd.1 hcd.2.1 hcd.2.2.1 hcd.2.2.2 (hb k1 k2 l h' hl hh hcd.1 hcd.2.1 hcd.2.2.1 hcd.2.2.2)
        · cases h
      · cases h
    have hsl : ∀ {e sz : Nat} {g : Bool} {y yl : X} {yh : Option X}, s = .slc sz y yl yh → P.underlying t = some (.slice e) → sizeA P e = some (sz, g) → compX x = some y → mx = none →
        (∀ ow es k1 k2 l h, y.ev E = .sl ow es → yl.ev E = .int k1 l → hiOf E (y.ev E) yh = .int k2 h → 0 ≤ l → l ≤ h → h ≤ es.length → ∀ cap, es.length ≤ cap → (Instr.sliceBounds true es.length cap (lo.map a.eval) (hi.map a.eval) none).run P w = .ok (l.toNat, h.toNat, cap) w) → OpOk P Z o a w μ ν σ v σ' := by
      rintro e sz g y yl yh rfl ht hs hx rfl hb
      simp only [aop] at h
      split at h
      · rename_i ow es k1 l k2 h' hy hl hh
        split at h
        · rename_i hcd
          simp only [Option.some.injEq, Prod.mk.injEq] at h; obtain ⟨rfl, rfl⟩ := h
          exact ok_slc ho ht hs hx S hE hy hcd.1 hcd.2.1 hcd.2.2.1 hcd.2.2.2 (hb ow es k1 k2 l h' hy hl hh hcd.1 hcd.2.1 hcd.2.2.1)
        · cases h
      · cases h
    have hint : ∀ {z : Operand} {yz : X} {k : IntKind} {m : Int}, compX z = some yz → yz.ev E = .int k m → a.eval z = .int k m := by
      intro z yz k m hz hm
      have := compX_rep hE hz
      rw [hm] at this
      simpa only [Rep] using this
    rcases lo with _ | l0 <;> rcases hi with _ | h0 <;> rcases mx with _ | m0 <;> simp only [compSlice] at hc <;> first | (cases hc; done) | skip
    case some.some.none =>
      split at hc
      · rename_i n e y yl yh ht hx hl hh
        split at hc
        · rename_i sz g hs
          split at hc
          · rename_i hn
            injection hc with hc
            refine hbox hc.symm ht hs hn hx rfl ?_
            intro k1 k2 l h' q1 q2 q3 q4 q5 q6
            simp only [Option.map_some, hint hl q1, hint hh q2]
            exact run_bounds false n n l h' k1 k2 q3 q4 q5
          · cases hc
        · cases hc
      · rename_i e y yl yh ht hx hl hh
        obtain ⟨p, hs, hc⟩ := Option.map_eq_some_iff.1 hc
        refine hsl (g := p.2) hc.symm ht hs hx rfl ?_
        intro ow es k1 k2 l h' q0 q1 q2 q3 q4 q5 cap hcap
        simp only [hiOf] at q2
        simp only [Option.map_some, hint hl q1, hint hh q2]
        exact run_bounds true es.length cap l h' k1 k2 q3 q4 (by omega)
      · cases hc
    case none.some.none =>
      split at hc
      · rename_i n e y yh ht hx hh
        split at hc
        · rename_i sz g hs
          split at hc
          · rename_i hn
            injection hc with hc
            refine hbox hc.symm ht hs hn hx rfl ?_
            intro k1 k2 l h' q1 q2 q3 q4 q5 q6
            simp only [X.ev, AV.int.injEq] at q1
            obtain ⟨rfl, rfl⟩ := q1
            simp only [Option.map_some, Option.map_none, hint hh q2]
            exact run_bounds_h false n n h' k2 q4 q5
          · cases hc
        · cases hc
      · rename_i e y yh ht hx hh
        obtain ⟨p, hs, hc⟩ := Option.map_eq_some_iff.1 hc
        refine hsl (g := p.2) hc.symm ht hs hx rfl ?_
        intro ow es k1 k2 l h' q0 q1 q2 q3 q4 q5 cap hcap
        simp only [hiOf] at q2
        simp only [X.ev, AV.int.injEq] at q1
        obtain ⟨rfl, rfl⟩ := q1
        simp only [Option.map_some, Option.map_none, hint hh q2]
        exact run_bounds_h true es.length cap h' k2 q4 (by omega)
      · cases hc
    case some.none.none =>
      split at hc
      · rename_i n e y yl ht hx hl
        split at hc
        · rename_i sz g hs
          split at hc
          · rename_i hn
            injection hc with hc
            refine hbox hc.symm ht hs hn hx rfl ?_
            intro k1 k2 l h' q1 q2 q3 q4 q5 q6
            simp only [X.ev, AV.int.injEq] at q2
            obtain ⟨rfl, rfl⟩ := q2
            simp only [Option.map_some, Option.map_none, hint hl q1]
            rw [run_bounds_l false n n l k1 q3 (by omega)]; simp
          · cases hc
        · cases hc
      · rename_i e y yl ht hx hl
        obtain ⟨p, hs, hc⟩ := Option.map_eq_some_iff.1 hc
        refine hsl (g := p.2) hc.symm ht hs hx rfl ?_
        intro ow es k1 k2 l h' q0 q1 q2 q3 q4 q5 cap hcap
        simp only [hiOf, q0, AV.int.injEq] at q2
        obtain ⟨rfl, rfl⟩ := q2
        simp only [Option.map_some, Option.map_none, hint hl q1]
        rw [run_bounds_l true es.length cap l k1 q3 (by omega)]; simp
      · cases hc
  case makeFunc f l m =>
    split at hc
    · rename_i l' m' h1 h2
      injection hc with hc; subst hc
      simp only [aop, Option.some.injEq, Prod.mk.injEq] at h; obtain ⟨rfl, rfl⟩ := h
      exact ok_mkfn ho h1 h2 S hE
    · cases hc
  case fieldAddr t x i =>
    split at hc
    · rename_i fs y hs hx
      split at hc
      · rename_i f hf
        obtain ⟨p, hp, rfl⟩ := Option.map_eq_some_iff.1 hc
        simp only [aop] at h
        split at h
        · rename_i id off hy
          simp only [Option.some.injEq, Prod.mk.injEq] at h; obtain ⟨rfl, rfl⟩ := h
          exact ok_faddr ho hs hf hp hx S hE (.inl ⟨id, off, hy, rfl⟩)
        · rename_i u hy
          obtain ⟨u', hu, he⟩ := Option.map_eq_some_iff.1 h
          simp only [Prod.mk.injEq] at he; obtain ⟨rfl, rfl⟩ := he
          exact ok_faddr ho hs hf hp hx S hE (.inr ⟨u, u', hy, hu, rfl⟩)
        · cases h
      · cases hc
    · cases hc
  case field t x i =>
    split at hc
    · rename_i fs y hs hx
      split at hc
      · rename_i f hf
        obtain ⟨p, hp, rfl⟩ := Option.map_eq_some_iff.1 hc
        simp only [aop] at h
        split at h
        · rename_i l hy
          obtain ⟨u', hu, he⟩ := Option.map_eq_some_iff.1 h
          simp only [Prod.mk.injEq] at he; obtain ⟨rfl, rfl⟩ := he
          exact ok_fld ho hs hf hp hx S hE hy hu
        · cases h
      · cases hc
    · cases hc
  case indexAddr t x i =>
    split at hc
    · rename_i e y j ht hx hi
      obtain ⟨p, hp, rfl⟩ := Option.map_eq_some_iff.1 hc
      simp only [aop] at h
      split at h
      · rename_i ow es k n hy hj
        split at h
        · rename_i h0
          split at h
          · rename_i u hu
            split at h
            · rename_i hl
              simp only [Option.some.injEq, Prod.mk.injEq] at h; obtain ⟨rfl, rfl⟩ := h
              exact ok_iaddr ho ht hp hx hi S hE hy hj h0 hu hl
            · cases h
          · cases h
        · cases h
      · cases h
    · rename_i n e y j ht hx hi
      obtain ⟨p, hp, rfl⟩ := Option.map_eq_some_iff.1 hc
      simp only [aop] at h
      split at h
      · rename_i id off k m hy hj
        split at h
        · rename_i h0
          simp only [Bool.and_eq_true, decide_eq_true_eq] at h0
          simp only [Option.some.injEq, Prod.mk.injEq] at h; obtain ⟨rfl, rfl⟩ := h
          exact ok_iaddrA ho ht hp hx hi S hE hj h0.1 h0.2 (.inl ⟨id, off, hy, rfl⟩)
        · cases h
      · rename_i u k m hy hj
        split at h
        · rename_i h0
          simp only [Bool.and_eq_true, decide_eq_true_eq] at h0
          obtain ⟨u', hu, he⟩ := Option.map_eq_some_iff.1 h
          simp only [Prod.mk.injEq] at he; obtain ⟨rfl, rfl⟩ := he
          exact ok_iaddrA ho ht hp hx hi S hE hj h0.1 h0.2 (.inr ⟨u, u', hy, hu, rfl⟩)
        · cases h
      · cases h
    · cases hc
  case index t x i =>
    split at hc
    · rename_i n e y j ht hx hi
      obtain ⟨p, hp, rfl⟩ := Option.map_eq_some_iff.1 hc
      simp only [aop] at h
      split at h
      · rename_i l k m hy hj
        split at h
        · rename_i h0
          simp only [Bool.and_eq_true, decide_eq_true_eq] at h0
          obtain ⟨u', hu, he⟩ := Option.map_eq_some_iff.1 h
          simp only [Prod.mk.injEq] at he; obtain ⟨rfl, rfl⟩ := he
          exact ok_idxA ho ht hp hx hi S hE hy hj h0.1 h0.2 hu
        · cases h
      · cases h
    · cases hc
  case extract x i =>
    obtain ⟨y, hx, rfl⟩ := Option.map_eq_some_iff.1 hc
    simp only [aop] at h
    split at h
    · rename_i vs hy
      obtain ⟨u', hu, he⟩ := Option.map_eq_some_iff.1 h
      simp only [Prod.mk.injEq] at he; obtain ⟨rfl, rfl⟩ := he
      exact ok_ext ho hx S hE hy hu
    · cases h
  case call c =>
    split at hc
    · rename_i f hcal
      split at hc
      · rename_i f' l' hf hl
        injection hc with hc; subst hc
        simp only [aop] at h
        split at h
        · rename_i g l hg
          split at h
          · exact ok_call H ho hcal hf hl S hE hg (.inl h)
          · split at h
            · obtain ⟨u', hu, he⟩ := Option.map_eq_some_iff.1 h
              simp only [Prod.mk.injEq] at he; obtain ⟨rfl, rfl⟩ := he
              exact ok_call H ho hcal hf hl S hE hg (.inr (.inr ⟨hu, rfl⟩))
            · obtain ⟨u', hu, he⟩ := Option.map_eq_some_iff.1 h
              simp only [Prod.mk.injEq] at he; obtain ⟨rfl, rfl⟩ := he
              exact ok_call H ho hcal hf hl S hE hg (.inr (.inl ⟨hu, rfl⟩))
        · cases h
      · cases hc
    · rename_i hcal
      split at hc
      · rename_i t x hT hA
        split at hc
        · rename_i e y ht hx
          injection hc with hc; subst hc
          simp only [aop] at h
          split at h
          · rename_i ow es hy
            simp only [Option.some.injEq, Prod.mk.injEq] at h; obtain ⟨rfl, rfl⟩ := h
            exact ok_len ho hcal hT hA ht hx S hE hy
          · cases h
        · cases hc
      · cases hc
    · rename_i hcal
      split at hc
      · rename_i x y hA
        split at hc
        · rename_i x' y' hx hy
          injection hc with hc; subst hc
          simp only [aop] at h
          split at h
          · rename_i k m k' n h1 h2
            split at h
            · rename_i hk
              subst hk
              simp only [Option.some.injEq, Prod.mk.injEq] at h; obtain ⟨rfl, rfl⟩ := h
              exact ok_mx true ho hcal hA hx hy S hE h1 h2
            · cases h
          · cases h
        · cases hc
      · cases hc
    · rename_i hcal
      split at hc
      · rename_i x y hA
        split at hc
        · rename_i x' y' hx hy
          injection hc with hc; subst hc
          simp only [aop] at h
          split at h
          · rename_i k m k' n h1 h2
            split at h
            · rename_i hk
              subst hk
              simp only [Option.some.injEq, Prod.mk.injEq] at h; obtain ⟨rfl, rfl⟩ := h
              exact ok_mx false ho hcal hA hx hy S hE h1 h2
            · cases h
          · cases h
        · cases hc
      · cases hc
    · rename_i hcal
      split at hc
      · rename_i t u x y hT hA
        split at hc
        · rename_i htu
          subst htu
          split at hc
          · rename_i e x' y' ht hx hy
            split at hc
            · rename_i i z hi hz
              split at hc
              · rename_i hcond
                injection hc with hc; subst hc
                rw [hi] at hz
                simp only [aop] at h
                exact ok_append ho hcal hT hA ht hi (by simpa using hz) hcond.1 hcond.2.1 hcond.2.2 hx hy S hE h
              · cases hc
            · cases hc
          · cases hc
        · cases hc
      · cases hc
    · cases hc
end
end Go.Rb

namespace Go.Rb
set_option linter.unusedVariables false
set_option linter.unusedSimpArgs false

/-! ### boxes are never lost -/
structure LenOk (r : Rec) : Prop where
  loop : ∀ fl live c e σ x e' σ', r.loop fl live c e σ = some (x, e', σ') → σ.boxes.length ≤ σ'.boxes.length
  call : ∀ f l σ v σ', r.call f l σ = some (v, σ') → σ.boxes.length ≤ σ'.boxes.length
section
variable {T : Tab} {r : Rec}
theorem aop_len (L : LenOk r) {fl : Nat} {s : SOp} {e : Env} {σ σ' : St} {v : AV} (h : aop T r fl s e σ = some (v, σ')) : σ.boxes.length ≤ σ'.boxes.length := by
  cases s <;> simp only [aop] at h
  case call f args =>
    split at h
    · split at h
      · exact L.call _ _ _ _ _ h
      · split at h <;>
        · obtain ⟨u, _, he⟩ := Option.map_eq_some_iff.1 h
          simp only [Prod.mk.injEq] at he; obtain ⟨_, rfl⟩ := he; exact Nat.le_refl _
    · cases h
  case append e1 size bytes s x =>
    unfold aAppend at h
    split at h
    · split at h
      · simp only [Option.some.injEq, Prod.mk.injEq] at h; obtain ⟨_, rfl⟩ := h; exact Nat.le_refl _
      · split at h
        · split at h
          · simp only [Option.some.injEq, Prod.mk.injEq] at h; obtain ⟨_, rfl⟩ := h; exact Nat.le_refl _
          · split at h
            · simp only [Option.some.injEq, Prod.mk.injEq] at h; obtain ⟨_, rfl⟩ := h; exact Nat.le_refl _
            · cases h
          · cases h
        · cases h
    · cases h
  case alloc z => simp only [Option.some.injEq, St.push, Prod.mk.injEq] at h; obtain ⟨_, rfl⟩ := h; simp
  case box x =>
    split at h
    · simp only [Option.some.injEq, St.push, Prod.mk.injEq] at h; obtain ⟨_, rfl⟩ := h; simp
    · cases h
  case store size x v =>
    split at h
    · split at h
      · split at h
        · simp only [Option.some.injEq, Prod.mk.injEq] at h; obtain ⟨_, rfl⟩ := h; simp
        · cases h
      · cases h
    · cases h
  all_goals
    first
    | (simp only [Option.some.injEq, Prod.mk.injEq] at h; obtain ⟨_, rfl⟩ := h; exact Nat.le_refl _)
    | (obtain ⟨u, _, he⟩ := Option.map_eq_some_iff.1 h
       simp only [Prod.mk.injEq] at he; obtain ⟨_, rfl⟩ := he; exact Nat.le_refl _)
    | (repeat' split at h
       all_goals
         first
         | (cases h; done)
         | (simp only [Option.some.injEq, Prod.mk.injEq] at h; obtain ⟨_, rfl⟩ := h; exact Nat.le_refl _)
         | (obtain ⟨u, _, he⟩ := Option.map_eq_some_iff.1 h
            simp only [Prod.mk.injEq] at he; obtain ⟨_, rfl⟩ := he; exact Nat.le_refl _))
theorem ops_len (L : LenOk r) {fl : Nat} {draw : Bool} : ∀ {l : List SOper} {i : Nat} {acc : List (Nat × Foot)} {e e' : Env} {σ σ' : St}, ops T r fl draw i acc l e σ = some (e', σ') → σ.boxes.length ≤ σ'.boxes.length
  | [], i, acc, e, e', σ, σ', h => by simp only [ops, Option.some.injEq, Prod.mk.injEq] at h; obtain ⟨_, rfl⟩ := h; exact Nat.le_refl _
  | o :: l, i, acc, e, e', σ, σ', h => by
    simp only [ops] at h
    split at h
    · split at h
      · rename_i v σ1 ha
        have h1 := aop_len L ha
        split at h
        · split at h
          · exact Nat.le_trans h1 (ops_len L h)
          · cases h
        · exact Nat.le_trans h1 (ops_len L h)
      · cases h
    · exact ops_len L h
    · cases h
theorem run_len (L : LenOk r) {fl : Nat} : ∀ {c : SCode} {e e' : Env} {σ σ' : St} {x : SExit}, run T r fl c e σ = some (x, e', σ') → σ.boxes.length ≤ σ'.boxes.length := by
  intro c
  induction c with
  | skip => intro e e' σ σ' x h; simp only [run, Option.some.injEq, Prod.mk.injEq] at h; obtain ⟨_, _, rfl⟩ := h; exact Nat.le_refl _
  | exit id => intro e e' σ σ' x h; simp only [run, Option.some.injEq, Prod.mk.injEq] at h; obtain ⟨_, _, rfl⟩ := h; exact Nat.le_refl _
  | ret => intro e e' σ σ' x h; simp only [run, Option.some.injEq, Prod.mk.injEq] at h; obtain ⟨_, _, rfl⟩ := h; exact Nat.le_refl _
  | region draw l =>
    intro e e' σ σ' x h
    simp only [run] at h
    split at h
    · rename_i ho
      simp only [Option.some.injEq, Prod.mk.injEq] at h; obtain ⟨_, _, rfl⟩ := h
      exact ops_len L ho
    · cases h
  | seq a b iha ihb =>
    intro e e' σ σ' x h
    simp only [run] at h
    split at h
    · rename_i ha
      exact Nat.le_trans (iha ha) (ihb h)
    · exact iha h
  | cond y a b iha ihb =>
    intro e e' σ σ' x h
    simp only [run] at h
    split at h
    · split at h
      · exact iha h
      · exact ihb h
    · cases h
  | block id c ih =>
    intro e e' σ σ' x h
    simp only [run] at h
    split at h
    · rename_i hc
      split at h
      · simp only [Option.some.injEq, Prod.mk.injEq] at h; obtain ⟨_, _, rfl⟩ := h; exact ih hc
      · simp only [Option.some.injEq, Prod.mk.injEq] at h; obtain ⟨_, _, rfl⟩ := h; exact ih hc
    · exact ih h
  | loop live c ih => intro e e' σ σ' x h; simp only [run] at h; exact L.loop _ _ _ _ _ _ _ _ h
theorem upto_len : ∀ n, LenOk (upto T n) := by
  intro n
  induction n with
  | zero => exact ⟨fun _ _ _ _ _ _ _ _ h => by simp [upto] at h, fun _ _ _ _ _ h => by simp [upto] at h⟩
  | succ n ih =>
    refine ⟨?_, ?_⟩
    · intro fl live c e σ x e' σ' h
      replace h : round T (upto T n) fl live c e σ = some (x, e', σ') := h
      unfold round at h
      split at h
      · rename_i hc
        exact Nat.le_trans (run_len ih hc) (ih.loop _ _ _ _ _ _ _ _ h)
      · exact run_len ih h
    · intro f l σ v σ' h
      replace h : enter T (upto T n) f l σ = some (v, σ') := h
      unfold enter at h
      split at h
      · split at h
        · split at h
          · split at h
            · simp only [Option.some.injEq, Prod.mk.injEq] at h; obtain ⟨_, rfl⟩ := h; exact Nat.le_refl _
            · cases h
          · cases h
        · cases h
      · cases h
      · split at h
        · split at h
          · rename_i hc
            have hl := run_len ih hc
            split at h
            · split at h
              · simp only at h
                split at h
                · simp only [Option.some.injEq, Prod.mk.injEq] at h; obtain ⟨_, rfl⟩ := h
                  simp only [List.length_take]; omega
                · simp only [Option.some.injEq, Prod.mk.injEq] at h; obtain ⟨_, rfl⟩ := h; exact hl
              · cases h
            · cases h
          · cases h
        · cases h
end

section
variable {P : Program} {Z : Addr → Prop} {T : Tab} {r : Rec}

theorem EnvRep.put {R : Ctx} {e : Env} {tmps : Array Value} (h : EnvRep R e tmps) {d : Option Nat} {v : AV} {V : Value} (hd : ∀ t, d = some t → t < tmps.size) (hv : Rep R v V) (a : Act) (ha : a.tmps = tmps) : EnvRep R (e.put d v) (a.put d V).tmps := by
  subst ha
  intro t
  cases d with
  | none => exact h t
  | some k =>
    simp only [Env.put, Env.get, Act.put]
    have hk := hd k rfl
    by_cases hkt : k = t
    · subst hkt
      simp only [if_true]
      simpa [Array.getD_eq_getD_getElem?, Array.getElem?_setIfInBounds, hk] using hv
    · rw [if_neg hkt]
      have := h t
      simpa [Array.getD_eq_getD_getElem?, Array.getElem?_setIfInBounds, hkt] using this
theorem EnvRep.mono {R R' : Ctx} (hle : R.Le R') {e : Env} {tmps : Array Value} (h : EnvRep R e tmps) : EnvRep R' e tmps := fun t => Rep.mono hle _ _ (h t)
theorem put_size (a : Act) (d : Option Nat) (V : Value) : (a.put d V).tmps.size = a.tmps.size := by cases d <;> simp [Act.put]
theorem put_defers (a : Act) (d : Option Nat) (V : Value) : (a.put d V).defers = a.defers := by cases d <;> rfl

def ExOk : SExit → Exit → Prop
  | .normal, .normal => True
  | .exit i, .exit j => i = j
  | .ret, .ret => True
  | _, _ => False

/-- where a piece of code leaves -/
def Post (Z : Addr → Prop) (n : Nat) (w : World) (μ : Mu) (ν : Nu) (rows : List Row) (nt : Nat) (d : List Deferred) (x : SExit) (e' : Env) (σ' : St) : Exit → Act → World → Prop :=
  fun ex a' w' => ExOk x ex ∧ ∃ μ' ν', Grow n w μ ν rows w' μ' ν' σ'.rows ∧ Sim Z w' μ' ν' σ' ∧ EnvRep (ctx Z w' μ' ν' σ'.rows) e' a'.tmps ∧ a'.tmps.size = nt ∧ a'.defers = d

theorem Post.after {n n1 : Nat} {w w1 : World} {μ μ1 : Mu} {ν ν1 : Nu} {rows1 : List Row} {nt : Nat} {d : List Deferred} {x : SExit} {e' : Env} {σ σ' : St} (G : Grow n w μ ν σ.rows w1 μ1 ν1 rows1) (hn : n ≤ n1) (S : Sim Z w μ ν σ)
    {ex : Exit} {a' : Act} {w' : World} (h : Post Z n1 w1 μ1 ν1 rows1 nt d x e' σ' ex a' w') : Post Z n w μ ν σ.rows nt d x e' σ' ex a' w' := by
  obtain ⟨h1, μ', ν', G', S', E', h2, h3⟩ := h
  exact ⟨h1, μ', ν', G.trans G' hn S, S', E', h2, h3⟩

/-- a guard, here and there -/
theorem wanted_ok {R : Ctx} {e : Env} {a : Act} {nt : Nat} {opsA : Array Oper} {o : Oper} {so : SOper} {bef : List Nat} {dsts : List (Option Nat)} (hd : dsts = opsA.toList.map (·.dst)) (hc : compOper P nt dsts o bef = some so) (hE : EnvRep R e a.tmps) (hsz : a.tmps.size = nt)
    (hlt : ∀ t, (∃ j, dsts.getD j none = some t) → t < nt) {b : Bool} (h : wanted so.guard e = some b) : Region.wanted o (yielded opsA a.tmps) = b := by
  unfold compOper at hc
  split at hc
  · cases hc
  · split at hc
    · split at hc
      · rename_i hg
        injection hc with hc; subst hc
        simp only [wanted, Option.some.injEq] at h
        subst h
        unfold Region.wanted
        rw [hg]
      · rename_i j w0 hg
        split at hc
        · rename_i t ht
          injection hc with hc; subst hc
          simp only [wanted] at h
          have hopd : ((opsA[j]?).bind (·.dst)) = some t := by
            rw [hd, List.getD_eq_getElem?_getD, List.getElem?_map] at ht
            rw [← Array.getElem?_toList]
            cases hj : opsA.toList[j]? with
            | none => rw [hj] at ht; simp at ht
            | some q => rw [hj] at ht; simpa using ht
          have htl : t < a.tmps.size := by rw [hsz]; exact hlt t ⟨j, ht⟩
          have hr := hE t
          have hget : a.tmps[t]? = some (a.tmps.getD t undef) := by simp [Array.getD_eq_getD_getElem?, Array.getElem?_eq_getElem htl]
          unfold Region.wanted
          rw [hg]
          simp only [yielded, hopd, Option.bind_some, hget]
          split at h
          · rename_i c he
            rw [he] at hr
            simp only [Rep] at hr
            injection h with h; subst h
            rw [hr]
            simp only
            cases c <;> cases w0 <;> rfl
          · rename_i he
            rw [he] at hr
            simp only [Rep] at hr
            injection h with h; subst h
            rw [hr]
            simp [undef]
          · cases h
        · cases hc
    · cases hc
theorem compOper_parts {nt : Nat} {dsts : List (Option Nat)} {o : Oper} {bef : List Nat} {so : SOper} (hc : compOper P nt dsts o bef = some so) : compOp P o.op = some so.op ∧ so.dst = o.dst ∧ so.bef = bef ∧ ∀ t, o.dst = some t → t < nt := by
  unfold compOper at hc
  split at hc
  · cases hc
  · rename_i s hs
    split at hc
    · rename_i hd
      have hd' : ∀ t, o.dst = some t → t < nt := by
        intro t ht; rw [ht] at hd; simpa [dstLt] using hd
      split at hc
      · injection hc with hc; subst hc; exact ⟨hs, rfl, rfl, hd'⟩
      · split at hc
        · injection hc with hc; subst hc; exact ⟨hs, rfl, rfl, hd'⟩
        · cases hc
    · cases hc
theorem compOpers_get {nt : Nat} {dsts : List (Option Nat)} : ∀ {os : List Oper} {bs : List (List Nat)} {l : List SOper}, compOpers P nt dsts os bs = some l → l.length = os.length ∧ ∀ (j : Nat) (o : Oper), os[j]? = some o → ∃ s b, l[j]? = some s ∧ bs[j]? = some b ∧ compOper P nt dsts o b = some s
  | [], bs, l, h => by simp [compOpers] at h; subst h; simp
  | o :: os, [], l, h => by simp [compOpers] at h
  | o :: os, b :: bs, l, h => by
    simp only [compOpers] at h
    split at h
    · rename_i s l' h1 h2
      injection h with h; subst h
      obtain ⟨q1, q2⟩ := compOpers_get h2
      refine ⟨by simp [q1], ?_⟩
      intro j o' hj
      cases j with
      | zero => simp at hj; subst hj; exact ⟨s, b, rfl, rfl, h1⟩
      | succ j => exact q2 j o' (by simpa using hj)
    · cases h

theorem seq_ok (H : CallOk P r) (L : LenOk r) {fl nt : Nat} {opsA : Array Oper} {dsts : List (Option Nat)} (hd : dsts = opsA.toList.map (·.dst)) (hlt : ∀ t, (∃ j, dsts.getD j none = some t) → t < nt) {Q : Exit → Act → World → Prop} :
    ∀ (os : List Oper) (bs : List (List Nat)) (ls : List SOper) (k i : Nat) (acc : List (Nat × Foot)) (e e' : Env) (σ σ' : St) (a : Act) (w : World) (μ : Mu) (ν : Nu),
    (∀ j, os[j]? = opsA[k + j]?) → compOpers P nt dsts os bs = some ls → ops T r fl false i acc ls e σ = some (e', σ') → Sim Z w μ ν σ → EnvRep (ctx Z w μ ν σ.rows) e a.tmps → a.tmps.size = nt →
    (∀ a' w', Post Z σ.boxes.length w μ ν σ.rows nt a.defers .normal e' σ' .normal a' w' → Q .normal a' w') → wpOps P opsA Q (List.range' k os.length) a w
  | [], bs, ls, k, i, acc, e, e', σ, σ', a, w, μ, ν, hos, hc, h, S, E, hsz, hQ => by
    simp [compOpers] at hc; subst hc
    simp only [ops, Option.some.injEq, Prod.mk.injEq] at h
    obtain ⟨rfl, rfl⟩ := h
    simp only [List.length_nil, List.range'_zero, wpOps]
    exact hQ a w ⟨trivial, μ, ν, Grow.refl _ _ _ _ _, S, E, hsz, rfl⟩
  | o :: os, [], ls, k, i, acc, e, e', σ, σ', a, w, μ, ν, hos, hc, h, S, E, hsz, hQ => by simp [compOpers] at hc
  | o :: os, b :: bs, ls, k, i, acc, e, e', σ, σ', a, w, μ, ν, hos, hc, h, S, E, hsz, hQ => by
    simp only [compOpers] at hc
    split at hc
    · rename_i s ls' hc1 hc2
      injection hc with hc; subst hc
      obtain ⟨p1, p2, p3, p4⟩ := compOper_parts hc1
      have ho : opsA[k]? = some o := by have := hos 0; simpa using this.symm
      have hos' : ∀ j, os[j]? = opsA[k + 1 + j]? := fun j => by have := hos (j + 1); rw [show k + 1 + j = k + (j + 1) from by omega]; simpa using this
      simp only [List.length_cons, List.range'_succ, wpOps, ho]
      simp only [ops] at h
      split at h
      · rename_i hw
        have hw' := wanted_ok hd hc1 E hsz hlt hw
        rw [hw']
        simp only [if_true]
        split at h
        · rename_i v σ1 ha
          simp only [Bool.false_eq_true, if_false] at h
          refine .inl ?_
          refine aop_ok (o := o) H p1 S E ha _ _ ?_
          intro w1 μ1 ν1 V G1 S1 hV
          refine seq_ok H L hd hlt os bs ls' (k + 1) (i + 1) acc _ e' σ1 σ' (a.put o.dst V) w1 μ1 ν1 hos' hc2 h S1 ?_ (by rw [put_size]; exact hsz) ?_
          · rw [p2]
            exact EnvRep.put (EnvRep.mono G1.le E) (fun t ht => by rw [hsz]; exact p4 t ht) hV a rfl
          · intro a' w' hP
            rw [put_defers] at hP
            exact hQ a' w' (hP.after G1 (aop_len L ha) S)
        · cases h
      · rename_i hw
        have hw' := wanted_ok hd hc1 E hsz hlt hw
        rw [hw']
        simp only [Bool.false_eq_true, if_false]
        refine seq_ok H L hd hlt os bs ls' (k + 1) (i + 1) acc _ e' σ σ' (a.put o.dst undef) w μ ν hos' hc2 h S ?_ (by rw [put_size]; exact hsz) ?_
        · rw [p2]
          exact EnvRep.put E (fun t ht => by rw [hsz]; exact p4 t ht) (by simp only [Rep]) a rfl
        · intro a' w' hP
          rw [put_defers] at hP
          exact hQ a' w' hP
      · cases h
    · cases hc
end
end Go.Rb

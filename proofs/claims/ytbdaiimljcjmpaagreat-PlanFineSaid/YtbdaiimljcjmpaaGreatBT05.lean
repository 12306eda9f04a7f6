/- Regions that draw their order: a step is made, and the whole. Regions that draw their order: the whole. Code, calls, and the whole: what the interpreter answers, the model answers. -/
import Derived.Test.YtbdaiimljcjmpaaGreatBT04
namespace Go.Rb
set_option linter.unusedVariables false
set_option linter.unusedSimpArgs false

section
variable {P : Program} {Z : Addr → Prop} {T : Tab} {r : Rec} {fl : Nat} {ls : List SOper} {tr : Nat → Env × St}

theorem compSlice_shape {t : TypeId} {x : Operand} {lo hi mx : Option Operand} {s : SOp} (h : compSlice P t x lo hi mx = some s) : (∃ a b c d e f, s = .slbox a b c d e f) ∨ ∃ a b c d, s = .slc a b c d := by
  unfold compSlice at h
  repeat' split at h
  all_goals
    first
    | (cases h; done)
    | (injection h with h; exact .inl ⟨_, _, _, _, _, _, h.symm⟩)
    | (obtain ⟨_, _, hq⟩ := Option.map_eq_some_iff.1 h; exact .inr ⟨_, _, _, _, hq.symm⟩)
theorem underL_noB {n : Nat} : ∀ {l : List AV}, AV.underL n l = true → l.any AV.isB = false
  | [], _ => rfl
  | x :: l, h => by
    simp only [AV.underL, Bool.and_eq_true] at h
    simp only [List.any_cons, underL_noB h.2, Bool.or_false]
    cases x <;> simp_all [AV.isB, AV.under]
/-- the variable that an operation reads or writes is known -/
theorem foot_mu {o : Op} {s : SOp} {e : Env} {a : Act} {R : Ctx} (hc : compOp P o = some s) (hE : EnvRep R e a.tmps) {id : Nat} (hf : footOf T s e = .rd id ∨ footOf T s e = .wr id) : ∃ b, R.mu id = some b := by
  have key : ∀ {x : Operand} {y : X} {off : Nat}, compX x = some y → y.ev e = .box id off → ∃ b, R.mu id = some b := by
    intro x y off hx hy
    have hp := compX_rep (a := a) hE hx
    rw [hy] at hp
    simp only [Rep] at hp
    obtain ⟨b, hb, _⟩ := hp
    exact ⟨b, hb⟩
  cases s <;> simp only [footOf] at hf <;> first | (rcases hf with hf | hf <;> cases hf; done) | skip
  case load sz g y =>
    have : ∃ off, y.ev e = .box id off := by
      rcases hf with hf | hf <;> (split at hf <;> first | cases hf | skip)
      rename_i he
      exact ⟨_, he⟩
    obtain ⟨off, he⟩ := this
    cases o <;> simp only [compOp] at hc <;> first | (cases hc; done) | skip
    case load t x =>
      split at hc
      · rename_i hx
        injection hc with hc; injection hc with _ _ hc; subst hc
        exact key hx he
      · cases hc
    all_goals
      exfalso
      first
      | (rcases compSlice_shape hc with ⟨_, _, _, _, _, _, hq⟩ | ⟨_, _, _, _, hq⟩ <;> cases hq; done)
      | (obtain ⟨_, _, hq⟩ := Option.map_eq_some_iff.1 hc; cases hq; done)
      | (repeat' split at hc
         all_goals first | (cases hc; done) | (obtain ⟨_, _, hq⟩ := Option.map_eq_some_iff.1 hc; cases hq; done))
  case store sz y v =>
    have : ∃ off, y.ev e = .box id off := by
      rcases hf with hf | hf <;> (split at hf <;> first | cases hf | skip)
      rename_i he
      exact ⟨_, he⟩
    obtain ⟨off, he⟩ := this
    cases o <;> simp only [compOp] at hc <;> first | (cases hc; done) | skip
    case store t x u =>
      split at hc
      · rename_i hx hu
        injection hc with hc; injection hc with _ hc _; subst hc
        exact key hx he
      · cases hc
    all_goals
      exfalso
      first
      | (rcases compSlice_shape hc with ⟨_, _, _, _, _, _, hq⟩ | ⟨_, _, _, _, hq⟩ <;> cases hq; done)
      | (obtain ⟨_, _, hq⟩ := Option.map_eq_some_iff.1 hc; cases hq; done)
      | (repeat' split at hc
         all_goals first | (cases hc; done) | (obtain ⟨_, _, hq⟩ := Option.map_eq_some_iff.1 hc; cases hq; done))
  case call f l =>
    rcases hf with hf | hf <;> (split at hf <;> first | cases hf | (split at hf <;> cases hf))
/-- where a call comes from -/
theorem comp_call {o : Op} {f : X} {l : List X} (hc : compOp P o = some (.call f l)) : ∃ c f0, o = .call c ∧ c.callee = .value f0 ∧ compX f0 = some f ∧ compXs c.args.toList = some l := by
  cases o <;> simp only [compOp] at hc <;> first | (cases hc; done) | skip
  case call c =>
    split at hc
    · rename_i f0 hcal
      split at hc
      · rename_i h1 h2
        injection hc with hc; injection hc with e1 e2; subst e1; subst e2
        exact ⟨c, f0, rfl, hcal, h1, h2⟩
      · cases hc
    all_goals
      exfalso
      first
      | (cases hc; done)
      | (repeat' split at hc
         all_goals first | (cases hc; done) | (obtain ⟨_, _, hq⟩ := Option.map_eq_some_iff.1 hc; cases hq; done))
  all_goals
    exfalso
    first
    | (rcases compSlice_shape hc with ⟨_, _, _, _, _, _, hq⟩ | ⟨_, _, _, _, hq⟩ <;> cases hq; done)
    | (obtain ⟨_, _, hq⟩ := Option.map_eq_some_iff.1 hc; cases hq; done)
    | (repeat' split at hc
       all_goals first | (cases hc; done) | (obtain ⟨_, _, hq⟩ := Option.map_eq_some_iff.1 hc; cases hq; done))

section
variable {w0 : World} {μ0 : Mu} {ν0 : Nu} {nt : Nat} {d : List Deferred} {L : Array Bool} {eS : Env} {σS : St} {μ : Mu} {ν : Nu} {a : Act} {w : World}

theorem dstep (H : CallOk P r) (LL : LenOk r) (Tr : Trace T r fl ls tr) (hN : namesOk ls = true) (S0 : Sim Z w0 μ0 ν0 (tr 0).2) (I : DInv P Z T ls tr w0 μ0 ν0 nt d L eS σS μ ν a w) {opsA : Array Oper} {dsts : List (Option Nat)} (hd : dsts = opsA.toList.map (·.dst))
    (hlt : ∀ t, (∃ j, dsts.getD j none = some t) → t < nt) {j : Nat} {so : SOper} {o : Oper} {bb : List Nat} (hj : ls[j]? = some so) (ho : opsA[j]? = some o) (hc : compOper P nt dsts o bb = some so) (hL : L.getD j false = false) (hr : ∀ i ∈ so.bef, L.getD i false = true)
    {K : Act → World → Prop} {Q : Exit → Act → World → Prop} (hK : ∀ eS' σS' μ' ν' a' w', DInv P Z T ls tr w0 μ0 ν0 nt d (L.setIfInBounds j true) eS' σS' μ' ν' a' w' → K a' w') : wpOp P opsA Q j K a w := by
  have hjl := (List.getElem?_eq_some_iff.1 hj).1
  obtain ⟨p1, p2, p3, p4⟩ := compOper_parts hc
  have hag := I.agree hN hj hL hr
  have hagO : Agree (opNames so.op) eS (tr j).1 := hag.left
  have hagG : Agree (gNames so.guard) eS (tr j).1 := hag.right
  have hwe : wanted so.guard eS = wanted so.guard (tr j).1 := wanted_agree hagG
  have hwant : ∀ b, wanted so.guard (tr j).1 = some b → Region.wanted o (yielded opsA a.tmps) = b := fun b hb => wanted_ok hd hc I.E I.tsz hlt (hwe.trans hb)
  unfold wpOp
  simp only [ho]
  -- what is left of the proof, the operation made
  have fin : ∀ (v : AV), (tr (j + 1)).1 = (tr j).1.put so.dst v → wanted so.guard (tr j).1 = some true → ¬ allocAt ls tr j → ∀ σS', σS'.boxes.length = σS.boxes.length → OpOk P Z o a w μ ν σS v σS' →
      (∀ id k c, k ≤ ls.length → (∀ i, i < ls.length → touch T ls tr i id → ((i = j ∨ L.getD i false = true) ↔ i < k)) → (tr k).2.boxes[id]? = some c → σS'.boxes[id]? = some c) →
      (∀ k, k ≤ ls.length → (∀ i, i < ls.length → footAt T ls tr i = .row → ((i = j ∨ L.getD i false = true) ↔ i < k)) → σS'.rows = (tr k).2.rows) →
      (∀ id, footAt T ls tr j = .wr id → id < (tr 0).2.boxes.length ∨ ∃ i, i < ls.length ∧ L.getD i false = true ∧ allocAt ls tr i ∧ (tr i).2.boxes.length = id) →
      (if Region.wanted o (yielded opsA a.tmps) = true then o.wp P a w K Q ∨ (o.asks P a w ∧ LetsOut Q) else K (a.put o.dst undef) w) := by
    intro v hv hw hna σS' hlen hok hbox hrows hhist
    rw [hwant true hw, if_pos rfl]
    refine .inl (hok K Q ?_)
    intro w' μ' ν' V G S' hV
    have hN0 : (tr 0).2.boxes.length ≤ σS.boxes.length := by rw [I.len]; exact boxes_le Tr LL (Nat.zero_le _) (Nat.le_refl _)
    refine hK _ σS' μ' ν' _ w' (I.next Tr hN (S0 := S0) hj hL hr p2 p4 hv hlen hbox hrows ?_ hhist (Grow.weak hN0 G) S' hV)
    intro id b hi
    rcases G.mun id b hi with q | ⟨q, _⟩
    · exact .inl q
    · have := S'.dom hi; omega
  cases Tr.kind hj with
  | skip hw he =>
    rw [hwant false hw]
    simp only [Bool.false_eq_true, if_false]
    have hna : ¬ allocAt ls tr j := fun q => by have := ((allocAt_iff hj).1 q).1; rw [hw] at this; cases this
    have hf := footAt_skip (T := T) hj hw
    obtain ⟨h1, h2⟩ := I.same hna (fun id => by rw [hf]; exact fun q => by cases q) (by rw [hf]; exact fun q => by cases q)
    exact hK _ σS μ ν _ w (I.next Tr hN (S0 := S0) hj hL hr p2 p4 (by rw [he]) rfl h1 h2 (fun id b hi => .inl hi) (fun id q => by rw [hf] at q; cases q) (Grow.refl _ _ _ _ _) I.S (by simp only [Rep]))
  | alloc hw ha he hs =>
    rw [hwant true hw, if_pos rfl]
    have haj : allocAt ls tr j := (allocAt_iff hj).2 ⟨hw, ha⟩
    -- its place was kept
    have hμ : μ (tr j).2.boxes.length = none := by
      cases hm : μ (tr j).2.boxes.length with
      | none => rfl
      | some b =>
        rcases I.dom _ b hm with q | ⟨i, h1, h2, h3, h4⟩
        · have := boxes_le Tr LL (Nat.zero_le j) (by omega : j ≤ ls.length); omega
        · exfalso
          have strict : ∀ {x y : Nat}, x < ls.length → y < ls.length → allocAt ls tr x → x < y → (tr x).2.boxes.length < (tr y).2.boxes.length := by
            intro x y hx hy hax hxy
            have hox : ls[x]? = some ls[x] := List.getElem?_eq_getElem hx
            obtain ⟨hw', hal⟩ := (allocAt_iff hox).1 hax
            have h5 : (tr (x + 1)).2.boxes.length = (tr x).2.boxes.length + 1 := by
              cases Tr.kind hox with
              | skip hw'' _ => rw [hw'] at hw''; cases hw''
              | alloc _ _ _ hs => rw [hs]; simp
              | other v _ hal' _ _ _ => rw [hal] at hal'; cases hal'
            have h6 := boxes_le Tr LL (show x + 1 ≤ y by omega) (by omega : y ≤ ls.length)
            omega
          rcases Nat.lt_trichotomy i j with q | q | q
          · have := strict h1 hjl h3 q; omega
          · subst q; rw [hL] at h2; cases h2
          · have := strict hjl h1 haj q; omega
    have hnext : (tr (j + 1)).2.boxes.length = (tr j).2.boxes.length + 1 := by rw [hs]; simp
    have hid : (tr j).2.boxes.length < σS.boxes.length := by
      have := boxes_le Tr LL (show j + 1 ≤ ls.length by omega) (Nat.le_refl _)
      rw [I.len]; omega
    have hm0 : (tr 0).2.boxes.length ≤ (tr j).2.boxes.length := boxes_le Tr LL (Nat.zero_le j) (by omega)
    have hmade : made so.op eS = made so.op (tr j).1 := by
      cases hso : so.op <;> simp only [made]
      case box x => exact ev_agree (by rw [hso] at hagO; exact hagO)
    have hf := (footAt_of (T := T) hj hw)
    -- the value that is made, here
    have hval : ∃ (t : TypeId) (V : Value), Rep (ctx Z w μ ν σS.rows) (made so.op (tr j).1) V ∧ (made so.op (tr j).1).okv = true ∧ (execOp a.eval o).run P w = .ok (.value (.pointer (some ⟨w.heap.size, 0, none⟩))) (w.alloc (.cells V.cells t)) := by
      have hstep := Tr.step j so hj
      rw [← hmade]
      cases hso : so.op <;> rw [hso] at ha <;> simp [isAlloc] at ha
      case alloc z =>
        rw [hso] at p1
        cases hop : o.op <;> rw [hop] at p1 <;> simp only [compOp] at p1 <;> first | (cases p1; done) | skip
        case alloc e =>
          split at p1
          · rename_i pp z0 hsz hz
            obtain ⟨c, hcv, hce⟩ := Option.map_eq_some_iff.1 p1
            injection hce with hce; subst hce
            have hv := valueAV_rep hcv (ctx Z w μ ν σS.rows)
            refine ⟨e, z0, hv.1, hv.2, ?_⟩
            cases hi : P.info? e with
            | none => simp [hi] at hz
            | some i =>
              have hz' : i.zero = some z0 := by simpa [hi] using hz
              simp [execOp, hop, Instr.alloc, zeroValue, typeInfo, hi, hz', newVar, newRow, Sem.run_bind]
          · cases p1
        all_goals
          exfalso
          first
          | (rcases compSlice_shape p1 with ⟨_, _, _, _, _, _, hq⟩ | ⟨_, _, _, _, hq⟩ <;> cases hq; done)
          | (obtain ⟨_, _, hq⟩ := Option.map_eq_some_iff.1 p1; cases hq; done)
          | (repeat' split at p1
             all_goals first | (cases p1; done) | (obtain ⟨_, _, hq⟩ := Option.map_eq_some_iff.1 p1; cases hq; done))
      case box y =>
        rw [hso] at p1
        have hok : (y.ev eS).okv = true := by
          rcases hstep with ⟨_, v, hav, _⟩ | ⟨hw', _⟩
          · rw [hso] at hav
            simp only [aop] at hav
            split at hav
            · rename_i q
              have : y.ev eS = y.ev (tr j).1 := ev_agree (by rw [hso] at hagO; exact hagO)
              rw [this]; exact q
            · cases hav
          · rw [hw] at hw'; cases hw'
        cases hop : o.op <;> rw [hop] at p1 <;> simp only [compOp] at p1 <;> first | (cases p1; done) | skip
        case box e x =>
          obtain ⟨c, hx, hce⟩ := Option.map_eq_some_iff.1 p1
          injection hce with hce; subst hce
          refine ⟨e, a.eval x, compX_rep I.E hx, hok, ?_⟩
          simp [execOp, hop, Instr.box, newVar, newRow, Sem.run_bind]
        all_goals
          exfalso
          first
          | (rcases compSlice_shape p1 with ⟨_, _, _, _, _, _, hq⟩ | ⟨_, _, _, _, hq⟩ <;> cases hq; done)
          | (obtain ⟨_, _, hq⟩ := Option.map_eq_some_iff.1 p1; cases hq; done)
          | (repeat' split at p1
             all_goals first | (cases p1; done) | (obtain ⟨_, _, hq⟩ := Option.map_eq_some_iff.1 p1; cases hq; done))
    obtain ⟨t, V, hV, hok, hrun⟩ := hval
    obtain ⟨G, S'⟩ := sim_put I.S hV hok t hμ hid hm0
    refine .inl ?_
    unfold Oper.wp
    rw [hrun]
    have hnf : footAt T ls tr j = .no := by
      rcases Tr.step j so hj with ⟨_, v, hav, _⟩ | ⟨hw', _⟩
      · rw [hf]; exact (eff_alloc ha hav).2.2.1
      · rw [hw] at hw'; cases hw'
    refine hK _ { σS with boxes := σS.boxes.set (tr j).2.boxes.length (made so.op (tr j).1) } (upd μ (tr j).2.boxes.length w.heap.size) ν _ _ (I.next Tr hN (S0 := S0) hj hL hr p2 p4 he (by simp) ?_ ?_ ?_ (fun id q => by rw [hnf] at q; cases q) G S' ?_)
    · intro id k c hk hcond hck
      by_cases hidj : id = (tr j).2.boxes.length
      · subst hidj
        have hjk : j < k := (hcond j hjl (.inr ⟨haj, rfl⟩)).1 (.inl rfl)
        have e1 : (tr (j + 1)).2.boxes[(tr j).2.boxes.length]? = some (made so.op (tr j).1) := by rw [hs]; simp
        rw [range_boxes Tr _ (show j + 1 ≤ k from hjk) hk ?_, e1] at hck
        · simp only
          rw [List.getElem?_set_self hid]; exact hck
        · intro i h1 h2 ht
          have hil : i < ls.length := by omega
          have hLi := (hcond i hil ht).2 h2
          rcases hLi with q | q
          · omega
          · rcases ht with ht | ⟨hai, hlen⟩
            · rcases I.hist i _ hil q ht with q2 | ⟨i', g1, g2, g3, g4⟩
              · omega
              · -- the one that made it would be j
                have hox : ls[i']? = some ls[i'] := List.getElem?_eq_getElem g1
                rcases Nat.lt_trichotomy i' j with y | y | y
                · have h5 : (tr (i' + 1)).2.boxes.length = (tr i').2.boxes.length + 1 := by
                    obtain ⟨hw', hal⟩ := (allocAt_iff hox).1 g3
                    cases Tr.kind hox with
                    | skip hw'' _ => rw [hw'] at hw''; cases hw''
                    | alloc _ _ _ hs => rw [hs]; simp
                    | other v _ hal' _ _ _ => rw [hal] at hal'; cases hal'
                  have h6 := boxes_le Tr LL (show i' + 1 ≤ j by omega) (by omega : j ≤ ls.length)
                  omega
                · subst y; rw [hL] at g2; cases g2
                · have h6 := boxes_le Tr LL (show j + 1 ≤ i' by omega) (by omega : i' ≤ ls.length)
                  omega
            · have h6 := boxes_le Tr LL (show j + 1 ≤ i from h1) (by omega : i ≤ ls.length)
              omega
      · simp only
        rw [List.getElem?_set_ne (Ne.symm hidj)]
        refine I.box id k c hk (fun i hi ht => ?_) hck
        rw [← hcond i hi ht]
        constructor
        · exact .inr
        · rintro (rfl | q)
          · rcases ht with ht | ⟨_, ht⟩
            · rw [hnf] at ht; cases ht
            · exact absurd ht.symm hidj
          · exact q
    · intro k hk hcond
      refine I.rows k hk fun i hi ht => ?_
      rw [← hcond i hi ht]
      constructor
      · exact .inr
      · rintro (rfl | q)
        · rw [hnf] at ht; cases ht
        · exact q
    · intro id b hi
      unfold upd at hi
      split at hi
      · rename_i q; exact .inr ⟨haj, q.symm⟩
      · exact .inl hi
    · simp only [Rep]
      exact ⟨w.heap.size, by simp [ctx, upd], rfl⟩
  | other v hw ha h he hq =>
    have hna : ¬ allocAt ls tr j := fun q => by have := ((allocAt_iff hj).1 q).2; rw [ha] at this; cases this
    have hf := footAt_of (T := T) hj hw
    have hagA : ∀ σ2, aop T r fl so.op eS σ2 = aop T r fl so.op (tr j).1 σ2 := fun σ2 => aop_agree hagO
    have hfoot : footOf T so.op eS = footOf T so.op (tr j).1 := foot_agree hagO
    cases hff : footOf T so.op (tr j).1 with
    | no =>
      obtain ⟨_, hp⟩ := eff_pure ha hff h
      obtain ⟨h1, h2⟩ := I.same hna (fun id => by rw [hf, hff]; exact fun q => by cases q) (by rw [hf, hff]; exact fun q => by cases q)
      exact fin v he hw hna σS rfl (aop_ok H p1 I.S I.E (by rw [hagA]; exact hp σS)) h1 h2 (fun id q => by rw [hf, hff] at q; cases q)
    | rd id =>
      obtain ⟨_, _, hp⟩ := eff_rd hff h
      obtain ⟨b, hb⟩ := foot_mu (T := T) p1 I.E (.inl (hfoot.trans hff))
      obtain ⟨h1, h2⟩ := I.same hna (fun id => by rw [hf, hff]; exact fun q => by cases q) (by rw [hf, hff]; exact fun q => by cases q)
      have hex : ∃ c, (tr j).2.boxes[id]? = some c := by
        cases hcb : (tr j).2.boxes[id]? with
        | some c => exact ⟨c, rfl⟩
        | none =>
          exfalso
          have := hp ⟨[], (tr j).2.rows⟩ (by rw [hcb]; simp)
          cases hso : so.op <;> rw [hso] at hff this <;> simp only [footOf] at hff <;> first | (cases hff; done) | skip
          case load sz g x =>
            split at hff
            · rename_i id' off hx
              simp only [aop, hx, St.load] at this
              simp at this
            · cases hff
          case store sz x u => split at hff <;> cases hff
          case call f l => split at hff <;> first | cases hff | (split at hff <;> cases hff)
      obtain ⟨c, hcj⟩ := hex
      have hbx := I.boxAt Tr LL hj hL hr hb hcj (by rw [hf, hff]; simp [Foot.conf])
      exact fin v he hw hna σS rfl (aop_ok H p1 I.S I.E (by rw [hagA]; exact hp σS (by rw [hbx, hcj]))) h1 h2 (fun id' q => by rw [hf, hff] at q; cases q)
    | wr id =>
      obtain ⟨_, c', hidl, hσ, hp⟩ := eff_wr hff h
      obtain ⟨b, hb⟩ := foot_mu (T := T) p1 I.E (.inr (hfoot.trans hff))
      have hcj : (tr j).2.boxes[id]? = some (tr j).2.boxes[id] := List.getElem?_eq_getElem hidl
      have hbx := I.boxAt Tr LL hj hL hr hb hcj (by rw [hf, hff]; simp [Foot.conf])
      have hidS : id < σS.boxes.length := (List.getElem?_eq_some_iff.1 hbx).1
      refine fin v he hw hna { σS with boxes := σS.boxes.set id c' } (by simp) (aop_ok H p1 I.S I.E (by rw [hagA]; exact hp σS (by rw [hbx, hcj]))) ?_ ?_ ?_
      · intro id' k c hk hcond hck
        by_cases hidj : id' = id
        · subst hidj
          have hjk : j < k := (hcond j hjl (.inl (by rw [hf, hff]))).1 (.inl rfl)
          have e1 : (tr (j + 1)).2.boxes[id']? = some c' := by rw [hσ]; simp [hidl]
          rw [range_boxes Tr _ (show j + 1 ≤ k from hjk) hk ?_, e1] at hck
          · simp only
            rw [List.getElem?_set_self hidS]; exact hck
          · intro i h1 h2 ht
            have hil : i < ls.length := by omega
            have hi' : ls[i]? = some ls[i] := List.getElem?_eq_getElem hil
            rcases (hcond i hil ht).2 h2 with q | q
            · omega
            · rcases ht with ht | ⟨_, hlen⟩
              · have := Tr.conf j i _ (by omega) hi' (by rw [ht, hf, hff]; simp [Foot.conf])
                have := I.cl i _ hi' q j this
                rw [hL] at this; cases this
              · have h6 := boxes_le Tr LL (show j ≤ i by omega) (by omega : i ≤ ls.length)
                omega
        · simp only
          rw [List.getElem?_set_ne (Ne.symm hidj)]
          refine I.box id' k c hk (fun i hi ht => ?_) hck
          rw [← hcond i hi ht]
          constructor
          · exact .inr
          · rintro (rfl | q)
            · rcases ht with ht | ⟨ht, _⟩
              · rw [hf, hff] at ht; injection ht with ht; exact absurd ht.symm hidj
              · exact absurd ht hna
            · exact q
      · intro k hk hcond
        refine I.rows k hk fun i hi ht => ?_
        rw [← hcond i hi ht]
        constructor
        · exact .inr
        · rintro (rfl | q)
          · rw [hf, hff] at ht; cases ht
          · exact q
      · intro id' q
        rw [hf, hff] at q; injection q with q; subst q
        exact I.dom id b hb
    | row =>
      obtain ⟨_, hsame, hp⟩ := eff_row hff h
      have hrow := I.rowsAt Tr hj hL hr (by rw [hf, hff]; simp [Foot.conf])
      refine fin v he hw hna { σS with rows := (tr (j + 1)).2.rows } rfl (aop_ok H p1 I.S I.E (by rw [hagA]; exact hp σS hrow)) ?_ ?_ (fun id q => by rw [hf, hff] at q; cases q)
      · intro id k c hk hcond hck
        refine I.box id k c hk (fun i hi ht => ?_) hck
        rw [← hcond i hi ht]
        constructor
        · exact .inr
        · rintro (rfl | q)
          · rcases ht with ht | ⟨ht, _⟩
            · rw [hf, hff] at ht; cases ht
            · exact absurd ht hna
          · exact q
      · intro k hk hcond
        have hjk : j < k := (hcond j hjl (by rw [hf, hff])).1 (.inl rfl)
        simp only
        refine (range_rows Tr (show j + 1 ≤ k from hjk) hk ?_).symm
        intro i h1 h2 ht
        have hil : i < ls.length := by omega
        have hi' : ls[i]? = some ls[i] := List.getElem?_eq_getElem hil
        rcases (hcond i hil ht).2 h2 with q | q
        · omega
        · have := Tr.conf j i _ (by omega) hi' (by rw [ht, hf, hff]; simp [Foot.conf])
          have := I.cl i _ hi' q j this
          rw [hL] at this; cases this
    | all =>
      have hff' : footAt T ls tr j = .all := by rw [hf, hff]
      rw [hff] at hq
      obtain ⟨g, l, gg, args, hso, hcal, hσ, hu, hub⟩ := quiet_all hq
      obtain ⟨h1, h2⟩ := I.same hna (fun id => by rw [hf, hff]; exact fun q => by cases q) (by rw [hf, hff]; exact fun q => by cases q)
      have hrow := I.rowsAt Tr hj hL hr (by rw [hf, hff]; simp [Foot.conf])
      rw [hso] at p1 h hff hagO
      obtain ⟨c, f0, hop, hcl, hf0, hl0⟩ := comp_call p1
      have hcal' : callee (g.ev eS) (l.map (·.ev eS)) = some (gg, args) := by
        rw [ev_agree (show Agree (xNames g) eS (tr j).1 from fun t ht => hagO t (List.mem_append_left _ ht)), evs_agree (show Agree (l.flatMap xNames) eS (tr j).1 from fun t ht => hagO t (List.mem_append_right _ ht))]
        exact hcal
      simp only [aop, hcal] at h
      have hjN : (tr j).2.boxes.length ≤ σS.boxes.length := by rw [I.len]; exact boxes_le Tr LL (by omega) (Nat.le_refl _)
      have himp : T.imp gg = true := by
        simp only [footOf, hcal, underL_noB hu, Bool.or_false] at hff
        split at hff
        · assumption
        · cases hff
      rw [if_pos himp, ← hσ] at h
      refine fin v he hw hna σS rfl (ok_quiet H hop hcl hf0 hl0 I.S I.E hcal' h hrow ?_ hu hub hjN) h1 h2 (fun id q => by rw [hff'] at q; cases q)
      intro id b hb hidl
      have hcj : (tr j).2.boxes[id]? = some (tr j).2.boxes[id] := List.getElem?_eq_getElem hidl
      rw [I.boxAt Tr LL hj hL hr hb hcj (by rw [hff']; simp [Foot.conf]), hcj]
end
end
end Go.Rb

namespace Go.Rb
set_option linter.unusedVariables false
set_option linter.unusedSimpArgs false

/-! ### what comes before -/
theorem fold_mem (A : List (List Nat)) : ∀ (l : List Edge) (s : List Nat) (i : Nat), i ∈ l.foldl (fun s e => if Region.binds .any e then (s ++ e.on :: (A.getD e.on [])) else s) s → i ∈ s ∨ ∃ e ∈ l, Region.binds .any e = true ∧ (i = e.on ∨ i ∈ A.getD e.on [])
  | [], s, i, h => .inl h
  | e :: l, s, i, h => by
    simp only [List.foldl_cons] at h
    rcases fold_mem A l _ i h with q | ⟨e', h1, h2, h3⟩
    · split at q
      · rename_i hb
        rcases List.mem_append.1 q with q | q
        · exact .inl q
        · rcases List.mem_cons.1 q with q | q
          · exact .inr ⟨e, by simp, hb, .inl q⟩
          · exact .inr ⟨e, by simp, hb, .inr q⟩
      · exact .inl q
    · exact .inr ⟨e', by simp [h1], h2, h3⟩
theorem befores_prefix : ∀ (es : List (Array Edge)) (acc : List (List Nat)), ∃ rest, befores es acc = acc.reverse ++ rest ∧ rest.length = es.length
  | [], acc => ⟨[], by simp [befores], rfl⟩
  | a :: es, acc => by
    obtain ⟨rest, h1, h2⟩ := befores_prefix es ((a.toList.foldl (fun s e => if Region.binds .any e then (s ++ e.on :: (acc.reverse.getD e.on [])) else s) []).eraseDups :: acc)
    refine ⟨_ :: rest, by simp only [befores]; rw [h1]; simp; rfl, by simp [h2]⟩
theorem befores_spec : ∀ (es : List (Array Edge)) (acc : List (List Nat)) (k : Nat) (a : Array Edge) (b : List Nat), es[k]? = some a → (befores es acc)[acc.length + k]? = some b → ∀ i ∈ b,
    ∃ e ∈ a.toList, Region.binds .any e = true ∧ (i = e.on ∨ ∃ b', (befores es acc)[e.on]? = some b' ∧ i ∈ b')
  | [], acc, k, a, b, ha, hb, i, hi => by simp at ha
  | x :: es, acc, 0, a, b, ha, hb, i, hi => by
    simp at ha; subst ha
    simp only [befores] at hb ⊢
    obtain ⟨rest, h1, h2⟩ := befores_prefix es ((x.toList.foldl (fun s e => if Region.binds .any e then (s ++ e.on :: (acc.reverse.getD e.on [])) else s) []).eraseDups :: acc)
    rw [h1] at hb ⊢
    have hb' : b = (x.toList.foldl (fun s e => if Region.binds .any e then (s ++ e.on :: (acc.reverse.getD e.on [])) else s) []).eraseDups := by
      simp only [List.reverse_cons, List.append_assoc, Nat.add_zero] at hb
      rw [List.getElem?_append_right (by simp)] at hb
      simpa using hb.symm
    rw [hb', List.mem_eraseDups] at hi
    rcases fold_mem acc.reverse x.toList [] i hi with q | ⟨e, g1, g2, g3⟩
    · simp at q
    · refine ⟨e, g1, g2, ?_⟩
      rcases g3 with q | q
      · exact .inl q
      · refine .inr ?_
        rw [List.getD_eq_getElem?_getD] at q
        cases hg : acc.reverse[e.on]? with
        | none => rw [hg] at q; simp at q
        | some b' =>
          rw [hg] at q
          refine ⟨b', ?_, by simpa using q⟩
          have hl := (List.getElem?_eq_some_iff.1 hg).1
          simp only [List.reverse_cons, List.append_assoc]
          rw [List.getElem?_append_left hl]; exact hg
  | x :: es, acc, k + 1, a, b, ha, hb, i, hi => by
    simp only [befores] at hb ⊢
    refine befores_spec es _ k a b (by simpa using ha) ?_ i hi
    rw [show (List.length (_ :: acc) + k) = acc.length + (k + 1) from by simp; omega]
    exact hb
theorem edgesOk_spec : ∀ (os : List Oper) (k j : Nat) (o : Oper), edgesOk k os = true → os[j]? = some o → ∀ e ∈ o.after.toList, Region.binds .any e = true → e.on < k + j
  | [], k, j, o, h, hj => by simp at hj
  | x :: os, k, 0, o, h, hj => by
    simp at hj; subst hj
    simp only [edgesOk, Bool.and_eq_true] at h
    intro e he hb
    have := List.all_eq_true.1 h.1 e he
    simp only [hb, Bool.not_true, Bool.false_or, decide_eq_true_eq] at this
    simpa using this
  | x :: os, k, j + 1, o, h, hj => by
    simp only [edgesOk, Bool.and_eq_true] at h
    intro e he hb
    have := edgesOk_spec os (k + 1) j o h.2 (by simpa using hj) e he hb
    omega

/-! ### how many are left -/
def left (L : Array Bool) (n : Nat) : Nat := ((List.range n).filter fun i => !L.getD i false).length
theorem filter_lt {α : Type} {p q : α → Bool} : ∀ {l : List α}, (∀ x ∈ l, q x = true → p x = true) → (∃ y ∈ l, p y = true ∧ q y = false) → (l.filter q).length < (l.filter p).length
  | [], _, ⟨y, hy, _⟩ => by simp at hy
  | x :: l, h, ⟨y, hy, h1, h2⟩ => by
    have hle : (l.filter q).length ≤ (l.filter p).length := by
      clear hy h1 h2
      have h' : ∀ x ∈ l, q x = true → p x = true := fun x hx => h x (by simp [hx])
      clear h
      induction l with
      | nil => simp
      | cons z l ih =>
        have ih := ih fun x hx => h' x (by simp [hx])
        by_cases hq : q z = true
        · simp [List.filter_cons, hq, h' z (by simp) hq, ih]
        · by_cases hp : p z = true
          · simp [List.filter_cons, hq, hp]; omega
          · simp [List.filter_cons, hq, hp, ih]
    rcases List.mem_cons.1 hy with rfl | hy
    · simp [List.filter_cons, h1, h2]; omega
    · have ih := filter_lt (l := l) (fun x hx => h x (by simp [hx])) ⟨y, hy, h1, h2⟩
      by_cases hq : q x = true
      · simp [List.filter_cons, hq, h x (by simp) hq, ih]
      · by_cases hp : p x = true
        · simp [List.filter_cons, hq, hp]; omega
        · simp [List.filter_cons, hq, hp, ih]

section
variable {P : Program} {Z : Addr → Prop} {T : Tab} {r : Rec} {fl : Nat}

theorem draw_ok (H : CallOk P r) (LL : LenOk r) (hm : P.follows .mixedOrders = true) {nt id : Nat} {opsA : Array Oper} {ls : List SOper} {dsts : List (Option Nat)} (hd : dsts = opsA.toList.map (·.dst)) (hlt : ∀ t, (∃ j, dsts.getD j none = some t) → t < nt)
    (hc : compOpers P nt dsts opsA.toList (befores (opsA.toList.map (·.after)) []) = some ls) (hE : edgesOk 0 opsA.toList = true) (hN : namesOk ls = true) {e e' : Env} {σ σ' : St} (h : ops T r fl true 0 [] ls e σ = some (e', σ'))
    {a : Act} {w : World} {μ : Mu} {ν : Nu} (S : Sim Z w μ ν σ) (E : EnvRep (ctx Z w μ ν σ.rows) e a.tmps) (hsz : a.tmps.size = nt) :
    (Code.region id opsA true).wp P (Post Z σ.boxes.length w μ ν σ.rows nt a.defers .normal e' σ') a w := by
  obtain ⟨tr, h0, h1, h2, h3, _⟩ := trace_of ls 0 [] e e' σ σ' h
  have Tr : Trace T r fl ls tr := ⟨h2, fun i j o q1 q2 q3 => by have := h3 i j o q1 q2 q3; simpa using this⟩
  obtain ⟨hlen, hget⟩ := compOpers_get hc
  have hn : ls.length = opsA.size := by rw [hlen]; simp
  refine wp_region_any hm ?_
  obtain ⟨G1, S1⟩ := S.keep (w' := { w with drawn := w.drawn + 1 }) σ.boxes.length rfl rfl rfl (Nat.le_refl _) (fun b _ => rfl)
  have hb0 : (tr 0).2 = σ := by rw [h0]
  have S0 : Sim Z { w with drawn := w.drawn + 1 } μ ν (tr 0).2 := by rw [hb0]; exact S1
  -- each operation that is ready has all ahead of it done
  have hready : ∀ (L : Array Bool) (j : Nat) (so : SOper), (∀ k ok, ls[k]? = some ok → L.getD k false = true → ∀ i ∈ ok.bef, L.getD i false = true) → ls[j]? = some so → (∀ o, opsA[j]? = some o → ∀ ed ∈ o.after.toList, Region.binds .any ed = true → L.getD ed.on false = true) →
      ∀ i ∈ so.bef, L.getD i false = true := by
    intro L j so hcl hj hed i hi
    have hjl := (List.getElem?_eq_some_iff.1 hj).1
    have ho : opsA.toList[j]? = some opsA.toList[j] := List.getElem?_eq_getElem (by simpa [← hn] using hjl)
    obtain ⟨s, b, g1, g2, g3⟩ := hget j _ ho
    rw [hj] at g1; injection g1 with g1; subst g1
    obtain ⟨_, _, hbef, _⟩ := compOper_parts g3
    rw [hbef] at hi
    obtain ⟨ed, q1, q2, q3⟩ := befores_spec (opsA.toList.map (·.after)) [] j opsA.toList[j].after b (by rw [List.getElem?_map, ho]; rfl) (by simpa using g2) i hi
    have hon := hed opsA.toList[j] (by simp) ed q1 q2
    rcases q3 with rfl | ⟨b', q4, q5⟩
    · exact hon
    · have hel : ed.on < ls.length := by
        have := (List.getElem?_eq_some_iff.1 q4).1
        obtain ⟨rest, r1, r2⟩ := befores_prefix (opsA.toList.map (·.after)) []
        rw [r1] at this
        simp [r2] at this
        rw [hn]; exact this
      have hoe : opsA.toList[ed.on]? = some (opsA.toList[ed.on]'(by simpa [← hn] using hel)) := List.getElem?_eq_getElem _
      obtain ⟨s', b'', g1', g2', g3'⟩ := hget ed.on _ hoe
      obtain ⟨_, _, hbef', _⟩ := compOper_parts g3'
      rw [q4] at g2'; injection g2' with g2'; subst g2'
      exact hcl ed.on s' g1' hon i (by rw [hbef']; exact q5)
  have main : ∀ (fuel : Nat) (L : Array Bool) (eS : Env) (σS : St) (μ' : Mu) (ν' : Nu) (a' : Act) (w' : World), DInv P Z T ls tr { w with drawn := w.drawn + 1 } μ ν nt a.defers L eS σS μ' ν' a' w' → left L ls.length ≤ fuel →
      wpAny P .any opsA (Post Z σ.boxes.length w μ ν σ.rows nt a.defers .normal e' σ') fuel L a' w' := by
    have hall : ∀ (L : Array Bool), L.size = ls.length → Region.ready .any opsA L = [] → ∀ i, i < ls.length → L.getD i false = true := by
      intro L hLs hr i
      induction i using Nat.strongRecOn with
      | _ i ih =>
        intro hi
        cases hL : L.getD i false with
        | true => rfl
        | false =>
          exfalso
          have ho : opsA[i]? = some (opsA[i]'(by omega)) := Array.getElem?_eq_getElem _
          have hmem : i ∈ Region.ready .any opsA L := by
            unfold Region.ready
            refine List.mem_filter.2 ⟨List.mem_range.2 (by omega), ?_⟩
            have hLt : L.getD i true = false := by
              have hq : L.getD i false = L[i]'(by omega) := by simp [Array.getD, hLs, hi]
              have hq' : L.getD i true = L[i]'(by omega) := by simp [Array.getD, hLs, hi]
              rw [hq'] ; rw [hq] at hL; exact hL
            rw [hLt, ho]
            simp only [Bool.not_false, Option.map_some, Option.getD_some, Bool.true_and]
            rw [← Array.all_toList]
            refine List.all_eq_true.2 fun ed hed => ?_
            by_cases hb : Region.binds .any ed = true
            · have hon := edgesOk_spec opsA.toList 0 i (opsA[i]'(by omega)) hE (by simp) ed hed hb
              rw [ih ed.on (by omega) (by omega)]; simp
            · simp [hb]
          rw [hr] at hmem; simp at hmem
    have hfin : ∀ (L : Array Bool) (eS : Env) (σS : St) (μ' : Mu) (ν' : Nu) (a' : Act) (w' : World), DInv P Z T ls tr { w with drawn := w.drawn + 1 } μ ν nt a.defers L eS σS μ' ν' a' w' → Region.ready .any opsA L = [] →
        Post Z σ.boxes.length w μ ν σ.rows nt a.defers .normal e' σ' .normal a' w' := by
      intro L eS σS μ' ν' a' w' I hr
      have hL := hall L I.size hr
      have hiff : ∀ i, i < ls.length → (L.getD i false = true ↔ i < ls.length) := fun i hi => ⟨fun _ => hi, fun _ => hL i hi⟩
      have hσ : σS = σ' := by
        have hσ' : (tr ls.length).2 = σ' := by rw [h1]
        have hb : σS.boxes = σ'.boxes := by
          rw [← hσ']
          apply List.ext_getElem?
          intro k
          cases hk : (tr ls.length).2.boxes[k]? with
          | some c => exact I.box k ls.length c (Nat.le_refl _) (fun i hi _ => hiff i hi) hk
          | none =>
            rw [List.getElem?_eq_none_iff] at hk ⊢
            rw [I.len]; exact hk
        have hr2 : σS.rows = σ'.rows := by rw [← hσ']; exact I.rows ls.length (Nat.le_refl _) fun i hi _ => hiff i hi
        cases σS; cases σ'
        simp only at hb hr2
        rw [hb, hr2]
      subst hσ
      refine ⟨trivial, μ', ν', ?_, I.S, ?_, I.tsz, I.dfr⟩
      · have := I.G
        rw [hb0] at this
        exact G1.trans this (Nat.le_refl _) S
      · intro t
        have : e'.get t = eS.get t := by
          have := I.env t ls.length (Nat.le_refl _) fun i hi _ => hiff i hi
          rw [this, h1]
        rw [this]; exact I.E t
    intro fuel
    induction fuel with
    | zero =>
      intro L eS σS μ' ν' a' w' I hle
      have hr : Region.ready .any opsA L = [] := by
        apply List.eq_nil_iff_forall_not_mem.2
        intro i hi
        unfold Region.ready at hi
        obtain ⟨q1, q2⟩ := List.mem_filter.1 hi
        have hil := List.mem_range.1 q1
        simp only [Bool.and_eq_true, Bool.not_eq_true'] at q2
        have hLf : L.getD i false = false := by
          have hs : i < L.size := by rw [I.size, hn]; exact hil
          have := q2.1
          simp [Array.getD, hs] at this ⊢
          exact this
        have : i ∈ (List.range ls.length).filter fun i => !L.getD i false := List.mem_filter.2 ⟨List.mem_range.2 (by rw [hn]; exact hil), by rw [hLf]; rfl⟩
        have := List.length_pos_of_mem this
        unfold left at hle
        omega
      exact ⟨hr, hfin L eS σS μ' ν' a' w' I hr⟩
    | succ fuel ih =>
      intro L eS σS μ' ν' a' w' I hle
      refine ⟨fun hr => hfin L eS σS μ' ν' a' w' I hr, ?_⟩
      intro j hj
      unfold Region.ready at hj
      obtain ⟨q1, q2⟩ := List.mem_filter.1 hj
      have hjl0 := List.mem_range.1 q1
      have hjl : j < ls.length := by rw [hn]; exact hjl0
      simp only [Bool.and_eq_true, Bool.not_eq_true'] at q2
      have hLf : L.getD j false = false := by
        have hs : j < L.size := by rw [I.size]; exact hjl
        have := q2.1
        simp [Array.getD, hs] at this ⊢
        exact this
      have ho : opsA[j]? = some (opsA[j]'hjl0) := Array.getElem?_eq_getElem _
      have hoL : opsA.toList[j]? = some (opsA[j]'hjl0) := by rw [Array.getElem?_toList]; exact ho
      obtain ⟨so, b, g1, g2, g3⟩ := hget j _ hoL
      have hed : ∀ o, opsA[j]? = some o → ∀ ed ∈ o.after.toList, Region.binds .any ed = true → L.getD ed.on false = true := by
        intro o ho' ed hed hb
        have := q2.2
        rw [ho'] at this
        simp only [Option.map_some, Option.getD_some] at this
        rw [← Array.all_toList] at this
        have := List.all_eq_true.1 this ed hed
        simpa [hb] using this
      have hbef := hready L j so I.cl g1 hed
      refine dstep H LL Tr hN S0 I hd hlt g1 ho g3 hLf hbef ?_
      intro eS' σS' μ'' ν'' a'' w'' I'
      refine ih _ _ _ _ _ _ _ I' ?_
      have : left (L.setIfInBounds j true) ls.length < left L ls.length := by
        unfold left
        refine filter_lt (fun x hx hq => ?_) ⟨j, List.mem_range.2 hjl, by rw [hLf]; rfl, ?_⟩
        · simp only [Bool.not_eq_true'] at hq ⊢
          cases hx' : L.getD x false with
          | false => rfl
          | true =>
            have := (getD_set_true L j x (by rw [I.size]; exact hjl)).2 (.inr hx')
            rw [hq] at this; cases this
        · have := (getD_set_true L j j (by rw [I.size]; exact hjl)).2 (.inl rfl)
          rw [this]; rfl
      omega
  have hN0 : (tr 0).2.boxes.length ≤ (tr ls.length).2.boxes.length := boxes_le Tr LL (Nat.zero_le _) (Nat.le_refl _)
  have hrep : ∀ i, (Array.replicate opsA.size false).getD i false = false := by
    intro i; simp [Array.getD]
  refine main opsA.size (Array.replicate opsA.size false) e ⟨σ.boxes ++ List.replicate ((tr ls.length).2.boxes.length - σ.boxes.length) .undef, σ.rows⟩ μ ν a _ ?_ ?_
  · have hpad : ∀ (id : Nat) (c : AV), σ.boxes[id]? = some c → (σ.boxes ++ List.replicate ((tr ls.length).2.boxes.length - σ.boxes.length) AV.undef)[id]? = some c := by
      intro id c hc
      rw [List.getElem?_append_left (List.getElem?_eq_some_iff.1 hc).1]; exact hc
    refine { size := by simp [hn], cl := (fun j o _ hL => by rw [hrep] at hL; cases hL), len := ?_, box := ?_, rows := ?_, env := ?_, dom := ?_, hist := (fun i id _ hL => by rw [hrep] at hL; cases hL), G := ?_, S := ?_, E := EnvRep.mono G1.le E, tsz := hsz, dfr := rfl }
    · rw [hb0] at hN0
      simp; omega
    · intro id k c hk hcond hc
      rw [range_boxes Tr id (Nat.zero_le k) hk ?_, hb0] at hc
      · exact hpad id c hc
      · intro i _ hik ht
        have := (hcond i (by omega) ht).2 hik
        rw [hrep] at this; cases this
    · intro k hk hcond
      rw [range_rows Tr (Nat.zero_le k) hk ?_, hb0]
      intro i _ hik ht
      have := (hcond i (by omega) ht).2 hik
      rw [hrep] at this; cases this
    · intro t k hk hcond
      rw [range_env Tr t (Nat.zero_le k) hk ?_, h0]
      intro i _ hik ht
      have := (hcond i (by omega) ht).2 hik
      rw [hrep] at this; cases this
    · intro id b hi
      left; rw [hb0]; exact S.dom hi
    · rw [hb0]; exact Grow.refl _ _ _ _ _
    · exact { inj := S1.inj
              box := fun i b hi => by
                obtain ⟨dd, arr, t', q1, q2, q3, q4, q5⟩ := S1.box i b hi
                exact ⟨dd, arr, t', hpad i dd q1, q2, q3, q4, q5⟩
              row := S1.row, rinj := S1.rinj, disj := S1.disj, fresh := S1.fresh, rowZ := S1.rowZ }
  · unfold left
    rw [hn]
    refine Nat.le_trans (List.length_filter_le _ _) (by simp)
end
end Go.Rb

namespace Go.Rb
set_option linter.unusedVariables false
set_option linter.unusedSimpArgs false

section
variable {P : Program} {Z : Addr → Prop} {w : World} {μ : Mu} {ν : Nu} {σ : St} {T : Tab} {r : Rec}

/-! ### results -/
theorem run_cellVar {t : TypeId} {s : Nat} {g : Bool} (ht : sizeA P t = some (s, g)) {id off b : Nat} {v : AV} (hb : μ id = some b) (S : Sim Z w μ ν σ) (hl : σ.load id off s g = some v) :
    ∃ V, (loadVar t ⟨b, off, none⟩).run P w = .ok V w ∧ Rep (ctx Z w μ ν σ.rows) v V := by
  unfold St.load at hl
  cases hc : σ.boxes[id]? with
  | none => rw [hc] at hl; cases hl
  | some c =>
    rw [hc] at hl
    simp only at hl
    obtain ⟨h1, h2⟩ := sub_size hl
    obtain ⟨vs, hr, hone, hok, tt, hh⟩ := Sim.cells (S := S) hb hc
    have hr' := (hr.drop off).take s
    have hm := Rep.mk h2 (fun c hc => hone c (List.mem_of_mem_drop (List.mem_of_mem_take hc))) hr'
    refine ⟨_, ?_, hm.1⟩
    exact run_loadVar_cells (w := w) ht (ad := ⟨b, off, none⟩) (vs := (vs.drop off).take s) (by rw [hr'.length]; exact h1)
      (fun hg => by subst hg; have := mk_single h2; omega)
      (fun j v hj => by
        rw [plain_add, cell_of_row w b (off + j) _ tt (0, 0) hh]
        rw [List.getElem?_take] at hj
        split at hj
        · rw [List.getElem?_drop] at hj; simpa using hj
        · cases hj)

def resSem (tmps : Array Value) : ResultVar → Sem Value
  | .tmp t => pure (tmps.getD t undef)
  | .cell a t => do loadVar t (← asAddr (tmps.getD a undef))
theorem run_resList {e : Env} {tmps : Array Value} (S : Sim Z w μ ν σ) (E : EnvRep (ctx Z w μ ν σ.rows) e tmps) : ∀ (rs : List ResultVar) (ss : List SRes) (l : List AV), compRes P rs = some ss → resOf e σ ss = some l →
    ∃ vs, (rs.mapM (resSem tmps)).run P w = .ok vs w ∧ RepL (ctx Z w μ ν σ.rows) l vs
  | [], ss, l, hc, h => by
    simp [compRes] at hc; subst hc
    simp [resOf] at h; subst h
    exact ⟨[], by simp [List.mapM_nil], by simp [RepL]⟩
  | .tmp t :: rs, ss, l, hc, h => by
    simp only [compRes] at hc
    obtain ⟨ss', hc', rfl⟩ := Option.map_eq_some_iff.1 hc
    simp only [resOf] at h
    obtain ⟨l', h', rfl⟩ := Option.map_eq_some_iff.1 h
    obtain ⟨vs, q1, q2⟩ := run_resList S E rs ss' l' hc' h'
    refine ⟨tmps.getD t undef :: vs, ?_, ?_⟩
    · simp only [List.mapM_cons, Sem.run_bind, resSem, Sem.run_pure, Result.andThen_ok, q1]
    · simp only [RepL]; exact ⟨_, _, rfl, E t, q2⟩
  | .cell a t :: rs, ss, l, hc, h => by
    simp only [compRes] at hc
    split at hc
    · rename_i s g ss' hs hc'
      injection hc with hc; subst hc
      simp only [resOf] at h
      split at h
      · rename_i id off he
        split at h
        · rename_i v l' hv h'
          injection h with h; subst h
          obtain ⟨vs, q1, q2⟩ := run_resList S E rs ss' l' hc' h'
          have ha := E a
          rw [he] at ha
          simp only [Rep] at ha
          obtain ⟨b, hb, hav⟩ := ha
          obtain ⟨V, p1, p2⟩ := run_cellVar hs hb S hv
          refine ⟨V :: vs, ?_, ?_⟩
          · simp only [List.mapM_cons, Sem.run_bind, resSem, hav, asAddr, Sem.run_pure, Result.andThen_ok, p1, q1]
          · simp only [RepL]; exact ⟨_, _, rfl, p2, q2⟩
        · cases h
      · cases h
    · cases hc
theorem run_results {e : Env} {fn : Func} {tmps : Array Value} (S : Sim Z w μ ν σ) (E : EnvRep (ctx Z w μ ν σ.rows) e tmps) {ss : List SRes} {l : List AV} (hc : compRes P fn.results.toList = some ss) (h : resOf e σ ss = some l) :
    ∃ V, (results fn tmps).run P w = .ok V w ∧ Rep (ctx Z w μ ν σ.rows) (packRes l) V := by
  obtain ⟨vs, q1, q2⟩ := run_resList S E _ _ _ hc h
  have hrun : (fn.results.mapM (resSem tmps)).run P w = .ok vs.toArray w := by
    rw [Array.mapM_eq_mapM_toList, ← bind_pure_comp]
    simp only [Sem.run_bind, q1, Result.andThen_ok, Sem.run_pure]
  have hdef : results fn tmps = (fn.results.mapM (resSem tmps) >>= fun vs => pure (if h : vs.size = 1 then vs[0] else .tuple vs)) := rfl
  refine ⟨if h : vs.toArray.size = 1 then vs.toArray[0] else .tuple vs.toArray, ?_, ?_⟩
  · rw [hdef]
    simp only [Sem.run_bind, hrun, Result.andThen_ok, Sem.run_pure]
  · have hlen := q2.length
    match l, vs, hlen, q2 with
    | [x], [v], _, q2 =>
      simp only [RepL] at q2
      obtain ⟨v', vs', e1, e2, _⟩ := q2
      injection e1 with e1 _; subst e1
      simpa [packRes] using e2
    | [], [], _, q2 => simp [packRes, Rep, RepL]
    | x :: y :: l, v :: u :: vs, _, q2 =>
      simp only [packRes, List.size_toArray, List.length_cons, Nat.add_eq_right, Rep]
      rw [dif_neg (by omega)]
      exact ⟨_, rfl, by simpa using q2⟩

/-! ### code -/
def LoopOk (P : Program) (r : Rec) (m : Nat) : Prop := ∀ (nt : Nat) (c : Code) (lives lives' : List (List Nat)) (s : SCode) (fl : Nat) (live : List Nat) (e : Env) (σ : St) (x : SExit) (e' : Env) (σ' : St),
  compCode P nt c lives = some (s, lives') → r.loop fl live s e σ = some (x, e', σ') → ∀ (Z : Addr → Prop) (a : Act) (w : World) (μ : Mu) (ν : Nu), Sim Z w μ ν σ → EnvRep (ctx Z w μ ν σ.rows) e a.tmps → a.tmps.size = nt →
  ∀ Q : Exit → Act → World → Prop, (∀ ex a' w', Post Z σ.boxes.length w μ ν σ.rows nt a.defers x e' σ' ex a' w' → Q ex a' w') → Code.rounds P c Q m a w

theorem dsts_lt {nt : Nat} {dsts : List (Option Nat)} : ∀ {os : List Oper} {bs : List (List Nat)} {l : List SOper}, compOpers P nt dsts os bs = some l → ∀ t, (∃ j, (os.map (·.dst)).getD j none = some t) → t < nt := by
  intro os bs l h t ⟨j, hj⟩
  rw [List.getD_eq_getElem?_getD, List.getElem?_map] at hj
  cases ho : os[j]? with
  | none => rw [ho] at hj; simp at hj
  | some o =>
    rw [ho] at hj
    simp only [Option.map_some, Option.getD_some] at hj
    obtain ⟨s, b, _, _, hc⟩ := (compOpers_get h).2 j o ho
    exact (compOper_parts hc).2.2.2 t hj

theorem run_ok (H : CallOk P r) (LL : LenOk r) {m : Nat} (LO : LoopOk P r m) (hm : P.follows .mixedOrders = true) {nt fl : Nat} :
    ∀ (c : Code) (lives lives' : List (List Nat)) (s : SCode) (e e' : Env) (σ σ' : St) (x : SExit) (a : Act) (w : World) (μ : Mu) (ν : Nu), compCode P nt c lives = some (s, lives') → run T r fl s e σ = some (x, e', σ') →
    Sim Z w μ ν σ → EnvRep (ctx Z w μ ν σ.rows) e a.tmps → a.tmps.size = nt → c.wp P (Post Z σ.boxes.length w μ ν σ.rows nt a.defers x e' σ') a w := by
  intro c
  induction c with
  | skip =>
    intro lives lives' s e e' σ σ' x a w μ ν hc h S E hsz
    simp only [compCode, Option.some.injEq, Prod.mk.injEq] at hc; obtain ⟨rfl, rfl⟩ := hc
    simp only [run, Option.some.injEq, Prod.mk.injEq] at h; obtain ⟨rfl, rfl, rfl⟩ := h
    exact wp_skip ⟨trivial, μ, ν, Grow.refl _ _ _ _ _, S, E, hsz, rfl⟩
  | exit id =>
    intro lives lives' s e e' σ σ' x a w μ ν hc h S E hsz
    simp only [compCode, Option.some.injEq, Prod.mk.injEq] at hc; obtain ⟨rfl, rfl⟩ := hc
    simp only [run, Option.some.injEq, Prod.mk.injEq] at h; obtain ⟨rfl, rfl, rfl⟩ := h
    exact wp_exit ⟨rfl, μ, ν, Grow.refl _ _ _ _ _, S, E, hsz, rfl⟩
  | ret =>
    intro lives lives' s e e' σ σ' x a w μ ν hc h S E hsz
    simp only [compCode, Option.some.injEq, Prod.mk.injEq] at hc; obtain ⟨rfl, rfl⟩ := hc
    simp only [run, Option.some.injEq, Prod.mk.injEq] at h; obtain ⟨rfl, rfl, rfl⟩ := h
    exact wp_ret ⟨trivial, μ, ν, Grow.refl _ _ _ _ _, S, E, hsz, rfl⟩
  | region id opsA draw =>
    intro lives lives' s e e' σ σ' x a w μ ν hc h S E hsz
    simp only [compCode] at hc
    obtain ⟨rl, hr, he⟩ := Option.map_eq_some_iff.1 hc
    simp only [Prod.mk.injEq] at he; obtain ⟨rfl, rfl⟩ := he
    simp only [run] at h
    split at h
    · rename_i e1 σ1 ho
      simp only [Option.some.injEq, Prod.mk.injEq] at h; obtain ⟨rfl, rfl, rfl⟩ := h
      unfold compRegion at hr
      split at hr
      · rename_i l hcl
        split at hr
        · rename_i hcond
          injection hr with hr; subst hr
          cases draw with
          | false =>
            refine wp_region ?_
            simp only [Bool.false_eq_true, if_false] at hcl
            have := seq_ok (Z := Z) H LL (fl := fl) (opsA := opsA) rfl (fun t ht => dsts_lt hcl t ht) (Q := Post Z σ.boxes.length w μ ν σ.rows nt a.defers .normal e1 σ1) opsA.toList _ l 0 0 [] e e1 σ σ1 a w μ ν (by intro j; simp) hcl ho S E hsz (fun _ _ hp => hp)
            rw [List.range_eq_range']
            simpa using this
          | true =>
            simp only [Bool.not_true, Bool.false_or, Bool.and_eq_true] at hcond
            simp only [if_true] at hcl
            exact draw_ok H LL hm rfl (fun t ht => dsts_lt hcl t ht) hcl hcond.1 hcond.2 ho S E hsz
        · cases hr
      · cases hr
    · cases h
  | seq c1 c2 ih1 ih2 =>
    intro lives lives' s e e' σ σ' x a w μ ν hc h S E hsz
    simp only [compCode] at hc
    split at hc
    · rename_i s1 l1 hc1
      split at hc
      · rename_i s2 l2 hc2
        simp only [Option.some.injEq, Prod.mk.injEq] at hc; obtain ⟨rfl, rfl⟩ := hc
        simp only [run] at h
        refine wp_seq ?_
        split at h
        · rename_i e1 σ1 h1
          refine wp_mono (ih1 _ _ _ _ _ _ _ _ a w μ ν hc1 h1 S E hsz) ?_
          rintro ex a' w' hP
          have hP0 := hP
          obtain ⟨hx, μ', ν', G, S', E', hsz', hd⟩ := hP
          cases ex <;> simp only [ExOk] at hx
          refine wp_mono (ih2 _ _ _ _ _ _ _ _ a' w' μ' ν' hc2 h S' E' hsz') ?_
          intro ex2 a2 w2 hP2
          rw [hd] at hP2
          exact hP2.after G (run_len LL h1) S
        · rename_i hne
          refine wp_mono (ih1 _ _ _ _ _ _ _ _ a w μ ν hc1 h S E hsz) ?_
          rintro ex a' w' hP
          cases ex with
          | normal =>
            obtain ⟨hx, _⟩ := hP
            cases x <;> simp only [ExOk] at hx
            exact absurd h (hne _ _)
          | exit _ => exact hP
          | goto _ => exact hP
          | ret => exact hP
          | panic _ => exact hP
          | outgrown => exact hP
      · cases hc
    · cases hc
  | cond y c1 c2 ih1 ih2 =>
    intro lives lives' s e e' σ σ' x a w μ ν hc h S E hsz
    simp only [compCode] at hc
    split at hc
    · rename_i y' s1 l1 hy hc1
      split at hc
      · rename_i s2 l2 hc2
        simp only [Option.some.injEq, Prod.mk.injEq] at hc; obtain ⟨rfl, rfl⟩ := hc
        simp only [run] at h
        split at h
        · rename_i t ht
          have hr := compX_rep E hy
          rw [ht] at hr
          simp only [Rep] at hr
          refine wp_cond hr ?_
          cases t
          · exact ih2 _ _ _ _ _ _ _ _ a w μ ν hc2 h S E hsz
          · exact ih1 _ _ _ _ _ _ _ _ a w μ ν hc1 h S E hsz
        · cases h
      · cases hc
    · cases hc
  | block id c ih =>
    intro lives lives' s e e' σ σ' x a w μ ν hc h S E hsz
    simp only [compCode] at hc
    split at hc
    · rename_i s1 l1 hc1
      simp only [Option.some.injEq, Prod.mk.injEq] at hc; obtain ⟨rfl, rfl⟩ := hc
      simp only [run] at h
      refine wp_block ?_
      split at h
      · rename_i i e1 σ1 h1
        refine wp_mono (ih _ _ _ _ _ _ _ _ a w μ ν hc1 h1 S E hsz) ?_
        rintro ex a' w' ⟨hx, rest⟩
        cases ex <;> simp only [ExOk] at hx
        subst hx
        simp only [Exit.inBlock]
        split at h
        · rename_i hid
          simp only [Option.some.injEq, Prod.mk.injEq] at h; obtain ⟨rfl, rfl, rfl⟩ := h
          rw [if_pos hid]
          exact ⟨trivial, rest⟩
        · rename_i hid
          simp only [Option.some.injEq, Prod.mk.injEq] at h; obtain ⟨rfl, rfl, rfl⟩ := h
          rw [if_neg hid]
          exact ⟨rfl, rest⟩
      · rename_i hne
        refine wp_mono (ih _ _ _ _ _ _ _ _ a w μ ν hc1 h S E hsz) ?_
        rintro ex a' w' hP
        cases ex with
        | exit i =>
          obtain ⟨hx, _⟩ := hP
          cases x <;> simp only [ExOk] at hx
          exact absurd h (hne _ _ _)
        | normal => exact hP
        | goto _ => exact hP
        | ret => exact hP
        | panic _ => exact hP
        | outgrown => exact hP
    · cases hc
  | loop c ih =>
    intro lives lives' s e e' σ σ' x a w μ ν hc h S E hsz
    cases lives with
    | nil => simp [compCode] at hc
    | cons v lives =>
      simp only [compCode] at hc
      split at hc
      · rename_i s1 l1 hc1
        simp only [Option.some.injEq, Prod.mk.injEq] at hc; obtain ⟨rfl, rfl⟩ := hc
        simp only [run] at h
        exact wp_loop_rounds m (LO nt c lives l1 s1 fl v e σ x e' σ' hc1 h Z a w μ ν S E hsz _ fun _ _ _ hp => hp)
      · cases hc
  | _ => intro lives lives' s e e' σ σ' x a w μ ν hc h S E hsz; simp [compCode] at hc

theorem keep_rep {R : Ctx} {e : Env} {tmps : Array Value} (h : EnvRep R e tmps) (live : List Nat) : EnvRep R (e.keep live) tmps := by
  intro t
  have : (e.keep live).get t = e.get t ∨ (e.keep live).get t = .undef := by
    unfold Env.keep
    induction live with
    | nil => right; simp [Env.get]
    | cons k l ih =>
      simp only [List.map_cons, Env.get]
      by_cases hk : k = t
      · subst hk; left; simp
      · rw [if_neg hk]; exact ih
  rcases this with q | q
  · rw [q]; exact h t
  · rw [q]; simp [Rep]

theorem loop_ok (H : CallOk P r) (LL : LenOk r) {m : Nat} (LO : LoopOk P r m) (hm : P.follows .mixedOrders = true) : LoopOk P ⟨round T r, r.call⟩ (m + 1) := by
  intro nt c lives lives' s fl live e σ x e' σ' hc h Z a w μ ν S E hsz Q hQ
  rw [rounds_succ]
  replace h : round T r fl live s e σ = some (x, e', σ') := h
  unfold round at h
  split at h
  · rename_i e1 σ1 h1
    refine wp_mono (run_ok H LL LO hm c _ _ _ _ _ _ _ _ a w μ ν hc h1 S (keep_rep E live) hsz) ?_
    rintro ex a' w' ⟨hx, μ', ν', G, S', E', hsz', hd⟩
    cases ex <;> simp only [ExOk] at hx
    refine LO nt c lives lives' s fl live e1 σ1 x e' σ' hc h Z a' w' μ' ν' S' E' hsz' Q ?_
    intro ex a2 w2 hP
    rw [hd] at hP
    exact hQ _ _ _ (hP.after G (run_len LL h1) S)
  · rename_i hne
    refine wp_mono (run_ok H LL LO hm c _ _ _ _ _ _ _ _ a w μ ν hc h S (keep_rep E live) hsz) ?_
    rintro ex a' w' hP
    cases ex with
    | normal =>
      obtain ⟨hx, _⟩ := hP
      cases x <;> simp only [ExOk] at hx
      exact absurd h (hne _ _)
    | exit _ => exact hQ _ _ _ hP
    | goto _ => exact hQ _ _ _ hP
    | ret => exact hQ _ _ _ hP
    | panic _ => exact hQ _ _ _ hP
    | outgrown => exact hQ _ _ _ hP
end

/-! ### calls -/
/-- what the program's table of functions says -/
structure TabOk (P : Program) (T : Tab) : Prop where
  fn : ∀ f F, T.ext f = none → T.fn f = some F → ∃ fn lives, P.funcs[f]? = some fn ∧ compFun P fn F.np lives = some F
  ext : ∀ f g, T.ext f = some g → ∀ args v, AV.closedL args = true → g args = some v → v.closed = true → Enters P f ∧ ∀ (Z : Addr → Prop) (w : World) (vals : Array Value), Sim Z w noMu noNu .nil →
    RepL (ctx Z w noMu noNu []) (AV.stripL args) vals.toList → Calls P f vals w fun e w' => ∃ σ', CallPost Z w noMu noNu .nil v σ' e w'

section
variable {P : Program} {Z : Addr → Prop} {w : World} {μ : Mu} {ν : Nu} {σ : St} {T : Tab} {r : Rec}

theorem ext_ok (H : TabOk P T) {f : Nat} {g : List AV → Option AV} (hf : T.ext f = some g) {args : List AV} {v : AV} (hcl : AV.closedL args = true) (hg : g args = some v) (hv0 : v.closed = true) (S : Sim Z w μ ν σ) {vals : Array Value} (hr : RepL (ctx Z w μ ν σ.rows) args vals.toList) :
    Calls P f vals w (CallPost Z w μ ν σ v.strip σ) := by
  obtain ⟨hent, hc⟩ := H.ext f g hf args v hcl hg hv0
  let Z' : Addr → Prop := fun ad => (∀ i, μ i ≠ some ad.block) ∧ (∀ r u v, ν r = some (ad.block, u, v) → ad.off < u) ∧ Z ad
  have hS' : Sim Z' w noMu noNu .nil := sim_nil fun ad had => ⟨fun i hi => by have := S.lt hi; omega, fun r u v hr => by have := S.rlt hr; omega, S.fresh ad had⟩
  have hle : (ctx Z w μ ν σ.rows).LeC (ctx Z' w noMu noNu []) := ⟨fun ad x hc => ⟨hc.1, fun i hi => by simp [noMu] at hi, fun r u v hr => by simp [noNu] at hr, hc.2.1, hc.2.2.1, hc.2.2.2⟩⟩
  refine (hc Z' w vals hS' (RepL.strip hle _ _ hcl hr)).mono ?_
  rintro e w' ⟨σ0, V, μ', ν', rfl, G, S', hV⟩
  have hb : ∀ b, b < w.heap.size → w'.heap[b]? = w.heap[b]? := fun b hb => G.blocks b hb (fun i hi => by simp [noMu] at hi) (fun r u v hr => by simp [noNu] at hr)
  obtain ⟨G2, S2⟩ := S.keep σ.boxes.length G.os G.tape G.output G.size hb
  refine ⟨V, μ, ν, rfl, G2, S2, ?_⟩
  exact Rep.strip (R := ctx Z' w' μ' ν' σ0.rows) (R' := ctx Z w' μ ν σ.rows) ⟨fun ad x hc => ⟨hc.1, hc.2.2.2.1, hc.2.2.2.2.1, hc.2.2.2.2.2⟩⟩ _ _ hv0 hV

theorem argEnv_get : ∀ (l : List AV) (i t : Nat), (argEnv i l).get t = if i ≤ t then (l[t - i]?).getD .undef else .undef
  | [], i, t => by simp [argEnv, Env.get]
  | v :: l, i, t => by
    simp only [argEnv, Env.get]
    by_cases h : i = t
    · subst h; simp
    · rw [if_neg h, argEnv_get l (i + 1) t]
      by_cases h2 : i + 1 ≤ t
      · rw [if_pos h2, if_pos (by omega), show t - i = (t - (i + 1)) + 1 from by omega, List.getElem?_cons_succ]
      · rw [if_neg h2, if_neg (by omega)]
theorem argEnv_rep {R : Ctx} {args : List AV} {vals : Array Value} (h : RepL R args vals.toList) (k : Nat) : EnvRep R (argEnv 0 args) (vals ++ Array.replicate k undef) := by
  intro t
  rw [argEnv_get]
  simp only [Nat.zero_le, if_true, Nat.sub_zero]
  cases ht : args[t]? with
  | none => simp [Rep]
  | some x =>
    obtain ⟨v, hv, hr⟩ := h.get ht
    rw [Array.getElem?_toList] at hv
    have hlt := (Array.getElem?_eq_some_iff.1 hv).1
    have : (vals ++ Array.replicate k undef).getD t undef = v := by
      rw [Array.getD_eq_getD_getElem?, Array.getElem?_append_left hlt, hv]; rfl
    rw [this]
    simpa using hr

theorem underL_mem {n : Nat} {x : AV} : ∀ {l : List AV}, AV.underL n l = true → x ∈ l → x.under n = true
  | [], _, h => by simp at h
  | y :: l, hu, h => by
    simp only [AV.underL, Bool.and_eq_true] at hu
    rcases List.mem_cons.1 h with rfl | h
    · exact hu.1
    · exact underL_mem hu.2 h
/-- what a call made beyond the caller's own may be forgotten -/
theorem trunc_ok {w' : World} {μ' : Mu} {ν' : Nu} {σ' : St} {v : AV} {V : Value} (hle : σ.boxes.length ≤ σ'.boxes.length) (G : Grow σ.boxes.length w μ ν σ.rows w' μ' ν' σ'.rows) (S : Sim Z w μ ν σ) (S' : Sim Z w' μ' ν' σ') (hv : Rep (ctx Z w' μ' ν' σ'.rows) v V)
    (h1 : v.under σ.boxes.length = true) (h2 : AV.underL σ.boxes.length (σ'.boxes.take σ.boxes.length) = true) :
    ∃ μ2, Grow σ.boxes.length w μ ν σ.rows w' μ2 ν' σ'.rows ∧ Sim Z w' μ2 ν' { σ' with boxes := σ'.boxes.take σ.boxes.length } ∧ Rep (ctx Z w' μ2 ν' σ'.rows) v V := by
  let μ2 : Mu := fun i => if i < σ.boxes.length then μ' i else none
  have hμ2 : ∀ i b, μ2 i = some b → i < σ.boxes.length ∧ μ' i = some b := by
    intro i b hi
    simp only [μ2] at hi
    split at hi
    · rename_i q; exact ⟨q, hi⟩
    · cases hi
  have hU : (ctx Z w' μ' ν' σ'.rows).LeU σ.boxes.length (ctx Z w' μ2 ν' σ'.rows) := by
    refine ⟨fun ad x hc => ⟨hc.1, fun i hi => hc.2.1 i (hμ2 i _ hi).2, hc.2.2.1, hc.2.2.2⟩, ?_, fun _ _ _ q => q⟩
    intro i b hi hb
    show μ2 i = some b
    simp only [μ2]; rw [if_pos hi]; exact hb
  refine ⟨μ2, ?_, ?_, Rep.under hU _ _ h1 hv⟩
  · exact { G.toKeep with
      mu := fun i b hi => by
        show μ2 i = some b
        simp only [μ2]; rw [if_pos (S.dom hi)]; exact G.mu i b hi
      mun := fun i b hi => by
        obtain ⟨q1, q2⟩ := hμ2 i b hi
        exact G.mun i b q2
      nun := G.nun
      vers := G.vers }
  · exact
      { inj := fun i j b hi hj => S'.inj i j b (hμ2 i b hi).2 (hμ2 j b hj).2
        box := fun i b hi => by
          obtain ⟨q1, q2⟩ := hμ2 i b hi
          obtain ⟨c, arr, t, p1, p2, p3, p4, p5⟩ := S'.box i b q2
          have hc : (σ'.boxes.take σ.boxes.length)[i]? = some c := by rw [List.getElem?_take, if_pos q1]; exact p1
          refine ⟨c, arr, t, hc, p2, p3, p4, RepL.under hU _ _ ?_ p5⟩
          have := underL_mem h2 (List.mem_of_getElem? hc)
          cases c <;> simp_all [AV.cells, AV.underL, AV.under]
        row := S'.row
        rinj := S'.rinj
        disj := fun i b r u v hi => S'.disj i b r u v (hμ2 i b hi).2
        fresh := S'.fresh
        rowZ := S'.rowZ }

theorem enter_ok (HT : TabOk P T) (H : CallOk P r) (LL : LenOk r) {m : Nat} (LO : LoopOk P r m) (hm : P.follows .mixedOrders = true) : CallOk P ⟨r.loop, enter T r⟩ := by
  intro f args σ v σ' h
  replace h : enter T r f args σ = some (v, σ') := h
  unfold enter at h
  split at h
  · rename_i _ _ g hg
    split at h
    · rename_i hcl
      split at h
      · rename_i v0 hv0
        split at h
        · rename_i hvc
          simp only [Option.some.injEq, Prod.mk.injEq] at h; obtain ⟨rfl, rfl⟩ := h
          exact ⟨(HT.ext f g hg args v0 hcl hv0 hvc).1, fun Z w μ ν vals S hr => ext_ok HT hg hcl hv0 hvc S hr⟩
        · cases h
      · cases h
    · cases h
  · cases h
  · rename_i F hE hF
    obtain ⟨fn, lives, hfn, hcomp⟩ := HT.fn f F hE hF
    unfold compFun at hcomp
    split at hcomp
    · rename_i c hbody
      split at hcomp
      · rename_i s sr hcode hres
        split at hcomp
        · rename_i hcond
          simp only [Bool.and_eq_true, decide_eq_true_eq, bne_iff_ne, ne_eq] at hcond
          injection hcomp with hcomp
          split at h
          · rename_i hnp
            split at h
            · rename_i x e1 σ1 hrun
              split at h
              · rename_i hx
                split at h
                · rename_i l hl
                  refine ⟨⟨fn, c, hfn, hbody, by simpa using hcond.2⟩, ?_⟩
                  intro Z w μ ν vals S hr
                  refine calls_of_wp hfn hbody ?_
                  have hFb : F.body = s := by rw [← hcomp]
                  have hFr : F.res = sr := by rw [← hcomp]
                  rw [hFb] at hrun
                  rw [hFr] at hl
                  have hvl : vals.size = args.length := by have := hr.length; simpa using this
                  refine wp_mono (run_ok (Z := Z) H LL LO hm c _ _ _ _ _ _ _ _ _ w μ ν hcode hrun S (argEnv_rep hr _) (by simp; omega)) ?_
                  rintro ex a' w' ⟨hex, μ', ν', G, S', E', hsz', hd⟩
                  have hlen := run_len LL hrun
                  obtain ⟨V, hV, hRV⟩ := run_results S' E' hres hl
                  have hcp : CallPost Z w μ ν σ v σ' (.returned V) w' := by
                    simp only at h
                    split at h
                    · rename_i hu
                      simp only [Bool.and_eq_true] at hu
                      simp only [Option.some.injEq, Prod.mk.injEq] at h; obtain ⟨rfl, rfl⟩ := h
                      obtain ⟨μ2, G2, S2, R2⟩ := trunc_ok hlen G S S' hRV hu.1 hu.2
                      exact ⟨V, μ2, ν', rfl, G2, S2, R2⟩
                    · simp only [Option.some.injEq, Prod.mk.injEq] at h; obtain ⟨rfl, rfl⟩ := h
                      exact ⟨V, μ', ν', rfl, G, S', hRV⟩
                  have hdn : a'.defers = [] := hd
                  rcases hx with rfl | rfl
                  · cases ex <;> simp only [ExOk] at hex
                    exact ⟨hdn, V, hV, hcp⟩
                  · cases ex <;> simp only [ExOk] at hex
                    exact ⟨hdn, V, hV, hcp⟩
                · cases h
              · cases h
            · cases h
          · cases h
        · cases hcomp
      · cases hcomp
    · cases hcomp

theorem upto_sound (HT : TabOk P T) (hm : P.follows .mixedOrders = true) : ∀ n, CallOk P (upto T n) ∧ LoopOk P (upto T n) n
  | 0 => ⟨(fun _ _ _ _ _ h => by cases h), (fun _ _ _ _ _ _ _ _ _ _ _ _ _ h => by cases h)⟩
  | n + 1 => by
    obtain ⟨h1, h2⟩ := upto_sound HT hm n
    exact ⟨enter_ok HT h1 (upto_len n) h2 hm, loop_ok h1 (upto_len n) h2 hm⟩

theorem lim_sound (HT : TabOk P T) (hm : P.follows .mixedOrders = true) : CallOk P (lim T) := by
  intro f args σ v σ' h
  obtain ⟨n, hn⟩ := lim_call.1 h
  exact (upto_sound HT hm n).1 f args σ v σ' hn
end
end Go.Rb

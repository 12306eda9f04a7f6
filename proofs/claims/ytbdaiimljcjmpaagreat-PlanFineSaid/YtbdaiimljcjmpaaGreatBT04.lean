/- Regions that draw their order: what an operation looks at, and what it turns. Regions that draw their order: whatever order, the end is that of the text's. Regions that draw their order: one step, and all. -/
import Derived.Test.YtbdaiimljcjmpaaGreatBT03
import Derived.Orders
namespace Go.Rb
set_option linter.unusedVariables false
set_option linter.unusedSimpArgs false

section
variable {T : Tab} {r : Rec} {fl : Nat}

def Agree (l : List Nat) (e e' : Env) : Prop := ∀ t ∈ l, e.get t = e'.get t
theorem Agree.left {l m : List Nat} {e e' : Env} (h : Agree (l ++ m) e e') : Agree l e e' := fun t ht => h t (List.mem_append_left _ ht)
theorem Agree.right {l m : List Nat} {e e' : Env} (h : Agree (l ++ m) e e') : Agree m e e' := fun t ht => h t (List.mem_append_right _ ht)
theorem ev_agree {x : X} {e e' : Env} (h : Agree (xNames x) e e') : x.ev e = x.ev e' := by
  cases x with
  | t n => exact h n (by simp [xNames])
  | c v => rfl
theorem evs_agree : ∀ {l : List X} {e e' : Env}, Agree (l.flatMap xNames) e e' → l.map (·.ev e) = l.map (·.ev e')
  | [], _, _, _ => rfl
  | x :: l, e, e', h => by
    rw [List.flatMap_cons] at h
    simp only [List.map_cons, ev_agree h.left, evs_agree h.right]
theorem fillParts_agree : ∀ {ps : List (Nat × Nat × X)} {e e' : Env} {l : List AV}, Agree (ps.flatMap fun p => xNames p.2.2) e e' → fillParts e ps l = fillParts e' ps l
  | [], _, _, _, _ => rfl
  | (o, s, x) :: ps, e, e', l, h => by
    rw [List.flatMap_cons] at h
    simp only [fillParts, ev_agree h.left]
    split
    · exact fillParts_agree h.right
    · rfl
theorem fillElems_agree {size : Nat} {g : Bool} : ∀ {ps : List (Nat × X)} {e e' : Env} {l : List AV}, Agree (ps.flatMap fun p => xNames p.2) e e' → fillElems e size g ps l = fillElems e' size g ps l
  | [], _, _, _, _ => rfl
  | (i, x) :: ps, e, e', l, h => by
    rw [List.flatMap_cons] at h
    simp only [fillElems, ev_agree h.left]
    split
    · exact fillElems_agree h.right
    · rfl
theorem aop_agree {s : SOp} {e e' : Env} {σ : St} (h : Agree (opNames s) e e') : aop T r fl s e σ = aop T r fl s e' σ := by
  cases s <;> simp only [opNames] at h <;> simp only [aop]
  case mov x => rw [ev_agree h]
  case pick a b c => rw [ev_agree h.left.left, ev_agree h.left.right, ev_agree h.right]
  case box x => rw [ev_agree h]
  case build z ps => rw [fillParts_agree h]
  case bslice s z n ps => rw [fillElems_agree h]
  case load s g x => rw [ev_agree h]
  case store s x v => rw [ev_agree h.left, ev_agree h.right]
  case nilck x => rw [ev_agree h]
  case bin op x y => rw [ev_agree h.left, ev_agree h.right]
  case eqb n x y => rw [ev_agree h.left, ev_agree h.right]
  case eqa n ks x y => rw [ev_agree h.left, ev_agree h.right]
  case un op x => rw [ev_agree h]
  case conv k x => rw [ev_agree h]
  case mkfn f a b => rw [evs_agree h.left, evs_agree h.right]
  case faddr o s g x => rw [ev_agree h]
  case fld o s g x => rw [ev_agree h]
  case iaddr s x i => rw [ev_agree h.left, ev_agree h.right]
  case iaddrA n s g x i => rw [ev_agree h.left, ev_agree h.right]
  case idxA n s g x i => rw [ev_agree h.left, ev_agree h.right]
  case ext x i => rw [ev_agree h]
  case len x => rw [ev_agree h]
  case mx m x y => rw [ev_agree h.left, ev_agree h.right]
  case append e1 s b x y => rw [ev_agree h.left, ev_agree h.right]
  case call f l => rw [ev_agree h.left, evs_agree h.right]
  case eqs n x y => rw [ev_agree h.left, ev_agree h.right]
  case sadd x y => rw [ev_agree h.left, ev_agree h.right]
  case chr x => rw [ev_agree h]
  case slbox n s g x y z => rw [ev_agree h.left.left, ev_agree h.left.right, ev_agree h.right]
  case slc s x y z =>
    have hz : hiOf e (x.ev e') z = hiOf e' (x.ev e') z := by
      cases z with
      | none => rfl
      | some z => simp only [hiOf]; exact ev_agree h.right
    rw [ev_agree h.left.left, ev_agree h.left.right, hz]
theorem foot_agree {s : SOp} {e e' : Env} (h : Agree (opNames s) e e') : footOf T s e = footOf T s e' := by
  cases s <;> simp only [opNames] at h <;> simp only [footOf]
  case load s g x => rw [ev_agree h]
  case store s x v => rw [ev_agree h.left]
  case call f l => rw [ev_agree h.left, evs_agree h.right]
theorem wanted_agree {g : Option (Nat × Bool)} {e e' : Env} (h : Agree (gNames g) e e') : wanted g e = wanted g e' := by
  cases g with
  | none => rfl
  | some p => simp only [wanted]; rw [h p.1 (by simp [gNames])]

/-! ### the kinds -/
def isAlloc : SOp → Bool
  | .alloc _ | .box _ => true
  | _ => false
/-- what an alloc makes -/
def made (s : SOp) (e : Env) : AV :=
  match s with
  | .alloc z => z
  | .box x => x.ev e
  | _ => .undef
theorem eff_alloc {s : SOp} {e : Env} {σ σ' : St} {v : AV} (ha : isAlloc s = true) (h : aop T r fl s e σ = some (v, σ')) : v = .box σ.boxes.length 0 ∧ σ' = { σ with boxes := σ.boxes ++ [made s e] } ∧ footOf T s e = .no ∧ ∀ σ2, aop T r fl s e σ2 = some (.box σ2.boxes.length 0, { σ2 with boxes := σ2.boxes ++ [made s e] }) := by
  cases s <;> simp [isAlloc] at ha
  case alloc z =>
    simp only [aop, St.push, Option.some.injEq, Prod.mk.injEq] at h
    obtain ⟨rfl, rfl⟩ := h
    exact ⟨rfl, rfl, rfl, fun σ2 => rfl⟩
  case box x =>
    simp only [aop] at h
    split at h
    · rename_i hok
      simp only [St.push, Option.some.injEq, Prod.mk.injEq] at h
      obtain ⟨rfl, rfl⟩ := h
      exact ⟨rfl, rfl, rfl, fun σ2 => by simp only [aop, if_pos hok]; rfl⟩
    · cases h
/-- an operation that touches no store -/
theorem eff_pure {s : SOp} {e : Env} {σ σ' : St} {v : AV} (ha : isAlloc s = false) (hf : footOf T s e = .no) (h : aop T r fl s e σ = some (v, σ')) : σ' = σ ∧ ∀ σ2, aop T r fl s e σ2 = some (v, σ2) := by
  cases s <;> simp [isAlloc] at ha <;> simp only [footOf] at hf <;> simp only [aop] at h ⊢
  case load s g x =>
    split at h
    · rename_i id off he
      rw [he] at hf; cases hf
    · obtain ⟨u, hu, hh⟩ := Option.map_eq_some_iff.1 h
      simp only [Prod.mk.injEq] at hh; obtain ⟨rfl, rfl⟩ := hh
      exact ⟨rfl, fun σ2 => by simp [hu]⟩
    · cases h
  case store s x v =>
    split at h
    · rename_i id off he
      rw [he] at hf; cases hf
    · cases h
  case append => cases hf
  case call f l =>
    split at h
    · rename_i g l' hc
      rw [hc] at hf
      simp only at hf
      have hfi : (T.imp g || l'.any AV.isB) = false := by
        cases hq : (T.imp g || l'.any AV.isB) with
        | false => rfl
        | true => rw [hq] at hf; simp at hf
      simp only [Bool.or_eq_false_iff] at hfi
      rw [if_neg (by rw [hfi.1]; simp), if_neg (by rw [hfi.2]; simp)] at h
      obtain ⟨u, hu, hh⟩ := Option.map_eq_some_iff.1 h
      simp only [Prod.mk.injEq] at hh; obtain ⟨rfl, rfl⟩ := hh
      refine ⟨rfl, fun σ2 => ?_⟩
      rw [if_neg (by rw [hfi.1]; simp), if_neg (by rw [hfi.2]; simp), hu]; rfl
    · cases h
  all_goals
    first
    | (simp only [Option.some.injEq, Prod.mk.injEq] at h; obtain ⟨rfl, rfl⟩ := h; exact ⟨rfl, fun _ => rfl⟩)
    | (obtain ⟨u, hu, hh⟩ := Option.map_eq_some_iff.1 h
       simp only [Prod.mk.injEq] at hh; obtain ⟨rfl, rfl⟩ := hh
       exact ⟨rfl, fun σ2 => by simp [hu]⟩)
    | (repeat' split at h
       all_goals
         first
         | (cases h; done)
         | (simp only [Option.some.injEq, Prod.mk.injEq] at h; obtain ⟨rfl, rfl⟩ := h; exact ⟨rfl, fun σ2 => by simp [*]⟩)
         | (obtain ⟨u, hu, hh⟩ := Option.map_eq_some_iff.1 h
            simp only [Prod.mk.injEq] at hh; obtain ⟨rfl, rfl⟩ := hh
            exact ⟨rfl, fun σ2 => by simp [*]⟩))
theorem eff_rd {s : SOp} {e : Env} {σ σ' : St} {v : AV} {id : Nat} (hf : footOf T s e = .rd id) (h : aop T r fl s e σ = some (v, σ')) : σ' = σ ∧ isAlloc s = false ∧ ∀ σ2 : St, σ2.boxes[id]? = σ.boxes[id]? → aop T r fl s e σ2 = some (v, σ2) := by
  cases s <;> simp only [footOf] at hf <;> first | (cases hf; done) | skip
  case load s g x =>
    simp only [aop] at h ⊢
    split at hf
    · rename_i id' off he
      injection hf with hf; subst hf
      rw [he] at h ⊢
      simp only at h ⊢
      obtain ⟨u, hu, hh⟩ := Option.map_eq_some_iff.1 h
      simp only [Prod.mk.injEq] at hh; obtain ⟨rfl, rfl⟩ := hh
      refine ⟨rfl, rfl, fun σ2 h2 => ?_⟩
      unfold St.load at hu ⊢
      rw [h2, hu]; rfl
    · cases hf
  case store s x v =>
    split at hf <;> cases hf
  case call f l =>
    split at hf
    · split at hf <;> cases hf
    · cases hf
theorem eff_wr {s : SOp} {e : Env} {σ σ' : St} {v : AV} {id : Nat} (hf : footOf T s e = .wr id) (h : aop T r fl s e σ = some (v, σ')) : isAlloc s = false ∧ ∃ c', id < σ.boxes.length ∧ σ' = { σ with boxes := σ.boxes.set id c' } ∧ ∀ σ2 : St, σ2.boxes[id]? = σ.boxes[id]? → aop T r fl s e σ2 = some (v, { σ2 with boxes := σ2.boxes.set id c' }) := by
  cases s <;> simp only [footOf] at hf <;> first | (cases hf; done) | skip
  case load s g x => split at hf <;> cases hf
  case store s x u =>
    simp only [aop] at h ⊢
    split at hf
    · rename_i id' off he
      injection hf with hf; subst hf
      rw [he] at h
      simp only at h
      cases hc : σ.boxes[id']? with
      | none => rw [hc] at h; cases h
      | some c =>
        rw [hc] at h
        simp only at h
        split at h
        · rename_i hcond
          simp only [Option.some.injEq, Prod.mk.injEq] at h; obtain ⟨rfl, rfl⟩ := h
          refine ⟨rfl, _, (List.getElem?_eq_some_iff.1 hc).1, rfl, fun σ2 h2 => ?_⟩
          rw [h2]
          simp only [if_pos hcond]
        · cases h
    · cases hf
  case call f l =>
    split at hf
    · split at hf <;> cases hf
    · cases hf
theorem eff_row {s : SOp} {e : Env} {σ σ' : St} {v : AV} (hf : footOf T s e = .row) (h : aop T r fl s e σ = some (v, σ')) : isAlloc s = false ∧ σ'.boxes = σ.boxes ∧ ∀ σ2 : St, σ2.rows = σ.rows → aop T r fl s e σ2 = some (v, { σ2 with rows := σ'.rows }) := by
  cases s <;> simp only [footOf] at hf <;> first | (cases hf; done) | skip
  case load s g x => split at hf <;> cases hf
  case store s x u => split at hf <;> cases hf
  case call f l =>
    split at hf
    · split at hf <;> cases hf
    · cases hf
  case append t size bytes x y =>
    simp only [aop] at h ⊢
    unfold aAppend at h ⊢
    split at h
    · split at h
      · rename_i hemp
        simp only [Option.some.injEq, Prod.mk.injEq] at h; obtain ⟨rfl, rfl⟩ := h
        refine ⟨rfl, rfl, fun σ2 h2 => ?_⟩
        rw [if_pos hemp, ← h2]
      · rename_i hemp
        split at h
        · rename_i hcond
          split at h
          · simp only [Option.some.injEq, Prod.mk.injEq] at h; obtain ⟨rfl, rfl⟩ := h
            refine ⟨rfl, rfl, fun σ2 h2 => ?_⟩
            rw [if_neg hemp, if_pos hcond]
            simp only [h2]
          · rename_i r1 ver
            split at h
            · rename_i hr
              simp only [Option.some.injEq, Prod.mk.injEq] at h; obtain ⟨rfl, rfl⟩ := h
              refine ⟨rfl, rfl, fun σ2 h2 => ?_⟩
              rw [if_neg hemp, if_pos hcond]
              simp only [h2, if_pos hr]
            · cases h
          · cases h
        · cases h
    · cases h

/-! ### equal stores -/
mutual
theorem beq_eq : ∀ (x y : AV), AV.beq x y = true → x = y
  | .undef, y, h => by cases y <;> simp_all [AV.beq]
  | .int k n, y, h => by cases y <;> simp_all [AV.beq]
  | .bool b, y, h => by cases y <;> simp_all [AV.beq]
  | .str s, y, h => by cases y <;> simp_all [AV.beq]
  | .agg cs, y, h => by
    cases y <;> simp [AV.beq] at h
    rw [beqL_eq _ _ h]
  | .tup vs, y, h => by
    cases y <;> simp [AV.beq] at h
    rw [beqL_eq _ _ h]
  | .sl o es, y, h => by
    cases y <;> simp [AV.beq] at h
    rw [h.1, beqL_eq _ _ h.2]
  | .box i j, y, h => by cases y <;> simp_all [AV.beq]
  | .el v, y, h => by
    cases y <;> simp [AV.beq] at h
    rw [beq_eq _ _ h]
  | .fn f a b, y, h => by
    cases y <;> simp [AV.beq] at h
    rw [h.1.1, beqL_eq _ _ h.1.2, beqL_eq _ _ h.2]
  | .nilfn, y, h => by cases y <;> simp_all [AV.beq]
  | .nilp, y, h => by cases y <;> simp_all [AV.beq]
  | .nilm, y, h => by cases y <;> simp_all [AV.beq]
  | .skp, y, h => by cases y <;> simp_all [AV.beq]
  | .bsl i o n s a, y, h => by cases y <;> simp_all [AV.beq]
theorem beqL_eq : ∀ (x y : List AV), AV.beqL x y = true → x = y
  | [], y, h => by cases y <;> simp_all [AV.beqL]
  | x :: xs, y, h => by
    cases y with
    | nil => simp [AV.beqL] at h
    | cons y ys =>
      simp [AV.beqL] at h
      rw [beq_eq _ _ h.1, beqL_eq _ _ h.2]
end
theorem sameSt_eq {a b : St} (h : sameSt a b = true) : a = b := by
  unfold sameSt at h
  simp only [Bool.and_eq_true, decide_eq_true_eq] at h
  cases a; cases b
  simp only at h
  rw [beqL_eq _ _ h.1, h.2]
mutual
theorem beq_refl : ∀ (x : AV), AV.beq x x = true
  | .undef => rfl
  | .int k n => by simp [AV.beq]
  | .bool b => by simp [AV.beq]
  | .str s => by simp [AV.beq]
  | .agg cs => by simp [AV.beq, beqL_refl cs]
  | .tup vs => by simp [AV.beq, beqL_refl vs]
  | .sl o es => by simp [AV.beq, beqL_refl es]
  | .box i j => by simp [AV.beq]
  | .el v => by simp [AV.beq, beq_refl v]
  | .fn f a b => by simp [AV.beq, beqL_refl a, beqL_refl b]
  | .nilfn => rfl
  | .nilp => rfl
  | .nilm => rfl
  | .skp => rfl
  | .bsl .. => by simp [AV.beq]
theorem beqL_refl : ∀ (x : List AV), AV.beqL x x = true
  | [] => rfl
  | x :: xs => by simp [AV.beqL, beq_refl x, beqL_refl xs]
end
theorem sameSt_refl (a : St) : sameSt a a = true := by simp [sameSt, beqL_refl]

/-- a value that knows the first n variables alone -/
structure Ctx.LeU (n : Nat) (R R' : Ctx) : Prop where
  cell : ∀ a x, R.cell a x → R'.cell a x
  mu : ∀ i b, i < n → R.mu i = some b → R'.mu i = some b
  own : ∀ r ver v, R.own r ver v → R'.own r ver v
mutual
theorem Rep.under {n : Nat} {R R' : Ctx} (h : R.LeU n R') : ∀ (x : AV) (v : Value), x.under n = true → Rep R x v → Rep R' x v
  | .undef, _, _, _ => by simp only [Rep]
  | .int k n, v, _, q => by simpa only [Rep] using q
  | .bool b, v, _, q => by simpa only [Rep] using q
  | .str s, v, _, q => by simpa only [Rep] using q
  | .agg cs, v, hc, q => by
    simp only [Rep] at q ⊢
    obtain ⟨⟨l, e, hl⟩, h1⟩ := q
    exact ⟨⟨l, e, RepL.under h cs _ (by simpa [AV.under] using hc) hl⟩, h1⟩
  | .tup vs, v, hc, q => by
    simp only [Rep] at q ⊢
    obtain ⟨l, e, hl⟩ := q
    exact ⟨l, e, RepL.under h vs _ (by simpa [AV.under] using hc) hl⟩
  | .sl o es, v, hc, q => by
    simp only [Rep] at q ⊢
    obtain ⟨a, c, e, h1, h2, h3, ad, sz, h4, h5⟩ := q
    exact ⟨a, c, e, h1, h2, h3.mono h.own, ad, sz, h4, RepEls.under h ad sz es 0 (by simpa [AV.under] using hc) h5⟩
  | .box id off, v, hc, q => by
    simp only [Rep] at q ⊢
    obtain ⟨b, hb, e⟩ := q
    exact ⟨b, h.mu _ _ (by simpa [AV.under] using hc) hb, e⟩
  | .el u, v, hc, q => by
    simp only [Rep] at q ⊢
    obtain ⟨a, V, e, h1, h2, h3⟩ := q
    exact ⟨a, V, e, h1, Rep.under h u V (by simpa [AV.under] using hc) h2, h3.mono h.cell⟩
  | .fn f x y, v, hc, q => by
    simp only [Rep] at q ⊢
    obtain ⟨A, B, e, h1, h2⟩ := q
    simp [AV.under] at hc
    exact ⟨A, B, e, RepL.under h x _ hc.1 h1, RepL.under h y _ hc.2 h2⟩
  | .nilfn, v, _, q => by simpa only [Rep] using q
  | .nilp, v, _, q => by simpa only [Rep] using q
  | .nilm, v, _, q => by simpa only [Rep] using q
  | .skp, v, _, q => by simpa only [Rep] using q
theorem RepL.under {n : Nat} {R R' : Ctx} (h : R.LeU n R') : ∀ (l : List AV) (vs : List Value), AV.underL n l = true → RepL R l vs → RepL R' l vs
  | [], vs, _, q => by simpa only [RepL] using q
  | x :: xs, vs, hc, q => by
    simp only [RepL] at q ⊢
    simp [AV.underL] at hc
    obtain ⟨v, us, e, h1, h2⟩ := q
    exact ⟨v, us, e, Rep.under h x v hc.1 h1, RepL.under h xs us hc.2 h2⟩
theorem RepEls.under {n : Nat} {R R' : Ctx} (h : R.LeU n R') (ad : Addr) (sz : Nat) : ∀ (l : List AV) (i : Nat), AV.underL n l = true → RepEls R ad sz i l → RepEls R' ad sz i l
  | [], i, _, q => by simp only [RepEls]
  | x :: xs, i, hc, q => by
    simp only [RepEls] at q ⊢
    simp [AV.underL] at hc
    obtain ⟨⟨h1, V, h2, h3, h4⟩, h5⟩ := q
    exact ⟨⟨h1, V, Rep.under h x V hc.1 h2, h3, h4.mono h.cell⟩, RepEls.under h ad sz xs (i + 1) hc.2 h5⟩
end

/-! ### the trace -/
def footAt (T : Tab) (ls : List SOper) (tr : Nat → Env × St) (i : Nat) : Foot :=
  match ls[i]? with
  | some o => if wanted o.guard (tr i).1 = some true then footOf T o.op (tr i).1 else .no
  | none => .no
structure Trace (T : Tab) (r : Rec) (fl : Nat) (ls : List SOper) (tr : Nat → Env × St) : Prop where
  step : ∀ i o, ls[i]? = some o →
    (wanted o.guard (tr i).1 = some true ∧ ∃ v, aop T r fl o.op (tr i).1 (tr i).2 = some (v, (tr (i + 1)).2) ∧ (tr (i + 1)).1 = (tr i).1.put o.dst v ∧ quietOk o.op (tr i).1 (footOf T o.op (tr i).1) (tr i).2 (tr (i + 1)).2 = true) ∨
    (wanted o.guard (tr i).1 = some false ∧ tr (i + 1) = ((tr i).1.put o.dst .skp, (tr i).2))
  conf : ∀ i j o, i < j → ls[j]? = some o → (footAt T ls tr i).conf (footAt T ls tr j) = true → i ∈ o.bef
theorem trace_of : ∀ (ls : List SOper) (k : Nat) (acc : List (Nat × Foot)) (e e' : Env) (σ σ' : St), ops T r fl true k acc ls e σ = some (e', σ') →
    ∃ tr : Nat → Env × St, tr 0 = (e, σ) ∧ tr ls.length = (e', σ') ∧
      (∀ i o, ls[i]? = some o →
        (wanted o.guard (tr i).1 = some true ∧ ∃ v, aop T r fl o.op (tr i).1 (tr i).2 = some (v, (tr (i + 1)).2) ∧ (tr (i + 1)).1 = (tr i).1.put o.dst v ∧ quietOk o.op (tr i).1 (footOf T o.op (tr i).1) (tr i).2 (tr (i + 1)).2 = true) ∨
        (wanted o.guard (tr i).1 = some false ∧ tr (i + 1) = ((tr i).1.put o.dst .skp, (tr i).2))) ∧
      (∀ i j o, i < j → ls[j]? = some o → (footAt T ls tr i).conf (footAt T ls tr j) = true → k + i ∈ o.bef) ∧
      (∀ j o, ls[j]? = some o → ∀ p ∈ acc, p.2.conf (footAt T ls tr j) = true → p.1 ∈ o.bef)
  | [], k, acc, e, e', σ, σ', h => by
    simp only [ops, Option.some.injEq, Prod.mk.injEq] at h
    obtain ⟨rfl, rfl⟩ := h
    exact ⟨fun _ => (e, σ), rfl, rfl, fun i o h => by simp at h, fun i j o _ h => by simp at h, fun j o h => by simp at h⟩
  | o :: ls, k, acc, e, e', σ, σ', h => by
    simp only [ops] at h
    -- the first operation's foot, and what follows
    have key : ∀ (e1 : Env) (σ1 : St) (f : Foot) (acc' : List (Nat × Foot)), ops T r fl true (k + 1) acc' ls e1 σ1 = some (e', σ') → (if wanted o.guard e = some true then footOf T o.op e else .no) = f →
        ((wanted o.guard e = some true ∧ ∃ v, aop T r fl o.op e σ = some (v, σ1) ∧ e1 = e.put o.dst v ∧ quietOk o.op e (footOf T o.op e) σ σ1 = true) ∨ (wanted o.guard e = some false ∧ (e1, σ1) = (e.put o.dst .skp, σ))) →
        (∀ p ∈ acc, p ∈ acc') → (f ≠ .no → (k, f) ∈ acc') → (∀ p ∈ acc, p.2.conf f = true → p.1 ∈ o.bef) →
        ∃ tr : Nat → Env × St, tr 0 = (e, σ) ∧ tr (o :: ls).length = (e', σ') ∧
          (∀ i o', (o :: ls)[i]? = some o' →
            (wanted o'.guard (tr i).1 = some true ∧ ∃ v, aop T r fl o'.op (tr i).1 (tr i).2 = some (v, (tr (i + 1)).2) ∧ (tr (i + 1)).1 = (tr i).1.put o'.dst v ∧ quietOk o'.op (tr i).1 (footOf T o'.op (tr i).1) (tr i).2 (tr (i + 1)).2 = true) ∨
            (wanted o'.guard (tr i).1 = some false ∧ tr (i + 1) = ((tr i).1.put o'.dst .skp, (tr i).2))) ∧
          (∀ i j o', i < j → (o :: ls)[j]? = some o' → (footAt T (o :: ls) tr i).conf (footAt T (o :: ls) tr j) = true → k + i ∈ o'.bef) ∧
          (∀ j o', (o :: ls)[j]? = some o' → ∀ p ∈ acc, p.2.conf (footAt T (o :: ls) tr j) = true → p.1 ∈ o'.bef) := by
      intro e1 σ1 f acc' hops hf hstep hacc hin hc0
      obtain ⟨tr, h0, h1, h2, h3, h4⟩ := trace_of ls (k + 1) acc' e1 e' σ1 σ' hops
      refine ⟨fun i => if i = 0 then (e, σ) else tr (i - 1), by simp, by simp [h1], ?_, ?_, ?_⟩
      · intro i o' hi
        cases i with
        | zero =>
          simp at hi; subst hi
          simp only [if_true, Nat.zero_add, Nat.add_one_ne_zero, if_false, Nat.add_sub_cancel, Nat.sub_self, h0]
          simpa using hstep
        | succ i =>
          have := h2 i o' (by simpa using hi)
          simpa using this
      · have hfa : ∀ i, footAt T (o :: ls) (fun i => if i = 0 then (e, σ) else tr (i - 1)) (i + 1) = footAt T ls tr i := by
          intro i; simp [footAt]
        have hf0 : footAt T (o :: ls) (fun i => if i = 0 then (e, σ) else tr (i - 1)) 0 = f := by simpa [footAt] using hf
        intro i j o' hij hj hconf
        cases j with
        | zero => omega
        | succ j =>
          rw [hfa] at hconf
          have hj' : ls[j]? = some o' := by simpa using hj
          cases i with
          | zero =>
            rw [hf0] at hconf
            have hne : f ≠ .no := by rintro rfl; simp [Foot.conf] at hconf
            exact h4 j o' hj' (k, f) (hin hne) hconf
          | succ i =>
            rw [hfa] at hconf
            have := h3 i j o' (by omega) hj' hconf
            rwa [show k + 1 + i = k + (i + 1) from by omega] at this
      · have hfa : ∀ i, footAt T (o :: ls) (fun i => if i = 0 then (e, σ) else tr (i - 1)) (i + 1) = footAt T ls tr i := by
          intro i; simp [footAt]
        have hf0 : footAt T (o :: ls) (fun i => if i = 0 then (e, σ) else tr (i - 1)) 0 = f := by simpa [footAt] using hf
        intro j o' hj p hp hconf
        cases j with
        | zero =>
          simp at hj; subst hj
          rw [hf0] at hconf
          exact hc0 p hp hconf
        | succ j =>
          rw [hfa] at hconf
          exact h4 j o' (by simpa using hj) p (hacc p hp) hconf
    split at h
    · rename_i hw
      split at h
      · rename_i v σ1 ha
        simp only [if_true] at h
        split at h
        · rename_i hcond
          simp only [Bool.and_eq_true] at hcond
          refine key _ σ1 (footOf T o.op e) _ h (by simp [hw]) (.inl ⟨hw, v, ha, rfl, hcond.2⟩) ?_ ?_ ?_
          · intro p hp
            split
            · exact hp
            · exact List.mem_cons_of_mem _ hp
          · intro hne
            rw [if_neg hne]
            exact List.mem_cons_self
          · intro p hp hconf
            have := List.all_eq_true.1 hcond.1 p hp
            simp only [Bool.or_eq_true, Bool.not_eq_true'] at this
            rcases this with q | q
            · rw [q] at hconf; cases hconf
            · exact List.contains_iff_mem.1 q
        · cases h
      · cases h
    · rename_i hw
      refine key _ σ .no _ h (by simp [hw]) (.inr ⟨hw, rfl⟩) (fun p hp => hp) (fun q => absurd rfl q) ?_
      intro p hp hconf
      cases hp2 : p.2 <;> rw [hp2] at hconf <;> simp [Foot.conf] at hconf
    · cases h
end
end Go.Rb

namespace Go.Rb
set_option linter.unusedVariables false
set_option linter.unusedSimpArgs false

section
variable {P : Program} {Z : Addr → Prop} {T : Tab} {r : Rec} {fl : Nat} {ls : List SOper} {tr : Nat → Env × St}

def dstAt (ls : List SOper) (i : Nat) : Option Nat := (ls[i]?).bind (·.dst)
def allocAt (ls : List SOper) (tr : Nat → Env × St) (i : Nat) : Prop := ∃ o, ls[i]? = some o ∧ wanted o.guard (tr i).1 = some true ∧ isAlloc o.op = true
def touch (T : Tab) (ls : List SOper) (tr : Nat → Env × St) (i id : Nat) : Prop := footAt T ls tr i = .wr id ∨ (allocAt ls tr i ∧ (tr i).2.boxes.length = id)

theorem quiet_all {o : SOp} {e : Env} {σ σ' : St} (h : quietOk o e .all σ σ' = true) : ∃ g l gg args, o = .call g l ∧ callee (g.ev e) (l.map (·.ev e)) = some (gg, args) ∧ σ = σ' ∧ AV.underL σ.boxes.length args = true ∧ AV.underL σ.boxes.length σ.boxes = true := by
  cases o <;> simp only [quietOk] at h <;> first | (cases h; done) | skip
  case call g l =>
    split at h
    · rename_i gg args hc
      simp only [Bool.and_eq_true] at h
      exact ⟨g, l, gg, args, rfl, hc, sameSt_eq h.1.1, h.1.2, h.2⟩
    · cases h

/-- what a step turns -/
inductive Kind (T : Tab) (r : Rec) (fl : Nat) (ls : List SOper) (tr : Nat → Env × St) (i : Nat) (o : SOper) : Prop where
  | skip (hw : wanted o.guard (tr i).1 = some false) (he : tr (i + 1) = ((tr i).1.put o.dst .skp, (tr i).2))
  | alloc (hw : wanted o.guard (tr i).1 = some true) (ha : isAlloc o.op = true) (he : (tr (i + 1)).1 = (tr i).1.put o.dst (.box (tr i).2.boxes.length 0)) (hs : (tr (i + 1)).2 = { (tr i).2 with boxes := (tr i).2.boxes ++ [made o.op (tr i).1] })
  | other (v : AV) (hw : wanted o.guard (tr i).1 = some true) (ha : isAlloc o.op = false) (h : aop T r fl o.op (tr i).1 (tr i).2 = some (v, (tr (i + 1)).2)) (he : (tr (i + 1)).1 = (tr i).1.put o.dst v)
      (hq : quietOk o.op (tr i).1 (footOf T o.op (tr i).1) (tr i).2 (tr (i + 1)).2 = true)
theorem Trace.kind (H : Trace T r fl ls tr) {i : Nat} {o : SOper} (hi : ls[i]? = some o) : Kind T r fl ls tr i o := by
  rcases H.step i o hi with ⟨hw, v, h, he, hq⟩ | ⟨hw, he⟩
  · by_cases ha : isAlloc o.op = true
    · obtain ⟨q1, q2, _, _⟩ := eff_alloc ha h
      subst q1
      exact .alloc hw ha he q2
    · exact .other v hw (by simpa using ha) h he hq
  · exact .skip hw he
theorem footAt_of {i : Nat} {o : SOper} (hi : ls[i]? = some o) (hw : wanted o.guard (tr i).1 = some true) : footAt T ls tr i = footOf T o.op (tr i).1 := by simp [footAt, hi, hw]
theorem footAt_skip {i : Nat} {o : SOper} (hi : ls[i]? = some o) (hw : wanted o.guard (tr i).1 = some false) : footAt T ls tr i = .no := by simp [footAt, hi, hw]
theorem allocAt_iff {i : Nat} {o : SOper} (hi : ls[i]? = some o) : allocAt ls tr i ↔ wanted o.guard (tr i).1 = some true ∧ isAlloc o.op = true := by
  constructor
  · rintro ⟨o', h1, h2, h3⟩
    rw [hi] at h1; injection h1 with h1; subst h1
    exact ⟨h2, h3⟩
  · rintro ⟨h2, h3⟩; exact ⟨o, hi, h2, h3⟩

theorem step_boxes (H : Trace T r fl ls tr) {i : Nat} (hi : i < ls.length) (id : Nat) (hn : ¬ touch T ls tr i id) : (tr (i + 1)).2.boxes[id]? = (tr i).2.boxes[id]? := by
  have ho : ls[i]? = some ls[i] := List.getElem?_eq_getElem hi
  cases H.kind ho with
  | skip hw he => rw [he]
  | alloc hw ha he hs =>
    rw [hs]
    have hne : (tr i).2.boxes.length ≠ id := fun e => hn (.inr ⟨(allocAt_iff ho).2 ⟨hw, ha⟩, e⟩)
    simp only
    by_cases hlt : id < (tr i).2.boxes.length
    · rw [List.getElem?_append_left hlt]
    · rw [List.getElem?_eq_none (by simp; omega), List.getElem?_eq_none (by omega)]
  | other v hw ha h he hq =>
    have hf := footAt_of (T := T) ho hw
    cases hff : footOf T ls[i].op (tr i).1 with
    | no => obtain ⟨e, _⟩ := eff_pure ha hff h; rw [e]
    | rd k => obtain ⟨e, _⟩ := eff_rd hff h; rw [e]
    | wr k =>
      obtain ⟨_, c', hlt, e, _⟩ := eff_wr hff h
      rw [e]
      have hne : k ≠ id := fun e => hn (.inl (by rw [hf, hff, e]))
      simp only
      rw [List.getElem?_set_ne hne]
    | row => obtain ⟨_, e, _⟩ := eff_row hff h; rw [e]
    | all =>
      rw [hff] at hq
      obtain ⟨_, _, _, _, _, _, e, _⟩ := quiet_all hq
      rw [← e]
theorem step_rows (H : Trace T r fl ls tr) {i : Nat} (hi : i < ls.length) (hn : footAt T ls tr i ≠ .row) : (tr (i + 1)).2.rows = (tr i).2.rows := by
  have ho : ls[i]? = some ls[i] := List.getElem?_eq_getElem hi
  cases H.kind ho with
  | skip hw he => rw [he]
  | alloc hw ha he hs => rw [hs]
  | other v hw ha h he hq =>
    have hf := footAt_of (T := T) ho hw
    cases hff : footOf T ls[i].op (tr i).1 with
    | no => obtain ⟨e, _⟩ := eff_pure ha hff h; rw [e]
    | rd k => obtain ⟨e, _⟩ := eff_rd hff h; rw [e]
    | wr k => obtain ⟨_, c', hlt, e, _⟩ := eff_wr hff h; rw [e]
    | row => exact absurd (hf.trans hff) hn
    | all =>
      rw [hff] at hq
      obtain ⟨_, _, _, _, _, _, e, _⟩ := quiet_all hq
      rw [← e]

theorem boxes_mono (H : Trace T r fl ls tr) (hL : LenOk r) {i : Nat} (hi : i < ls.length) : (tr i).2.boxes.length ≤ (tr (i + 1)).2.boxes.length := by
  have ho : ls[i]? = some ls[i] := List.getElem?_eq_getElem hi
  cases H.kind ho with
  | skip hw he => rw [he]; exact Nat.le_refl _
  | alloc hw ha he hs => rw [hs]; simp
  | other v hw ha h he hq => exact aop_len hL h
theorem boxes_le (H : Trace T r fl ls tr) (hL : LenOk r) : ∀ {j k : Nat}, j ≤ k → k ≤ ls.length → (tr j).2.boxes.length ≤ (tr k).2.boxes.length := by
  intro j k hjk
  induction hjk with
  | refl => intro _; exact Nat.le_refl _
  | step _ ih => intro hk; exact Nat.le_trans (ih (by omega)) (boxes_mono H hL (by omega))
theorem range_boxes (H : Trace T r fl ls tr) (id : Nat) : ∀ {j k : Nat}, j ≤ k → k ≤ ls.length → (∀ i, j ≤ i → i < k → ¬ touch T ls tr i id) → (tr k).2.boxes[id]? = (tr j).2.boxes[id]? := by
  intro j k hjk
  induction hjk with
  | refl => intro _ _; rfl
  | step hjk ih =>
    intro hk hn
    rw [step_boxes H (by omega) id (hn _ hjk (by omega))]
    exact ih (by omega) fun i h1 h2 => hn i h1 (by omega)
theorem range_rows (H : Trace T r fl ls tr) : ∀ {j k : Nat}, j ≤ k → k ≤ ls.length → (∀ i, j ≤ i → i < k → footAt T ls tr i ≠ .row) → (tr k).2.rows = (tr j).2.rows := by
  intro j k hjk
  induction hjk with
  | refl => intro _ _; rfl
  | step hjk ih =>
    intro hk hn
    rw [step_rows H (by omega) (hn _ hjk (by omega))]
    exact ih (by omega) fun i h1 h2 => hn i h1 (by omega)
theorem get_put (e : Env) (d : Option Nat) (v : AV) (t : Nat) : (e.put d v).get t = if d = some t then v else e.get t := by
  cases d with
  | none => simp [Env.put]
  | some k => simp [Env.put, Env.get]
theorem step_env (H : Trace T r fl ls tr) {i : Nat} (hi : i < ls.length) (t : Nat) (hn : dstAt ls i ≠ some t) : (tr (i + 1)).1.get t = (tr i).1.get t := by
  have ho : ls[i]? = some ls[i] := List.getElem?_eq_getElem hi
  have hd : ls[i].dst ≠ some t := fun e => hn (by simp [dstAt, ho, e])
  cases H.kind ho with
  | skip hw he => rw [he, get_put, if_neg hd]
  | alloc hw ha he hs => rw [he, get_put, if_neg hd]
  | other v hw ha h he hq => rw [he, get_put, if_neg hd]
theorem range_env (H : Trace T r fl ls tr) (t : Nat) : ∀ {j k : Nat}, j ≤ k → k ≤ ls.length → (∀ i, j ≤ i → i < k → dstAt ls i ≠ some t) → (tr k).1.get t = (tr j).1.get t := by
  intro j k hjk
  induction hjk with
  | refl => intro _ _; rfl
  | step hjk ih =>
    intro hk hn
    rw [step_env H (by omega) t (hn _ hjk (by omega))]
    exact ih (by omega) fun i h1 h2 => hn i h1 (by omega)

/-- when so many are done: what holds -/
structure DInv (P : Program) (Z : Addr → Prop) (T : Tab) (ls : List SOper) (tr : Nat → Env × St) (w0 : World) (μ0 : Mu) (ν0 : Nu) (nt : Nat) (d : List Deferred) (L : Array Bool) (eS : Env) (σS : St) (μ : Mu) (ν : Nu) (a : Act) (w : World) : Prop where
  size : L.size = ls.length
  cl : ∀ j o, ls[j]? = some o → L.getD j false = true → ∀ i ∈ o.bef, L.getD i false = true
  len : σS.boxes.length = (tr ls.length).2.boxes.length
  box : ∀ id k c, k ≤ ls.length → (∀ i, i < ls.length → touch T ls tr i id → (L.getD i false = true ↔ i < k)) → (tr k).2.boxes[id]? = some c → σS.boxes[id]? = some c
  rows : ∀ k, k ≤ ls.length → (∀ i, i < ls.length → footAt T ls tr i = .row → (L.getD i false = true ↔ i < k)) → σS.rows = (tr k).2.rows
  env : ∀ t k, k ≤ ls.length → (∀ i, i < ls.length → dstAt ls i = some t → (L.getD i false = true ↔ i < k)) → eS.get t = (tr k).1.get t
  dom : ∀ id b, μ id = some b → id < (tr 0).2.boxes.length ∨ ∃ i, i < ls.length ∧ L.getD i false = true ∧ allocAt ls tr i ∧ (tr i).2.boxes.length = id
  hist : ∀ i id, i < ls.length → L.getD i false = true → footAt T ls tr i = .wr id → id < (tr 0).2.boxes.length ∨ ∃ i, i < ls.length ∧ L.getD i false = true ∧ allocAt ls tr i ∧ (tr i).2.boxes.length = id
  G : Grow (tr 0).2.boxes.length w0 μ0 ν0 (tr 0).2.rows w μ ν σS.rows
  S : Sim Z w μ ν σS
  E : EnvRep (ctx Z w μ ν σS.rows) eS a.tmps
  tsz : a.tmps.size = nt
  dfr : a.defers = d

theorem Grow.weak {n m : Nat} (h : m ≤ n) {w w' : World} {μ μ' : Mu} {ν ν' : Nu} {R R' : List Row} (G : Grow n w μ ν R w' μ' ν' R') : Grow m w μ ν R w' μ' ν' R' :=
  { toKeep := G.toKeep, mu := G.mu, nun := G.nun, vers := G.vers
    mun := fun i b hi => (G.mun i b hi).imp id fun q => ⟨Nat.le_trans h q.1, q.2⟩ }

/-- a variable that is made at a place that was kept for it -/
theorem sim_put {σ : St} {w : World} {μ : Mu} {ν : Nu} (S : Sim Z w μ ν σ) {c : AV} {V : Value} (hr : Rep (ctx Z w μ ν σ.rows) c V) (ho : c.okv = true) (t : TypeId) {id m : Nat} (hμ : μ id = none) (hid : id < σ.boxes.length) (hm : m ≤ id) :
    Grow m w μ ν σ.rows (w.alloc (.cells V.cells t)) (upd μ id w.heap.size) ν σ.rows ∧ Sim Z (w.alloc (.cells V.cells t)) (upd μ id w.heap.size) ν { σ with boxes := σ.boxes.set id c } := by
  have hold : ∀ b, b < w.heap.size → (w.alloc (.cells V.cells t)).heap[b]? = w.heap[b]? := fun b hb => alloc_old w _ hb
  have hne : ∀ i b, μ i = some b → i ≠ id := fun i b hi e => by subst e; rw [hμ] at hi; cases hi
  have G : Grow m w μ ν σ.rows (w.alloc (.cells V.cells t)) (upd μ id w.heap.size) ν σ.rows :=
    { os := rfl, tape := rfl, output := rfl, size := by show _ ≤ (w.heap.push _).size; simp
      blocks := fun b hb _ _ => hold b hb
      rows := fun r b u v hr off _ => World.cell?_of_block (hold b (S.rlt hr))
      mu := fun i b hi => by simp [upd, hne i b hi, hi]
      mun := fun i b hi => by
        unfold upd at hi
        split at hi
        · injection hi with hi; exact .inr ⟨by omega, by omega⟩
        · exact .inl hi
      nun := fun r b u v hr => .inr ⟨u, v, hr, Nat.le_refl _⟩
      vers := fun r cur hc => ⟨cur, hc, rfl, rfl, Nat.le_refl _, fun _ => rfl⟩ }
  refine ⟨G, ?_⟩
  have hcells := hr.cells ho
  refine { inj := ?_, box := ?_, row := ?_, rinj := S.rinj, disj := ?_, fresh := fun ad h => S.fresh ad (Nat.le_trans G.size h), rowZ := S.rowZ }
  · intro i j b hi hj
    unfold upd at hi hj
    split at hi
    · injection hi with hi
      split at hj
      · omega
      · have := S.lt hj; omega
    · split at hj
      · injection hj with hj; have := S.lt hi; omega
      · exact S.inj i j b hi hj
  · intro i b hi
    unfold upd at hi
    split at hi
    · rename_i e; subst e
      injection hi with hi; subst hi
      exact ⟨c, V.cells, t, by simp [hid], hcells.2, ho, alloc_new w _, RepL.mono G.le _ _ hcells.1⟩
    · rename_i e
      obtain ⟨d, arr, t', h1, h2, h3, h4, h5⟩ := S.box i b hi
      refine ⟨d, arr, t', ?_, h2, h3, ?_, RepL.mono G.le _ _ h5⟩
      · simp only
        rw [List.getElem?_set_ne (Ne.symm e)]; exact h1
      · rw [hold b (S.lt hi)]; exact h4
  · intro r b u v hr'
    obtain ⟨cur0, n, xs, h1, h2, h3, h4⟩ := S.row r b u v hr'
    exact ⟨cur0, n, xs, h1, h2, own_other h3 h2 (hold b (S.rlt hr')), h4⟩
  · intro i b r u v hi hr'
    unfold upd at hi
    split at hi
    · injection hi with hi; have := S.rlt hr'; omega
    · exact S.disj i b r u v hi hr'

theorem underL_get {n : Nat} : ∀ {l : List AV} {i : Nat} {x : AV}, AV.underL n l = true → l[i]? = some x → x.under n = true
  | [], i, x, _, h => by simp at h
  | y :: l, 0, x, hu, h => by simp at h; subst h; simp [AV.underL] at hu; exact hu.1
  | y :: l, i + 1, x, hu, h => by simp [AV.underL] at hu; exact underL_get hu.2 (by simpa using h)
theorem underL_cells {n : Nat} {x : AV} (h : x.under n = true) : AV.underL n x.cells = true := by
  cases x <;> simp_all [AV.cells, AV.under, AV.underL]
/-- a quiet call in the caller's store -/
theorem ok_quiet (H : CallOk P r) {o : Oper} {a : Act} {σS σj : St} {w : World} {μ : Mu} {ν : Nu} {c : Call} {f : Operand} {f' : X} {args' : List X} {E : Env} {g : Nat} {l : List AV} {v : AV} (ho : o.op = .call c) (hc : c.callee = .value f) (hf : compX f = some f') (ha : compXs c.args.toList = some args')
    (S : Sim Z w μ ν σS) (hE : EnvRep (ctx Z w μ ν σS.rows) E a.tmps) (hcal : callee (f'.ev E) (args'.map (·.ev E)) = some (g, l)) (h : r.call g l σj = some (v, σj)) (hrows : σS.rows = σj.rows)
    (hbox : ∀ id b, μ id = some b → id < σj.boxes.length → σj.boxes[id]? = σS.boxes[id]?) (hu : AV.underL σj.boxes.length l = true) (hub : AV.underL σj.boxes.length σj.boxes = true) (hle : σj.boxes.length ≤ σS.boxes.length) : OpOk P Z o a w μ ν σS v σS := by
  have hp := compX_rep hE hf
  have hq := compXs_rep hE ha
  unfold callee at hcal
  split at hcal
  · rename_i g' fst cap hfn
    simp only [Option.some.injEq, Prod.mk.injEq] at hcal
    obtain ⟨rfl, rfl⟩ := hcal
    rw [hfn] at hp
    simp only [Rep] at hp
    obtain ⟨A, B, hv, hA, hB⟩ := hp
    have hvals : RepL (ctx Z w μ ν σS.rows) (fst ++ args'.map (·.ev E) ++ cap) (A ++ c.args.map a.eval ++ B).toList := by
      simp only [Array.toList_append, Array.toList_map]
      exact (hA.append hq).append hB
    -- the store that the call knows
    let μr : Mu := fun i => if i < σj.boxes.length then μ i else none
    let Z' : Addr → Prop := fun ad => (∀ i, μ i ≠ some ad.block) ∧ Z ad
    have hμr : ∀ i b, μr i = some b → μ i = some b ∧ i < σj.boxes.length := by
      intro i b hi
      simp only [μr] at hi
      split at hi
      · rename_i hlt; exact ⟨hi, hlt⟩
      · cases hi
    have hle' : (ctx Z w μ ν σS.rows).LeU σj.boxes.length (ctx Z' w μr ν σj.rows) :=
      { cell := fun ad x hc => ⟨hc.1, fun i hi => hc.2.1 i (hμr i _ hi).1, hc.2.2.1, hc.2.1, hc.2.2.2⟩
        mu := fun i b hi hm => by simp only [ctx, μr, if_pos hi]; exact hm
        own := fun r ver v hc => by rw [← hrows]; exact hc }
    have hleL : (ctx Z w μ ν σS.rows).Le (ctx Z w μ ν σS.rows) := Ctx.Le.refl _
    have S' : Sim Z' w μr ν σj :=
      { inj := fun i j b hi hj => S.inj i j b (hμr i b hi).1 (hμr j b hj).1
        box := fun i b hi => by
          obtain ⟨hm, hlt⟩ := hμr i b hi
          obtain ⟨d, arr, t', h1, h2, h3, h4, h5⟩ := S.box i b hm
          have h1' : σj.boxes[i]? = some d := by rw [hbox i b hm hlt]; exact h1
          refine ⟨d, arr, t', h1', h2, h3, h4, RepL.under hle' _ _ (underL_cells (underL_get hub h1')) h5⟩
        row := fun s b u v hs => by rw [← hrows]; exact S.row s b u v hs
        rinj := S.rinj
        disj := fun i b s u v hi => S.disj i b s u v (hμr i b hi).1
        fresh := fun ad had => ⟨fun i hi => by have := S.lt hi; omega, S.fresh ad had⟩
        rowZ := fun s b u v hs off => ⟨fun i hi => S.disj i b s u v hi hs, S.rowZ s b u v hs off⟩ }
    intro K Q hK
    unfold Oper.wp
    obtain ⟨hent, hcalls⟩ := H _ _ _ _ _ h
    rw [run_call_value ho hc hv hent]
    refine (hcalls Z' w μr ν _ S' (RepL.under hle' _ _ hu hvals)).mono ?_
    rintro e w' ⟨V, μ', ν', rfl, G, S2, hV⟩
    have hμ' : ∀ i b, μ' i = some b → μr i = some b := by
      intro i b hi
      rcases G.mun i b hi with q | ⟨q, _⟩
      · exact q
      · have := S2.dom hi; omega
    have hν' : ν' = ν := by
      funext s
      cases hs : ν' s with
      | none =>
        cases hs0 : ν s with
        | none => rfl
        | some p =>
          obtain ⟨b, u, v⟩ := p
          obtain ⟨cur, _, _, hc, _⟩ := S'.row s b u v hs0
          obtain ⟨cur', hc', _, _, _, he⟩ := G.vers s cur hc
          rw [hc] at hc'; injection hc' with hc'; subst hc'
          rw [he rfl, hs0] at hs; cases hs
      | some p =>
        obtain ⟨b, u, v⟩ := p
        obtain ⟨cur, _, _, hc, _⟩ := S2.row s b u v hs
        obtain ⟨cur', hc', _, _, _, he⟩ := G.vers s cur hc
        rw [hc] at hc'; injection hc' with hc'; subst hc'
        rw [he rfl] at hs; exact hs.symm
    subst hν'
    -- all blocks that the caller knows
    have G2 : Grow σS.boxes.length w μ ν' σS.rows w' μ ν' σS.rows :=
      { os := G.os, tape := G.tape, output := G.output, size := G.size
        blocks := fun b hb h1 h2 => G.blocks b hb (fun i hi => h1 i (hμr i b hi).1) h2
        rows := G.rows
        mu := fun _ _ h => h
        mun := fun _ _ h => .inl h
        nun := fun r b u v hr => .inr ⟨u, v, hr, Nat.le_refl _⟩
        vers := fun r cur hc => ⟨cur, hc, rfl, rfl, Nat.le_refl _, fun _ => rfl⟩ }
    have hback : (ctx Z' w' μ' ν' σj.rows).Le (ctx Z w' μ ν' σS.rows) :=
      { cell := fun ad x hc => ⟨hc.1, hc.2.2.2.1, hc.2.2.1, hc.2.2.2.2⟩
        mu := fun i b hi => (hμr i b (hμ' i b hi)).1
        own := fun s ver v hc => by rw [hrows]; exact hc }
    refine hK w' μ ν' V G2 ?_ (Rep.mono hback _ _ hV)
    refine { inj := S.inj, box := ?_, row := ?_, rinj := S.rinj, disj := S.disj, fresh := fun ad h => S.fresh ad (Nat.le_trans G.size h), rowZ := S.rowZ }
    · intro i b hi
      by_cases hlt : i < σj.boxes.length
      · have hi' : μ' i = some b := G.mu i b (by simp only [μr, if_pos hlt]; exact hi)
        obtain ⟨d, arr, t', h1, h2, h3, h4, h5⟩ := S2.box i b hi'
        exact ⟨d, arr, t', by rw [← hbox i b hi hlt]; exact h1, h2, h3, h4, RepL.mono hback _ _ h5⟩
      · obtain ⟨d, arr, t', h1, h2, h3, h4, h5⟩ := S.box i b hi
        refine ⟨d, arr, t', h1, h2, h3, ?_, RepL.mono G2.le _ _ h5⟩
        rw [G.blocks b (S.lt hi) (fun k hk => ?_) (fun s u v => S.disj i b s u v hi)]
        · exact h4
        · obtain ⟨hm, hlt'⟩ := hμr k b hk
          have := S.inj k i b hm hi
          omega
    · intro s b u v hs
      rw [hrows]; exact S2.row s b u v hs
  · cases hcal
end
end Go.Rb

namespace Go.Rb
set_option linter.unusedVariables false
set_option linter.unusedSimpArgs false

section
variable {P : Program} {Z : Addr → Prop} {T : Tab} {r : Rec} {fl : Nat} {ls : List SOper} {tr : Nat → Env × St}

theorem getD_set_true (L : Array Bool) (j i : Nat) (hj : j < L.size) : (L.setIfInBounds j true).getD i false = true ↔ i = j ∨ L.getD i false = true := by
  by_cases h : i = j
  · subst h; simp [Array.getD_eq_getD_getElem?, hj]
  · have : j ≠ i := fun e => h e.symm
    simp [Array.getD_eq_getD_getElem?, Array.getElem?_setIfInBounds, this, h]

theorem names_spec (hN : namesOk ls = true) {i j : Nat} {p o : SOper} (hij : i < j) (hi : ls[i]? = some p) (hj : ls[j]? = some o) : (apartD o.dst p = true ∧ apartD p.dst o = true) ∨ i ∈ o.bef := by
  unfold namesOk at hN
  have h1 := List.all_eq_true.1 hN (o, j) (by rw [List.mem_zipIdx_iff_getElem?]; exact hj)
  have h2 := List.all_eq_true.1 h1 (p, i) (by rw [List.mem_zipIdx_iff_getElem?]; exact hi)
  simp only [Bool.or_eq_true, Bool.not_eq_true', decide_eq_false_iff_not, Bool.and_eq_true] at h2
  rcases h2 with (h2 | h2) | h2
  · exact absurd hij h2
  · exact .inl h2
  · exact .inr (List.contains_iff_mem.1 h2)
theorem apartD_names {d : Nat} {p : SOper} (h : apartD (some d) p = true) : d ∉ namesOf p ∧ p.dst ≠ some d := by
  unfold apartD at h
  simp only [Bool.and_eq_true, Bool.not_eq_true', bne_iff_ne, ne_eq] at h
  exact ⟨fun hm => by rw [List.contains_iff_mem.2 hm] at h; exact absurd h.1 (by simp), h.2⟩

section
variable {w0 : World} {μ0 : Mu} {ν0 : Nu} {nt : Nat} {d : List Deferred} {L : Array Bool} {eS : Env} {σS : St} {μ : Mu} {ν : Nu} {a : Act} {w : World}

/-- operations that are in order with j are done just if they stand ahead of it -/
theorem DInv.ahead (I : DInv P Z T ls tr w0 μ0 ν0 nt d L eS σS μ ν a w) {j : Nat} {so : SOper} (hj : ls[j]? = some so) (hL : L.getD j false = false) (hr : ∀ i ∈ so.bef, L.getD i false = true) {i : Nat} {si : SOper} (hi : ls[i]? = some si)
    (h : (i < j → i ∈ so.bef) ∧ (j < i → j ∈ si.bef)) : L.getD i false = true ↔ i < j := by
  rcases Nat.lt_trichotomy i j with q | q | q
  · exact ⟨fun _ => q, fun _ => hr i (h.1 q)⟩
  · subst q; rw [hL]; simp
  · constructor
    · intro hLi
      have := I.cl i si hi hLi j (h.2 q)
      rw [hL] at this; cases this
    · intro; omega
theorem DInv.agree (I : DInv P Z T ls tr w0 μ0 ν0 nt d L eS σS μ ν a w) (hN : namesOk ls = true) {j : Nat} {so : SOper} (hj : ls[j]? = some so) (hL : L.getD j false = false) (hr : ∀ i ∈ so.bef, L.getD i false = true) : Agree (namesOf so) eS (tr j).1 := by
  intro t ht
  have hlt := (List.getElem?_eq_some_iff.1 hj).1
  refine I.env t j (by omega) fun i hi hd => ?_
  have hi' : ls[i]? = some ls[i] := List.getElem?_eq_getElem hi
  have hdst : ls[i].dst = some t := by simpa [dstAt, hi'] using hd
  refine I.ahead hj hL hr hi' ⟨fun q => ?_, fun q => ?_⟩
  · rcases names_spec hN q hi' hj with ⟨_, h2⟩ | h
    · rw [hdst] at h2; exact absurd ht (apartD_names h2).1
    · exact h
  · rcases names_spec hN q hj hi' with ⟨h1, _⟩ | h
    · rw [hdst] at h1; exact absurd ht (apartD_names h1).1
    · exact h

theorem DInv.next (I : DInv P Z T ls tr w0 μ0 ν0 nt d L eS σS μ ν a w) (Tr : Trace T r fl ls tr) (hN : namesOk ls = true) {S0 : Sim Z w0 μ0 ν0 (tr 0).2} {j : Nat} {so : SOper} {o : Oper} (hj : ls[j]? = some so) (hL : L.getD j false = false) (hr : ∀ i ∈ so.bef, L.getD i false = true)
    (hdst : so.dst = o.dst) (hdlt : ∀ t, o.dst = some t → t < nt) {v : AV} (hv : (tr (j + 1)).1 = (tr j).1.put so.dst v) {σS' : St} {μ' : Mu} {ν' : Nu} {w' : World} {V : Value}
    (hlen : σS'.boxes.length = σS.boxes.length)
    (hbox : ∀ id k c, k ≤ ls.length → (∀ i, i < ls.length → touch T ls tr i id → ((i = j ∨ L.getD i false = true) ↔ i < k)) → (tr k).2.boxes[id]? = some c → σS'.boxes[id]? = some c)
    (hrows : ∀ k, k ≤ ls.length → (∀ i, i < ls.length → footAt T ls tr i = .row → ((i = j ∨ L.getD i false = true) ↔ i < k)) → σS'.rows = (tr k).2.rows)
    (hdom : ∀ id b, μ' id = some b → μ id = some b ∨ (allocAt ls tr j ∧ (tr j).2.boxes.length = id))
    (hhist : ∀ id, footAt T ls tr j = .wr id → id < (tr 0).2.boxes.length ∨ ∃ i, i < ls.length ∧ L.getD i false = true ∧ allocAt ls tr i ∧ (tr i).2.boxes.length = id)
    (G : Grow (tr 0).2.boxes.length w μ ν σS.rows w' μ' ν' σS'.rows) (S' : Sim Z w' μ' ν' σS') (hV : Rep (ctx Z w' μ' ν' σS'.rows) v V) :
    DInv P Z T ls tr w0 μ0 ν0 nt d (L.setIfInBounds j true) (eS.put so.dst v) σS' μ' ν' (a.put o.dst V) w' := by
  have hjl := (List.getElem?_eq_some_iff.1 hj).1
  have hset : ∀ i, (L.setIfInBounds j true).getD i false = true ↔ i = j ∨ L.getD i false = true := fun i => getD_set_true L j i (by rw [I.size]; exact hjl)
  have hex : ∀ id, (∃ i, i < ls.length ∧ L.getD i false = true ∧ allocAt ls tr i ∧ (tr i).2.boxes.length = id) → ∃ i, i < ls.length ∧ (L.setIfInBounds j true).getD i false = true ∧ allocAt ls tr i ∧ (tr i).2.boxes.length = id := by
    rintro id ⟨i, h1, h2, h3, h4⟩; exact ⟨i, h1, (hset i).2 (.inr h2), h3, h4⟩
  refine { size := by simp [I.size], cl := ?_, len := by rw [hlen, I.len], box := ?_, rows := ?_, env := ?_, dom := ?_, hist := ?_, G := I.G.trans G (Nat.le_refl _) S0, S := S', E := ?_, tsz := by rw [put_size]; exact I.tsz, dfr := by rw [put_defers]; exact I.dfr }
  · intro k ok hk hLk i hi
    rw [hset]
    rcases (hset k).1 hLk with rfl | q
    · rw [hj] at hk; injection hk with hk; subst hk
      exact .inr (hr i hi)
    · exact .inr (I.cl k ok hk q i hi)
  · intro id k c hk hcond hc
    exact hbox id k c hk (fun i hi ht => by rw [← hset]; exact hcond i hi ht) hc
  · intro k hk hcond
    exact hrows k hk fun i hi ht => by rw [← hset]; exact hcond i hi ht
  · intro t k hk hcond
    rw [get_put]
    split
    · rename_i ht
      have hjk : j < k := (hcond j hjl (by simp [dstAt, hj, ht])).1 ((hset j).2 (.inl rfl))
      have e1 : (tr (j + 1)).1.get t = v := by rw [hv, get_put, if_pos ht]
      rw [range_env Tr t (show j + 1 ≤ k from hjk) hk ?_, e1]
      intro i h1 h2 hd
      have hil : i < ls.length := by omega
      have hi' : ls[i]? = some ls[i] := List.getElem?_eq_getElem hil
      have hdi : ls[i].dst = some t := by simpa [dstAt, hi'] using hd
      have hLi := (hcond i hil hd).2 h2
      rcases (hset i).1 hLi with q | q
      · omega
      · rcases names_spec hN (show j < i by omega) hj hi' with ⟨h3, _⟩ | h3
        · rw [hdi] at h3; exact (apartD_names h3).2 ht
        · have := I.cl i _ hi' q j h3
          rw [hL] at this; cases this
    · rename_i ht
      refine I.env t k hk fun i hi hd => ?_
      rw [← hcond i hi hd, hset]
      constructor
      · exact .inr
      · rintro (rfl | q)
        · exact absurd (by simpa [dstAt, hj] using hd) ht
        · exact q
  · intro id b hi
    rcases hdom id b hi with q | ⟨q1, q2⟩
    · exact (I.dom id b q).imp_right (hex id)
    · exact .inr ⟨j, hjl, (hset j).2 (.inl rfl), q1, q2⟩
  · intro i id hi hLi hf
    rcases (hset i).1 hLi with rfl | q
    · exact (hhist id hf).imp_right (hex id)
    · exact (I.hist i id hi q hf).imp_right (hex id)
  · rw [hdst]
    exact EnvRep.put (EnvRep.mono G.le I.E) (fun t ht => by rw [I.tsz]; exact hdlt t ht) hV a rfl

/-- what an operation that touches no store, or only reads, leaves -/
theorem DInv.same (I : DInv P Z T ls tr w0 μ0 ν0 nt d L eS σS μ ν a w) {j : Nat} (hna : ¬ allocAt ls tr j) (hnf : ∀ id, footAt T ls tr j ≠ .wr id) (hnr : footAt T ls tr j ≠ .row) :
    (∀ id k c, k ≤ ls.length → (∀ i, i < ls.length → touch T ls tr i id → ((i = j ∨ L.getD i false = true) ↔ i < k)) → (tr k).2.boxes[id]? = some c → σS.boxes[id]? = some c) ∧
    (∀ k, k ≤ ls.length → (∀ i, i < ls.length → footAt T ls tr i = .row → ((i = j ∨ L.getD i false = true) ↔ i < k)) → σS.rows = (tr k).2.rows) := by
  constructor
  · intro id k c hk hcond hc
    refine I.box id k c hk (fun i hi ht => ?_) hc
    rw [← hcond i hi ht]
    constructor
    · exact .inr
    · rintro (rfl | q)
      · rcases ht with ht | ⟨ht, _⟩
        · exact absurd ht (hnf id)
        · exact absurd ht hna
      · exact q
  · intro k hk hcond
    refine I.rows k hk fun i hi ht => ?_
    rw [← hcond i hi ht]
    constructor
    · exact .inr
    · rintro (rfl | q)
      · exact absurd ht hnr
      · exact q

theorem DInv.rowsAt (I : DInv P Z T ls tr w0 μ0 ν0 nt d L eS σS μ ν a w) (Tr : Trace T r fl ls tr) {j : Nat} {so : SOper} (hj : ls[j]? = some so) (hL : L.getD j false = false) (hr : ∀ i ∈ so.bef, L.getD i false = true)
    (hc : Foot.conf .row (footAt T ls tr j) = true ∧ Foot.conf (footAt T ls tr j) .row = true) : σS.rows = (tr j).2.rows := by
  have hjl := (List.getElem?_eq_some_iff.1 hj).1
  refine I.rows j (by omega) fun i hi hf => ?_
  have hi' : ls[i]? = some ls[i] := List.getElem?_eq_getElem hi
  exact I.ahead hj hL hr hi' ⟨fun q => Tr.conf i j so q hj (by rw [hf]; exact hc.1), fun q => Tr.conf j i _ q hi' (by rw [hf]; exact hc.2)⟩
/-- a variable that j touches is, by what is done, as it is in the text's order -/
theorem DInv.boxAt (I : DInv P Z T ls tr w0 μ0 ν0 nt d L eS σS μ ν a w) (Tr : Trace T r fl ls tr) (LL : LenOk r) {j : Nat} {so : SOper} (hj : ls[j]? = some so) (hL : L.getD j false = false) (hr : ∀ i ∈ so.bef, L.getD i false = true) {id b : Nat} (hμ : μ id = some b) {c : AV} (hcj : (tr j).2.boxes[id]? = some c)
    (hc : Foot.conf (.wr id) (footAt T ls tr j) = true ∧ Foot.conf (footAt T ls tr j) (.wr id) = true) : σS.boxes[id]? = some c := by
  have hjl := (List.getElem?_eq_some_iff.1 hj).1
  have hidl := (List.getElem?_eq_some_iff.1 hcj).1
  refine I.box id j c (by omega) (fun i hi ht => ?_) hcj
  have hi' : ls[i]? = some ls[i] := List.getElem?_eq_getElem hi
  rcases ht with ht | ⟨ha, hlen⟩
  · exact I.ahead hj hL hr hi' ⟨fun q => Tr.conf i j so q hj (by rw [ht]; exact hc.1), fun q => Tr.conf j i _ q hi' (by rw [ht]; exact hc.2)⟩
  · have hij : i < j := by
      rcases Nat.lt_or_ge i j with q | q
      · exact q
      · have := boxes_le Tr LL q (by omega : i ≤ ls.length); omega
    refine ⟨fun _ => hij, fun _ => ?_⟩
    rcases I.dom id b hμ with q | ⟨i', h1, h2, h3, h4⟩
    · have := boxes_le Tr LL (Nat.zero_le i) (by omega : i ≤ ls.length); omega
    · -- two that make one variable are one
      have : i' = i := by
        have strict : ∀ {x y : Nat}, x < ls.length → y < ls.length → allocAt ls tr x → x < y → (tr x).2.boxes.length < (tr y).2.boxes.length := by
          intro x y hx hy hax hxy
          have hox : ls[x]? = some ls[x] := List.getElem?_eq_getElem hx
          obtain ⟨hw, hal⟩ := (allocAt_iff hox).1 hax
          have h5 : (tr (x + 1)).2.boxes.length = (tr x).2.boxes.length + 1 := by
            cases Tr.kind hox with
            | skip hw' _ => rw [hw] at hw'; cases hw'
            | alloc _ _ _ hs => rw [hs]; simp
            | other v _ hal' _ _ _ => rw [hal] at hal'; cases hal'
          have h6 := boxes_le Tr LL (show x + 1 ≤ y by omega) (by omega : y ≤ ls.length)
          omega
        rcases Nat.lt_trichotomy i' i with q | q | q
        · have := strict h1 hi h3 q; omega
        · exact q
        · have := strict hi h1 ha q; omega
      subst this; exact h2
end
end
end Go.Rb

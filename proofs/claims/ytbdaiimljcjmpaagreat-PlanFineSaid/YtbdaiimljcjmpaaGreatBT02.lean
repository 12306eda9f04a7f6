/- Structs, arrays and slices that are made by literals; aggregates that are compared. Aggregates that are compared. append: at a slice that is full, and at one whose end is the caller's own. append, and calls. Strings; parts of slices, and of arrays. -/
import Derived.Test.YtbdaiimljcjmpaaGreatBT01
import Derived.ArgAppend
import Derived.Maps.AppendAt
import Derived.Laws.Concat
import Derived.DataElems
namespace Go.Rb
set_option linter.unusedVariables false
set_option linter.unusedSimpArgs false

section
variable {P : Program} {Z : Addr → Prop} {o : Oper} {a : Act} {w : World} {μ : Mu} {ν : Nu} {σ : St}

theorem Rep.ofCells {R : Ctx} {x : AV} {vs : List Value} (ho : x.okv = true) (h : RepL R x.cells vs) (h1 : ∀ c ∈ x.cells, c.one = true) : ∃ V, Rep R x V ∧ V.cells.toList = vs := by
  by_cases hagg : x.isAgg = true
  · cases x <;> simp [AV.isAgg] at hagg
    rename_i cs
    exact ⟨.agg vs.toArray, by simp only [Rep]; exact ⟨⟨_, rfl, by simpa [AV.cells] using h⟩, h1⟩, by simp [Value.cells]⟩
  · have hcc : x.cells = [x] := by cases x <;> simp_all [AV.isAgg, AV.cells]
    rw [hcc] at h h1
    simp only [RepL] at h
    obtain ⟨v, us, rfl, hr, rfl⟩ := h
    exact ⟨v, hr, by simp [(hr.oneCell (h1 x (by simp))).1]⟩

theorem places_of (fs : List Field) (h : ∀ f ∈ fs, (P.info? f.type).isSome = true) : fs.mapM (fun f => (P.info? f.type).map fun i => (f.offset, i.size)) = some (fs.map fun f => (f.offset, P.cellsOf f.type)) := by
  induction fs with
  | nil => rfl
  | cons f fs ih =>
    have hf := h f (by simp)
    obtain ⟨i, hi⟩ := Option.isSome_iff_exists.1 hf
    have := ih fun g hg => h g (by simp [hg])
    simp [List.mapM_cons, hi, this, Program.cellsOf]
theorem partPlaces_ok {fs : Array Field} : ∀ {ps : List (Nat × Operand)} {qs : List (Nat × Nat × X)}, partPlaces P fs ps = some qs →
    ps.length = qs.length ∧ ∀ (i : Nat) (p : Nat × Operand) (q : Nat × Nat × X), ps[i]? = some p → qs[i]? = some q → compX p.2 = some q.2.2 ∧ ((fs.toList.map fun f => (f.offset, P.cellsOf f.type)).toArray[p.1]? = some (q.1, q.2.1))
  | [], qs, h => by simp [partPlaces] at h; subst h; simp
  | (n, x) :: ps, qs, h => by
    simp only [partPlaces] at h
    split at h
    · rename_i f y l hf hx hr
      split at h
      · rename_i s g hs
        injection h with h; subst h
        obtain ⟨h1, h2⟩ := partPlaces_ok hr
        refine ⟨by simp [h1], ?_⟩
        intro i p q hp hq
        cases i with
        | zero =>
          simp at hp hq; subst hp; subst hq
          obtain ⟨inf, d, hi, _, hsz, _⟩ := sizeA_parts hs
          refine ⟨hx, ?_⟩
          simp only [List.getElem?_toArray, List.getElem?_map]
          have : fs.toList[n]? = some f := by simpa using hf
          rw [this]
          simp [Program.cellsOf, hi, hsz]
        | succ i => exact h2 i p q (by simpa using hp) (by simpa using hq)
      · cases h
    · cases h
theorem partElems_ok {s : Nat} : ∀ {ps : List (Nat × Operand)} {qs : List (Nat × Nat × X)}, partElems s ps = some qs →
    ps.length = qs.length ∧ ∀ (i : Nat) (p : Nat × Operand) (q : Nat × Nat × X), ps[i]? = some p → qs[i]? = some q → compX p.2 = some q.2.2 ∧ (fun i => some (i * s, s)) p.1 = some (q.1, q.2.1)
  | [], qs, h => by simp [partElems] at h; subst h; simp
  | (n, x) :: ps, qs, h => by
    simp only [partElems] at h
    split at h
    · rename_i y l hx hr
      injection h with h; subst h
      obtain ⟨h1, h2⟩ := partElems_ok hr
      refine ⟨by simp [h1], ?_⟩
      intro i p q hp hq
      cases i with
      | zero => simp at hp hq; subst hp; subst hq; exact ⟨hx, rfl⟩
      | succ i => exact h2 i p q (by simpa using hp) (by simpa using hq)
    · cases h

theorem ok_build {t : TypeId} {parts : Array (Nat × Operand)} {so : SOp} {E : Env} {l l' : List AV} {qs : List (Nat × Nat × X)} (ho : o.op = .build t parts) (hc : compOp P o.op = some (.build l qs)) (S : Sim Z w μ ν σ) (hE : EnvRep (ctx Z w μ ν σ.rows) E a.tmps)
    (h : fillParts E qs l = some l') : OpOk P Z o a w μ ν σ (.agg l') σ := by
  rw [ho] at hc
  simp only [compOp] at hc
  split at hc
  · rename_i z fs hz ht
    split at hc
    · rename_i l0 ps0 hv hp hall
      injection hc with hc; injection hc with e1 e2; subst e1; subst e2
      obtain ⟨inf, hi, hzz⟩ := Option.bind_eq_some_iff.1 hz
      have hvr := valueAV_rep hv (ctx Z w μ ν σ.rows)
      obtain ⟨hrc, hone⟩ := hvr.1.cells hvr.2
      have hpl := partPlaces_ok hp
      obtain ⟨arr, hf, hr, h1⟩ := fill_parts hE _ hpl h hrc hone
      have hall' : ∀ f ∈ fs.toList, (P.info? f.type).isSome = true := List.all_eq_true.1 hall
      refine OpOk.value (V := .agg arr) ?_ S (by simp only [Rep]; exact ⟨⟨_, rfl, hr⟩, h1⟩)
      have hb : P.built t (parts.map fun (i, x) => (i, a.eval x)).toList = some arr := by
        unfold Program.built
        simp only [hi, ht, hzz, places_of fs.toList hall']
        rw [Array.toList_map]
        exact hf
      simp only [execOp, ho, Sem.run_bind, run_build w t _ arr hb, Result.andThen_ok, Sem.run_pure]
    · cases hc
  · rename_i z n e hz ht
    split at hc
    · rename_i l0 s g hv hs
      cases hq : partElems s parts.toList with
      | none => rw [hq] at hc; cases hc
      | some ps0 =>
        rw [hq] at hc
        simp at hc
        obtain ⟨e1, e2⟩ := hc
        subst e1; subst e2
        obtain ⟨inf, hi, hzz⟩ := Option.bind_eq_some_iff.1 hz
        have hvr := valueAV_rep hv (ctx Z w μ ν σ.rows)
        obtain ⟨hrc, hone⟩ := hvr.1.cells hvr.2
        have hpl := partElems_ok hq
        obtain ⟨arr, hf, hr, h1⟩ := fill_parts hE (fun i => some (i * s, s)) hpl h hrc hone
        obtain ⟨inf', d, hi', hd, hsz, _⟩ := sizeA_parts hs
        refine OpOk.value (V := .agg arr) ?_ S (by simp only [Rep]; exact ⟨⟨_, rfl, hr⟩, h1⟩)
        have hb : P.built t (parts.map fun (i, x) => (i, a.eval x)).toList = some arr := by
          unfold Program.built
          simp only [hi, ht, hzz, hi', hsz]
          rw [Array.toList_map]
          exact hf
        simp only [execOp, ho, Sem.run_bind, run_build w t _ arr hb, Result.andThen_ok, Sem.run_pure]
    · cases hc
  · cases hc

/-! ### slices -/
def Uni (size : Nat) (es : List AV) : Prop := ∀ e ∈ es, e.okv = true ∧ e.cells.length = size
theorem flat_length {size : Nat} : ∀ {es : List AV}, Uni size es → (es.flatMap AV.cells).length = es.length * size
  | [], _ => by simp
  | e :: es, h => by
    have h1 := h e (by simp)
    have h2 := flat_length (es := es) fun x hx => h x (by simp [hx])
    simp only [List.flatMap_cons, List.length_append, h1.2, h2, List.length_cons, Nat.succ_mul]
    omega
theorem flat_set {size : Nat} : ∀ {es : List AV} {i : Nat} {v : AV}, Uni size es → i < es.length → v.cells.length = size → (es.set i v).flatMap AV.cells = putCells (es.flatMap AV.cells) (i * size) v.cells
  | [], i, v, _, h, _ => by simp at h
  | e :: es, 0, v, hu, h, hv => by
    have h1 := hu e (by simp)
    simp only [List.set_cons_zero, List.flatMap_cons, putCells, Nat.zero_mul, List.take_zero, List.nil_append, Nat.zero_add, hv]
    rw [← h1.2, List.drop_left]
  | e :: es, i + 1, v, hu, h, hv => by
    have h1 := hu e (by simp)
    have ih := flat_set (es := es) (i := i) (v := v) (fun x hx => hu x (by simp [hx])) (by simpa using h) hv
    simp only [List.set_cons_succ, List.flatMap_cons, ih, putCells]
    have e1 : (i + 1) * size = e.cells.length + i * size := by rw [h1.2, Nat.succ_mul]; omega
    rw [e1, List.take_length_add_append, Nat.add_assoc, List.drop_length_add_append]
    simp
theorem flat_drop {size : Nat} : ∀ {es : List AV} {i : Nat} {e : AV}, Uni size es → es[i]? = some e → ((es.flatMap AV.cells).drop (i * size)).take size = e.cells
  | [], i, e, _, h => by simp at h
  | x :: es, 0, e, hu, h => by
    simp at h; subst h
    have h1 := hu x (by simp)
    simp only [Nat.zero_mul, List.drop_zero, List.flatMap_cons]
    rw [← h1.2, List.take_left]
  | x :: es, i + 1, e, hu, h => by
    have h1 := hu x (by simp)
    have ih := flat_drop (es := es) (i := i) (e := e) (fun y hy => hu y (by simp [hy])) (by simpa using h)
    have e1 : (i + 1) * size = x.cells.length + i * size := by rw [h1.2, Nat.succ_mul]; omega
    rw [List.flatMap_cons, e1, List.drop_length_add_append]
    exact ih

theorem fill_elems {R : Ctx} {E : Env} (hE : EnvRep R E a.tmps) {size : Nat} {g : Bool} : ∀ {ps : List (Nat × Operand)} {qs : List (Nat × X)} {es es' : List AV} {cur : Array Value},
    partSlots ps = some qs → fillElems E size g qs es = some es' → Uni size es → RepL R (es.flatMap AV.cells) cur.toList → (∀ e ∈ es, ∀ x ∈ e.cells, x.one = true) →
    ∃ arr, Instr.fill (fun i => some (i * size, size)) cur (ps.map fun p => (p.1, a.eval p.2)) = some arr ∧ RepL R (es'.flatMap AV.cells) arr.toList ∧ Uni size es' ∧ (∀ e ∈ es', ∀ x ∈ e.cells, x.one = true) ∧ es'.length = es.length
  | [], qs, es, es', cur, h, hf, hu, hr, h1 => by
    simp [partSlots] at h; subst h
    simp [fillElems] at hf; subst hf
    exact ⟨cur, rfl, hr, hu, h1, rfl⟩
  | (n, x) :: ps, qs, es, es', cur, h, hf, hu, hr, h1 => by
    simp only [partSlots] at h
    split at h
    · rename_i y l hx hl
      injection h with h; subst h
      simp only [fillElems] at hf
      split at hf
      · rename_i hc
        simp only [Bool.and_eq_true, decide_eq_true_eq] at hc
        obtain ⟨⟨⟨hc1, hc2⟩, hc3⟩, hc4⟩ := hc
        have hv := compX_rep hE hx
        obtain ⟨hrv, hov⟩ := hv.cells hc3
        have hsz := hv.size hc3
        have hcur := hr.length
        have hfl := flat_length hu
        simp only [Array.length_toList] at hcur
        have hle : n * size + size ≤ cur.size := by rw [hcur, hfl, ← Nat.succ_mul]; exact Nat.mul_le_mul_right _ hc2
        have hput := RepL.put hr hrv (n * size)
        have hcells := fillCells_at (n * size) (a.eval x).cells.toList 0 cur (by simp; omega)
        have hu' : Uni size (es.set n (y.ev E)) := by
          intro e he
          rcases List.mem_or_eq_of_mem_set he with he | rfl
          · exact hu e he
          · exact ⟨hc3, hc1⟩
        have h1' : ∀ e ∈ es.set n (y.ev E), ∀ x ∈ e.cells, x.one = true := by
          intro e he
          rcases List.mem_or_eq_of_mem_set he with he | rfl
          · exact h1 e he
          · exact hov
        obtain ⟨arr, e1, e2, e3, e4, e5⟩ := fill_elems hE (ps := ps) (qs := l) (es := es.set n (y.ev E)) (cur := (a.eval x).cells.zipIdx.foldl (fun cs (c, j) => cs.setIfInBounds (n * size + j) c) cur) hl hf hu' (by
            rw [← Array.foldl_toList, Array.toList_zipIdx, hcells, flat_set hu hc2 hc1]
            simpa using hput) h1'
        refine ⟨arr, ?_, e2, e3, e4, by simpa using e5⟩
        simp only [List.map_cons, Instr.fill]
        rw [if_neg (by simp; omega)]
        exact e1
      · cases hf
    · cases h

theorem els_of_block {R : Ctx} {es : List AV} {size : Nat} {vs : List Value} {b : Nat} (hu : Uni size es) (h1 : ∀ e ∈ es, ∀ x ∈ e.cells, x.one = true) (hr : RepL R (es.flatMap AV.cells) vs) (hc : ∀ j v, vs[j]? = some v → R.cell ⟨b, j, none⟩ v) : RepEls R ⟨b, 0, none⟩ size 0 es := by
  refine RepEls.of fun k x hx => ?_
  have hm := List.mem_of_getElem? hx
  have hd := flat_drop hu hx
  have hrx : RepL R x.cells ((vs.drop (k * size)).take size) := by rw [← hd]; exact (hr.drop _).take _
  obtain ⟨V, hV, hVc⟩ := Rep.ofCells (hu x hm).1 hrx (h1 x hm)
  refine ⟨(hu x hm).1, V, hV, by rw [hV.size (hu x hm).1]; exact (hu x hm).2, ?_⟩
  intro j y hj
  rw [hVc, List.getElem?_take] at hj
  split at hj
  · rw [List.getElem?_drop] at hj
    rw [plain_add, plain_add]
    simpa using hc _ _ hj
  · cases hj
theorem zeros_flat (zc : Array Value) (size len : Nat) (hz : zc.size = size) (h0 : 0 < size) : ((Array.range (len * size)).map (zc[· % zc.size]!)).toList = (List.replicate len zc.toList).flatten := by
  apply List.ext_getElem?
  intro i
  by_cases hi : i < len * size
  · have hf : ∀ (n i : Nat), i < n * size → ((List.replicate n zc.toList).flatten)[i]? = zc[i % size]? := by
      intro n
      induction n with
      | zero => intro i hi; simp at hi
      | succ n ih =>
        intro i hi
        rw [List.replicate_succ, List.flatten_cons]
        by_cases hlt : i < size
        · rw [List.getElem?_append_left (by simpa [hz] using hlt), Nat.mod_eq_of_lt hlt]; simp
        · rw [List.getElem?_append_right (by simp [hz]; omega)]
          have e1 : i - zc.toList.length = i - size := by simp [hz]
          rw [e1, ih (i - size) (by rw [Nat.succ_mul] at hi; omega)]
          congr 1
          exact (Nat.mod_eq_sub_mod (by omega)).symm
    rw [hf len i hi]
    simp [hi, hz]
    have : i % size < zc.size := by rw [hz]; exact Nat.mod_lt _ h0
    rw [Array.getElem?_eq_getElem this]
    simp [this]
  · rw [List.getElem?_eq_none (by simpa using hi), List.getElem?_eq_none]
    simp [hz]; omega

theorem grow_alloc (S : Sim Z w μ ν σ) (ob : Obj) : Grow σ.boxes.length w μ ν σ.rows (w.alloc ob) μ ν σ.rows ∧ Sim Z (w.alloc ob) μ ν σ := by
  have hold : ∀ b, b < w.heap.size → (w.alloc ob).heap[b]? = w.heap[b]? := fun b hb => alloc_old w _ hb
  have G : Grow σ.boxes.length w μ ν σ.rows (w.alloc ob) μ ν σ.rows :=
    { os := rfl, tape := rfl, output := rfl, size := by show _ ≤ (w.heap.push _).size; simp
      blocks := fun b hb _ _ => hold b hb
      rows := fun r b u v hr off _ => World.cell?_of_block (hold b (S.rlt hr))
      mu := fun _ _ h => h
      mun := fun _ _ h => .inl h
      nun := fun r b u v hr => .inr ⟨u, v, hr, Nat.le_refl _⟩
      vers := fun r cur hc => ⟨cur, hc, rfl, rfl, Nat.le_refl _, fun _ => rfl⟩ }
  refine ⟨G, { inj := S.inj, box := ?_, row := ?_, rinj := S.rinj, disj := S.disj, fresh := fun ad h => S.fresh ad (Nat.le_trans G.size h), rowZ := S.rowZ }⟩
  · intro i b hi
    obtain ⟨d, arr, t', h1, h2, h3, h4, h5⟩ := S.box i b hi
    exact ⟨d, arr, t', h1, h2, h3, by rw [hold b (S.lt hi)]; exact h4, RepL.mono G.le _ _ h5⟩
  · intro r b u v hr'
    obtain ⟨cur0, n, xs, h1, h2, h3, h4⟩ := S.row r b u v hr'
    refine ⟨cur0, n, xs, h1, h2, ?_, h4⟩
    obtain ⟨q1, q2⟩ := h3
    refine ⟨q1, ?_⟩
    rcases q2 with q2 | ⟨g, cap, cur, e1, e2, e3, r3⟩
    · exact .inl q2
    · refine .inr ⟨g, cap, cur, e1, e2, ?_, r3⟩
      rw [hold g (Array.getElem?_eq_some_iff.1 e3).1]; exact e3
theorem new_cell (S : Sim Z w μ ν σ) (arr : Array Value) (t : TypeId) {j : Nat} {v : Value} (h : arr[j]? = some v) : (ctx Z (w.alloc (.cells arr t)) μ ν σ.rows).cell ⟨w.heap.size, j, none⟩ v := by
  refine ⟨?_, ?_, ?_, S.fresh _ (Nat.le_refl _)⟩
  · unfold World.cell?
    rw [alloc_new]
    simpa using h
  · intro i hi; have := S.lt hi; simp at this
  · intro r u v' hr; have := S.rlt hr; simp at this

theorem flat_replicate {R : Ctx} {z : AV} {vs : List Value} (h : RepL R z.cells vs) : ∀ n, RepL R ((List.replicate n z).flatMap AV.cells) (List.replicate n vs).flatten
  | 0 => by simp [RepL]
  | n + 1 => by rw [List.replicate_succ, List.replicate_succ, List.flatMap_cons, List.flatten_cons]; exact h.append (flat_replicate h n)
theorem ok_bslice {t : TypeId} {parts : Array (Nat × Operand)} {len size : Nat} {z : AV} {E : Env} {es : List AV} {qs : List (Nat × X)} (ho : o.op = .buildSlice t len parts) (hc : compOp P o.op = some (.bslice size z len qs)) (S : Sim Z w μ ν σ) (hE : EnvRep (ctx Z w μ ν σ.rows) E a.tmps)
    (h : fillElems E size z.isAgg qs (List.replicate len z) = some es) : OpOk P Z o a w μ ν σ (.sl .full es) σ := by
  rw [ho] at hc
  simp only [compOp] at hc
  split at hc
  · rename_i e ht
    split at hc
    · rename_i s g z0 ps0 hs hz hp
      split at hc
      · rename_i hcond
        simp only [Bool.and_eq_true, decide_eq_true_eq, beq_iff_eq, bne_iff_ne, ne_eq] at hcond
        obtain ⟨⟨⟨hc1, hc2⟩, hc3⟩, hc4⟩ := hcond
        injection hc with hc; injection hc with e1 e2 e3 e4; subst e1; subst e2; subst e4
        obtain ⟨zv, hzv, hva⟩ := Option.bind_eq_some_iff.1 hz
        obtain ⟨inf, hi, hzz⟩ := Option.bind_eq_some_iff.1 hzv
        obtain ⟨inf', d, hi', hd, hsz, h0, hg⟩ := sizeA_parts hs
        rw [hi] at hi'; injection hi' with hi'; subst hi'
        have hvr := valueAV_rep hva (ctx Z w μ ν σ.rows)
        obtain ⟨hrc, hone⟩ := hvr.1.cells hvr.2
        have hzs := hvr.1.size hvr.2
        have hu : Uni s (List.replicate len z0) := by
          intro x hx
          rw [List.eq_of_mem_replicate hx]
          exact ⟨hvr.2, hc2⟩
        have hflat : RepL (ctx Z w μ ν σ.rows) ((List.replicate len z0).flatMap AV.cells) ((Array.range (len * s)).map (zv.cells[· % zv.cells.size]!)).toList := by
          rw [zeros_flat zv.cells s len (by rw [hzs]; exact hc2) (by omega)]
          exact flat_replicate hrc len
        obtain ⟨arr, hf, hr, hu', h1', hlen⟩ := fill_elems hE hp h hu hflat (by intro x hx; rw [List.eq_of_mem_replicate hx]; exact hone)
        obtain ⟨G, S'⟩ := grow_alloc S (.cells arr e)
        refine OpOk.to (V := .slice (some ⟨w.heap.size, 0, none⟩) len len) (w' := w.alloc (.cells arr e)) ?_ G S' ?_
        · have hsr : (sizeOf e).run P w = .ok s w := by simp [sizeOf, typeInfo, hi, hsz, Sem.run_bind]
          have hzr : (zeroValue e).run P w = .ok zv w := by simp [zeroValue, typeInfo, hi, hzz, Sem.run_bind]
          have hf' : Instr.fill (fun i => some (i * s, s)) ((Array.range (len * s)).map (zv.cells[· % zv.cells.size]!)) (parts.map fun (i, x) => (i, a.eval x)).toList = some arr := by rw [Array.toList_map]; exact hf
          have hnum : ¬ (len * s > 2 ^ 24) := by simpa using hc1
          simp only [execOp, ho, Instr.buildSlice, Sem.run_bind, run_underlying ht, Result.andThen_ok, hsr, if_neg hnum]
          have hl0 : len * s ≠ 0 := by
            intro q
            rcases Nat.mul_eq_zero.1 q with q | q <;> omega
          simp only [if_neg hl0, Sem.run_bind, hzr, Result.andThen_ok, Sem.run_pure, hf']
          rfl
        · simp only [Rep]
          have hel : es.length = len := by rw [hlen]; simp
          refine ⟨some ⟨w.heap.size, 0, none⟩, len, by rw [hel], ?_, by rw [hel]; exact Nat.le_refl _, ⟨_, _, rfl⟩, ⟨w.heap.size, 0, none⟩, s, fun _ => rfl, ?_⟩
          · rw [hel]; simp only [maxLen]
            have : len ≤ len * s := Nat.le_mul_of_pos_right _ (by omega)
            omega
          · exact els_of_block hu' h1' (RepL.mono G.le _ _ hr) fun j v hj => new_cell S arr e (by simpa using hj)
      · cases hc
    · cases hc
  · cases hc
end
end Go.Rb

namespace Go.Rb
set_option linter.unusedVariables false
set_option linter.unusedSimpArgs false

section
variable {P : Program} {Z : Addr → Prop} {o : Oper} {a : Act} {w : World} {μ : Mu} {ν : Nu} {σ : St}

theorem plainT_int {t : TypeId} (h : plainT P t = some true) : ∃ k, P.underlying t = some (.int k) := by
  unfold plainT at h
  split at h <;> first | exact ⟨_, by assumption⟩ | simp at h
theorem plainT_bool {t : TypeId} (h : plainT P t = some false) : P.underlying t = some .bool := by
  unfold plainT at h
  split at h <;> first | assumption | simp at h
theorem run_part1 {t : TypeId} {k : Bool} (ht : plainT P t = some k) {cs : Array Value} {off : Nat} {v : Value} (h : cs[off]? = some v) : (part t cs off).run P w = .ok v w := by
  unfold part
  cases k
  · have hu := plainT_bool ht
    simp only [Sem.run_bind, run_isAgg hu, Result.andThen_ok, aggD, h]
    rfl
  · obtain ⟨j, hu⟩ := plainT_int ht
    simp only [Sem.run_bind, run_isAgg hu, Result.andThen_ok, aggD, h]
    rfl
theorem run_eq1 {t : TypeId} {k : Bool} (ht : plainT P t = some k) {x y : AV} {X Y : Value} {R : Ctx} {b : Bool} (d : Nat) (h : AV.eq1 k x y = some b) (hX : Rep R x X) (hY : Rep R y Y) : (Op.equalIn (d + 1) t X Y).run P w = .ok b w := by
  cases x <;> cases y <;> simp only [AV.eq1] at h <;> first | (cases h; done) | skip
  case int.int k1 m k2 n =>
    split at h
    · rename_i hc
      obtain ⟨rfl, rfl⟩ := hc
      injection h with h; subst h
      simp only [Rep] at hX hY
      subst hX; subst hY
      obtain ⟨j, hu⟩ := plainT_int ht
      exact run_equalIn_int w d t k1 j m n hu
    · cases h
  case bool.bool m n =>
    split at h
    · rename_i hc
      subst hc
      injection h with h; subst h
      simp only [Rep] at hX hY
      subst hX; subst hY
      exact run_equalIn_bool' w d t m n (plainT_bool ht)
    · cases h
theorem run_eqFields_flat {R : Ctx} (d : Nat) {xs ys : Array Value} : ∀ {fs : List Field} {off : Nat} {ks : List Bool} {as bs : List AV} {b : Bool}, flatFields P off fs = some ks → AV.eqL ks as bs = some b →
    RepL R as (xs.toList.drop off) → RepL R bs (ys.toList.drop off) → (Op.eqFields (d + 1) xs ys fs).run P w = .ok b w
  | [], off, ks, as, bs, b, hf, he, h1, h2 => by
    simp [flatFields] at hf; subst hf
    cases as <;> cases bs <;> simp [AV.eqL] at he
    subst he
    simp [Op.eqFields]
  | f :: fs, off, ks, as, bs, b, hf, he, h1, h2 => by
    simp only [flatFields] at hf
    split at hf
    · rename_i k l hk hl
      split at hf
      · rename_i hc
        obtain ⟨hn, ho⟩ := hc
        injection hf with hf; subst hf
        cases as with
        | nil => simp [AV.eqL] at he
        | cons x as =>
          cases bs with
          | nil => simp [AV.eqL] at he
          | cons y bs =>
            simp only [AV.eqL] at he
            split at he
            · rename_i b1 b2 e1 e2
              injection he with he; subst he
              simp only [RepL] at h1 h2
              obtain ⟨v, vs, hv, hr1, hr2⟩ := h1
              obtain ⟨u, us, hu, hq1, hq2⟩ := h2
              have hx : xs[f.offset]? = some v := by
                have : (xs.toList.drop off)[0]? = some v := by rw [hv]; rfl
                rw [List.getElem?_drop] at this
                rw [ho]; simpa using this
              have hy : ys[f.offset]? = some u := by
                have : (ys.toList.drop off)[0]? = some u := by rw [hu]; rfl
                rw [List.getElem?_drop] at this
                rw [ho]; simpa using this
              have hvs : xs.toList.drop (off + 1) = vs := by
                have : (xs.toList.drop off).drop 1 = vs := by rw [hv]; rfl
                rw [List.drop_drop] at this; exact this
              have hus : ys.toList.drop (off + 1) = us := by
                have : (ys.toList.drop off).drop 1 = us := by rw [hu]; rfl
                rw [List.drop_drop] at this; exact this
              have ih := run_eqFields_flat (R := R) d (xs := xs) (ys := ys) hl e2 (by rw [hvs]; exact hr2) (by rw [hus]; exact hq2)
              simp only [Op.eqFields, hn, ne_eq, not_false_eq_true, if_true, Sem.run_bind, run_part1 hk hx, run_part1 hk hy, Result.andThen_ok, run_eq1 hk d e1 hr1 hq1]
              cases b1
              · simp
              · simp [ih]
            · cases he
      · cases hf
    · cases hf
theorem run_equalIn_arr2 {R : Ctx} (d : Nat) {t e : TypeId} {k g : Bool} {xs ys : Array Value} {as bs : List AV} {b : Bool} (ht : P.underlying t = some (.array 2 e)) (hk : plainT P e = some k) (hs : sizeA P e = some (1, g)) (he : AV.eqL (List.replicate 2 k) as bs = some b)
    (h1 : RepL R as xs.toList) (h2 : RepL R bs ys.toList) : (Op.equalIn (d + 1 + 1) t (.agg xs) (.agg ys)).run P w = .ok b w := by
  obtain ⟨i, dd, hi, hd, hsz, _⟩ := sizeA_parts hs
  match as, bs, he with
  | [x0, x1], [y0, y1], he =>
    simp only [List.replicate, AV.eqL] at he
    cases e0 : AV.eq1 k x0 y0 with
    | none => simp [e0] at he
    | some b0 =>
      cases e1 : AV.eq1 k x1 y1 with
      | none => simp [e0, e1] at he
      | some b1 =>
        simp [e0, e1] at he
        subst he
        simp only [RepL] at h1 h2
        obtain ⟨v0, vs, hv, r0, v1, vs', rfl, r1, rfl⟩ := h1
        obtain ⟨u0, us, hu, q0, u1, us', rfl, q1, rfl⟩ := h2
        have hx0 : xs[0]? = some v0 := by rw [← Array.getElem?_toList, hv]; rfl
        have hx1 : xs[1]? = some v1 := by rw [← Array.getElem?_toList, hv]; rfl
        have hy0 : ys[0]? = some u0 := by rw [← Array.getElem?_toList, hu]; rfl
        have hy1 : ys[1]? = some u1 := by rw [← Array.getElem?_toList, hu]; rfl
        have p0 := fun w => run_part1 (P := P) (w := w) hk hx0
        have p1 := fun w => run_part1 (P := P) (w := w) hk hx1
        have p2 := fun w => run_part1 (P := P) (w := w) hk hy0
        have p3 := fun w => run_part1 (P := P) (w := w) hk hy1
        have s0 := fun w => run_eq1 (P := P) (w := w) hk d e0 r0 q0
        have s1 := fun w => run_eq1 (P := P) (w := w) hk d e1 r1 q1
        have hszr : (sizeOf e).run P w = .ok 1 w := by simp [sizeOf, typeInfo, hi, hsz, Sem.run_bind]
        unfold Op.equalIn
        simp only [Sem.run_bind, run_underlying ht, Result.andThen_ok, hszr]
        simp [Std.Legacy.Range.forIn_eq_forIn_range', Std.Legacy.Range.size, List.range', p0, p1, p2, p3, s0, s1]
        cases b0 <;> cases b1 <;> simp [p0, p1, p2, p3, s0, s1]
  | [], _, he => simp [List.replicate, AV.eqL] at he
  | [x0], [], he => simp [List.replicate, AV.eqL] at he
  | [x0], [y], he =>
    simp only [List.replicate, AV.eqL] at he
    split at he
    · rename_i q; cases q
    · cases he
  | [x0], y :: z :: r, he =>
    simp only [List.replicate, AV.eqL] at he
    split at he
    · rename_i q; cases q
    · cases he
  | x0 :: x1 :: x2 :: r, [], he => simp [List.replicate, AV.eqL] at he
  | x0 :: x1 :: x2 :: r, [y], he =>
    simp only [List.replicate, AV.eqL] at he
    split at he
    · rename_i q; cases q
    · cases he
  | x0 :: x1 :: x2 :: r, [y, z], he =>
    simp only [List.replicate, AV.eqL] at he
    split at he
    · rename_i q; split at q
      · rename_i q2; cases q2
      · cases q
    · cases he
  | x0 :: x1 :: x2 :: r, y :: z :: u :: r', he =>
    simp only [List.replicate, AV.eqL] at he
    split at he
    · rename_i q; split at q
      · rename_i q2; cases q2
      · cases q
    · cases he
  | [x0, x1], [], he => simp [List.replicate, AV.eqL] at he
  | [x0, x1], [_], he =>
    simp only [List.replicate, AV.eqL] at he
    split at he
    · rename_i q; cases q
    · cases he
  | [x0, x1], _ :: _ :: _ :: _, he =>
    simp only [List.replicate, AV.eqL] at he
    split at he
    · rename_i q; split at q
      · rename_i q2; cases q2
      · cases q
    · cases he

theorem ok_eqa {op : BinOp} {t yt : TypeId} {x y : Operand} {so : SOp} {x' y' : X} {E : Env} {neg : Bool} {ks : List Bool} {as bs : List AV} {b : Bool} (ho : o.op = .binOp op t x y yt) (hc : compOp P o.op = some (.eqa neg ks x' y')) (S : Sim Z w μ ν σ)
    (hE : EnvRep (ctx Z w μ ν σ.rows) E a.tmps) (hx' : x'.ev E = .agg as) (hy' : y'.ev E = .agg bs) (he : AV.eqL ks as bs = some b) : OpOk P Z o a w μ ν σ (.bool (if neg then !b else b)) σ := by
  rw [ho] at hc
  simp only [compOp] at hc
  have key : ∀ (hx : compX x = some x') (hy : compX y = some y') (hg : P.eqGuardType P.depth t = false) (hop : op = if neg then .neq else .eql)
      (hrun : ∀ xs ys, RepL (ctx Z w μ ν σ.rows) as xs.toList → RepL (ctx Z w μ ν σ.rows) bs ys.toList → (Op.equalIn 10000 t (.agg xs) (.agg ys)).run P w = .ok b w), OpOk P Z o a w μ ν σ (.bool (if neg then !b else b)) σ := by
    intro hx hy hg hop hrun
    have h1 := compX_rep hE hx
    have h2 := compX_rep hE hy
    rw [hx'] at h1; rw [hy'] at h2
    simp only [Rep] at h1 h2
    obtain ⟨⟨xs, e1, r1⟩, _⟩ := h1
    obtain ⟨⟨ys, e2, r2⟩, _⟩ := h2
    have hr := hrun xs ys r1 r2
    refine OpOk.value (V := .bool (if neg then !b else b)) ?_ S (by simp only [Rep])
    have hgd := fun op => run_eqGuard_agg (P := P) w op t x y xs ys hg
    cases neg
    · subst hop
      simp only [execOp, ho, e1, e2, Sem.run_bind, hgd, Result.andThen_ok, Bool.false_eq_true, if_false, run_eql_struct, hr, Sem.run_pure]
    · subst hop
      simp only [execOp, ho, e1, e2, Sem.run_bind, hgd, Result.andThen_ok, if_true, run_neq_struct, hr, Sem.run_pure]
  split at hc
  · rename_i xx yy hx hy
    split at hc
    · simp at hc
    · split at hc <;> simp at hc
    · split at hc <;> simp at hc
    · rename_i fs ht
      split at hc
      · rename_i ks' hk
        split at hc
        · rename_i hcond
          have hst : ∀ xs ys, RepL (ctx Z w μ ν σ.rows) as xs.toList → RepL (ctx Z w μ ν σ.rows) bs ys.toList → ks' = ks → (Op.equalIn 10000 t (.agg xs) (.agg ys)).run P w = .ok b w := by
            rintro xs ys r1 r2 rfl
            have hf : P.fieldsOf t = fs := by simp [Program.fieldsOf, ht]
            have := run_equalIn_struct (P := P) w 9999 t xs ys (by rw [hf]; exact ht) hcond.1
            rw [show (10000 : Nat) = 9999 + 1 from rfl, this, hf]
            exact run_eqFields_flat (R := ctx Z w μ ν σ.rows) 9998 hk he (by simpa using r1) (by simpa using r2)
          split at hc
          · injection hc with hc; injection hc with e1 e2 e3 e4
            subst e1; subst e3; subst e4
            exact key hx hy hcond.2 rfl fun xs ys r1 r2 => hst xs ys r1 r2 e2
          · injection hc with hc; injection hc with e1 e2 e3 e4
            subst e1; subst e3; subst e4
            exact key hx hy hcond.2 rfl fun xs ys r1 r2 => hst xs ys r1 r2 e2
          · cases hc
        · cases hc
      · cases hc
    · rename_i n e ht
      split at hc
      · rename_i k s hk hs
        split at hc
        · rename_i hcond
          obtain ⟨hn, hg⟩ := hcond
          subst hn
          have hst : ∀ xs ys, RepL (ctx Z w μ ν σ.rows) as xs.toList → RepL (ctx Z w μ ν σ.rows) bs ys.toList → List.replicate 2 k = ks → (Op.equalIn 10000 t (.agg xs) (.agg ys)).run P w = .ok b w := by
            rintro xs ys r1 r2 rfl
            exact run_equalIn_arr2 (R := ctx Z w μ ν σ.rows) 9998 ht hk hs he r1 r2
          split at hc
          · injection hc with hc; injection hc with e1 e2 e3 e4
            subst e1; subst e3; subst e4
            exact key hx hy hg rfl fun xs ys r1 r2 => hst xs ys r1 r2 e2
          · injection hc with hc; injection hc with e1 e2 e3 e4
            subst e1; subst e3; subst e4
            exact key hx hy hg rfl fun xs ys r1 r2 => hst xs ys r1 r2 e2
          · cases hc
        · cases hc
      · cases hc
    · cases hc
  · cases hc
end
end Go.Rb

namespace Go.Rb
set_option linter.unusedVariables false
set_option linter.unusedSimpArgs false

section
variable {P : Program} {Z : Addr → Prop} {o : Oper} {a : Act} {w : World} {μ : Mu} {ν : Nu} {σ : St}

/-- what an append leaves: a row of its own; where: in the old block, all others as they were; or in a new one, all as they were -/
structure Appended (w w' : World) (e size : Nat) (v' : Value) (n' : Nat) (xs' : List Value) (g : Option Nat) (b : Nat) : Prop where
  os : w'.os = w.os
  tape : w'.tape = w.tape
  output : w'.output = w.output
  hsize : w.heap.size ≤ w'.heap.size
  own : w'.ownsRow 0 e size v' n' xs'
  blk : v'.ownBlock = some b
  at_ : (g = some b ∧ ∀ k, k < w.heap.size → k ≠ b → w'.heap[k]? = w.heap[k]?) ∨ (w.heap.size ≤ b ∧ ∀ k, k < w.heap.size → w'.heap[k]? = w.heap[k]?)

theorem own_weak {w : World} {base e size n : Nat} {v : Value} {xs : List Value} (h : w.ownsRow base e size v n xs) : w.ownsRow 0 e size v n xs := by
  obtain ⟨h1, h2⟩ := h
  refine ⟨h1, ?_⟩
  rcases h2 with h2 | ⟨g, cap, cur, e1, _, r⟩
  · exact .inl h2
  · exact .inr ⟨g, cap, cur, e1, Nat.zero_le _, r⟩
theorem own_form {w : World} {base e size n : Nat} {v : Value} {xs : List Value} (h : w.ownsRow base e size v n xs) (hn : 0 < n) : ∃ g cap cur, v = .slice (some ⟨g, 0, none⟩) n cap ∧ base ≤ g ∧ w.heap[g]? = some (.cells cur e (0, 0)) ∧ n ≤ cap ∧ cap ≤ maxLen ∧ cur.size = cap * size ∧ cur.toList.take (n * size) = xs := by
  rcases h.2 with ⟨rfl, rfl⟩ | h2
  · omega
  · exact h2

theorem run_append_row (t ty e : TypeId) (i : TypeInfo) (z : Value) (size bytes : Nat) (ht : P.underlying t = some (.slice e)) (hi : P.info? e = some i) (hz : i.zero = some z) (hsize : i.size = size) (hby : i.bytes = bytes) (hzs : z.cells.size = size) (hsz : 0 < size)
    (v : Value) (n : Nat) (xs : List Value) (hown : w.ownsRow 0 e size v n xs) {g : Nat} (hg : v.ownBlock = some g)
    (ad : Addr) (m c : Nat) (news : List Value) (hl : news.length = m * size) (hnews : ∀ j u, news[j]? = some u → w.cell? (ad.add j) = some u) (h1 : ∀ u ∈ news, u.oneCell' = true) (hm : 0 < m)
    (h63 : n + m ≤ maxLen) (hbytes : (n + m) * bytes ≤ 140737488355328) :
    ∃ v' w' b, (Builtin.append_ #[t, t] ty #[v, .slice (some ad) m c]).run P w = .ok v' w' ∧ Appended w w' e size v' (n + m) (xs ++ news) (some g) b := by
  rcases hown.2 with ⟨rfl, _⟩ | ⟨g', cap, cur, rfl, hbg, hgc, hnc, hcm, hcs, htake⟩
  · simp [Value.ownBlock] at hg
  · have hgg : g' = g := by simpa [Value.ownBlock] using hg
    subst hgg
    subst hsize
    subst hby
    have hlen : (xs ++ news).length = (n + m) * i.size := by rw [List.length_append, hown.1, hl, Nat.add_mul]
    by_cases hroom : n + m ≤ cap
    · have hfit : n * i.size + news.length ≤ cur.size := by rw [hl, hcs, ← Nat.add_mul]; exact Nat.mul_le_mul_right _ hroom
      have hr := run_append_room (P := P) w t ty e i ht hi g' n cap cur hgc ad m c news hl hnews h1 hroom hfit
      refine ⟨_, _, g', hr, { os := rfl, tape := rfl, output := rfl, hsize := by simp, own := ⟨hlen, .inr ⟨g', cap, _, rfl, hbg, setRow_heap w g' cur _ e _ hgc, hroom, hcm, ?_, ?_⟩⟩, blk := rfl, at_ := .inl ⟨rfl, fun k _ hk => setRow_other w g' k _ hk⟩ }⟩
      · simp only [List.size_toArray, List.length_append, List.length_take, List.length_drop, Array.length_toList]
        omega
      · rw [htake, ← hlen]
        exact List.take_left
    · have holds : ∀ j u, xs[j]? = some u → w.cell? ((⟨g', 0, none⟩ : Addr).add j) = some u := hown.cells (g := g') rfl
      have hsmall : n + m ≤ 9223372036854775807 := by simp only [maxLen] at h63; omega
      have hr := run_append_grow (P := P) w t ty e i z ht hi hz ⟨g', 0, none⟩ n cap xs hown.1 holds ad m c news hl hnews (by omega) (by omega) (growslice_fits (by omega) hbytes)
      have hge := grownCap_ge w (n + m) cap e
      have hcm' : grownCap w (n + m) cap e ≤ maxLen := grownCap_le_maxLen w (n + m) cap e h63
      refine ⟨_, _, w.heap.size, hr, { os := rfl, tape := rfl, output := rfl, hsize := by show _ ≤ (w.heap.push _).size; simp, own := ⟨hlen, .inr ⟨w.heap.size, _, _, rfl, Nat.zero_le _, alloc_new w.drew _, hge, hcm', ?_, ?_⟩⟩, blk := rfl, at_ := .inr ⟨Nat.le_refl _, fun k hk => alloc_old w.drew _ hk⟩ }⟩
      · simp only [Array.size_append, List.size_toArray, size_zeroCells, hzs, hown.1, hl, ← Nat.add_mul]
        congr 1
        omega
      · simp only [Array.toList_append, List.append_assoc]
        rw [← List.append_assoc, ← hlen]
        exact List.take_left
theorem run_append_full (t ty e : TypeId) (i : TypeInfo) (z : Value) (size bytes : Nat) (ht : P.underlying t = some (.slice e)) (hi : P.info? e = some i) (hz : i.zero = some z) (hsize : i.size = size) (hby : i.bytes = bytes) (hzs : z.cells.size = size) (hsz : 0 < size)
    (A : Option Addr) (n : Nat) (xs : List Value) (hxs : xs.length = n * size) (hA : 0 < n → ∃ b, A = some b) (hold : ∀ b, A = some b → ∀ j u, xs[j]? = some u → w.cell? (b.add j) = some u)
    (ad : Addr) (m c : Nat) (news : List Value) (hl : news.length = m * size) (hnews : ∀ j u, news[j]? = some u → w.cell? (ad.add j) = some u) (h1 : ∀ u ∈ news, u.oneCell' = true) (hm : 0 < m)
    (h63 : n + m ≤ maxLen) (hbytes : (n + m) * bytes ≤ 140737488355328) :
    ∃ v' w' b, (Builtin.append_ #[t, t] ty #[.slice A n n, .slice (some ad) m c]).run P w = .ok v' w' ∧ Appended w w' e size v' (n + m) (xs ++ news) none b := by
  have hsmall : n + m ≤ 9223372036854775807 := by simp only [maxLen] at h63; omega
  subst hsize
  subst hby
  have hlen : (xs ++ news).length = (n + m) * i.size := by rw [List.length_append, hxs, hl, Nat.add_mul]
  have hge := grownCap_ge w (n + m) n e
  have hcm' : grownCap w (n + m) n e ≤ maxLen := grownCap_le_maxLen w (n + m) n e h63
  have hr : (Builtin.append_ #[t, t] ty #[.slice A n n, .slice (some ad) m c]).run P w = .ok (.slice (some ⟨w.heap.size, 0, none⟩) (n + m) (grownCap w (n + m) n e))
        (w.drew.alloc (.cells (xs.toArray ++ news.toArray ++ Builtin.zeroCells z.cells (grownCap w (n + m) n e - (n + m))) e)) := by
    cases A with
    | none =>
      have h0 : n = 0 := by
        rcases Nat.eq_zero_or_pos n with q | q
        · exact q
        · obtain ⟨b, hb⟩ := hA q; cases hb
      subst h0
      have : xs = [] := List.eq_nil_of_length_eq_zero (by simpa using hxs)
      subst this
      have hr := run_append_nil (P := P) w t ty e i z ht hi hz ad m c news hl hnews hm (by omega) (by have hb := hbytes; simp only [Nat.zero_add] at hb; omega)
      simp only [Nat.zero_add, Array.empty_append]
      exact hr
    | some b => exact run_append_grow (P := P) w t ty e i z ht hi hz b n n xs hxs (hold b rfl) ad m c news hl hnews (by omega) (by omega) (growslice_fits (by omega) hbytes)
  refine ⟨_, _, w.heap.size, hr, { os := rfl, tape := rfl, output := rfl, hsize := by show _ ≤ (w.heap.push _).size; simp, own := ⟨hlen, .inr ⟨w.heap.size, _, _, rfl, Nat.zero_le _, alloc_new w.drew _, hge, hcm', ?_, ?_⟩⟩, blk := rfl, at_ := .inr ⟨Nat.le_refl _, fun k hk => alloc_old w.drew _ hk⟩ }⟩
  · simp only [Array.size_append, List.size_toArray, size_zeroCells, hzs, hxs, hl, ← Nat.add_mul]
    congr 1
    omega
  · simp only [Array.toList_append, List.append_assoc]
    rw [← List.append_assoc, ← hlen]
    exact List.take_left

/-! ### what a slice's cells are -/
theorem RepEls.flat {R : Ctx} {ad : Addr} {sz : Nat} : ∀ {es : List AV} {i : Nat}, RepEls R ad sz i es → ∃ vs : List Value, RepL R (es.flatMap AV.cells) vs ∧ vs.length = es.length * sz ∧ (∀ j v, vs[j]? = some v → R.cell (ad.add (i * sz + j)) v) ∧ Uni sz es ∧ (∀ e ∈ es, ∀ x ∈ e.cells, x.one = true)
  | [], i, h => ⟨[], by simp [RepL], by simp, by simp, by intro e he; simp at he, by intro e he; simp at he⟩
  | x :: xs, i, h => by
    simp only [RepEls] at h
    obtain ⟨⟨hok, V, hr, hsz, hc⟩, h2⟩ := h
    obtain ⟨vs, r1, r2, r3, r4, r5⟩ := RepEls.flat h2
    obtain ⟨q1, q2⟩ := hr.cells hok
    refine ⟨V.cells.toList ++ vs, by rw [List.flatMap_cons]; exact q1.append r1, by simp [r2, hsz, Nat.succ_mul]; omega, ?_, ?_, ?_⟩
    · intro j v hj
      by_cases hlt : j < sz
      · rw [List.getElem?_append_left (by simpa [hsz] using hlt)] at hj
        have := hc j v hj
        have hadd : (ad.add (i * sz)).add j = ad.add (i * sz + j) := by
          unfold Addr.add
          by_cases h1 : i * sz = 0 <;> by_cases h2 : j = 0 <;> simp [h1, h2, Nat.add_assoc]
        rwa [hadd] at this
      · rw [List.getElem?_append_right (by simp [hsz]; omega)] at hj
        have := r3 _ v hj
        rwa [show (i + 1) * sz + (j - V.cells.toList.length) = i * sz + j from by simp [hsz, Nat.succ_mul]; omega] at this
    · intro e he
      rcases List.mem_cons.1 he with rfl | he
      · exact ⟨hok, by rw [← hr.size hok]; exact hsz⟩
      · exact r4 e he
    · intro e he
      rcases List.mem_cons.1 he with rfl | he
      · exact q2
      · exact r5 e he
theorem one_cells {R : Ctx} {l : List AV} {vs : List Value} (h : RepL R l vs) (h1 : ∀ x ∈ l, x.one = true) : ∀ v ∈ vs, v.oneCell' = true := by
  intro v hv
  obtain ⟨j, hj⟩ := List.getElem?_of_mem hv
  have hjl := (List.getElem?_eq_some_iff.1 hj).1
  have hlen := h.length
  obtain ⟨v', hv', hr⟩ := h.get (List.getElem?_eq_getElem (show j < l.length by omega))
  rw [hj] at hv'; injection hv' with hv'; subst hv'
  exact (hr.oneCell (h1 _ (List.getElem_mem _))).2

def updN (ν : Nu) (r : Nat) (x : Nat × Nat × Value) : Nu := fun i => if i = r then some x else ν i

theorem own_other {w w' : World} {e size n b : Nat} {v : Value} {xs : List Value} (h : w.ownsRow 0 e size v n xs) (hb : v.ownBlock = some b) (he : w'.heap[b]? = w.heap[b]?) : w'.ownsRow 0 e size v n xs := by
  obtain ⟨q1, q2⟩ := h
  refine ⟨q1, ?_⟩
  rcases q2 with ⟨rfl, _⟩ | ⟨g, cap, cur, e1, e2, e3, r3⟩
  · simp [Value.ownBlock] at hb
  · have : g = b := by subst e1; simpa [Value.ownBlock] using hb
    subst this
    exact .inr ⟨g, cap, cur, e1, e2, by rw [he]; exact e3, r3⟩

/-- the store behind an append: row r is new, or was at version ver -/
theorem sim_append (S : Sim Z w μ ν σ) {w' : World} {e size n' b : Nat} {v' : Value} {xs' : List Value} {g : Option Nat} (A : Appended w w' e size v' n' xs' g b) {r ver' : Nat} {rows' : List Row}
    (hr' : rows'[r]? = some ⟨e, size, ver'⟩) (hrows : ∀ s cur, σ.rows[s]? = some cur → ∃ cur', rows'[s]? = some cur' ∧ cur'.e = cur.e ∧ cur'.size = cur.size ∧ cur.ver ≤ cur'.ver ∧ (s = r → cur.ver < cur'.ver) ∧ (s ≠ r → cur' = cur))
    (hg : ∀ k, g = some k → ∃ u v, ν r = some (k, u, v) ∧ u ≤ n' * size ∧ ∀ off, off < u → w'.cell? ⟨k, off, none⟩ = w.cell? ⟨k, off, none⟩) (hnew : g = none → ν r = none)
    (hcov : ∀ k u v, ν r = some (k, u, v) → g = some k) :
    Grow σ.boxes.length w μ ν σ.rows w' μ (updN ν r (b, n' * size, v')) rows' ∧ Sim Z w' μ (updN ν r (b, n' * size, v')) { σ with rows := rows' } := by
  -- a block that is no row r's
  have hold : ∀ k, k < w.heap.size → (∀ u v, ν r ≠ some (k, u, v)) → w'.heap[k]? = w.heap[k]? := by
    intro k hk hne
    rcases A.at_ with ⟨h1, h2⟩ | ⟨h1, h2⟩
    · refine h2 k hk (fun e' => ?_)
      subst e'
      obtain ⟨u, v, hu, _⟩ := hg k h1
      exact hne u v hu
    · exact h2 k hk
  have hlt : b < w.heap.size → g = some b := by
    intro hb
    rcases A.at_ with ⟨h1, _⟩ | ⟨h1, _⟩
    · exact h1
    · omega
  have G : Grow σ.boxes.length w μ ν σ.rows w' μ (updN ν r (b, n' * size, v')) rows' :=
    { os := A.os, tape := A.tape, output := A.output, size := A.hsize
      blocks := fun k hk _ h2 => hold k hk (fun u v => h2 r u v)
      rows := fun s k u v hs off ho => by
        by_cases e' : s = r
        · subst e'
          obtain ⟨u2, v2, hu2, _, hcell⟩ := hg k (hcov k u v hs)
          rw [hs] at hu2; injection hu2 with hu2; injection hu2 with _ hu2; injection hu2 with hu2 _
          subst hu2
          exact hcell off ho
        · exact World.cell?_of_block (hold k (S.rlt hs) fun u2 v2 h2 => e' (S.rinj s r k u v u2 v2 hs h2))
      mu := fun _ _ h => h
      mun := fun _ _ h => .inl h
      nun := fun s k u v hs => by
        unfold updN at hs
        split at hs
        · rename_i e'; subst e'
          injection hs with hs; injection hs with q1 q2; injection q2 with q2 q3
          subst q1; subst q2
          by_cases hb : w.heap.size ≤ b
          · exact .inl hb
          · obtain ⟨u2, v2, hu2, hle, _⟩ := hg b (hlt (by omega))
            exact .inr ⟨u2, v2, hu2, hle⟩
        · exact .inr ⟨u, v, hs, Nat.le_refl _⟩
      vers := fun s cur hc => by
        obtain ⟨cur', h1, h1a, h1b, h2, h3, h4⟩ := hrows s cur hc
        refine ⟨cur', h1, h1a, h1b, h2, fun e' => ?_⟩
        have : s ≠ r := fun q => by have := h3 q; omega
        simp [updN, this] }
  refine ⟨G, { inj := S.inj, box := ?_, row := ?_, rinj := ?_, disj := ?_, fresh := fun ad h => S.fresh ad (Nat.le_trans G.size h), rowZ := ?_ }⟩
  · intro i k hi
    obtain ⟨d, arr, t', h1, h2, h3, h4, h5⟩ := S.box i k hi
    refine ⟨d, arr, t', h1, h2, h3, ?_, RepL.mono G.le _ _ h5⟩
    rw [hold k (S.lt hi) fun u v hu => S.disj i k r u v hi hu]; exact h4
  · intro s k u v hs
    unfold updN at hs
    split at hs
    · rename_i e'; subst e'
      injection hs with hs; injection hs with q1 q2; injection q2 with q2 q3
      subst q1; subst q2; subst q3
      exact ⟨_, n', xs', hr', A.blk, A.own, rfl⟩
    · rename_i e'
      obtain ⟨cur, n2, xs2, h1, h2, h3, h4⟩ := S.row s k u v hs
      obtain ⟨cur', c1, _, _, c2, c3, c4⟩ := hrows s cur h1
      have := c4 e'
      subst this
      refine ⟨_, n2, xs2, c1, h2, ?_, h4⟩
      exact own_other h3 h2 (hold k (S.rlt hs) fun u2 v2 hu2 => e' (S.rinj s r k u v u2 v2 hs hu2))
  · intro s1 s2 k u v u' v'' h1 h2
    unfold updN at h1 h2
    split at h1
    · rename_i e1
      split at h2
      · rename_i e2; omega
      · rename_i e2
        injection h1 with h1; injection h1 with q1 _
        subst q1
        have hb := S.rlt h2
        obtain ⟨u2, v2, hu2, _⟩ := hg b (hlt hb)
        exact absurd (S.rinj s2 r b _ _ _ _ h2 hu2) e2
    · rename_i e1
      split at h2
      · rename_i e2
        injection h2 with h2; injection h2 with q1 _
        subst q1
        have hb := S.rlt h1
        obtain ⟨u2, v2, hu2, _⟩ := hg b (hlt hb)
        exact absurd (S.rinj s1 r b _ _ _ _ h1 hu2) e1
      · exact S.rinj s1 s2 k u v u' v'' h1 h2
  · intro i k s u v hi hs
    unfold updN at hs
    split at hs
    · injection hs with hs; injection hs with q1 _
      subst q1
      obtain ⟨u2, v2, hu2, _⟩ := hg b (hlt (S.lt hi))
      exact S.disj i b r u2 v2 hi hu2
    · exact S.disj i k s u v hi hs
  · intro s k u v hs off
    unfold updN at hs
    split at hs
    · injection hs with hs; injection hs with q1 _
      subst q1
      by_cases hb : b < w.heap.size
      · obtain ⟨u2, v2, hu2, _⟩ := hg b (hlt hb)
        exact S.rowZ r b u2 v2 hu2 off
      · exact S.fresh _ (by simpa using hb)
    · exact S.rowZ s k u v hs off
end
end Go.Rb

namespace Go.Rb
set_option linter.unusedVariables false
set_option linter.unusedSimpArgs false

section
variable {P : Program} {Z : Addr → Prop} {o : Oper} {a : Act} {w : World} {μ : Mu} {ν : Nu} {σ : St}

theorem RepEls.uni {R : Ctx} {ad : Addr} {sz size : Nat} {es : List AV} (h : RepEls R ad sz 0 es) (hne : es ≠ []) (hall : es.all (fun y => y.cells.length == size) = true) : sz = size := by
  cases es with
  | nil => exact absurd rfl hne
  | cons x xs =>
    simp only [RepEls] at h
    obtain ⟨⟨hok, V, hr, hsz, _⟩, _⟩ := h
    simp at hall
    rw [← hsz, hr.size hok]; exact hall.1

theorem own_cells {w : World} {e size n : Nat} {v : Value} {xs : List Value} (h : w.ownsRow 0 e size v n xs) {b : Nat} (hb : v.ownBlock = some b) {j : Nat} {x : Value} (hx : xs[j]? = some x) : w.cell? ⟨b, j, none⟩ = some x := by
  rcases h.2 with ⟨rfl, _⟩ | ⟨g, cap, cur, rfl, _, hh, _, _, _, ht⟩
  · simp [Value.ownBlock] at hb
  · have : g = b := by simpa [Value.ownBlock] using hb
    subst this
    rw [cell_of_row w g j cur e (0, 0) hh]
    rw [← ht, List.getElem?_take] at hx
    split at hx
    · simpa using hx
    · cases hx

/-- what is read behind an append -/
theorem rep_appended {w' : World} {μ' : Mu} {ν' : Nu} {rows' : List Row} {e size b r ver : Nat} {v' : Value} {vs us : List Value} {es ys : List AV} (S' : Sim Z w' μ' ν' ⟨σ.boxes, rows'⟩) (hν : ν' r = some (b, (es.length + ys.length) * size, v'))
    (hown : w'.ownsRow 0 e size v' (es.length + ys.length) (vs ++ us)) (hblk : v'.ownBlock = some b) (hrow : rows'[r]? = some ⟨e, size, ver⟩) (h0 : 0 < ys.length)
    (hr1 : RepL (ctx Z w' μ' ν' rows') (es.flatMap AV.cells) vs) (hr2 : RepL (ctx Z w' μ' ν' rows') (ys.flatMap AV.cells) us) (hu1 : Uni size es) (hu2 : Uni size ys) (h1 : ∀ e ∈ es, ∀ x ∈ e.cells, x.one = true) (h2 : ∀ e ∈ ys, ∀ x ∈ e.cells, x.one = true) :
    Rep (ctx Z w' μ' ν' rows') (.sl (.row r ver) (es ++ ys)) v' := by
  obtain ⟨g, cap, cur, rfl, _, hh, hle, hmax, hcs, ht⟩ := own_form hown (by omega)
  have hgb : g = b := by simpa [Value.ownBlock] using hblk
  subst hgb
  simp only [Rep, List.length_append]
  refine ⟨some ⟨g, 0, none⟩, cap, rfl, by omega, hle, ⟨_, hrow, Nat.le_refl _, fun _ => ⟨_, _, hν⟩⟩, ⟨g, 0, none⟩, size, fun _ => rfl, ?_⟩
  refine els_of_block (vs := vs ++ us) (fun x hx => ?_) (fun x hx => ?_) (by rw [List.flatMap_append]; exact hr1.append hr2) ?_
  · rcases List.mem_append.1 hx with hx | hx
    · exact hu1 x hx
    · exact hu2 x hx
  · rcases List.mem_append.1 hx with hx | hx
    · exact h1 x hx
    · exact h2 x hx
  · intro j x hx
    refine ⟨own_cells hown rfl hx, fun i hi => S'.disj i g r _ _ hi hν, ?_, S'.rowZ r g _ _ hν j⟩
    intro s u v hs
    have : s = r := S'.rinj s r g _ _ _ _ hs hν
    subst this
    rw [hν] at hs
    injection hs with hs; injection hs with _ hs; injection hs with hs _
    rw [← hs]
    have := (List.getElem?_eq_some_iff.1 hx).1
    rw [hown.1] at this
    exact this

theorem ok_append {c : Call} {t e : TypeId} {x y : Operand} {x' y' : X} {i : TypeInfo} {z : Value} {E : Env} {v : AV} {σ' : St} (ho : o.op = .call c) (hc : c.callee = .builtin .append) (hT : c.argTypes.toList = [t, t]) (hA : c.args.toList = [x, y]) (ht : P.underlying t = some (.slice e))
    (hi : P.info? e = some i) (hz : i.zero = some z) (hs0 : i.size ≠ 0) (hb0 : i.bytes ≠ 0) (hzs : z.cells.size = i.size) (hx : compX x = some x') (hy : compX y = some y') (S : Sim Z w μ ν σ) (hE : EnvRep (ctx Z w μ ν σ.rows) E a.tmps)
    (h : aAppend e i.size i.bytes (x'.ev E) (y'.ev E) σ = some (v, σ')) : OpOk P Z o a w μ ν σ v σ' := by
  have hp := compX_rep hE hx
  have hq := compX_rep hE hy
  have hT' : c.argTypes = #[t, t] := by rw [← Array.toList_inj]; simpa using hT
  have hA' : c.args = #[x, y] := by rw [← Array.toList_inj]; simpa using hA
  have hrunO : ∀ V w', (Builtin.append_ #[t, t] o.type #[a.eval x, a.eval y]).run P w = .ok V w' → (execOp a.eval o).run P w = .ok (.value V) w' := by
    intro V w' hr
    simp [execOp, ho, resolve, hc, hT', hA', invoke, builtin, Sem.run_bind, hr]
  unfold aAppend at h
  split at h
  · rename_i ow es ow2 ys hxe hye
    rw [hxe] at hp; rw [hye] at hq
    have hp0 := hp
    simp only [Rep] at hp hq
    obtain ⟨A, cap, hv, h1, h2, h3, ad, sz, h4, h5⟩ := hp
    obtain ⟨A2, cap2, hv2, k1, k2, k3, ad2, sz2, k4, k5⟩ := hq
    split at h
    · rename_i hemp
      have hys : ys = [] := by simpa using hemp
      subst hys
      simp only [Option.some.injEq, Prod.mk.injEq] at h
      obtain ⟨rfl, rfl⟩ := h
      refine OpOk.value (V := .slice A es.length cap) (hrunO _ _ ?_) S (by rw [← hv]; exact hp0)
      rw [hv, hv2]
      cases A <;> cases A2 <;> simp [Builtin.append_, run_underlying ht, sizeOf, typeInfo, hi, Builtin.lenOf, Builtin.firstCells, loadCells, loadCellsFrom, h2, storeCells]
    · rename_i hemp
      have hys : ys ≠ [] := by simpa using hemp
      have hyl : 0 < ys.length := List.length_pos_iff.2 hys
      split at h
      · rename_i hcond
        simp only [Bool.and_eq_true, decide_eq_true_eq, mostBytes] at hcond
        obtain ⟨⟨hb, hally⟩, halle⟩ := hcond
        replace hb := of_decide_eq_true hb
        have hsz2 := k5.uni hys hally
        subst hsz2
        obtain rfl := k4 hys
        obtain ⟨us, ru, lu, cu, uu, ou⟩ := k5.flat
        have hmx : es.length + ys.length ≤ maxLen := by
          have hbp : 0 < i.bytes := Nat.pos_of_ne_zero hb0
          have : es.length + ys.length ≤ (es.length + ys.length) * i.bytes := Nat.le_mul_of_pos_right _ hbp
          simp only [maxLen]; omega
        -- the old elements, cell by cell
        have hold : ∃ vs : List Value, RepL (ctx Z w μ ν σ.rows) (es.flatMap AV.cells) vs ∧ vs.length = es.length * i.size ∧ (∀ b, A = some b → ∀ j u, vs[j]? = some u → w.cell? (b.add j) = some u) ∧ Uni i.size es ∧ (∀ e ∈ es, ∀ x ∈ e.cells, x.one = true) := by
          by_cases hes : es = []
          · subst hes
            exact ⟨[], by simp [RepL], by simp, by simp, by intro e he; simp at he, by intro e he; simp at he⟩
          · have hsz := h5.uni hes halle
            subst hsz
            obtain ⟨vs, r1, r2, r3, r4, r5⟩ := h5.flat
            refine ⟨vs, r1, r2, ?_, r4, r5⟩
            intro b hb' j u hj
            have := h4 hes
            rw [hb'] at this; injection this with this; subst this
            have := (r3 j u hj).1
            simpa using this
        obtain ⟨vs, rv, lv, cv, uv, ov⟩ := hold
        have hnews : ∀ j u, us[j]? = some u → w.cell? (ad2.add j) = some u := fun j u hj => by have := (cu j u hj).1; simpa using this
        split at h
        · -- full
          simp only [Option.some.injEq, Prod.mk.injEq] at h
          obtain ⟨rfl, rfl⟩ := h
          simp only [OwnOk] at h3
          obtain ⟨A0, n0, h3⟩ := h3
          rw [hv] at h3
          injection h3 with q1 q2 q3
          subst q1; subst q2; subst q3
          obtain ⟨v', w', b, hr, Ap⟩ := run_append_full (P := P) (w := w) t o.type e i z i.size i.bytes ht hi hz rfl rfl hzs (Nat.pos_of_ne_zero hs0) A es.length vs lv (fun hp => ⟨ad, h4 (fun q => by subst q; simp at hp)⟩) cv ad2 ys.length cap2 us lu hnews (one_cells ru (fun x hx => by obtain ⟨e, he, hx⟩ := List.mem_flatMap.1 hx; exact ou e he x hx)) hyl hmx hb
          have hnone : ν σ.rows.length = none := by
            cases hn : ν σ.rows.length with
            | none => rfl
            | some p =>
              obtain ⟨b', u', v''⟩ := p
              obtain ⟨cur, _, _, hc, _⟩ := S.row _ _ _ _ hn
              have := (List.getElem?_eq_some_iff.1 hc).1
              omega
          obtain ⟨G, S'⟩ := sim_append S Ap (r := σ.rows.length) (ver' := 0) (rows' := σ.rows ++ [⟨e, i.size, 0⟩]) (by simp)
            (fun s cur hs => by
              have hlt := (List.getElem?_eq_some_iff.1 hs).1
              exact ⟨cur, by rw [List.getElem?_append_left hlt]; exact hs, rfl, rfl, Nat.le_refl _, fun q => by omega, fun _ => rfl⟩)
            (fun k q => by cases q) (fun _ => hnone) (fun k u v q => by rw [hnone] at q; cases q)
          refine OpOk.to (hrunO _ _ (by rw [hv, hv2]; exact hr)) G S' ?_
          exact rep_appended (σ := σ) S' (by simp [updN]) Ap.own Ap.blk (by simp) hyl (RepL.mono G.le _ _ rv) (RepL.mono G.le _ _ ru) uv uu ov ou
        · -- one's own
          rename_i r ver
          split at h
          · rename_i hrow
            simp only [Option.some.injEq, Prod.mk.injEq] at h
            obtain ⟨rfl, rfl⟩ := h
            simp only [OwnOk] at h3
            obtain ⟨cur, hcur, _, hc3⟩ := h3
            rw [hrow] at hcur
            injection hcur with hcur
            subst hcur
            obtain ⟨b0, u0, hν0⟩ := hc3 rfl
            obtain ⟨cur, n2, xs2, hc1, hblk0, hown0, hu0⟩ := S.row _ _ _ _ hν0
            rw [hrow] at hc1; injection hc1 with hc1; subst hc1
            simp only at hown0 hu0
            -- the row's own account, and the claims', are one
            have hn2 : n2 = es.length := by
              rcases hown0.2 with ⟨q, _⟩ | ⟨g, cp, cu', q, _⟩
              · rw [q] at hblk0; simp [Value.ownBlock] at hblk0
              · rw [hv] at q; injection q with _ q _; exact q.symm
            subst hn2
            have hA0 : A = some ⟨b0, 0, none⟩ := by
              rcases hown0.2 with ⟨q, _⟩ | ⟨g, cp, cu', q, _⟩
              · rw [q] at hblk0; simp [Value.ownBlock] at hblk0
              · have : g = b0 := by rw [q] at hblk0; simpa [Value.ownBlock] using hblk0
                subst this
                rw [hv] at q; injection q with q _ _
            have hxs : xs2 = vs := by
              apply List.ext_getElem?
              intro j
              by_cases hj : j < es.length * i.size
              · have h1' : xs2[j]? = some (xs2[j]'(by rw [hown0.1]; exact hj)) := List.getElem?_eq_getElem _
                have h2' : vs[j]? = some (vs[j]'(by rw [lv]; exact hj)) := List.getElem?_eq_getElem _
                have e1 := own_cells hown0 hblk0 h1'
                have e2 := cv _ hA0 _ _ h2'
                rw [plain_add, Nat.zero_add, e1] at e2
                injection e2 with e2
                rw [h1', h2', e2]
              · rw [List.getElem?_eq_none (by rw [hown0.1]; omega), List.getElem?_eq_none (by rw [lv]; omega)]
            subst hxs
            rw [hv] at hown0 hblk0 hν0
            obtain ⟨v', w', b, hr, Ap⟩ := run_append_row (P := P) (w := w) t o.type e i z i.size i.bytes ht hi hz rfl rfl hzs (Nat.pos_of_ne_zero hs0) (.slice A es.length cap) es.length xs2 hown0 hblk0 ad2 ys.length cap2 us lu hnews (one_cells ru (fun x hx => by obtain ⟨e, he, hx⟩ := List.mem_flatMap.1 hx; exact ou e he x hx)) hyl hmx hb
            have hrlt := (List.getElem?_eq_some_iff.1 hrow).1
            obtain ⟨G, S'⟩ := sim_append S Ap (r := r) (ver' := ver + 1) (rows' := σ.rows.set r ⟨e, i.size, ver + 1⟩) (by simp [hrlt])
              (fun s cur hs => by
                by_cases q : s = r
                · subst q
                  rw [hrow] at hs; injection hs with hs; subst hs
                  exact ⟨⟨e, i.size, ver + 1⟩, by simp [hrlt], rfl, rfl, by simp, fun _ => by simp, fun q => absurd rfl q⟩
                · exact ⟨cur, by rw [List.getElem?_set_ne (Ne.symm q)]; exact hs, rfl, rfl, Nat.le_refl _, fun q' => absurd q' q, fun _ => rfl⟩)
              (fun k q => by
                injection q with q; subst q
                refine ⟨u0, _, hν0, by rw [hu0]; exact Nat.mul_le_mul_right _ (by omega), ?_⟩
                intro off hoff
                rw [hu0] at hoff
                have h1' : xs2[off]? = some (xs2[off]'(by rw [hown0.1]; exact hoff)) := List.getElem?_eq_getElem _
                rw [own_cells hown0 hblk0 h1']
                rcases Ap.at_ with ⟨q1, _⟩ | ⟨q1, q2⟩
                · injection q1 with q1; subst q1
                  exact own_cells Ap.own Ap.blk (by rw [List.getElem?_append_left (by rw [hown0.1]; exact hoff)]; exact h1')
                · rw [World.cell?_of_block (q2 b0 (S.rlt hν0))]
                  exact own_cells hown0 hblk0 h1')
              (fun q => by cases q) (fun k u v q => by rw [hν0] at q; injection q with q; injection q with q _; rw [q])
            refine OpOk.to (hrunO _ _ (by rw [hv, hv2]; exact hr)) G S' ?_
            exact rep_appended (σ := σ) S' (by simp [updN]) Ap.own Ap.blk (by simp [hrlt]) hyl (RepL.mono G.le _ _ rv) (RepL.mono G.le _ _ ru) uv uu ov ou
          · cases h
        · cases h
      · cases h
  · cases h
end
end Go.Rb

namespace Go.Rb
set_option linter.unusedVariables false
set_option linter.unusedSimpArgs false

section
variable {P : Program} {Z : Addr → Prop} {o : Oper} {a : Act} {w : World} {μ : Mu} {ν : Nu} {σ : St}

theorem ok_eqs {op : BinOp} {t yt : TypeId} {x y : Operand} {x' y' : X} {E : Env} {b c : ByteArray} (neg : Bool) (hop : op = if neg then .neq else .eql) (ho : o.op = .binOp op t x y yt) (ht : P.underlying t = some .string) (hx : compX x = some x') (hy : compX y = some y') (S : Sim Z w μ ν σ)
    (hE : EnvRep (ctx Z w μ ν σ.rows) E a.tmps) (hb : x'.ev E = .str b) (hc : y'.ev E = .str c) : OpOk P Z o a w μ ν σ (.bool (if neg then !(b.toList == c.toList) else b.toList == c.toList)) σ := by
  have h1 := compX_rep hE hx
  have h2 := compX_rep hE hy
  rw [hb] at h1; rw [hc] at h2
  simp only [Rep] at h1 h2
  refine OpOk.value (V := .bool (if neg then !(b.toList == c.toList) else b.toList == c.toList)) ?_ S (by simp only [Rep])
  cases neg
  · simp only [Bool.false_eq_true, if_false] at hop ⊢
    subst hop
    simp [execOp, ho, h1, h2, binOp, Op.stringOp, Sem.run_bind, eqGuard]
  · simp only [if_true] at hop ⊢
    subst hop
    simp [execOp, ho, h1, h2, binOp, Op.stringOp, Sem.run_bind, eqGuard]
theorem ok_sadd {t yt : TypeId} {x y : Operand} {x' y' : X} {E : Env} {b c : ByteArray} (ho : o.op = .binOp .add t x y yt) (hx : compX x = some x') (hy : compX y = some y') (S : Sim Z w μ ν σ)
    (hE : EnvRep (ctx Z w μ ν σ.rows) E a.tmps) (hb : x'.ev E = .str b) (hc : y'.ev E = .str c) (h1 : b.size ≤ 4194304) (h2 : c.size ≤ 4194304) : OpOk P Z o a w μ ν σ (.str (b ++ c)) σ := by
  have h3 := compX_rep hE hx
  have h4 := compX_rep hE hy
  rw [hb] at h3; rw [hc] at h4
  simp only [Rep] at h3 h4
  refine OpOk.value (V := .string (b ++ c)) ?_ S (by simp only [Rep])
  have := run_string_add (P := P) w b c (by omega) (by omega)
  simp [execOp, ho, h3, h4, binOp, Sem.run_bind, this, eqGuard]
theorem ok_chr {s d : TypeId} {k' : IntKind} {x : Operand} {x' : X} {E : Env} {j : IntKind} {n : Int} (ho : o.op = .convert s d x) (hs : P.underlying s = some (.int k')) (hd : P.underlying d = some .string) (hx : compX x = some x') (S : Sim Z w μ ν σ)
    (hE : EnvRep (ctx Z w μ ν σ.rows) E a.tmps) (h : x'.ev E = .int j n) : OpOk P Z o a w μ ν σ (.str (Utf8.encode n)) σ := by
  have hp := compX_rep hE hx
  rw [h] at hp
  simp only [Rep] at hp
  refine OpOk.value (V := .string (Utf8.encode n)) ?_ S (by simp only [Rep])
  simp [execOp, ho, hp, convert, Sem.run_bind, run_underlying hs, run_underlying hd, Conv.intToString]


theorem RepEls.drop {R : Ctx} {ad : Addr} {sz : Nat} {es : List AV} (h : RepEls R ad sz 0 es) (l n : Nat) : RepEls R (ad.add (l * sz)) sz 0 ((es.drop l).take n) := by
  refine RepEls.of fun k x hx => ?_
  rw [List.getElem?_take] at hx
  split at hx
  · rw [List.getElem?_drop] at hx
    obtain ⟨h1, V, h2, h3, h4⟩ := h.get hx
    refine ⟨h1, V, h2, h3, ?_⟩
    have : (ad.add (l * sz)).add ((0 + k) * sz) = ad.add ((0 + (l + k)) * sz) := by
      rw [Addr.add_add]; congr 1; simp [Nat.add_mul]
    rw [this]; exact h4
  · cases hx

theorem run_bounds (isSlice : Bool) (len cap : Nat) (l h : Int) (k1 k2 : IntKind) (h0 : 0 ≤ l) (h1 : l ≤ h) (h2 : h ≤ cap) :
    (Instr.sliceBounds isSlice len cap (some (.int k1 l)) (some (.int k2 h)) none).run P w = .ok (l.toNat, h.toNat, cap) w := by
  have e1 : (l.toNat : Int) = l := Int.toNat_of_nonneg h0
  have e2 : (h.toNat : Int) = h := Int.toNat_of_nonneg (by omega)
  simp [Instr.sliceBounds, Instr.sliceBound, asIntOf, Sem.run_bind, e1, e2, h0, h1, h2, (by omega : 0 ≤ h)]
theorem run_bounds_h (isSlice : Bool) (len cap : Nat) (h : Int) (k2 : IntKind) (h1 : 0 ≤ h) (h2 : h ≤ cap) :
    (Instr.sliceBounds isSlice len cap none (some (.int k2 h)) none).run P w = .ok (0, h.toNat, cap) w := by
  simp [Instr.sliceBounds, Instr.sliceBound, asIntOf, Sem.run_bind, h1, h2]
theorem run_bounds_l (isSlice : Bool) (len cap : Nat) (l : Int) (k1 : IntKind) (h0 : 0 ≤ l) (h1 : l ≤ len) :
    (Instr.sliceBounds isSlice len cap (some (.int k1 l)) none none).run P w = .ok (l.toNat, len, cap) w := by
  simp [Instr.sliceBounds, Instr.sliceBound, asIntOf, Sem.run_bind, h0, h1]

/-- a part of an array that a variable holds -/
theorem ok_slbox {t e : TypeId} {x : Operand} {lo hi : Option Operand} {y : X} {n sz : Nat} {g : Bool} {E : Env} {id off : Nat} {l h : Int} (ho : o.op = .slice t x lo hi none) (ht : P.underlying t = some (.array n e)) (hs : sizeA P e = some (sz, g)) (hn : n ≤ 16777216)
    (hx : compX x = some y) (S : Sim Z w μ ν σ) (hE : EnvRep (ctx Z w μ ν σ.rows) E a.tmps) (hy : y.ev E = .box id off) (h0 : 0 ≤ l) (h1 : l ≤ h) (h2 : h ≤ n) (h3 : l < n)
    (hb : (Instr.sliceBounds false n n (lo.map a.eval) (hi.map a.eval) none).run P w = .ok (l.toNat, h.toNat, n) w) : OpOk P Z o a w μ ν σ (.bsl id (off + l.toNat * sz) (h.toNat - l.toNat) sz g) σ := by
  have hp := compX_rep hE hx
  rw [hy] at hp
  simp only [Rep] at hp
  obtain ⟨b, hm, hv⟩ := hp
  obtain ⟨inf, d, hi', hd, hsz', hnz, hgd⟩ := sizeA_parts hs
  refine OpOk.value (V := .slice (some ⟨b, off + l.toNat * sz, none⟩) (h.toNat - l.toNat) (n - l.toNat)) ?_ S ?_
  · have hne : ¬ n = l.toNat := by omega
    simp [execOp, ho, Instr.sliceAt, hv, Instr.sureAddr, Sem.run_bind, run_underlying ht, hb, sizeOf, typeInfo, hi', hsz', hne, plain_add]
  · simp only [Rep]
    refine ⟨b, _, hm, rfl, by unfold maxLen; omega, by omega⟩

/-- a part of a slice -/
theorem ok_slc {t e : TypeId} {x : Operand} {lo hi : Option Operand} {y : X} {sz : Nat} {g : Bool} {E : Env} {ow : Own} {es : List AV} {l h : Int} (ho : o.op = .slice t x lo hi none) (ht : P.underlying t = some (.slice e)) (hs : sizeA P e = some (sz, g))
    (hx : compX x = some y) (S : Sim Z w μ ν σ) (hE : EnvRep (ctx Z w μ ν σ.rows) E a.tmps) (hy : y.ev E = .sl ow es) (h0 : 0 ≤ l) (h1 : l ≤ h) (h2 : h ≤ es.length) (hsz : es.all (fun y => y.cells.length == sz) = true)
    (hb : ∀ cap, es.length ≤ cap → (Instr.sliceBounds true es.length cap (lo.map a.eval) (hi.map a.eval) none).run P w = .ok (l.toNat, h.toNat, cap) w) : OpOk P Z o a w μ ν σ (.sl .no ((es.drop l.toNat).take (h.toNat - l.toNat))) σ := by
  have hp := compX_rep hE hx
  rw [hy] at hp
  simp only [Rep] at hp
  obtain ⟨A, c, hv, p1, p2, p3, ad, sz', p4, p5⟩ := hp
  obtain ⟨inf, d, hi', hd, hsz', hnz, hgd⟩ := sizeA_parts hs
  have hlen : ((es.drop l.toNat).take (h.toNat - l.toNat)).length = h.toNat - l.toNat := by simp; omega
  refine OpOk.value (V := .slice (if c = l.toNat then A else A.map (·.add (l.toNat * sz))) (h.toNat - l.toNat) (c - l.toNat)) ?_ S ?_
  · simp [execOp, ho, Instr.sliceAt, Instr.slice, hv, Sem.run_bind, run_underlying ht, hb c p2, sizeOf, typeInfo, hi', hsz']
  · simp only [Rep]
    refine ⟨_, _, by rw [hlen], by rw [hlen]; omega, by rw [hlen]; omega, OwnOk.no, ad.add (l.toNat * sz), sz, ?_, ?_⟩
    · intro hne
      have hlt : l.toNat < h.toNat := by
        rcases Nat.lt_or_ge l.toNat h.toNat with q | q
        · exact q
        · exfalso; apply hne; apply List.eq_nil_of_length_eq_zero; rw [hlen]; omega
      have hes : es ≠ [] := by rintro rfl; simp at h2; omega
      obtain rfl := p4 hes
      rw [if_neg (by omega)]; rfl
    · by_cases hes : es = []
      · subst hes; simp [RepEls]
      · have hss : sz' = sz := by
          obtain ⟨z, zs, rfl⟩ := List.exists_cons_of_ne_nil hes
          simp only [RepEls] at p5
          obtain ⟨⟨q1, V, q2, q3, _⟩, _⟩ := p5
          have := q2.size q1
          simp at hsz
          rw [q3] at this
          rw [this]; exact hsz.1
        rw [← hss]; exact p5.drop _ _
end
end Go.Rb

/- The model's code, its types looked up: what the interpreter runs. Each operation of the interpreter against the model's: the plain ones. Operations that make, read, and write variables. Stores; elements; aggregates; what is left of the plain operations. Elements, aggregates, and slices that are made. -/
import Derived.Test.YtbdaiimljcjmpaaGreatBT00
import Derived.WalkKit
import Derived.Laws.CopyRow
import Derived.Laws.Rows
import Derived.Laws.Cells
import Derived.Laws.StructEq
namespace Go.Rb
set_option linter.unusedVariables false
set_option linter.unusedSimpArgs false

def constAV : Value → Option AV
  | .int k n => some (.int k n)
  | .bool b => some (.bool b)
  | .string s => some (.str s)
  | .slice none 0 0 => some (.sl .full [])
  | .nilFunc => some .nilfn
  | .pointer none => some .nilp
  | .map none => some .nilm
  | _ => none
def constsAV : List Value → Option (List AV)
  | [] => some []
  | v :: vs => match constAV v, constsAV vs with
    | some x, some xs => some (x :: xs)
    | _, _ => none
def valueAV : Value → Option AV
  | .agg cs => (constsAV cs.toList).map .agg
  | v => constAV v

def compX : Operand → Option X
  | .tmp t => some (.t t)
  | .const v => (valueAV v).map .c
  | .func f => some (.c (.fn (.func f) [] []))
  | .global _ => none
def compXs : List Operand → Option (List X)
  | [] => some []
  | x :: xs => match compX x, compXs xs with
    | some y, some ys => some (y :: ys)
    | _, _ => none

def aggD : TypeDesc → Bool
  | .struct _ | .array _ _ => true
  | _ => false
/-- a type's size, and whether its values are of several cells; none of size 0 -/
def sizeA (P : Program) (t : TypeId) : Option (Nat × Bool) :=
  match P.info? t, P.underlying t with
  | some i, some d => if i.size = 0 then none else some (i.size, aggD d)
  | _, _ => none
/-- a number's type (true), a bool's (false) -/
def plainT (P : Program) (t : TypeId) : Option Bool :=
  match P.underlying t with
  | some (.int _) => some true
  | some .bool => some false
  | _ => none
/-- the kinds of a struct's fields, if they are plain, and lie cell by cell -/
def flatFields (P : Program) : Nat → List Field → Option (List Bool)
  | _, [] => some []
  | i, f :: r => match plainT P f.type, flatFields P (i + 1) r with
    | some k, some l => if f.name ≠ "_" ∧ f.offset = i then some (k :: l) else none
    | _, _ => none

def partPlaces (P : Program) (fields : Array Field) : List (Nat × Operand) → Option (List (Nat × Nat × X))
  | [] => some []
  | (i, x) :: r =>
    match fields[i]?, compX x, partPlaces P fields r with
    | some f, some y, some l => match sizeA P f.type with
      | some (s, _) => some ((f.offset, s, y) :: l)
      | none => none
    | _, _, _ => none
def partElems (s : Nat) : List (Nat × Operand) → Option (List (Nat × Nat × X))
  | [] => some []
  | (i, x) :: r =>
    match compX x, partElems s r with
    | some y, some l => some ((i * s, s, y) :: l)
    | _, _ => none
def partSlots : List (Nat × Operand) → Option (List (Nat × X))
  | [] => some []
  | (i, x) :: r =>
    match compX x, partSlots r with
    | some y, some l => some ((i, y) :: l)
    | _, _ => none

def compSlice (P : Program) (t : TypeId) (x : Operand) (lo hi mx : Option Operand) : Option SOp :=
  match lo, hi, mx with
  | some l, some h, none => match P.underlying t, compX x, compX l, compX h with
    | some (.array n e), some y, some a, some b => match sizeA P e with
      | some (s, g) => if n ≤ 16777216 then some (.slbox n s g y a b) else none
      | none => none
    | some (.slice e), some y, some a, some b => (sizeA P e).map fun p => .slc p.1 y a (some b)
    | _, _, _, _ => none
  | none, some h, none => match P.underlying t, compX x, compX h with
    | some (.array n e), some y, some b => match sizeA P e with
      | some (s, g) => if n ≤ 16777216 then some (.slbox n s g y (.c (.int .i64 0)) b) else none
      | none => none
    | some (.slice e), some y, some b => (sizeA P e).map fun p => .slc p.1 y (.c (.int .i64 0)) (some b)
    | _, _, _ => none
  | some l, none, none => match P.underlying t, compX x, compX l with
    | some (.array n e), some y, some a => match sizeA P e with
      | some (s, g) => if n ≤ 16777216 then some (.slbox n s g y a (.c (.int .i64 n))) else none
      | none => none
    | some (.slice e), some y, some a => (sizeA P e).map fun p => .slc p.1 y a none
    | _, _, _ => none
  | _, _, _ => none

def compOp (P : Program) (o : Op) : Option SOp :=
  match o with
  | .move x | .assign x => (compX x).map .mov
  | .pick c a b => match compX c, compX a, compX b with
    | some c, some a, some b => some (.pick c a b)
    | _, _, _ => none
  | .alloc e => match sizeA P e, (P.info? e).bind (·.zero) with
    | some _, some z => (valueAV z).map .alloc
    | _, _ => none
  | .box _ x => (compX x).map .box
  | .build t parts => match (P.info? t).bind (·.zero), P.underlying t with
    | some z, some (.struct fs) => match valueAV z, partPlaces P fs parts.toList, fs.toList.all (fun f => (P.info? f.type).isSome) with
      | some (.agg l), some ps, true => some (.build l ps)
      | _, _, _ => none
    | some z, some (.array _ e) => match valueAV z, sizeA P e with
      | some (.agg l), some (s, _) => (partElems s parts.toList).map (.build l)
      | _, _ => none
    | _, _ => none
  | .buildSlice t len parts => match P.underlying t with
    | some (.slice e) => match sizeA P e, ((P.info? e).bind (·.zero)).bind valueAV, partSlots parts.toList with
      | some (s, a), some z, some ps => if len * s ≤ 16777216 && z.cells.length == s && z.isAgg == a && len != 0 then some (.bslice s z len ps) else none
      | _, _, _ => none
    | _ => none
  | .load t x => match sizeA P t, compX x with
    | some (s, a), some y => some (.load s a y)
    | _, _ => none
  | .store t x v => match sizeA P t, compX x, compX v with
    | some (s, _), some y, some u => some (.store s y u)
    | _, _, _ => none
  | .nilCheck x => (compX x).map .nilck
  | .binOp op t x y _ => match compX x, compX y with
    | some a, some b => match P.underlying t with
      | some (.int _) => some (.bin op a b)
      | some .bool => match op with
        | .eql => some (.eqb false a b)
        | .neq => some (.eqb true a b)
        | _ => none
      | some .string => match op with
        | .eql => some (.eqs false a b)
        | .neq => some (.eqs true a b)
        | .add => some (.sadd a b)
        | _ => none
      | some (.struct fs) => match flatFields P 0 fs.toList with
        | some ks => if P.stoodInHeld t = false ∧ P.eqGuardType P.depth t = false then match op with
          | .eql => some (.eqa false ks a b)
          | .neq => some (.eqa true ks a b)
          | _ => none else none
        | none => none
      | some (.array n e) => match plainT P e, sizeA P e with
        | some k, some (1, _) => if n = 2 ∧ P.eqGuardType P.depth t = false then match op with
          | .eql => some (.eqa false (List.replicate 2 k) a b)
          | .neq => some (.eqa true (List.replicate 2 k) a b)
          | _ => none else none
        | _, _ => none
      | _ => none
    | _, _ => none
  | .unOp op _ x => (compX x).map (.un op)
  | .convert s d x => match P.underlying s, P.underlying d, compX x with
    | some (.int _), some (.int k), some y => some (.conv k y)
    | some (.int _), some .string, some y => some (.chr y)
    | _, _, _ => none
  | .slice t x lo hi mx => compSlice P t x lo hi mx
  | .makeFunc f a b => match compXs a.toList, compXs b.toList with
    | some l, some m => some (.mkfn f l m)
    | _, _ => none
  | .fieldAddr s x i => match P.underlying s, compX x with
    | some (.struct fs), some y => match fs[i]? with
      | some f => (sizeA P f.type).map fun p => .faddr f.offset p.1 p.2 y
      | none => none
    | _, _ => none
  | .field s x i => match P.underlying s, compX x with
    | some (.struct fs), some y => match fs[i]? with
      | some f => (sizeA P f.type).map fun p => .fld f.offset p.1 p.2 y
      | none => none
    | _, _ => none
  | .indexAddr t x i => match P.underlying t, compX x, compX i with
    | some (.slice e), some y, some j => (sizeA P e).map fun p => .iaddr p.1 y j
    | some (.array n e), some y, some j => (sizeA P e).map fun p => .iaddrA n p.1 p.2 y j
    | _, _, _ => none
  | .index t x i => match P.underlying t, compX x, compX i with
    | some (.array n e), some y, some j => (sizeA P e).map fun p => .idxA n p.1 p.2 y j
    | _, _, _ => none
  | .extract x i => (compX x).map fun y => .ext y i
  | .call c => match c.callee with
    | .value f => match compX f, compXs c.args.toList with
      | some g, some l => some (.call g l)
      | _, _ => none
    | .builtin .len => match c.argTypes.toList, c.args.toList with
      | [t], [x] => match P.underlying t, compX x with
        | some (.slice _), some y => some (.len y)
        | _, _ => none
      | _, _ => none
    | .builtin .max => match c.args.toList with
      | [x, y] => match compX x, compX y with
        | some a, some b => some (.mx true a b)
        | _, _ => none
      | _ => none
    | .builtin .min => match c.args.toList with
      | [x, y] => match compX x, compX y with
        | some a, some b => some (.mx false a b)
        | _, _ => none
      | _ => none
    | .builtin .append => match c.argTypes.toList, c.args.toList with
      | [t, u], [x, y] => if t = u then match P.underlying t, compX x, compX y with
        | some (.slice e), some a, some b => match P.info? e, (P.info? e).bind (·.zero) with
          | some i, some z => if i.size ≠ 0 ∧ i.bytes ≠ 0 ∧ z.cells.size = i.size then some (.append e i.size i.bytes a b) else none
          | _, _ => none
        | _, _, _ => none else none
      | _, _ => none
    | _ => none
  | _ => none

/-- what each operation comes behind -/
def befores : List (Array Edge) → List (List Nat) → List (List Nat)
  | [], acc => acc.reverse
  | es :: r, acc =>
    let b := es.toList.foldl (fun s e => if Region.binds .any e then (s ++ e.on :: (acc.reverse.getD e.on [])) else s) []
    befores r (b.eraseDups :: acc)

/-- is each mark under an earlier number? -/
def edgesOk : Nat → List Oper → Bool
  | _, [] => true
  | i, o :: r => o.after.toList.all (fun e => !Region.binds .any e || e.on < i) && edgesOk (i + 1) r

def xNames : X → List Nat
  | .t n => [n]
  | .c _ => []
def oNames : Option X → List Nat
  | some x => xNames x
  | none => []
def opNames : SOp → List Nat
  | .mov a | .box a | .load _ _ a | .nilck a | .un _ a | .conv _ a | .faddr _ _ _ a | .fld _ _ _ a | .ext a _ | .len a => xNames a
  | .pick a b c => xNames a ++ xNames b ++ xNames c
  | .alloc _ => []
  | .build _ ps => ps.flatMap fun p => xNames p.2.2
  | .bslice _ _ _ ps => ps.flatMap fun p => xNames p.2
  | .store _ a b | .bin _ a b | .eqb _ a b | .eqa _ _ a b | .iaddr _ a b | .iaddrA _ _ _ a b | .idxA _ _ _ a b | .mx _ a b | .append _ _ _ a b => xNames a ++ xNames b
  | .mkfn _ a b => a.flatMap xNames ++ b.flatMap xNames
  | .call f l => xNames f ++ l.flatMap xNames
  | .eqs _ a b | .sadd a b => xNames a ++ xNames b
  | .chr a => xNames a
  | .slbox _ _ _ a b c => xNames a ++ xNames b ++ xNames c
  | .slc _ a b c => xNames a ++ xNames b ++ oNames c
def gNames : Option (Nat × Bool) → List Nat
  | some (t, _) => [t]
  | none => []
def namesOf (o : SOper) : List Nat := opNames o.op ++ gNames o.guard

/-- two operations of which one writes what the other one names are in order -/
def apartD (d : Option Nat) (p : SOper) : Bool :=
  match d with
  | some d => !(namesOf p).contains d && p.dst != some d
  | none => true
def namesOk (l : List SOper) : Bool :=
  l.zipIdx.all fun (o, j) => l.zipIdx.all fun (p, i) => !(decide (i < j)) || (apartD o.dst p && apartD p.dst o) || o.bef.contains i

def dstLt (nt : Nat) : Option Nat → Bool
  | some d => decide (d < nt)
  | none => true
def compOper (P : Program) (nt : Nat) (dsts : List (Option Nat)) (o : Oper) (bef : List Nat) : Option SOper :=
  match compOp P o.op with
  | none => none
  | some s =>
    if dstLt nt o.dst then
      match o.guard with
      | none => some ⟨o.dst, s, none, bef⟩
      | some (j, b) => match (dsts.getD j none) with
        | some t => some ⟨o.dst, s, some (t, b), bef⟩
        | none => none
    else none
def compOpers (P : Program) (nt : Nat) (dsts : List (Option Nat)) : List Oper → List (List Nat) → Option (List SOper)
  | [], _ => some []
  | o :: r, b :: bs => match compOper P nt dsts o b, compOpers P nt dsts r bs with
    | some s, some l => some (s :: l)
    | _, _ => none
  | _ :: _, [] => none
def compRegion (P : Program) (nt : Nat) (ops : Array Oper) (draw : Bool) : Option (List SOper) :=
  match compOpers P nt (ops.toList.map (·.dst)) ops.toList (if draw then befores (ops.toList.map (·.after)) [] else ops.toList.map fun _ => []) with
  | some l => if !draw || (edgesOk 0 ops.toList && namesOk l) then some l else none
  | none => none

def compCode (P : Program) (nt : Nat) : Code → List (List Nat) → Option (SCode × List (List Nat))
  | .skip, l => some (.skip, l)
  | .region _ ops draw, l => (compRegion P nt ops draw).map fun r => (.region draw r, l)
  | .seq a b, l => match compCode P nt a l with
    | some (x, l) => match compCode P nt b l with
      | some (y, l) => some (.seq x y, l)
      | none => none
    | none => none
  | .cond c a b, l => match compX c, compCode P nt a l with
    | some c, some (x, l) => match compCode P nt b l with
      | some (y, l) => some (.cond c x y, l)
      | none => none
    | _, _ => none
  | .block id c, l => match compCode P nt c l with
    | some (x, l) => some (.block id x, l)
    | none => none
  | .loop c, v :: l => match compCode P nt c l with
    | some (x, l) => some (.loop v x, l)
    | none => none
  | .exit id, l => some (.exit id, l)
  | .ret, l => some (.ret, l)
  | _, _ => none

def compRes (P : Program) : List ResultVar → Option (List SRes)
  | [] => some []
  | .tmp t :: r => (compRes P r).map (.tmp t :: ·)
  | .cell a t :: r => match sizeA P t, compRes P r with
    | some (s, g), some l => some (.cell a s g :: l)
    | _, _ => none

def compFun (P : Program) (fn : Func) (np : Nat) (lives : List (List Nat)) : Option SFun :=
  match fn.body with
  | some c => match compCode P fn.ntmps c lives, compRes P fn.results.toList with
    | some (s, []), some r => if np ≤ fn.ntmps && fn.name != "runtime.NumGoroutine" then some ⟨np, s, r⟩ else none
    | _, _ => none
  | none => none

end Go.Rb

namespace Go.Rb
set_option linter.unusedVariables false
set_option linter.unusedSimpArgs false

theorem constAV_rep {v : Value} {x : AV} (h : constAV v = some x) (R : Ctx) : Rep R x v ∧ x.one = true := by
  unfold constAV at h
  split at h <;> first | (cases h; done) | skip
  all_goals (injection h with h; subst h)
  case h_4 =>
    refine ⟨?_, rfl⟩
    simp only [Rep]
    exact ⟨none, 0, rfl, by simp, by simp, ⟨none, 0, rfl⟩, ⟨0, 0, none⟩, 0, by simp, by simp [RepEls]⟩
  all_goals (exact ⟨by simp only [Rep], rfl⟩)
theorem constsAV_rep {R : Ctx} : ∀ {l : List Value} {xs : List AV}, constsAV l = some xs → RepL R xs l ∧ ∀ c ∈ xs, c.one = true
  | [], xs, h => by simp [constsAV] at h; subst h; simp [RepL]
  | v :: vs, xs, h => by
    simp only [constsAV] at h
    split at h
    · rename_i x ys hx hy
      injection h with h; subst h
      have h1 := constAV_rep hx R
      have h2 := constsAV_rep (R := R) hy
      refine ⟨by simp only [RepL]; exact ⟨v, vs, rfl, h1.1, h2.1⟩, ?_⟩
      intro c hc
      rcases List.mem_cons.1 hc with rfl | hc
      · exact h1.2
      · exact h2.2 c hc
    · cases h
theorem valueAV_rep {v : Value} {x : AV} (h : valueAV v = some x) (R : Ctx) : Rep R x v ∧ x.okv = true := by
  unfold valueAV at h
  split at h
  · rename_i cs
    cases hc : constsAV cs.toList with
    | none => rw [hc] at h; cases h
    | some l =>
      rw [hc] at h
      simp at h
      subst h
      have := constsAV_rep (R := R) hc
      exact ⟨by simp only [Rep]; exact ⟨⟨cs, rfl, this.1⟩, this.2⟩, rfl⟩
  · have := constAV_rep h R
    exact ⟨this.1, okv_of_one this.2⟩

def EnvRep (R : Ctx) (e : Env) (tmps : Array Value) : Prop := ∀ t, Rep R (e.get t) (tmps.getD t undef)
theorem compX_rep {R : Ctx} {e : Env} {a : Act} (h : EnvRep R e a.tmps) {x : Operand} {y : X} (hx : compX x = some y) : Rep R (y.ev e) (a.eval x) := by
  cases x with
  | tmp t => simp [compX] at hx; subst hx; exact h t
  | const v =>
    simp only [compX] at hx
    cases hv : valueAV v with
    | none => rw [hv] at hx; cases hx
    | some z => rw [hv] at hx; simp at hx; subst hx; exact (valueAV_rep hv R).1
  | func f =>
    simp [compX] at hx; subst hx
    simp only [X.ev, Rep, Act.eval]
    exact ⟨#[], #[], rfl, by simp [RepL], by simp [RepL]⟩
  | global g => simp [compX] at hx
theorem compXs_rep {R : Ctx} {e : Env} {a : Act} (h : EnvRep R e a.tmps) : ∀ {xs : List Operand} {ys : List X}, compXs xs = some ys → RepL R (ys.map (·.ev e)) (xs.map a.eval)
  | [], ys, hx => by simp [compXs] at hx; subst hx; simp [RepL]
  | x :: xs, ys, hx => by
    simp only [compXs] at hx
    split at hx
    · rename_i y zs h1 h2
      injection hx with hx; subst hx
      simp only [List.map_cons, RepL]
      exact ⟨_, _, rfl, compX_rep h h1, compXs_rep h h2⟩
    · cases hx

/-- what a step of an operation comes to -/
def OpOk (P : Program) (Z : Addr → Prop) (o : Oper) (a : Act) (w : World) (μ : Mu) (ν : Nu) (σ : St) (v : AV) (σ' : St) : Prop :=
  ∀ (K : Act → World → Prop) (Q : Exit → Act → World → Prop),
    (∀ w' μ' ν' V, Grow σ.boxes.length w μ ν σ.rows w' μ' ν' σ'.rows → Sim Z w' μ' ν' σ' → Rep (ctx Z w' μ' ν' σ'.rows) v V → K (a.put o.dst V) w') → o.wp P a w K Q

section
variable {P : Program} {Z : Addr → Prop} {o : Oper} {a : Act} {w : World} {μ : Mu} {ν : Nu} {σ : St}

theorem OpOk.value {V : Value} {v : AV} (hr : (execOp a.eval o).run P w = .ok (.value V) w) (S : Sim Z w μ ν σ) (hv : Rep (ctx Z w μ ν σ.rows) v V) : OpOk P Z o a w μ ν σ v σ := by
  intro K Q hK
  unfold Oper.wp
  rw [hr]
  exact hK w μ ν V (Grow.refl _ _ _ _ _) S hv
theorem OpOk.to {V : Value} {v : AV} {w' : World} {μ' : Mu} {ν' : Nu} {σ' : St} (hr : (execOp a.eval o).run P w = .ok (.value V) w') (G : Grow σ.boxes.length w μ ν σ.rows w' μ' ν' σ'.rows) (S : Sim Z w' μ' ν' σ')
    (hv : Rep (ctx Z w' μ' ν' σ'.rows) v V) : OpOk P Z o a w μ ν σ v σ' := by
  intro K Q hK
  unfold Oper.wp
  rw [hr]
  exact hK w' μ' ν' V G S hv
theorem OpOk.skip {w' : World} {μ' : Mu} {ν' : Nu} {σ' : St} (hr : (execOp a.eval o).run P w = .ok .skip w') (G : Grow σ.boxes.length w μ ν σ.rows w' μ' ν' σ'.rows) (S : Sim Z w' μ' ν' σ') : OpOk P Z o a w μ ν σ .undef σ' := by
  intro K Q hK
  unfold Oper.wp
  rw [hr]
  exact hK w' μ' ν' undef G S (by simp only [Rep])

/-! ### Moves, picks, numbers -/
theorem ok_mov {x : Operand} {y : X} {e : Env} (ho : o.op = .move x ∨ o.op = .assign x) (hx : compX x = some y) (S : Sim Z w μ ν σ) (E : EnvRep (ctx Z w μ ν σ.rows) e a.tmps) : OpOk P Z o a w μ ν σ (y.ev e) σ := by
  refine OpOk.value (V := a.eval x) ?_ S (compX_rep E hx)
  rcases ho with ho | ho <;> simp [execOp, ho, Sem.run_pure]
theorem ok_pick {c x y : Operand} {c' x' y' : X} {e : Env} {t : Bool} (ho : o.op = .pick c x y) (hc : compX c = some c') (hx : compX x = some x') (hy : compX y = some y') (S : Sim Z w μ ν σ) (E : EnvRep (ctx Z w μ ν σ.rows) e a.tmps)
    (ht : c'.ev e = .bool t) : OpOk P Z o a w μ ν σ (if t then x'.ev e else y'.ev e) σ := by
  have hcv := compX_rep E hc
  rw [ht] at hcv
  simp only [Rep] at hcv
  refine OpOk.value (V := if t then a.eval x else a.eval y) ?_ S ?_
  · simp [execOp, ho, Sem.run_pure, Sem.run_bind, hcv, asBool]
  · cases t
    · exact compX_rep E hy
    · exact compX_rep E hx
theorem aBits_ok {op : BinOp} {k : IntKind} {x y : Int} {v : AV} (h : aBits op k x y = some v) (hop : op = .and ∨ op = .or ∨ op = .xor ∨ op = .andNot) : ∃ n, v = .int k n ∧ Op.intBits op k x y = pure (.int k n) := by
  rcases hop with rfl | rfl | rfl | rfl <;> (simp only [aBits] at h; injection h with h; exact ⟨_, h.symm, rfl⟩)
def toV : AV → Value
  | .int k n => .int k n
  | .bool b => .bool b
  | _ => undef
theorem eqGuard_int (op : BinOp) (t : TypeId) (p q : Operand) (k k' : IntKind) (m n : Int) : (eqGuard op t p q (.int k m) (.int k' n)).run P w = .ok () w := by
  unfold eqGuard
  split <;> simp [Sem.run_pure, pure]
  all_goals rfl
theorem eqGuard_bool (op : BinOp) (t : TypeId) (p q : Operand) (b c : Bool) : (eqGuard op t p q (.bool b) (.bool c)).run P w = .ok () w := by
  unfold eqGuard
  split <;> simp [Sem.run_pure, pure]
  all_goals rfl
theorem aBin_ok {t : TypeId} {op : BinOp} {x y v : AV} {X Y : Value} {R : Ctx} (h : aBin op x y = some v) (hX : Rep R x X) (hY : Rep R y Y) (p q : Operand) :
    (do eqGuard op t p q X Y; binOp op t X Y : Sem Value).run P w = .ok (toV v) w ∧ Rep R v (toV v) := by
  cases x <;> cases y <;> simp only [aBin] at h <;> first | (cases h; done) | skip
  case int.int k m k' n =>
    simp only [Rep] at hX hY
    subst hX; subst hY
    cases op <;> simp only [] at h
    case shl =>
      split at h
      · cases h
      · rename_i hn
        injection h with h; subst h
        exact ⟨by simp [Sem.run_bind, eqGuard_int, binOp, Op.shift, hn, toV], by simp only [Rep, toV]⟩
    case shr =>
      split at h
      · cases h
      · rename_i hn
        injection h with h; subst h
        exact ⟨by simp [Sem.run_bind, eqGuard_int, binOp, Op.shift, hn, toV], by simp only [Rep, toV]⟩
    case quo =>
      split at h
      · rename_i hk
        subst hk
        split at h
        · cases h
        · rename_i hn
          injection h with h; subst h
          exact ⟨by simp [Sem.run_bind, eqGuard_int, binOp, Op.intDiv, hn, toV], by simp only [Rep, toV]⟩
      · cases h
    case rem =>
      split at h
      · rename_i hk
        subst hk
        split at h
        · cases h
        · rename_i hn
          injection h with h; subst h
          exact ⟨by simp [Sem.run_bind, eqGuard_int, binOp, Op.intDiv, hn, toV], by simp only [Rep, toV]⟩
      · cases h
    case and | or | xor | andNot =>
      all_goals
        split at h
        · rename_i hk
          subst hk
          obtain ⟨z, rfl, hz⟩ := aBits_ok h (by simp)
          exact ⟨by simp [Sem.run_bind, eqGuard_int, binOp, hz, toV], by simp only [Rep, toV]⟩
        · cases h
    all_goals
      split at h
      · rename_i hk
        subst hk
        injection h with h; subst h
        exact ⟨by simp [Sem.run_bind, eqGuard_int, binOp, Op.intArith, Op.intCmp, toV], by simp only [Rep, toV]⟩
      · cases h
end
end Go.Rb

namespace Go.Rb
set_option linter.unusedVariables false
set_option linter.unusedSimpArgs false

def upd (μ : Mu) (n b : Nat) : Mu := fun i => if i = n then some b else μ i

section
variable {P : Program} {Z : Addr → Prop} {o : Oper} {a : Act} {w : World} {μ : Mu} {ν : Nu} {σ : St}

theorem alloc_old (w : World) (o : Obj) {b : Nat} (h : b < w.heap.size) : (w.alloc o).heap[b]? = w.heap[b]? := by
  show (w.heap.push o)[b]? = w.heap[b]?
  rw [Array.getElem?_push, if_neg (by omega)]
theorem alloc_new (w : World) (o : Obj) : (w.alloc o).heap[w.heap.size]? = some o := by
  show (w.heap.push o)[w.heap.size]? = some o
  simp
theorem sim_push (S : Sim Z w μ ν σ) {c : AV} {V : Value} (hr : Rep (ctx Z w μ ν σ.rows) c V) (ho : c.okv = true) (t : TypeId) :
    Grow σ.boxes.length w μ ν σ.rows (w.alloc (.cells V.cells t)) (upd μ σ.boxes.length w.heap.size) ν σ.rows ∧
    Sim Z (w.alloc (.cells V.cells t)) (upd μ σ.boxes.length w.heap.size) ν { σ with boxes := σ.boxes ++ [c] } := by
  have hn : ∀ i b, μ i = some b → i ≠ σ.boxes.length := fun i b hi e => by have := S.dom hi; omega
  have hold : ∀ b, b < w.heap.size → (w.alloc (.cells V.cells t)).heap[b]? = w.heap[b]? := fun b hb => alloc_old w _ hb
  have G : Grow σ.boxes.length w μ ν σ.rows (w.alloc (.cells V.cells t)) (upd μ σ.boxes.length w.heap.size) ν σ.rows :=
    { os := rfl, tape := rfl, output := rfl, size := by show _ ≤ (w.heap.push _).size; simp
      blocks := fun b hb _ _ => hold b hb
      rows := fun r b u v hr off _ => World.cell?_of_block (hold b (S.rlt hr))
      mu := fun i b hi => by simp [upd, hn i b hi, hi]
      mun := fun i b hi => by
        unfold upd at hi
        split at hi
        · injection hi with hi; exact .inr ⟨by omega, by omega⟩
        · exact .inl hi
      nun := fun r b u v hr => .inr ⟨u, v, hr, Nat.le_refl _⟩
      vers := fun r cur hc => ⟨cur, hc, rfl, rfl, Nat.le_refl _, fun _ => rfl⟩ }
  refine ⟨G, ?_⟩
  have hcells := hr.cells ho
  refine { inj := ?_, box := ?_, row := ?_, rinj := S.rinj, disj := ?_, fresh := fun ad h => S.fresh ad (Nat.le_trans G.size h), rowZ := S.rowZ }
  · intro i j b hi hj
    unfold upd at hi hj
    split at hi
    · injection hi with hi
      split at hj
      · omega
      · have := S.lt hj; omega
    · split at hj
      · injection hj with hj; have := S.lt hi; omega
      · exact S.inj i j b hi hj
  · intro i b hi
    unfold upd at hi
    split at hi
    · rename_i e; subst e
      injection hi with hi; subst hi
      exact ⟨c, V.cells, t, by simp, hcells.2, ho, alloc_new w _, RepL.mono G.le _ _ hcells.1⟩
    · obtain ⟨d, arr, t', h1, h2, h3, h4, h5⟩ := S.box i b hi
      refine ⟨d, arr, t', ?_, h2, h3, ?_, RepL.mono G.le _ _ h5⟩
      · have hlt := S.dom hi
        simp only
        rw [List.getElem?_append_left hlt]; exact h1
      · rw [hold b (S.lt hi)]; exact h4
  · intro r b u v hr'
    obtain ⟨cur0, n, xs, h1, h2, h3, h4⟩ := S.row r b u v hr'
    refine ⟨cur0, n, xs, h1, h2, ?_, h4⟩
    obtain ⟨q1, q2⟩ := h3
    refine ⟨q1, ?_⟩
    rcases q2 with q2 | ⟨g, cap, cur, e1, e2, e3, r3⟩
    · exact .inl q2
    · refine .inr ⟨g, cap, cur, e1, e2, ?_, r3⟩
      rw [hold g (Array.getElem?_eq_some_iff.1 e3).1]; exact e3
  · intro i b r u v hi hr'
    unfold upd at hi
    split at hi
    · injection hi with hi; have := S.rlt hr'; omega
    · exact S.disj i b r u v hi hr'

theorem ok_push {c : AV} {V : Value} {t : TypeId} (hrun : (execOp a.eval o).run P w = .ok (.value (.pointer (some ⟨w.heap.size, 0, none⟩))) (w.alloc (.cells V.cells t))) (S : Sim Z w μ ν σ) (hr : Rep (ctx Z w μ ν σ.rows) c V) (ho : c.okv = true) :
    OpOk P Z o a w μ ν σ (σ.push c).1 (σ.push c).2 := by
  obtain ⟨G, S'⟩ := sim_push S hr ho t
  refine OpOk.to hrun G S' ?_
  simp only [St.push, Rep]
  exact ⟨w.heap.size, by simp [ctx, upd], rfl⟩
theorem ok_alloc {e : TypeId} {s : Nat × Bool} {z : Value} {c : AV} (ho : o.op = .alloc e) (hs : sizeA P e = some s) (hz : (P.info? e).bind (·.zero) = some z) (hc : valueAV z = some c) (S : Sim Z w μ ν σ) : OpOk P Z o a w μ ν σ (σ.push c).1 (σ.push c).2 := by
  have hv := valueAV_rep hc (ctx Z w μ ν σ.rows)
  cases hi : P.info? e with
  | none => simp [hi] at hz
  | some i =>
    have hz' : i.zero = some z := by simpa [hi] using hz
    refine ok_push (V := z) (t := e) ?_ S hv.1 hv.2
    simp [execOp, ho, Instr.alloc, zeroValue, typeInfo, hi, hz', newVar, newRow, Sem.run_bind]
theorem ok_box {e : TypeId} {x : Operand} {y : X} {E : Env} (ho : o.op = .box e x) (hx : compX x = some y) (S : Sim Z w μ ν σ) (hE : EnvRep (ctx Z w μ ν σ.rows) E a.tmps) (hok : (y.ev E).okv = true) : OpOk P Z o a w μ ν σ (σ.push (y.ev E)).1 (σ.push (y.ev E)).2 := by
  refine ok_push (V := a.eval x) (t := e) ?_ S (compX_rep hE hx) hok
  simp [execOp, ho, Instr.box, newVar, newRow, Sem.run_bind]

/-! ### load -/
theorem sizeA_parts {t : TypeId} {s : Nat} {g : Bool} (h : sizeA P t = some (s, g)) : ∃ i d, P.info? t = some i ∧ P.underlying t = some d ∧ i.size = s ∧ s ≠ 0 ∧ g = aggD d := by
  unfold sizeA at h
  split at h
  · rename_i i d hi hd
    split at h
    · cases h
    · rename_i h0
      injection h with h
      injection h with h1 h2
      exact ⟨i, d, hi, hd, h1, by omega, h2.symm⟩
  · cases h
theorem run_isAgg {t : TypeId} {d : TypeDesc} (hd : P.underlying t = some d) : (isAgg t).run P w = .ok (aggD d) w := by
  unfold isAgg
  simp only [Sem.run_bind, run_underlying hd, Result.andThen_ok]
  cases d <;> rfl
theorem run_loadVar_cells {t : TypeId} {s : Nat} {g : Bool} (ht : sizeA P t = some (s, g)) {ad : Addr} {vs : List Value} (hl : vs.length = s) (hg : g = false → s = 1) (hc : ∀ j v, vs[j]? = some v → w.cell? (ad.add j) = some v) :
    (loadVar t ad).run P w = .ok (if g then .agg vs.toArray else vs.headD undef) w := by
  obtain ⟨i, d, hi, hd, hs, h0, hgd⟩ := sizeA_parts ht
  unfold loadVar
  simp only [Sem.run_bind, run_isAgg hd, Result.andThen_ok, ← hgd]
  cases g
  · have h1 := hg rfl
    have hv : vs.length = 1 := by omega
    match vs, hv with
    | [v], _ =>
      have := hc 0 v rfl
      have ha : ad.add 0 = ad := by simp [Addr.add]
      rw [ha] at this
      simp [run_load, this]
  · simp only [if_true, sizeOf, typeInfo, hi, Sem.run_bind, run_program, Result.andThen_ok, Sem.run_pure, hs]
    have := run_loadCells_list (P := P) w ad vs hc
    rw [hl] at this
    rw [this]
    simp
theorem sub_size {off size : Nat} {g : Bool} {c v : AV} (h : c.sub off size g = some v) : ((c.cells.drop off).take size).length = size ∧ AV.mk g ((c.cells.drop off).take size) = some v := by
  unfold AV.sub at h
  simp only at h
  split at h
  · rename_i e; exact ⟨e, h⟩
  · cases h
theorem mk_single {l : List AV} {v : AV} (h : AV.mk false l = some v) : l.length = 1 := by
  unfold AV.mk at h
  simp only [Bool.false_eq_true, if_false] at h
  split at h
  · rfl
  · cases h
theorem Sim.cells {S : Sim Z w μ ν σ} {id b : Nat} (hi : μ id = some b) {c : AV} (hc : σ.boxes[id]? = some c) : ∃ vs : List Value, RepL (ctx Z w μ ν σ.rows) c.cells vs ∧ (∀ x ∈ c.cells, x.one = true) ∧ c.okv = true ∧ ∃ t, w.heap[b]? = some (.cells vs.toArray t (0, 0)) := by
  obtain ⟨d, arr, t, h1, h2, h3, h4, h5⟩ := S.box id b hi
  rw [hc] at h1; injection h1 with h1; subst h1
  exact ⟨arr.toList, h5, h2, h3, t, by simpa using h4⟩
theorem plain_add (b off j : Nat) : (⟨b, off, none⟩ : Addr).add j = ⟨b, off + j, none⟩ := by unfold Addr.add; split <;> simp_all
theorem ok_load {t : TypeId} {x : Operand} {y : X} {s : Nat} {g : Bool} {E : Env} {v : AV} (ho : o.op = .load t x) (ht : sizeA P t = some (s, g)) (hx : compX x = some y) (S : Sim Z w μ ν σ) (hE : EnvRep (ctx Z w μ ν σ.rows) E a.tmps)
    (h : (∃ id off, y.ev E = .box id off ∧ σ.load id off s g = some v) ∨ (∃ u, y.ev E = .el u ∧ u.sub 0 s g = some v)) : OpOk P Z o a w μ ν σ v σ := by
  have hp := compX_rep hE hx
  rcases h with ⟨id, off, e, hl⟩ | ⟨u, e, hl⟩
  · rw [e] at hp
    simp only [Rep] at hp
    obtain ⟨b, hb, hv⟩ := hp
    unfold St.load at hl
    cases hc : σ.boxes[id]? with
    | none => rw [hc] at hl; cases hl
    | some c =>
      rw [hc] at hl
      simp only at hl
      obtain ⟨h1, h2⟩ := sub_size hl
      obtain ⟨vs, hr, hone, hok, tt, hh⟩ := Sim.cells (S := S) hb hc
      have hr' := (hr.drop off).take s
      have hm := Rep.mk h2 (fun c hc => hone c (List.mem_of_mem_drop (List.mem_of_mem_take hc))) hr'
      refine OpOk.value (V := if g then .agg ((vs.drop off).take s).toArray else ((vs.drop off).take s).headD undef) ?_ S hm.1
      have hrun := run_loadVar_cells (w := w) ht (ad := ⟨b, off, none⟩) (vs := (vs.drop off).take s) (by rw [hr'.length]; exact h1)
        (fun hg => by subst hg; have := mk_single h2; omega)
        (fun j v hj => by
          rw [plain_add, cell_of_row w b (off + j) _ tt (0, 0) hh]
          rw [List.getElem?_take] at hj
          split at hj
          · rw [List.getElem?_drop] at hj; simpa using hj
          · cases hj)
      simp [execOp, ho, Instr.loadAt, hv, Instr.sureAddr, Sem.run_bind, hrun]
  · rw [e] at hp
    simp only [Rep] at hp
    obtain ⟨ad, V, hv, hok, hr0, hcells⟩ := hp
    obtain ⟨h1, h2⟩ := sub_size hl
    obtain ⟨hr, hone⟩ := hr0.cells hok
    have hr' := (hr.drop 0).take s
    have hm := Rep.mk h2 (fun c hc => hone c (List.mem_of_mem_drop (List.mem_of_mem_take hc))) hr'
    refine OpOk.value (V := if g then .agg ((V.cells.toList.drop 0).take s).toArray else ((V.cells.toList.drop 0).take s).headD undef) ?_ S hm.1
    have hrun := run_loadVar_cells (w := w) ht (ad := ad) (vs := (V.cells.toList.drop 0).take s) (by rw [hr'.length]; exact h1)
      (fun hg => by subst hg; have := mk_single h2; omega)
      (fun j v hj => by
        rw [List.getElem?_take] at hj
        split at hj
        · rw [List.drop_zero] at hj
          exact (hcells j v hj).1
        · cases hj)
    simp only [execOp, ho, Instr.loadAt, hv, Instr.sureAddr, Sem.run_bind, Sem.run_pure, Result.andThen_ok, hrun]

/-! ### addresses -/
theorem ok_faddr {s : TypeId} {x : Operand} {i : Nat} {fs : Array Field} {f : Field} {y : X} {sz : Nat} {g : Bool} {E : Env} {v : AV} (ho : o.op = .fieldAddr s x i) (hs : P.underlying s = some (.struct fs)) (hf : fs[i]? = some f) (ht : sizeA P f.type = some (sz, g))
    (hx : compX x = some y) (S : Sim Z w μ ν σ) (hE : EnvRep (ctx Z w μ ν σ.rows) E a.tmps)
    (h : (∃ id off, y.ev E = .box id off ∧ v = .box id (off + f.offset)) ∨ (∃ u u', y.ev E = .el u ∧ u.sub f.offset sz g = some u' ∧ v = .el u')) : OpOk P Z o a w μ ν σ v σ := by
  have hp := compX_rep hE hx
  obtain ⟨inf, d, hi, hd, hsz, h0, hgd⟩ := sizeA_parts ht
  have hplace : ∀ ad : Addr, (fieldPlace ad f).run P w = .ok (ad.add f.offset) w := by
    intro ad
    simp [fieldPlace, sizeOf, typeInfo, hi, hsz, h0, Sem.run_bind]
  rcases h with ⟨id, off, e, rfl⟩ | ⟨u, u', e, hl, rfl⟩
  · rw [e] at hp
    simp only [Rep] at hp
    obtain ⟨b, hb, hv⟩ := hp
    refine OpOk.value (V := .pointer (some ⟨b, off + f.offset, none⟩)) ?_ S (by simp only [Rep]; exact ⟨b, hb, rfl⟩)
    simp [execOp, ho, Instr.fieldAt, run_underlying hs, hf, hv, Instr.sureAddr, Sem.run_bind, hplace, plain_add]
  · rw [e] at hp
    simp only [Rep] at hp
    obtain ⟨ad, V, hv, hok, hr0, hcells⟩ := hp
    obtain ⟨h1, h2⟩ := sub_size hl
    obtain ⟨hr, hone⟩ := hr0.cells hok
    have hr' := (hr.drop f.offset).take sz
    have hm := Rep.mk h2 (fun c hc => hone c (List.mem_of_mem_drop (List.mem_of_mem_take hc))) hr'
    refine OpOk.value (V := .pointer (some (ad.add f.offset))) ?_ S ?_
    · simp [execOp, ho, Instr.fieldAt, run_underlying hs, hf, hv, Instr.sureAddr, Sem.run_bind, hplace]
    · simp only [Rep]
      refine ⟨_, _, rfl, hm.2.1, hm.1, ?_⟩
      rw [hm.2.2.2]
      intro j x hj
      rw [List.getElem?_take] at hj
      split at hj
      · rw [List.getElem?_drop] at hj
        have := hcells _ _ hj
        have hadd : (ad.add f.offset).add j = ad.add (f.offset + j) := by
          unfold Addr.add
          by_cases h1 : f.offset = 0 <;> by_cases h2 : j = 0 <;> simp [h1, h2, Nat.add_assoc]
        rw [hadd]; exact this
      · cases hj
end
end Go.Rb

namespace Go.Rb
set_option linter.unusedVariables false
set_option linter.unusedSimpArgs false

theorem putCells_length {l xs : List AV} {off : Nat} (h : off + xs.length ≤ l.length) : (putCells l off xs).length = l.length := by
  unfold putCells; simp; omega
theorem set_cells {c : AV} {off : Nat} {u : AV} (hc : ∀ x ∈ c.cells, x.one = true) (hok : c.okv = true) (hu : ∀ x ∈ u.cells, x.one = true) (h : off + u.cells.length ≤ c.cells.length) (h0 : u.cells.length ≠ 0) :
    (c.set off u.cells).cells = putCells c.cells off u.cells ∧ (c.set off u.cells).okv = true ∧ ∀ x ∈ (c.set off u.cells).cells, x.one = true := by
  have key : ∀ x ∈ putCells c.cells off u.cells, x.one = true := by
    intro x hx
    unfold putCells at hx
    simp only [List.mem_append] at hx
    rcases hx with (hx | hx) | hx
    · exact hc x (List.mem_of_mem_take hx)
    · exact hu x hx
    · exact hc x (List.mem_of_mem_drop hx)
  by_cases hagg : c.isAgg = true
  · cases c <;> simp [AV.isAgg] at hagg
    rename_i cs
    simp only [AV.set, AV.cells] at key ⊢
    exact ⟨trivial, rfl, key⟩
  · have hcc : c.cells = [c] := by cases c <;> simp_all [AV.isAgg, AV.cells]
    rw [hcc] at h key ⊢
    simp at h
    have h1 : u.cells.length = 1 := by omega
    have ho : off = 0 := by omega
    subst ho
    match hx : u.cells, h1 with
    | [x], _ =>
      have hone := hu x (by rw [hx]; simp)
      have e : c.set 0 [x] = x := by cases c <;> simp_all [AV.isAgg, AV.set]
      rw [e, cells_of_one hone]
      exact ⟨by simp [putCells], okv_of_one hone, by simpa using hone⟩

section
variable {P : Program} {Z : Addr → Prop} {o : Oper} {a : Act} {w : World} {μ : Mu} {ν : Nu} {σ : St}

theorem RepL.put {R : Ctx} {l xs : List AV} {vs us : List Value} (h : RepL R l vs) (k : RepL R xs us) (off : Nat) : RepL R (putCells l off xs) (vs.take off ++ us ++ vs.drop (off + us.length)) := by
  unfold putCells
  rw [← k.length]
  exact ((h.take off).append k).append (h.drop _)

theorem ok_store {t : TypeId} {x v : Operand} {y u : X} {s : Nat} {g : Bool} {E : Env} {id off : Nat} {c : AV} (ho : o.op = .store t x v) (ht : sizeA P t = some (s, g)) (hx : compX x = some y) (hv : compX v = some u) (S : Sim Z w μ ν σ)
    (hE : EnvRep (ctx Z w μ ν σ.rows) E a.tmps) (hy : y.ev E = .box id off) (hc : σ.boxes[id]? = some c) (hl : (u.ev E).cells.length = s) (hle : off + s ≤ c.cells.length) (hok : (u.ev E).okv = true) :
    OpOk P Z o a w μ ν σ .undef { σ with boxes := σ.boxes.set id (c.set off (u.ev E).cells) } := by
  have hp := compX_rep hE hx
  have hr := compX_rep hE hv
  rw [hy] at hp
  simp only [Rep] at hp
  obtain ⟨b, hb, hpv⟩ := hp
  replace hb : μ id = some b := hb
  obtain ⟨inf, d, hi, hd, hsz, h0, hgd⟩ := sizeA_parts ht
  obtain ⟨vs, hrc, hone, hcok, tt, hh⟩ := Sim.cells (S := S) hb hc
  obtain ⟨hru, huone⟩ := hr.cells hok
  have hsize := hr.size hok
  have hset := set_cells (u := u.ev E) (off := off) hone hcok huone (by omega) (by omega)
  have hvone : ∀ z ∈ (a.eval v).cells.toList, z.oneCell' = true := by
    intro z hz
    obtain ⟨j, hj⟩ := List.getElem?_of_mem hz
    have hjl := (List.getElem?_eq_some_iff.1 hj).1
    have hlen := hru.length
    have hx' : ((u.ev E).cells)[j]? = some ((u.ev E).cells[j]'(by omega)) := List.getElem?_eq_getElem (by omega)
    obtain ⟨z', hz', hrz⟩ := hru.get hx'
    rw [hj] at hz'; injection hz' with hz'; subst hz'
    exact (hrz.oneCell (huone _ (List.getElem_mem _))).2
  have hst := run_storeCells_at (P := P) b off tt (a.eval v).cells.toList 0 vs.toArray w hh (by have := hrc.length; simp [hsize]; omega) hvone
  have hrun : (execOp a.eval o).run P w = .ok .skip (w.setRow b (vs.take off ++ (a.eval v).cells.toList ++ vs.drop (off + (a.eval v).cells.toList.length)).toArray) := by
    simp only [Nat.add_zero, List.toList_toArray] at hst
    simp only [execOp, ho, Instr.storeAt, hpv, Instr.sureAddr, Sem.run_bind, Sem.run_pure, Result.andThen_ok, storeVar, sizeOf, typeInfo, hi, run_program, hsz, hsize, hl, ne_eq, not_true_eq_false, if_false, hst]
  have hother : ∀ b', b' ≠ b → (w.setRow b (vs.take off ++ (a.eval v).cells.toList ++ vs.drop (off + (a.eval v).cells.toList.length)).toArray).heap[b']? = w.heap[b']? := by
    intro b' hb'
    simp [World.setRow, Array.getElem?_modify, Ne.symm hb']
  have hthis := setRow_heap w b vs.toArray (vs.take off ++ (a.eval v).cells.toList ++ vs.drop (off + (a.eval v).cells.toList.length)).toArray tt (0, 0) hh
  have hsz' : (w.setRow b (vs.take off ++ (a.eval v).cells.toList ++ vs.drop (off + (a.eval v).cells.toList.length)).toArray).heap.size = w.heap.size := by simp [World.setRow]
  have G : Grow σ.boxes.length w μ ν σ.rows (w.setRow b (vs.take off ++ (a.eval v).cells.toList ++ vs.drop (off + (a.eval v).cells.toList.length)).toArray) μ ν σ.rows :=
    { os := rfl, tape := rfl, output := rfl, size := by rw [hsz']; exact Nat.le_refl _
      blocks := fun b' hb' h1 h2 => hother b' (fun e => h1 id (by rw [hb, e]))
      rows := fun r b' u' v' hr' off' _ => World.cell?_of_block (hother b' (fun e => S.disj id b r u' v' hb (by rw [hr', e])))
      mu := fun _ _ h => h
      mun := fun _ _ h => .inl h
      nun := fun r b u v hr => .inr ⟨u, v, hr, Nat.le_refl _⟩
      vers := fun r cur hc => ⟨cur, hc, rfl, rfl, Nat.le_refl _, fun _ => rfl⟩ }
  refine OpOk.skip hrun G { inj := S.inj, box := ?_, row := ?_, rinj := S.rinj, disj := S.disj, fresh := fun ad h => S.fresh ad (Nat.le_trans G.size h), rowZ := S.rowZ }
  · intro i b' hi'
    by_cases e : i = id
    · subst e
      rw [hb] at hi'; injection hi' with hi'; subst hi'
      refine ⟨c.set off (u.ev E).cells, _, tt, ?_, hset.2.2, hset.2.1, hthis, ?_⟩
      · simp [(List.getElem?_eq_some_iff.1 hc).1]
      · rw [hset.1]
        exact RepL.mono G.le _ _ (by simpa using RepL.put hrc hru off)
    · obtain ⟨d', arr, t', h1, h2, h3, h4, h5⟩ := S.box i b' hi'
      refine ⟨d', arr, t', ?_, h2, h3, ?_, RepL.mono G.le _ _ h5⟩
      · simp only
        rw [List.getElem?_set_ne (Ne.symm e)]; exact h1
      · rw [hother b' (fun e' => e (S.inj i id b' hi' (by rw [hb, e'])))]; exact h4
  · intro r b' u' v' hr'
    obtain ⟨cur0, n, xs, h1, h2, h3, h4⟩ := S.row r b' u' v' hr'
    refine ⟨cur0, n, xs, h1, h2, ?_, h4⟩
    obtain ⟨q1, q2⟩ := h3
    refine ⟨q1, ?_⟩
    rcases q2 with q2 | ⟨g', cap, cur, e1, e2, e3, r3⟩
    · exact .inl q2
    · refine .inr ⟨g', cap, cur, e1, e2, ?_, r3⟩
      have hg' : g' = b' := by subst e1; simpa [Value.ownBlock] using h2
      rw [hother g' (fun e' => S.disj id b r u' v' hb (by rw [hr', ← hg', e']))]; exact e3

/-! ### the rest -/
theorem ok_nilck {x : Operand} {y : X} {E : Env} (ho : o.op = .nilCheck x) (hx : compX x = some y) (S : Sim Z w μ ν σ) (hE : EnvRep (ctx Z w μ ν σ.rows) E a.tmps)
    (h : (∃ id off, y.ev E = .box id off) ∨ (∃ u, y.ev E = .el u) ∨ (∃ g p q, y.ev E = .fn (.func g) p q)) : OpOk P Z o a w μ ν σ (y.ev E) σ := by
  have hp := compX_rep hE hx
  refine OpOk.value (V := a.eval x) ?_ S hp
  rcases h with ⟨id, off, e⟩ | ⟨u, e⟩ | ⟨g, p, q, e⟩ <;> rw [e] at hp <;> simp only [Rep] at hp
  · obtain ⟨b, _, hv⟩ := hp
    simp [execOp, ho, hv]
  · obtain ⟨ad, V, hv, _⟩ := hp
    simp [execOp, ho, hv]
  · obtain ⟨A, B, hv, _⟩ := hp
    simp [execOp, ho, hv]
theorem ok_bin {op : BinOp} {t yt : TypeId} {x y : Operand} {x' y' : X} {E : Env} {v : AV} (ho : o.op = .binOp op t x y yt) (hx : compX x = some x') (hy : compX y = some y') (S : Sim Z w μ ν σ) (hE : EnvRep (ctx Z w μ ν σ.rows) E a.tmps)
    (h : aBin op (x'.ev E) (y'.ev E) = some v) : OpOk P Z o a w μ ν σ v σ := by
  have hb := aBin_ok (P := P) (w := w) (t := t) h (compX_rep hE hx) (compX_rep hE hy) x y
  refine OpOk.value (V := toV v) ?_ S hb.2
  have := hb.1
  simp only [Sem.run_bind] at this
  simp only [execOp, ho, Sem.run_bind, this, Result.andThen_ok, Sem.run_pure]
theorem ok_eqb {op : BinOp} {t yt : TypeId} {x y : Operand} {x' y' : X} {E : Env} {b c : Bool} (neg : Bool) (hop : op = if neg then .neq else .eql) (ho : o.op = .binOp op t x y yt) (ht : P.underlying t = some .bool) (hx : compX x = some x') (hy : compX y = some y') (S : Sim Z w μ ν σ)
    (hE : EnvRep (ctx Z w μ ν σ.rows) E a.tmps) (hb : x'.ev E = .bool b) (hc : y'.ev E = .bool c) : OpOk P Z o a w μ ν σ (.bool (if neg then !(b == c) else b == c)) σ := by
  have h1 := compX_rep hE hx
  have h2 := compX_rep hE hy
  rw [hb] at h1; rw [hc] at h2
  simp only [Rep] at h1 h2
  have he : (Op.equal t (.bool b) (.bool c)).run P w = .ok (b == c) w := by
    have e : Op.equal t (.bool b) (.bool c) = Op.equalIn (9999 + 1) t (.bool b) (.bool c) := rfl
    rw [e]
    generalize 9999 = d
    unfold Op.equalIn
    simp [Sem.run_bind, run_underlying ht]
  refine OpOk.value (V := .bool (if neg then !(b == c) else b == c)) ?_ S (by simp only [Rep])
  cases neg
  · subst hop
    simp [execOp, ho, h1, h2, Sem.run_bind, eqGuard_bool, binOp, he]
  · subst hop
    simp [execOp, ho, h1, h2, Sem.run_bind, eqGuard_bool, binOp, he]
theorem ok_un {op : UnOp} {t : TypeId} {x : Operand} {x' : X} {E : Env} {v : AV} (ho : o.op = .unOp op t x) (hx : compX x = some x') (S : Sim Z w μ ν σ) (hE : EnvRep (ctx Z w μ ν σ.rows) E a.tmps) (h : aUn op (x'.ev E) = some v) : OpOk P Z o a w μ ν σ v σ := by
  have hp := compX_rep hE hx
  cases hX : x'.ev E <;> rw [hX] at h hp <;> cases op <;> simp only [aUn] at h <;> first | (cases h; done) | skip
  case bool.not b =>
    simp only [Rep] at hp
    injection h with h; subst h
    refine OpOk.value (V := .bool !b) ?_ S (by simp only [Rep])
    simp [execOp, ho, hp, Op.unary]
  case int.neg k n =>
    simp only [Rep] at hp
    injection h with h; subst h
    refine OpOk.value (V := .int k (k.wrap (0 - n))) ?_ S (by simp only [Rep])
    simp [execOp, ho, hp, Op.unary, Op.intArith]
  case int.xor k n =>
    simp only [Rep] at hp
    obtain ⟨z, rfl, hz⟩ := aBits_ok h (by simp)
    refine OpOk.value (V := .int k z) ?_ S (by simp only [Rep])
    simp [execOp, ho, hp, Op.unary, hz]
theorem ok_conv {s d : TypeId} {k k' : IntKind} {x : Operand} {x' : X} {E : Env} {j : IntKind} {n : Int} (ho : o.op = .convert s d x) (hs : P.underlying s = some (.int k')) (hd : P.underlying d = some (.int k)) (hx : compX x = some x') (S : Sim Z w μ ν σ)
    (hE : EnvRep (ctx Z w μ ν σ.rows) E a.tmps) (h : x'.ev E = .int j n) : OpOk P Z o a w μ ν σ (.int k (k.wrap n)) σ := by
  have hp := compX_rep hE hx
  rw [h] at hp
  simp only [Rep] at hp
  refine OpOk.value (V := .int k (k.wrap n)) ?_ S (by simp only [Rep])
  simp [execOp, ho, hp, convert, Sem.run_bind, run_underlying hs, run_underlying hd, Conv.intToInt]
theorem ok_mkfn {f : Fn} {l m : Array Operand} {l' m' : List X} {E : Env} (ho : o.op = .makeFunc f l m) (hl : compXs l.toList = some l') (hm : compXs m.toList = some m') (S : Sim Z w μ ν σ) (hE : EnvRep (ctx Z w μ ν σ.rows) E a.tmps) :
    OpOk P Z o a w μ ν σ (.fn f (l'.map (·.ev E)) (m'.map (·.ev E))) σ := by
  refine OpOk.value (V := .func f (l.map a.eval) (m.map a.eval)) ?_ S ?_
  · simp [execOp, ho, Instr.makeFunc]
  · simp only [Rep]
    exact ⟨_, _, rfl, by simpa using compXs_rep hE hl, by simpa using compXs_rep hE hm⟩
theorem ok_ext {x : Operand} {x' : X} {E : Env} {i : Nat} {vs : List AV} {v : AV} (ho : o.op = .extract x i) (hx : compX x = some x') (S : Sim Z w μ ν σ) (hE : EnvRep (ctx Z w μ ν σ.rows) E a.tmps) (h : x'.ev E = .tup vs) (hv : vs[i]? = some v) : OpOk P Z o a w μ ν σ v σ := by
  have hp := compX_rep hE hx
  rw [h] at hp
  simp only [Rep] at hp
  obtain ⟨l, hl, hr⟩ := hp
  obtain ⟨u, hu, hru⟩ := hr.get hv
  refine OpOk.value (V := u) ?_ S hru
  have hu' : l[i]? = some u := by simpa using hu
  simp [execOp, ho, hl, Instr.extract, hu']
theorem ok_len {t : TypeId} {e : TypeId} {x : Operand} {x' : X} {E : Env} {c : Call} {w0 : Own} {es : List AV} (ho : o.op = .call c) (hc : c.callee = .builtin .len) (hT : c.argTypes.toList = [t]) (hA : c.args.toList = [x]) (ht : P.underlying t = some (.slice e)) (hx : compX x = some x')
    (S : Sim Z w μ ν σ) (hE : EnvRep (ctx Z w μ ν σ.rows) E a.tmps) (h : x'.ev E = .sl w0 es) : OpOk P Z o a w μ ν σ (.int .i64 es.length) σ := by
  have hp := compX_rep hE hx
  rw [h] at hp
  simp only [Rep] at hp
  obtain ⟨ad, cap, hv, _⟩ := hp
  refine OpOk.value (V := .int .i64 es.length) ?_ S (by simp only [Rep])
  have hT' : c.argTypes = #[t] := by rw [← Array.toList_inj]; simpa using hT
  have hA' : c.args = #[x] := by rw [← Array.toList_inj]; simpa using hA
  simp [execOp, ho, resolve, hc, hT', hA', invoke, builtin, Builtin.len_, hv, Sem.run_bind, run_underlying ht, goInt]
theorem ok_mx {x y : Operand} {x' y' : X} {E : Env} {c : Call} {k : IntKind} {m n : Int} (isMax : Bool) (ho : o.op = .call c) (hc : c.callee = .builtin (if isMax then .max else .min)) (hA : c.args.toList = [x, y]) (hx : compX x = some x') (hy : compX y = some y')
    (S : Sim Z w μ ν σ) (hE : EnvRep (ctx Z w μ ν σ.rows) E a.tmps) (h1 : x'.ev E = .int k m) (h2 : y'.ev E = .int k n) : OpOk P Z o a w μ ν σ (.int k (if isMax then (if n > m then n else m) else (if n < m then n else m))) σ := by
  have hp := compX_rep hE hx
  have hq := compX_rep hE hy
  rw [h1] at hp; rw [h2] at hq
  simp only [Rep] at hp hq
  refine OpOk.value (V := .int k (if isMax then (if n > m then n else m) else (if n < m then n else m))) ?_ S (by simp only [Rep])
  have hA' : c.args = #[x, y] := by rw [← Array.toList_inj]; simpa using hA
  cases isMax
  · simp [execOp, ho, resolve, hc, hA', invoke, builtin, Builtin.min_, Builtin.min2, hp, hq, Sem.run_bind]
  · simp [execOp, ho, resolve, hc, hA', invoke, builtin, Builtin.max_, Builtin.max2, hp, hq, Sem.run_bind]
end
end Go.Rb

namespace Go.Rb
set_option linter.unusedVariables false
set_option linter.unusedSimpArgs false

section
variable {P : Program} {Z : Addr → Prop} {o : Oper} {a : Act} {w : World} {μ : Mu} {ν : Nu} {σ : St}

theorem run_part {t : TypeId} {s : Nat} {g : Bool} (ht : sizeA P t = some (s, g)) {cs : Array Value} {off : Nat} (hl : ((cs.toList.drop off).take s).length = s) (hg : g = false → s = 1) :
    (part t cs off).run P w = .ok (if g then .agg ((cs.toList.drop off).take s).toArray else ((cs.toList.drop off).take s).headD undef) w := by
  obtain ⟨i, d, hi, hd, hs, h0, hgd⟩ := sizeA_parts ht
  unfold part
  simp only [Sem.run_bind, run_isAgg hd, Result.andThen_ok, ← hgd]
  cases g
  · have h1 := hg rfl
    subst h1
    simp only [Bool.false_eq_true, if_false]
    have : off < cs.size := by simp at hl; omega
    have e : cs[off]? = some cs[off] := Array.getElem?_eq_getElem this
    rw [e]
    have e2 : (cs.toList.drop off).take 1 = [cs[off]] := by
      rw [List.drop_eq_getElem_cons (by simpa using this)]
      simp
    rw [e2]; rfl
  · simp only [if_true, sizeOf, typeInfo, hi, Sem.run_bind, run_program, Result.andThen_ok, Sem.run_pure, hs]
    congr 2
    rw [← Array.toList_inj]
    simp [List.extract_eq_take_drop]

theorem ok_fld {t : TypeId} {x : Operand} {i : Nat} {fs : Array Field} {f : Field} {y : X} {sz : Nat} {g : Bool} {E : Env} {v : AV} {l : List AV} (ho : o.op = .field t x i) (hs : P.underlying t = some (.struct fs)) (hf : fs[i]? = some f) (ht : sizeA P f.type = some (sz, g))
    (hx : compX x = some y) (S : Sim Z w μ ν σ) (hE : EnvRep (ctx Z w μ ν σ.rows) E a.tmps) (hy : y.ev E = .agg l) (h : (AV.agg l).sub f.offset sz g = some v) : OpOk P Z o a w μ ν σ v σ := by
  have hp := compX_rep hE hx
  rw [hy] at hp
  obtain ⟨h1, h2⟩ := sub_size h
  obtain ⟨hr, hone⟩ := hp.cells rfl
  have hr' := (hr.drop f.offset).take sz
  have hm := Rep.mk h2 (fun c hc => hone c (List.mem_of_mem_drop (List.mem_of_mem_take hc))) hr'
  simp only [Rep] at hp
  obtain ⟨⟨arr, hv, _⟩, _⟩ := hp
  have hcells : (a.eval x).cells = arr := by rw [hv]; rfl
  rw [hcells] at hm hr'
  refine OpOk.value (V := if g then .agg ((arr.toList.drop f.offset).take sz).toArray else ((arr.toList.drop f.offset).take sz).headD undef) ?_ S hm.1
  have hrun := run_part (P := P) (w := w) ht (cs := arr) (off := f.offset) (by rw [hr'.length]; exact h1) (fun hg => by subst hg; have := mk_single h2; omega)
  simp only [execOp, ho, Instr.field, Sem.run_bind, run_underlying hs, Result.andThen_ok, hf, hv, asAgg, Sem.run_pure, hrun]

theorem ok_iaddr {t e : TypeId} {x i : Operand} {y j : X} {sz : Nat} {g : Bool} {E : Env} {ow : Own} {es : List AV} {k : IntKind} {n : Int} {u : AV} (ho : o.op = .indexAddr t x i) (ht : P.underlying t = some (.slice e)) (hs : sizeA P e = some (sz, g))
    (hx : compX x = some y) (hi : compX i = some j) (S : Sim Z w μ ν σ) (hE : EnvRep (ctx Z w μ ν σ.rows) E a.tmps) (hy : y.ev E = .sl ow es) (hj : j.ev E = .int k n) (h0 : 0 ≤ n) (hu : es[n.toNat]? = some u) (hl : u.cells.length = sz) :
    OpOk P Z o a w μ ν σ (.el u) σ := by
  have hp := compX_rep hE hx
  have hq := compX_rep hE hi
  rw [hy] at hp; rw [hj] at hq
  simp only [Rep] at hp hq
  obtain ⟨A, c, hv, h1, h2, h3, ad, sz', h4, h5⟩ := hp
  obtain ⟨hok, V, hr, hsz, hc⟩ := h5.get hu
  have hne : es ≠ [] := by rintro rfl; simp at hu
  obtain rfl := h4 hne
  have hss : sz' = sz := by rw [← hsz, hr.size hok, hl]
  subst hss
  obtain ⟨inf, d, hi', hd, hsz', hnz, _⟩ := sizeA_parts hs
  have hlt : n.toNat < es.length := (List.getElem?_eq_some_iff.1 hu).1
  refine OpOk.value (V := .pointer (some (ad.add (n.toNat * sz')))) ?_ S ?_
  · have h6 : n < (es.length : Int) := by omega
    simp [execOp, ho, Instr.indexAt, hv, hq, asIntOf, Sem.run_bind, run_underlying ht, sizeOf, typeInfo, hi', hsz', h0, h6]
  · simp only [Rep]
    exact ⟨_, V, rfl, hok, hr, by simpa using hc⟩

theorem ok_iaddrA {t e : TypeId} {x i : Operand} {y j : X} {len sz : Nat} {g : Bool} {E : Env} {k : IntKind} {n : Int} {v : AV} (ho : o.op = .indexAddr t x i) (ht : P.underlying t = some (.array len e)) (hs : sizeA P e = some (sz, g))
    (hx : compX x = some y) (hi : compX i = some j) (S : Sim Z w μ ν σ) (hE : EnvRep (ctx Z w μ ν σ.rows) E a.tmps) (hj : j.ev E = .int k n) (h0 : 0 ≤ n) (hn : n < len)
    (h : (∃ id off, y.ev E = .box id off ∧ v = .box id (off + n.toNat * sz)) ∨ (∃ u u', y.ev E = .el u ∧ u.sub (n.toNat * sz) sz g = some u' ∧ v = .el u')) :
    OpOk P Z o a w μ ν σ v σ := by
  have hp := compX_rep hE hx
  have hq := compX_rep hE hi
  rw [hj] at hq
  simp only [Rep] at hq
  obtain ⟨inf, d, hi', hd, hsz', hnz, _⟩ := sizeA_parts hs
  rcases h with ⟨id, off, e1, rfl⟩ | ⟨u, u', e1, hl, rfl⟩
  · rw [e1] at hp
    simp only [Rep] at hp
    obtain ⟨b, hb, hv⟩ := hp
    refine OpOk.value (V := .pointer (some ⟨b, off + n.toNat * sz, none⟩)) ?_ S (by simp only [Rep]; exact ⟨b, hb, rfl⟩)
    simp [execOp, ho, Instr.indexAt, hv, hq, asIntOf, Instr.sureAddr, Sem.run_bind, run_underlying ht, sizeOf, typeInfo, hi', hsz', h0, hn, plain_add]
  · rw [e1] at hp
    simp only [Rep] at hp
    obtain ⟨ad, V, hv, hok, hr0, hcells⟩ := hp
    obtain ⟨h1, h2⟩ := sub_size hl
    obtain ⟨hr, hone⟩ := hr0.cells hok
    have hr' := (hr.drop (n.toNat * sz)).take sz
    have hm := Rep.mk h2 (fun c hc => hone c (List.mem_of_mem_drop (List.mem_of_mem_take hc))) hr'
    refine OpOk.value (V := .pointer (some (ad.add (n.toNat * sz)))) ?_ S ?_
    · simp [execOp, ho, Instr.indexAt, hv, hq, asIntOf, Instr.sureAddr, Sem.run_bind, run_underlying ht, sizeOf, typeInfo, hi', hsz', h0, hn]
    · simp only [Rep]
      refine ⟨_, _, rfl, hm.2.1, hm.1, ?_⟩
      rw [hm.2.2.2]
      intro j x hj
      rw [List.getElem?_take] at hj
      split at hj
      · rw [List.getElem?_drop] at hj
        have := hcells _ _ hj
        have hadd : (ad.add (n.toNat * sz)).add j = ad.add (n.toNat * sz + j) := by
          unfold Addr.add
          by_cases h1 : n.toNat * sz = 0 <;> by_cases h2 : j = 0 <;> simp [h1, h2, Nat.add_assoc]
        rw [hadd]; exact this
      · cases hj

theorem ok_idxA {t e : TypeId} {x i : Operand} {y j : X} {len sz : Nat} {g : Bool} {E : Env} {k : IntKind} {n : Int} {v : AV} {l : List AV} (ho : o.op = .index t x i) (ht : P.underlying t = some (.array len e)) (hs : sizeA P e = some (sz, g))
    (hx : compX x = some y) (hi : compX i = some j) (S : Sim Z w μ ν σ) (hE : EnvRep (ctx Z w μ ν σ.rows) E a.tmps) (hy : y.ev E = .agg l) (hj : j.ev E = .int k n) (h0 : 0 ≤ n) (hn : n < len) (h : (AV.agg l).sub (n.toNat * sz) sz g = some v) :
    OpOk P Z o a w μ ν σ v σ := by
  have hp := compX_rep hE hx
  have hq := compX_rep hE hi
  rw [hy] at hp; rw [hj] at hq
  obtain ⟨h1, h2⟩ := sub_size h
  obtain ⟨hr, hone⟩ := hp.cells rfl
  have hr' := (hr.drop (n.toNat * sz)).take sz
  have hm := Rep.mk h2 (fun c hc => hone c (List.mem_of_mem_drop (List.mem_of_mem_take hc))) hr'
  simp only [Rep] at hp hq
  obtain ⟨⟨arr, hv, _⟩, _⟩ := hp
  have hcells : (a.eval x).cells = arr := by rw [hv]; rfl
  rw [hcells] at hm hr'
  obtain ⟨inf, d, hi', hd, hsz', hnz, _⟩ := sizeA_parts hs
  refine OpOk.value (V := if g then .agg ((arr.toList.drop (n.toNat * sz)).take sz).toArray else ((arr.toList.drop (n.toNat * sz)).take sz).headD undef) ?_ S hm.1
  have hrun := run_part (P := P) (w := w) hs (cs := arr) (off := n.toNat * sz) (by rw [hr'.length]; exact h1) (fun hg => by subst hg; have := mk_single h2; omega)
  have hszr : (sizeOf e).run P w = .ok sz w := by simp [sizeOf, typeInfo, hi', hsz', Sem.run_bind]
  have hc : 0 ≤ n ∧ n < (len : Int) := ⟨h0, hn⟩
  simp only [execOp, ho, Instr.index, hq, asIntOf, Sem.run_bind, Sem.run_pure, Result.andThen_ok, run_underlying ht, hv, if_pos hc, hszr, hrun]

/-! ### build -/
theorem fillCells_at (off : Nat) : ∀ (us : List Value) (k : Nat) (cur : Array Value), off + k + us.length ≤ cur.size →
    ((us.zipIdx k).foldl (fun cs (c, j) => cs.setIfInBounds (off + j) c) cur).toList = cur.toList.take (off + k) ++ us ++ cur.toList.drop (off + k + us.length)
  | [], k, cur, h => by simp
  | u :: us, k, cur, h => by
    simp only [List.zipIdx_cons, List.foldl_cons]
    simp only [List.length_cons] at h
    rw [fillCells_at off us (k + 1) (cur.setIfInBounds (off + k) u) (by simp; omega)]
    have hlt : off + k < cur.toList.length := by simp; omega
    rw [Array.toList_setIfInBounds]
    have e1 : (cur.toList.set (off + k) u).take (off + (k + 1)) = cur.toList.take (off + k) ++ [u] := by
      rw [show off + (k + 1) = off + k + 1 from by omega, List.take_succ_eq_append_getElem (by simpa using hlt)]
      simp [List.take_set_of_le]
    have e2 : (cur.toList.set (off + k) u).drop (off + (k + 1) + us.length) = cur.toList.drop (off + k + (u :: us).length) := by
      rw [List.drop_set_of_lt (by omega)]
      congr 1
      simp; omega
    rw [e1, e2]
    simp
theorem fill_parts {R : Ctx} {E : Env} (hE : EnvRep R E a.tmps) (place : Nat → Option (Nat × Nat)) : ∀ {ps : List (Nat × Operand)} {qs : List (Nat × Nat × X)} {l l' : List AV} {cur : Array Value},
    (ps.length = qs.length ∧ ∀ (i : Nat) (p : Nat × Operand) (q : Nat × Nat × X), ps[i]? = some p → qs[i]? = some q → compX p.2 = some q.2.2 ∧ place p.1 = some (q.1, q.2.1)) → fillParts E qs l = some l' → RepL R l cur.toList → (∀ x ∈ l, x.one = true) →
    ∃ arr, Instr.fill place cur (ps.map fun p => (p.1, a.eval p.2)) = some arr ∧ RepL R l' arr.toList ∧ (∀ x ∈ l', x.one = true)
  | [], [], l, l', cur, h, hf, hr, h1 => by
    simp [fillParts] at hf; subst hf
    exact ⟨cur, rfl, hr, h1⟩
  | [], q :: qs, l, l', cur, h, hf, hr, h1 => by simp at h
  | p :: ps, [], l, l', cur, h, hf, hr, h1 => by simp at h
  | p :: ps, (off, size, x) :: qs, l, l', cur, h, hf, hr, h1 => by
    obtain ⟨hl, hall⟩ := h
    obtain ⟨hx, hpl⟩ := hall 0 p (off, size, x) rfl rfl
    simp only at hx hpl
    simp only [fillParts] at hf
    split at hf
    · rename_i hc
      simp only [Bool.and_eq_true, decide_eq_true_eq] at hc
      obtain ⟨⟨hc1, hc2⟩, hc3⟩ := hc
      have hv := compX_rep hE hx
      obtain ⟨hrv, hov⟩ := hv.cells hc3
      have hsz := hv.size hc3
      have hcur := hr.length
      simp only [Array.length_toList] at hcur
      have hput := RepL.put hr hrv off
      have hcells := fillCells_at off (a.eval p.2).cells.toList 0 cur (by simp; omega)
      have hone' : ∀ y ∈ putCells l off (x.ev E).cells, y.one = true := by
        intro y hy
        unfold putCells at hy
        simp only [List.mem_append] at hy
        rcases hy with (hy | hy) | hy
        · exact h1 y (List.mem_of_mem_take hy)
        · exact hov y hy
        · exact h1 y (List.mem_of_mem_drop hy)
      obtain ⟨arr, e1, e2, e3⟩ := fill_parts hE place (ps := ps) (qs := qs) (l := putCells l off (x.ev E).cells) (cur := (a.eval p.2).cells.zipIdx.foldl (fun cs (c, j) => cs.setIfInBounds (off + j) c) cur)
        ⟨by simpa using hl, fun i p' q' hp' hq' => hall (i + 1) p' q' (by simpa using hp') (by simpa using hq')⟩ hf (by
          rw [← Array.foldl_toList, Array.toList_zipIdx, hcells]
          simpa using hput) hone'
      refine ⟨arr, ?_, e2, e3⟩
      simp only [List.map_cons, Instr.fill, hpl]
      rw [if_neg (by simp; omega)]
      exact e1
    · cases hf
end
end Go.Rb

/- The abstract values of the engine, its operations, and its interpreter: plain data, no memory of the model's. The interpreter without a bound on rounds: the limit of the bounded ones, and its equations. What an abstract value says of a value of the model's, in a memory: claims that live on. The abstract store against a memory of the model's; how a memory grows. -/
import Derived.Calls
import Derived.Below
import Derived.Laws.AppendOwn
namespace Go.Rb
set_option linter.unusedVariables false
set_option linter.unusedSimpArgs false

inductive Own where
  | no | full | row (r ver : Nat)
  deriving DecidableEq, Repr, Inhabited

inductive AV where
  | undef
  | int (k : IntKind) (n : Int)
  | bool (b : Bool)
  | str (s : ByteArray)
  | agg (cs : List AV)
  | tup (vs : List AV)
  | sl (o : Own) (es : List AV)
  | box (id off : Nat)
  | el (v : AV)
  | fn (f : Fn) (fst cap : List AV)
  | nilfn
  | nilp
  | nilm
  /-- of an operation that was not asked for -/
  | skp
  /-- a slice over a variable's cells: n elements of so many cells -/
  | bsl (id off n size : Nat) (a : Bool)
  deriving Inhabited

namespace AV
def cells : AV → List AV
  | agg cs => cs
  | v => [v]
/-- one cell's value, that can be stored -/
def one : AV → Bool
  | undef | skp | agg _ | tup _ | bsl .. => false
  | _ => true
def isAgg : AV → Bool
  | agg _ => true
  | _ => false
/-- a value that a variable can hold -/
def okv : AV → Bool
  | undef | skp | tup _ | bsl .. => false
  | _ => true
def mk (a : Bool) (l : List AV) : Option AV :=
  if a then some (.agg l) else match l with
    | [x] => some x
    | _ => none
def sub (off size : Nat) (a : Bool) (v : AV) : Option AV :=
  let l := (v.cells.drop off).take size
  if l.length = size then mk a l else none
mutual
def closed : AV → Bool
  | agg cs => closedL cs
  | tup vs => closedL vs
  | sl _ es => closedL es
  | box _ _ => false
  | bsl .. => false
  | el v => closed v
  | fn _ a b => closedL a && closedL b
  | _ => true
def closedL : List AV → Bool
  | [] => true
  | x :: xs => closed x && closedL xs
end
mutual
/-- are all variables that it points to among the first n? -/
def under (n : Nat) : AV → Bool
  | agg cs => underL n cs
  | tup vs => underL n vs
  | sl _ es => underL n es
  | box id _ => id < n
  | bsl .. => false
  | el v => under n v
  | fn _ a b => underL n a && underL n b
  | _ => true
def underL (n : Nat) : List AV → Bool
  | [] => true
  | x :: xs => under n x && underL n xs
end
mutual
def beq : AV → AV → Bool
  | undef, undef => true
  | int k a, int k' b => decide (k = k') && decide (a = b)
  | bool a, bool b => a == b
  | str a, str b => decide (a = b)
  | agg a, agg b => beqL a b
  | tup a, tup b => beqL a b
  | sl o a, sl o' b => decide (o = o') && beqL a b
  | box i j, box i' j' => decide (i = i') && decide (j = j')
  | el a, el b => beq a b
  | fn f a b, fn f' a' b' => decide (f = f') && beqL a a' && beqL b b'
  | nilfn, nilfn => true
  | nilp, nilp => true
  | nilm, nilm => true
  | skp, skp => true
  | bsl i o n s a, bsl i' o' n' s' a' => decide (i = i') && decide (o = o') && decide (n = n') && decide (s = s') && a == a'
  | _, _ => false
def beqL : List AV → List AV → Bool
  | [], [] => true
  | x :: xs, y :: ys => beq x y && beqL xs ys
  | _, _ => false
end
mutual
def strip : AV → AV
  | agg cs => agg (stripL cs)
  | tup vs => tup (stripL vs)
  | sl _ es => sl .no (stripL es)
  | el v => el (strip v)
  | fn f a b => fn f (stripL a) (stripL b)
  | v => v
def stripL : List AV → List AV
  | [] => []
  | x :: xs => strip x :: stripL xs
end
/-- a number, a bool, a string -/
def flat : AV → Bool
  | int _ _ | bool _ | str _ => true
  | _ => false
def isB : AV → Bool
  | bsl .. => true
  | _ => false
/-- two cells of plain kinds are the same: numbers (true), bools (false) -/
def eq1 (isInt : Bool) : AV → AV → Option Bool
  | int k a, int k' b => if isInt = true ∧ k = k' then some (a == b) else none
  | bool a, bool b => if isInt = false then some (a == b) else none
  | _, _ => none
def eqL : List Bool → List AV → List AV → Option Bool
  | [], [], [] => some true
  | k :: ks, x :: xs, y :: ys =>
    match eq1 k x y, eqL ks xs ys with
    | some b, some c => some (b && c)
    | _, _ => none
  | _, _, _ => none
end AV

/-- a growable slice: its elements' type and size, and how often it was appended to -/
structure Row where
  e : Nat
  size : Nat
  ver : Nat
  deriving DecidableEq, Inhabited
structure St where
  boxes : List AV
  rows : List Row
  deriving Inhabited
def St.nil : St := ⟨[], []⟩

abbrev Env := List (Nat × AV)
def Env.get : Env → Nat → AV
  | [], _ => .undef
  | (k, v) :: r, t => if k = t then v else Env.get r t
def Env.put (e : Env) (d : Option Nat) (v : AV) : Env :=
  match d with
  | some t => (t, v) :: e
  | none => e
def Env.keep (e : Env) (l : List Nat) : Env := l.map fun t => (t, e.get t)

inductive X where
  | t (n : Nat)
  | c (v : AV)
  deriving Inhabited
def X.ev (e : Env) : X → AV
  | .t n => e.get n
  | .c v => v

inductive SOp where
  | mov (x : X)
  | pick (c a b : X)
  | alloc (z : AV)
  | box (x : X)
  | build (z : List AV) (parts : List (Nat × Nat × X))
  | bslice (size : Nat) (z : AV) (len : Nat) (parts : List (Nat × X))
  | load (size : Nat) (a : Bool) (x : X)
  | store (size : Nat) (x v : X)
  | nilck (x : X)
  | bin (op : BinOp) (x y : X)
  | eqb (neg : Bool) (x y : X)
  | eqa (neg : Bool) (ks : List Bool) (x y : X)
  | un (op : UnOp) (x : X)
  | conv (k : IntKind) (x : X)
  | mkfn (f : Fn) (fst cap : List X)
  | faddr (off size : Nat) (a : Bool) (x : X)
  | fld (off size : Nat) (a : Bool) (x : X)
  | iaddr (size : Nat) (x i : X)
  | iaddrA (len size : Nat) (a : Bool) (x i : X)
  | idxA (len size : Nat) (a : Bool) (x i : X)
  | ext (x : X) (i : Nat)
  | len (x : X)
  | mx (isMax : Bool) (x y : X)
  | append (e size bytes : Nat) (s x : X)
  | call (f : X) (args : List X)
  | eqs (neg : Bool) (x y : X)
  | sadd (x y : X)
  | chr (x : X)
  | slbox (len size : Nat) (a : Bool) (x lo hi : X)
  | slc (size : Nat) (x lo : X) (hi : Option X)
  deriving Inhabited

structure SOper where
  dst : Option Nat
  op : SOp
  guard : Option (Nat × Bool)
  bef : List Nat
  deriving Inhabited

inductive SCode where
  | skip
  | region (draw : Bool) (ops : List SOper)
  | seq (a b : SCode)
  | cond (x : X) (a b : SCode)
  | block (id : Nat) (c : SCode)
  | loop (live : List Nat) (c : SCode)
  | exit (id : Nat)
  | ret
  deriving Inhabited

inductive SRes where
  | tmp (t : Nat)
  | cell (t size : Nat) (a : Bool)
  deriving Inhabited

structure SFun where
  np : Nat
  body : SCode
  res : List SRes
  deriving Inhabited

inductive SExit where
  | normal | exit (id : Nat) | ret
  deriving DecidableEq, Inhabited

/-! ### Operations on numbers -/
def aBits (op : BinOp) (k : IntKind) (x y : Int) : Option AV :=
  let a := BitVec.ofInt k.bits x
  let b := BitVec.ofInt k.bits y
  match op with
  | .and => some (.int k (k.wrap (a &&& b).toNat))
  | .or => some (.int k (k.wrap (a ||| b).toNat))
  | .xor => some (.int k (k.wrap (a ^^^ b).toNat))
  | .andNot => some (.int k (k.wrap (a &&& ~~~b).toNat))
  | _ => none
def aBin (op : BinOp) (x y : AV) : Option AV :=
  match x, y with
  | .int k a, .int k' b =>
    match op with
    | .shl => if b < 0 then none else some (.int k (k.wrap (a * 2 ^ min b.toNat k.bits)))
    | .shr => if b < 0 then none else some (.int k (a.fdiv (2 ^ min b.toNat k.bits)))
    | _ =>
      if k = k' then
        match op with
        | .add => some (.int k (k.wrap (a + b)))
        | .sub => some (.int k (k.wrap (a - b)))
        | .mul => some (.int k (k.wrap (a * b)))
        | .quo => if b = 0 then none else some (.int k (k.wrap (a.tdiv b)))
        | .rem => if b = 0 then none else some (.int k (a.tmod b))
        | .and | .or | .xor | .andNot => aBits op k a b
        | .eql => some (.bool (a == b))
        | .neq => some (.bool (a != b))
        | .lss => some (.bool (a < b))
        | .leq => some (.bool (a ≤ b))
        | .gtr => some (.bool (a > b))
        | .geq => some (.bool (a ≥ b))
        | _ => none
      else none
  | _, _ => none
def aUn (op : UnOp) (x : AV) : Option AV :=
  match op, x with
  | .neg, .int k n => some (.int k (k.wrap (0 - n)))
  | .xor, .int k n => aBits .xor k (if k.signed then -1 else k.max) n
  | .not, .bool b => some (.bool !b)
  | _, _ => none

/-! ### The interpreter -/
/-- what is called on: loops that go round, and functions -/
structure Rec where
  loop : Nat → List Nat → SCode → Env → St → Option (SExit × Env × St)
  call : Nat → List AV → St → Option (AV × St)

/-- the program: each function compiled; those that run in the caller's store -/
structure Tab where
  fn : Nat → Option SFun
  imp : Nat → Bool
  /-- functions that are told from elsewhere -/
  ext : Nat → Option (List AV → Option AV)

/-- a pure call: in an empty store; what comes back is closed, and stripped -/
def pureCall (r : Rec) (f : Nat) (args : List AV) : Option AV :=
  if AV.closedL args then
    match r.call f (AV.stripL args) .nil with
    | some (v, _) => if v.closed then some v.strip else none
    | none => none
  else none

/-- the elements of a slice over a variable's cells -/
def snapEls (l : List AV) (off size : Nat) (a : Bool) : Nat → Option (List AV)
  | 0 => some []
  | n + 1 =>
    let x := (l.drop off).take size
    if x.length = size then match AV.mk a x, snapEls l (off + size) size a n with
      | some v, some r => some (v :: r)
      | _, _ => none
    else none
def snap (σ : St) : AV → Option AV
  | .bsl id off n size a => match σ.boxes[id]? with
    | some c => (snapEls c.cells off size a n).map (.sl .no)
    | none => none
  | v => some v
def snapL (σ : St) : List AV → Option (List AV)
  | [] => some []
  | x :: xs => match snap σ x, snapL σ xs with
    | some y, some ys => some (y :: ys)
    | _, _ => none
/-- a pure call that looks at slices over the caller's variables, and gives a plain value -/
def boxCall (r : Rec) (f : Nat) (args : List AV) (σ : St) : Option AV :=
  match snapL σ args with
  | some l => if AV.closedL l then
      match r.call f (AV.stripL l) .nil with
      | some (v, _) => if v.flat then some v else none
      | none => none
    else none
  | none => none

inductive Foot where
  | no | rd (id : Nat) | wr (id : Nat) | row | all
  deriving DecidableEq, Inhabited
def Foot.conf : Foot → Foot → Bool
  | .no, _ | _, .no | .rd _, .rd _ => false
  | .rd a, .wr b | .wr a, .rd b | .wr a, .wr b => a == b
  | .rd _, .row | .row, .rd _ | .wr _, .row | .row, .wr _ => false
  | .row, .row => true
  | .rd _, .all | .all, .rd _ | .all, .all => false
  | .wr _, .all | .all, .wr _ | .row, .all | .all, .row => true

def putCells (l : List AV) (off : Nat) (xs : List AV) : List AV := l.take off ++ xs ++ l.drop (off + xs.length)
def fillParts (e : Env) : List (Nat × Nat × X) → List AV → Option (List AV)
  | [], l => some l
  | (off, size, x) :: r, l =>
    let v := x.ev e
    if v.cells.length = size && off + size ≤ l.length && v.okv then fillParts e r (putCells l off v.cells) else none
def fillElems (e : Env) (size : Nat) (a : Bool) : List (Nat × X) → List AV → Option (List AV)
  | [], l => some l
  | (i, x) :: r, l =>
    let v := x.ev e
    if v.cells.length = size && i < l.length && v.okv && v.isAgg == a then fillElems e size a r (l.set i v) else none

def St.load (σ : St) (id off size : Nat) (a : Bool) : Option AV :=
  match σ.boxes[id]? with
  | some c => c.sub off size a
  | none => none
def St.push (σ : St) (v : AV) : AV × St := (.box σ.boxes.length 0, { σ with boxes := σ.boxes ++ [v] })
def AV.set (c : AV) (off : Nat) (xs : List AV) : AV :=
  match c with
  | .agg cs => .agg (putCells cs off xs)
  | _ => match xs with
    | [x] => x
    | _ => c

/-- the most bytes that an append may come to -/
def mostBytes : Nat := 140737488355328

def aAppend (e size bytes : Nat) (s x : AV) (σ : St) : Option (AV × St) :=
  match s, x with
  | .sl o es, .sl _ ys =>
    if ys.isEmpty then some (.sl o es, σ)
    else if (es.length + ys.length) * bytes ≤ mostBytes && ys.all (fun y => y.cells.length == size) && es.all (fun y => y.cells.length == size) then
      match o with
      | .full => some (.sl (.row σ.rows.length 0) (es ++ ys), { σ with rows := σ.rows ++ [⟨e, size, 0⟩] })
      | .row r ver => if σ.rows[r]? = some ⟨e, size, ver⟩ then some (.sl (.row r (ver + 1)) (es ++ ys), { σ with rows := σ.rows.set r ⟨e, size, ver + 1⟩ }) else none
      | .no => none
    else none
  | _, _ => none

/-- a call by value: the function, and all its arguments -/
def callee (f : AV) (args : List AV) : Option (Nat × List AV) :=
  match f with
  | .fn (.func g) fst cap => some (g, fst ++ args ++ cap)
  | _ => none

def hiOf (e : Env) (s : AV) (hi : Option X) : AV :=
  match hi with
  | some y => y.ev e
  | none => match s with
    | .sl _ es => .int .i64 es.length
    | _ => .undef

def aop (T : Tab) (r : Rec) (fl : Nat) (o : SOp) (e : Env) (σ : St) : Option (AV × St) :=
  match o with
  | .mov x => some (x.ev e, σ)
  | .pick c a b => match c.ev e with
    | .bool t => some (if t then a.ev e else b.ev e, σ)
    | _ => none
  | .alloc z => some (σ.push z)
  | .box x => if (x.ev e).okv then some (σ.push (x.ev e)) else none
  | .build z parts => (fillParts e parts z).map fun l => (.agg l, σ)
  | .bslice size z len parts => (fillElems e size z.isAgg parts (List.replicate len z)).map fun l => (.sl .full l, σ)
  | .load size a x => match x.ev e with
    | .box id off => (σ.load id off size a).map fun v => (v, σ)
    | .el v => (v.sub 0 size a).map fun v => (v, σ)
    | _ => none
  | .store size x v => match x.ev e with
    | .box id off =>
      let u := v.ev e
      match σ.boxes[id]? with
      | some c =>
        if u.cells.length = size && off + size ≤ c.cells.length && u.okv && (fl ≤ id || u.closed) then
          some (.undef, { σ with boxes := σ.boxes.set id (c.set off u.cells) })
        else none
      | none => none
    | _ => none
  | .nilck x => match x.ev e with
    | .box id off => some (.box id off, σ)
    | .el v => some (.el v, σ)
    | .fn (.func g) a b => some (.fn (.func g) a b, σ)
    | _ => none
  | .bin op x y => (aBin op (x.ev e) (y.ev e)).map fun v => (v, σ)
  | .eqb neg x y => match x.ev e, y.ev e with
    | .bool a, .bool b => some (.bool (if neg then !(a == b) else a == b), σ)
    | _, _ => none
  | .eqa neg ks x y => match x.ev e, y.ev e with
    | .agg a, .agg b => (AV.eqL ks a b).map fun t => (.bool (if neg then !t else t), σ)
    | _, _ => none
  | .un op x => (aUn op (x.ev e)).map fun v => (v, σ)
  | .conv k x => match x.ev e with
    | .int _ n => some (.int k (k.wrap n), σ)
    | _ => none
  | .mkfn f a b => some (.fn f (a.map (·.ev e)) (b.map (·.ev e)), σ)
  | .faddr off size a x => match x.ev e with
    | .box id o => some (.box id (o + off), σ)
    | .el v => (v.sub off size a).map fun v => (.el v, σ)
    | _ => none
  | .fld off size a x => match x.ev e with
    | .agg l => ((AV.agg l).sub off size a).map fun v => (v, σ)
    | _ => none
  | .iaddr size x i => match x.ev e, i.ev e with
    | .sl _ es, .int _ n =>
      if 0 ≤ n then match es[n.toNat]? with
        | some u => if u.cells.length = size then some (.el u, σ) else none
        | none => none
      else none
    | _, _ => none
  | .iaddrA len size a x i => match x.ev e, i.ev e with
    | .box id o, .int _ n => if 0 ≤ n && n < len then some (.box id (o + n.toNat * size), σ) else none
    | .el v, .int _ n => if 0 ≤ n && n < len then (v.sub (n.toNat * size) size a).map fun v => (.el v, σ) else none
    | _, _ => none
  | .idxA len size a x i => match x.ev e, i.ev e with
    | .agg l, .int _ n => if 0 ≤ n && n < len then ((AV.agg l).sub (n.toNat * size) size a).map fun v => (v, σ) else none
    | _, _ => none
  | .ext x i => match x.ev e with
    | .tup vs => vs[i]?.map fun v => (v, σ)
    | _ => none
  | .len x => match x.ev e with
    | .sl _ es => some (.int .i64 es.length, σ)
    | _ => none
  | .mx isMax x y => match x.ev e, y.ev e with
    | .int k a, .int k' b => if k = k' then some (.int k (if isMax then (if b > a then b else a) else (if b < a then b else a)), σ) else none
    | _, _ => none
  | .append t size bytes s x => aAppend t size bytes (s.ev e) (x.ev e) σ
  | .call f args => match callee (f.ev e) (args.map (·.ev e)) with
    | some (g, l) => if T.imp g then r.call g l σ else if l.any AV.isB then (boxCall r g l σ).map fun v => (v, σ) else (pureCall r g l).map fun v => (v, σ)
    | none => none
  | .eqs neg x y => match x.ev e, y.ev e with
    | .str a, .str b => some (.bool (if neg then !(a.toList == b.toList) else a.toList == b.toList), σ)
    | _, _ => none
  | .sadd x y => match x.ev e, y.ev e with
    | .str a, .str b => if a.size ≤ 4194304 ∧ b.size ≤ 4194304 then some (.str (a ++ b), σ) else none
    | _, _ => none
  | .chr x => match x.ev e with
    | .int _ n => some (.str (Utf8.encode n), σ)
    | _ => none
  | .slbox len size a x lo hi => match x.ev e, lo.ev e, hi.ev e with
    | .box id off, .int _ l, .int _ h => if 0 ≤ l ∧ l ≤ h ∧ h ≤ len ∧ l < len then some (.bsl id (off + l.toNat * size) (h.toNat - l.toNat) size a, σ) else none
    | _, _, _ => none
  | .slc size x lo hi => match x.ev e, lo.ev e, hiOf e (x.ev e) hi with
    | .sl _ es, .int _ l, .int _ h => if 0 ≤ l ∧ l ≤ h ∧ h ≤ es.length ∧ es.all (fun y => y.cells.length == size) = true then some (.sl .no ((es.drop l.toNat).take (h.toNat - l.toNat)), σ) else none
    | _, _, _ => none

def footOf (T : Tab) (o : SOp) (e : Env) : Foot :=
  match o with
  | .load _ _ x => match x.ev e with
    | .box id _ => .rd id
    | _ => .no
  | .store _ x _ => match x.ev e with
    | .box id _ => .wr id
    | _ => .no
  | .append .. => .row
  | .call f args => match callee (f.ev e) (args.map (·.ev e)) with
    | some (g, l) => if T.imp g || l.any AV.isB then .all else .no
    | none => .no
  | _ => .no

def wanted (g : Option (Nat × Bool)) (e : Env) : Option Bool :=
  match g with
  | none => some true
  | some (t, b) => match e.get t with
    | .bool c => some (c == b)
    | .skp => some false
    | _ => none

def footsOk (acc : List (Nat × Foot)) (bef : List Nat) (f : Foot) : Bool := acc.all fun (i, g) => !g.conf f || bef.contains i

def sameSt (a b : St) : Bool := AV.beqL a.boxes b.boxes && decide (a.rows = b.rows)
/-- in a region that draws its order a call in the caller's store leaves it alone, and knows none of what is made beside it -/
def quietOk (o : SOp) (e : Env) (f : Foot) (σ σ' : St) : Bool :=
  match f, o with
  | .all, .call g l => match callee (g.ev e) (l.map (·.ev e)) with
    | some (_, l) => sameSt σ σ' && AV.underL σ.boxes.length l && AV.underL σ.boxes.length σ.boxes
    | none => false
  | .all, _ => false
  | _, _ => true

def ops (T : Tab) (r : Rec) (fl : Nat) (draw : Bool) : (i : Nat) → List (Nat × Foot) → List SOper → Env → St → Option (Env × St)
  | _, _, [], e, σ => some (e, σ)
  | i, acc, o :: rest, e, σ =>
    match wanted o.guard e with
    | some true =>
      match aop T r fl o.op e σ with
      | some (v, σ') =>
        if draw then
          let f := footOf T o.op e
          if footsOk acc o.bef f && quietOk o.op e f σ σ' then ops T r fl draw (i + 1) (if f = .no then acc else (i, f) :: acc) rest (e.put o.dst v) σ' else none
        else ops T r fl draw (i + 1) acc rest (e.put o.dst v) σ'
      | none => none
    | some false => ops T r fl draw (i + 1) acc rest (e.put o.dst .skp) σ
    | none => none

def run (T : Tab) (r : Rec) (fl : Nat) : SCode → Env → St → Option (SExit × Env × St)
  | .skip, e, σ => some (.normal, e, σ)
  | .region draw l, e, σ => match ops T r fl draw 0 [] l e σ with
    | some (e, σ) => some (.normal, e, σ)
    | none => none
  | .seq a b, e, σ => match run T r fl a e σ with
    | some (.normal, e, σ) => run T r fl b e σ
    | x => x
  | .cond x a b, e, σ => match x.ev e with
    | .bool t => if t then run T r fl a e σ else run T r fl b e σ
    | _ => none
  | .block id c, e, σ => match run T r fl c e σ with
    | some (.exit i, e, σ) => if i = id then some (.normal, e, σ) else some (.exit i, e, σ)
    | x => x
  | .loop live c, e, σ => r.loop fl live c e σ
  | .exit id, e, σ => some (.exit id, e, σ)
  | .ret, e, σ => some (.ret, e, σ)

/-- one round of a loop -/
def round (T : Tab) (r : Rec) (fl : Nat) (live : List Nat) (c : SCode) (e : Env) (σ : St) : Option (SExit × Env × St) :=
  match run T r fl c (e.keep live) σ with
  | some (.normal, e, σ) => r.loop fl live c e σ
  | x => x

def resOf (e : Env) (σ : St) : List SRes → Option (List AV)
  | [] => some []
  | .tmp t :: l => (resOf e σ l).map fun r => e.get t :: r
  | .cell t size a :: l => match e.get t with
    | .box id off => match σ.load id off size a, resOf e σ l with
      | some v, some r => some (v :: r)
      | _, _ => none
    | _ => none
def packRes : List AV → AV
  | [v] => v
  | l => .tup l

def argEnv : Nat → List AV → Env
  | _, [] => []
  | i, v :: l => (i, v) :: argEnv (i + 1) l

/-- one call -/
def enter (T : Tab) (r : Rec) (f : Nat) (args : List AV) (σ : St) : Option (AV × St) :=
  match T.ext f, T.fn f with
  | some g, _ => if AV.closedL args then match g args with
    | some v => if v.closed then some (v.strip, σ) else none
    | none => none else none
  | none, none => none
  | none, some F =>
    if args.length = F.np then
      match run T r σ.boxes.length F.body (argEnv 0 args) σ with
      | some (x, e, σ') =>
        if x = .normal ∨ x = .ret then
          match resOf e σ' F.res with
          | some l =>
            let v := packRes l
            if v.under σ.boxes.length && AV.underL σ.boxes.length (σ'.boxes.take σ.boxes.length) then some (v, { σ' with boxes := σ'.boxes.take σ.boxes.length }) else some (v, σ')
          | none => none
        else none
      | none => none
    else none

/-- with so many rounds and calls in one another -/
def upto (T : Tab) : Nat → Rec
  | 0 => ⟨fun _ _ _ _ _ => none, fun _ _ _ => none⟩
  | n + 1 => ⟨round T (upto T n), enter T (upto T n)⟩

end Go.Rb

namespace Go.Rb
set_option linter.unusedVariables false
set_option linter.unusedSimpArgs false

structure Rec.Le (r r' : Rec) : Prop where
  loop : ∀ fl live c e σ x, r.loop fl live c e σ = some x → r'.loop fl live c e σ = some x
  call : ∀ f l σ x, r.call f l σ = some x → r'.call f l σ = some x

variable {T : Tab}

theorem pureCall_mono {r r' : Rec} (h : r.Le r') {f : Nat} {l : List AV} {v : AV} (hv : pureCall r f l = some v) : pureCall r' f l = some v := by
  unfold pureCall at hv ⊢
  split at hv
  · rename_i hc
    rw [if_pos hc]
    cases hr : r.call f (AV.stripL l) .nil with
    | none => rw [hr] at hv; cases hv
    | some p => rw [hr] at hv; rw [h.call _ _ _ _ hr]; exact hv
  · cases hv

theorem boxCall_mono {r r' : Rec} (h : r.Le r') {f : Nat} {l : List AV} {σ : St} {v : AV} (hv : boxCall r f l σ = some v) : boxCall r' f l σ = some v := by
  unfold boxCall at hv ⊢
  cases hs : snapL σ l with
  | none => rw [hs] at hv; cases hv
  | some m =>
    rw [hs] at hv
    simp only at hv ⊢
    split at hv
    · rename_i hc
      rw [if_pos hc]
      cases hr : r.call f (AV.stripL m) .nil with
      | none => rw [hr] at hv; cases hv
      | some p => rw [hr] at hv; rw [h.call _ _ _ _ hr]; exact hv
    · cases hv

theorem aop_mono {r r' : Rec} (h : r.Le r') {fl : Nat} {o : SOp} {e : Env} {σ : St} {x : AV × St} (hx : aop T r fl o e σ = some x) : aop T r' fl o e σ = some x := by
  cases o
  case call f args =>
    simp only [aop] at hx ⊢
    split at hx
    · rename_i g l hc
      split at hx
      · rename_i hi
        rw [if_pos hi]
        exact h.call _ _ _ _ hx
      · rename_i hi
        rw [if_neg hi]
        split at hx
        · rename_i hb
          rw [if_pos hb]
          cases hp : boxCall r g l σ with
          | none => rw [hp] at hx; cases hx
          | some v => rw [hp] at hx; rw [boxCall_mono h hp]; exact hx
        · rename_i hb
          rw [if_neg hb]
          cases hp : pureCall r g l with
          | none => rw [hp] at hx; cases hx
          | some v => rw [hp] at hx; rw [pureCall_mono h hp]; exact hx
    · cases hx
  all_goals exact hx

theorem ops_mono {r r' : Rec} (h : r.Le r') {fl : Nat} {draw : Bool} : ∀ (l : List SOper) (i : Nat) (acc : List (Nat × Foot)) (e : Env) (σ : St) (x : Env × St),
    ops T r fl draw i acc l e σ = some x → ops T r' fl draw i acc l e σ = some x := by
  intro l
  induction l with
  | nil => intro i acc e σ x hx; exact hx
  | cons o rest ih =>
    intro i acc e σ x hx
    simp only [ops] at hx ⊢
    cases hw : wanted o.guard e with
    | none => rw [hw] at hx; cases hx
    | some b =>
      rw [hw] at hx
      cases b
      · exact ih _ _ _ _ _ hx
      · simp only at hx ⊢
        cases ha : aop T r fl o.op e σ with
        | none => rw [ha] at hx; cases hx
        | some p =>
          rw [ha] at hx
          rw [aop_mono h ha]
          simp only at hx ⊢
          split at hx
          · rename_i hd
            rw [if_pos hd]
            split at hx
            · rename_i hf
              rw [if_pos hf]
              exact ih _ _ _ _ _ hx
            · cases hx
          · rename_i hd
            rw [if_neg hd]
            exact ih _ _ _ _ _ hx

theorem run_mono {r r' : Rec} (h : r.Le r') {fl : Nat} : ∀ (c : SCode) (e : Env) (σ : St) (x : SExit × Env × St),
    run T r fl c e σ = some x → run T r' fl c e σ = some x := by
  intro c
  induction c with
  | skip => intro e σ x hx; exact hx
  | exit id => intro e σ x hx; exact hx
  | ret => intro e σ x hx; exact hx
  | region draw l =>
    intro e σ x hx
    simp only [run] at hx ⊢
    cases ho : ops T r fl draw 0 [] l e σ with
    | none => rw [ho] at hx; cases hx
    | some p => rw [ho] at hx; rw [ops_mono h _ _ _ _ _ _ ho]; exact hx
  | seq a b iha ihb =>
    intro e σ x hx
    simp only [run] at hx ⊢
    cases ha : run T r fl a e σ with
    | none => rw [ha] at hx; cases hx
    | some p =>
      rw [ha] at hx; rw [iha _ _ _ ha]
      obtain ⟨ex, e1, σ1⟩ := p
      cases ex with
      | normal => exact ihb _ _ _ hx
      | exit id => exact hx
      | ret => exact hx
  | cond y a b iha ihb =>
    intro e σ x hx
    simp only [run] at hx ⊢
    split at hx
    · rename_i t ht
      cases t
      · exact ihb _ _ _ hx
      · exact iha _ _ _ hx
    · cases hx
  | block id c ih =>
    intro e σ x hx
    simp only [run] at hx ⊢
    cases hc : run T r fl c e σ with
    | none => rw [hc] at hx; cases hx
    | some p => rw [hc] at hx; rw [ih _ _ _ hc]; exact hx
  | loop live c ih =>
    intro e σ x hx
    simp only [run] at hx ⊢
    exact h.loop _ _ _ _ _ _ hx

theorem round_mono {r r' : Rec} (h : r.Le r') {fl : Nat} {live : List Nat} {c : SCode} {e : Env} {σ : St} {x : SExit × Env × St} (hx : round T r fl live c e σ = some x) : round T r' fl live c e σ = some x := by
  unfold round at hx ⊢
  cases hc : run T r fl c (e.keep live) σ with
  | none => rw [hc] at hx; cases hx
  | some p =>
    rw [hc] at hx; rw [run_mono h _ _ _ _ hc]
    obtain ⟨ex, e1, σ1⟩ := p
    cases ex with
    | normal => exact h.loop _ _ _ _ _ _ hx
    | exit id => exact hx
    | ret => exact hx

theorem enter_mono {r r' : Rec} (h : r.Le r') {f : Nat} {l : List AV} {σ : St} {x : AV × St} (hx : enter T r f l σ = some x) : enter T r' f l σ = some x := by
  unfold enter at hx ⊢
  cases hE : T.ext f with
  | some g => rw [hE] at hx; exact hx
  | none =>
  rw [hE] at hx
  cases hF : T.fn f with
  | none => rw [hF] at hx; cases hx
  | some F =>
    rw [hF] at hx
    simp only at hx ⊢
    split at hx
    · rename_i hl
      rw [if_pos hl]
      cases hc : run T r σ.boxes.length F.body (argEnv 0 l) σ with
      | none => rw [hc] at hx; cases hx
      | some p => rw [hc] at hx; rw [run_mono h _ _ _ _ hc]; exact hx
    · cases hx

theorem upto_succ : ∀ n, (upto T n).Le (upto T (n + 1)) := by
  intro n
  induction n with
  | zero => exact ⟨(fun _ _ _ _ _ _ h => by cases h), (fun _ _ _ _ h => by cases h)⟩
  | succ n ih => exact ⟨fun _ _ _ _ _ _ h => round_mono ih h, fun _ _ _ _ h => enter_mono ih h⟩
theorem Rec.Le.refl (r : Rec) : r.Le r := ⟨fun _ _ _ _ _ _ h => h, fun _ _ _ _ h => h⟩
theorem Rec.Le.trans {a b c : Rec} (h : a.Le b) (k : b.Le c) : a.Le c := ⟨fun _ _ _ _ _ _ q => k.loop _ _ _ _ _ _ (h.loop _ _ _ _ _ _ q), fun _ _ _ _ q => k.call _ _ _ _ (h.call _ _ _ _ q)⟩
theorem upto_le {n m : Nat} (h : n ≤ m) : (upto T n).Le (upto T m) := by
  induction h with
  | refl => exact .refl _
  | step _ ih => exact ih.trans (upto_succ _)

/-! ### The limit -/
open Classical in
noncomputable def limO {α : Type} (g : Nat → Option α) : Option α := if h : ∃ n, (g n).isSome = true then g (Classical.choose h) else none
theorem limO_some {α : Type} {g : Nat → Option α} (hm : ∀ n m x, n ≤ m → g n = some x → g m = some x) {x : α} : limO g = some x ↔ ∃ n, g n = some x := by
  unfold limO
  constructor
  · intro h
    split at h
    · exact ⟨_, h⟩
    · cases h
  · rintro ⟨n, hn⟩
    have hex : ∃ n, (g n).isSome = true := ⟨n, by rw [hn]; rfl⟩
    rw [dif_pos hex]
    have hc := Classical.choose_spec hex
    obtain ⟨y, hy⟩ := Option.isSome_iff_exists.1 hc
    have h1 := hm _ (max n (Classical.choose hex)) _ (Nat.le_max_left _ _) hn
    have h2 := hm _ (max n (Classical.choose hex)) _ (Nat.le_max_right _ _) hy
    rw [hy, ← h1, h2]

noncomputable def lim (T : Tab) : Rec :=
  ⟨fun fl live c e σ => limO fun n => (upto T n).loop fl live c e σ, fun f l σ => limO fun n => (upto T n).call f l σ⟩
theorem lim_loop {fl : Nat} {live : List Nat} {c : SCode} {e : Env} {σ : St} {x : SExit × Env × St} : (lim T).loop fl live c e σ = some x ↔ ∃ n, (upto T n).loop fl live c e σ = some x :=
  limO_some fun _ _ _ h q => (upto_le h).loop _ _ _ _ _ _ q
theorem lim_call {f : Nat} {l : List AV} {σ : St} {x : AV × St} : (lim T).call f l σ = some x ↔ ∃ n, (upto T n).call f l σ = some x :=
  limO_some fun _ _ _ h q => (upto_le h).call _ _ _ _ q
theorem upto_lim (n : Nat) : (upto T n).Le (lim T) := ⟨fun _ _ _ _ _ _ h => lim_loop.2 ⟨n, h⟩, fun _ _ _ _ h => lim_call.2 ⟨n, h⟩⟩

theorem pureCall_cont {f : Nat} {l : List AV} {v : AV} (h : pureCall (lim T) f l = some v) : ∃ n, pureCall (upto T n) f l = some v := by
  unfold pureCall at h
  split at h
  · rename_i hc
    cases hr : (lim T).call f (AV.stripL l) .nil with
    | none => rw [hr] at h; cases h
    | some p =>
      obtain ⟨n, hn⟩ := lim_call.1 hr
      exact ⟨n, by unfold pureCall; rw [if_pos hc, hn]; rw [hr] at h; exact h⟩
  · cases h
theorem boxCall_cont {f : Nat} {l : List AV} {σ : St} {v : AV} (h : boxCall (lim T) f l σ = some v) : ∃ n, boxCall (upto T n) f l σ = some v := by
  unfold boxCall at h
  cases hs : snapL σ l with
  | none => rw [hs] at h; cases h
  | some m =>
    rw [hs] at h
    simp only at h
    split at h
    · rename_i hc
      cases hr : (lim T).call f (AV.stripL m) .nil with
      | none => rw [hr] at h; cases h
      | some p =>
        obtain ⟨n, hn⟩ := lim_call.1 hr
        exact ⟨n, by unfold boxCall; rw [hs]; simp only; rw [if_pos hc, hn]; rw [hr] at h; exact h⟩
    · cases h
theorem aop_cont {fl : Nat} {o : SOp} {e : Env} {σ : St} {x : AV × St} (hx : aop T (lim T) fl o e σ = some x) : ∃ n, aop T (upto T n) fl o e σ = some x := by
  cases o
  case call f args =>
    simp only [aop] at hx
    split at hx
    · rename_i g l hc
      split at hx
      · rename_i hi
        obtain ⟨n, hn⟩ := lim_call.1 hx
        exact ⟨n, by simp only [aop, hc, if_pos hi]; exact hn⟩
      · rename_i hi
        split at hx
        · rename_i hb
          cases hp : boxCall (lim T) g l σ with
          | none => rw [hp] at hx; cases hx
          | some v =>
            obtain ⟨n, hn⟩ := boxCall_cont hp
            exact ⟨n, by simp only [aop, hc, if_neg hi, if_pos hb, hn]; rw [hp] at hx; exact hx⟩
        · rename_i hb
          cases hp : pureCall (lim T) g l with
          | none => rw [hp] at hx; cases hx
          | some v =>
            obtain ⟨n, hn⟩ := pureCall_cont hp
            exact ⟨n, by simp only [aop, hc, if_neg hi, if_neg hb, hn]; rw [hp] at hx; exact hx⟩
    · cases hx
  all_goals exact ⟨0, hx⟩
theorem ops_cont {fl : Nat} {draw : Bool} : ∀ (l : List SOper) (i : Nat) (acc : List (Nat × Foot)) (e : Env) (σ : St) (x : Env × St),
    ops T (lim T) fl draw i acc l e σ = some x → ∃ n, ops T (upto T n) fl draw i acc l e σ = some x := by
  intro l
  induction l with
  | nil => intro i acc e σ x hx; exact ⟨0, hx⟩
  | cons o rest ih =>
    intro i acc e σ x hx
    simp only [ops] at hx
    cases hw : wanted o.guard e with
    | none => rw [hw] at hx; cases hx
    | some b =>
      rw [hw] at hx
      cases b
      · obtain ⟨m, hm⟩ := ih _ _ _ _ _ hx
        exact ⟨m, by simp only [ops, hw]; exact hm⟩
      · simp only at hx
        cases ha : aop T (lim T) fl o.op e σ with
        | none => rw [ha] at hx; cases hx
        | some p =>
          rw [ha] at hx
          obtain ⟨n, hn⟩ := aop_cont ha
          simp only at hx
          split at hx
          · rename_i hd
            split at hx
            · rename_i hf
              obtain ⟨m, hm⟩ := ih _ _ _ _ _ hx
              refine ⟨max n m, ?_⟩
              simp only [ops, hw, aop_mono (upto_le (Nat.le_max_left n m)) hn, if_pos hd, if_pos hf]
              exact ops_mono (upto_le (Nat.le_max_right n m)) _ _ _ _ _ _ hm
            · cases hx
          · rename_i hd
            obtain ⟨m, hm⟩ := ih _ _ _ _ _ hx
            refine ⟨max n m, ?_⟩
            simp only [ops, hw, aop_mono (upto_le (Nat.le_max_left n m)) hn, if_neg hd]
            exact ops_mono (upto_le (Nat.le_max_right n m)) _ _ _ _ _ _ hm

theorem run_cont {fl : Nat} : ∀ (c : SCode) (e : Env) (σ : St) (x : SExit × Env × St), run T (lim T) fl c e σ = some x → ∃ n, run T (upto T n) fl c e σ = some x := by
  intro c
  induction c with
  | skip => intro e σ x hx; exact ⟨0, hx⟩
  | exit id => intro e σ x hx; exact ⟨0, hx⟩
  | ret => intro e σ x hx; exact ⟨0, hx⟩
  | region draw l =>
    intro e σ x hx
    simp only [run] at hx
    cases ho : ops T (lim T) fl draw 0 [] l e σ with
    | none => rw [ho] at hx; cases hx
    | some p =>
      obtain ⟨n, hn⟩ := ops_cont _ _ _ _ _ _ ho
      exact ⟨n, by simp only [run, hn]; rw [ho] at hx; exact hx⟩
  | seq a b iha ihb =>
    intro e σ x hx
    simp only [run] at hx
    cases ha : run T (lim T) fl a e σ with
    | none => rw [ha] at hx; cases hx
    | some p =>
      rw [ha] at hx
      obtain ⟨n, hn⟩ := iha _ _ _ ha
      obtain ⟨ex, e1, σ1⟩ := p
      cases ex with
      | normal =>
        obtain ⟨m, hm⟩ := ihb _ _ _ hx
        exact ⟨max n m, by simp only [run, run_mono (upto_le (Nat.le_max_left n m)) _ _ _ _ hn]; exact run_mono (upto_le (Nat.le_max_right n m)) _ _ _ _ hm⟩
      | exit id => exact ⟨n, by simp only [run, hn]; exact hx⟩
      | ret => exact ⟨n, by simp only [run, hn]; exact hx⟩
  | cond y a b iha ihb =>
    intro e σ x hx
    simp only [run] at hx
    split at hx
    · rename_i t ht
      cases t
      · obtain ⟨n, hn⟩ := ihb _ _ _ hx
        exact ⟨n, by simp only [run, ht]; exact hn⟩
      · obtain ⟨n, hn⟩ := iha _ _ _ hx
        exact ⟨n, by simp only [run, ht]; exact hn⟩
    · cases hx
  | block id c ih =>
    intro e σ x hx
    simp only [run] at hx
    cases hc : run T (lim T) fl c e σ with
    | none => rw [hc] at hx; cases hx
    | some p =>
      obtain ⟨n, hn⟩ := ih _ _ _ hc
      exact ⟨n, by simp only [run, hn]; rw [hc] at hx; exact hx⟩
  | loop live c ih =>
    intro e σ x hx
    simp only [run] at hx
    exact lim_loop.1 hx

/-! ### The equations -/
theorem lim_loop_eq (fl : Nat) (live : List Nat) (c : SCode) (e : Env) (σ : St) : (lim T).loop fl live c e σ = round T (lim T) fl live c e σ := by
  apply Option.ext
  intro x
  constructor
  · intro h
    obtain ⟨n, hn⟩ := lim_loop.1 h
    cases n with
    | zero => cases hn
    | succ n => exact round_mono (upto_lim n) hn
  · intro h
    unfold round at h
    cases hc : run T (lim T) fl c (e.keep live) σ with
    | none => rw [hc] at h; cases h
    | some p =>
      rw [hc] at h
      obtain ⟨n, hn⟩ := run_cont _ _ _ _ hc
      obtain ⟨ex, e1, σ1⟩ := p
      cases ex with
      | normal =>
        obtain ⟨m, hm⟩ := lim_loop.1 h
        refine lim_loop.2 ⟨max n m + 1, ?_⟩
        show round T (upto T (max n m)) fl live c e σ = some x
        unfold round
        rw [run_mono (upto_le (Nat.le_max_left n m)) _ _ _ _ hn]
        exact (upto_le (Nat.le_max_right n m)).loop _ _ _ _ _ _ hm
      | exit id =>
        refine lim_loop.2 ⟨n + 1, ?_⟩
        show round T (upto T n) fl live c e σ = some x
        unfold round; rw [hn]; exact h
      | ret =>
        refine lim_loop.2 ⟨n + 1, ?_⟩
        show round T (upto T n) fl live c e σ = some x
        unfold round; rw [hn]; exact h
theorem lim_call_eq (f : Nat) (l : List AV) (σ : St) : (lim T).call f l σ = enter T (lim T) f l σ := by
  apply Option.ext
  intro x
  constructor
  · intro h
    obtain ⟨n, hn⟩ := lim_call.1 h
    cases n with
    | zero => cases hn
    | succ n => exact enter_mono (upto_lim n) hn
  · intro h
    unfold enter at h
    cases hE : T.ext f with
    | some g =>
      rw [hE] at h
      refine lim_call.2 ⟨1, ?_⟩
      show enter T (upto T 0) f l σ = some x
      unfold enter
      rw [hE]; exact h
    | none =>
    rw [hE] at h
    cases hF : T.fn f with
    | none => rw [hF] at h; cases h
    | some F =>
      rw [hF] at h
      simp only at h
      split at h
      · rename_i hl
        cases hc : run T (lim T) σ.boxes.length F.body (argEnv 0 l) σ with
        | none => rw [hc] at h; cases h
        | some p =>
          rw [hc] at h
          obtain ⟨n, hn⟩ := run_cont _ _ _ _ hc
          refine lim_call.2 ⟨n + 1, ?_⟩
          show enter T (upto T n) f l σ = some x
          unfold enter
          rw [hE, hF]
          simp only
          rw [if_pos hl, hn]
          exact h
      · cases h

end Go.Rb

namespace Go.Rb
set_option linter.unusedVariables false
set_option linter.unusedSimpArgs false

structure Ctx where
  cell : Addr → Value → Prop
  mu : Nat → Option Nat
  own : Nat → Nat → Value → Prop

structure Ctx.Le (R R' : Ctx) : Prop where
  cell : ∀ a x, R.cell a x → R'.cell a x
  mu : ∀ i b, R.mu i = some b → R'.mu i = some b
  own : ∀ r ver v, R.own r ver v → R'.own r ver v
theorem Ctx.Le.refl (R : Ctx) : R.Le R := ⟨fun _ _ h => h, fun _ _ h => h, fun _ _ _ h => h⟩
theorem Ctx.Le.trans {A B C : Ctx} (h : A.Le B) (k : B.Le C) : A.Le C := ⟨fun _ _ q => k.cell _ _ (h.cell _ _ q), fun _ _ q => k.mu _ _ (h.mu _ _ q), fun _ _ _ q => k.own _ _ _ (h.own _ _ _ q)⟩

def CellsAt (R : Ctx) (a : Addr) (vs : List Value) : Prop := ∀ j x, vs[j]? = some x → R.cell (a.add j) x
def OwnOk (R : Ctx) (o : Own) (v : Value) : Prop :=
  match o with
  | .no => True
  | .full => ∃ a n, v = .slice a n n
  | .row r ver => R.own r ver v

mutual
def Rep (R : Ctx) : AV → Value → Prop
  | .undef, _ => True
  | .int k n, v => v = .int k n
  | .bool b, v => v = .bool b
  | .str s, v => v = .string s
  | .agg cs, v => (∃ l : Array Value, v = .agg l ∧ RepL R cs l.toList) ∧ (∀ c ∈ cs, c.one = true)
  | .tup vs, v => ∃ l : Array Value, v = .tuple l ∧ RepL R vs l.toList
  | .sl o es, v => ∃ a c, v = .slice a es.length c ∧ es.length ≤ maxLen ∧ es.length ≤ c ∧ OwnOk R o v ∧ (∃ ad sz, (es ≠ [] → a = some ad) ∧ RepEls R ad sz 0 es)
  | .box id off, v => ∃ b, R.mu id = some b ∧ v = .pointer (some ⟨b, off, none⟩)
  | .el u, v => ∃ a V, v = .pointer (some a) ∧ u.okv = true ∧ Rep R u V ∧ CellsAt R a V.cells.toList
  | .fn f x y, v => ∃ A B : Array Value, v = .func f A B ∧ RepL R x A.toList ∧ RepL R y B.toList
  | .nilfn, v => v = .nilFunc
  | .nilp, v => v = .pointer none
  | .nilm, v => v = .map none
  | .skp, v => v = Go.undef
  | .bsl id off n sz a, v => ∃ b c, R.mu id = some b ∧ v = .slice (some ⟨b, off, none⟩) n c ∧ n ≤ maxLen ∧ n ≤ c
def RepL (R : Ctx) : List AV → List Value → Prop
  | [], l => l = []
  | x :: xs, l => ∃ v vs, l = v :: vs ∧ Rep R x v ∧ RepL R xs vs
def RepEls (R : Ctx) (ad : Addr) (sz : Nat) : Nat → List AV → Prop
  | _, [] => True
  | i, x :: xs => (x.okv = true ∧ ∃ V, Rep R x V ∧ V.cells.size = sz ∧ CellsAt R (ad.add (i * sz)) V.cells.toList) ∧ RepEls R ad sz (i + 1) xs
end

theorem CellsAt.mono {R R' : Ctx} (h : ∀ a x, R.cell a x → R'.cell a x) {a : Addr} {vs : List Value} (hc : CellsAt R a vs) : CellsAt R' a vs := fun j x hj => h _ _ (hc j x hj)
theorem OwnOk.mono {R R' : Ctx} (h : ∀ r ver v, R.own r ver v → R'.own r ver v) {o : Own} {v : Value} (hc : OwnOk R o v) : OwnOk R' o v := by
  cases o
  · exact hc
  · exact hc
  · exact h _ _ _ hc

mutual
theorem Rep.mono {R R' : Ctx} (h : R.Le R') : ∀ (x : AV) (v : Value), Rep R x v → Rep R' x v
  | .undef, _, _ => by simp only [Rep]
  | .int k n, v, q => by simpa only [Rep] using q
  | .bool b, v, q => by simpa only [Rep] using q
  | .str s, v, q => by simpa only [Rep] using q
  | .agg cs, v, q => by
    simp only [Rep] at q ⊢
    obtain ⟨⟨l, e, hl⟩, h1⟩ := q
    exact ⟨⟨l, e, RepL.mono h cs _ hl⟩, h1⟩
  | .tup vs, v, q => by
    simp only [Rep] at q ⊢
    obtain ⟨l, e, hl⟩ := q
    exact ⟨l, e, RepL.mono h vs _ hl⟩
  | .sl o es, v, q => by
    simp only [Rep] at q ⊢
    obtain ⟨a, c, e, h1, h2, h3, ad, sz, h4, h5⟩ := q
    exact ⟨a, c, e, h1, h2, h3.mono h.own, ad, sz, h4, RepEls.mono h ad sz es 0 h5⟩
  | .box id off, v, q => by
    simp only [Rep] at q ⊢
    obtain ⟨b, hb, e⟩ := q
    exact ⟨b, h.mu _ _ hb, e⟩
  | .el u, v, q => by
    simp only [Rep] at q ⊢
    obtain ⟨a, V, e, h1, h2, h3⟩ := q
    exact ⟨a, V, e, h1, Rep.mono h u V h2, h3.mono h.cell⟩
  | .fn f x y, v, q => by
    simp only [Rep] at q ⊢
    obtain ⟨A, B, e, h1, h2⟩ := q
    exact ⟨A, B, e, RepL.mono h x _ h1, RepL.mono h y _ h2⟩
  | .nilfn, v, q => by simpa only [Rep] using q
  | .nilp, v, q => by simpa only [Rep] using q
  | .nilm, v, q => by simpa only [Rep] using q
  | .skp, v, q => by simpa only [Rep] using q
  | .bsl id off n sz a, v, q => by
    simp only [Rep] at q ⊢
    obtain ⟨b, c, hb, q⟩ := q
    exact ⟨b, c, h.mu _ _ hb, q⟩
theorem RepL.mono {R R' : Ctx} (h : R.Le R') : ∀ (l : List AV) (vs : List Value), RepL R l vs → RepL R' l vs
  | [], vs, q => by simpa only [RepL] using q
  | x :: xs, vs, q => by
    simp only [RepL] at q ⊢
    obtain ⟨v, us, e, h1, h2⟩ := q
    exact ⟨v, us, e, Rep.mono h x v h1, RepL.mono h xs us h2⟩
theorem RepEls.mono {R R' : Ctx} (h : R.Le R') (ad : Addr) (sz : Nat) : ∀ (l : List AV) (i : Nat), RepEls R ad sz i l → RepEls R' ad sz i l
  | [], i, q => by simp only [RepEls]
  | x :: xs, i, q => by
    simp only [RepEls] at q ⊢
    obtain ⟨⟨h1, V, h2, h3, h4⟩, h5⟩ := q
    exact ⟨⟨h1, V, Rep.mono h x V h2, h3, h4.mono h.cell⟩, RepEls.mono h ad sz xs (i + 1) h5⟩
end

/-- A closed value, its owners struck: its cells are all that it needs. -/
structure Ctx.LeC (R R' : Ctx) : Prop where
  cell : ∀ a x, R.cell a x → R'.cell a x
theorem OwnOk.no {R : Ctx} {v : Value} : OwnOk R .no v := trivial
mutual
theorem one_strip : ∀ (x : AV), x.strip.one = x.one
  | .undef => rfl
  | .int _ _ => rfl
  | .bool _ => rfl
  | .str _ => rfl
  | .agg _ => rfl
  | .tup _ => rfl
  | .sl _ _ => rfl
  | .box _ _ => rfl
  | .el _ => rfl
  | .fn _ _ _ => rfl
  | .nilfn => rfl
  | .nilp => rfl
  | .nilm => rfl
  | .skp => rfl
  | .bsl .. => rfl
end
theorem okv_strip (x : AV) : x.strip.okv = x.okv := by cases x <;> rfl
theorem stripL_map : ∀ (l : List AV), AV.stripL l = l.map AV.strip
  | [] => rfl
  | x :: xs => by simp [AV.stripL, stripL_map xs]
theorem closedL_all : ∀ (l : List AV), AV.closedL l = l.all AV.closed
  | [] => rfl
  | x :: xs => by simp [AV.closedL, closedL_all xs]

mutual
theorem Rep.strip {R R' : Ctx} (h : R.LeC R') : ∀ (x : AV) (v : Value), x.closed = true → Rep R x v → Rep R' x.strip v
  | .undef, _, _, _ => by simp only [AV.strip, Rep]
  | .int k n, v, _, q => by simpa only [AV.strip, Rep] using q
  | .bool b, v, _, q => by simpa only [AV.strip, Rep] using q
  | .str s, v, _, q => by simpa only [AV.strip, Rep] using q
  | .agg cs, v, hc, q => by
    simp only [AV.strip, Rep] at q ⊢
    obtain ⟨⟨l, e, hl⟩, h1⟩ := q
    refine ⟨⟨l, e, RepL.strip h cs _ (by simpa [AV.closed] using hc) hl⟩, ?_⟩
    intro c hm
    rw [stripL_map] at hm
    obtain ⟨d, hd, rfl⟩ := List.mem_map.1 hm
    rw [one_strip]; exact h1 d hd
  | .tup vs, v, hc, q => by
    simp only [AV.strip, Rep] at q ⊢
    obtain ⟨l, e, hl⟩ := q
    exact ⟨l, e, RepL.strip h vs _ (by simpa [AV.closed] using hc) hl⟩
  | .sl o es, v, hc, q => by
    simp only [AV.strip, Rep] at q ⊢
    obtain ⟨a, c, e, h1, h2, h3, ad, sz, h4, h5⟩ := q
    have hlen : (AV.stripL es).length = es.length := by rw [stripL_map, List.length_map]
    refine ⟨a, c, by rw [hlen]; exact e, by rw [hlen]; exact h1, by rw [hlen]; exact h2, OwnOk.no, ad, sz, ?_, RepEls.strip h ad sz es 0 (by simpa [AV.closed] using hc) h5⟩
    intro hne
    refine h4 (fun e0 => hne ?_)
    subst e0; rfl
  | .box id off, v, hc, q => by simp [AV.closed] at hc
  | .el u, v, hc, q => by
    simp only [AV.strip, Rep] at q ⊢
    obtain ⟨a, V, e, h1, h2, h3⟩ := q
    exact ⟨a, V, e, by rw [okv_strip]; exact h1, Rep.strip h u V (by simpa [AV.closed] using hc) h2, h3.mono h.cell⟩
  | .fn f x y, v, hc, q => by
    simp only [AV.strip, Rep] at q ⊢
    obtain ⟨A, B, e, h1, h2⟩ := q
    simp [AV.closed] at hc
    exact ⟨A, B, e, RepL.strip h x _ hc.1 h1, RepL.strip h y _ hc.2 h2⟩
  | .nilfn, v, _, q => by simpa only [AV.strip, Rep] using q
  | .nilp, v, _, q => by simpa only [AV.strip, Rep] using q
  | .nilm, v, _, q => by simpa only [AV.strip, Rep] using q
  | .skp, v, _, q => by simpa only [AV.strip, Rep] using q
  | .bsl id off n sz a, v, hc, q => by simp [AV.closed] at hc
theorem RepL.strip {R R' : Ctx} (h : R.LeC R') : ∀ (l : List AV) (vs : List Value), AV.closedL l = true → RepL R l vs → RepL R' (AV.stripL l) vs
  | [], vs, _, q => by simpa only [AV.stripL, RepL] using q
  | x :: xs, vs, hc, q => by
    simp only [AV.stripL, RepL] at q ⊢
    simp [AV.closedL] at hc
    obtain ⟨v, us, e, h1, h2⟩ := q
    exact ⟨v, us, e, Rep.strip h x v hc.1 h1, RepL.strip h xs us hc.2 h2⟩
theorem RepEls.strip {R R' : Ctx} (h : R.LeC R') (ad : Addr) (sz : Nat) : ∀ (l : List AV) (i : Nat), AV.closedL l = true → RepEls R ad sz i l → RepEls R' ad sz i (AV.stripL l)
  | [], i, _, q => by simp only [AV.stripL, RepEls]
  | x :: xs, i, hc, q => by
    simp only [AV.stripL, RepEls] at q ⊢
    simp [AV.closedL] at hc
    obtain ⟨⟨h1, V, h2, h3, h4⟩, h5⟩ := q
    exact ⟨⟨by rw [okv_strip]; exact h1, V, Rep.strip h x V hc.1 h2, h3, h4.mono h.cell⟩, RepEls.strip h ad sz xs (i + 1) hc.2 h5⟩
end

/-! ### Lists -/
theorem RepL.length {R : Ctx} : ∀ {l : List AV} {vs : List Value}, RepL R l vs → vs.length = l.length
  | [], vs, h => by simp only [RepL] at h; subst h; rfl
  | x :: xs, vs, h => by
    simp only [RepL] at h
    obtain ⟨v, us, rfl, _, h2⟩ := h
    simp [RepL.length h2]
theorem RepL.get {R : Ctx} : ∀ {l : List AV} {vs : List Value} {i : Nat} {x : AV}, RepL R l vs → l[i]? = some x → ∃ v, vs[i]? = some v ∧ Rep R x v
  | [], vs, i, x, h, hx => by simp at hx
  | y :: ys, vs, 0, x, h, hx => by
    simp only [RepL] at h
    obtain ⟨v, us, rfl, h1, h2⟩ := h
    simp at hx; subst hx
    exact ⟨v, rfl, h1⟩
  | y :: ys, vs, i + 1, x, h, hx => by
    simp only [RepL] at h
    obtain ⟨v, us, rfl, h1, h2⟩ := h
    simp at hx
    obtain ⟨u, hu, hr⟩ := RepL.get h2 hx
    exact ⟨u, by simpa using hu, hr⟩
theorem RepL.of {R : Ctx} : ∀ {l : List AV} {vs : List Value}, vs.length = l.length → (∀ (i : Nat) (x : AV) (v : Value), l[i]? = some x → vs[i]? = some v → Rep R x v) → RepL R l vs
  | [], vs, hl, _ => by simp only [RepL]; exact List.eq_nil_of_length_eq_zero hl
  | x :: xs, [], hl, _ => by simp at hl
  | x :: xs, v :: vs, hl, h => by
    simp only [RepL]
    exact ⟨v, vs, rfl, h 0 x v rfl rfl, RepL.of (by simpa using hl) fun i y u hy hu => h (i + 1) y u (by simpa using hy) (by simpa using hu)⟩
theorem RepL.append {R : Ctx} : ∀ {l m : List AV} {vs us : List Value}, RepL R l vs → RepL R m us → RepL R (l ++ m) (vs ++ us)
  | [], m, vs, us, h, k => by simp only [RepL] at h; subst h; exact k
  | x :: xs, m, vs, us, h, k => by
    simp only [RepL] at h
    obtain ⟨v, ws, rfl, h1, h2⟩ := h
    simp only [List.cons_append, RepL]
    exact ⟨v, ws ++ us, rfl, h1, RepL.append h2 k⟩
theorem RepL.take {R : Ctx} {l : List AV} {vs : List Value} (h : RepL R l vs) (n : Nat) : RepL R (l.take n) (vs.take n) :=
  RepL.of (by simp [h.length]) fun i x v hx hv => by
    rw [List.getElem?_take] at hx hv
    split at hx
    · rename_i hi
      rw [if_pos hi] at hv
      obtain ⟨u, hu, hr⟩ := h.get hx
      rw [hu] at hv; cases hv; exact hr
    · cases hx
theorem RepL.drop {R : Ctx} {l : List AV} {vs : List Value} (h : RepL R l vs) (n : Nat) : RepL R (l.drop n) (vs.drop n) :=
  RepL.of (by simp [h.length]) fun i x v hx hv => by
    rw [List.getElem?_drop] at hx hv
    obtain ⟨u, hu, hr⟩ := h.get hx
    rw [hu] at hv; cases hv; exact hr
theorem RepL.map_ev {R : Ctx} {l : List AV} {vs : List Value} (h : vs.length = l.length) (hr : ∀ i (h1 : i < l.length) (h2 : i < vs.length), Rep R l[i] vs[i]) : RepL R l vs :=
  RepL.of h fun i x v hx hv => by
    obtain ⟨h1, rfl⟩ := List.getElem?_eq_some_iff.1 hx
    obtain ⟨h2, rfl⟩ := List.getElem?_eq_some_iff.1 hv
    exact hr i h1 h2

/-! ### Cells -/
theorem Rep.cells {R : Ctx} {x : AV} {v : Value} (h : Rep R x v) (ho : x.okv = true) : RepL R x.cells v.cells.toList ∧ ∀ c ∈ x.cells, c.one = true := by
  cases x <;> simp only [Rep] at h <;> simp only [AV.okv] at ho <;> simp only [AV.cells]
  case undef => cases ho
  case skp => cases ho
  case bsl => cases ho
  case tup => cases ho
  case agg cs =>
    obtain ⟨⟨l, rfl, hl⟩, h1⟩ := h
    exact ⟨hl, h1⟩
  case int => subst h; refine ⟨?_, by simp [AV.one]⟩; simp [RepL, Value.cells, Rep]
  case bool => subst h; refine ⟨?_, by simp [AV.one]⟩; simp [RepL, Value.cells, Rep]
  case str => subst h; refine ⟨?_, by simp [AV.one]⟩; simp [RepL, Value.cells, Rep]
  case nilfn => subst h; refine ⟨?_, by simp [AV.one]⟩; simp [RepL, Value.cells, Rep]
  case nilp => subst h; refine ⟨?_, by simp [AV.one]⟩; simp [RepL, Value.cells, Rep]
  case nilm => subst h; refine ⟨?_, by simp [AV.one]⟩; simp [RepL, Value.cells, Rep]
  case sl o es =>
    have h' := h
    obtain ⟨a, c, e, _⟩ := h
    refine ⟨?_, by simp [AV.one]⟩
    subst e
    refine ⟨_, [], rfl, ?_, by simp only [RepL]⟩
    simpa only [Rep] using h'
  case box id off =>
    have h' := h
    obtain ⟨b, _, e⟩ := h
    refine ⟨?_, by simp [AV.one]⟩
    subst e
    refine ⟨_, [], rfl, ?_, by simp only [RepL]⟩
    simpa only [Rep] using h'
  case el u =>
    have h' := h
    obtain ⟨a, V, e, _⟩ := h
    refine ⟨?_, by simp [AV.one]⟩
    subst e
    refine ⟨_, [], rfl, ?_, by simp only [RepL]⟩
    simpa only [Rep] using h'
  case fn f a b =>
    have h' := h
    obtain ⟨A, B, e, _⟩ := h
    refine ⟨?_, by simp [AV.one]⟩
    subst e
    refine ⟨_, [], rfl, ?_, by simp only [RepL]⟩
    simpa only [Rep] using h'
theorem Rep.size {R : Ctx} {x : AV} {v : Value} (h : Rep R x v) (ho : x.okv = true) : v.cells.size = x.cells.length := by
  have := (h.cells ho).1.length
  simpa using this
theorem okv_of_one {x : AV} (h : x.one = true) : x.okv = true := by cases x <;> simp_all [AV.one, AV.okv]
theorem cells_of_one {x : AV} (h : x.one = true) : x.cells = [x] := by cases x <;> simp_all [AV.one, AV.cells]
theorem Rep.oneCell {R : Ctx} {x : AV} {v : Value} (h : Rep R x v) (ho : x.one = true) : v.cells = #[v] ∧ v.oneCell' = true := by
  cases x <;> simp only [Rep] at h <;> simp only [AV.one] at ho
  case undef => cases ho
  case skp => cases ho
  case bsl => cases ho
  case tup => cases ho
  case agg => cases ho
  case int => subst h; exact ⟨rfl, rfl⟩
  case bool => subst h; exact ⟨rfl, rfl⟩
  case str => subst h; exact ⟨rfl, rfl⟩
  case nilfn => subst h; exact ⟨rfl, rfl⟩
  case nilp => subst h; exact ⟨rfl, rfl⟩
  case nilm => subst h; exact ⟨rfl, rfl⟩
  case sl o es => obtain ⟨a, c, rfl, _⟩ := h; exact ⟨rfl, rfl⟩
  case box id off => obtain ⟨b, _, rfl⟩ := h; exact ⟨rfl, rfl⟩
  case el u => obtain ⟨a, V, rfl, _⟩ := h; exact ⟨rfl, rfl⟩
  case fn f a b => obtain ⟨A, B, rfl, _⟩ := h; exact ⟨rfl, rfl⟩
/-- a part of a value -/
theorem Rep.mk {R : Ctx} {a : Bool} {l : List AV} {x : AV} {vs : List Value} (hm : AV.mk a l = some x) (h1 : ∀ c ∈ l, c.one = true) (h : RepL R l vs) :
    Rep R x (if a then .agg vs.toArray else vs.headD undef) ∧ x.okv = true ∧ x.cells = l ∧ (if a then Value.agg vs.toArray else vs.headD undef).cells.toList = vs := by
  cases a
  · cases l with
    | nil => simp [AV.mk] at hm
    | cons y ys =>
      cases ys with
      | cons z zs => simp [AV.mk] at hm
      | nil =>
        simp [AV.mk] at hm
        subst hm
        simp only [RepL] at h
        obtain ⟨v, us, rfl, hr, rfl⟩ := h
        have ho := h1 y (by simp)
        refine ⟨by simpa using hr, okv_of_one ho, cells_of_one ho, ?_⟩
        simp [(hr.oneCell ho).1]
  · simp [AV.mk] at hm
    subst hm
    refine ⟨?_, rfl, rfl, by simp [Value.cells]⟩
    simp only [Rep, if_true]
    exact ⟨⟨_, rfl, by simpa using h⟩, h1⟩
theorem RepEls.get {R : Ctx} {ad : Addr} {sz : Nat} : ∀ {l : List AV} {i k : Nat} {x : AV}, RepEls R ad sz i l → l[k]? = some x → x.okv = true ∧ ∃ V, Rep R x V ∧ V.cells.size = sz ∧ CellsAt R (ad.add ((i + k) * sz)) V.cells.toList
  | [], i, k, x, h, hx => by simp at hx
  | y :: ys, i, 0, x, h, hx => by
    simp only [RepEls] at h
    simp at hx; subst hx
    exact h.1
  | y :: ys, i, k + 1, x, h, hx => by
    simp only [RepEls] at h
    simp at hx
    have := RepEls.get h.2 hx
    rwa [show i + 1 + k = i + (k + 1) from by omega] at this
theorem RepEls.of {R : Ctx} {ad : Addr} {sz : Nat} : ∀ {l : List AV} {i : Nat}, (∀ (k : Nat) (x : AV), l[k]? = some x → x.okv = true ∧ ∃ V, Rep R x V ∧ V.cells.size = sz ∧ CellsAt R (ad.add ((i + k) * sz)) V.cells.toList) → RepEls R ad sz i l
  | [], i, _ => by simp only [RepEls]
  | y :: ys, i, h => by
    simp only [RepEls]
    refine ⟨by simpa using h 0 y rfl, RepEls.of fun k x hx => ?_⟩
    have := h (k + 1) x (by simpa using hx)
    rwa [show i + (k + 1) = i + 1 + k from by omega] at this
end Go.Rb

namespace Go.Rb
set_option linter.unusedVariables false
set_option linter.unusedSimpArgs false

abbrev Mu := Nat → Option Nat
/-- of each growable slice: its block, how many cells of it are used, its value -/
abbrev Nu := Nat → Option (Nat × Nat × Value)

def ctx (Z : Addr → Prop) (w : World) (μ : Mu) (ν : Nu) (rows : List Row) : Ctx where
  cell a x := w.cell? a = some x ∧ (∀ i, μ i ≠ some a.block) ∧ (∀ r u v, ν r = some (a.block, u, v) → a.off < u) ∧ Z a
  mu := μ
  own r ver v := ∃ cur, rows[r]? = some cur ∧ ver ≤ cur.ver ∧ (cur.ver = ver → ∃ b u, ν r = some (b, u, v))

structure Sim (Z : Addr → Prop) (w : World) (μ : Mu) (ν : Nu) (σ : St) : Prop where
  inj : ∀ i j b, μ i = some b → μ j = some b → i = j
  box : ∀ i b, μ i = some b → ∃ c arr t, σ.boxes[i]? = some c ∧ (∀ x ∈ c.cells, x.one = true) ∧ c.okv = true ∧ w.heap[b]? = some (.cells arr t (0, 0)) ∧ RepL (ctx Z w μ ν σ.rows) c.cells arr.toList
  row : ∀ r b u v, ν r = some (b, u, v) → ∃ cur n xs, σ.rows[r]? = some cur ∧ v.ownBlock = some b ∧ w.ownsRow 0 cur.e cur.size v n xs ∧ u = n * cur.size
  rinj : ∀ r s b u v u' v', ν r = some (b, u, v) → ν s = some (b, u', v') → r = s
  disj : ∀ i b r u v, μ i = some b → ν r ≠ some (b, u, v)
  fresh : ∀ a : Addr, w.heap.size ≤ a.block → Z a
  rowZ : ∀ r b u v, ν r = some (b, u, v) → ∀ off, Z ⟨b, off, none⟩

variable {Z : Addr → Prop}
theorem Sim.lt {w : World} {μ : Mu} {ν : Nu} {σ : St} (h : Sim Z w μ ν σ) {i b : Nat} (hi : μ i = some b) : b < w.heap.size := by
  obtain ⟨c, arr, t, _, _, _, hh, _⟩ := h.box i b hi
  exact (Array.getElem?_eq_some_iff.1 hh).1
theorem Sim.dom {w : World} {μ : Mu} {ν : Nu} {σ : St} (h : Sim Z w μ ν σ) {i b : Nat} (hi : μ i = some b) : i < σ.boxes.length := by
  obtain ⟨c, arr, t, hb, _⟩ := h.box i b hi
  exact (List.getElem?_eq_some_iff.1 hb).1
theorem own_block_lt {w : World} {e size n b : Nat} {v : Value} {xs : List Value} (h : w.ownsRow 0 e size v n xs) (hb : v.ownBlock = some b) : b < w.heap.size := by
  rcases h.2 with ⟨rfl, _⟩ | ⟨g, cap, cur, rfl, _, hh, _⟩
  · simp [Value.ownBlock] at hb
  · simp [Value.ownBlock] at hb
    subst hb
    exact (Array.getElem?_eq_some_iff.1 hh).1
theorem Sim.rlt {w : World} {μ : Mu} {ν : Nu} {σ : St} (h : Sim Z w μ ν σ) {r b u : Nat} {v : Value} (hr : ν r = some (b, u, v)) : b < w.heap.size := by
  obtain ⟨cur, n, xs, _, hb, ho, _⟩ := h.row r b u v hr
  exact own_block_lt ho hb

theorem cell_lt {w : World} {a : Addr} {x : Value} (h : w.cell? a = some x) : a.block < w.heap.size ∧ a.spot = none := by
  unfold World.cell? at h
  split at h
  · rename_i c e f hh
    refine ⟨(Array.getElem?_eq_some_iff.1 hh).1, ?_⟩
    split at h
    · cases h
    · rename_i hs; simpa using hs
  · cases h

/-- what a step leaves alone -/
structure Keep (w : World) (μ : Mu) (ν : Nu) (w' : World) : Prop where
  os : w'.os = w.os
  tape : w'.tape = w.tape
  output : w'.output = w.output
  size : w.heap.size ≤ w'.heap.size
  blocks : ∀ b, b < w.heap.size → (∀ i, μ i ≠ some b) → (∀ r u v, ν r ≠ some (b, u, v)) → w'.heap[b]? = w.heap[b]?
  rows : ∀ r b u v, ν r = some (b, u, v) → ∀ off, off < u → w'.cell? ⟨b, off, none⟩ = w.cell? ⟨b, off, none⟩

/-- a step: n boxes there were -/
structure Grow (n : Nat) (w : World) (μ : Mu) (ν : Nu) (R : List Row) (w' : World) (μ' : Mu) (ν' : Nu) (R' : List Row) : Prop extends Keep w μ ν w' where
  mu : ∀ i b, μ i = some b → μ' i = some b
  mun : ∀ i b, μ' i = some b → μ i = some b ∨ (n ≤ i ∧ w.heap.size ≤ b)
  nun : ∀ r b u v, ν' r = some (b, u, v) → w.heap.size ≤ b ∨ ∃ u0 v0, ν r = some (b, u0, v0) ∧ u0 ≤ u
  vers : ∀ r cur, R[r]? = some cur → ∃ cur', R'[r]? = some cur' ∧ cur'.e = cur.e ∧ cur'.size = cur.size ∧ cur.ver ≤ cur'.ver ∧ (cur'.ver = cur.ver → ν' r = ν r)

theorem Keep.refl (w : World) (μ : Mu) (ν : Nu) : Keep w μ ν w := ⟨rfl, rfl, rfl, Nat.le_refl _, fun _ _ _ _ => rfl, fun _ _ _ _ _ _ _ => rfl⟩
theorem Grow.refl (n : Nat) (w : World) (μ : Mu) (ν : Nu) (rows : List Row) : Grow n w μ ν rows w μ ν rows :=
  { Keep.refl w μ ν with mu := fun _ _ h => h, mun := fun _ _ h => .inl h, nun := fun r b u v h => .inr ⟨u, v, h, Nat.le_refl _⟩, vers := fun r cur h => ⟨cur, h, rfl, rfl, Nat.le_refl _, fun _ => rfl⟩ }

theorem Grow.cell {n : Nat} {w w' : World} {μ μ' : Mu} {ν ν' : Nu} {rows rows' : List Row} (h : Grow n w μ ν rows w' μ' ν' rows') (a : Addr) (x : Value)
    (hc : (ctx Z w μ ν rows).cell a x) : (ctx Z w' μ' ν' rows').cell a x := by
  obtain ⟨h1, h2, h3, h4⟩ := hc
  obtain ⟨hlt, hs⟩ := cell_lt h1
  refine ⟨?_, ?_, ?_, h4⟩
  · by_cases hr : ∃ r u v, ν r = some (a.block, u, v)
    · obtain ⟨r, u, v, hr⟩ := hr
      have := h.rows r _ u v hr a.off (h3 r u v hr)
      have ha : a = ⟨a.block, a.off, none⟩ := by cases a; simp at hs; subst hs; rfl
      rw [ha, this, ← ha]; exact h1
    · have hb := h.blocks a.block hlt h2 (fun r u v e => hr ⟨r, u, v, e⟩)
      rw [World.cell?_of_block hb]; exact h1
  · intro i hi
    rcases h.mun i _ hi with q | ⟨_, q⟩
    · exact h2 i q
    · omega
  · intro r u v hr
    rcases h.nun r _ u v hr with q | ⟨u0, v0, q, hu⟩
    · omega
    · have := h3 r u0 v0 q; omega
theorem Grow.le {n : Nat} {w w' : World} {μ μ' : Mu} {ν ν' : Nu} {rows rows' : List Row} (h : Grow n w μ ν rows w' μ' ν' rows') : (ctx Z w μ ν rows).Le (ctx Z w' μ' ν' rows') where
  cell := h.cell
  mu := h.mu
  own := by
    rintro r ver v ⟨cur, hc, hle, he⟩
    obtain ⟨cur', hc', _, _, hle', hn⟩ := h.vers r cur hc
    refine ⟨cur', hc', by omega, ?_⟩
    intro e
    have e1 : cur'.ver = cur.ver := by omega
    have e2 : cur.ver = ver := by omega
    obtain ⟨b, u, hν⟩ := he e2
    exact ⟨b, u, (hn e1).trans hν⟩
theorem Grow.trans {n n1 : Nat} {w w1 w2 : World} {μ μ1 μ2 : Mu} {ν ν1 ν2 : Nu} {rows rows1 rows2 : List Row} (h : Grow n w μ ν rows w1 μ1 ν1 rows1) (k : Grow n1 w1 μ1 ν1 rows1 w2 μ2 ν2 rows2) (hn : n ≤ n1)
    {σ : St} (S : Sim Z w μ ν σ) : Grow n w μ ν rows w2 μ2 ν2 rows2 where
  os := k.os.trans h.os
  tape := k.tape.trans h.tape
  output := k.output.trans h.output
  size := Nat.le_trans h.size k.size
  blocks := fun b hb h1 h2 => by
    refine (k.blocks b (Nat.lt_of_lt_of_le hb h.size) ?_ ?_).trans (h.blocks b hb h1 h2)
    · intro i hi
      rcases h.mun i b hi with q | ⟨_, q⟩
      · exact h1 i q
      · omega
    · intro r u v hr
      rcases h.nun r b u v hr with q | ⟨u0, v0, q, _⟩
      · omega
      · exact h2 r u0 v0 q
  rows := fun r b u v hr off ho => by
    refine Eq.trans ?_ (h.rows r b u v hr off ho)
    have hb := S.rlt hr
    by_cases hs : ∃ s u' v', ν1 s = some (b, u', v')
    · obtain ⟨s, u', v', hs⟩ := hs
      refine k.rows s b u' v' hs off ?_
      rcases h.nun s b u' v' hs with q | ⟨u0, v0, q, hu⟩
      · omega
      · have he : s = r := S.rinj s r b u0 v0 u v q hr
        subst he
        rw [hr] at q
        injection q with q; injection q with _ q; injection q with q _
        omega
    · refine World.cell?_of_block (k.blocks b (Nat.lt_of_lt_of_le hb h.size) ?_ fun s u' v' e => hs ⟨s, u', v', e⟩)
      intro i hi
      rcases h.mun i b hi with q | ⟨_, q⟩
      · exact S.disj i b r u v q hr
      · omega
  mu := fun i b hi => k.mu i b (h.mu i b hi)
  mun := fun i b hi => by
    rcases k.mun i b hi with q | ⟨q1, q2⟩
    · exact h.mun i b q
    · exact .inr ⟨by omega, Nat.le_trans h.size q2⟩
  nun := fun r b u v hr => by
    rcases k.nun r b u v hr with q | ⟨u0, v0, q, hu⟩
    · exact .inl (Nat.le_trans h.size q)
    · rcases h.nun r b u0 v0 q with p | ⟨u1, v1, p, hu1⟩
      · exact .inl p
      · exact .inr ⟨u1, v1, p, by omega⟩
  vers := fun r cur hc => by
    obtain ⟨c1, h1, a1, b1, l1, e1⟩ := h.vers r cur hc
    obtain ⟨c2, h2, a2, b2, l2, e2⟩ := k.vers r c1 h1
    exact ⟨c2, h2, by rw [a2, a1], by rw [b2, b1], by omega, fun e => by rw [e2 (by omega), e1 (by omega)]⟩
end Go.Rb

/- What comes in, as the engine sees it. The table of all, and what it makes of closed values. The table is sound: what it answers, the program answers. Plans as plain data: their form, their trees. The law of plans that may be merged, or looked up: by plain data. The statement on plans the other way round: the walk. -/
import Derived.Test.YtbdaiimljcjmpaaGreatBT16
import Derived.Test.YtbdaiimljcjmpaaGreatBT03
import Derived.Test.YtbdaiimljcjmpaaGreatBT15
import Derived.ChangeArms
import Derived.OpenShut
import Derived.DataReads
import Derived.KernelRfl
import Derived.Test.YtbdaiimljcjmpaaGreatProg
namespace Go.Rb
set_option linter.unusedVariables false
set_option linter.unusedSimpArgs false
open Go.Proofs

abbrev Z1 : Addr → Prop := fun _ => True
abbrev C0 (w : World) : Ctx := ctx Z1 w noMu noNu []
theorem c0_cell {w : World} {a : Addr} {x : Value} (h : w.cell? a = some x) : (C0 w).cell a x :=
  ⟨h, fun i hi => by simp [noMu] at hi, fun r u v hr => by simp [noNu] at hr, trivial⟩
theorem exists_list {α : Type} {P : Nat → α → Prop} : ∀ (n : Nat), (∀ i, i < n → ∃ a, P i a) → ∃ l : List α, l.length = n ∧ ∀ i a, l[i]? = some a → P i a
  | 0, _ => ⟨[], rfl, by simp⟩
  | n + 1, h => by
    obtain ⟨l, h1, h2⟩ := exists_list n fun i hi => h i (by omega)
    obtain ⟨a, ha⟩ := h n (by omega)
    refine ⟨l ++ [a], by simp [h1], ?_⟩
    intro i b hb
    by_cases hi : i < n
    · rw [List.getElem?_append_left (by omega)] at hb
      exact h2 i b hb
    · have hl := (List.getElem?_eq_some_iff.1 hb).1
      simp at hl
      have : i = n := by omega
      subst this
      rw [List.getElem?_append_right (by omega), h1] at hb
      simp at hb
      subst hb
      exact ha

section
variable {H : Type} {enc : TypeId × Value → H} {P : Program} {w : World} {spare : Nat → Bool} {held : Bool}
/-- an element that was read -/
def Seen (w : World) (v : AV) (cs : List Value) : Prop := v.okv = true ∧ ∃ V : Value, V.cells.toList = cs ∧ Rep (C0 w) v V
theorem open_slice {α : Type} {e t : TypeId} (ht : P.underlying t = some (.slice e)) (encA : α → AV) (F : α → Prop) {fuel : Nat}
    (HH : ∀ m, m < fuel → ∀ cs x, DataW.trod enc P w 0 spare held m e cs = some x → ∃ a : α, F a ∧ Seen w (encA a) cs) {cs : List Value} {x : DataW H × List MemPlace} (h : DataW.trod enc P w 0 spare held fuel t cs = some x) :
    ∃ (l : List α) (v : Value), (∀ a ∈ l, F a) ∧ l.length ≤ maxLen ∧ cs = [v] ∧ Rep (C0 w) (.sl .no (l.map encA)) v := by
  rcases DataW.trod_slice ht h with ⟨rfl, _⟩ | ⟨a, len, cap, elems, rest, n, rfl, rfl, _, hb, hl, hm, hlen, hel, _, _⟩
  · refine ⟨[], _, by simp, by simp, rfl, ?_⟩
    simp only [List.map_nil, Rep]
    exact ⟨none, 0, rfl, by simp, by simp, trivial, ⟨0, 0, none⟩, 0, by simp, by simp [RepEls]⟩
  · obtain ⟨l, h1, h2⟩ := exists_list (P := fun i (b : α) => F b ∧ ∃ cs, w.cells? 0 (a.add (i * P.cellsOf e)) (P.cellsOf e) = some cs ∧ Seen w (encA b) cs) len (by
      intro i hi
      have := hel i hi
      rw [List.getElem?_eq_getElem (by omega), Option.bind_eq_some_iff] at this
      obtain ⟨cs, q1, q2⟩ := this
      obtain ⟨b, f1, f2⟩ := HH n (by omega) cs _ q2
      exact ⟨b, f1, cs, q1, f2⟩)
    refine ⟨l, _, ?_, by omega, rfl, ?_⟩
    · intro b hb
      obtain ⟨i, hi⟩ := List.getElem?_of_mem hb
      exact (h2 i b hi).1
    · simp only [Rep, List.length_map, h1]
      refine ⟨some a, cap, rfl, by omega, hl, trivial, a, P.cellsOf e, fun _ => rfl, RepEls.of ?_⟩
      intro k y hy
      rw [List.getElem?_map] at hy
      obtain ⟨b, hb, rfl⟩ := Option.map_eq_some_iff.1 hy
      obtain ⟨_, cs, hcs, hok, V, hV, hr⟩ := h2 k b hb
      obtain ⟨_, c1, c2⟩ := World.cells?_some hcs
      refine ⟨hok, V, hr, ?_, ?_⟩
      · rw [← Array.length_toList, hV, c1]
      · rw [Nat.zero_add, hV]
        intro j z hz
        refine c0_cell ?_
        have hj := (List.getElem?_eq_some_iff.1 hz).1
        rw [c2 j (by omega)]; exact hz
theorem seen_int {k : IntKind} {t : TypeId} (ht : P.underlying t = some (.int k)) {fuel : Nat} {cs : List Value} {x : DataW H × List MemPlace} (h : DataW.trod enc P w 0 spare held fuel t cs = some x) : ∃ n : Int, cs = [.int k n] := by
  obtain ⟨n, rfl, _⟩ := DataW.trod_int ht h
  exact ⟨n, rfl⟩
theorem seen_intV (n : Int) : Seen w (mkI n) [.int .i64 n] := ⟨rfl, .int .i64 n, rfl, by simp [Rep]⟩
theorem rep_int (n : Int) : Rep (C0 w) (mkI n) (.int .i64 n) := by simp [Rep]
end
theorem len1 {α : Type} {l : List α} (h : l.length = 1) : ∃ a, l = [a] := by
  match l, h with
  | [a], _ => exact ⟨a, rfl⟩
theorem len2 {α : Type} {l : List α} (h : l.length = 2) : ∃ a b, l = [a, b] := by
  match l, h with
  | [a, b], _ => exact ⟨a, b, rfl⟩
theorem len5 {α : Type} {l : List α} (h : l.length = 5) : ∃ a b c d e, l = [a, b, c, d, e] := by
  match l, h with
  | [a, b, c, d, e], _ => exact ⟨a, b, c, d, e, rfl⟩
theorem len6 {α : Type} {l : List α} (h : l.length = 6) : ∃ a b c d e f, l = [a, b, c, d, e, f] := by
  match l, h with
  | [a, b, c, d, e, f], _ => exact ⟨a, b, c, d, e, f, rfl⟩
theorem repL2 {R : Ctx} {a b : AV} {x y : Value} (h1 : Rep R a x) (h2 : Rep R b y) : RepL R [a, b] [x, y] := ⟨_, _, rfl, h1, _, _, rfl, h2, rfl⟩

theorem fld {H : Type} {enc : TypeId × Value → H} {P : Program} {w : World} {spare : Nat → Bool} {held : Bool} {fs : Array Field} {n : Nat} {cs : List Value} {xs : List (DataW H × List MemPlace)}
    (hf : ∀ (i : Nat) (f : Field), fs[i]? = some f → DataW.trod enc P w 0 spare held n f.type ((cs.drop f.offset).take (P.cellsOf f.type)) = xs[i]?) (i τ o k : Nat) (hg : (fs[i]?).map (fun f => (f.type, f.offset)) = some (τ, o)) (hk : P.cellsOf τ = k) (hi : i < xs.length) :
    ∃ y, DataW.trod enc P w 0 spare held n τ ((cs.drop o).take k) = some y := by
  obtain ⟨f, h1, h2⟩ := Option.map_eq_some_iff.1 hg
  have := hf i f h1
  injection h2 with h2 h3
  rw [h2, h3, hk, List.getElem?_eq_getElem hi] at this
  exact ⟨_, this⟩
theorem fldA {H : Type} {enc : TypeId × Value → H} {P : Program} {w : World} {spare : Nat → Bool} {held : Bool} {n m e : Nat} {cs : List Value} {xs : List (DataW H × List MemPlace)}
    (hf : ∀ (i : Nat), i < m → DataW.trod enc P w 0 spare held n e ((cs.drop (i * P.cellsOf e)).take (P.cellsOf e)) = xs[i]?) (i k : Nat) (hk : P.cellsOf e = k) (hi : i < m) (hx : i < xs.length) :
    ∃ y, DataW.trod enc P w 0 spare held n e ((cs.drop (i * k)).take k) = some y := by
  have := hf i hi
  rw [hk, List.getElem?_eq_getElem hx] at this
  exact ⟨_, this⟩
section
variable {H : Type} {enc : TypeId × Value → H} {w : World} {spare : Nat → Bool} {held : Bool}
noncomputable abbrev Trd (enc : TypeId × Value → H) (w : World) (spare : Nat → Bool) (held : Bool) := DataW.trod enc Tryz.prog w 0 spare held
theorem open_ints1 {fuel : Nat} {cs : List Value} {x : DataW H × List MemPlace} (h : Trd enc w spare held fuel 25 cs = some x) : ∃ (l : List Int) (v : Value), l.length ≤ maxLen ∧ cs = [v] ∧ Rep (C0 w) (sl l) v := by
  obtain ⟨l, v, _, h1, h2, h3⟩ := open_slice Tryz.underlying25 mkI (fun _ => True) (by
    intro m _ cs x hx
    obtain ⟨n, rfl⟩ := seen_int Tryz.underlying3 hx
    exact ⟨n, trivial, seen_intV n⟩) h
  exact ⟨l, v, h1, h2, h3⟩
theorem open_def {fuel : Nat} {cs : List Value} {x : DataW H × List MemPlace} (h : Trd enc w spare held fuel 86 cs = some x) : ∃ d : Def, Seen w (encD d) cs := by
  obtain ⟨xs, n, rfl, _, hl, hx, hf⟩ := DataW.trod_struct Tryz.underlying86 h
  have hc : Tryz.prog.cellsOf 86 = 2 := by kernel_rfl
  have h3 : Tryz.prog.cellsOf 3 = 1 := by kernel_rfl
  rw [hc] at hl
  obtain ⟨c0, c1, rfl⟩ := len2 hl
  obtain ⟨y0, f0⟩ := fld hf 0 3 0 1 rfl (by kernel_rfl) (by rw [hx]; decide)
  obtain ⟨y1, f1⟩ := fld hf 1 3 1 1 rfl (by kernel_rfl) (by rw [hx]; decide)
  obtain ⟨a, ha⟩ := seen_int Tryz.underlying3 f0
  obtain ⟨b, hb⟩ := seen_int Tryz.underlying3 f1
  simp at ha hb
  subst ha hb
  refine ⟨⟨a, b⟩, rfl, .agg #[.int .i64 a, .int .i64 b], rfl, ?_⟩
  simp only [encD, Rep]
  exact ⟨⟨_, rfl, repL2 (rep_int a) (rep_int b)⟩, by simp⟩
theorem open_cat {fuel : Nat} {cs : List Value} {x : DataW H × List MemPlace} (h : Trd enc w spare held fuel 24 cs = some x) : ∃ c : Cat, c.length ≤ maxLen ∧ Seen w (encC c) cs := by
  obtain ⟨xs, n, rfl, _, hl, hx, hf⟩ := DataW.trod_struct Tryz.underlying24 h
  have hc : Tryz.prog.cellsOf 24 = 1 := by kernel_rfl
  have h3 : Tryz.prog.cellsOf 22 = 1 := by kernel_rfl
  rw [hc] at hl
  obtain ⟨c0, rfl⟩ := len1 hl
  obtain ⟨y0, f0⟩ := fld hf 0 22 0 1 rfl (by kernel_rfl) (by rw [hx]; decide)
  obtain ⟨l, v, _, h1, h2, h3⟩ := open_slice Tryz.underlying22 encD (fun _ => True) (by
    intro m _ cs x hx
    obtain ⟨d, hd⟩ := open_def hx
    exact ⟨d, trivial, hd⟩) f0
  simp at h2
  subst h2
  refine ⟨l, h1, rfl, .agg #[c0], rfl, ?_⟩
  simp only [encC, Rep]
  exact ⟨⟨_, rfl, _, _, rfl, h3, rfl⟩, by simp⟩
theorem open_expr : ∀ (fuel : Nat) {cs : List Value} {x : DataW H × List MemPlace} (h : Trd enc w spare held fuel 90 cs = some x), ∃ e : Expr, e.Fit ∧ Seen w (encE e) cs := by
  intro fuel
  induction fuel using Nat.strongRecOn with
  | ind fuel ih =>
  intro cs x h
  obtain ⟨xs, n, rfl, _, hl, hx, hf⟩ := DataW.trod_struct Tryz.underlying90 h
  have hc : Tryz.prog.cellsOf 90 = 5 := by kernel_rfl
  have h3 : Tryz.prog.cellsOf 3 = 1 := by kernel_rfl
  have h26 : Tryz.prog.cellsOf 26 = 1 := by kernel_rfl
  have h88 : Tryz.prog.cellsOf 88 = 2 := by kernel_rfl
  rw [hc] at hl
  obtain ⟨c0, c1, c2, c3, c4, rfl⟩ := len5 hl
  obtain ⟨y0, f0⟩ := fld hf 0 3 0 1 rfl (by kernel_rfl) (by rw [hx]; decide)
  obtain ⟨y1, f1⟩ := fld hf 1 3 1 1 rfl (by kernel_rfl) (by rw [hx]; decide)
  obtain ⟨y2, f2⟩ := fld hf 2 88 2 2 rfl (by kernel_rfl) (by rw [hx]; decide)
  obtain ⟨y3, f3⟩ := fld hf 3 26 4 1 rfl (by kernel_rfl) (by rw [hx]; decide)
  obtain ⟨a, ha⟩ := seen_int Tryz.underlying3 f0
  obtain ⟨b, hb⟩ := seen_int Tryz.underlying3 f1
  obtain ⟨ys, n', rfl, _, _, hy, hg⟩ := DataW.trod_struct Tryz.underlying88 f2
  obtain ⟨z0, g0⟩ := fld hg 0 3 0 1 rfl (by kernel_rfl) (by rw [hy]; decide)
  obtain ⟨z1, g1⟩ := fld hg 1 3 1 1 rfl (by kernel_rfl) (by rw [hy]; decide)
  obtain ⟨k, hk⟩ := seen_int Tryz.underlying3 g0
  obtain ⟨m, hm⟩ := seen_int Tryz.underlying3 g1
  obtain ⟨l, v, q0, q1, q2, q3⟩ := open_slice Tryz.underlying26 encE Expr.Fit (by
    intro m hm cs x hx
    exact ih m (by omega) hx) f3
  simp at ha hb hk hm q2
  subst ha hb hk hm q2
  refine ⟨.mk a b k m l, ?_, by simp, .agg #[.int .i64 a, .int .i64 b, .int .i64 k, .int .i64 m, c4], rfl, ?_⟩
  · refine ⟨by unfold maxLen at q1; omega, ?_⟩
    clear q1 q3
    induction l with
    | nil => trivial
    | cons y ys ih2 => exact ⟨q0 y (by simp), ih2 fun a ha => q0 a (by simp [ha])⟩
  · simp only [encE, Rep, encEL_map]
    exact ⟨⟨_, rfl, _, _, rfl, rep_int a, _, _, rfl, rep_int b, _, _, rfl, rep_int k, _, _, rfl, rep_int m, _, _, rfl, q3, rfl⟩, by simp⟩
theorem open_query {fuel : Nat} {cs : List Value} {x : DataW H × List MemPlace} (h : Trd enc w spare held fuel 28 cs = some x) : ∃ q : Query, q.Fit ∧ Seen w (encQ q) cs := by
  obtain ⟨xs, n, rfl, _, hl, hx, hf⟩ := DataW.trod_struct Tryz.underlying28 h
  have hc : Tryz.prog.cellsOf 28 = 6 := by kernel_rfl
  have h3 : Tryz.prog.cellsOf 3 = 1 := by kernel_rfl
  have h25 : Tryz.prog.cellsOf 25 = 1 := by kernel_rfl
  have h26 : Tryz.prog.cellsOf 26 = 1 := by kernel_rfl
  rw [hc] at hl
  obtain ⟨c0, c1, c2, c3, c4, c5, rfl⟩ := len6 hl
  obtain ⟨y0, f0⟩ := fld hf 0 25 0 1 rfl (by kernel_rfl) (by rw [hx]; decide)
  obtain ⟨y1, f1⟩ := fld hf 1 26 1 1 rfl (by kernel_rfl) (by rw [hx]; decide)
  obtain ⟨y2, f2⟩ := fld hf 2 3 2 1 rfl (by kernel_rfl) (by rw [hx]; decide)
  obtain ⟨y3, f3⟩ := fld hf 3 25 3 1 rfl (by kernel_rfl) (by rw [hx]; decide)
  obtain ⟨y4, f4⟩ := fld hf 4 25 4 1 rfl (by kernel_rfl) (by rw [hx]; decide)
  obtain ⟨y5, f5⟩ := fld hf 5 3 5 1 rfl (by kernel_rfl) (by rw [hx]; decide)
  obtain ⟨l0, v0, a0, a1, a2⟩ := open_ints1 f0
  obtain ⟨l1, v1, b, b0, b1, b2⟩ := open_slice Tryz.underlying26 encE Expr.Fit (by
    intro m hm cs x hx
    exact open_expr m hx) f1
  obtain ⟨k, hk⟩ := seen_int Tryz.underlying3 f2
  obtain ⟨l3, v3, d0, d1, d2⟩ := open_ints1 f3
  obtain ⟨l4, v4, e0, e1, e2⟩ := open_ints1 f4
  obtain ⟨m, hm⟩ := seen_int Tryz.underlying3 f5
  simp at a1 b1 hk d1 e1 hm
  subst a1 b1 hk d1 e1 hm
  refine ⟨⟨l0, l1, k, l3, l4, m⟩, ?_, by simp [encQ], .agg #[c0, c1, .int .i64 k, c3, c4, .int .i64 m], rfl, ?_⟩
  · unfold maxLen at a0 b0 d0 e0
    exact ⟨by simp only []; omega, by simp only []; omega, by simp only []; omega, by simp only []; omega, b⟩
  · simp only [encQ, Rep, encEL_map]
    exact ⟨⟨_, rfl, _, _, rfl, a2, _, _, rfl, b2, _, _, rfl, rep_int k, _, _, rfl, d2, _, _, rfl, e2, _, _, rfl, rep_int m, rfl⟩, by simp [sl]⟩
theorem open_plan : ∀ (fuel : Nat) {cs : List Value} {x : DataW H × List MemPlace} (h : Trd enc w spare held fuel 32 cs = some x), ∃ e : Plan, e.Fit ∧ Seen w (encP e) cs := by
  intro fuel
  induction fuel using Nat.strongRecOn with
  | ind fuel ih =>
  intro cs x h
  obtain ⟨xs, n, rfl, _, hl, hx, hf⟩ := DataW.trod_struct Tryz.underlying32 h
  have hc : Tryz.prog.cellsOf 32 = 5 := by kernel_rfl
  have h3 : Tryz.prog.cellsOf 3 = 1 := by kernel_rfl
  have h30 : Tryz.prog.cellsOf 30 = 1 := by kernel_rfl
  have h29 : Tryz.prog.cellsOf 29 = 2 := by kernel_rfl
  rw [hc] at hl
  obtain ⟨c0, c1, c2, c3, c4, rfl⟩ := len5 hl
  obtain ⟨y0, f0⟩ := fld hf 0 3 0 1 rfl (by kernel_rfl) (by rw [hx]; decide)
  obtain ⟨y1, f1⟩ := fld hf 1 3 1 1 rfl (by kernel_rfl) (by rw [hx]; decide)
  obtain ⟨y2, f2⟩ := fld hf 2 29 2 2 rfl (by kernel_rfl) (by rw [hx]; decide)
  obtain ⟨y3, f3⟩ := fld hf 3 30 4 1 rfl (by kernel_rfl) (by rw [hx]; decide)
  obtain ⟨a, ha⟩ := seen_int Tryz.underlying3 f0
  obtain ⟨b, hb⟩ := seen_int Tryz.underlying3 f1
  obtain ⟨ys, n', rfl, _, _, hy, hg⟩ := DataW.trod_array Tryz.underlying29 f2
  obtain ⟨z0, g0⟩ := fldA hg 0 1 (by kernel_rfl) (by decide) (by omega)
  obtain ⟨z1, g1⟩ := fldA hg 1 1 (by kernel_rfl) (by decide) (by omega)
  obtain ⟨k, hk⟩ := seen_int Tryz.underlying3 g0
  obtain ⟨m, hm⟩ := seen_int Tryz.underlying3 g1
  obtain ⟨l, v, q0, q1, q2, q3⟩ := open_slice Tryz.underlying30 encP Plan.Fit (by
    intro m hm cs x hx
    exact ih m (by omega) hx) f3
  simp at ha hb hk hm q2
  subst ha hb hk hm q2
  refine ⟨.mk a b k m l, ?_, by simp, .agg #[.int .i64 a, .int .i64 b, .int .i64 k, .int .i64 m, c4], rfl, ?_⟩
  · refine ⟨by unfold maxLen at q1; omega, ?_⟩
    clear q1 q3
    induction l with
    | nil => trivial
    | cons y ys ih2 => exact ⟨q0 y (by simp), ih2 fun a ha => q0 a (by simp [ha])⟩
  · simp only [encP, Rep, encPL_map]
    exact ⟨⟨_, rfl, _, _, rfl, rep_int a, _, _, rfl, rep_int b, _, _, rfl, rep_int k, _, _, rfl, rep_int m, _, _, rfl, q3, rfl⟩, by simp⟩
end
end Go.Rb

namespace Go.Rb
set_option linter.unusedSimpArgs false
set_option linter.unusedVariables false
set_option maxRecDepth 100000

def extT (f : Nat) : Option (List AV → Option AV) :=
  if f = 150 then some x150 else if f = 152 then some x152 else if f = 190 then some x190 else if f = 114 then some x114 else none
def TAB : Tab := ⟨fun f => tabL.lookup f, fun f => impL.contains f, extT⟩
theorem tab_has : Has TAB := by
  refine ⟨?_, fun _ => rfl⟩
  intro f F h
  refine ⟨h, ?_⟩
  show extT f = none
  unfold extT
  have h1 : tabL.lookup 150 = none := by kernel_rfl
  have h2 : tabL.lookup 152 = none := by kernel_rfl
  have h3 : tabL.lookup 190 = none := by kernel_rfl
  have h4 : tabL.lookup 114 = none := by kernel_rfl
  by_cases q1 : f = 150
  · rw [q1, h1] at h; cases h
  by_cases q2 : f = 152
  · rw [q2, h2] at h; cases h
  by_cases q3 : f = 190
  · rw [q3, h3] at h; cases h
  by_cases q4 : f = 114
  · rw [q4, h4] at h; cases h
  simp [q1, q2, q3, q4]
theorem tab_hasX : HasX TAB := ⟨tab_has, rfl, rfl, rfl, rfl⟩
theorem awake11_run : pureCall (upto TAB 60) 27 [] = some (.bool true) := by kernel_rfl
end Go.Rb

namespace Go.Rb
set_option linter.unusedSimpArgs false
set_option linter.unusedVariables false
open Go.Proofs Go.RowKit

theorem tab_ok : TabOk Tryz.prog TAB := by
  refine ⟨?_, ?_⟩
  · intro f F _ h
    obtain ⟨fn, lives, h1, h2⟩ := tabL_ok _ (lookup_mem h)
    exact ⟨fn, lives, h1, h2⟩
  · intro f g h args v hc hv hvc
    have hx : extT f = some g := h
    unfold extT at hx
    by_cases q1 : f = 150
    · subst q1
      simp at hx; subst hx
      exact ext_150 args v hc hv hvc
    by_cases q2 : f = 152
    · subst q2
      simp at hx; subst hx
      exact ext_152 args v hc hv hvc
    by_cases q3 : f = 190
    · subst q3
      simp at hx; subst hx
      exact ext_190 args v hc hv hvc
    by_cases q4 : f = 114
    · subst q4
      simp at hx; subst hx
      exact ext_114 args v hc hv hvc
    simp [q1, q2, q3, q4] at hx
theorem call0 : CallOk Tryz.prog (lim TAB) := lim_sound tab_ok mixed
/-- a law that answers true, whatever it is called on -/
theorem law_walk {f : Nat} {args : List AV} (h : Ret TAB f args (.bool true)) {w : World} {vals : Array Value} (hr : RepL (C0 w) args vals.toList) :
    Calls Tryz.prog f vals w fun e w' => e = .returned (.bool true) ∧ Below w.heap.size w w' := by
  have S : Sim Z1 w noMu noNu .nil := sim_nil fun _ _ => trivial
  refine (pure_ok call0 h 0 S hr).2.mono ?_
  rintro e w' ⟨V', rfl, G, _, hV'⟩
  simp only [Rep] at hV'
  subst hV'
  exact ⟨rfl, G.os, G.tape, G.output, G.size, fun b hb => G.blocks b hb (fun i hi => by simp [noMu] at hi) (fun r u v hr => by simp [noNu] at hr)⟩
end Go.Rb

namespace Go.Rb
set_option linter.unusedVariables false
set_option linter.unusedSimpArgs false

mutual
theorem few_nodes : ∀ (p : Plan) (n : Int), 0 ≤ n → n ≤ 20 → (mEach stFew p n).1 = true → (mEach stFew p n).2 = n + p.nodes ∧ n + p.nodes ≤ 20
  | .mk o c a b l, n, h0, h20, h => by
    simp only [mEach] at h ⊢
    split at h
    · rename_i h1
      rw [if_pos h1]
      have hw : w64 (n + 1) = n + 1 := w64_id (by omega) (by omega)
      simp only [stFew, Bool.and_eq_true, decide_eq_true_eq, hw] at h1 h ⊢
      have := few_nodesL l (n + 1) (by omega) h1.1 h
      simp only [Plan.nodes]
      push_cast
      omega
    · cases h
theorem few_nodesL : ∀ (l : List Plan) (n : Int), 0 ≤ n → n ≤ 20 → (mEachL stFew l n).1 = true → (mEachL stFew l n).2 = n + Plan.nodesL l ∧ n + Plan.nodesL l ≤ 20
  | [], n, h0, h20, h => by simp [mEachL, Plan.nodesL, h20]
  | x :: xs, n, h0, h20, h => by
    simp only [mEachL] at h ⊢
    split at h
    · rename_i h1
      rw [if_pos h1]
      have q := few_nodes x n h0 h20 h1
      have q2 := few_nodesL xs _ (by omega) (by omega) h
      simp only [Plan.nodesL]
      push_cast
      omega
    · cases h
end
mutual
theorem nodes_few : ∀ (p : Plan) (n : Int), 0 ≤ n → p.AllForm → n + p.nodes ≤ 20 → mEach stFew p n = (true, n + p.nodes)
  | .mk o c a b l, n, h0, hf, h => by
    simp only [Plan.nodes] at h
    push_cast at h
    have hw : w64 (n + 1) = n + 1 := w64_id (by omega) (by omega)
    have hl := nodes_fewL l (n + 1) (by omega) hf.2 (by omega)
    have h1 : (stFew (.mk o c a b l) n).1 = true := by
      simp only [stFew, hw, hf.1, Bool.and_true, decide_eq_true_eq]; omega
    simp only [mEach, h1, if_true]
    simp only [stFew, hw]
    rw [hl]
    simp only [Plan.nodes]
    congr 1
    push_cast
    omega
theorem nodes_fewL : ∀ (l : List Plan) (n : Int), 0 ≤ n → Plan.AllFormL l → n + Plan.nodesL l ≤ 20 → mEachL stFew l n = (true, n + Plan.nodesL l)
  | [], n, h0, hf, h => by simp [mEachL, Plan.nodesL]
  | x :: xs, n, h0, hf, h => by
    simp only [Plan.nodesL] at h
    push_cast at h
    have q := nodes_few x n h0 hf.1 (by omega)
    have q2 := nodes_fewL xs (n + x.nodes) (by omega) hf.2 (by omega)
    simp only [mEachL, q, if_true]
    rw [q2]
    simp only [Plan.nodesL]
    congr 1
    push_cast
    omega
end
theorem mFew_iff (p : Plan) : mFew p = true ↔ p.AllForm ∧ p.nodes ≤ 20 := by
  unfold mFew
  constructor
  · intro h
    have := few_nodes p 0 (by decide) (by decide) h
    exact ⟨few_all p 0 h, by omega⟩
  · intro ⟨h1, h2⟩
    rw [nodes_few p 0 (by decide) h1 (by omega)]

theorem mSet_more : ∀ (d : Nat) (t : Tree), (mSet d t).2 = true → mSet (d + 1) t = mSet d t := by
  intro d
  induction d with
  | zero => intro t h; simp [mSet] at h
  | succ d ih =>
    intro t h
    match t, h with
    | .mk o [], h => simp [mSet]
    | .mk o [x], h => simp [mSet]
    | .mk o [x, y], h =>
      by_cases ho : o = 0
      · subst ho
        simp only [mSet, ne_eq, not_true_eq_false, if_false] at h
        simp only [Bool.and_eq_true] at h
        have h1 := ih x h.1.1
        have h2 := ih y h.1.2
        show mSet (d + 1 + 1) (.mk 0 [x, y]) = mSet (d + 1) (.mk 0 [x, y])
        simp only [mSet, ne_eq, not_true_eq_false, if_false]
        rw [h1, h2]
      · simp [mSet, ho]
    | .mk o (x :: y :: z :: l), h => simp [mSet]
theorem setP_of (p : Plan) (d : Nat) (hd : d = 3 ∨ d = 4) (h : (mSet d (mTreeOf p)).2 = true) : setP p = (mSet d (mTreeOf p)).1 := by
  unfold setP mTreeSet
  rcases hd with rfl | rfl
  · have := mSet_more 3 _ h
    rw [this, if_pos h]
  · rw [if_pos h]

/-- a plan of two plans whose tree may be -/
theorem two_tree {o c a b : Int} {x y : Plan} (h : (mSet 4 (mTreeOf (.mk o c a b [x, y]))).2 = true) :
    (mSet 3 (mTreeOf x)).2 = true ∧ (mSet 3 (mTreeOf y)).2 = true ∧ setP x &&& setP y = 0 ∧ setP (.mk o c a b [x, y]) = setP x ||| setP y := by
  have hh := h
  simp only [mTreeOf, mSet, ne_eq, not_true_eq_false, if_false] at h
  simp only [Bool.and_eq_true, beq_iff_eq] at h
  obtain ⟨⟨h1, h2⟩, h3⟩ := h
  have e1 := setP_of x 3 (.inl rfl) h1
  have e2 := setP_of y 3 (.inl rfl) h2
  refine ⟨h1, h2, ?_, ?_⟩
  · rw [e1, e2]; exact h3
  · rw [setP_of _ 4 (.inr rfl) hh, e1, e2]
    simp only [mTreeOf, mSet, ne_eq, not_true_eq_false, if_false]
theorem two_tree' {o c a b : Int} {x y : Plan} (h1 : (mSet 3 (mTreeOf x)).2 = true) (h2 : (mSet 3 (mTreeOf y)).2 = true) (h3 : setP x &&& setP y = 0) : (mSet 4 (mTreeOf (.mk o c a b [x, y]))).2 = true := by
  rw [setP_of x 3 (.inl rfl) h1, setP_of y 3 (.inl rfl) h2] at h3
  simp only [mTreeOf, mSet, ne_eq, not_true_eq_false, if_false]
  simp [h1, h2, h3]
theorem holds_zero {a b s : Nat} (h : a &&& b = 0) (h1 : holds a s = true) (h2 : holds b s = true) : s = 0 := by
  simp only [holds, decide_eq_true_eq] at h1 h2
  have : a &&& b &&& s = s := by rw [Nat.and_assoc, h2, h1]
  rw [h] at this
  simpa using this.symm
theorem mOf_one (c : Int) : mOf [c] ≠ 0 := by
  unfold mOf
  simp only [List.foldl_cons, List.foldl_nil, Nat.zero_or]
  exact Nat.pos_iff_ne_zero.1 (Nat.two_pow_pos _)
theorem mNew_comm (q : Query) (a b : Nat) : mNew q a b = mNew q b a := by
  unfold mNew
  congr 1
  funext t
  unfold newIs
  rw [Nat.or_comm, Bool.and_assoc, Bool.and_comm (!holds a t), ← Bool.and_assoc]
theorem pairAt_swap (q : Query) (a b : Nat) (h : a &&& b = 0) (i : Int) (u w : Int) (hm : (u, w) ∈ mPairAt q a b i) : (w, u) ∈ mPairAt q b a i := by
  unfold mPairAt at hm ⊢
  split at hm
  · rename_i e he
    unfold swaps at hm ⊢
    generalize mExprPair e = z at *
    obtain ⟨x, y, is⟩ := z
    cases is with
    | false => simp at hm
    | true =>
      simp only [if_true, List.find?_cons, List.find?_nil] at hm ⊢
      have dis : ∀ s t : Int, pairIs a b (s, t) = true → pairIs b a (s, t) = false := by
        intro s t hs
        rw [Bool.eq_false_iff]
        intro ht
        simp only [pairIs, Bool.and_eq_true] at hs ht
        exact mOf_one s (holds_zero h hs.1 ht.1)
      have sw : ∀ s t : Int, pairIs b a (t, s) = pairIs a b (s, t) := by
        intro s t
        simp only [pairIs]
        exact Bool.and_comm _ _
      by_cases h1 : pairIs a b (x, y) = true
      · rw [h1] at hm
        simp at hm
        obtain ⟨rfl, rfl⟩ := hm
        rw [dis _ _ h1, sw, h1]
        simp
      · have h1' : pairIs a b (x, y) = false := by simpa using h1
        rw [h1'] at hm
        simp only at hm
        by_cases h2 : pairIs a b (y, x) = true
        · rw [h2] at hm
          simp at hm
          obtain ⟨rfl, rfl⟩ := hm
          rw [sw, h2]
          simp
        · have h2' : pairIs a b (y, x) = false := by simpa using h2
          rw [h2'] at hm
          simp at hm
  · cases hm
theorem pairs_swap (q : Query) (a b : Nat) (h : a &&& b = 0) (u w : Int) (hm : (u, w) ∈ mPairs q a b) : (w, u) ∈ mPairs q b a := by
  unfold mPairs at hm ⊢
  rw [mNew_comm q b a]
  simp only [List.mem_flatMap] at hm ⊢
  obtain ⟨i, h1, h2⟩ := hm
  exact ⟨i, h1, pairAt_swap q a b h i u w h2⟩
end Go.Rb

namespace Go.Rb
set_option linter.unusedVariables false
set_option linter.unusedSimpArgs false

theorem planMay_iff (c : Cat) (q : Query) (p : Plan) : mPlanMay c q p = true ↔
    (p.AllForm ∧ p.nodes ≤ 20) ∧ (mSet 4 (mTreeOf p)).2 = true ∧ mQMay c q = true ∧ setP p / 2 ^ q.occ.length = 0 ∧ mAllP (mFits c q) p = true := by
  unfold mPlanMay
  simp only [Bool.and_eq_true, decide_eq_true_eq]
  constructor
  · rintro ⟨⟨⟨h1, h2⟩, h3⟩, h4⟩
    unfold mTree at h1 h3
    split at h1
    · rename_i hc
      rw [if_pos hc] at h3
      exact ⟨(mFew_iff p).1 hc.1, hc.2, h2, h3, h4⟩
    · cases h1
  · rintro ⟨h1, h2, h3, h4, h5⟩
    have hc : mFew p = true ∧ (mSet 4 (mTreeOf p)).2 = true := ⟨(mFew_iff p).2 h1, h2⟩
    unfold mTree
    rw [if_pos hc]
    exact ⟨⟨⟨rfl, h3⟩, h4⟩, h5⟩
theorem treeSet_may {c : Cat} {q : Query} {p : Plan} (h : mPlanMay c q p = true) : mTreeSet (mTree p).1 = setP p := by
  rw [planMay_iff] at h
  have hc : mFew p = true ∧ (mSet 4 (mTreeOf p)).2 = true := ⟨(mFew_iff p).2 h.1, h.2.1⟩
  unfold mTree
  rw [if_pos hc]
  rfl
theorem twoForm {o c a b : Int} {x y : Plan} : Plan.AllForm (.mk o c a b [x, y]) ↔ mForm (.mk o c a b [x, y]) = true ∧ x.AllForm ∧ y.AllForm := by
  simp [Plan.AllForm, Plan.AllFormL]
theorem twoNodes {o c a b : Int} {x y : Plan} : Plan.nodes (.mk o c a b [x, y]) = 1 + (x.nodes + y.nodes) := by
  simp [Plan.nodes, Plan.nodesL]
theorem twoAll {f : Plan → Bool} {o c a b : Int} {x y : Plan} : mAllP f (.mk o c a b [x, y]) = (f (.mk o c a b [x, y]) && (mAllP f x && mAllP f y)) := by
  simp [mAllP, mAllPL]
/-- a plan of two that may be, whichever -/
theorem may_two {c : Cat} {q : Query} {o c0 a b : Int} {x y : Plan} : mPlanMay c q (.mk o c0 a b [x, y]) = true ↔
    mForm (.mk o c0 a b [x, y]) = true ∧ mFits c q (.mk o c0 a b [x, y]) = true ∧
    (x.AllForm ∧ y.AllForm ∧ 1 + (x.nodes + y.nodes) ≤ 20 ∧ (mSet 3 (mTreeOf x)).2 = true ∧ (mSet 3 (mTreeOf y)).2 = true ∧ setP x &&& setP y = 0 ∧ mQMay c q = true ∧ (setP x ||| setP y) / 2 ^ q.occ.length = 0 ∧ mAllP (mFits c q) x = true ∧ mAllP (mFits c q) y = true) := by
  rw [planMay_iff, twoForm, twoNodes, twoAll]
  simp only [Bool.and_eq_true]
  constructor
  · rintro ⟨⟨⟨h1, h2, h3⟩, h4⟩, h5, h6, h7, h8, h9, h10⟩
    obtain ⟨t1, t2, t3, t4⟩ := two_tree h5
    rw [t4] at h7
    exact ⟨h1, h8, h2, h3, h4, t1, t2, t3, h6, h7, h9, h10⟩
  · rintro ⟨h1, h8, h2, h3, h4, t1, t2, t3, h6, h7, h9, h10⟩
    have h5 := two_tree' (o := o) (c := c0) (a := a) (b := b) t1 t2 t3
    obtain ⟨_, _, _, t4⟩ := two_tree h5
    rw [← t4] at h7
    exact ⟨⟨⟨h1, h2, h3⟩, h4⟩, h5, h6, h7, h8, h9, h10⟩
theorem setP_two {c : Cat} {q : Query} {o c0 a b : Int} {x y : Plan} (h : mPlanMay c q (.mk o c0 a b [x, y]) = true) : setP (.mk o c0 a b [x, y]) = setP x ||| setP y :=
  (two_tree ((planMay_iff c q _).1 h).2.1).2.2.2
theorem fits_two {c : Cat} {q : Query} {o c0 a b : Int} {x y : Plan} (h0 : o ≠ 0) (h1 : o ≠ 1) (h4 : o ≠ 4) : mFits c q (.mk o c0 a b [x, y]) = (decide ((a, b) ∈ mPairs q (setP x) (setP y)) && (decide (o = 2) || (decide (mOrder x = a) && decide (mOrder y = b)))) := by
  unfold mFits
  simp [Plan.op, Plan.l, Plan.p0, Plan.p1, h0, h1, h4]
  rfl
structure Back (c : Cat) (q : Query) (o c0 a b : Int) (x y : Plan) : Prop where
  hash : mPlanMay c q (.mk 2 0 a b [x, y]) = true
  nest : mPlanMay c q (.mk 1 0 0 0 [x, y]) = true
  back : mPlanMay c q (.mk o 0 b a [y, x]) = true
  set : mTreeSet (mTree (.mk o c0 a b [x, y])).1 = mTreeSet (mTree (.mk o 0 b a [y, x])).1
  order : mOrder (.mk 2 0 a b [x, y]) = -1
theorem back_law {c : Cat} {q : Query} {o c0 a b : Int} {x y : Plan} (ho : o = 2 ∨ o = 3) (h : mPlanMay c q (.mk o c0 a b [x, y]) = true) : Back c q o c0 a b x y := by
  have hh := h
  rw [may_two] at h
  obtain ⟨hform, hfit, h2, h3, h4, t1, t2, t3, h6, h7, h9, h10⟩ := h
  rw [fits_two (by omega) (by omega) (by omega)] at hfit
  simp only [Bool.and_eq_true, Bool.or_eq_true, decide_eq_true_eq] at hfit
  have hp := pairs_swap q _ _ t3 _ _ hfit.1
  have f1 : mPlanMay c q (.mk 2 0 a b [x, y]) = true := by
    rw [may_two, fits_two (by decide) (by decide) (by decide)]
    refine ⟨by simp [mForm, Plan.op, Plan.l, mPlans, mOcc, mPair, Plan.occ], ?_, h2, h3, h4, t1, t2, t3, h6, h7, h9, h10⟩
    simp [hfit.1]
  have f2 : mPlanMay c q (.mk 1 0 0 0 [x, y]) = true := by
    rw [may_two]
    refine ⟨by simp [mForm, Plan.op, Plan.l, mPlans, mOcc, mPair, Plan.occ, Plan.p0, Plan.p1], ?_, h2, h3, h4, t1, t2, t3, h6, h7, h9, h10⟩
    simp [mFits, Plan.op]
  have f3 : mPlanMay c q (.mk o 0 b a [y, x]) = true := by
    rw [may_two, fits_two (by omega) (by omega) (by omega)]
    refine ⟨?_, ?_, h3, h2, by omega, t2, t1, by rw [Nat.and_comm]; exact t3, h6, by rw [Nat.or_comm]; exact h7, h10, h9⟩
    · rcases ho with rfl | rfl <;> simp [mForm, Plan.op, Plan.l, mPlans, mOcc, mPair, Plan.occ]
    · simp only [Bool.and_eq_true, Bool.or_eq_true, decide_eq_true_eq]
      exact ⟨hp, hfit.2.imp id fun h => ⟨h.2, h.1⟩⟩
  refine ⟨f1, f2, f3, ?_, ?_⟩
  · rw [treeSet_may hh, treeSet_may f3, setP_two hh, setP_two f3, Nat.or_comm]
  · unfold mOrder
    rw [if_pos ((mFew_iff _).2 ((planMay_iff c q _).1 f1).1)]
    simp [mLeft, Plan.op]
end Go.Rb

namespace Go.Rb
set_option linter.unusedVariables false
set_option linter.unusedSimpArgs false
set_option maxRecDepth 8000

theorem awake11 : Ret TAB 27 [] (.bool true) := pureCall_mono (upto_lim 60) awake11_run
variable {T : Tab}
theorem wpS_seq2 {fl : Nat} {a b k : SCode} {Q : Q3} {P : Env → St → Prop} {e : Env} {σ : St} (h : wpS T fl (.seq a b) (only P) e σ) (h2 : ∀ e σ, P e σ → wpS T fl k Q e σ) : wpS T fl (.seq a (.seq b k)) Q e σ := by
  have h' : wpS T fl a (thenQ (wpS T fl b (only P)) (only P)) e σ := h
  show wpS T fl a (thenQ (wpS T fl (.seq b k) Q) Q) e σ
  refine wpS_mono ?_ h'
  intro x e σ q
  cases x with
  | normal => exact wpS_cut P q h2
  | exit _ => exact q.elim
  | ret => exact q.elim
theorem wpS_seq3 {fl : Nat} {a b c k : SCode} {Q : Q3} {P : Env → St → Prop} {e : Env} {σ : St} (h : wpS T fl (.seq a (.seq b c)) (only P) e σ) (h2 : ∀ e σ, P e σ → wpS T fl k Q e σ) : wpS T fl (.seq a (.seq b (.seq c k))) Q e σ := by
  have h' : wpS T fl a (thenQ (wpS T fl (.seq b c) (only P)) (only P)) e σ := h
  show wpS T fl a (thenQ (wpS T fl (.seq b (.seq c k)) Q) Q) e σ
  refine wpS_mono ?_ h'
  intro x e σ q
  cases x with
  | normal => exact wpS_seq2 q h2
  | exit _ => exact q.elim
  | ret => exact q.elim
def bk (n : Nat) : SCode := match n, F5.body with
  | 0, .seq a _ => a
  | 1, .seq _ (.seq a _) => a
  | 2, .seq _ (.seq _ (.seq a _)) => a
  | 3, .seq _ (.seq _ (.seq _ (.seq a _))) => a
  | 4, .seq _ (.seq _ (.seq _ (.seq _ (.seq a _)))) => a
  | 5, .seq _ (.seq _ (.seq _ (.seq _ (.seq _ (.seq a _))))) => a
  | 6, .seq _ (.seq _ (.seq _ (.seq _ (.seq _ (.seq _ (.seq a _)))))) => a
  | 7, .seq _ (.seq _ (.seq _ (.seq _ (.seq _ (.seq _ (.seq _ (.seq a _))))))) => a
  | 8, .seq _ (.seq _ (.seq _ (.seq _ (.seq _ (.seq _ (.seq _ (.seq _ (.seq a _)))))))) => a
  | 9, .seq _ (.seq _ (.seq _ (.seq _ (.seq _ (.seq _ (.seq _ (.seq _ (.seq _ a)))))))) => a
  | _, _ => .skip
theorem bk_body : F5.body = .seq (bk 0) (.seq (bk 1) (.seq (bk 2) (.seq (bk 3) (.seq (bk 4) (.seq (bk 5) (.seq (bk 6) (.seq (bk 7) (.seq (bk 8) (bk 9))))))))) := rfl
theorem bk_res : F5.res = [.tmp 6] := rfl
/-- may the guard let it in? -/
def bkIn (c : Cat) (q : Query) (p : Plan) (b : Bool) : Bool := b && mPlanMay c q p && (decide (p.op = 3) || decide (p.op = 2))
theorem bk_3 (hT : HasX T) (c : Cat) (hc : c.length < 9223372036854775808) (q : Query) (hq : q.Fit) (p : Plan) (hf : p.Fit) (b : Bool) (e : Env) (g3 : e.get 3 = .box 0 0) (g4 : e.get 4 = .box 1 0) (g5 : e.get 5 = .box 2 0) (g7 : e.get 7 = .bool true) (g8 : e.get 8 = .bool b) (Q : Q3)
    (hY : bkIn c q p b = true → ∀ e', e'.get 3 = .box 0 0 → e'.get 4 = .box 1 0 → e'.get 5 = .box 2 0 → Q .normal e' ⟨[encCv c, encQv q, encPv p], []⟩)
    (hN : bkIn c q p b = false → ∀ e' σ', e'.get 6 = .bool true → Q .ret e' σ') : wpS T 0 (bk 3) Q e ⟨[encCv c, encQv q, encPv p], []⟩ := by
  have hT' := hT.toHas
  have w := planMay_ok hT c hc q hq p hf
  unfold Ret at w
  have e1 : encC c = encCv c := rfl
  rw [e1, encQ_v, encP_eq] at w
  unfold bkIn at hY hN
  cases b
  · simp [bk, F5, g3, g4, g5, g7, g8]
    exact hN (by simp) _ _ (by simp)
  · cases hm : mPlanMay c q p <;> rw [hm] at w hY hN
    · simp [bk, F5, g3, g4, g5, g7, g8, hT', impL, w]
      exact hN (by simp) _ _ (by simp)
    · by_cases h3 : p.op = 3
      · rw [h3] at w
        simp [bk, F5, g3, g4, g5, g7, g8, hT', impL, w, h3]
        refine hY (by simp [h3]) _ ?_ ?_ ?_ <;> simp [g3, g4, g5]
      · by_cases h2 : p.op = 2
        · rw [h2] at w
          simp [bk, F5, g3, g4, g5, g7, g8, hT', impL, w, h2]
          refine hY (by simp [h2]) _ ?_ ?_ ?_ <;> simp [g3, g4, g5]
        · simp [bk, F5, g3, g4, g5, g7, g8, hT', impL, w, h2, h3]
          exact hN (by simp [h2, h3]) _ _ (by simp)

abbrev backV (o a b : Int) (x y : Plan) : AV := .agg [mkI o, mkI 0, mkI b, mkI a, .sl .full [encP y, encP x]]
theorem bk_456 (c q : AV) (o c0 a b : Int) (x y : Plan) (e : Env) (g3 : e.get 3 = .box 0 0) (g4 : e.get 4 = .box 1 0) (g5 : e.get 5 = .box 2 0) :
    wpS T 0 (.seq (bk 4) (.seq (bk 5) (bk 6))) (only fun e σ => e.get 3 = .box 0 0 ∧ e.get 4 = .box 1 0 ∧ e.get 5 = .box 2 0 ∧ e.get 9 = .box 3 0 ∧ e.get 10 = .box 4 0 ∧ e.get 11 = .box 5 0 ∧ σ = ⟨[c, q, encPv (.mk o c0 a b [x, y]), encPv (.mk 2 0 a b [x, y]), encPv (.mk 1 0 0 0 [x, y]), backV o a b x y], []⟩) e ⟨[c, q, encPv (.mk o c0 a b [x, y])], []⟩ := by
  refine wpS_cut (fun e σ => e.get 3 = .box 0 0 ∧ e.get 4 = .box 1 0 ∧ e.get 5 = .box 2 0 ∧ e.get 9 = .box 3 0 ∧ σ = ⟨[c, q, encPv (.mk o c0 a b [x, y]), encPv (.mk 2 0 a b [x, y])], []⟩) ?_ ?_
  · simp [bk, F5, g3, g4, g5, Plan.op, Plan.occ, Plan.p0, Plan.p1, Plan.l]
  clear g3 g4 g5 e
  rintro e σ ⟨g3, g4, g5, g9, rfl⟩
  refine wpS_cut (fun e σ => e.get 3 = .box 0 0 ∧ e.get 4 = .box 1 0 ∧ e.get 5 = .box 2 0 ∧ e.get 9 = .box 3 0 ∧ e.get 10 = .box 4 0 ∧ σ = ⟨[c, q, encPv (.mk o c0 a b [x, y]), encPv (.mk 2 0 a b [x, y]), encPv (.mk 1 0 0 0 [x, y])], []⟩) ?_ ?_
  · simp [bk, F5, g3, g4, g5, g9, Plan.op, Plan.occ, Plan.p0, Plan.p1, Plan.l]
  clear g3 g4 g5 g9 e
  rintro e σ ⟨g3, g4, g5, g9, g10, rfl⟩
  simp [bk, F5, g3, g4, g5, g9, g10, Plan.op, Plan.occ, Plan.p0, Plan.p1, Plan.l, encPL, encP_eq]
theorem back_own (o a b : Int) (x y : Plan) {f : Nat} {v : AV} (h : Ret T f [encP (.mk o 0 b a [y, x])] v) : pureCall (lim T) f [backV o a b x y] = some v := by
  refine pure_own h ?_ ?_
  · simp [encP, encPL]
  · simp [encP, encPL]
theorem back_own3 (c q : AV) (o a b : Int) (x y : Plan) {f : Nat} {v : AV} (h : Ret T f [c, q, encP (.mk o 0 b a [y, x])] v) : pureCall (lim T) f [c, q, backV o a b x y] = some v := by
  refine pure_own h ?_ ?_
  · simp [encP, encPL]
  · simp [encP, encPL]
theorem bk_78 (hT : Has T) (c q h n : AV) (o c0 a b : Int) (x y : Plan) (hp : (Plan.mk o c0 a b [x, y]).Fit) (hb : (Plan.mk o 0 b a [y, x]).Fit) (e : Env) (g3 : e.get 3 = .box 0 0) (g4 : e.get 4 = .box 1 0) (g5 : e.get 5 = .box 2 0) (g9 : e.get 9 = .box 3 0) (g10 : e.get 10 = .box 4 0) (g11 : e.get 11 = .box 5 0) :
    wpS T 0 (.seq (bk 7) (bk 8)) (only fun e σ => e.get 3 = .box 0 0 ∧ e.get 4 = .box 1 0 ∧ e.get 9 = .box 3 0 ∧ e.get 10 = .box 4 0 ∧ e.get 11 = .box 5 0 ∧ e.get 12 = .box 6 0 ∧ e.get 14 = .box 7 0 ∧ σ = ⟨[c, q, encPv (.mk o c0 a b [x, y]), h, n, backV o a b x y, encT (mTree (.mk o c0 a b [x, y])).1, encT (mTree (.mk o 0 b a [y, x])).1], []⟩) e ⟨[c, q, encPv (.mk o c0 a b [x, y]), h, n, backV o a b x y], []⟩ := by
  have w1 := tree_ok hT _ hp
  have w2 := back_own o a b x y (tree_ok hT _ hb)
  unfold Ret at w1
  rw [encP_eq, encT_eq] at w1
  rw [encT_eq] at w2
  refine wpS_cut (fun e σ => e.get 3 = .box 0 0 ∧ e.get 4 = .box 1 0 ∧ e.get 9 = .box 3 0 ∧ e.get 10 = .box 4 0 ∧ e.get 11 = .box 5 0 ∧ e.get 12 = .box 6 0 ∧ σ = ⟨[c, q, encPv (.mk o c0 a b [x, y]), h, n, backV o a b x y, encT (mTree (.mk o c0 a b [x, y])).1], []⟩) ?_ ?_
  · simp [bk, F5, g3, g4, g5, g9, g10, g11, hT, impL, w1, encT_eq]
  clear g3 g4 g5 g9 g10 g11 w1 e
  rintro e σ ⟨g3, g4, g9, g10, g11, g12, rfl⟩
  simp [bk, F5, g3, g4, g9, g10, g11, g12, hT, impL, w2, encT_eq]
theorem bk_9 (hT : HasX T) (c : Cat) (hc : c.length < 9223372036854775808) (q : Query) (hq : q.Fit) (o c0 a b : Int) (x y : Plan) (hp : (Plan.mk o c0 a b [x, y]).Fit) (hb : (Plan.mk o 0 b a [y, x]).Fit) (hh : (Plan.mk 2 0 a b [x, y]).Fit) (hn : (Plan.mk 1 0 0 0 [x, y]).Fit)
    (L : Back c q o c0 a b x y) (e : Env) (Q : Q3) (g3 : e.get 3 = .box 0 0) (g4 : e.get 4 = .box 1 0) (g9 : e.get 9 = .box 3 0) (g10 : e.get 10 = .box 4 0) (g11 : e.get 11 = .box 5 0) (g12 : e.get 12 = .box 6 0) (g14 : e.get 14 = .box 7 0)
    (hQ : ∀ e' σ', e'.get 6 = .bool true → Q .ret e' σ') :
    wpS T 0 (bk 9) Q e ⟨[encCv c, encQv q, encPv (.mk o c0 a b [x, y]), encPv (.mk 2 0 a b [x, y]), encPv (.mk 1 0 0 0 [x, y]), backV o a b x y, encT (mTree (.mk o c0 a b [x, y])).1, encT (mTree (.mk o 0 b a [y, x])).1], []⟩ := by
  have hT' := hT.toHas
  have w1 := planMay_ok hT c hc q hq _ hh
  have w2 := planMay_ok hT c hc q hq _ hn
  have w3 := back_own3 _ _ o a b x y (planMay_ok hT c hc q hq _ hb)
  have w4 := treeSet_ok hT' (mTree (.mk o c0 a b [x, y])).1
  have w5 := treeSet_ok hT' (mTree (.mk o 0 b a [y, x])).1
  have w6 := order_ok hT' _ hh
  unfold Ret at w1 w2 w4 w5 w6
  rw [L.hash] at w1
  rw [L.nest] at w2
  rw [L.back] at w3
  rw [L.order] at w6
  rw [L.set] at w4
  have e1 : encC c = encCv c := rfl
  rw [e1, encQ_v] at w1 w2 w3
  rw [encP_eq] at w1 w2 w6
  rw [encT_eq] at w4 w5
  simp [bk, F5, g3, g4, g9, g10, g11, g12, g14, hT', impL, w1, w2, w3, w4, w5, w6, encT_eq]
  exact hQ _ _ (by simp)
theorem fit_two {o c a b : Int} {x y : Plan} : (Plan.mk o c a b [x, y]).Fit ↔ x.Fit ∧ y.Fit := by
  simp [Plan.Fit, Plan.FitL]
theorem bk_end {σ' : St} {e' : Env} (h6 : e'.get 6 = .bool true) : endQ 0 F5.res (fun u _ => u.closed = true ∧ u.strip = .bool true) .ret e' σ' := by
  rw [bk_res]; simp [h6]
theorem planBack_ok (c : Cat) (hc : c.length < 9223372036854775808) (q : Query) (hq : q.Fit) (p : Plan) (hf : p.Fit) : Ret TAB 5 [encC c, encQ q, encP p] (.bool true) := by
  have hT := tab_hasX
  have hT' := hT.toHas
  have e1 : encC c = encCv c := rfl
  obtain ⟨b, hb, _⟩ := small_ok hT' c q hq p hf
  have ha := awake11
  unfold Ret at hb ha
  rw [e1, encQ_v, encP_eq] at hb
  refine ret_of (by simp) (callW hT' L5 rfl ?_)
  rw [AV.stripL, AV.stripL, AV.stripL, encP_strip, encC_strip, encQ_strip, e1, encQ_v, encP_eq, bk_body]
  refine wpS_cut (fun e σ => e.get 3 = .box 0 0 ∧ e.get 4 = .box 1 0 ∧ e.get 5 = .box 2 0 ∧ σ = ⟨[encCv c, encQv q, encPv p], []⟩) (by simp [bk, F5]) ?_
  rintro e σ ⟨g3, g4, g5, rfl⟩
  refine wpS_cut (fun e σ => e.get 3 = .box 0 0 ∧ e.get 4 = .box 1 0 ∧ e.get 5 = .box 2 0 ∧ e.get 7 = .bool true ∧ σ = ⟨[encCv c, encQv q, encPv p], []⟩) (by simp [bk, F5, g3, g4, g5, hT', impL, ha]) ?_
  clear g3 g4 g5 e
  rintro e σ ⟨g3, g4, g5, g7, rfl⟩
  refine wpS_cut (fun e σ => e.get 3 = .box 0 0 ∧ e.get 4 = .box 1 0 ∧ e.get 5 = .box 2 0 ∧ e.get 7 = .bool true ∧ e.get 8 = .bool b ∧ σ = ⟨[encCv c, encQv q, encPv p], []⟩) (by simp [bk, F5, g3, g4, g5, g7, hT', impL, hb]) ?_
  clear g3 g4 g5 g7 e
  rintro e σ ⟨g3, g4, g5, g7, g8, rfl⟩
  show wpS TAB 0 (bk 3) (thenQ (wpS TAB 0 (.seq (bk 4) (.seq (bk 5) (.seq (bk 6) (.seq (bk 7) (.seq (bk 8) (bk 9)))))) _) _) e _
  refine bk_3 hT c hc q hq p hf b e g3 g4 g5 g7 g8 _ ?_ ?_
  · intro hin e' q3 q4 q5
    clear g3 g4 g5 g7 g8 e
    simp only [bkIn, Bool.and_eq_true, Bool.or_eq_true, decide_eq_true_eq] at hin
    obtain ⟨⟨_, hm⟩, ho⟩ := hin
    have hform := ((planMay_iff c q p).1 hm).1.1
    obtain ⟨x, y, hl⟩ := form_two p (allForm_form p hform) (by omega) (by omega)
    obtain ⟨o, c0, a, b', l⟩ := p
    simp only [Plan.l] at hl
    subst hl
    replace ho : o = 2 ∨ o = 3 := ho.symm
    have L := back_law ho hm
    have hxy := fit_two.1 hf
    show wpS TAB 0 (.seq (bk 4) (.seq (bk 5) (.seq (bk 6) (.seq (bk 7) (.seq (bk 8) (bk 9)))))) _ e' _
    have k1 := bk_456 (T := TAB) (encCv c) (encQv q) o c0 a b' x y e' q3 q4 q5
    refine wpS_seq3 k1 ?_
    rintro e σ ⟨g3, g4, g5, g9, g10, g11, rfl⟩
    have k2 := bk_78 hT' (encCv c) (encQv q) (encPv (.mk 2 0 a b' [x, y])) (encPv (.mk 1 0 0 0 [x, y])) o c0 a b' x y hf (fit_two.2 ⟨hxy.2, hxy.1⟩) e g3 g4 g5 g9 g10 g11
    refine wpS_seq2 k2 ?_
    clear k2 g3 g4 g5 g9 g10 g11 e
    rintro e σ ⟨g3, g4, g9, g10, g11, g12, g14, rfl⟩
    exact bk_9 hT c hc q hq o c0 a b' x y hf (fit_two.2 ⟨hxy.2, hxy.1⟩) (fit_two.2 hxy) (fit_two.2 hxy) L e _ g3 g4 g9 g10 g11 g12 g14 (fun e' σ' h => bk_end h)
  · intro _ e' σ' h6
    exact bk_end h6
end Go.Rb

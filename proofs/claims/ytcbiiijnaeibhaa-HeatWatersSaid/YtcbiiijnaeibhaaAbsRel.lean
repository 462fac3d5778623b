/-
  What abstract cells, values and states mean: relations to the model's values and worlds; how they pass from world to world.
-/
import Derived.Test.YtcbiiijnaeibhaaAbsDefs
import Derived.Laws.Sem
set_option linter.unusedVariables false
set_option linter.unusedSimpArgs false
namespace Go.Abs

/-- the value of one cell -/
def One (v : Value) : Prop := v.cells = #[v] ∧ v.oneCell' = true

/-- A value reads as plain data; what it needs lies in blocks of S. -/
inductive RD (w : World) (S : Nat → Prop) : D → Value → Prop
  | undef (v) (h : One v) : RD w S .undef v
  | int (k n) : RD w S (.int k n) (.int k n)
  | bool (b) : RD w S (.bool b) (.bool b)
  | str (s) : RD w S (.str s) (.string s)
  | sl0 (s g ao cap) : RD w S (.sl s 0 g) (.slice ao 0 cap)
  | sl (s n g) (B o cap : Nat) (f : Nat → Nat → Value) (hn : 0 < n) (hcap : n ≤ cap) (hB : B < w.heap.size) (hS : S B)
      (hl : ∀ i, i < n → (g i).length = s)
      (hc : ∀ i j, i < n → j < s → w.cell? ⟨B, o + (i * s + j), none⟩ = some (f i j))
      (hr : ∀ i j, i < n → j < s → RD w S ((g i).getD j .undef) (f i j)) : RD w S (.sl s n g) (.slice (some ⟨B, o, none⟩) n cap)

/-- Blocks of S that were there read as before, and are of S'. -/
structure Ext (w w' : World) (S S' : Nat → Prop) : Prop where
  size : w.heap.size ≤ w'.heap.size
  same : ∀ B, B < w.heap.size → S B → w'.heap[B]? = w.heap[B]?
  sub : ∀ B, B < w.heap.size → S B → S' B

theorem cell_of_heap {w w' : World} {B : Nat} (h : w'.heap[B]? = w.heap[B]?) (o : Nat) : w'.cell? ⟨B, o, none⟩ = w.cell? ⟨B, o, none⟩ := by
  simp [World.cell?, h]

theorem RD.ext {w w' : World} {S S' : Nat → Prop} (h : Ext w w' S S') {d : D} {v : Value} (hd : RD w S d v) : RD w' S' d v := by
  induction hd with
  | undef v h => exact .undef v h
  | int k n => exact .int k n
  | bool b => exact .bool b
  | str s => exact .str s
  | sl0 s g ao cap => exact .sl0 s g ao cap
  | sl s n g B o cap f hn hcap hB hS hl hc hr ih =>
    refine .sl s n g B o cap f hn hcap (Nat.lt_of_lt_of_le hB h.size) (h.sub B hB hS) hl (fun i j hi hj => ?_) ih
    rw [cell_of_heap (h.same B hB hS)]; exact hc i j hi hj

structure Cx where
  S0 : Nat → Prop
  w0 : World
  nt : Nat
  /-- what the slots of suspended frames hold -/
  sus : List (AV × Value) := []
structure Mp where
  own : Nat → Option Nat
  box : Nat → Option Nat

def Sof (cx : Cx) (m : Mp) (B : Nat) : Prop :=
  (cx.S0 B ∨ cx.w0.heap.size ≤ B) ∧ (∀ k, m.own k ≠ some B) ∧ (∀ b, m.box b ≠ some B)

/-- Cells at an address read as a list of data. -/
def Ptr (w : World) (S : Nat → Prop) (l : List D) (off : Nat) (v : Value) : Prop :=
  ∃ B o, v = .pointer (some ⟨B, o + off, none⟩) ∧ B < w.heap.size ∧ S B ∧
    ∀ j, j < l.length → ∃ u, w.cell? ⟨B, o + j, none⟩ = some u ∧ RD w S (l.getD j .undef) u

theorem Ptr.ext {w w' : World} {S S' : Nat → Prop} (h : Ext w w' S S') {l : List D} {off : Nat} {v : Value} (hp : Ptr w S l off v) : Ptr w' S' l off v := by
  obtain ⟨B, o, rfl, hB, hS, hc⟩ := hp
  refine ⟨B, o, rfl, Nat.lt_of_lt_of_le hB h.size, h.sub B hB hS, fun j hj => ?_⟩
  obtain ⟨u, hu, hr⟩ := hc j hj
  exact ⟨u, by rw [cell_of_heap (h.same B hB hS)]; exact hu, hr.ext h⟩

/-- The block of an owned slice. -/
def Row (w : World) (S : Nat → Prop) (B : Nat) (x : D) : Prop :=
  ∃ c T, w.heap[B]? = some (.cells c T (0, 0)) ∧ x.isSl = true ∧
    ∀ i, i < x.len → (x.nth i).length = x.stride ∧ ∀ j, j < x.stride → ∃ u, c[i * x.stride + j]? = some u ∧ RD w S ((x.nth i).getD j .undef) u

theorem Row.ext {w w' : World} {S S' : Nat → Prop} (h : Ext w w' S S') {B : Nat} (hB : w'.heap[B]? = w.heap[B]?) {x : D} (hr : Row w S B x) : Row w' S' B x := by
  obtain ⟨c, T, hc, hs, hx⟩ := hr
  refine ⟨c, T, by rw [hB]; exact hc, hs, fun i hi => ⟨(hx i hi).1, fun j hj => ?_⟩⟩
  obtain ⟨u, hu, hd⟩ := (hx i hi).2 j hj
  exact ⟨u, hu, hd.ext h⟩

/-- The slice value of an owned label. -/
def Hdl (w : World) (own : Option Nat) (x : D) (v : Value) : Prop :=
  match own with
  | none => v = .slice none 0 0 ∧ x.len = 0
  | some B => ∃ cap c T, v = .slice (some ⟨B, 0, none⟩) x.len cap ∧ w.heap[B]? = some (.cells c T (0, 0)) ∧ c.size = cap * x.stride ∧ x.len ≤ cap

def RCap (cx : Cx) (m : Mp) (w : World) : Cap → Value → Prop
  | .ref b off, v => ∃ B, m.box b = some B ∧ v = .pointer (some ⟨B, off, none⟩)
  | .sptr l off, v => Ptr w (Sof cx m) l off v

/-- A value reads as an abstract cell. -/
def RCl (cx : Cx) (m : Mp) (w : World) (lb : Nat → Option Lab) : AC → Value → Prop
  | .undef, _ => True
  | .d x, v => RD w (Sof cx m) x v
  | .nils, v => v = .slice none 0 0
  | .own k, v =>
    match lb k with
    | none => False
    | some .dead => One v
    | some (.shared x) => x.isSl = true ∧ RD w (Sof cx m) x v
    | some (.owned x) => Hdl w (m.own k) x v
  | .ref b off, v => ∃ B, m.box b = some B ∧ v = .pointer (some ⟨B, off, none⟩)
  | .optr k i off, v =>
    match lb k with
    | none => False
    | some .dead => One v
    | some (.shared x) => i < x.len ∧ (x.nth i).length = x.stride ∧ Ptr w (Sof cx m) (x.nth i) off v
    | some (.owned x) => i < x.len ∧ ∃ B, m.own k = some B ∧ v = .pointer (some ⟨B, i * x.stride + off, none⟩)
  | .sptr l off, v => Ptr w (Sof cx m) l off v
  | .clo f caps, v => ∃ vs, v = .func (.func f) #[] vs ∧ vs.size = caps.length ∧ ∀ i, i < caps.length → ∃ u, vs[i]? = some u ∧ RCap cx m w (caps.getD i (.ref 0 0)) u

def RU (cx : Cx) (m : Mp) (w : World) (lb : Nat → Option Lab) : AU → Value → Prop
  | .c x, v => RCl cx m w lb x v
  | .agg l, v => ∃ vs, v = .agg vs ∧ vs.size = l.length ∧ ∀ i, i < l.length → ∃ u, vs[i]? = some u ∧ RCl cx m w lb (l.getD i .undef) u

def RA (cx : Cx) (m : Mp) (w : World) (lb : Nat → Option Lab) : AV → Value → Prop
  | .u x, v => RU cx m w lb x v
  | .tup l, v => ∃ vs, v = .tuple vs ∧ vs.size = l.length ∧ ∀ i, i < l.length → ∃ u, vs[i]? = some u ∧ RU cx m w lb (l.getD i (.c .undef)) u
  | .cnd b x, v => (b = true → RU cx m w lb x v) ∧ (b = false → v = undef)

/-- nothing of the world's surroundings has turned -/
def SameEnv (w w' : World) : Prop := w'.os = w.os ∧ w'.tape = w.tape ∧ w'.output = w.output
theorem SameEnv.refl (w : World) : SameEnv w w := ⟨rfl, rfl, rfl⟩
theorem SameEnv.trans {a b c : World} (h : SameEnv a b) (k : SameEnv b c) : SameEnv a c := ⟨k.1.trans h.1, k.2.1.trans h.2.1, k.2.2.trans h.2.2⟩

structure Rel (cx : Cx) (st : St) (m : Mp) (a : Act) (w : World) : Prop where
  defers : a.defers = []
  nt : a.tmps.size = cx.nt
  env : SameEnv cx.w0 w
  size : cx.w0.heap.size ≤ w.heap.size
  old : ∀ B, B < cx.w0.heap.size → w.heap[B]? = cx.w0.heap[B]?
  s0 : ∀ B, cx.S0 B → B < cx.w0.heap.size
  slots : ∀ t v, lk st.sl t = some v → t < cx.nt ∧ RA cx m w (lk st.lb) v (a.tmps.getD t undef)
  sus : ∀ p, p ∈ cx.sus → RA cx m w (lk st.lb) p.1 p.2
  boxes : ∀ b cs, lk st.bx b = some cs → ∃ B c T, m.box b = some B ∧ w.heap[B]? = some (.cells c T (0, 0)) ∧ c.size = cs.length ∧
    ∀ j, j < cs.length → ∃ u, c[j]? = some u ∧ RCl cx m w (lk st.lb) (cs.getD j .undef) u
  nobox : ∀ b, lk st.bx b = none → m.box b = none
  owned : ∀ k x, lk st.lb k = some (.owned x) → x.isSl = true ∧ ∀ B, m.own k = some B → Row w (Sof cx m) B x
  noown : ∀ k, (∀ x, lk st.lb k ≠ some (.owned x)) → m.own k = none
  ownb : ∀ k B, m.own k = some B → cx.w0.heap.size ≤ B ∧ B < w.heap.size
  boxb : ∀ b B, m.box b = some B → cx.w0.heap.size ≤ B ∧ B < w.heap.size
  injo : ∀ k k' B, m.own k = some B → m.own k' = some B → k = k'
  injb : ∀ b b' B, m.box b = some B → m.box b' = some B → b = b'
  dis : ∀ k b B, m.own k = some B → m.box b ≠ some B

end Go.Abs
